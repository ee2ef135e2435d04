-- Told by a program of this session (uprint.py, ulay.py).
import Derived.Test.YtaihfkjfbjcmhabDoorQ0
import Derived.Test.YtaihfkjfbjcmhabDoorReg
import Derived.Test.YtaihfkjfbjcmhabDoorQimplin
import Derived.Test.YtaihfkjfbjcmhabDoorQspecl20Cell
import Derived.Test.YtaihfkjfbjcmhabDoorQspecTblOk
import Derived.Test.YtaihfkjfbjcmhabDoorQspecl20AnyTable
import Derived.Test.YtaihfkjfbjcmhabDoorQimplTxtOk
import Derived.Test.YtaihfkjfbjcmhabDoorQimplCellOk
import Derived.Test.YtaihfkjfbjcmhabDoorQimplTblOk
import Derived.Test.YtaihfkjfbjcmhabDoorQspecl2Copy
import Derived.Deep.AppendSrc
import Derived.Laws.NewBlocks
namespace Go.Proofs.YtaihfkjfbjcmhabDoor.Q
open Go.RowKit Go.Proofs.YtaihfkjfbjcmhabDoorW.PrintWords Go.Proofs.YtaihfkjfbjcmhabDoorW.PrintLast Go.Proofs.YtaihfkjfbjcmhabDoorW.PrintMore Go.Proofs.YtaihfkjfbjcmhabDoor.Reg Go.Proofs.YtaihfkjfbjcmhabDoor.Box
attribute [local go_sem] max2_int min2_int max_two min_two max_three min_three max_four min_four
set_option linter.unusedVariables false
set_option linter.unusedSimpArgs false

/-! ### laws_pwRow: function 25 (by hand) -/
def laws_pwRow.tup (x : S30) : List UInt8 × List Int := (x.f0.data.toList, [x.f1, x.f2, x.f3.f0, x.f3.f1, x.f4.f0, x.f4.f1, x.f5.f0, x.f5.f1, x.f6.f0, x.f6.f1])
/-- Two rows that are the same; no answer else. -/
def laws_pwRow.f (k : Nat) (l0_0 : List S30) (a0_1 : Bool) (l1_0 : List S30) (a1_1 : Bool) : Option Bool := if l0_0.map laws_pwRow.tup = l1_0.map laws_pwRow.tup ∧ a0_1 = a1_1 then some true else none
theorem laws_pwRow.mono : ∀ l0_0 a0_1 l1_0 a1_1 k, LeO (laws_pwRow.f k l0_0 a0_1 l1_0 a1_1) (laws_pwRow.f (k + 1) l0_0 a0_1 l1_0 a1_1) := fun _ _ _ _ _ => LeO.refl _
theorem map_same {α β : Type} {f : α → β} (hf : ∀ x y, f x = f y → x = y) {l m : List α} (h : l.map f = m.map f) : l = m := by
  induction l generalizing m with
  | nil => cases m with
    | nil => rfl
    | cons y ys => cases h
  | cons x xs ih => cases m with
    | nil => cases h
    | cons y ys =>
      simp only [List.map_cons, List.cons.injEq] at h
      rw [ih h.2, hf x y h.1]
theorem laws_pwRow.inj (x y : S30) (h : laws_pwRow.tup x = laws_pwRow.tup y) : x = y := by
  obtain ⟨⟨⟨x0⟩⟩, x1, x2, ⟨x3, x4⟩, ⟨x5, x6⟩, ⟨x7, x8⟩, ⟨x9, x10⟩⟩ := x
  obtain ⟨⟨⟨y0⟩⟩, y1, y2, ⟨y3, y4⟩, ⟨y5, y6⟩, ⟨y7, y8⟩, ⟨y9, y10⟩⟩ := y
  unfold laws_pwRow.tup at h
  simp only [Prod.mk.injEq, List.cons.injEq, and_true] at h
  obtain ⟨h0, rfl, rfl, rfl, rfl, rfl, rfl, rfl, rfl, rfl, rfl⟩ := h
  subst h0
  rfl
set_option maxHeartbeats 4000000 in
set_option maxRecDepth 100000 in
theorem laws_pwRow.calls (k : Nat) (A0_0 : Option Addr) (c0_0 : Nat) (l0_0 : List (S30)) (a0_1 : Bool) (A1_0 : Option Addr) (c1_0 : Nat) (l1_0 : List (S30)) (a1_1 : Bool) (r : Bool) (w : World) (hr0_0 : Kd.C k30 w A0_0 l0_0.length l0_0) (hc0_0 : l0_0.length ≤ c0_0) (hr1_0 : Kd.C k30 w A1_0 l1_0.length l1_0) (hc1_0 : l1_0.length ≤ c1_0) (h : laws_pwRow.f k l0_0 a0_1 l1_0 a1_1 = some r) :
    Calls Tryd.prog 25 #[.agg #[.slice A0_0 l0_0.length c0_0, .bool a0_1], .agg #[.slice A1_0 l1_0.length c1_0, .bool a1_1]] w fun e w' => e = .returned (.bool r) ∧ Below w.heap.size w w' := by
  unfold laws_pwRow.f at h
  split at h
  rotate_left
  · cases h
  rename_i hs
  obtain ⟨hs, rfl⟩ := hs
  obtain rfl := map_same laws_pwRow.inj hs
  obtain rfl := Option.some.inj h
  have HR0 := Aside0.mk hr0_0
  have HR1 := Aside0.mk hr1_0
  have hbig := hr0_0.2.1
  clear hr0_0 hr1_0 hc0_0 hc1_0 h hs
  have hu1 := Tryd.underlying42
  have hu2 := Tryd.underlying30
  have hu3 := Tryd.underlying28
  go_enter Tryd.func25, Tryd.ntmps25
  go_upto_region 4 with (fail)
  refine wp_letter (fun W0 => W0.heap[w.heap.size]? = some (.cells #[.slice A0_0 l0_0.length c0_0, .bool a0_1] 42 (0, 0)) ∧ W0.heap[w.heap.size + 1]? = some (.cells #[.slice A1_0 l0_0.length c1_0, .bool a0_1] 42 (0, 0)) ∧ Below w.heap.size w W0) ⟨blk_alloc (blk_new w _) _, by have := blk_new2 w (.cells #[.slice A0_0 l0_0.length c0_0, .bool a0_1] 42) (.cells #[.slice A1_0 l0_0.length c1_0, .bool a0_1] 42); exact this, below_alloc (below_alloc (Below.refl _ _) _) _⟩ ?_
  rintro W1 ⟨hG, hH, hB⟩
  generalize w.heap.size + 1 = H at hH ⊢
  have HG := Aside0.mk hG
  have HH := Aside0.mk hH
  have HB := Aside0.mk hB
  clear hG hH hB
  go_loopg [5] l0_0.length (fun gg s5 wr => ∃ (n i : Nat), n ≤ gg ∧ i + n = l0_0.length ∧ s5 = .int .i64 i ∧ Aside0 (wr.heap[w.heap.size]? = some (.cells #[.slice A0_0 l0_0.length c0_0, .bool a0_1] 42 (0, 0))) ∧ Aside0 (wr.heap[H]? = some (.cells #[.slice A1_0 l0_0.length c1_0, .bool a0_1] 42 (0, 0))) ∧ Aside0 (Below w.heap.size w wr))
  case atStart => exact ⟨l0_0.length, 0, Nat.le_refl _, by omega, rfl, HG, HH, HB⟩
  case round =>
    clear HG HH HB
    obtain ⟨n, i, hg, hin, rfl, HG, HH, HB⟩ := hrel
    have g2 : wr.cell? ⟨w.heap.size, 0, none⟩ = some (Value.slice A0_0 l0_0.length c0_0) := (blk_cell HG.out 0).trans rfl
    cases n with
    | zero =>
      have hlt : ¬ (i : Int) < (l0_0.length : Int) := by omega
      go_wp2
      go_ret
      exact ⟨rfl, HB.out⟩
    | succ n =>
      have hlt : (i : Int) < (l0_0.length : Int) := by omega
      have h2 : wr.cell? ⟨H, 0, none⟩ = some (Value.slice A1_0 l0_0.length c1_0) := (blk_cell HH.out 0).trans rfl
      obtain ⟨ad, hA, p0, p1, p2, p3, p4, p5, p6, p7, p8, p9, p10⟩ := at_T30 (Kd.C_below HR0.out HB.out) i (by omega) hlt
      rw [hA] at g2
      clear hA
      obtain ⟨ad2, hA, q0, q1, q2, q3, q4, q5, q6, q7, q8, q9, q10⟩ := at_T30 (Kd.C_below HR1.out HB.out) i (by omega) hlt
      rw [hA] at h2
      clear hA
      simp only [Int.toNat_natCast] at p0 p1 p2 p3 p4 p5 p6 p7 p8 p9 p10 q0 q1 q2 q3 q4 q5 q6 q7 q8 q9 q10
      go_upto_region 6 with (fail)
      have xg2 := Ext.cell g2
      have xh2 := Ext.cell h2
      have xp0 := Ext.cell p0
      have xp1 := Ext.cell p1
      have xp2 := Ext.cell p2
      have xp3 := Ext.cell p3
      have xp4 := Ext.cell p4
      have xp5 := Ext.cell p5
      have xp6 := Ext.cell p6
      have xp7 := Ext.cell p7
      have xp8 := Ext.cell p8
      have xp9 := Ext.cell p9
      have xp10 := Ext.cell p10
      have xq0 := Ext.cell q0
      have xq1 := Ext.cell q1
      have xq2 := Ext.cell q2
      have xq3 := Ext.cell q3
      have xq4 := Ext.cell q4
      have xq5 := Ext.cell q5
      have xq6 := Ext.cell q6
      have xq7 := Ext.cell q7
      have xq8 := Ext.cell q8
      have xq9 := Ext.cell q9
      have xq10 := Ext.cell q10
      clear g2 h2 p0 p1 p2 p3 p4 p5 p6 p7 p8 p9 p10 q0 q1 q2 q3 q4 q5 q6 q7 q8 q9 q10
      refine region_ext (by kernel_rfl) (by kernel_rfl) ?_
      repeat (go_big_quiet_step (fail))
      refine wpQuiet_nil ?_
      rintro W8 ⟨⟨W9, hb3⟩, rfl⟩
      go_wp2
      go_roundg n
      case measure => omega
      case rel => exact ⟨n, i + 1, Nat.le_refl _, by omega, by go_num, ⟨blk_below HG.out hb3⟩, ⟨blk_below HH.out hb3⟩, ⟨below_step HB.out hb3⟩⟩

/-! ### laws_pwTable: function 7 (by hand) -/
def laws_pwTable.col (x : S57) : Int × Int := (x.f0, x.f1)
def laws_pwTable.row (x : S42) : List (List UInt8 × List Int) × Bool := (x.f0.map laws_pwRow.tup, x.f1)
/-- Two tables that are the same; no answer else. -/
def laws_pwTable.f (k : Nat) (l0_0 : List S57) (a0_1 : Int) (a0_2 : Int) (l0_3 : List S42) (a0_4 : Int) (l1_0 : List S57) (a1_1 : Int) (a1_2 : Int) (l1_3 : List S42) (a1_4 : Int) : Option Bool := if l0_0.map laws_pwTable.col = l1_0.map laws_pwTable.col ∧ a0_1 = a1_1 ∧ a0_2 = a1_2 ∧ l0_3.map laws_pwTable.row = l1_3.map laws_pwTable.row ∧ a0_4 = a1_4 then some true else none
theorem laws_pwTable.mono : ∀ l0_0 a0_1 a0_2 l0_3 a0_4 l1_0 a1_1 a1_2 l1_3 a1_4 k, LeO (laws_pwTable.f k l0_0 a0_1 a0_2 l0_3 a0_4 l1_0 a1_1 a1_2 l1_3 a1_4) (laws_pwTable.f (k + 1) l0_0 a0_1 a0_2 l0_3 a0_4 l1_0 a1_1 a1_2 l1_3 a1_4) := fun _ _ _ _ _ _ _ _ _ _ _ => LeO.refl _
theorem laws_pwTable.inj1 (x y : S57) (h : laws_pwTable.col x = laws_pwTable.col y) : x = y := by
  obtain ⟨x0, x1⟩ := x
  obtain ⟨y0, y1⟩ := y
  unfold laws_pwTable.col at h
  simp only [Prod.mk.injEq] at h
  obtain ⟨rfl, rfl⟩ := h
  rfl
theorem laws_pwTable.inj2 (x y : S42) (h : laws_pwTable.row x = laws_pwTable.row y) : x = y := by
  obtain ⟨x0, x1⟩ := x
  obtain ⟨y0, y1⟩ := y
  unfold laws_pwTable.row at h
  simp only [Prod.mk.injEq] at h
  obtain ⟨h, rfl⟩ := h
  rw [map_same laws_pwRow.inj h]
set_option maxHeartbeats 4000000 in
set_option maxRecDepth 100000 in
theorem laws_pwTable.calls (k : Nat) (A0_0 : Option Addr) (c0_0 : Nat) (l0_0 : List (S57)) (a0_1 : Int) (a0_2 : Int) (A0_3 : Option Addr) (c0_3 : Nat) (l0_3 : List (S42)) (a0_4 : Int) (A1_0 : Option Addr) (c1_0 : Nat) (l1_0 : List (S57)) (a1_1 : Int) (a1_2 : Int) (A1_3 : Option Addr) (c1_3 : Nat) (l1_3 : List (S42)) (a1_4 : Int) (r : Bool) (w : World) (hr0_0 : Kd.C k57 w A0_0 l0_0.length l0_0) (hc0_0 : l0_0.length ≤ c0_0) (hr0_3 : Kd.C k42 w A0_3 l0_3.length l0_3) (hc0_3 : l0_3.length ≤ c0_3) (hr1_0 : Kd.C k57 w A1_0 l1_0.length l1_0) (hc1_0 : l1_0.length ≤ c1_0) (hr1_3 : Kd.C k42 w A1_3 l1_3.length l1_3) (hc1_3 : l1_3.length ≤ c1_3) (h : laws_pwTable.f k l0_0 a0_1 a0_2 l0_3 a0_4 l1_0 a1_1 a1_2 l1_3 a1_4 = some r) :
    Calls Tryd.prog 7 #[.agg #[.slice A0_0 l0_0.length c0_0, .int .i64 a0_1, .int .i64 a0_2, .slice A0_3 l0_3.length c0_3, .int .i64 a0_4], .agg #[.slice A1_0 l1_0.length c1_0, .int .i64 a1_1, .int .i64 a1_2, .slice A1_3 l1_3.length c1_3, .int .i64 a1_4]] w fun e w' => e = .returned (.bool r) ∧ Below w.heap.size w w' := by
  unfold laws_pwTable.f at h
  split at h
  rotate_left
  · cases h
  rename_i hs
  obtain ⟨hs, rfl, rfl, hs3, rfl⟩ := hs
  obtain rfl := map_same laws_pwTable.inj1 hs
  obtain rfl := map_same laws_pwTable.inj2 hs3
  obtain rfl := Option.some.inj h
  have HR0 := Aside0.mk hr0_0
  have HR1 := Aside0.mk hr1_0
  have HS0 := Aside0.mk hr0_3
  have HS1 := Aside0.mk hr1_3
  have hbig := hr0_0.2.1
  have hbig3 := hr0_3.2.1
  clear hr0_0 hr1_0 hc0_0 hc1_0 hr0_3 hr1_3 hc0_3 hc1_3 h hs hs3
  have hu1 := Tryd.underlying26
  have hu2 := Tryd.underlying57
  go_enter Tryd.func7, Tryd.ntmps7
  go_upto_region 4 with (fail)
  refine wp_letter (fun W0 => W0.heap[w.heap.size]? = some (.cells (l3A (.slice A0_0 l0_0.length c0_0) (.slice A0_3 l0_3.length c0_3) a0_1 a0_2 a0_4) 26 (0, 0)) ∧ W0.heap[w.heap.size + 1]? = some (.cells (l3A (.slice A1_0 l0_0.length c1_0) (.slice A1_3 l0_3.length c1_3) a0_1 a0_2 a0_4) 26 (0, 0)) ∧ Below w.heap.size w W0) ⟨blk_alloc (blk_new w _) _, by have := blk_new2 w (.cells (l3A (.slice A0_0 l0_0.length c0_0) (.slice A0_3 l0_3.length c0_3) a0_1 a0_2 a0_4) 26) (.cells (l3A (.slice A1_0 l0_0.length c1_0) (.slice A1_3 l0_3.length c1_3) a0_1 a0_2 a0_4) 26); exact this, below_alloc (below_alloc (Below.refl _ _) _) _⟩ ?_
  rintro W1 ⟨hG, hH, hB⟩
  generalize w.heap.size + 1 = H at hH ⊢
  have HG := Aside0.mk hG
  have HH := Aside0.mk hH
  have HB := Aside0.mk hB
  clear hG hH hB
  go_loopg [5] l0_0.length (fun gg s5 wr => ∃ (n i : Nat), n ≤ gg ∧ i + n = l0_0.length ∧ s5 = .int .i64 i ∧ Aside0 (wr.heap[w.heap.size]? = some (.cells (l3A (.slice A0_0 l0_0.length c0_0) (.slice A0_3 l0_3.length c0_3) a0_1 a0_2 a0_4) 26 (0, 0))) ∧ Aside0 (wr.heap[H]? = some (.cells (l3A (.slice A1_0 l0_0.length c1_0) (.slice A1_3 l0_3.length c1_3) a0_1 a0_2 a0_4) 26 (0, 0))) ∧ Aside0 (Below w.heap.size w wr))
  case atStart => exact ⟨l0_0.length, 0, Nat.le_refl _, by omega, rfl, HG, HH, HB⟩
  case round =>
    clear HG HH HB
    obtain ⟨n, i, hg, hin, rfl, HG, HH, HB⟩ := hrel
    have g2 : wr.cell? ⟨w.heap.size, 0, none⟩ = some (Value.slice A0_0 l0_0.length c0_0) := (blk_cell HG.out 0).trans rfl
    cases n with
    | zero =>
      have hlt : ¬ (i : Int) < (l0_0.length : Int) := by omega
      go_upto_region 9 with (fail)
      clear g2
      go_loopg [6] l0_3.length (fun gg s6 wr => ∃ (n i : Nat), n ≤ gg ∧ i + n = l0_3.length ∧ s6 = .int .i64 i ∧ Aside0 (wr.heap[w.heap.size]? = some (.cells (l3A (.slice A0_0 l0_0.length c0_0) (.slice A0_3 l0_3.length c0_3) a0_1 a0_2 a0_4) 26 (0, 0))) ∧ Aside0 (wr.heap[H]? = some (.cells (l3A (.slice A1_0 l0_0.length c1_0) (.slice A1_3 l0_3.length c1_3) a0_1 a0_2 a0_4) 26 (0, 0))) ∧ Aside0 (Below w.heap.size w wr))
      case atStart => exact ⟨l0_3.length, 0, Nat.le_refl _, by omega, rfl, HG, HH, HB⟩
      case round =>
        clear HG HH HB hlt hin hg
        obtain ⟨n, i, hg, hin, rfl, HG, HH, HB⟩ := hrel
        have g3 : wr.cell? ⟨w.heap.size, 3, none⟩ = some (Value.slice A0_3 l0_3.length c0_3) := (blk_cell HG.out 3).trans rfl
        cases n with
        | zero =>
          have hlt : ¬ (i : Int) < (l0_3.length : Int) := by omega
          go_wp2
          go_ret
          exact ⟨rfl, HB.out⟩
        | succ n =>
          have hlt : (i : Int) < (l0_3.length : Int) := by omega
          have h3 : wr.cell? ⟨H, 3, none⟩ = some (Value.slice A1_3 l0_3.length c1_3) := (blk_cell HH.out 3).trans rfl
          obtain ⟨ad, B0, d0, hA, p0, p1, e0, hC0⟩ := at_T42 (Kd.C_below HS0.out HB.out) i (by omega) hlt
          rw [hA] at g3
          clear hA
          obtain ⟨ad2, B1, d1, hA, q0, q1, e1, hC1⟩ := at_T42 (Kd.C_below HS1.out HB.out) i (by omega) hlt
          rw [hA] at h3
          clear hA
          simp only [Int.toNat_natCast] at p0 p1 q0 q1
          obtain ⟨x, hx⟩ : ∃ x, rd_T42 l0_3 i = x := ⟨_, rfl⟩
          rw [hx] at p0 p1 q0 q1 hC0 hC1 e0 e1
          clear hx
          have HSM := Aside0.mk (show laws_pwRow.f k x.f0 x.f1 x.f0 x.f1 = some true by unfold laws_pwRow.f; rw [if_pos ⟨rfl, rfl⟩])
          have HE0 := Aside0.mk e0
          have HE1 := Aside0.mk e1
          clear e0 e1
          go_upto_region 11 with (fail)
          have FC := Aside0.mk (fun (v : Ext wr) => Kd.C_below hC0 v.below)
          have FD := Aside0.mk (fun (v : Ext wr) => Kd.C_below hC1 v.below)
          have xg2 := Ext.cell g3
          have xh2 := Ext.cell h3
          have xp0 := Ext.cell p0
          have xp1 := Ext.cell p1
          have xq0 := Ext.cell q0
          have xq1 := Ext.cell q1
          clear g3 h3 p0 p1 q0 q1 hC0 hC1
          refine region_ext (by kernel_rfl) (by kernel_rfl) ?_
          repeat (go_big_quiet_step (first | (go_at_call 25; exact Calls.ext (laws_pwRow.calls k B0 d0 x.f0 x.f1 B1 d1 x.f0 x.f1 true _ (FC.out _) HE0.out (FD.out _) HE1.out HSM.out))))
          refine wpQuiet_nil ?_
          rintro W8 ⟨⟨W9, hb3⟩, rfl⟩
          go_wp2
          go_roundg n
          case measure => omega
          case rel => exact ⟨n, i + 1, Nat.le_refl _, by omega, by go_num, ⟨blk_below HG.out hb3⟩, ⟨blk_below HH.out hb3⟩, ⟨below_step HB.out hb3⟩⟩
    | succ n =>
      have hlt : (i : Int) < (l0_0.length : Int) := by omega
      have h2 : wr.cell? ⟨H, 0, none⟩ = some (Value.slice A1_0 l0_0.length c1_0) := (blk_cell HH.out 0).trans rfl
      obtain ⟨ad, hA, p0, p1⟩ := at_T57 (Kd.C_below HR0.out HB.out) i (by omega) hlt
      rw [hA] at g2
      clear hA
      obtain ⟨ad2, hA, q0, q1⟩ := at_T57 (Kd.C_below HR1.out HB.out) i (by omega) hlt
      rw [hA] at h2
      clear hA
      simp only [Int.toNat_natCast] at p0 p1 q0 q1
      go_upto_region 6 with (fail)
      have xg2 := Ext.cell g2
      have xh2 := Ext.cell h2
      have xp0 := Ext.cell p0
      have xp1 := Ext.cell p1
      have xq0 := Ext.cell q0
      have xq1 := Ext.cell q1
      clear g2 h2 p0 p1 q0 q1
      refine region_ext (by kernel_rfl) (by kernel_rfl) ?_
      repeat (go_big_quiet_step (fail))
      refine wpQuiet_nil ?_
      rintro W8 ⟨⟨W9, hb3⟩, rfl⟩
      go_wp2
      go_roundg n
      case measure => omega
      case rel => exact ⟨n, i + 1, Nat.le_refl _, by omega, by go_num, ⟨blk_below HG.out hb3⟩, ⟨blk_below HH.out hb3⟩, ⟨below_step HB.out hb3⟩⟩

/-! ### laws_pwOk: function 9 -/
def laws_pwOk.f  : Option (Bool) := (impl_TxtOk.f (⟨#[97, 98, 32, 99]⟩ : ByteArray)).bind fun t395 => (some t395)
set_option maxHeartbeats 8000000 in
set_option maxRecDepth 100000 in
theorem laws_pwOk.calls  (r : Bool) (w : World) (hM : Txt.MLen w) (h : laws_pwOk.f  = some r) :
    Calls Tryd.prog 9 #[] w fun e w' => e = .returned (.bool r) ∧ Below w.heap.size w w' := by
  have HM := Aside0.mk hM
  clear hM
  have HB := Aside0.mk (Below.refl w.heap.size w)
  have H : ((impl_TxtOk.f (⟨#[97, 98, 32, 99]⟩ : ByteArray)).bind fun t395 => (some t395)) = some r := h
  clear h
  replace H := Option.bind_eq_some_iff.mp H
  obtain ⟨t395, A10, H⟩ := H
  replace H : (some t395) = some r := H
  have A1 := Aside0.mk A10
  clear A10
  obtain rfl := Option.some.inj H
  go_enter Tryd.func9, Tryd.ntmps9
  go_wp2_with (first | ((with_reducible refine gate_callee (f := 27) rfl ?_); refine goesL_ (some 1) rfl rfl Tryd.func27 (by kernel_rfl) rfl #[.string (⟨#[97, 98, 32, 99]⟩ : ByteArray)] rfl (by (try simp only [List.map_toArray, List.map_cons, List.map_nil]); first | done | rfl | (simp only [List.length_drop, List.length_take]; rfl)) ?_; (with_reducible refine (impl_TxtOk.calls (⟨#[97, 98, 32, 99]⟩ : ByteArray) t395 _ ?sideM A1.out).mono ?_); (case sideM => repeat (first | exact HM.out | exact (Txt.MLen_below HM.out HB.out) | (with_reducible refine Txt.MLen_alloc ?_ _) | (with_reducible refine Txt.MLen_drewN ?_ _) | (with_reducible refine Txt.MLen_drew ?_))); rintro e w2 ⟨rfl, hb⟩; refine ⟨_, rfl, ?_⟩; have n0_ := Aside0.mk (below_step (by repeat (first | (with_reducible first | exact HB.out | apply below_alloc | apply pw_below_drewN | apply below_drew1) | exact HB.out)) hb); clear HB; have HB := n0_; clear n0_; (try clear hb); (try clear hb2); (try clear hk); (try clear hi)))
  go_ret
  exact ⟨by first | rfl | (simp [IntKind.wrap_i64, wrap64]; done) | (simp [errW_none, errW_some] <;> rfl) | (simp [*, errW_none, errW_some] <;> rfl), by repeat (first | (with_reducible first | exact HB.out | apply below_alloc | apply pw_below_drewN | apply below_drew1) | exact HB.out)⟩

-- NOT PRINTED: function 10 (impl_EdtTake)

/-! ### impl_TblCells: function 12 -/
def impl_TblCells.l0 : Nat → Int → List (S42) → Int → Int → Option (Int)
  | 0, _, _, _, _ => none
  | k + 1, x3, x7, x8, x9 => if x9 < x8 then (if 0 ≤ x9 then (if x9 < (x7.length : Int) then (impl_TblCells.l0 k (wrap64 (x3 + (((rd_T42 x7 x9).f0).length : Int))) x7 x8 (wrap64 (x9 + 1))) else (none)) else (none)) else (some x3)
def impl_TblCells.f (k : Nat) (l0_0 : List (S57)) (a0_1 : Int) (a0_2 : Int) (l0_3 : List (S42)) (a0_4 : Int) : Option (Int) := impl_TblCells.l0 k 0 l0_3 (l0_3.length : Int) 0
theorem impl_TblCells.mono_l : ∀ k, (∀ y0 y1 y2 y3, LeO (impl_TblCells.l0 k y0 y1 y2 y3) (impl_TblCells.l0 (k + 1) y0 y1 y2 y3))
  | 0 => fun _ _ _ _ r h => by simp [impl_TblCells.l0] at h
  | k + 1 => by
    have ih0 := impl_TblCells.mono_l k
    · intro y0 y1 y2 y3
      unfold impl_TblCells.l0
      repeat' first
      | (with_reducible exact ih0 _ _ _ _)
      | (with_reducible exact LeO.refl _)
      | (with_reducible exact LeO.none _)
      | (with_reducible refine LeO.ite ?_ ?_)
      | (with_reducible refine LeO.bind ?_ (fun _ => ?_))
      | exact ih0 _ _ _ _
      | exact LeO.none _
      | refine LeO.ite ?_ ?_
      | refine LeO.bind ?_ (fun _ => ?_)
theorem impl_TblCells.mono : ∀ a0 a1 a2 a3 a4 k, LeO (impl_TblCells.f k a0 a1 a2 a3 a4) (impl_TblCells.f (k + 1) a0 a1 a2 a3 a4) := by
  intro a0 a1 a2 a3 a4 k
  have ih0 := impl_TblCells.mono_l k
  unfold impl_TblCells.f
  repeat' first
      | (with_reducible exact ih0 _ _ _ _)
      | (with_reducible exact LeO.refl _)
      | (with_reducible exact LeO.none _)
      | (with_reducible refine LeO.ite ?_ ?_)
      | (with_reducible refine LeO.bind ?_ (fun _ => ?_))
      | exact ih0 _ _ _ _
      | exact LeO.none _
      | refine LeO.ite ?_ ?_
      | refine LeO.bind ?_ (fun _ => ?_)
set_option maxHeartbeats 8000000 in
set_option maxRecDepth 100000 in
theorem impl_TblCells.calls (k : Nat) (A0_0 : Option Addr) (c0_0 : Nat) (l0_0 : List (S57)) (a0_1 : Int) (a0_2 : Int) (A0_3 : Option Addr) (c0_3 : Nat) (l0_3 : List (S42)) (a0_4 : Int) (r : Int) (w : World) (hr0_0 : Kd.C k57 w A0_0 l0_0.length l0_0) (hc0_0 : l0_0.length ≤ c0_0) (hr0_3 : Kd.C k42 w A0_3 l0_3.length l0_3) (hc0_3 : l0_3.length ≤ c0_3) (h : impl_TblCells.f k l0_0 a0_1 a0_2 l0_3 a0_4 = some r) :
    Calls Tryd.prog 12 #[.agg #[.slice A0_0 l0_0.length c0_0, .int .i64 a0_1, .int .i64 a0_2, .slice A0_3 l0_3.length c0_3, .int .i64 a0_4]] w fun e w' => e = .returned (.int .i64 r) ∧ Below w.heap.size w w' := by
  have hu26 := Tryd.underlying26
  have hu42 := Tryd.underlying42
  have HR0_0 := Aside0.mk hr0_0
  have HC0_0 := Aside0.mk hc0_0
  clear hr0_0 hc0_0
  have HR0_3 := Aside0.mk hr0_3
  have HC0_3 := Aside0.mk hc0_3
  clear hr0_3 hc0_3
  have HB := Aside0.mk (Below.refl w.heap.size w)
  have H : (impl_TblCells.l0 k 0 l0_3 (l0_3.length : Int) 0) = some r := h
  clear h
  have H' := Aside0.mk H
  clear H
  go_enter Tryd.func12, Tryd.ntmps12
  go_wp2_with (first | ((with_reducible refine gate_dst (N := 1) rfl ?_); refine box_event ?hg (N := 1) ?hd (cs := #[.slice A0_0 l0_0.length c0_0, .int .i64 a0_1, .int .i64 a0_2, .slice A0_3 l0_3.length c0_3, .int .i64 a0_4]) (t := 26) ?hr ?_; (case hd => rfl); (case hg => rfl); (case hr => first | (go_simp; done) | (go_simp; rfl)); intro gb397 hg w2 hbox hb; have n0_ := Aside0.mk (below_step (by repeat (first | (with_reducible first | exact HB.out | apply below_alloc | apply pw_below_drewN | apply below_drew1) | exact HB.out)) hb); have n1_ := Aside0.mk (hbox); have n2_ := Aside0.mk ((by rw [hg]; exact (below_size (by repeat (first | (with_reducible first | exact HB.out | apply below_alloc | apply pw_below_drewN | apply below_drew1) | exact HB.out))) : w.heap.size ≤ gb397)); have n3_ := Aside0.mk ((by rw [hg]; exact (below_size (by repeat (first | (with_reducible first | exact HB.out | apply below_alloc | apply pw_below_drewN | apply below_drew1) | exact HB.out))) : w.heap.size ≤ gb397)); clear HB; have HB := n0_; have BK397 := n1_; have GW397 := n2_; have GE397 := n3_; clear n0_ n1_ n2_ n3_; clear hb hbox hg; have hcz3_0 : w2.cell? ⟨gb397, 0, none⟩ = some (.slice A0_0 l0_0.length c0_0) := (blk_cell BK397.out 0).trans rfl; have hcz3_1 : w2.cell? ⟨gb397, 1, none⟩ = some (.int .i64 a0_1) := (blk_cell BK397.out 1).trans rfl; have hcz3_2 : w2.cell? ⟨gb397, 2, none⟩ = some (.int .i64 a0_2) := (blk_cell BK397.out 2).trans rfl; have hcz3_3 : w2.cell? ⟨gb397, 3, none⟩ = some (.slice A0_3 l0_3.length c0_3) := (blk_cell BK397.out 3).trans rfl; have hcz3_4 : w2.cell? ⟨gb397, 4, none⟩ = some (.int .i64 a0_4) := (blk_cell BK397.out 4).trans rfl; have hfz3_0 := blk_frozen BK397.out 0; have hfz3_1 := blk_frozen BK397.out 1; have hfz3_2 := blk_frozen BK397.out 2; have hfz3_3 := blk_frozen BK397.out 3; have hfz3_4 := blk_frozen BK397.out 4))
  go_loopg [3, 9] k (fun kq v3 v9 w' => ∃ (x3_1 : Int) (x9_1 : Int), v3 = .int .i64 x3_1 ∧ v9 = .int .i64 x9_1 ∧ Aside0 (impl_TblCells.l0 kq x3_1 l0_3 (l0_3.length : Int) x9_1 = some r) ∧ Aside0 (kq ≤ k) ∧ Aside0 (w'.heap[gb397]? = some (.cells #[(.slice A0_0 l0_0.length c0_0), .int .i64 a0_1, .int .i64 a0_2, (.slice A0_3 l0_3.length c0_3), .int .i64 a0_4] 26 (0, 0))) ∧ Aside0 (Below w.heap.size w w'))
  case atStart => exact ⟨(0), (0), (by first | rfl | (simp; done) | (simp [*]; done)), (by first | rfl | (simp; done) | (simp [*]; done)), H', ⟨Nat.le_refl _⟩, ⟨by (with_reducible repeat (first | refine blk_drewN ?_ _ | refine blk_drew ?_ | refine blk_alloc ?_ _)); exact BK397.out⟩, ⟨by repeat (first | (with_reducible first | exact HB.out | apply below_alloc | apply pw_below_drewN | apply below_drew1 | refine below_set ?_ GE397.out) | exact HB.out)⟩⟩
  case round =>
    clear H'
    try clear c1
    try clear p2
    try clear hcz3_0
    try clear hcz3_1
    try clear hcz3_2
    try clear hcz3_3
    try clear hcz3_4
    try clear hfz3_0
    try clear hfz3_1
    try clear hfz3_2
    try clear hfz3_3
    try clear hfz3_4
    obtain ⟨x3_1, x9_1, rfl, rfl, HA, HK1, BK397, HB⟩ := hrel
    cases gk with
    | zero => exact absurd HA.out (by simp [impl_TblCells.l0])
    | succ k1 =>
      have H := HA.out
      clear HA
      simp only [impl_TblCells.l0] at H
      by_cases c4 : x9_1 < (l0_3.length : Int)
      · rw [if_pos c4] at H
        have c4b0 : decide (x9_1 < (l0_3.length : Int)) = true := decide_eq_true c4
        clear c4
        by_cases c5 : 0 ≤ x9_1
        · rw [if_pos c5] at H
          have c5b0 : decide (0 ≤ x9_1) = true := decide_eq_true c5
          clear c5
          by_cases c6 : x9_1 < (l0_3.length : Int)
          · rw [if_pos c6] at H
            have c6b0 : decide (x9_1 < (l0_3.length : Int)) = true := decide_eq_true c6
            clear c6
            have H' := Aside0.mk H
            clear H
            have p398 : 0 ≤ (x9_1 : Int) := of_decide_eq_true (by first | (with_reducible assumption) | assumption)
            have q398 : x9_1 < (l0_3.length : Int) := of_decide_eq_true (by first | (with_reducible assumption) | assumption)
            obtain ⟨ad398, A398_0, c398_0, e398, hx398_0, hx398_1, hl398_0, hi398_0⟩ := at_T42 HR0_3.out x9_1 p398 q398
            cases e398
            replace hx398_0 := (HB.out.cell (World.block_lt_of_cell? w _ hx398_0)).trans hx398_0
            replace hx398_1 := (HB.out.cell (World.block_lt_of_cell? w _ hx398_1)).trans hx398_1
            have HR398_0 := Aside0.mk hi398_0
            have HC398_0 := Aside0.mk hl398_0
            clear hi398_0 hl398_0
            replace p398 := eq_true p398
            replace q398 := eq_true q398
            go_wp2_with (first | ((with_reducible refine gate_dst (N := 5) rfl ?_); refine box_event ?hg (N := 5) ?hd (cs := #[.slice none 0 0, .bool false]) (t := 42) ?hr ?_; (case hd => rfl); (case hg => rfl); (case hr => first | (go_simp; done) | (go_simp; rfl)); intro gb399 hg w7 hbox hb; have n0_ := Aside0.mk (blk_below (g := gb397) (o := .cells #[.slice A0_0 l0_0.length c0_0, .int .i64 a0_1, .int .i64 a0_2, .slice (some ad398) l0_3.length c0_3, .int .i64 a0_4] 26 (0, 0)) (by (with_reducible repeat (first | refine blk_drewN ?_ _ | refine blk_drew ?_ | refine blk_alloc ?_ _)); exact BK397.out) hb); have n1_ := Aside0.mk (below_step (by repeat (first | (with_reducible first | exact HB.out | apply below_alloc | apply pw_below_drewN | apply below_drew1 | refine below_set ?_ GE397.out) | exact HB.out)) hb); have n2_ := Aside0.mk (hbox); have n3_ := Aside0.mk ((by rw [hg]; exact (below_size (by repeat (first | (with_reducible first | exact HB.out | apply below_alloc | apply pw_below_drewN | apply below_drew1 | refine below_set ?_ GE397.out) | exact HB.out))) : w.heap.size ≤ gb399)); have n4_ := Aside0.mk ((by rw [hg]; exact (below_size (by repeat (first | (with_reducible first | exact HB.out | apply below_alloc | apply pw_below_drewN | apply below_drew1 | refine below_set ?_ GE397.out) | exact HB.out))) : w.heap.size ≤ gb399)); have n5_ := Aside0.mk ((by rw [hg]; exact Nat.ne_of_lt (blk_lt (g := gb397) (o := .cells #[.slice A0_0 l0_0.length c0_0, .int .i64 a0_1, .int .i64 a0_2, .slice (some ad398) l0_3.length c0_3, .int .i64 a0_4] 26 (0, 0)) (by (with_reducible repeat (first | refine blk_drewN ?_ _ | refine blk_drew ?_ | refine blk_alloc ?_ _)); exact BK397.out)) : gb397 ≠ gb399)); have n6_ := Aside0.mk ((by rw [hg]; exact Nat.ne_of_gt (blk_lt (g := gb397) (o := .cells #[.slice A0_0 l0_0.length c0_0, .int .i64 a0_1, .int .i64 a0_2, .slice (some ad398) l0_3.length c0_3, .int .i64 a0_4] 26 (0, 0)) (by (with_reducible repeat (first | refine blk_drewN ?_ _ | refine blk_drew ?_ | refine blk_alloc ?_ _)); exact BK397.out)) : gb399 ≠ gb397)); clear BK397; clear HB; have BK397 := n0_; have HB := n1_; have BK399 := n2_; have GW399 := n3_; have GE399 := n4_; have NB397_399 := n5_; have NB399_397 := n6_; clear n0_ n1_ n2_ n3_ n4_ n5_ n6_; clear hb hbox hg; have hnb8 := NB399_397.out; have hnc8 := NB397_399.out; have hcz9_0 : w7.cell? ⟨gb399, 0, none⟩ = some (.slice none 0 0) := (blk_cell BK399.out 0).trans rfl; have hcz9_1 : w7.cell? ⟨gb399, 1, none⟩ = some (.bool false) := (blk_cell BK399.out 1).trans rfl; have hfz9_0 := blk_frozen BK399.out 0; have hfz9_1 := blk_frozen BK399.out 1))
            go_roundg k1
            case measure => have := HK1.out; omega
            case rel => exact ⟨(wrap64 (x3_1 + (((rd_T42 l0_3 x9_1).f0).length : Int))), (wrap64 (x9_1 + 1)), (by first | rfl | (simp; done) | (simp [*]; done)), (by first | rfl | (simp; done) | (simp [*]; done)), H', ⟨by have := HK1.out; omega⟩, ⟨by (with_reducible repeat (first | refine blk_drewN ?_ _ | refine blk_drew ?_ | refine blk_alloc ?_ _)); refine blk_far ?_ NB397_399.out _; (with_reducible repeat (first | refine blk_drewN ?_ _ | refine blk_drew ?_ | refine blk_alloc ?_ _)); refine blk_far ?_ NB397_399.out _; (with_reducible repeat (first | refine blk_drewN ?_ _ | refine blk_drew ?_ | refine blk_alloc ?_ _)); exact BK397.out⟩, ⟨by repeat (first | (with_reducible first | exact HB.out | apply below_alloc | apply pw_below_drewN | apply below_drew1 | refine below_set ?_ GE397.out | refine below_set ?_ GE399.out) | exact HB.out)⟩⟩
          · rw [if_neg c6] at H
            exact absurd H (by simp)
        · rw [if_neg c5] at H
          exact absurd H (by simp)
      · rw [if_neg c4] at H
        have c4b0 : decide (x9_1 < (l0_3.length : Int)) = false := decide_eq_false c4
        clear c4
        obtain rfl := Option.some.inj H
        go_wp2
        go_ret
        exact ⟨by first | rfl | (simp [IntKind.wrap_i64, wrap64]; done) | (simp [errW_none, errW_some] <;> rfl) | (simp [*, errW_none, errW_some] <;> rfl), by repeat (first | (with_reducible first | exact HB.out | apply below_alloc | apply pw_below_drewN | apply below_drew1 | refine below_set ?_ GE397.out) | exact HB.out)⟩

-- NOT PRINTED: function 3 (laws_FnEdtPut)

/-! ### impl_EdtPut: function 5 (by hand) -/
def impl_EdtPut.f (k : Nat) (l0_0 : List S57) (a0_1 : Int) (a0_2 : Int) (l0_3 : List S42) (a0_4 : Int) (a1 : Int) (a2 : Int) (a3 : S30) : Option (List S57 × Int × Int × List S42 × Int × Bool) :=
  (impl_TblOk.f k l0_0 a0_1 a0_2 l0_3 a0_4).bind fun b => if b = true then (impl_TblTable_copied.f k l0_0 a0_1 a0_2 l0_3 a0_4).bind fun c => (impl_CellOk.f a3.f0 a3.f1 a3.f2 a3.f3.f0 a3.f3.f1 a3.f4.f0 a3.f4.f1 a3.f5.f0 a3.f5.f1 a3.f6.f0 a3.f6.f1).bind fun o => if c.2.2.2.1.length < 1000000 ∧ (rd_T42 c.2.2.2.1 a1).f0.length < 1000000 then some (c.1, c.2.1, c.2.2.1, if (o && decide (putP c.2.2.2.1 a1 a2)) = true then putRows c.2.2.2.1 a1 a2 a3 else c.2.2.2.1, c.2.2.2.2, (o && decide (putP c.2.2.2.1 a1 a2))) else none else some ([], 0, 0, [], 0, false)
theorem impl_EdtPut.mono : ∀ a0 a1 a2 a3 a4 b0 b1 b2 k, LeO (impl_EdtPut.f k a0 a1 a2 a3 a4 b0 b1 b2) (impl_EdtPut.f (k + 1) a0 a1 a2 a3 a4 b0 b1 b2) := fun _ _ _ _ _ _ _ _ _ => by
  unfold impl_EdtPut.f
  exact LeO.bind (impl_TblOk.mono _ _ _ _ _ _) fun _ => LeO.ite (LeO.bind (impl_TblTable_copied.mono _ _ _ _ _ _) fun _ => LeO.refl _) (LeO.refl _)
theorem impl_EdtPut.blk (w : World) (o1 o2 o3 o4 o5 : Obj) : (((((w.alloc o1).alloc o2).alloc o3).alloc o4).alloc o5).heap[w.heap.size]? = some o1 ∧ (((((w.alloc o1).alloc o2).alloc o3).alloc o4).alloc o5).heap[w.heap.size + 1]? = some o2 ∧ (((((w.alloc o1).alloc o2).alloc o3).alloc o4).alloc o5).heap[w.heap.size + 2]? = some o3 ∧ (((((w.alloc o1).alloc o2).alloc o3).alloc o4).alloc o5).heap[w.heap.size + 3]? = some o4 ∧ (((((w.alloc o1).alloc o2).alloc o3).alloc o4).alloc o5).heap[w.heap.size + 4]? = some o5 := by
  have s1 : (w.alloc o1).heap.size = w.heap.size + 1 := by simp
  have s2 : ((w.alloc o1).alloc o2).heap.size = w.heap.size + 2 := by simp
  have s3 : (((w.alloc o1).alloc o2).alloc o3).heap.size = w.heap.size + 3 := by simp
  have s4 : ((((w.alloc o1).alloc o2).alloc o3).alloc o4).heap.size = w.heap.size + 4 := by simp
  refine ⟨blk_alloc (blk_alloc (blk_alloc (blk_alloc (blk_new w o1) _) _) _) _, ?_, ?_, ?_, ?_⟩
  · rw [← s1]; exact blk_alloc (blk_alloc (blk_alloc (blk_new _ o2) _) _) _
  · rw [← s2]; exact blk_alloc (blk_alloc (blk_new _ o3) _) _
  · rw [← s3]; exact blk_alloc (blk_new _ o4) _
  · rw [← s4]; exact blk_new _ o5
theorem impl_EdtPut.parts {k : Nat} {l0_0 : List S57} {a0_1 a0_2 : Int} {l0_3 : List S42} {a0_4 : Int} {a1 : Int} {a2 : Int} {a3 : S30} {c1 : List S57} {h1 f1 : Int} {r4 : List S42} {g1 : Int} {q : Bool} (h : impl_EdtPut.f k l0_0 a0_1 a0_2 l0_3 a0_4 a1 a2 a3 = some (c1, h1, f1, r4, g1, q)) :
    ∃ b r1, impl_TblOk.f k l0_0 a0_1 a0_2 l0_3 a0_4 = some b ∧ (b = false → q = false ∧ c1 = [] ∧ h1 = 0 ∧ f1 = 0 ∧ r4 = [] ∧ g1 = 0) ∧ (b = true → impl_TblTable_copied.f k l0_0 a0_1 a0_2 l0_3 a0_4 = some (c1, h1, f1, r1, g1) ∧ ∃ o, impl_CellOk.f a3.f0 a3.f1 a3.f2 a3.f3.f0 a3.f3.f1 a3.f4.f0 a3.f4.f1 a3.f5.f0 a3.f5.f1 a3.f6.f0 a3.f6.f1 = some o ∧ (r1.length < 1000000 ∧ (rd_T42 r1 a1).f0.length < 1000000) ∧ (o && decide (putP r1 a1 a2)) = q ∧ r4 = if q = true then putRows r1 a1 a2 a3 else r1) := by
  unfold impl_EdtPut.f at h
  obtain ⟨b, e1, h⟩ := Option.bind_eq_some_iff.1 h
  cases b
  · rw [if_neg (by decide)] at h
    simp only [Option.some.injEq, Prod.mk.injEq] at h
    obtain ⟨rfl, rfl, rfl, rfl, rfl, rfl⟩ := h
    exact ⟨false, [], e1, fun _ => ⟨rfl, rfl, rfl, rfl, rfl, rfl⟩, (fun e => by cases e)⟩
  · rw [if_pos rfl] at h
    obtain ⟨⟨x1, x2, x3, x4, x5⟩, e2, h⟩ := Option.bind_eq_some_iff.1 h
    obtain ⟨o, e3, h⟩ := Option.bind_eq_some_iff.1 h
    split at h
    · rename_i hg
      simp only [Option.some.injEq, Prod.mk.injEq] at h
      obtain ⟨rfl, rfl, rfl, h4, rfl, hq⟩ := h
      exact ⟨true, x4, e1, (fun e => by cases e), fun _ => ⟨e2, o, e3, hg, hq, by rw [← h4, ← hq]⟩⟩
    · cases h
set_option maxHeartbeats 4000000 in
set_option maxRecDepth 100000 in
theorem impl_EdtPut.calls (k : Nat) (A0_0 : Option Addr) (c0_0 : Nat) (l0_0 : List S57) (a0_1 : Int) (a0_2 : Int) (A0_3 : Option Addr) (c0_3 : Nat) (l0_3 : List S42) (a0_4 : Int) (a1 : Int) (a2 : Int) (a3 : S30) (r1 : List S57) (r2 : Int) (r3 : Int) (r4 : List S42) (r5 : Int) (r6 : Bool) (w : World) (hr0_0 : Kd.C k57 w A0_0 l0_0.length l0_0) (hc0_0 : l0_0.length ≤ c0_0) (hr0_3 : Kd.C k42 w A0_3 l0_3.length l0_3) (hc0_3 : l0_3.length ≤ c0_3) (hM : Txt.MLen w) (h : impl_EdtPut.f k l0_0 a0_1 a0_2 l0_3 a0_4 a1 a2 a3 = some (r1, r2, r3, r4, r5, r6)) :
    Calls Tryd.prog 5 #[.agg #[.slice A0_0 l0_0.length c0_0, .int .i64 a0_1, .int .i64 a0_2, .slice A0_3 l0_3.length c0_3, .int .i64 a0_4], .int .i64 a1, .int .i64 a2, .agg (cellV a3)] w fun e w' => ∃ v0_ v3_ : Value, e = .returned (.tuple #[.agg #[v0_, .int .i64 r2, .int .i64 r3, v3_, .int .i64 r5], .bool r6]) ∧ Kd.R k57 57 w' w.heap.size (fun _ => True) v0_ r1 ∧ Kd.S k42 42 w' w.heap.size (fun _ => True) v3_ r4 ∧ Below w.heap.size w w' := by
  have HM := Aside0.mk hM
  have HR0 := Aside0.mk hr0_0
  have HC0 := Aside0.mk hc0_0
  have HR3 := Aside0.mk hr0_3
  have HC3 := Aside0.mk hc0_3
  clear hM hr0_0 hc0_0 hr0_3 hc0_3
  obtain ⟨b, rr, e1, e2, e3⟩ := impl_EdtPut.parts h
  have E1 := Aside0.mk e1
  have E2 := Aside0.mk e2
  have E3 := Aside0.mk e3
  clear h e1 e2 e3
  go_enter Tryd.func5, Tryd.ntmps5
  go_upto_region 1 with (fail)
  have h3 := impl_EdtPut.blk w (.cells (l3A (.slice A0_0 l0_0.length c0_0) (.slice A0_3 l0_3.length c0_3) a0_1 a0_2 a0_4) 26) (.cells #[.int .i64 a1] 3) (.cells #[.int .i64 a2] 3) (.cells (cellV a3) 30) (.cells (l3A (.slice none 0 0) (.slice none 0 0) 0 0 0) 26)
  have hB0 : Below w.heap.size w (((((w.alloc (.cells (l3A (.slice A0_0 l0_0.length c0_0) (.slice A0_3 l0_3.length c0_3) a0_1 a0_2 a0_4) 26)).alloc (.cells #[.int .i64 a1] 3)).alloc (.cells #[.int .i64 a2] 3)).alloc (.cells (cellV a3) 30)).alloc (.cells (l3A (.slice none 0 0) (.slice none 0 0) 0 0 0) 26)) := below_alloc (below_alloc (below_alloc (below_alloc (below_alloc (Below.refl _ _) _) _) _) _) _
  refine wp_letter (fun W0 => (W0.heap[w.heap.size]? = some (.cells (l3A (.slice A0_0 l0_0.length c0_0) (.slice A0_3 l0_3.length c0_3) a0_1 a0_2 a0_4) 26 (0, 0)) ∧ W0.heap[w.heap.size + 1]? = some (.cells #[.int .i64 a1] 3 (0, 0)) ∧ W0.heap[w.heap.size + 2]? = some (.cells #[.int .i64 a2] 3 (0, 0)) ∧ W0.heap[w.heap.size + 3]? = some (.cells (cellV a3) 30 (0, 0)) ∧ W0.heap[w.heap.size + 4]? = some (.cells (l3A (.slice none 0 0) (.slice none 0 0) 0 0 0) 26 (0, 0))) ∧ Below w.heap.size w W0) ⟨h3, hB0⟩ ?_
  rintro W1 ⟨⟨hP, hb1, hb2, hb3, hZ⟩, hB⟩
  clear h3 hB0
  have HP := Aside0.mk hP
  have HZB := Aside0.mk hZ
  have HB := Aside0.mk hB
  have HED := Aside0.mk (edited_calls k A0_0 c0_0 l0_0 a0_1 a0_2 A0_3 c0_3 l0_3 a0_4 18 #[.pointer (some ⟨w.heap.size + 3, 0, none⟩), .pointer (some ⟨w.heap.size + 1, 0, none⟩), .pointer (some ⟨w.heap.size + 2, 0, none⟩)] (enters_of Tryd.func18 (by kernel_rfl) rfl) b r1 r2 r3 rr r5 r1 r2 r3 r4 r5 r6 W1 (Kd.C_below HR0.out hB) HC0.out (Kd.C_below HR3.out hB) HC3.out (Txt.MLen_below HM.out hB) E1.out (fun e => E2.out e) (fun e => by
      obtain ⟨z1, o, z0, z2, z3, z4⟩ := E3.out e
      refine ⟨z1, ?_⟩
      rw [z4]
      exact clo_Put a3 a1 a2 _ _ _ r1 r2 r3 rr r5 o r6 W1 hb3 ((blk_cell hb1 0).trans rfl) ((blk_cell hb2 0).trans rfl) (Txt.MLen_below HM.out hB) z0 z3 z2))
  clear hP hb1 hb2 hb3 hZ hB E1 E2 E3 HR0 HC0 HR3 HC3 HM
  go_wp2_with (first | (refine wpList_load_row rfl 26 _ rfl w.heap.size rfl 26 (l3A (.slice A0_0 l0_0.length c0_0) (.slice A0_3 l0_3.length c0_3) a0_1 a0_2 a0_4) (0, 0) _ HP.out Tryd.underlying26 rfl (by kernel_rfl) ?_) | (go_at_call 17; refine HED.out.mono ?_; rintro e_ W5 ⟨vc', vr', rfl, hrc, hsr, hb⟩; obtain ⟨Ad, cd, rfl⟩ := Kd.R_slice hrc; obtain ⟨Ae, ce, rfl⟩ := Kd.R_slice (Kd.S_R hsr); have HRC := Aside0.mk (Kd.R_lower hrc HB.out.size); have HSR := Aside0.mk (Kd.S_lower hsr HB.out.size); have HB5 := Aside0.mk (below_step HB.out hb); have HZ5 := Aside0.mk (blk_below HZB.out hb); clear hrc hsr hb) | (refine wpList_put 26 _ _ rfl rfl (w.heap.size + 4) 0 rfl (.agg (l3A (.slice Ad r1.length cd) (.slice Ae r4.length ce) r2 r3 r5)) rfl 26 (l3A (.slice none 0 0) (.slice none 0 0) 0 0 0) (l3A (.slice Ad r1.length cd) (.slice Ae r4.length ce) r2 r3 r5) HZ5.out (by kernel_rfl) rfl rfl rfl (fun W9 hp => ?_); have HFB := Aside0.mk hp.blk; have HF := Aside0.mk (pw_below_grown HB5.out _ (by have := blk_lt HZ5.out; omega) hp.grown (fun k hk => by injection hk with hk; omega)); have HFR := Aside0.mk (R_put HRC.out HZ5.out hp (by decide)); have HFS := Aside0.mk (S_put HSR.out HZ5.out hp (by decide)); clear hp))
  exact bodyPost_ret (results_ct rfl _ _ (w.heap.size + 4) 26 (l3A (.slice Ad r1.length cd) (.slice Ae r4.length ce) r2 r3 r5) (0, 0) _ rfl HFB.out Tryd.underlying26 rfl (by kernel_rfl)) rfl ⟨_, _, rfl, HFR.out, HFS.out, HF.out⟩

/-! ### spec_EdtPut: function 6 (by hand) -/
-- imports: Derived.Deep.AppendSrc Derived.Laws.NewBlocks
def spec_EdtPut.f (k : Nat) (l0_0 : List S57) (a0_1 : Int) (a0_2 : Int) (l0_3 : List S42) (a0_4 : Int) (a1 a2 : Int) (a3 : S30) : Option (List S57 × Int × Int × List S42 × Int × Bool) :=
  (spec_TblOk.f k l0_0 a0_1 a0_2 l0_3 a0_4).bind fun b => if b = true then (spec_l2Copy.f k l0_0 a0_1 a0_2 l0_3 a0_4).bind fun c => (spec_CellOk.f k a3.f0 a3.f1 a3.f2 a3.f3.f0 a3.f3.f1 a3.f4.f0 a3.f4.f1 a3.f5.f0 a3.f5.f1 a3.f6.f0 a3.f6.f1).bind fun o => if l0_3.length < 1000000 ∧ c.2.2.2.1.length = l0_3.length ∧ (rd_T42 l0_3 a1).f0.length < 1000000 then (if o = true ∧ putP l0_3 a1 a2 then some (c.1, c.2.1, c.2.2.1, c.2.2.2.1.set a1.toNat ⟨(rd_T42 l0_3 a1).f0.take a2.toNat ++ a3 :: (rd_T42 l0_3 a1).f0.drop a2.toNat, (rd_T42 c.2.2.2.1 a1).f1⟩, c.2.2.2.2, true) else some (c.1, c.2.1, c.2.2.1, c.2.2.2.1, c.2.2.2.2, false)) else none else some ([], 0, 0, [], 0, false)
theorem spec_EdtPut.mono : ∀ a0 a1 a2 a3 a4 a5 a6 a7 k, LeO (spec_EdtPut.f k a0 a1 a2 a3 a4 a5 a6 a7) (spec_EdtPut.f (k + 1) a0 a1 a2 a3 a4 a5 a6 a7) := fun _ _ _ _ _ _ _ _ _ => by
  unfold spec_EdtPut.f
  exact LeO.bind (spec_TblOk.mono _ _ _ _ _ _) fun _ => LeO.ite (LeO.bind (spec_l2Copy.mono _ _ _ _ _ _) fun _ => LeO.bind (spec_CellOk.mono _ _ _ _ _ _ _ _ _ _ _ _) fun _ => LeO.refl _) (LeO.refl _)
theorem spec_EdtPut.parts {k : Nat} {l0_0 : List S57} {a0_1 a0_2 : Int} {l0_3 : List S42} {a0_4 a1 a2 : Int} {a3 : S30} {c1 : List S57} {h1 f1 : Int} {r4 : List S42} {g1 : Int} {q : Bool} (h : spec_EdtPut.f k l0_0 a0_1 a0_2 l0_3 a0_4 a1 a2 a3 = some (c1, h1, f1, r4, g1, q)) :
    ∃ b r1, Aside0 (spec_TblOk.f k l0_0 a0_1 a0_2 l0_3 a0_4 = some b) ∧ ((b = false ∧ q = false ∧ r4 = [] ∧ c1 = [] ∧ h1 = 0 ∧ f1 = 0 ∧ g1 = 0) ∨ (b = true ∧ Aside0 (spec_l2Copy.f k l0_0 a0_1 a0_2 l0_3 a0_4 = some (c1, h1, f1, r1, g1)) ∧ (l0_3.length < 1000000 ∧ r1.length = l0_3.length ∧ (rd_T42 l0_3 a1).f0.length < 1000000) ∧ ∃ o, Aside0 (spec_CellOk.f k a3.f0 a3.f1 a3.f2 a3.f3.f0 a3.f3.f1 a3.f4.f0 a3.f4.f1 a3.f5.f0 a3.f5.f1 a3.f6.f0 a3.f6.f1 = some o) ∧ ((¬ (o = true ∧ putP l0_3 a1 a2) ∧ r4 = r1 ∧ q = false) ∨ ((o = true ∧ putP l0_3 a1 a2) ∧ r4 = r1.set a1.toNat ⟨(rd_T42 l0_3 a1).f0.take a2.toNat ++ a3 :: (rd_T42 l0_3 a1).f0.drop a2.toNat, (rd_T42 r1 a1).f1⟩ ∧ q = true)))) := by
  unfold spec_EdtPut.f at h
  obtain ⟨b, e1, h⟩ := Option.bind_eq_some_iff.1 h
  cases b
  · rw [if_neg (by decide)] at h
    simp only [Option.some.injEq, Prod.mk.injEq] at h
    obtain ⟨rfl, rfl, rfl, rfl, rfl, rfl⟩ := h
    exact ⟨false, [], ⟨e1⟩, .inl ⟨rfl, rfl, rfl, rfl, rfl, rfl, rfl⟩⟩
  · rw [if_pos rfl] at h
    obtain ⟨⟨x1, x2, x3, x4, x5⟩, e2, h⟩ := Option.bind_eq_some_iff.1 h
    obtain ⟨o, e3, h⟩ := Option.bind_eq_some_iff.1 h
    split at h
    · rename_i hg
      split at h
      · rename_i hy
        simp only [Option.some.injEq, Prod.mk.injEq] at h
        obtain ⟨rfl, rfl, rfl, rfl, rfl, rfl⟩ := h
        exact ⟨true, x4, ⟨e1⟩, .inr ⟨rfl, ⟨e2⟩, hg, o, ⟨e3⟩, .inr ⟨hy, rfl, rfl⟩⟩⟩
      · rename_i hy
        simp only [Option.some.injEq, Prod.mk.injEq] at h
        obtain ⟨rfl, rfl, rfl, rfl, rfl, rfl⟩ := h
        exact ⟨true, x4, ⟨e1⟩, .inr ⟨rfl, ⟨e2⟩, hg, o, ⟨e3⟩, .inl ⟨hy, rfl, rfl⟩⟩⟩
    · cases h
/-- The three blocks that the function takes. -/
structure spec_EdtPut.E4 (w : World) (pa ca : Array Value) (W : World) : Prop where
  bl : Below w.heap.size w W
  pb : W.heap[w.heap.size]? = some (.cells pa 26 (0, 0))
  cb : W.heap[w.heap.size + 1]? = some (.cells ca 30 (0, 0))
  zb : W.heap[w.heap.size + 2]? = some (.cells (l3A (.slice none 0 0) (.slice none 0 0) 0 0 0) 26 (0, 0))
theorem spec_EdtPut.E4.size {w W : World} {pa ca : Array Value} (h : spec_EdtPut.E4 w pa ca W) : w.heap.size + 3 ≤ W.heap.size := Nat.succ_le_of_lt (blk_lt h.zb)
theorem spec_EdtPut.E4.below {w W W' : World} {pa ca : Array Value} (h : spec_EdtPut.E4 w pa ca W) (hb : Below W.heap.size W W') : spec_EdtPut.E4 w pa ca W' := ⟨below_step h.bl hb, blk_below h.pb hb, blk_below h.cb hb, blk_below h.zb hb⟩
theorem spec_EdtPut.blk (w : World) (o1 o2 o3 : Obj) : (((w.alloc o1).alloc o2).alloc o3).heap[w.heap.size]? = some o1 ∧ (((w.alloc o1).alloc o2).alloc o3).heap[w.heap.size + 1]? = some o2 ∧ (((w.alloc o1).alloc o2).alloc o3).heap[w.heap.size + 2]? = some o3 := by
  have s1 : (w.alloc o1).heap.size = w.heap.size + 1 := by simp
  have s2 : ((w.alloc o1).alloc o2).heap.size = w.heap.size + 2 := by simp
  refine ⟨blk_alloc (blk_alloc (blk_new w o1) _) _, ?_, ?_⟩
  · rw [← s1]; exact blk_alloc (blk_new _ o2) _
  · rw [← s2]; exact blk_new _ o3
theorem spec_EdtPut.in_dec (x c d : Int) : spec_l1In.f x c d = some (decide (c ≤ x ∧ x ≤ d)) := by
  unfold spec_l1In.f
  split
  · congr 1; exact decide_eq_decide.2 (by omega)
  · congr 1; symm; exact decide_eq_false (by omega)
/-- What stands behind the copying. -/
structure spec_EdtPut.E5 (w : World) (pa ca : Array Value) (B : Nat) (Ac Ar : Option Addr) (cc cr : Nat) (c1 : List S57) (h1 f1 : Int) (r1 : List S42) (g1 : Int) (W : World) : Prop where
  e : spec_EdtPut.E4 w pa ca W
  xb : W.heap[B]? = some (.cells (l3A (.slice Ac c1.length cc) (.slice Ar r1.length cr) h1 f1 g1) 26 (0, 0))
  rc : Kd.R k57 57 W w.heap.size (fun _ => True) (.slice Ac c1.length cc) c1
  sr : Kd.S k42 42 W w.heap.size (fun _ => True) (.slice Ar r1.length cr) r1
  lt : w.heap.size + 3 ≤ B
theorem spec_EdtPut.E5.below {w W W' : World} {pa ca : Array Value} {B : Nat} {Ac Ar : Option Addr} {cc cr : Nat} {c1 : List S57} {h1 f1 : Int} {r1 : List S42} {g1 : Int} (h : spec_EdtPut.E5 w pa ca B Ac Ar cc cr c1 h1 f1 r1 g1 W) (hb : Below W.heap.size W W') : spec_EdtPut.E5 w pa ca B Ac Ar cc cr c1 h1 f1 r1 g1 W' := ⟨h.e.below hb, blk_below h.xb hb, Kd.R_below h.rc hb, Kd.S_below h.sr hb, h.lt⟩
def spec_EdtPut.T7 : Bool × List (List Nat × List Nat) := (true, [([], []), ([0], [0]), ([], []), ([], []), ([], []), ([], []), ([4, 5], [4, 5]), ([3, 6], [3, 6]), ([], []), ([8], [8]), ([7, 9, 7], [7, 9]), ([], []), ([], []), ([11, 12], [11, 12]), ([10, 13, 10], [10, 13]), ([1, 2, 0, 1, 2, 3, 4, 5, 6, 7, 8, 9, 10, 11, 12, 13, 14], [1, 2]), ([15, 0, 1, 2, 3, 4, 5, 6, 7, 8, 9, 10, 11, 12, 13, 14], [15]), ([16, 14, 14, 0, 1, 2, 3, 4, 5, 6, 7, 8, 9, 10, 11, 12, 13, 14], [14, 16])])
def spec_EdtPut.B7 : List Nat := [0, 1, 0, 0, 0, 0, 48, 120, 0, 256, 1016, 0, 0, 6144, 16376, 32767, 65535, 131071]
def spec_EdtPut.L7 : List (Nat × Tmp) := [(0, 59), (1, 60), (2, 61), (3, 62), (4, 63), (5, 64), (6, 65), (7, 66), (8, 67), (9, 68), (10, 69), (11, 70), (12, 71), (13, 72), (14, 73), (15, 74), (16, 75)]
def spec_EdtPut.O7 : List Nat := [0, 1, 2, 3, 4, 5, 6, 7, 8, 9, 10, 11, 12, 13, 14, 15, 16, 17]
theorem spec_EdtPut.tab7 : rtab .any (opsOf Tryd.f6 7) = spec_EdtPut.T7 := by kernel_rfl
theorem spec_EdtPut.bits7 : waitsOk spec_EdtPut.T7.2 spec_EdtPut.B7 = true := by kernel_rfl
theorem spec_EdtPut.base7 : baseOk spec_EdtPut.T7.2 spec_EdtPut.O7 = true := by kernel_rfl
theorem spec_EdtPut.lof7 : (lof spec_EdtPut.T7.2.length spec_EdtPut.O7 (fun _ => false) == List.replicate spec_EdtPut.T7.2.length false && spec_EdtPut.O7.length == spec_EdtPut.T7.2.length) = true := by kernel_rfl
theorem spec_EdtPut.ents7 : chkL (opsOf Tryd.f6 7) spec_EdtPut.O7 spec_EdtPut.L7 = true := by kernel_rfl
theorem spec_EdtPut.last7 : lastOk spec_EdtPut.B7 spec_EdtPut.O7 17 = true := by kernel_rfl
/-- What is known of the values of the region that makes the row. -/
def spec_EdtPut.P7 (base at_ m : Nat) (X : List (List Value)) (Z : List Value) (Y : List (List Value)) (V : Nat → Value) : Nat → Value → World → Prop
  | 3, v, W => ∃ g cur, v = .slice (some ⟨g, 0, none⟩) 0 0 ∧ RawB 11 30 base W g 0 0 cur []
  | 7, v, W => ∃ g cap cur, v = .slice (some ⟨g, 0, none⟩) at_ cap ∧ RawB 11 30 base W g at_ cap cur X ∧ (at_ = 0 → cap = 0)
  | 9, v, W => ∃ g cur, v = .slice (some ⟨g, 0, none⟩) 1 1 ∧ RawB 11 30 base W g 1 1 cur [Z]
  | 10, v, W => ∃ g cap cur, v = .slice (some ⟨g, 0, none⟩) (at_ + 1) cap ∧ RawB 11 30 base W g (at_ + 1) cap cur (X ++ [Z])
  | 14, v, W => ∃ g cap cur, v = .slice (some ⟨g, 0, none⟩) (at_ + 1 + m) cap ∧ RawB 11 30 base W g (at_ + 1 + m) cap cur (X ++ [Z] ++ Y)
  | j, v, _ => v = V j
def spec_EdtPut.V7 (B gr : Nat) (row : Int) (n cr at_ l m c2 : Nat) (ao yA : Option Addr) (z : Array Value) : Nat → Value
  | 0 => .pointer (some ⟨B, 3, none⟩)
  | 1 => .slice (some ⟨gr, 0, none⟩) n cr
  | 2 => .int .i64 row
  | 4 | 11 => .slice ao l c2
  | 5 | 12 => .int .i64 (at_ : Int)
  | 6 => .slice ao at_ c2
  | 8 => .agg z
  | 13 => .slice yA m (c2 - at_)
  | 15 | 16 => .pointer (some ⟨gr, row.toNat * 2, none⟩)
  | _ => undef
theorem spec_EdtPut.keep7 {base at_ m N : Nat} {X : List (List Value)} {Z : List Value} {Y : List (List Value)} {V : Nat → Value} {C : List Nat} (h8 : at_ + 1 ≤ N ∨ (10 ∈ C ∧ at_ ≤ N ∧ 1 ≤ N)) (h13 : 14 ∈ C) : ∀ (j : Nat) (v : Value) (W W' : World), j ∉ C → spec_EdtPut.P7 base at_ m X Z Y V j v W → StN 11 30 base N W W' → spec_EdtPut.P7 base at_ m X Z Y V j v W' := by
  intro j v W W' hj h hs
  unfold spec_EdtPut.P7 at h ⊢
  split at h
  · obtain ⟨g, cur, e, hB⟩ := h
    obtain ⟨c2, hB2⟩ := hs _ _ _ _ _ hB (Nat.zero_le _)
    exact ⟨g, c2, e, hB2⟩
  · obtain ⟨g, cap, cur, e, hB, hz⟩ := h
    obtain ⟨c2, hB2⟩ := hs _ _ _ _ _ hB (by omega)
    exact ⟨g, cap, c2, e, hB2, hz⟩
  · obtain ⟨g, cur, e, hB⟩ := h
    obtain ⟨c2, hB2⟩ := hs _ _ _ _ _ hB (by omega)
    exact ⟨g, c2, e, hB2⟩
  · obtain ⟨g, cap, cur, e, hB⟩ := h
    rcases h8 with h8 | ⟨h8, _⟩
    · obtain ⟨c2, hB2⟩ := hs _ _ _ _ _ hB h8
      exact ⟨g, cap, c2, e, hB2⟩
    · exact absurd h8 hj
  · exact absurd h13 hj
  · exact h
set_option maxHeartbeats 4000000 in
set_option maxRecDepth 100000 in
theorem spec_EdtPut.calls (k : Nat) (A0_0 : Option Addr) (c0_0 : Nat) (l0_0 : List S57) (a0_1 : Int) (a0_2 : Int) (A0_3 : Option Addr) (c0_3 : Nat) (l0_3 : List S42) (a0_4 : Int) (a1 a2 : Int) (a3 : S30) (r1 : List S57) (r2 : Int) (r3 : Int) (r4 : List S42) (r5 : Int) (r6 : Bool) (w : World) (hr0_0 : Kd.C k57 w A0_0 l0_0.length l0_0) (hc0_0 : l0_0.length ≤ c0_0) (hr0_3 : Kd.C k42 w A0_3 l0_3.length l0_3) (hc0_3 : l0_3.length ≤ c0_3) (h : spec_EdtPut.f k l0_0 a0_1 a0_2 l0_3 a0_4 a1 a2 a3 = some (r1, r2, r3, r4, r5, r6)) :
    Calls Tryd.prog 6 #[.agg #[.slice A0_0 l0_0.length c0_0, .int .i64 a0_1, .int .i64 a0_2, .slice A0_3 l0_3.length c0_3, .int .i64 a0_4], .int .i64 a1, .int .i64 a2, .agg (cellV a3)] w fun e w' => ∃ v0_ v3_ : Value, e = .returned (.tuple #[.agg #[v0_, .int .i64 r2, .int .i64 r3, v3_, .int .i64 r5], .bool r6]) ∧ Kd.R k57 57 w' w.heap.size (fun _ => True) v0_ r1 ∧ Kd.S k42 42 w' w.heap.size (fun _ => True) v3_ r4 ∧ Below w.heap.size w w' := by
  have HR0 := Aside0.mk hr0_0
  have HC0 := Aside0.mk hc0_0
  have HR3 := Aside0.mk hr0_3
  have HC3 := Aside0.mk hc0_3
  clear hr0_0 hc0_0 hr0_3 hc0_3
  obtain ⟨b, rr, E1, hs⟩ := spec_EdtPut.parts h
  have HS := Aside0.mk hs
  clear h hs
  have hu := Tryd.underlying26
  go_enter Tryd.func6, Tryd.ntmps6
  go_upto_region 1 with (fail)
  have h3 := spec_EdtPut.blk w (.cells (l3A (.slice A0_0 l0_0.length c0_0) (.slice A0_3 l0_3.length c0_3) a0_1 a0_2 a0_4) 26) (.cells #[.string a3.f0, .int .i64 a3.f1, .int .i64 a3.f2, .int .i64 a3.f3.f0, .int .i64 a3.f3.f1, .int .i64 a3.f4.f0, .int .i64 a3.f4.f1, .int .i64 a3.f5.f0, .int .i64 a3.f5.f1, .int .i64 a3.f6.f0, .int .i64 a3.f6.f1] 30) (.cells (l3A (.slice none 0 0) (.slice none 0 0) 0 0 0) 26)
  refine wp_letter (fun W0 => spec_EdtPut.E4 w (l3A (.slice A0_0 l0_0.length c0_0) (.slice A0_3 l0_3.length c0_3) a0_1 a0_2 a0_4) #[.string a3.f0, .int .i64 a3.f1, .int .i64 a3.f2, .int .i64 a3.f3.f0, .int .i64 a3.f3.f1, .int .i64 a3.f4.f0, .int .i64 a3.f4.f1, .int .i64 a3.f5.f0, .int .i64 a3.f5.f1, .int .i64 a3.f6.f0, .int .i64 a3.f6.f1] W0) ⟨below_alloc (below_alloc (below_alloc (Below.refl _ _) _) _) _, h3.1, h3.2.1, h3.2.2⟩ ?_
  clear h3
  rintro W1 hQ
  have HQ := Aside0.mk hQ
  clear hQ
  rcases HS.out with ⟨rfl, rfl, rfl, rfl, rfl, rfl, rfl⟩ | ⟨rfl, E2, hg, hs⟩
  · clear HS
    go_wp2_with (first | (refine wpList_load_row rfl 26 _ rfl w.heap.size rfl 26 (l3A (.slice A0_0 l0_0.length c0_0) (.slice A0_3 l0_3.length c0_3) a0_1 a0_2 a0_4) (0, 0) _ HQ.out.pb Tryd.underlying26 rfl (by kernel_rfl) ?_) | (go_at_call 8; (with_reducible refine (spec_TblOk.calls k A0_0 c0_0 l0_0 a0_1 a0_2 A0_3 c0_3 l0_3 a0_4 false _ (Kd.C_below HR0.out HQ.out.bl) HC0.out (Kd.C_below HR3.out HQ.out.bl) HC3.out E1.out).mono ?_); rintro e_ W2 ⟨rfl, hb⟩; replace HQ := Aside0.mk (HQ.out.below hb); clear hb) | (refine wpList_put 26 _ _ rfl rfl (w.heap.size + 2) 0 rfl (.agg (l3A (.slice none 0 0) (.slice none 0 0) 0 0 0)) rfl 26 (l3A (.slice none 0 0) (.slice none 0 0) 0 0 0) (l3A (.slice none 0 0) (.slice none 0 0) 0 0 0) HQ.out.zb (by kernel_rfl) rfl rfl rfl (fun W9 hp => ?_); have HFB := Aside0.mk hp.blk; have HF := Aside0.mk (pw_below_grown HQ.out.bl _ (Nat.le_trans (Nat.le_add_right _ 3) HQ.out.size) hp.grown (fun k hk => by injection hk with hk; omega)); clear hp))
    exact bodyPost_ret (results_ct rfl _ _ (w.heap.size + 2) 26 (l3A (.slice none 0 0) (.slice none 0 0) 0 0 0) (0, 0) _ rfl HFB.out Tryd.underlying26 rfl (by kernel_rfl)) rfl ⟨_, _, rfl, Kd.R_nil _ _ _ _ _, Kd.S_nil _ _ _ _ _, HF.out⟩
  obtain ⟨o, EC, hs⟩ := hs
  obtain ⟨hg1, hg2, hg3⟩ := hg
  have HG := Aside0.mk (And.intro hg1 (And.intro hg2 hg3))
  have w1 : wrap64 ((l0_3.length : Int) - 1) = (l0_3.length : Int) - 1 := by unfold wrap64; omega
  have HS2 := Aside0.mk hs
  clear HS hs hg1 hg2 hg3
  go_upto_region 4 with (first | (refine wpList_load_row rfl 26 _ rfl w.heap.size rfl 26 (l3A (.slice A0_0 l0_0.length c0_0) (.slice A0_3 l0_3.length c0_3) a0_1 a0_2 a0_4) (0, 0) _ HQ.out.pb Tryd.underlying26 rfl (by kernel_rfl) ?_) | (go_at_call 8; (with_reducible refine (spec_TblOk.calls k A0_0 c0_0 l0_0 a0_1 a0_2 A0_3 c0_3 l0_3 a0_4 true _ (Kd.C_below HR0.out HQ.out.bl) HC0.out (Kd.C_below HR3.out HQ.out.bl) HC3.out E1.out).mono ?_); rintro e_ W2 ⟨rfl, hb⟩; replace HQ := Aside0.mk (HQ.out.below hb); clear hb) | (go_at_call 22; (with_reducible refine (spec_l2Copy.calls k A0_0 c0_0 l0_0 a0_1 a0_2 A0_3 c0_3 l0_3 a0_4 r1 r2 r3 rr r5 _ (Kd.C_below HR0.out HQ.out.bl) HC0.out (Kd.C_below HR3.out HQ.out.bl) HC3.out E2.out).mono ?_); rintro e_ W3 ⟨vc, vr, rfl, hrc, hsr, hb⟩; obtain ⟨Ac, cc, rfl⟩ := Kd.R_slice hrc; obtain ⟨Ar, cr, rfl⟩ := Kd.R_slice (Kd.S_R hsr); have HRC := Aside0.mk (Kd.R_lower hrc (Nat.le_trans (Nat.le_add_right _ 3) HQ.out.size)); have HSR := Aside0.mk (Kd.S_lower hsr (Nat.le_trans (Nat.le_add_right _ 3) HQ.out.size)); replace HQ := Aside0.mk (HQ.out.below hb); clear hb hrc hsr) | (show wpList _ _ _ _ _ (World.alloc W3 _); have hz0 := blk_new W3 (.cells (l3A (.slice none 0 0) (.slice none 0 0) 0 0 0) 26); refine wpList_put 26 _ _ rfl rfl W3.heap.size 0 rfl (.agg (l3A (.slice Ac r1.length cc) (.slice Ar rr.length cr) r2 r3 r5)) rfl 26 (l3A (.slice none 0 0) (.slice none 0 0) 0 0 0) (l3A (.slice Ac r1.length cc) (.slice Ar rr.length cr) r2 r3 r5) hz0 (by kernel_rfl) rfl rfl rfl (fun W9 hp => ?_); have HFB := Aside0.mk hp.blk; have hbl := pw_below_grown (below_alloc (Below.refl W3.heap.size W3) _) _ (by simp) hp.grown (fun k hk => by injection hk with hk; omega); have HE := Aside0.mk (HQ.out.below hbl); have HFR := Aside0.mk (R_put (Kd.R_alloc HRC.out _) hz0 hp (by decide)); have HFS := Aside0.mk (S_put (Kd.S_alloc HSR.out _) hz0 hp (by decide)); clear hp hz0 hbl))
  refine wp_letter (fun W0 => spec_EdtPut.E5 w (l3A (.slice A0_0 l0_0.length c0_0) (.slice A0_3 l0_3.length c0_3) a0_1 a0_2 a0_4) #[.string a3.f0, .int .i64 a3.f1, .int .i64 a3.f2, .int .i64 a3.f3.f0, .int .i64 a3.f3.f1, .int .i64 a3.f4.f0, .int .i64 a3.f4.f1, .int .i64 a3.f5.f0, .int .i64 a3.f5.f1, .int .i64 a3.f6.f0, .int .i64 a3.f6.f1] W3.heap.size Ac Ar cc cr r1 r2 r3 rr r5 W0) ⟨HE.out, HFB.out, HFR.out, HFS.out, HQ.out.size⟩ ?_
  rintro W4 hQ
  generalize W3.heap.size = B at hQ ⊢
  clear HQ HRC HSR HFB HFR HFS HE E1
  have HQ := Aside0.mk hQ
  clear hQ
  have x3 : W4.cell? ⟨w.heap.size, 3, none⟩ = some (Value.slice A0_3 l0_3.length c0_3) := (blk_cell HQ.out.e.pb 3).trans rfl
  have A1 := Aside0.mk (spec_EdtPut.in_dec a1 0 ((l0_3.length : Int) - 1))
  cases o
  · obtain ⟨rfl, rfl⟩ : r4 = rr ∧ r6 = false := by
      rcases HS2.out with ⟨_, h2, h3⟩ | ⟨h2, _⟩
      · exact ⟨h2, h3⟩
      · exact absurd h2.1 (by decide)
    clear HS2 A1
    go_upto_region 5 with (first | ((with_reducible show wpList _ _ _ (Oper.mk (some 18) _ _ _ _ _ :: _) _ _); refine wpList_load_row rfl 30 _ rfl (w.heap.size + 1) rfl 30 #[.string a3.f0, .int .i64 a3.f1, .int .i64 a3.f2, .int .i64 a3.f3.f0, .int .i64 a3.f3.f1, .int .i64 a3.f4.f0, .int .i64 a3.f4.f1, .int .i64 a3.f5.f0, .int .i64 a3.f5.f1, .int .i64 a3.f6.f0, .int .i64 a3.f6.f1] (0, 0) _ HQ.out.e.cb Tryd.underlying30 rfl (by kernel_rfl) ?_) | (go_at_call 23; (with_reducible refine (spec_CellOk.calls k a3.f0 a3.f1 a3.f2 a3.f3.f0 a3.f3.f1 a3.f4.f0 a3.f4.f1 a3.f5.f0 a3.f5.f1 a3.f6.f0 a3.f6.f1 false _ EC.out).mono ?_); rintro e_ WC ⟨rfl, hbc⟩; replace HQ := Aside0.mk (HQ.out.below hbc); (try replace x3 := keepc (W := W4) x3 hbc); (try replace p0 := keepc (W := W4) p0 hbc); (try replace HC2 := Aside0.mk (Kd.C_below HC2.out hbc)); clear hbc))
    refine wp_letter (fun W0 => spec_EdtPut.E5 w (l3A (.slice A0_0 l0_0.length c0_0) (.slice A0_3 l0_3.length c0_3) a0_1 a0_2 a0_4) #[.string a3.f0, .int .i64 a3.f1, .int .i64 a3.f2, .int .i64 a3.f3.f0, .int .i64 a3.f3.f1, .int .i64 a3.f4.f0, .int .i64 a3.f4.f1, .int .i64 a3.f5.f0, .int .i64 a3.f5.f1, .int .i64 a3.f6.f0, .int .i64 a3.f6.f1] B Ac Ar cc cr r1 r2 r3 r4 r5 W0) (HQ.out.below (by repeat (with_reducible first | exact Below.refl _ _ | apply below_alloc | apply pw_below_drewN | apply below_drew1))) ?_
    rintro W5 hQ5
    clear HQ x3
    have HQ := Aside0.mk hQ5
    clear hQ5
    go_wp2_with (first | (refine wpList_load_row rfl 26 _ rfl B rfl 26 (l3A (.slice Ac r1.length cc) (.slice Ar r4.length cr) r2 r3 r5) (0, 0) _ HQ.out.xb Tryd.underlying26 rfl (by kernel_rfl) ?_) | (refine wpList_put 26 _ _ rfl rfl (w.heap.size + 2) 0 rfl (.agg (l3A (.slice Ac r1.length cc) (.slice Ar r4.length cr) r2 r3 r5)) rfl 26 (l3A (.slice none 0 0) (.slice none 0 0) 0 0 0) (l3A (.slice Ac r1.length cc) (.slice Ar r4.length cr) r2 r3 r5) HQ.out.e.zb (by kernel_rfl) rfl rfl rfl (fun W9 hp => ?_); have HFB := Aside0.mk hp.blk; have HF := Aside0.mk (pw_below_grown HQ.out.e.bl _ (Nat.le_trans (Nat.le_add_right _ 3) HQ.out.e.size) hp.grown (fun k hk => by injection hk with hk; omega)); have HFR := Aside0.mk (R_put HQ.out.rc HQ.out.e.zb hp (by decide)); have HFS := Aside0.mk (S_put HQ.out.sr HQ.out.e.zb hp (by decide)); clear hp))
    exact bodyPost_ret (results_ct rfl _ _ (w.heap.size + 2) 26 (l3A (.slice Ac r1.length cc) (.slice Ar r4.length cr) r2 r3 r5) (0, 0) _ rfl HFB.out Tryd.underlying26 rfl (by kernel_rfl)) rfl ⟨_, _, rfl, HFR.out, HFS.out, HF.out⟩
  by_cases h1 : 0 ≤ a1 ∧ a1 ≤ (l0_3.length : Int) - 1
  rotate_left
  · rw [decide_eq_false h1] at A1
    obtain ⟨rfl, rfl⟩ : r4 = rr ∧ r6 = false := by
      rcases HS2.out with ⟨_, h2, h3⟩ | ⟨h2, _⟩
      · exact ⟨h2, h3⟩
      · exact absurd h2.2.1 h1
    clear h1 HS2
    go_upto_region 5 with (first | ((with_reducible show wpList _ _ _ (Oper.mk (some 18) _ _ _ _ _ :: _) _ _); refine wpList_load_row rfl 30 _ rfl (w.heap.size + 1) rfl 30 #[.string a3.f0, .int .i64 a3.f1, .int .i64 a3.f2, .int .i64 a3.f3.f0, .int .i64 a3.f3.f1, .int .i64 a3.f4.f0, .int .i64 a3.f4.f1, .int .i64 a3.f5.f0, .int .i64 a3.f5.f1, .int .i64 a3.f6.f0, .int .i64 a3.f6.f1] (0, 0) _ HQ.out.e.cb Tryd.underlying30 rfl (by kernel_rfl) ?_) | (go_at_call 23; (with_reducible refine (spec_CellOk.calls k a3.f0 a3.f1 a3.f2 a3.f3.f0 a3.f3.f1 a3.f4.f0 a3.f4.f1 a3.f5.f0 a3.f5.f1 a3.f6.f0 a3.f6.f1 true _ EC.out).mono ?_); rintro e_ WC ⟨rfl, hbc⟩; replace HQ := Aside0.mk (HQ.out.below hbc); (try replace x3 := keepc (W := W4) x3 hbc); (try replace p0 := keepc (W := W4) p0 hbc); (try replace HC2 := Aside0.mk (Kd.C_below HC2.out hbc)); clear hbc) | (go_at_call 24; (first | (with_reducible refine (spec_l1In.calls _ _ _ _ _ A1.out).mono ?_)); rintro e_ W' ⟨rfl, ⟨nd, rfl⟩⟩))
    refine wp_letter (fun W0 => spec_EdtPut.E5 w (l3A (.slice A0_0 l0_0.length c0_0) (.slice A0_3 l0_3.length c0_3) a0_1 a0_2 a0_4) #[.string a3.f0, .int .i64 a3.f1, .int .i64 a3.f2, .int .i64 a3.f3.f0, .int .i64 a3.f3.f1, .int .i64 a3.f4.f0, .int .i64 a3.f4.f1, .int .i64 a3.f5.f0, .int .i64 a3.f5.f1, .int .i64 a3.f6.f0, .int .i64 a3.f6.f1] B Ac Ar cc cr r1 r2 r3 r4 r5 W0) (HQ.out.below (by repeat (with_reducible first | exact Below.refl _ _ | apply below_alloc | apply pw_below_drewN | apply below_drew1))) ?_
    rintro W5 hQ5
    clear HQ x3
    have HQ := Aside0.mk hQ5
    clear hQ5
    go_wp2_with (first | (refine wpList_load_row rfl 26 _ rfl B rfl 26 (l3A (.slice Ac r1.length cc) (.slice Ar r4.length cr) r2 r3 r5) (0, 0) _ HQ.out.xb Tryd.underlying26 rfl (by kernel_rfl) ?_) | (refine wpList_put 26 _ _ rfl rfl (w.heap.size + 2) 0 rfl (.agg (l3A (.slice Ac r1.length cc) (.slice Ar r4.length cr) r2 r3 r5)) rfl 26 (l3A (.slice none 0 0) (.slice none 0 0) 0 0 0) (l3A (.slice Ac r1.length cc) (.slice Ar r4.length cr) r2 r3 r5) HQ.out.e.zb (by kernel_rfl) rfl rfl rfl (fun W9 hp => ?_); have HFB := Aside0.mk hp.blk; have HF := Aside0.mk (pw_below_grown HQ.out.e.bl _ (Nat.le_trans (Nat.le_add_right _ 3) HQ.out.e.size) hp.grown (fun k hk => by injection hk with hk; omega)); have HFR := Aside0.mk (R_put HQ.out.rc HQ.out.e.zb hp (by decide)); have HFS := Aside0.mk (S_put HQ.out.sr HQ.out.e.zb hp (by decide)); clear hp))
    exact bodyPost_ret (results_ct rfl _ _ (w.heap.size + 2) 26 (l3A (.slice Ac r1.length cc) (.slice Ar r4.length cr) r2 r3 r5) (0, 0) _ rfl HFB.out Tryd.underlying26 rfl (by kernel_rfl)) rfl ⟨_, _, rfl, HFR.out, HFS.out, HF.out⟩
  rw [decide_eq_true h1] at A1
  obtain ⟨ad, A2, c2, hA, p0, p1, e2, hC2⟩ := at_T42 (Kd.C_below HR3.out HQ.out.e.bl) a1 h1.1 (by omega)
  subst hA
  obtain ⟨x, hx⟩ : ∃ x, rd_T42 l0_3 a1 = x := ⟨_, rfl⟩
  rw [hx] at p0 hC2 e2
  have hg3 := HG.out.2.2
  rw [hx] at hg3
  have HX3 := Aside0.mk hg3
  clear hg3
  have A3 := Aside0.mk (spec_EdtPut.in_dec a2 0 (x.f0.length : Int))
  have hrow0 : 0 ≤ a1 := h1.1
  have hrow1 : a1 < (l0_3.length : Int) := by omega
  have HXX := Aside0.mk hx
  have HC2 := Aside0.mk hC2
  have HE2 := Aside0.mk e2
  clear p1 hx hC2 e2
  by_cases h2 : 0 ≤ a2 ∧ a2 ≤ (x.f0.length : Int)
  rotate_left
  · rw [decide_eq_false h2] at A3
    obtain ⟨rfl, rfl⟩ : r4 = rr ∧ r6 = false := by
      rcases HS2.out with ⟨_, h3, h4⟩ | ⟨h3, _⟩
      · exact ⟨h3, h4⟩
      · exact absurd (HXX.out ▸ h3.2.2.1) h2
    clear h1 h2 HS2
    go_upto_region 5 with (first | ((with_reducible show wpList _ _ _ (Oper.mk (some 18) _ _ _ _ _ :: _) _ _); refine wpList_load_row rfl 30 _ rfl (w.heap.size + 1) rfl 30 #[.string a3.f0, .int .i64 a3.f1, .int .i64 a3.f2, .int .i64 a3.f3.f0, .int .i64 a3.f3.f1, .int .i64 a3.f4.f0, .int .i64 a3.f4.f1, .int .i64 a3.f5.f0, .int .i64 a3.f5.f1, .int .i64 a3.f6.f0, .int .i64 a3.f6.f1] (0, 0) _ HQ.out.e.cb Tryd.underlying30 rfl (by kernel_rfl) ?_) | (go_at_call 23; (with_reducible refine (spec_CellOk.calls k a3.f0 a3.f1 a3.f2 a3.f3.f0 a3.f3.f1 a3.f4.f0 a3.f4.f1 a3.f5.f0 a3.f5.f1 a3.f6.f0 a3.f6.f1 true _ EC.out).mono ?_); rintro e_ WC ⟨rfl, hbc⟩; replace HQ := Aside0.mk (HQ.out.below hbc); (try replace x3 := keepc (W := W4) x3 hbc); (try replace p0 := keepc (W := W4) p0 hbc); (try replace HC2 := Aside0.mk (Kd.C_below HC2.out hbc)); clear hbc) | (go_at_call 24; (first | (with_reducible refine (spec_l1In.calls _ _ _ _ _ A1.out).mono ?_) | (with_reducible refine (spec_l1In.calls _ _ _ _ _ A3.out).mono ?_)); rintro e_ W' ⟨rfl, ⟨nd, rfl⟩⟩))
    refine wp_letter (fun W0 => spec_EdtPut.E5 w (l3A (.slice A0_0 l0_0.length c0_0) (.slice (some ad) l0_3.length c0_3) a0_1 a0_2 a0_4) #[.string a3.f0, .int .i64 a3.f1, .int .i64 a3.f2, .int .i64 a3.f3.f0, .int .i64 a3.f3.f1, .int .i64 a3.f4.f0, .int .i64 a3.f4.f1, .int .i64 a3.f5.f0, .int .i64 a3.f5.f1, .int .i64 a3.f6.f0, .int .i64 a3.f6.f1] B Ac Ar cc cr r1 r2 r3 r4 r5 W0) (HQ.out.below (by repeat (with_reducible first | exact Below.refl _ _ | apply below_alloc | apply pw_below_drewN | apply below_drew1))) ?_
    rintro W5 hQ5
    clear HQ x3
    have HQ := Aside0.mk hQ5
    clear hQ5
    go_wp2_with (first | (refine wpList_load_row rfl 26 _ rfl B rfl 26 (l3A (.slice Ac r1.length cc) (.slice Ar r4.length cr) r2 r3 r5) (0, 0) _ HQ.out.xb Tryd.underlying26 rfl (by kernel_rfl) ?_) | (refine wpList_put 26 _ _ rfl rfl (w.heap.size + 2) 0 rfl (.agg (l3A (.slice Ac r1.length cc) (.slice Ar r4.length cr) r2 r3 r5)) rfl 26 (l3A (.slice none 0 0) (.slice none 0 0) 0 0 0) (l3A (.slice Ac r1.length cc) (.slice Ar r4.length cr) r2 r3 r5) HQ.out.e.zb (by kernel_rfl) rfl rfl rfl (fun W9 hp => ?_); have HFB := Aside0.mk hp.blk; have HF := Aside0.mk (pw_below_grown HQ.out.e.bl _ (Nat.le_trans (Nat.le_add_right _ 3) HQ.out.e.size) hp.grown (fun k hk => by injection hk with hk; omega)); have HFR := Aside0.mk (R_put HQ.out.rc HQ.out.e.zb hp (by decide)); have HFS := Aside0.mk (S_put HQ.out.sr HQ.out.e.zb hp (by decide)); clear hp))
    exact bodyPost_ret (results_ct rfl _ _ (w.heap.size + 2) 26 (l3A (.slice Ac r1.length cc) (.slice Ar r4.length cr) r2 r3 r5) (0, 0) _ rfl HFB.out Tryd.underlying26 rfl (by kernel_rfl)) rfl ⟨_, _, rfl, HFR.out, HFS.out, HF.out⟩
  rw [decide_eq_true h2] at A3
  by_cases h8 : (x.f0.length : Int) = 5
  · obtain ⟨rfl, rfl⟩ : r4 = rr ∧ r6 = false := by
      rcases HS2.out with ⟨_, h3, h4⟩ | ⟨h3, _⟩
      · exact ⟨h3, h4⟩
      · exact absurd h8 (HXX.out ▸ h3.2.2.2)
    have h5 : ((x.f0.length : Int) == 5) = true := by rw [beq_iff_eq]; exact h8
    clear h1 h2 h8 HS2
    go_upto_region 5 with (first | ((with_reducible show wpList _ _ _ (Oper.mk (some 18) _ _ _ _ _ :: _) _ _); refine wpList_load_row rfl 30 _ rfl (w.heap.size + 1) rfl 30 #[.string a3.f0, .int .i64 a3.f1, .int .i64 a3.f2, .int .i64 a3.f3.f0, .int .i64 a3.f3.f1, .int .i64 a3.f4.f0, .int .i64 a3.f4.f1, .int .i64 a3.f5.f0, .int .i64 a3.f5.f1, .int .i64 a3.f6.f0, .int .i64 a3.f6.f1] (0, 0) _ HQ.out.e.cb Tryd.underlying30 rfl (by kernel_rfl) ?_) | (go_at_call 23; (with_reducible refine (spec_CellOk.calls k a3.f0 a3.f1 a3.f2 a3.f3.f0 a3.f3.f1 a3.f4.f0 a3.f4.f1 a3.f5.f0 a3.f5.f1 a3.f6.f0 a3.f6.f1 true _ EC.out).mono ?_); rintro e_ WC ⟨rfl, hbc⟩; replace HQ := Aside0.mk (HQ.out.below hbc); (try replace x3 := keepc (W := W4) x3 hbc); (try replace p0 := keepc (W := W4) p0 hbc); (try replace HC2 := Aside0.mk (Kd.C_below HC2.out hbc)); clear hbc) | (go_at_call 24; (first | (with_reducible refine (spec_l1In.calls _ _ _ _ _ A1.out).mono ?_) | (with_reducible refine (spec_l1In.calls _ _ _ _ _ A3.out).mono ?_)); rintro e_ W' ⟨rfl, ⟨nd, rfl⟩⟩))
    refine wp_letter (fun W0 => spec_EdtPut.E5 w (l3A (.slice A0_0 l0_0.length c0_0) (.slice (some ad) l0_3.length c0_3) a0_1 a0_2 a0_4) #[.string a3.f0, .int .i64 a3.f1, .int .i64 a3.f2, .int .i64 a3.f3.f0, .int .i64 a3.f3.f1, .int .i64 a3.f4.f0, .int .i64 a3.f4.f1, .int .i64 a3.f5.f0, .int .i64 a3.f5.f1, .int .i64 a3.f6.f0, .int .i64 a3.f6.f1] B Ac Ar cc cr r1 r2 r3 r4 r5 W0) (HQ.out.below (by repeat (with_reducible first | exact Below.refl _ _ | apply below_alloc | apply pw_below_drewN | apply below_drew1))) ?_
    rintro W5 hQ5
    clear HQ x3
    have HQ := Aside0.mk hQ5
    clear hQ5
    go_wp2_with (first | (refine wpList_load_row rfl 26 _ rfl B rfl 26 (l3A (.slice Ac r1.length cc) (.slice Ar r4.length cr) r2 r3 r5) (0, 0) _ HQ.out.xb Tryd.underlying26 rfl (by kernel_rfl) ?_) | (refine wpList_put 26 _ _ rfl rfl (w.heap.size + 2) 0 rfl (.agg (l3A (.slice Ac r1.length cc) (.slice Ar r4.length cr) r2 r3 r5)) rfl 26 (l3A (.slice none 0 0) (.slice none 0 0) 0 0 0) (l3A (.slice Ac r1.length cc) (.slice Ar r4.length cr) r2 r3 r5) HQ.out.e.zb (by kernel_rfl) rfl rfl rfl (fun W9 hp => ?_); have HFB := Aside0.mk hp.blk; have HF := Aside0.mk (pw_below_grown HQ.out.e.bl _ (Nat.le_trans (Nat.le_add_right _ 3) HQ.out.e.size) hp.grown (fun k hk => by injection hk with hk; omega)); have HFR := Aside0.mk (R_put HQ.out.rc HQ.out.e.zb hp (by decide)); have HFS := Aside0.mk (S_put HQ.out.sr HQ.out.e.zb hp (by decide)); clear hp))
    exact bodyPost_ret (results_ct rfl _ _ (w.heap.size + 2) 26 (l3A (.slice Ac r1.length cc) (.slice Ar r4.length cr) r2 r3 r5) (0, 0) _ rfl HFB.out Tryd.underlying26 rfl (by kernel_rfl)) rfl ⟨_, _, rfl, HFR.out, HFS.out, HF.out⟩
  have h5 : ((x.f0.length : Int) == 5) = false := by rw [beq_eq_false_iff_ne]; exact h8
  obtain ⟨hr4, rfl⟩ : r4 = rr.set a1.toNat ⟨x.f0.take a2.toNat ++ a3 :: x.f0.drop a2.toNat, (rd_T42 rr a1).f1⟩ ∧ true = r6 := by
    rcases HS2.out with ⟨h3, _⟩ | ⟨_, h3, h4⟩
    · exact absurd ⟨rfl, h1, HXX.out ▸ h2, HXX.out ▸ h8⟩ h3
    · exact ⟨by rw [h3, HXX.out], h4.symm⟩
  obtain ⟨a2, rfl⟩ : ∃ a : Nat, a2 = (a : Int) := ⟨a2.toNat, by omega⟩
  have hil : a2 ≤ x.f0.length := by omega
  have hX3 := HX3.out
  have hrl : a1 < (rr.length : Int) := by have := HG.out.2.1; omega
  have HR4 := Aside0.mk hr4
  have hX3' := Aside0.mk hX3
  clear h1 h2 h8 HS2 hr4 hX3
  go_upto_region 6 with (first | ((with_reducible show wpList _ _ _ (Oper.mk (some 18) _ _ _ _ _ :: _) _ _); refine wpList_load_row rfl 30 _ rfl (w.heap.size + 1) rfl 30 #[.string a3.f0, .int .i64 a3.f1, .int .i64 a3.f2, .int .i64 a3.f3.f0, .int .i64 a3.f3.f1, .int .i64 a3.f4.f0, .int .i64 a3.f4.f1, .int .i64 a3.f5.f0, .int .i64 a3.f5.f1, .int .i64 a3.f6.f0, .int .i64 a3.f6.f1] (0, 0) _ HQ.out.e.cb Tryd.underlying30 rfl (by kernel_rfl) ?_) | (go_at_call 23; (with_reducible refine (spec_CellOk.calls k a3.f0 a3.f1 a3.f2 a3.f3.f0 a3.f3.f1 a3.f4.f0 a3.f4.f1 a3.f5.f0 a3.f5.f1 a3.f6.f0 a3.f6.f1 true _ EC.out).mono ?_); rintro e_ WC ⟨rfl, hbc⟩; replace HQ := Aside0.mk (HQ.out.below hbc); (try replace x3 := keepc (W := W4) x3 hbc); (try replace p0 := keepc (W := W4) p0 hbc); (try replace HC2 := Aside0.mk (Kd.C_below HC2.out hbc)); clear hbc) | (go_at_call 24; (first | (with_reducible refine (spec_l1In.calls _ _ _ _ _ A1.out).mono ?_) | (with_reducible refine (spec_l1In.calls _ _ _ _ _ A3.out).mono ?_)); rintro e_ W' ⟨rfl, ⟨nd, rfl⟩⟩))
  refine wp_letter (fun W0 => Below WC.heap.size WC W0) (by repeat (with_reducible first | exact Below.refl _ _ | apply below_alloc | apply pw_below_drewN | apply below_drew1)) ?_
  rintro W5 hb45
  have hQ5 := HQ.out.below hb45
  have x3' := keepc (W := WC) x3 hb45
  have p0' := keepc (W := WC) p0 hb45
  have hc' := Kd.C_below HC2.out hb45
  clear hb45
  clear HQ x3 p0 A1 A3 HC2 EC h5
  go_upto_region 7 with (fail)
  refine wp_letter (fun W0 => spec_EdtPut.E5 w (l3A (.slice A0_0 l0_0.length c0_0) (.slice (some ad) l0_3.length c0_3) a0_1 a0_2 a0_4) #[.string a3.f0, .int .i64 a3.f1, .int .i64 a3.f2, .int .i64 a3.f3.f0, .int .i64 a3.f3.f1, .int .i64 a3.f4.f0, .int .i64 a3.f4.f1, .int .i64 a3.f5.f0, .int .i64 a3.f5.f1, .int .i64 a3.f6.f0, .int .i64 a3.f6.f1] B Ac Ar cc cr r1 r2 r3 rr r5 W0 ∧ Kd.C k30 W0 A2 x.f0.length x.f0) ⟨hQ5, hc'⟩ ?_
  rintro W8 ⟨hQ, hck⟩
  clear hQ5 hc' x3' p0'
  have HG := Aside0.mk HG.out
  obtain ⟨gr, cr', hex, hgr1, _, cellx, hgx⟩ := Kd.S_form hQ.sr (by omega)
  obtain ⟨rfl, rfl⟩ : Ar = some ⟨gr, 0, none⟩ ∧ cr = cr' := by injection hex with h1 _ h2; exact ⟨h1, h2⟩
  obtain ⟨oki, cs, hcl, hMM, hcc, hoki, hH⟩ := Kd.S_lend hQ.sr z42 a1 hrow0 hrl
  clear hcl hcc hoki
  obtain ⟨v0, rfl, hri⟩ := k42_openM hMM
  have HHW := Aside0.mk (Kd.H_widen hH)
  obtain ⟨X, hXl, hXc, hXk⟩ := C_raw hck
  have HXK : Aside0 (∀ (j : Nat) (y : S30) (c : List Value), x.f0[j]? = some y → X[j]? = some c → ∀ (W : World) (base : Nat) (okq : Nat → Prop), k30.M W base okq y c) := ⟨fun j y c hy hc W base okq => hXk j y c hy hc⟩
  have HXL := Aside0.mk hXl
  have hce := HE2.out
  have HXT : Aside0 ((Kd.raw 11).C W8 A2 a2 (X.take a2)) := ⟨by
    have h := Kd.C_take (k := Kd.raw 11) (m := a2) (by rw [hXl]; exact hXc) (by omega)
    rw [List.length_take, Nat.min_eq_left (by omega)] at h
    exact h⟩
  obtain ⟨yA, hyA⟩ : ∃ yA, yA = if c2 = a2 then A2 else A2.map (·.add (a2 * 11)) := ⟨_, rfl⟩
  have HYT : Aside0 ((Kd.raw 11).C W8 yA (x.f0.length - a2) (X.drop a2)) := ⟨by
    have h := Kd.C_drop (k := Kd.raw 11) (m := a2) (c := c2) (by rw [hXl]; exact hXc) (by omega) (by omega)
    rw [List.length_drop, hXl] at h
    rw [hyA]
    exact h⟩
  have HSZ := Aside0.mk (R_size (Kd.S_R hQ.sr) hgx)
  have HXB := Aside0.mk hQ.xb
  have HCB := Aside0.mk hQ.e.cb
  have HQ8 := Aside0.mk hQ
  have HYA := Aside0.mk hyA
  have HGX := Aside0.mk hgx
  have HGR := Aside0.mk hgr1
  have hX3 := hX3'.out
  have hBlt := blk_lt hQ.xb
  have hgxlt := blk_lt hgx
  clear hXl hXc hXk hck hQ hex hyA hgx hgr1 hMM hH hri
  obtain ⟨i0, hi0, hz0, hzs, hzb⟩ := info_parts (P := Tryd.prog) (e := 30) (z := Value.agg #[(.string ⟨#[]⟩), (.int .i64 0), (.int .i64 0), (.int .i64 0), (.int .i64 0), (.int .i64 0), (.int .i64 0), (.int .i64 0), (.int .i64 0), (.int .i64 0), (.int .i64 0)]) (size := 11) (bytes := 96) (by kernel_rfl)
  have hus := Tryd.underlying40
  refine region_envF (T := spec_EdtPut.T7) (B := spec_EdtPut.B7) spec_EdtPut.O7 spec_EdtPut.L7 17 (spec_EdtPut.P7 W8.heap.size a2 (x.f0.length - a2) (X.take a2) #[.string a3.f0, .int .i64 a3.f1, .int .i64 a3.f2, .int .i64 a3.f3.f0, .int .i64 a3.f3.f1, .int .i64 a3.f4.f0, .int .i64 a3.f4.f1, .int .i64 a3.f5.f0, .int .i64 a3.f5.f1, .int .i64 a3.f6.f0, .int .i64 a3.f6.f1].toList (X.drop a2) (spec_EdtPut.V7 B gr a1 rr.length cr a2 x.f0.length (x.f0.length - a2) c2 A2 yA #[.string a3.f0, .int .i64 a3.f1, .int .i64 a3.f2, .int .i64 a3.f3.f0, .int .i64 a3.f3.f1, .int .i64 a3.f4.f0, .int .i64 a3.f4.f1, .int .i64 a3.f5.f0, .int .i64 a3.f5.f1, .int .i64 a3.f6.f0, .int .i64 a3.f6.f1]))
    (fun _ W => Below W8.heap.size W8 W)
    (fun _ W => ∃ w1 g cap cur, W = w1.setCells gr (a1.toNat * 2) [.slice (some ⟨g, 0, none⟩) (a2 + 1 + (x.f0.length - a2)) cap] ∧ Below W8.heap.size W8 w1 ∧ RawB 11 30 W8.heap.size w1 g (a2 + 1 + (x.f0.length - a2)) cap cur (X.take a2 ++ [#[.string a3.f0, .int .i64 a3.f1, .int .i64 a3.f2, .int .i64 a3.f3.f0, .int .i64 a3.f3.f1, .int .i64 a3.f4.f0, .int .i64 a3.f4.f1, .int .i64 a3.f5.f0, .int .i64 a3.f5.f1, .int .i64 a3.f6.f0, .int .i64 a3.f6.f1].toList] ++ X.drop a2))
    rfl spec_EdtPut.tab7 spec_EdtPut.bits7 spec_EdtPut.base7 spec_EdtPut.lof7 spec_EdtPut.ents7 spec_EdtPut.last7 (below_drew1 (Below.refl _ _)) ?_ ?_ ?_
  · skip
    refine alln_cons (EStepF.pure fun b_ E a' W ha hG hP => ?_) ?_
    · have s10 : a'.tmps[10]? = some (.pointer (some ⟨B, 0, none⟩)) := (slot_off ha rfl).trans rfl
      exact ⟨_, .pointer (some ⟨B, 3, none⟩), rfl, rfl, by clear ha hG hP; go_simp; try first | rfl | exact i64_w _, rfl, hG⟩
    refine alln_cons (EStepF.pure fun b E a' W ha hG hP => ?_) ?_
    · have s59 : a'.tmps[59]? = some (.pointer (some ⟨B, 3, none⟩)) := slotv ha (hP 0 rfl).1 rfl (hP 0 rfl).2
      have hc : W.cell? ⟨B, 3, none⟩ = some (.slice (some ⟨gr, 0, none⟩) rr.length cr) := (blk_cell (blk_below HXB.out hG) 3).trans rfl
      exact ⟨_, .slice (some ⟨gr, 0, none⟩) rr.length cr, rfl, rfl, by clear ha hG hP; go_simp, rfl, hG⟩
    refine alln_cons (EStepF.pure fun b_ E a' W ha hG hP => ?_) ?_
    · have s1 : a'.tmps[1]? = some (.int .i64 a1) := (slot_off ha rfl).trans rfl
      exact ⟨_, .int .i64 a1, rfl, rfl, by clear ha hG hP; go_simp; try first | rfl | exact i64_w _, rfl, hG⟩
    refine alln_cons (EStepF.step [10, 14] (spec_EdtPut.keep7 (N := max 1 a2) (.inr ⟨by simp, by omega, by omega⟩) (by simp)) rfl fun b E a' W ha hG hP hoff hb => ?_) ?_
    · exact ⟨_, .slice (some ⟨W.heap.size, 0, none⟩) 0 0, W.alloc (.cells #[] 30), rfl, rfl, by clear ha hG hP hoff hb; go_simp; try rfl, ⟨W.heap.size, #[], rfl, ⟨blk_new W _, hG.size, rfl, Nat.le_refl _, Nat.zero_le _, rfl, rfl, by simp, by simp⟩⟩, StN.alloc _ _ _ _ W _, below_alloc hG _⟩
    refine alln_cons (EStepF.pure fun b_ E a' W ha hG hP => ?_) ?_
    · have s11 : a'.tmps[11]? = some (.slice A2 x.f0.length c2) := (slot_off ha rfl).trans rfl
      exact ⟨_, .slice A2 x.f0.length c2, rfl, rfl, by clear ha hG hP; go_simp; try first | rfl | exact i64_w _, rfl, hG⟩
    refine alln_cons (EStepF.pure fun b_ E a' W ha hG hP => ?_) ?_
    · have s2 : a'.tmps[2]? = some (.int .i64 (a2 : Int)) := (slot_off ha rfl).trans rfl
      exact ⟨_, .int .i64 (a2 : Int), rfl, rfl, by clear ha hG hP; go_simp; try first | rfl | exact i64_w _, rfl, hG⟩
    refine alln_cons (EStepF.pure fun b E a' W ha hG hP => ?_) ?_
    · have s63 : a'.tmps[63]? = some (.slice A2 x.f0.length c2) := slotv ha (hP 4 rfl).1 rfl (hP 4 rfl).2
      have s64 : a'.tmps[64]? = some (.int .i64 (a2 : Int)) := slotv ha (hP 5 rfl).1 rfl (hP 5 rfl).2
      have q1 : a2 ≤ c2 := by omega
      exact ⟨_, .slice A2 a2 c2, rfl, rfl, by clear ha hG hP; cases A2 <;> go_simp, rfl, hG⟩
    refine alln_cons (EStepF.stepO [10, 14] (spec_EdtPut.keep7 (N := max 1 a2) (.inr ⟨by simp, by omega, by omega⟩) (by simp)) rfl (.call { callee := .builtin .append, args := #[.tmp 62, .tmp 65], argTypes := #[40, 40] }) ⟨_, rfl, rfl, rfl⟩ fun b E a' W oi ho ha hG hP hoff hb => ?_) ?_
    · obtain ⟨g0, cur0, h0, hB0⟩ := (hP 3 rfl).2
      have s62 : a'.tmps[62]? = some (.slice (some ⟨g0, 0, none⟩) 0 0) := slotv ha (hP 3 rfl).1 rfl h0
      have s65 : a'.tmps[65]? = some (.slice A2 a2 c2) := slotv ha (hP 6 rfl).1 rfl (hP 6 rfl).2
      obtain ⟨g1, cap1, cur1, W1, hr, hB1, hbl, hz, hfr⟩ := append_raw (P := Tryd.prog) W 40 oi.type 30 i0 _ 11 96 hus hi0 hz0 hzs hzb rfl (by decide) hB0 hG.size (Kd.C_below HXT.out hG) (c := c2) (fun _ => .inr trivial) (by omega) (by omega)
      rw [Nat.zero_add] at hr hB1
      exact ⟨_, W1, exec_append ho (by simp [Act.eval, Array.getD_eq_getD_getElem?, s62]) (by simp [Act.eval, Array.getD_eq_getD_getElem?, s65]) hr, ⟨g1, cap1, cur1, rfl, hB1, hz⟩, fun g' n' cap' cur' rows' h' hn' => hfr h' (fun _ => by rcases Nat.eq_zero_or_pos a2 with h | h; exact .inl h; exact .inr (.inl (by omega))), hG.trans hbl⟩
    refine alln_cons (EStepF.pure fun b E a' W ha hG hP => ?_) ?_
    · have s7 : a'.tmps[7]? = some (.pointer (some ⟨w.heap.size + 1, 0, none⟩)) := (slot_off ha rfl).trans rfl
      have hcb := blk_below HCB.out hG
      have hc0 : W.cell? ⟨w.heap.size + 1, 0, none⟩ = some (.string a3.f0) := (blk_cell hcb 0).trans rfl
      have hc1 : W.cell? ⟨w.heap.size + 1, 1, none⟩ = some (.int .i64 a3.f1) := (blk_cell hcb 1).trans rfl
      have hc2 : W.cell? ⟨w.heap.size + 1, 2, none⟩ = some (.int .i64 a3.f2) := (blk_cell hcb 2).trans rfl
      have hc3 : W.cell? ⟨w.heap.size + 1, 3, none⟩ = some (.int .i64 a3.f3.f0) := (blk_cell hcb 3).trans rfl
      have hc4 : W.cell? ⟨w.heap.size + 1, 4, none⟩ = some (.int .i64 a3.f3.f1) := (blk_cell hcb 4).trans rfl
      have hc5 : W.cell? ⟨w.heap.size + 1, 5, none⟩ = some (.int .i64 a3.f4.f0) := (blk_cell hcb 5).trans rfl
      have hc6 : W.cell? ⟨w.heap.size + 1, 6, none⟩ = some (.int .i64 a3.f4.f1) := (blk_cell hcb 6).trans rfl
      have hc7 : W.cell? ⟨w.heap.size + 1, 7, none⟩ = some (.int .i64 a3.f5.f0) := (blk_cell hcb 7).trans rfl
      have hc8 : W.cell? ⟨w.heap.size + 1, 8, none⟩ = some (.int .i64 a3.f5.f1) := (blk_cell hcb 8).trans rfl
      have hc9 : W.cell? ⟨w.heap.size + 1, 9, none⟩ = some (.int .i64 a3.f6.f0) := (blk_cell hcb 9).trans rfl
      have hc10 : W.cell? ⟨w.heap.size + 1, 10, none⟩ = some (.int .i64 a3.f6.f1) := (blk_cell hcb 10).trans rfl
      exact ⟨_, .agg #[.string a3.f0, .int .i64 a3.f1, .int .i64 a3.f2, .int .i64 a3.f3.f0, .int .i64 a3.f3.f1, .int .i64 a3.f4.f0, .int .i64 a3.f4.f1, .int .i64 a3.f5.f0, .int .i64 a3.f5.f1, .int .i64 a3.f6.f0, .int .i64 a3.f6.f1], rfl, rfl, by clear ha hG hP hcb; go_simp, rfl, hG⟩
    refine alln_cons (EStepF.step [10, 14] (spec_EdtPut.keep7 (N := max 1 a2) (.inr ⟨by simp, by omega, by omega⟩) (by simp)) rfl fun b E a' W ha hG hP hoff hb => ?_) ?_
    · have s67 : a'.tmps[67]? = some (.agg #[.string a3.f0, .int .i64 a3.f1, .int .i64 a3.f2, .int .i64 a3.f3.f0, .int .i64 a3.f3.f1, .int .i64 a3.f4.f0, .int .i64 a3.f4.f1, .int .i64 a3.f5.f0, .int .i64 a3.f5.f1, .int .i64 a3.f6.f0, .int .i64 a3.f6.f1]) := slotv ha (hP 8 rfl).1 rfl (hP 8 rfl).2
      exact ⟨_, .slice (some ⟨W.heap.size, 0, none⟩) 1 1, W.alloc (.cells #[.string a3.f0, .int .i64 a3.f1, .int .i64 a3.f2, .int .i64 a3.f3.f0, .int .i64 a3.f3.f1, .int .i64 a3.f4.f0, .int .i64 a3.f4.f1, .int .i64 a3.f5.f0, .int .i64 a3.f5.f1, .int .i64 a3.f6.f0, .int .i64 a3.f6.f1] 30), rfl, rfl, by clear ha hG hP hoff hb; go_simp; try rfl, ⟨W.heap.size, #[.string a3.f0, .int .i64 a3.f1, .int .i64 a3.f2, .int .i64 a3.f3.f0, .int .i64 a3.f3.f1, .int .i64 a3.f4.f0, .int .i64 a3.f4.f1, .int .i64 a3.f5.f0, .int .i64 a3.f5.f1, .int .i64 a3.f6.f0, .int .i64 a3.f6.f1], rfl, ⟨blk_new W _, hG.size, rfl, Nat.le_refl _, by unfold maxLen; omega, rfl, rfl, by simp, by intro r hr u hu; rw [List.mem_singleton] at hr; subst hr; simp only [List.mem_cons, List.not_mem_nil, or_false] at hu; rcases hu with rfl | rfl | rfl | rfl | rfl | rfl | rfl | rfl | rfl | rfl | rfl <;> rfl⟩⟩, StN.alloc _ _ _ _ W _, below_alloc hG _⟩
    refine alln_cons (EStepF.stepO [10, 14] (spec_EdtPut.keep7 (N := max 1 a2) (.inr ⟨by simp, by omega, by omega⟩) (by simp)) rfl (.call { callee := .builtin .append, args := #[.tmp 66, .tmp 68], argTypes := #[40, 40] }) ⟨_, rfl, rfl, rfl⟩ fun b E a' W oi ho ha hG hP hoff hb => ?_) ?_
    · obtain ⟨g5, cap5, cur5, h5, hB5, hz5⟩ := (hP 7 rfl).2
      obtain ⟨g7, cur7, h7, hB7⟩ := (hP 9 rfl).2
      have s66 : a'.tmps[66]? = some (.slice (some ⟨g5, 0, none⟩) a2 cap5) := slotv ha (hP 7 rfl).1 rfl h5
      have s68 : a'.tmps[68]? = some (.slice (some ⟨g7, 0, none⟩) 1 1) := slotv ha (hP 9 rfl).1 rfl h7
      obtain ⟨g1, cap1, cur1, W1, hr, hB1, hbl, hz, hfr⟩ := append_raw (P := Tryd.prog) W 40 oi.type 30 i0 _ 11 96 hus hi0 hz0 hzs hzb rfl (by decide) hB5 hG.size (Kd.R_reads' hB7.raw).2.2 (c := 1) (fun _ => .inr trivial) (by simp only [List.length_singleton]; omega) (by simp only [List.length_singleton]; omega)
      exact ⟨_, W1, exec_append ho (by simp [Act.eval, Array.getD_eq_getD_getElem?, s66]) (by simp [Act.eval, Array.getD_eq_getD_getElem?, s68]) hr, ⟨g1, cap1, cur1, rfl, hB1⟩, fun g' n' cap' cur' rows' h' hn' => hfr h' (fun _ => by
        simp only [List.length_singleton]
        rcases Nat.eq_zero_or_pos a2 with h | h
        · exact .inr (.inl (by have := hz5 h; omega))
        · exact .inr (.inr (by omega))), hG.trans hbl⟩
    refine alln_cons (EStepF.pure fun b_ E a' W ha hG hP => ?_) ?_
    · have s11 : a'.tmps[11]? = some (.slice A2 x.f0.length c2) := (slot_off ha rfl).trans rfl
      exact ⟨_, .slice A2 x.f0.length c2, rfl, rfl, by clear ha hG hP; go_simp; try first | rfl | exact i64_w _, rfl, hG⟩
    refine alln_cons (EStepF.pure fun b_ E a' W ha hG hP => ?_) ?_
    · have s2 : a'.tmps[2]? = some (.int .i64 (a2 : Int)) := (slot_off ha rfl).trans rfl
      exact ⟨_, .int .i64 (a2 : Int), rfl, rfl, by clear ha hG hP; go_simp; try first | rfl | exact i64_w _, rfl, hG⟩
    refine alln_cons (EStepF.pure fun b E a' W ha hG hP => ?_) ?_
    · have s70 : a'.tmps[70]? = some (.slice A2 x.f0.length c2) := slotv ha (hP 11 rfl).1 rfl (hP 11 rfl).2
      have s71 : a'.tmps[71]? = some (.int .i64 (a2 : Int)) := slotv ha (hP 12 rfl).1 rfl (hP 12 rfl).2
      have q1 : a2 ≤ c2 := by omega
      exact ⟨_, .slice yA (x.f0.length - a2) (c2 - a2), rfl, rfl, by
        rw [HYA.out]
        clear ha hG hP
        by_cases hq : c2 = a2
        · subst hq; cases A2 <;> go_simp
        · cases A2 <;> go_simp, rfl, hG⟩
    refine alln_cons (EStepF.stepO [14] (spec_EdtPut.keep7 (N := a2 + 1) (.inl (Nat.le_refl _)) (by simp)) rfl (.call { callee := .builtin .append, args := #[.tmp 69, .tmp 72], argTypes := #[40, 40] }) ⟨_, rfl, rfl, rfl⟩ fun b E a' W oi ho ha hG hP hoff hb => ?_) ?_
    · obtain ⟨g8, cap8, cur8, h8, hB8⟩ := (hP 10 rfl).2
      have s69 : a'.tmps[69]? = some (.slice (some ⟨g8, 0, none⟩) (a2 + 1) cap8) := slotv ha (hP 10 rfl).1 rfl h8
      have s72 : a'.tmps[72]? = some (.slice yA (x.f0.length - a2) (c2 - a2)) := slotv ha (hP 13 rfl).1 rfl (hP 13 rfl).2
      obtain ⟨g1, cap1, cur1, W1, hr, hB1, hbl, hz, hfr⟩ := append_raw (P := Tryd.prog) W 40 oi.type 30 i0 _ 11 96 hus hi0 hz0 hzs hzb rfl (by decide) hB8 hG.size (Kd.C_below HYT.out hG) (c := c2 - a2) (fun _ => .inr trivial) (by omega) (by omega)
      exact ⟨_, W1, exec_append ho (by simp [Act.eval, Array.getD_eq_getD_getElem?, s69]) (by simp [Act.eval, Array.getD_eq_getD_getElem?, s72]) hr, ⟨g1, cap1, cur1, rfl, hB1⟩, fun g' n' cap' cur' rows' h' hn' => hfr h' (fun _ => .inr (.inr hn')), hG.trans hbl⟩
    refine alln_cons (EStepF.pure fun b_ E a' W ha hG hP => ?_) ?_
    · have s60 : a'.tmps[60]? = some (.slice (some ⟨gr, 0, none⟩) rr.length cr) := slotv ha (hP 1 rfl).1 rfl (hP 1 rfl).2
      have s61 : a'.tmps[61]? = some (.int .i64 a1) := slotv ha (hP 2 rfl).1 rfl (hP 2 rfl).2
      exact ⟨_, .pointer (some ⟨gr, a1.toNat * 2, none⟩), rfl, rfl, by clear ha hG hP; go_simp; try first | rfl | exact i64_w _, rfl, hG⟩
    refine alln_cons (EStepF.pure fun b_ E a' W ha hG hP => ?_) alln_last
    · have s74 : a'.tmps[74]? = some (.pointer (some ⟨gr, a1.toNat * 2, none⟩)) := slotv ha (hP 15 rfl).1 rfl (hP 15 rfl).2
      exact ⟨_, .pointer (some ⟨gr, a1.toNat * 2, none⟩), rfl, rfl, by clear ha hG hP; go_simp; try first | rfl | exact i64_w _, rfl, hG⟩
  · intro b E a' W ha hG hP hb
    have s75 : a'.tmps[75]? = some (.pointer (some ⟨gr, a1.toNat * 2, none⟩)) := slotv ha (hP 16 rfl (by decide)).1 rfl (hP 16 rfl (by decide)).2
    obtain ⟨g, cap, cur, h13, hB13⟩ := (hP 14 rfl (by decide)).2
    have s73 : a'.tmps[73]? = some (.slice (some ⟨g, 0, none⟩) (a2 + 1 + (x.f0.length - a2)) cap) := slotv ha (hP 14 rfl (by decide)).1 rfl h13
    have hn : a1.toNat * 2 + 1 ≤ cellx.size := by
      rw [HSZ.out.1]
      have := HSZ.out.2
      have := Nat.mul_le_mul_right 2 (show a1.toNat + 1 ≤ cr by omega)
      show a1.toNat * 2 + 1 ≤ cr * 2
      omega
    exact ⟨_, rfl, fun K hK => skip_ rfl rfl (run_blk 40 rfl (.slice (some ⟨g, 0, none⟩) (a2 + 1 + (x.f0.length - a2)) cap) [.slice (some ⟨g, 0, none⟩) (a2 + 1 + (x.f0.length - a2)) cap] (by simp [Act.eval, Array.getD_eq_getD_getElem?, s75]) (by simp [Act.eval, Array.getD_eq_getD_getElem?, s73]) rfl (by kernel_rfl) (by intro q hq; rw [List.mem_singleton] at hq; subst hq; rfl) (blk_below HGX.out hG) hn) (hK.out undef _ ⟨W, g, cap, cur, rfl, hG, hB13⟩)⟩
  · intro E b W hall hF
    obtain ⟨w1, g, cap, cur, rfl, hbl, hB⟩ := hF
    rw [putSel_all (fun x hx => hall x.1 (by revert x; decide))]
    simp only [spec_EdtPut.L7, List.foldl, Act.put, List.setIfInBounds_toArray, List.set_cons_zero, List.set_cons_succ]
    have hgx1 := blk_below HGX.out hbl
    obtain ⟨hHf, hgf⟩ := Kd.H_seg (Kd.H_below HHW.out hbl) hrow0 hrl (seg := [.slice (some ⟨g, 0, none⟩) (a2 + 1 + (x.f0.length - a2)) cap]) (j := 0) (show 0 + 1 ≤ 2 by decide) (by intro q hq; rw [List.mem_singleton] at hq; subst hq; rfl)
    have hlen : (x.f0.take a2 ++ a3 :: x.f0.drop a2).length = a2 + 1 + (x.f0.length - a2) := by rw [ins_len _ _ _ hil]; omega
    have hR1 : Kd.R k30 30 w1 W8.heap.size (fun _ => True) (.slice (some ⟨g, 0, none⟩) (a2 + 1 + (x.f0.length - a2)) cap) (x.f0.take a2 ++ a3 :: x.f0.drop a2) := raw_R (d := k30) hB.raw (by rw [hlen]; exact hB.len.symm) (fun j y c hy hc okq => by
      rw [mix_at X X _ a2 (by rw [HXL.out]; exact hil)] at hc
      rw [ins_at _ _ _ hil] at hy
      by_cases j1 : j < a2
      · rw [if_pos j1] at hy hc
        exact HXK.out j y c hy hc _ _ _
      · rw [if_neg j1] at hy hc
        by_cases j2 : j = a2
        · rw [if_pos j2] at hy hc
          obtain rfl := Option.some.inj hy
          obtain rfl := Option.some.inj hc
          exact k30_mkM _ _ _ _
        · rw [if_neg j2] at hy hc
          exact HXK.out (j - 1) y c hy hc _ _ _)
    have hrf := Kd.R_set (Kd.R_tight rfl hR1) hgx1 (by decide) (a1.toNat * 2) (.slice (some ⟨g, 0, none⟩) (a2 + 1 + (x.f0.length - a2)) cap)
    have hS := Kd.H_back hHf (x' := (⟨x.f0.take a2 ++ a3 :: x.f0.drop a2, (rd_T42 rr a1).f1⟩ : S42)) (okp := fun k => some k = (Value.slice (some ⟨g, 0, none⟩) (a2 + 1 + (x.f0.length - a2)) cap).ownBlock) (show k42.M _ _ _ _ _ from k42_mkM _ _ _ (⟨x.f0.take a2 ++ a3 :: x.f0.drop a2, (rd_T42 rr a1).f1⟩ : S42) (Kd.R_lower hrf (by have := HQ8.out.e.size; omega))) (fun k hk => by
      obtain rfl : k = g := Option.some.inj hk
      exact .inr ⟨trivial, hB.bg⟩)
    have hput : r4 = rr.set a1.toNat ⟨x.f0.take a2 ++ a3 :: x.f0.drop a2, (rd_T42 rr a1).f1⟩ := by rw [HR4.out, Int.toNat_natCast]
    have hl4 : r4.length = rr.length := by rw [hput, List.length_set]
    rw [← hput] at hS
    have he1 := HQ8.out.below hbl
    have hxz := blk_ne hgx1 he1.e.zb (by decide)
    have hxp := blk_ne hgx1 he1.e.pb (by decide)
    have hxc := blk_ne hgx1 he1.e.cb (by decide)
    have hxx := blk_ne hgx1 he1.xb (by decide)
    have hsz8 := HQ8.out.e.size
    have HE5 : Aside0 (spec_EdtPut.E5 w (l3A (.slice A0_0 l0_0.length c0_0) (.slice (some ad) l0_3.length c0_3) a0_1 a0_2 a0_4) #[.string a3.f0, .int .i64 a3.f1, .int .i64 a3.f2, .int .i64 a3.f3.f0, .int .i64 a3.f3.f1, .int .i64 a3.f4.f0, .int .i64 a3.f4.f1, .int .i64 a3.f5.f0, .int .i64 a3.f5.f1, .int .i64 a3.f6.f0, .int .i64 a3.f6.f1] B Ac (some ⟨gr, 0, none⟩) cc cr r1 r2 r3 r4 r5 (w1.setCells gr (a1.toNat * 2) [.slice (some ⟨g, 0, none⟩) (a2 + 1 + (x.f0.length - a2)) cap])) := ⟨⟨pw_below_grown he1.e.bl _ (by have := hbl.size; omega) hgf (fun k hk => by injection hk with hk; have := HGR.out; omega), blk_far he1.e.pb (fun e => hxp e.symm) _, blk_far he1.e.cb (fun e => hxc e.symm) _, blk_far he1.e.zb (fun e => hxz e.symm) _⟩, by rw [hl4]; exact blk_far he1.xb (fun e => hxx e.symm) _, Kd.R_set he1.rc hgx1 (by decide) _ _, by rw [hl4]; exact hS, he1.lt⟩
    clear hS hput hl4 he1 hxz hxp hxc hxx hsz8 hrf hR1 hlen hHf hgf hgx1 hB hbl hall
    go_upto_region 8 with (fail)
    refine wp_letter (fun W0 => spec_EdtPut.E5 w (l3A (.slice A0_0 l0_0.length c0_0) (.slice (some ad) l0_3.length c0_3) a0_1 a0_2 a0_4) #[.string a3.f0, .int .i64 a3.f1, .int .i64 a3.f2, .int .i64 a3.f3.f0, .int .i64 a3.f3.f1, .int .i64 a3.f4.f0, .int .i64 a3.f4.f1, .int .i64 a3.f5.f0, .int .i64 a3.f5.f1, .int .i64 a3.f6.f0, .int .i64 a3.f6.f1] B Ac (some ⟨gr, 0, none⟩) cc cr r1 r2 r3 r4 r5 W0) HE5.out ?_
    rintro W6 hQ6
    clear HE5 HQ8 HXB HCB HGX HGR HSZ HYA HXT HYT HXL HXK HHW
    have HQ := Aside0.mk hQ6
    clear hQ6
    go_wp2_with (first | (refine wpList_load_row rfl 26 _ rfl B rfl 26 (l3A (.slice Ac r1.length cc) (.slice (some ⟨gr, 0, none⟩) r4.length cr) r2 r3 r5) (0, 0) _ HQ.out.xb Tryd.underlying26 rfl (by kernel_rfl) ?_) | (refine wpList_put 26 _ _ rfl rfl (w.heap.size + 2) 0 rfl (.agg (l3A (.slice Ac r1.length cc) (.slice (some ⟨gr, 0, none⟩) r4.length cr) r2 r3 r5)) rfl 26 (l3A (.slice none 0 0) (.slice none 0 0) 0 0 0) (l3A (.slice Ac r1.length cc) (.slice (some ⟨gr, 0, none⟩) r4.length cr) r2 r3 r5) HQ.out.e.zb (by kernel_rfl) rfl rfl rfl (fun W9 hp => ?_); have HFB := Aside0.mk hp.blk; have HF := Aside0.mk (pw_below_grown HQ.out.e.bl _ (Nat.le_trans (Nat.le_add_right _ 3) HQ.out.e.size) hp.grown (fun k hk => by injection hk with hk; omega)); have HFR := Aside0.mk (R_put HQ.out.rc HQ.out.e.zb hp (by decide)); have HFS := Aside0.mk (S_put HQ.out.sr HQ.out.e.zb hp (by decide)); clear hp))
    exact bodyPost_ret (results_ct rfl _ _ (w.heap.size + 2) 26 (l3A (.slice Ac r1.length cc) (.slice (some ⟨gr, 0, none⟩) r4.length cr) r2 r3 r5) (0, 0) _ rfl HFB.out Tryd.underlying26 rfl (by kernel_rfl)) rfl ⟨_, _, rfl, HFR.out, HFS.out, HF.out⟩

/-! ### impl_EdtTake: function 10 (by hand) -/
def impl_EdtTake.f (k : Nat) (l0_0 : List S57) (a0_1 : Int) (a0_2 : Int) (l0_3 : List S42) (a0_4 : Int) (a1 : Int) (a2 : Int) : Option (List S57 × Int × Int × List S42 × Int × Bool) :=
  (impl_TblOk.f k l0_0 a0_1 a0_2 l0_3 a0_4).bind fun b => if b = true then (impl_TblTable_copied.f k l0_0 a0_1 a0_2 l0_3 a0_4).bind fun c => if c.2.2.2.1.length < 1000000 ∧ (rd_T42 c.2.2.2.1 a1).f0.length < 1000000 then some (c.1, c.2.1, c.2.2.1, if decide (hasP c.2.2.2.1 a1 a2) = true then takeRows c.2.2.2.1 a1 a2 else c.2.2.2.1, c.2.2.2.2, decide (hasP c.2.2.2.1 a1 a2)) else none else some ([], 0, 0, [], 0, false)
theorem impl_EdtTake.mono : ∀ a0 a1 a2 a3 a4 b0 b1 k, LeO (impl_EdtTake.f k a0 a1 a2 a3 a4 b0 b1) (impl_EdtTake.f (k + 1) a0 a1 a2 a3 a4 b0 b1) := fun _ _ _ _ _ _ _ _ => by
  unfold impl_EdtTake.f
  exact LeO.bind (impl_TblOk.mono _ _ _ _ _ _) fun _ => LeO.ite (LeO.bind (impl_TblTable_copied.mono _ _ _ _ _ _) fun _ => LeO.refl _) (LeO.refl _)
theorem impl_EdtTake.blk (w : World) (o1 o2 o3 o4 : Obj) : ((((w.alloc o1).alloc o2).alloc o3).alloc o4).heap[w.heap.size]? = some o1 ∧ ((((w.alloc o1).alloc o2).alloc o3).alloc o4).heap[w.heap.size + 1]? = some o2 ∧ ((((w.alloc o1).alloc o2).alloc o3).alloc o4).heap[w.heap.size + 2]? = some o3 ∧ ((((w.alloc o1).alloc o2).alloc o3).alloc o4).heap[w.heap.size + 3]? = some o4 := by
  have s1 : (w.alloc o1).heap.size = w.heap.size + 1 := by simp
  have s2 : ((w.alloc o1).alloc o2).heap.size = w.heap.size + 2 := by simp
  have s3 : (((w.alloc o1).alloc o2).alloc o3).heap.size = w.heap.size + 3 := by simp
  refine ⟨blk_alloc (blk_alloc (blk_alloc (blk_new w o1) _) _) _, ?_, ?_, ?_⟩
  · rw [← s1]; exact blk_alloc (blk_alloc (blk_new _ o2) _) _
  · rw [← s2]; exact blk_alloc (blk_new _ o3) _
  · rw [← s3]; exact blk_new _ o4
theorem impl_EdtTake.parts {k : Nat} {l0_0 : List S57} {a0_1 a0_2 : Int} {l0_3 : List S42} {a0_4 : Int} {a1 : Int} {a2 : Int} {c1 : List S57} {h1 f1 : Int} {r4 : List S42} {g1 : Int} {q : Bool} (h : impl_EdtTake.f k l0_0 a0_1 a0_2 l0_3 a0_4 a1 a2 = some (c1, h1, f1, r4, g1, q)) :
    ∃ b r1, impl_TblOk.f k l0_0 a0_1 a0_2 l0_3 a0_4 = some b ∧ (b = false → q = false ∧ c1 = [] ∧ h1 = 0 ∧ f1 = 0 ∧ r4 = [] ∧ g1 = 0) ∧ (b = true → impl_TblTable_copied.f k l0_0 a0_1 a0_2 l0_3 a0_4 = some (c1, h1, f1, r1, g1) ∧ (r1.length < 1000000 ∧ (rd_T42 r1 a1).f0.length < 1000000) ∧ decide (hasP r1 a1 a2) = q ∧ r4 = if q = true then takeRows r1 a1 a2 else r1) := by
  unfold impl_EdtTake.f at h
  obtain ⟨b, e1, h⟩ := Option.bind_eq_some_iff.1 h
  cases b
  · rw [if_neg (by decide)] at h
    simp only [Option.some.injEq, Prod.mk.injEq] at h
    obtain ⟨rfl, rfl, rfl, rfl, rfl, rfl⟩ := h
    exact ⟨false, [], e1, fun _ => ⟨rfl, rfl, rfl, rfl, rfl, rfl⟩, (fun e => by cases e)⟩
  · rw [if_pos rfl] at h
    obtain ⟨⟨x1, x2, x3, x4, x5⟩, e2, h⟩ := Option.bind_eq_some_iff.1 h
    split at h
    · rename_i hg
      simp only [Option.some.injEq, Prod.mk.injEq] at h
      obtain ⟨rfl, rfl, rfl, h4, rfl, hq⟩ := h
      exact ⟨true, x4, e1, (fun e => by cases e), fun _ => ⟨e2, hg, hq, by rw [← h4, ← hq]⟩⟩
    · cases h
set_option maxHeartbeats 4000000 in
set_option maxRecDepth 100000 in
theorem impl_EdtTake.calls (k : Nat) (A0_0 : Option Addr) (c0_0 : Nat) (l0_0 : List S57) (a0_1 : Int) (a0_2 : Int) (A0_3 : Option Addr) (c0_3 : Nat) (l0_3 : List S42) (a0_4 : Int) (a1 : Int) (a2 : Int) (r1 : List S57) (r2 : Int) (r3 : Int) (r4 : List S42) (r5 : Int) (r6 : Bool) (w : World) (hr0_0 : Kd.C k57 w A0_0 l0_0.length l0_0) (hc0_0 : l0_0.length ≤ c0_0) (hr0_3 : Kd.C k42 w A0_3 l0_3.length l0_3) (hc0_3 : l0_3.length ≤ c0_3) (hM : Txt.MLen w) (h : impl_EdtTake.f k l0_0 a0_1 a0_2 l0_3 a0_4 a1 a2 = some (r1, r2, r3, r4, r5, r6)) :
    Calls Tryd.prog 10 #[.agg #[.slice A0_0 l0_0.length c0_0, .int .i64 a0_1, .int .i64 a0_2, .slice A0_3 l0_3.length c0_3, .int .i64 a0_4], .int .i64 a1, .int .i64 a2] w fun e w' => ∃ v0_ v3_ : Value, e = .returned (.tuple #[.agg #[v0_, .int .i64 r2, .int .i64 r3, v3_, .int .i64 r5], .bool r6]) ∧ Kd.R k57 57 w' w.heap.size (fun _ => True) v0_ r1 ∧ Kd.S k42 42 w' w.heap.size (fun _ => True) v3_ r4 ∧ Below w.heap.size w w' := by
  have HM := Aside0.mk hM
  have HR0 := Aside0.mk hr0_0
  have HC0 := Aside0.mk hc0_0
  have HR3 := Aside0.mk hr0_3
  have HC3 := Aside0.mk hc0_3
  clear hM hr0_0 hc0_0 hr0_3 hc0_3
  obtain ⟨b, rr, e1, e2, e3⟩ := impl_EdtTake.parts h
  have E1 := Aside0.mk e1
  have E2 := Aside0.mk e2
  have E3 := Aside0.mk e3
  clear h e1 e2 e3
  go_enter Tryd.func10, Tryd.ntmps10
  go_upto_region 1 with (fail)
  have h3 := impl_EdtTake.blk w (.cells (l3A (.slice A0_0 l0_0.length c0_0) (.slice A0_3 l0_3.length c0_3) a0_1 a0_2 a0_4) 26) (.cells #[.int .i64 a1] 3) (.cells #[.int .i64 a2] 3) (.cells (l3A (.slice none 0 0) (.slice none 0 0) 0 0 0) 26)
  have hB0 : Below w.heap.size w ((((w.alloc (.cells (l3A (.slice A0_0 l0_0.length c0_0) (.slice A0_3 l0_3.length c0_3) a0_1 a0_2 a0_4) 26)).alloc (.cells #[.int .i64 a1] 3)).alloc (.cells #[.int .i64 a2] 3)).alloc (.cells (l3A (.slice none 0 0) (.slice none 0 0) 0 0 0) 26)) := below_alloc (below_alloc (below_alloc (below_alloc (Below.refl _ _) _) _) _) _
  refine wp_letter (fun W0 => (W0.heap[w.heap.size]? = some (.cells (l3A (.slice A0_0 l0_0.length c0_0) (.slice A0_3 l0_3.length c0_3) a0_1 a0_2 a0_4) 26 (0, 0)) ∧ W0.heap[w.heap.size + 1]? = some (.cells #[.int .i64 a1] 3 (0, 0)) ∧ W0.heap[w.heap.size + 2]? = some (.cells #[.int .i64 a2] 3 (0, 0)) ∧ W0.heap[w.heap.size + 3]? = some (.cells (l3A (.slice none 0 0) (.slice none 0 0) 0 0 0) 26 (0, 0))) ∧ Below w.heap.size w W0) ⟨h3, hB0⟩ ?_
  rintro W1 ⟨⟨hP, hb1, hb2, hZ⟩, hB⟩
  clear h3 hB0
  have HP := Aside0.mk hP
  have HZB := Aside0.mk hZ
  have HB := Aside0.mk hB
  have HED := Aside0.mk (edited_calls k A0_0 c0_0 l0_0 a0_1 a0_2 A0_3 c0_3 l0_3 a0_4 28 #[.pointer (some ⟨w.heap.size + 1, 0, none⟩), .pointer (some ⟨w.heap.size + 2, 0, none⟩)] (enters_of Tryd.func28 (by kernel_rfl) rfl) b r1 r2 r3 rr r5 r1 r2 r3 r4 r5 r6 W1 (Kd.C_below HR0.out hB) HC0.out (Kd.C_below HR3.out hB) HC3.out (Txt.MLen_below HM.out hB) E1.out (fun e => E2.out e) (fun e => by
      obtain ⟨z1, z2, z3, z4⟩ := E3.out e
      refine ⟨z1, ?_⟩
      rw [z4]
      exact clo_Take a1 a2 _ _ r1 r2 r3 rr r5 r6 W1 ((blk_cell hb1 0).trans rfl) ((blk_cell hb2 0).trans rfl) z3 z2))
  clear hP hb1 hb2 hZ hB E1 E2 E3 HR0 HC0 HR3 HC3 HM
  go_wp2_with (first | (refine wpList_load_row rfl 26 _ rfl w.heap.size rfl 26 (l3A (.slice A0_0 l0_0.length c0_0) (.slice A0_3 l0_3.length c0_3) a0_1 a0_2 a0_4) (0, 0) _ HP.out Tryd.underlying26 rfl (by kernel_rfl) ?_) | (go_at_call 17; refine HED.out.mono ?_; rintro e_ W5 ⟨vc', vr', rfl, hrc, hsr, hb⟩; obtain ⟨Ad, cd, rfl⟩ := Kd.R_slice hrc; obtain ⟨Ae, ce, rfl⟩ := Kd.R_slice (Kd.S_R hsr); have HRC := Aside0.mk (Kd.R_lower hrc HB.out.size); have HSR := Aside0.mk (Kd.S_lower hsr HB.out.size); have HB5 := Aside0.mk (below_step HB.out hb); have HZ5 := Aside0.mk (blk_below HZB.out hb); clear hrc hsr hb) | (refine wpList_put 26 _ _ rfl rfl (w.heap.size + 3) 0 rfl (.agg (l3A (.slice Ad r1.length cd) (.slice Ae r4.length ce) r2 r3 r5)) rfl 26 (l3A (.slice none 0 0) (.slice none 0 0) 0 0 0) (l3A (.slice Ad r1.length cd) (.slice Ae r4.length ce) r2 r3 r5) HZ5.out (by kernel_rfl) rfl rfl rfl (fun W9 hp => ?_); have HFB := Aside0.mk hp.blk; have HF := Aside0.mk (pw_below_grown HB5.out _ (by have := blk_lt HZ5.out; omega) hp.grown (fun k hk => by injection hk with hk; omega)); have HFR := Aside0.mk (R_put HRC.out HZ5.out hp (by decide)); have HFS := Aside0.mk (S_put HSR.out HZ5.out hp (by decide)); clear hp))
  exact bodyPost_ret (results_ct rfl _ _ (w.heap.size + 3) 26 (l3A (.slice Ad r1.length cd) (.slice Ae r4.length ce) r2 r3 r5) (0, 0) _ rfl HFB.out Tryd.underlying26 rfl (by kernel_rfl)) rfl ⟨_, _, rfl, HFR.out, HFS.out, HF.out⟩


end Go.Proofs.YtaihfkjfbjcmhabDoor.Q
