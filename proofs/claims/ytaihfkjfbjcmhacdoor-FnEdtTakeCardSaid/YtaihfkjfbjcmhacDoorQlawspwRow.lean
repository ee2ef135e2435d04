-- Told by a program of this session (uprint.py, ulay.py).
import Derived.Test.YtaihfkjfbjcmhacDoorQ0
import Derived.Test.YtaihfkjfbjcmhacDoorReg
import Derived.Test.YtaihfkjfbjcmhacDoorQimplin
import Derived.Test.YtaihfkjfbjcmhacDoorQspecl20Cell
import Derived.Test.YtaihfkjfbjcmhacDoorQspecTblOk
import Derived.Test.YtaihfkjfbjcmhacDoorQspecl20AnyTable
import Derived.Test.YtaihfkjfbjcmhacDoorQimplTxtOk
import Derived.Test.YtaihfkjfbjcmhacDoorQimplCellOk
import Derived.Test.YtaihfkjfbjcmhacDoorQimplTblOk
import Derived.Test.YtaihfkjfbjcmhacDoorQspecDrawEdtTake
import Derived.Test.YtaihfkjfbjcmhacDoorQspecl2Copy
import Derived.Deep.AppendSrc
import Derived.Laws.NewBlocks
namespace Go.Proofs.YtaihfkjfbjcmhacDoor.Q
open Go.RowKit Go.Proofs.YtaihfkjfbjcmhacDoorW.PrintWords Go.Proofs.YtaihfkjfbjcmhacDoorW.PrintLast Go.Proofs.YtaihfkjfbjcmhacDoorW.PrintMore Go.Proofs.YtaihfkjfbjcmhacDoor.Reg Go.Proofs.YtaihfkjfbjcmhacDoor.Box
attribute [local go_sem] max2_int min2_int max_two min_two max_three min_three max_four min_four
set_option linter.unusedVariables false
set_option linter.unusedSimpArgs false

/-! ### laws_pwRow: function 22 (by hand) -/
def laws_pwRow.tup (x : S38) : List UInt8 × List Int := (x.f0.data.toList, [x.f1, x.f2, x.f3.f0, x.f3.f1, x.f4.f0, x.f4.f1, x.f5.f0, x.f5.f1, x.f6.f0, x.f6.f1])
/-- Two rows that are the same; no answer else. -/
def laws_pwRow.f (k : Nat) (l0_0 : List S38) (a0_1 : Bool) (l1_0 : List S38) (a1_1 : Bool) : Option Bool := if l0_0.map laws_pwRow.tup = l1_0.map laws_pwRow.tup ∧ a0_1 = a1_1 then some true else none
theorem laws_pwRow.mono : ∀ l0_0 a0_1 l1_0 a1_1 k, LeO (laws_pwRow.f k l0_0 a0_1 l1_0 a1_1) (laws_pwRow.f (k + 1) l0_0 a0_1 l1_0 a1_1) := fun _ _ _ _ _ => LeO.refl _
theorem map_same {α β : Type} {f : α → β} (hf : ∀ x y, f x = f y → x = y) {l m : List α} (h : l.map f = m.map f) : l = m := by
  induction l generalizing m with
  | nil => cases m with
    | nil => rfl
    | cons y ys => cases h
  | cons x xs ih => cases m with
    | nil => cases h
    | cons y ys =>
      simp only [List.map_cons, List.cons.injEq] at h
      rw [ih h.2, hf x y h.1]
theorem laws_pwRow.inj (x y : S38) (h : laws_pwRow.tup x = laws_pwRow.tup y) : x = y := by
  obtain ⟨⟨⟨x0⟩⟩, x1, x2, ⟨x3, x4⟩, ⟨x5, x6⟩, ⟨x7, x8⟩, ⟨x9, x10⟩⟩ := x
  obtain ⟨⟨⟨y0⟩⟩, y1, y2, ⟨y3, y4⟩, ⟨y5, y6⟩, ⟨y7, y8⟩, ⟨y9, y10⟩⟩ := y
  unfold laws_pwRow.tup at h
  simp only [Prod.mk.injEq, List.cons.injEq, and_true] at h
  obtain ⟨h0, rfl, rfl, rfl, rfl, rfl, rfl, rfl, rfl, rfl, rfl⟩ := h
  subst h0
  rfl
set_option maxHeartbeats 4000000 in
set_option maxRecDepth 100000 in
theorem laws_pwRow.calls (k : Nat) (A0_0 : Option Addr) (c0_0 : Nat) (l0_0 : List (S38)) (a0_1 : Bool) (A1_0 : Option Addr) (c1_0 : Nat) (l1_0 : List (S38)) (a1_1 : Bool) (r : Bool) (w : World) (hr0_0 : Kd.C k38 w A0_0 l0_0.length l0_0) (hc0_0 : l0_0.length ≤ c0_0) (hr1_0 : Kd.C k38 w A1_0 l1_0.length l1_0) (hc1_0 : l1_0.length ≤ c1_0) (h : laws_pwRow.f k l0_0 a0_1 l1_0 a1_1 = some r) :
    Calls Tryd.prog 22 #[.agg #[.slice A0_0 l0_0.length c0_0, .bool a0_1], .agg #[.slice A1_0 l1_0.length c1_0, .bool a1_1]] w fun e w' => e = .returned (.bool r) ∧ Below w.heap.size w w' := by
  unfold laws_pwRow.f at h
  split at h
  rotate_left
  · cases h
  rename_i hs
  obtain ⟨hs, rfl⟩ := hs
  obtain rfl := map_same laws_pwRow.inj hs
  obtain rfl := Option.some.inj h
  have HR0 := Aside0.mk hr0_0
  have HR1 := Aside0.mk hr1_0
  have hbig := hr0_0.2.1
  clear hr0_0 hr1_0 hc0_0 hc1_0 h hs
  have hu1 := Tryd.underlying41
  have hu2 := Tryd.underlying38
  have hu3 := Tryd.underlying36
  go_enter Tryd.func22, Tryd.ntmps22
  go_upto_region 4 with (fail)
  refine wp_letter (fun W0 => W0.heap[w.heap.size]? = some (.cells #[.slice A0_0 l0_0.length c0_0, .bool a0_1] 41 (0, 0)) ∧ W0.heap[w.heap.size + 1]? = some (.cells #[.slice A1_0 l0_0.length c1_0, .bool a0_1] 41 (0, 0)) ∧ Below w.heap.size w W0) ⟨blk_alloc (blk_new w _) _, by have := blk_new2 w (.cells #[.slice A0_0 l0_0.length c0_0, .bool a0_1] 41) (.cells #[.slice A1_0 l0_0.length c1_0, .bool a0_1] 41); exact this, below_alloc (below_alloc (Below.refl _ _) _) _⟩ ?_
  rintro W1 ⟨hG, hH, hB⟩
  generalize w.heap.size + 1 = H at hH ⊢
  have HG := Aside0.mk hG
  have HH := Aside0.mk hH
  have HB := Aside0.mk hB
  clear hG hH hB
  go_loopg [5] l0_0.length (fun gg s5 wr => ∃ (n i : Nat), n ≤ gg ∧ i + n = l0_0.length ∧ s5 = .int .i64 i ∧ Aside0 (wr.heap[w.heap.size]? = some (.cells #[.slice A0_0 l0_0.length c0_0, .bool a0_1] 41 (0, 0))) ∧ Aside0 (wr.heap[H]? = some (.cells #[.slice A1_0 l0_0.length c1_0, .bool a0_1] 41 (0, 0))) ∧ Aside0 (Below w.heap.size w wr))
  case atStart => exact ⟨l0_0.length, 0, Nat.le_refl _, by omega, rfl, HG, HH, HB⟩
  case round =>
    clear HG HH HB
    obtain ⟨n, i, hg, hin, rfl, HG, HH, HB⟩ := hrel
    have g2 : wr.cell? ⟨w.heap.size, 0, none⟩ = some (Value.slice A0_0 l0_0.length c0_0) := (blk_cell HG.out 0).trans rfl
    cases n with
    | zero =>
      have hlt : ¬ (i : Int) < (l0_0.length : Int) := by omega
      go_wp2
      go_ret
      exact ⟨rfl, HB.out⟩
    | succ n =>
      have hlt : (i : Int) < (l0_0.length : Int) := by omega
      have h2 : wr.cell? ⟨H, 0, none⟩ = some (Value.slice A1_0 l0_0.length c1_0) := (blk_cell HH.out 0).trans rfl
      obtain ⟨ad, hA, p0, p1, p2, p3, p4, p5, p6, p7, p8, p9, p10⟩ := at_T38 (Kd.C_below HR0.out HB.out) i (by omega) hlt
      rw [hA] at g2
      clear hA
      obtain ⟨ad2, hA, q0, q1, q2, q3, q4, q5, q6, q7, q8, q9, q10⟩ := at_T38 (Kd.C_below HR1.out HB.out) i (by omega) hlt
      rw [hA] at h2
      clear hA
      simp only [Int.toNat_natCast] at p0 p1 p2 p3 p4 p5 p6 p7 p8 p9 p10 q0 q1 q2 q3 q4 q5 q6 q7 q8 q9 q10
      go_upto_region 6 with (fail)
      have xg2 := Ext.cell g2
      have xh2 := Ext.cell h2
      have xp0 := Ext.cell p0
      have xp1 := Ext.cell p1
      have xp2 := Ext.cell p2
      have xp3 := Ext.cell p3
      have xp4 := Ext.cell p4
      have xp5 := Ext.cell p5
      have xp6 := Ext.cell p6
      have xp7 := Ext.cell p7
      have xp8 := Ext.cell p8
      have xp9 := Ext.cell p9
      have xp10 := Ext.cell p10
      have xq0 := Ext.cell q0
      have xq1 := Ext.cell q1
      have xq2 := Ext.cell q2
      have xq3 := Ext.cell q3
      have xq4 := Ext.cell q4
      have xq5 := Ext.cell q5
      have xq6 := Ext.cell q6
      have xq7 := Ext.cell q7
      have xq8 := Ext.cell q8
      have xq9 := Ext.cell q9
      have xq10 := Ext.cell q10
      clear g2 h2 p0 p1 p2 p3 p4 p5 p6 p7 p8 p9 p10 q0 q1 q2 q3 q4 q5 q6 q7 q8 q9 q10
      refine region_ext (by kernel_rfl) (by kernel_rfl) ?_
      repeat (go_big_quiet_step (fail))
      refine wpQuiet_nil ?_
      rintro W8 ⟨⟨W9, hb3⟩, rfl⟩
      go_wp2
      go_roundg n
      case measure => omega
      case rel => exact ⟨n, i + 1, Nat.le_refl _, by omega, by go_num, ⟨blk_below HG.out hb3⟩, ⟨blk_below HH.out hb3⟩, ⟨below_step HB.out hb3⟩⟩

/-! ### laws_pwTable: function 7 (by hand) -/
def laws_pwTable.col (x : S56) : Int × Int := (x.f0, x.f1)
def laws_pwTable.row (x : S41) : List (List UInt8 × List Int) × Bool := (x.f0.map laws_pwRow.tup, x.f1)
/-- Two tables that are the same; no answer else. -/
def laws_pwTable.f (k : Nat) (l0_0 : List S56) (a0_1 : Int) (a0_2 : Int) (l0_3 : List S41) (a0_4 : Int) (l1_0 : List S56) (a1_1 : Int) (a1_2 : Int) (l1_3 : List S41) (a1_4 : Int) : Option Bool := if l0_0.map laws_pwTable.col = l1_0.map laws_pwTable.col ∧ a0_1 = a1_1 ∧ a0_2 = a1_2 ∧ l0_3.map laws_pwTable.row = l1_3.map laws_pwTable.row ∧ a0_4 = a1_4 then some true else none
theorem laws_pwTable.mono : ∀ l0_0 a0_1 a0_2 l0_3 a0_4 l1_0 a1_1 a1_2 l1_3 a1_4 k, LeO (laws_pwTable.f k l0_0 a0_1 a0_2 l0_3 a0_4 l1_0 a1_1 a1_2 l1_3 a1_4) (laws_pwTable.f (k + 1) l0_0 a0_1 a0_2 l0_3 a0_4 l1_0 a1_1 a1_2 l1_3 a1_4) := fun _ _ _ _ _ _ _ _ _ _ _ => LeO.refl _
theorem laws_pwTable.inj1 (x y : S56) (h : laws_pwTable.col x = laws_pwTable.col y) : x = y := by
  obtain ⟨x0, x1⟩ := x
  obtain ⟨y0, y1⟩ := y
  unfold laws_pwTable.col at h
  simp only [Prod.mk.injEq] at h
  obtain ⟨rfl, rfl⟩ := h
  rfl
theorem laws_pwTable.inj2 (x y : S41) (h : laws_pwTable.row x = laws_pwTable.row y) : x = y := by
  obtain ⟨x0, x1⟩ := x
  obtain ⟨y0, y1⟩ := y
  unfold laws_pwTable.row at h
  simp only [Prod.mk.injEq] at h
  obtain ⟨h, rfl⟩ := h
  rw [map_same laws_pwRow.inj h]
set_option maxHeartbeats 4000000 in
set_option maxRecDepth 100000 in
theorem laws_pwTable.calls (k : Nat) (A0_0 : Option Addr) (c0_0 : Nat) (l0_0 : List (S56)) (a0_1 : Int) (a0_2 : Int) (A0_3 : Option Addr) (c0_3 : Nat) (l0_3 : List (S41)) (a0_4 : Int) (A1_0 : Option Addr) (c1_0 : Nat) (l1_0 : List (S56)) (a1_1 : Int) (a1_2 : Int) (A1_3 : Option Addr) (c1_3 : Nat) (l1_3 : List (S41)) (a1_4 : Int) (r : Bool) (w : World) (hr0_0 : Kd.C k56 w A0_0 l0_0.length l0_0) (hc0_0 : l0_0.length ≤ c0_0) (hr0_3 : Kd.C k41 w A0_3 l0_3.length l0_3) (hc0_3 : l0_3.length ≤ c0_3) (hr1_0 : Kd.C k56 w A1_0 l1_0.length l1_0) (hc1_0 : l1_0.length ≤ c1_0) (hr1_3 : Kd.C k41 w A1_3 l1_3.length l1_3) (hc1_3 : l1_3.length ≤ c1_3) (h : laws_pwTable.f k l0_0 a0_1 a0_2 l0_3 a0_4 l1_0 a1_1 a1_2 l1_3 a1_4 = some r) :
    Calls Tryd.prog 7 #[.agg #[.slice A0_0 l0_0.length c0_0, .int .i64 a0_1, .int .i64 a0_2, .slice A0_3 l0_3.length c0_3, .int .i64 a0_4], .agg #[.slice A1_0 l1_0.length c1_0, .int .i64 a1_1, .int .i64 a1_2, .slice A1_3 l1_3.length c1_3, .int .i64 a1_4]] w fun e w' => e = .returned (.bool r) ∧ Below w.heap.size w w' := by
  unfold laws_pwTable.f at h
  split at h
  rotate_left
  · cases h
  rename_i hs
  obtain ⟨hs, rfl, rfl, hs3, rfl⟩ := hs
  obtain rfl := map_same laws_pwTable.inj1 hs
  obtain rfl := map_same laws_pwTable.inj2 hs3
  obtain rfl := Option.some.inj h
  have HR0 := Aside0.mk hr0_0
  have HR1 := Aside0.mk hr1_0
  have HS0 := Aside0.mk hr0_3
  have HS1 := Aside0.mk hr1_3
  have hbig := hr0_0.2.1
  have hbig3 := hr0_3.2.1
  clear hr0_0 hr1_0 hc0_0 hc1_0 hr0_3 hr1_3 hc0_3 hc1_3 h hs hs3
  have hu1 := Tryd.underlying26
  have hu2 := Tryd.underlying56
  go_enter Tryd.func7, Tryd.ntmps7
  go_upto_region 4 with (fail)
  refine wp_letter (fun W0 => W0.heap[w.heap.size]? = some (.cells (l3A (.slice A0_0 l0_0.length c0_0) (.slice A0_3 l0_3.length c0_3) a0_1 a0_2 a0_4) 26 (0, 0)) ∧ W0.heap[w.heap.size + 1]? = some (.cells (l3A (.slice A1_0 l0_0.length c1_0) (.slice A1_3 l0_3.length c1_3) a0_1 a0_2 a0_4) 26 (0, 0)) ∧ Below w.heap.size w W0) ⟨blk_alloc (blk_new w _) _, by have := blk_new2 w (.cells (l3A (.slice A0_0 l0_0.length c0_0) (.slice A0_3 l0_3.length c0_3) a0_1 a0_2 a0_4) 26) (.cells (l3A (.slice A1_0 l0_0.length c1_0) (.slice A1_3 l0_3.length c1_3) a0_1 a0_2 a0_4) 26); exact this, below_alloc (below_alloc (Below.refl _ _) _) _⟩ ?_
  rintro W1 ⟨hG, hH, hB⟩
  generalize w.heap.size + 1 = H at hH ⊢
  have HG := Aside0.mk hG
  have HH := Aside0.mk hH
  have HB := Aside0.mk hB
  clear hG hH hB
  go_loopg [5] l0_0.length (fun gg s5 wr => ∃ (n i : Nat), n ≤ gg ∧ i + n = l0_0.length ∧ s5 = .int .i64 i ∧ Aside0 (wr.heap[w.heap.size]? = some (.cells (l3A (.slice A0_0 l0_0.length c0_0) (.slice A0_3 l0_3.length c0_3) a0_1 a0_2 a0_4) 26 (0, 0))) ∧ Aside0 (wr.heap[H]? = some (.cells (l3A (.slice A1_0 l0_0.length c1_0) (.slice A1_3 l0_3.length c1_3) a0_1 a0_2 a0_4) 26 (0, 0))) ∧ Aside0 (Below w.heap.size w wr))
  case atStart => exact ⟨l0_0.length, 0, Nat.le_refl _, by omega, rfl, HG, HH, HB⟩
  case round =>
    clear HG HH HB
    obtain ⟨n, i, hg, hin, rfl, HG, HH, HB⟩ := hrel
    have g2 : wr.cell? ⟨w.heap.size, 0, none⟩ = some (Value.slice A0_0 l0_0.length c0_0) := (blk_cell HG.out 0).trans rfl
    cases n with
    | zero =>
      have hlt : ¬ (i : Int) < (l0_0.length : Int) := by omega
      go_upto_region 9 with (fail)
      clear g2
      go_loopg [6] l0_3.length (fun gg s6 wr => ∃ (n i : Nat), n ≤ gg ∧ i + n = l0_3.length ∧ s6 = .int .i64 i ∧ Aside0 (wr.heap[w.heap.size]? = some (.cells (l3A (.slice A0_0 l0_0.length c0_0) (.slice A0_3 l0_3.length c0_3) a0_1 a0_2 a0_4) 26 (0, 0))) ∧ Aside0 (wr.heap[H]? = some (.cells (l3A (.slice A1_0 l0_0.length c1_0) (.slice A1_3 l0_3.length c1_3) a0_1 a0_2 a0_4) 26 (0, 0))) ∧ Aside0 (Below w.heap.size w wr))
      case atStart => exact ⟨l0_3.length, 0, Nat.le_refl _, by omega, rfl, HG, HH, HB⟩
      case round =>
        clear HG HH HB hlt hin hg
        obtain ⟨n, i, hg, hin, rfl, HG, HH, HB⟩ := hrel
        have g3 : wr.cell? ⟨w.heap.size, 3, none⟩ = some (Value.slice A0_3 l0_3.length c0_3) := (blk_cell HG.out 3).trans rfl
        cases n with
        | zero =>
          have hlt : ¬ (i : Int) < (l0_3.length : Int) := by omega
          go_wp2
          go_ret
          exact ⟨rfl, HB.out⟩
        | succ n =>
          have hlt : (i : Int) < (l0_3.length : Int) := by omega
          have h3 : wr.cell? ⟨H, 3, none⟩ = some (Value.slice A1_3 l0_3.length c1_3) := (blk_cell HH.out 3).trans rfl
          obtain ⟨ad, B0, d0, hA, p0, p1, e0, hC0⟩ := at_T41 (Kd.C_below HS0.out HB.out) i (by omega) hlt
          rw [hA] at g3
          clear hA
          obtain ⟨ad2, B1, d1, hA, q0, q1, e1, hC1⟩ := at_T41 (Kd.C_below HS1.out HB.out) i (by omega) hlt
          rw [hA] at h3
          clear hA
          simp only [Int.toNat_natCast] at p0 p1 q0 q1
          obtain ⟨x, hx⟩ : ∃ x, rd_T41 l0_3 i = x := ⟨_, rfl⟩
          rw [hx] at p0 p1 q0 q1 hC0 hC1 e0 e1
          clear hx
          have HSM := Aside0.mk (show laws_pwRow.f k x.f0 x.f1 x.f0 x.f1 = some true by unfold laws_pwRow.f; rw [if_pos ⟨rfl, rfl⟩])
          have HE0 := Aside0.mk e0
          have HE1 := Aside0.mk e1
          clear e0 e1
          go_upto_region 11 with (fail)
          have FC := Aside0.mk (fun (v : Ext wr) => Kd.C_below hC0 v.below)
          have FD := Aside0.mk (fun (v : Ext wr) => Kd.C_below hC1 v.below)
          have xg2 := Ext.cell g3
          have xh2 := Ext.cell h3
          have xp0 := Ext.cell p0
          have xp1 := Ext.cell p1
          have xq0 := Ext.cell q0
          have xq1 := Ext.cell q1
          clear g3 h3 p0 p1 q0 q1 hC0 hC1
          refine region_ext (by kernel_rfl) (by kernel_rfl) ?_
          repeat (go_big_quiet_step (first | (go_at_call 22; exact Calls.ext (laws_pwRow.calls k B0 d0 x.f0 x.f1 B1 d1 x.f0 x.f1 true _ (FC.out _) HE0.out (FD.out _) HE1.out HSM.out))))
          refine wpQuiet_nil ?_
          rintro W8 ⟨⟨W9, hb3⟩, rfl⟩
          go_wp2
          go_roundg n
          case measure => omega
          case rel => exact ⟨n, i + 1, Nat.le_refl _, by omega, by go_num, ⟨blk_below HG.out hb3⟩, ⟨blk_below HH.out hb3⟩, ⟨below_step HB.out hb3⟩⟩
    | succ n =>
      have hlt : (i : Int) < (l0_0.length : Int) := by omega
      have h2 : wr.cell? ⟨H, 0, none⟩ = some (Value.slice A1_0 l0_0.length c1_0) := (blk_cell HH.out 0).trans rfl
      obtain ⟨ad, hA, p0, p1⟩ := at_T56 (Kd.C_below HR0.out HB.out) i (by omega) hlt
      rw [hA] at g2
      clear hA
      obtain ⟨ad2, hA, q0, q1⟩ := at_T56 (Kd.C_below HR1.out HB.out) i (by omega) hlt
      rw [hA] at h2
      clear hA
      simp only [Int.toNat_natCast] at p0 p1 q0 q1
      go_upto_region 6 with (fail)
      have xg2 := Ext.cell g2
      have xh2 := Ext.cell h2
      have xp0 := Ext.cell p0
      have xp1 := Ext.cell p1
      have xq0 := Ext.cell q0
      have xq1 := Ext.cell q1
      clear g2 h2 p0 p1 q0 q1
      refine region_ext (by kernel_rfl) (by kernel_rfl) ?_
      repeat (go_big_quiet_step (fail))
      refine wpQuiet_nil ?_
      rintro W8 ⟨⟨W9, hb3⟩, rfl⟩
      go_wp2
      go_roundg n
      case measure => omega
      case rel => exact ⟨n, i + 1, Nat.le_refl _, by omega, by go_num, ⟨blk_below HG.out hb3⟩, ⟨blk_below HH.out hb3⟩, ⟨below_step HB.out hb3⟩⟩

/-! ### laws_pwOk: function 9 -/
def laws_pwOk.f  : Option (Bool) := (impl_TxtOk.f (⟨#[97, 98, 32, 99]⟩ : ByteArray)).bind fun t373 => (some t373)
set_option maxHeartbeats 8000000 in
set_option maxRecDepth 100000 in
theorem laws_pwOk.calls  (r : Bool) (w : World) (hM : Txt.MLen w) (h : laws_pwOk.f  = some r) :
    Calls Tryd.prog 9 #[] w fun e w' => e = .returned (.bool r) ∧ Below w.heap.size w w' := by
  have HM := Aside0.mk hM
  clear hM
  have HB := Aside0.mk (Below.refl w.heap.size w)
  have H : ((impl_TxtOk.f (⟨#[97, 98, 32, 99]⟩ : ByteArray)).bind fun t373 => (some t373)) = some r := h
  clear h
  replace H := Option.bind_eq_some_iff.mp H
  obtain ⟨t373, A10, H⟩ := H
  replace H : (some t373) = some r := H
  have A1 := Aside0.mk A10
  clear A10
  obtain rfl := Option.some.inj H
  go_enter Tryd.func9, Tryd.ntmps9
  go_wp2_with (first | ((with_reducible refine gate_callee (f := 25) rfl ?_); refine goesL_ (some 1) rfl rfl Tryd.func25 (by kernel_rfl) rfl #[.string (⟨#[97, 98, 32, 99]⟩ : ByteArray)] rfl (by (try simp only [List.map_toArray, List.map_cons, List.map_nil]); first | done | rfl | (simp only [List.length_drop, List.length_take]; rfl)) ?_; (with_reducible refine (impl_TxtOk.calls (⟨#[97, 98, 32, 99]⟩ : ByteArray) t373 _ ?sideM A1.out).mono ?_); (case sideM => repeat (first | exact HM.out | exact (Txt.MLen_below HM.out HB.out) | (with_reducible refine Txt.MLen_alloc ?_ _) | (with_reducible refine Txt.MLen_drewN ?_ _) | (with_reducible refine Txt.MLen_drew ?_))); rintro e w2 ⟨rfl, hb⟩; refine ⟨_, rfl, ?_⟩; have n0_ := Aside0.mk (below_step (by repeat (first | (with_reducible first | exact HB.out | apply below_alloc | apply pw_below_drewN | apply below_drew1) | exact HB.out)) hb); clear HB; have HB := n0_; clear n0_; (try clear hb); (try clear hb2); (try clear hk); (try clear hi)))
  go_ret
  exact ⟨by first | rfl | (simp [IntKind.wrap_i64, wrap64]; done) | (simp [errW_none, errW_some] <;> rfl) | (simp [*, errW_none, errW_some] <;> rfl), by repeat (first | (with_reducible first | exact HB.out | apply below_alloc | apply pw_below_drewN | apply below_drew1) | exact HB.out)⟩

-- NOT PRINTED: function 10 (impl_EdtPut)

/-! ### impl_TblCells: function 12 -/
def impl_TblCells.l0 : Nat → Int → List (S41) → Int → Int → Option (Int)
  | 0, _, _, _, _ => none
  | k + 1, x3, x7, x8, x9 => if x9 < x8 then (if 0 ≤ x9 then (if x9 < (x7.length : Int) then (impl_TblCells.l0 k (wrap64 (x3 + (((rd_T41 x7 x9).f0).length : Int))) x7 x8 (wrap64 (x9 + 1))) else (none)) else (none)) else (some x3)
def impl_TblCells.f (k : Nat) (l0_0 : List (S56)) (a0_1 : Int) (a0_2 : Int) (l0_3 : List (S41)) (a0_4 : Int) : Option (Int) := impl_TblCells.l0 k 0 l0_3 (l0_3.length : Int) 0
theorem impl_TblCells.mono_l : ∀ k, (∀ y0 y1 y2 y3, LeO (impl_TblCells.l0 k y0 y1 y2 y3) (impl_TblCells.l0 (k + 1) y0 y1 y2 y3))
  | 0 => fun _ _ _ _ r h => by simp [impl_TblCells.l0] at h
  | k + 1 => by
    have ih0 := impl_TblCells.mono_l k
    · intro y0 y1 y2 y3
      unfold impl_TblCells.l0
      repeat' first
      | (with_reducible exact ih0 _ _ _ _)
      | (with_reducible exact LeO.refl _)
      | (with_reducible exact LeO.none _)
      | (with_reducible refine LeO.ite ?_ ?_)
      | (with_reducible refine LeO.bind ?_ (fun _ => ?_))
      | exact ih0 _ _ _ _
      | exact LeO.none _
      | refine LeO.ite ?_ ?_
      | refine LeO.bind ?_ (fun _ => ?_)
theorem impl_TblCells.mono : ∀ a0 a1 a2 a3 a4 k, LeO (impl_TblCells.f k a0 a1 a2 a3 a4) (impl_TblCells.f (k + 1) a0 a1 a2 a3 a4) := by
  intro a0 a1 a2 a3 a4 k
  have ih0 := impl_TblCells.mono_l k
  unfold impl_TblCells.f
  repeat' first
      | (with_reducible exact ih0 _ _ _ _)
      | (with_reducible exact LeO.refl _)
      | (with_reducible exact LeO.none _)
      | (with_reducible refine LeO.ite ?_ ?_)
      | (with_reducible refine LeO.bind ?_ (fun _ => ?_))
      | exact ih0 _ _ _ _
      | exact LeO.none _
      | refine LeO.ite ?_ ?_
      | refine LeO.bind ?_ (fun _ => ?_)
set_option maxHeartbeats 8000000 in
set_option maxRecDepth 100000 in
theorem impl_TblCells.calls (k : Nat) (A0_0 : Option Addr) (c0_0 : Nat) (l0_0 : List (S56)) (a0_1 : Int) (a0_2 : Int) (A0_3 : Option Addr) (c0_3 : Nat) (l0_3 : List (S41)) (a0_4 : Int) (r : Int) (w : World) (hr0_0 : Kd.C k56 w A0_0 l0_0.length l0_0) (hc0_0 : l0_0.length ≤ c0_0) (hr0_3 : Kd.C k41 w A0_3 l0_3.length l0_3) (hc0_3 : l0_3.length ≤ c0_3) (h : impl_TblCells.f k l0_0 a0_1 a0_2 l0_3 a0_4 = some r) :
    Calls Tryd.prog 12 #[.agg #[.slice A0_0 l0_0.length c0_0, .int .i64 a0_1, .int .i64 a0_2, .slice A0_3 l0_3.length c0_3, .int .i64 a0_4]] w fun e w' => e = .returned (.int .i64 r) ∧ Below w.heap.size w w' := by
  have hu26 := Tryd.underlying26
  have hu41 := Tryd.underlying41
  have HR0_0 := Aside0.mk hr0_0
  have HC0_0 := Aside0.mk hc0_0
  clear hr0_0 hc0_0
  have HR0_3 := Aside0.mk hr0_3
  have HC0_3 := Aside0.mk hc0_3
  clear hr0_3 hc0_3
  have HB := Aside0.mk (Below.refl w.heap.size w)
  have H : (impl_TblCells.l0 k 0 l0_3 (l0_3.length : Int) 0) = some r := h
  clear h
  have H' := Aside0.mk H
  clear H
  go_enter Tryd.func12, Tryd.ntmps12
  go_wp2_with (first | ((with_reducible refine gate_dst (N := 1) rfl ?_); refine box_event ?hg (N := 1) ?hd (cs := #[.slice A0_0 l0_0.length c0_0, .int .i64 a0_1, .int .i64 a0_2, .slice A0_3 l0_3.length c0_3, .int .i64 a0_4]) (t := 26) ?hr ?_; (case hd => rfl); (case hg => rfl); (case hr => first | (go_simp; done) | (go_simp; rfl)); intro gb375 hg w2 hbox hb; have n0_ := Aside0.mk (below_step (by repeat (first | (with_reducible first | exact HB.out | apply below_alloc | apply pw_below_drewN | apply below_drew1) | exact HB.out)) hb); have n1_ := Aside0.mk (hbox); have n2_ := Aside0.mk ((by rw [hg]; exact (below_size (by repeat (first | (with_reducible first | exact HB.out | apply below_alloc | apply pw_below_drewN | apply below_drew1) | exact HB.out))) : w.heap.size ≤ gb375)); have n3_ := Aside0.mk ((by rw [hg]; exact (below_size (by repeat (first | (with_reducible first | exact HB.out | apply below_alloc | apply pw_below_drewN | apply below_drew1) | exact HB.out))) : w.heap.size ≤ gb375)); clear HB; have HB := n0_; have BK375 := n1_; have GW375 := n2_; have GE375 := n3_; clear n0_ n1_ n2_ n3_; clear hb hbox hg; have hcz3_0 : w2.cell? ⟨gb375, 0, none⟩ = some (.slice A0_0 l0_0.length c0_0) := (blk_cell BK375.out 0).trans rfl; have hcz3_1 : w2.cell? ⟨gb375, 1, none⟩ = some (.int .i64 a0_1) := (blk_cell BK375.out 1).trans rfl; have hcz3_2 : w2.cell? ⟨gb375, 2, none⟩ = some (.int .i64 a0_2) := (blk_cell BK375.out 2).trans rfl; have hcz3_3 : w2.cell? ⟨gb375, 3, none⟩ = some (.slice A0_3 l0_3.length c0_3) := (blk_cell BK375.out 3).trans rfl; have hcz3_4 : w2.cell? ⟨gb375, 4, none⟩ = some (.int .i64 a0_4) := (blk_cell BK375.out 4).trans rfl; have hfz3_0 := blk_frozen BK375.out 0; have hfz3_1 := blk_frozen BK375.out 1; have hfz3_2 := blk_frozen BK375.out 2; have hfz3_3 := blk_frozen BK375.out 3; have hfz3_4 := blk_frozen BK375.out 4))
  go_loopg [3, 9] k (fun kq v3 v9 w' => ∃ (x3_1 : Int) (x9_1 : Int), v3 = .int .i64 x3_1 ∧ v9 = .int .i64 x9_1 ∧ Aside0 (impl_TblCells.l0 kq x3_1 l0_3 (l0_3.length : Int) x9_1 = some r) ∧ Aside0 (kq ≤ k) ∧ Aside0 (w'.heap[gb375]? = some (.cells #[(.slice A0_0 l0_0.length c0_0), .int .i64 a0_1, .int .i64 a0_2, (.slice A0_3 l0_3.length c0_3), .int .i64 a0_4] 26 (0, 0))) ∧ Aside0 (Below w.heap.size w w'))
  case atStart => exact ⟨(0), (0), (by first | rfl | (simp; done) | (simp [*]; done)), (by first | rfl | (simp; done) | (simp [*]; done)), H', ⟨Nat.le_refl _⟩, ⟨by (with_reducible repeat (first | refine blk_drewN ?_ _ | refine blk_drew ?_ | refine blk_alloc ?_ _)); exact BK375.out⟩, ⟨by repeat (first | (with_reducible first | exact HB.out | apply below_alloc | apply pw_below_drewN | apply below_drew1 | refine below_set ?_ GE375.out) | exact HB.out)⟩⟩
  case round =>
    clear H'
    try clear c1
    try clear p2
    try clear hcz3_0
    try clear hcz3_1
    try clear hcz3_2
    try clear hcz3_3
    try clear hcz3_4
    try clear hfz3_0
    try clear hfz3_1
    try clear hfz3_2
    try clear hfz3_3
    try clear hfz3_4
    obtain ⟨x3_1, x9_1, rfl, rfl, HA, HK1, BK375, HB⟩ := hrel
    cases gk with
    | zero => exact absurd HA.out (by simp [impl_TblCells.l0])
    | succ k1 =>
      have H := HA.out
      clear HA
      simp only [impl_TblCells.l0] at H
      by_cases c4 : x9_1 < (l0_3.length : Int)
      · rw [if_pos c4] at H
        have c4b0 : decide (x9_1 < (l0_3.length : Int)) = true := decide_eq_true c4
        clear c4
        by_cases c5 : 0 ≤ x9_1
        · rw [if_pos c5] at H
          have c5b0 : decide (0 ≤ x9_1) = true := decide_eq_true c5
          clear c5
          by_cases c6 : x9_1 < (l0_3.length : Int)
          · rw [if_pos c6] at H
            have c6b0 : decide (x9_1 < (l0_3.length : Int)) = true := decide_eq_true c6
            clear c6
            have H' := Aside0.mk H
            clear H
            have p376 : 0 ≤ (x9_1 : Int) := of_decide_eq_true (by first | (with_reducible assumption) | assumption)
            have q376 : x9_1 < (l0_3.length : Int) := of_decide_eq_true (by first | (with_reducible assumption) | assumption)
            obtain ⟨ad376, A376_0, c376_0, e376, hx376_0, hx376_1, hl376_0, hi376_0⟩ := at_T41 HR0_3.out x9_1 p376 q376
            cases e376
            replace hx376_0 := (HB.out.cell (World.block_lt_of_cell? w _ hx376_0)).trans hx376_0
            replace hx376_1 := (HB.out.cell (World.block_lt_of_cell? w _ hx376_1)).trans hx376_1
            have HR376_0 := Aside0.mk hi376_0
            have HC376_0 := Aside0.mk hl376_0
            clear hi376_0 hl376_0
            replace p376 := eq_true p376
            replace q376 := eq_true q376
            go_wp2_with (first | ((with_reducible refine gate_dst (N := 5) rfl ?_); refine box_event ?hg (N := 5) ?hd (cs := #[.slice none 0 0, .bool false]) (t := 41) ?hr ?_; (case hd => rfl); (case hg => rfl); (case hr => first | (go_simp; done) | (go_simp; rfl)); intro gb377 hg w7 hbox hb; have n0_ := Aside0.mk (blk_below (g := gb375) (o := .cells #[.slice A0_0 l0_0.length c0_0, .int .i64 a0_1, .int .i64 a0_2, .slice (some ad376) l0_3.length c0_3, .int .i64 a0_4] 26 (0, 0)) (by (with_reducible repeat (first | refine blk_drewN ?_ _ | refine blk_drew ?_ | refine blk_alloc ?_ _)); exact BK375.out) hb); have n1_ := Aside0.mk (below_step (by repeat (first | (with_reducible first | exact HB.out | apply below_alloc | apply pw_below_drewN | apply below_drew1 | refine below_set ?_ GE375.out) | exact HB.out)) hb); have n2_ := Aside0.mk (hbox); have n3_ := Aside0.mk ((by rw [hg]; exact (below_size (by repeat (first | (with_reducible first | exact HB.out | apply below_alloc | apply pw_below_drewN | apply below_drew1 | refine below_set ?_ GE375.out) | exact HB.out))) : w.heap.size ≤ gb377)); have n4_ := Aside0.mk ((by rw [hg]; exact (below_size (by repeat (first | (with_reducible first | exact HB.out | apply below_alloc | apply pw_below_drewN | apply below_drew1 | refine below_set ?_ GE375.out) | exact HB.out))) : w.heap.size ≤ gb377)); have n5_ := Aside0.mk ((by rw [hg]; exact Nat.ne_of_lt (blk_lt (g := gb375) (o := .cells #[.slice A0_0 l0_0.length c0_0, .int .i64 a0_1, .int .i64 a0_2, .slice (some ad376) l0_3.length c0_3, .int .i64 a0_4] 26 (0, 0)) (by (with_reducible repeat (first | refine blk_drewN ?_ _ | refine blk_drew ?_ | refine blk_alloc ?_ _)); exact BK375.out)) : gb375 ≠ gb377)); have n6_ := Aside0.mk ((by rw [hg]; exact Nat.ne_of_gt (blk_lt (g := gb375) (o := .cells #[.slice A0_0 l0_0.length c0_0, .int .i64 a0_1, .int .i64 a0_2, .slice (some ad376) l0_3.length c0_3, .int .i64 a0_4] 26 (0, 0)) (by (with_reducible repeat (first | refine blk_drewN ?_ _ | refine blk_drew ?_ | refine blk_alloc ?_ _)); exact BK375.out)) : gb377 ≠ gb375)); clear BK375; clear HB; have BK375 := n0_; have HB := n1_; have BK377 := n2_; have GW377 := n3_; have GE377 := n4_; have NB375_377 := n5_; have NB377_375 := n6_; clear n0_ n1_ n2_ n3_ n4_ n5_ n6_; clear hb hbox hg; have hnb8 := NB377_375.out; have hnc8 := NB375_377.out; have hcz9_0 : w7.cell? ⟨gb377, 0, none⟩ = some (.slice none 0 0) := (blk_cell BK377.out 0).trans rfl; have hcz9_1 : w7.cell? ⟨gb377, 1, none⟩ = some (.bool false) := (blk_cell BK377.out 1).trans rfl; have hfz9_0 := blk_frozen BK377.out 0; have hfz9_1 := blk_frozen BK377.out 1))
            go_roundg k1
            case measure => have := HK1.out; omega
            case rel => exact ⟨(wrap64 (x3_1 + (((rd_T41 l0_3 x9_1).f0).length : Int))), (wrap64 (x9_1 + 1)), (by first | rfl | (simp; done) | (simp [*]; done)), (by first | rfl | (simp; done) | (simp [*]; done)), H', ⟨by have := HK1.out; omega⟩, ⟨by (with_reducible repeat (first | refine blk_drewN ?_ _ | refine blk_drew ?_ | refine blk_alloc ?_ _)); refine blk_far ?_ NB375_377.out _; (with_reducible repeat (first | refine blk_drewN ?_ _ | refine blk_drew ?_ | refine blk_alloc ?_ _)); refine blk_far ?_ NB375_377.out _; (with_reducible repeat (first | refine blk_drewN ?_ _ | refine blk_drew ?_ | refine blk_alloc ?_ _)); exact BK375.out⟩, ⟨by repeat (first | (with_reducible first | exact HB.out | apply below_alloc | apply pw_below_drewN | apply below_drew1 | refine below_set ?_ GE375.out | refine below_set ?_ GE377.out) | exact HB.out)⟩⟩
          · rw [if_neg c6] at H
            exact absurd H (by simp)
        · rw [if_neg c5] at H
          exact absurd H (by simp)
      · rw [if_neg c4] at H
        have c4b0 : decide (x9_1 < (l0_3.length : Int)) = false := decide_eq_false c4
        clear c4
        obtain rfl := Option.some.inj H
        go_wp2
        go_ret
        exact ⟨by first | rfl | (simp [IntKind.wrap_i64, wrap64]; done) | (simp [errW_none, errW_some] <;> rfl) | (simp [*, errW_none, errW_some] <;> rfl), by repeat (first | (with_reducible first | exact HB.out | apply below_alloc | apply pw_below_drewN | apply below_drew1 | refine below_set ?_ GE375.out) | exact HB.out)⟩

-- NOT PRINTED: function 3 (laws_FnEdtTake)

/-! ### impl_EdtPut: function 10 (by hand) -/
def impl_EdtPut.f (k : Nat) (l0_0 : List S56) (a0_1 : Int) (a0_2 : Int) (l0_3 : List S41) (a0_4 : Int) (a1 : Int) (a2 : Int) (a3 : S38) : Option (List S56 × Int × Int × List S41 × Int × Bool) :=
  (impl_TblOk.f k l0_0 a0_1 a0_2 l0_3 a0_4).bind fun b => if b = true then (impl_TblTable_copied.f k l0_0 a0_1 a0_2 l0_3 a0_4).bind fun c => (impl_CellOk.f a3.f0 a3.f1 a3.f2 a3.f3.f0 a3.f3.f1 a3.f4.f0 a3.f4.f1 a3.f5.f0 a3.f5.f1 a3.f6.f0 a3.f6.f1).bind fun o => if c.2.2.2.1.length < 1000000 ∧ (rd_T41 c.2.2.2.1 a1).f0.length < 1000000 then some (c.1, c.2.1, c.2.2.1, if (o && decide (putP c.2.2.2.1 a1 a2)) = true then putRows c.2.2.2.1 a1 a2 a3 else c.2.2.2.1, c.2.2.2.2, (o && decide (putP c.2.2.2.1 a1 a2))) else none else some ([], 0, 0, [], 0, false)
theorem impl_EdtPut.mono : ∀ a0 a1 a2 a3 a4 b0 b1 b2 k, LeO (impl_EdtPut.f k a0 a1 a2 a3 a4 b0 b1 b2) (impl_EdtPut.f (k + 1) a0 a1 a2 a3 a4 b0 b1 b2) := fun _ _ _ _ _ _ _ _ _ => by
  unfold impl_EdtPut.f
  exact LeO.bind (impl_TblOk.mono _ _ _ _ _ _) fun _ => LeO.ite (LeO.bind (impl_TblTable_copied.mono _ _ _ _ _ _) fun _ => LeO.refl _) (LeO.refl _)
theorem impl_EdtPut.blk (w : World) (o1 o2 o3 o4 o5 : Obj) : (((((w.alloc o1).alloc o2).alloc o3).alloc o4).alloc o5).heap[w.heap.size]? = some o1 ∧ (((((w.alloc o1).alloc o2).alloc o3).alloc o4).alloc o5).heap[w.heap.size + 1]? = some o2 ∧ (((((w.alloc o1).alloc o2).alloc o3).alloc o4).alloc o5).heap[w.heap.size + 2]? = some o3 ∧ (((((w.alloc o1).alloc o2).alloc o3).alloc o4).alloc o5).heap[w.heap.size + 3]? = some o4 ∧ (((((w.alloc o1).alloc o2).alloc o3).alloc o4).alloc o5).heap[w.heap.size + 4]? = some o5 := by
  have s1 : (w.alloc o1).heap.size = w.heap.size + 1 := by simp
  have s2 : ((w.alloc o1).alloc o2).heap.size = w.heap.size + 2 := by simp
  have s3 : (((w.alloc o1).alloc o2).alloc o3).heap.size = w.heap.size + 3 := by simp
  have s4 : ((((w.alloc o1).alloc o2).alloc o3).alloc o4).heap.size = w.heap.size + 4 := by simp
  refine ⟨blk_alloc (blk_alloc (blk_alloc (blk_alloc (blk_new w o1) _) _) _) _, ?_, ?_, ?_, ?_⟩
  · rw [← s1]; exact blk_alloc (blk_alloc (blk_alloc (blk_new _ o2) _) _) _
  · rw [← s2]; exact blk_alloc (blk_alloc (blk_new _ o3) _) _
  · rw [← s3]; exact blk_alloc (blk_new _ o4) _
  · rw [← s4]; exact blk_new _ o5
theorem impl_EdtPut.parts {k : Nat} {l0_0 : List S56} {a0_1 a0_2 : Int} {l0_3 : List S41} {a0_4 : Int} {a1 : Int} {a2 : Int} {a3 : S38} {c1 : List S56} {h1 f1 : Int} {r4 : List S41} {g1 : Int} {q : Bool} (h : impl_EdtPut.f k l0_0 a0_1 a0_2 l0_3 a0_4 a1 a2 a3 = some (c1, h1, f1, r4, g1, q)) :
    ∃ b r1, impl_TblOk.f k l0_0 a0_1 a0_2 l0_3 a0_4 = some b ∧ (b = false → q = false ∧ c1 = [] ∧ h1 = 0 ∧ f1 = 0 ∧ r4 = [] ∧ g1 = 0) ∧ (b = true → impl_TblTable_copied.f k l0_0 a0_1 a0_2 l0_3 a0_4 = some (c1, h1, f1, r1, g1) ∧ ∃ o, impl_CellOk.f a3.f0 a3.f1 a3.f2 a3.f3.f0 a3.f3.f1 a3.f4.f0 a3.f4.f1 a3.f5.f0 a3.f5.f1 a3.f6.f0 a3.f6.f1 = some o ∧ (r1.length < 1000000 ∧ (rd_T41 r1 a1).f0.length < 1000000) ∧ (o && decide (putP r1 a1 a2)) = q ∧ r4 = if q = true then putRows r1 a1 a2 a3 else r1) := by
  unfold impl_EdtPut.f at h
  obtain ⟨b, e1, h⟩ := Option.bind_eq_some_iff.1 h
  cases b
  · rw [if_neg (by decide)] at h
    simp only [Option.some.injEq, Prod.mk.injEq] at h
    obtain ⟨rfl, rfl, rfl, rfl, rfl, rfl⟩ := h
    exact ⟨false, [], e1, fun _ => ⟨rfl, rfl, rfl, rfl, rfl, rfl⟩, (fun e => by cases e)⟩
  · rw [if_pos rfl] at h
    obtain ⟨⟨x1, x2, x3, x4, x5⟩, e2, h⟩ := Option.bind_eq_some_iff.1 h
    obtain ⟨o, e3, h⟩ := Option.bind_eq_some_iff.1 h
    split at h
    · rename_i hg
      simp only [Option.some.injEq, Prod.mk.injEq] at h
      obtain ⟨rfl, rfl, rfl, h4, rfl, hq⟩ := h
      exact ⟨true, x4, e1, (fun e => by cases e), fun _ => ⟨e2, o, e3, hg, hq, by rw [← h4, ← hq]⟩⟩
    · cases h
set_option maxHeartbeats 4000000 in
set_option maxRecDepth 100000 in
theorem impl_EdtPut.calls (k : Nat) (A0_0 : Option Addr) (c0_0 : Nat) (l0_0 : List S56) (a0_1 : Int) (a0_2 : Int) (A0_3 : Option Addr) (c0_3 : Nat) (l0_3 : List S41) (a0_4 : Int) (a1 : Int) (a2 : Int) (a3 : S38) (r1 : List S56) (r2 : Int) (r3 : Int) (r4 : List S41) (r5 : Int) (r6 : Bool) (w : World) (hr0_0 : Kd.C k56 w A0_0 l0_0.length l0_0) (hc0_0 : l0_0.length ≤ c0_0) (hr0_3 : Kd.C k41 w A0_3 l0_3.length l0_3) (hc0_3 : l0_3.length ≤ c0_3) (hM : Txt.MLen w) (h : impl_EdtPut.f k l0_0 a0_1 a0_2 l0_3 a0_4 a1 a2 a3 = some (r1, r2, r3, r4, r5, r6)) :
    Calls Tryd.prog 10 #[.agg #[.slice A0_0 l0_0.length c0_0, .int .i64 a0_1, .int .i64 a0_2, .slice A0_3 l0_3.length c0_3, .int .i64 a0_4], .int .i64 a1, .int .i64 a2, .agg (cellV a3)] w fun e w' => ∃ v0_ v3_ : Value, e = .returned (.tuple #[.agg #[v0_, .int .i64 r2, .int .i64 r3, v3_, .int .i64 r5], .bool r6]) ∧ Kd.R k56 56 w' w.heap.size (fun _ => True) v0_ r1 ∧ Kd.S k41 41 w' w.heap.size (fun _ => True) v3_ r4 ∧ Below w.heap.size w w' := by
  have HM := Aside0.mk hM
  have HR0 := Aside0.mk hr0_0
  have HC0 := Aside0.mk hc0_0
  have HR3 := Aside0.mk hr0_3
  have HC3 := Aside0.mk hc0_3
  clear hM hr0_0 hc0_0 hr0_3 hc0_3
  obtain ⟨b, rr, e1, e2, e3⟩ := impl_EdtPut.parts h
  have E1 := Aside0.mk e1
  have E2 := Aside0.mk e2
  have E3 := Aside0.mk e3
  clear h e1 e2 e3
  go_enter Tryd.func10, Tryd.ntmps10
  go_upto_region 1 with (fail)
  have h3 := impl_EdtPut.blk w (.cells (l3A (.slice A0_0 l0_0.length c0_0) (.slice A0_3 l0_3.length c0_3) a0_1 a0_2 a0_4) 26) (.cells #[.int .i64 a1] 3) (.cells #[.int .i64 a2] 3) (.cells (cellV a3) 38) (.cells (l3A (.slice none 0 0) (.slice none 0 0) 0 0 0) 26)
  have hB0 : Below w.heap.size w (((((w.alloc (.cells (l3A (.slice A0_0 l0_0.length c0_0) (.slice A0_3 l0_3.length c0_3) a0_1 a0_2 a0_4) 26)).alloc (.cells #[.int .i64 a1] 3)).alloc (.cells #[.int .i64 a2] 3)).alloc (.cells (cellV a3) 38)).alloc (.cells (l3A (.slice none 0 0) (.slice none 0 0) 0 0 0) 26)) := below_alloc (below_alloc (below_alloc (below_alloc (below_alloc (Below.refl _ _) _) _) _) _) _
  refine wp_letter (fun W0 => (W0.heap[w.heap.size]? = some (.cells (l3A (.slice A0_0 l0_0.length c0_0) (.slice A0_3 l0_3.length c0_3) a0_1 a0_2 a0_4) 26 (0, 0)) ∧ W0.heap[w.heap.size + 1]? = some (.cells #[.int .i64 a1] 3 (0, 0)) ∧ W0.heap[w.heap.size + 2]? = some (.cells #[.int .i64 a2] 3 (0, 0)) ∧ W0.heap[w.heap.size + 3]? = some (.cells (cellV a3) 38 (0, 0)) ∧ W0.heap[w.heap.size + 4]? = some (.cells (l3A (.slice none 0 0) (.slice none 0 0) 0 0 0) 26 (0, 0))) ∧ Below w.heap.size w W0) ⟨h3, hB0⟩ ?_
  rintro W1 ⟨⟨hP, hb1, hb2, hb3, hZ⟩, hB⟩
  clear h3 hB0
  have HP := Aside0.mk hP
  have HZB := Aside0.mk hZ
  have HB := Aside0.mk hB
  have HED := Aside0.mk (edited_calls k A0_0 c0_0 l0_0 a0_1 a0_2 A0_3 c0_3 l0_3 a0_4 26 #[.pointer (some ⟨w.heap.size + 3, 0, none⟩), .pointer (some ⟨w.heap.size + 1, 0, none⟩), .pointer (some ⟨w.heap.size + 2, 0, none⟩)] (enters_of Tryd.func26 (by kernel_rfl) rfl) b r1 r2 r3 rr r5 r1 r2 r3 r4 r5 r6 W1 (Kd.C_below HR0.out hB) HC0.out (Kd.C_below HR3.out hB) HC3.out (Txt.MLen_below HM.out hB) E1.out (fun e => E2.out e) (fun e => by
      obtain ⟨z1, o, z0, z2, z3, z4⟩ := E3.out e
      refine ⟨z1, ?_⟩
      rw [z4]
      exact clo_Put a3 a1 a2 _ _ _ r1 r2 r3 rr r5 o r6 W1 hb3 ((blk_cell hb1 0).trans rfl) ((blk_cell hb2 0).trans rfl) (Txt.MLen_below HM.out hB) z0 z3 z2))
  clear hP hb1 hb2 hb3 hZ hB E1 E2 E3 HR0 HC0 HR3 HC3 HM
  go_wp2_with (first | (refine wpList_load_row rfl 26 _ rfl w.heap.size rfl 26 (l3A (.slice A0_0 l0_0.length c0_0) (.slice A0_3 l0_3.length c0_3) a0_1 a0_2 a0_4) (0, 0) _ HP.out Tryd.underlying26 rfl (by kernel_rfl) ?_) | (go_at_call 16; refine HED.out.mono ?_; rintro e_ W5 ⟨vc', vr', rfl, hrc, hsr, hb⟩; obtain ⟨Ad, cd, rfl⟩ := Kd.R_slice hrc; obtain ⟨Ae, ce, rfl⟩ := Kd.R_slice (Kd.S_R hsr); have HRC := Aside0.mk (Kd.R_lower hrc HB.out.size); have HSR := Aside0.mk (Kd.S_lower hsr HB.out.size); have HB5 := Aside0.mk (below_step HB.out hb); have HZ5 := Aside0.mk (blk_below HZB.out hb); clear hrc hsr hb) | (refine wpList_put 26 _ _ rfl rfl (w.heap.size + 4) 0 rfl (.agg (l3A (.slice Ad r1.length cd) (.slice Ae r4.length ce) r2 r3 r5)) rfl 26 (l3A (.slice none 0 0) (.slice none 0 0) 0 0 0) (l3A (.slice Ad r1.length cd) (.slice Ae r4.length ce) r2 r3 r5) HZ5.out (by kernel_rfl) rfl rfl rfl (fun W9 hp => ?_); have HFB := Aside0.mk hp.blk; have HF := Aside0.mk (pw_below_grown HB5.out _ (by have := blk_lt HZ5.out; omega) hp.grown (fun k hk => by injection hk with hk; omega)); have HFR := Aside0.mk (R_put HRC.out HZ5.out hp (by decide)); have HFS := Aside0.mk (S_put HSR.out HZ5.out hp (by decide)); clear hp))
  exact bodyPost_ret (results_ct rfl _ _ (w.heap.size + 4) 26 (l3A (.slice Ad r1.length cd) (.slice Ae r4.length ce) r2 r3 r5) (0, 0) _ rfl HFB.out Tryd.underlying26 rfl (by kernel_rfl)) rfl ⟨_, _, rfl, HFR.out, HFS.out, HF.out⟩

/-! ### impl_EdtTake: function 5 (by hand) -/
def impl_EdtTake.f (k : Nat) (l0_0 : List S56) (a0_1 : Int) (a0_2 : Int) (l0_3 : List S41) (a0_4 : Int) (a1 : Int) (a2 : Int) : Option (List S56 × Int × Int × List S41 × Int × Bool) :=
  (impl_TblOk.f k l0_0 a0_1 a0_2 l0_3 a0_4).bind fun b => if b = true then (impl_TblTable_copied.f k l0_0 a0_1 a0_2 l0_3 a0_4).bind fun c => if c.2.2.2.1.length < 1000000 ∧ (rd_T41 c.2.2.2.1 a1).f0.length < 1000000 then some (c.1, c.2.1, c.2.2.1, if decide (hasP c.2.2.2.1 a1 a2) = true then takeRows c.2.2.2.1 a1 a2 else c.2.2.2.1, c.2.2.2.2, decide (hasP c.2.2.2.1 a1 a2)) else none else some ([], 0, 0, [], 0, false)
theorem impl_EdtTake.mono : ∀ a0 a1 a2 a3 a4 b0 b1 k, LeO (impl_EdtTake.f k a0 a1 a2 a3 a4 b0 b1) (impl_EdtTake.f (k + 1) a0 a1 a2 a3 a4 b0 b1) := fun _ _ _ _ _ _ _ _ => by
  unfold impl_EdtTake.f
  exact LeO.bind (impl_TblOk.mono _ _ _ _ _ _) fun _ => LeO.ite (LeO.bind (impl_TblTable_copied.mono _ _ _ _ _ _) fun _ => LeO.refl _) (LeO.refl _)
theorem impl_EdtTake.blk (w : World) (o1 o2 o3 o4 : Obj) : ((((w.alloc o1).alloc o2).alloc o3).alloc o4).heap[w.heap.size]? = some o1 ∧ ((((w.alloc o1).alloc o2).alloc o3).alloc o4).heap[w.heap.size + 1]? = some o2 ∧ ((((w.alloc o1).alloc o2).alloc o3).alloc o4).heap[w.heap.size + 2]? = some o3 ∧ ((((w.alloc o1).alloc o2).alloc o3).alloc o4).heap[w.heap.size + 3]? = some o4 := by
  have s1 : (w.alloc o1).heap.size = w.heap.size + 1 := by simp
  have s2 : ((w.alloc o1).alloc o2).heap.size = w.heap.size + 2 := by simp
  have s3 : (((w.alloc o1).alloc o2).alloc o3).heap.size = w.heap.size + 3 := by simp
  refine ⟨blk_alloc (blk_alloc (blk_alloc (blk_new w o1) _) _) _, ?_, ?_, ?_⟩
  · rw [← s1]; exact blk_alloc (blk_alloc (blk_new _ o2) _) _
  · rw [← s2]; exact blk_alloc (blk_new _ o3) _
  · rw [← s3]; exact blk_new _ o4
theorem impl_EdtTake.parts {k : Nat} {l0_0 : List S56} {a0_1 a0_2 : Int} {l0_3 : List S41} {a0_4 : Int} {a1 : Int} {a2 : Int} {c1 : List S56} {h1 f1 : Int} {r4 : List S41} {g1 : Int} {q : Bool} (h : impl_EdtTake.f k l0_0 a0_1 a0_2 l0_3 a0_4 a1 a2 = some (c1, h1, f1, r4, g1, q)) :
    ∃ b r1, impl_TblOk.f k l0_0 a0_1 a0_2 l0_3 a0_4 = some b ∧ (b = false → q = false ∧ c1 = [] ∧ h1 = 0 ∧ f1 = 0 ∧ r4 = [] ∧ g1 = 0) ∧ (b = true → impl_TblTable_copied.f k l0_0 a0_1 a0_2 l0_3 a0_4 = some (c1, h1, f1, r1, g1) ∧ (r1.length < 1000000 ∧ (rd_T41 r1 a1).f0.length < 1000000) ∧ decide (hasP r1 a1 a2) = q ∧ r4 = if q = true then takeRows r1 a1 a2 else r1) := by
  unfold impl_EdtTake.f at h
  obtain ⟨b, e1, h⟩ := Option.bind_eq_some_iff.1 h
  cases b
  · rw [if_neg (by decide)] at h
    simp only [Option.some.injEq, Prod.mk.injEq] at h
    obtain ⟨rfl, rfl, rfl, rfl, rfl, rfl⟩ := h
    exact ⟨false, [], e1, fun _ => ⟨rfl, rfl, rfl, rfl, rfl, rfl⟩, (fun e => by cases e)⟩
  · rw [if_pos rfl] at h
    obtain ⟨⟨x1, x2, x3, x4, x5⟩, e2, h⟩ := Option.bind_eq_some_iff.1 h
    split at h
    · rename_i hg
      simp only [Option.some.injEq, Prod.mk.injEq] at h
      obtain ⟨rfl, rfl, rfl, h4, rfl, hq⟩ := h
      exact ⟨true, x4, e1, (fun e => by cases e), fun _ => ⟨e2, hg, hq, by rw [← h4, ← hq]⟩⟩
    · cases h
set_option maxHeartbeats 4000000 in
set_option maxRecDepth 100000 in
theorem impl_EdtTake.calls (k : Nat) (A0_0 : Option Addr) (c0_0 : Nat) (l0_0 : List S56) (a0_1 : Int) (a0_2 : Int) (A0_3 : Option Addr) (c0_3 : Nat) (l0_3 : List S41) (a0_4 : Int) (a1 : Int) (a2 : Int) (r1 : List S56) (r2 : Int) (r3 : Int) (r4 : List S41) (r5 : Int) (r6 : Bool) (w : World) (hr0_0 : Kd.C k56 w A0_0 l0_0.length l0_0) (hc0_0 : l0_0.length ≤ c0_0) (hr0_3 : Kd.C k41 w A0_3 l0_3.length l0_3) (hc0_3 : l0_3.length ≤ c0_3) (hM : Txt.MLen w) (h : impl_EdtTake.f k l0_0 a0_1 a0_2 l0_3 a0_4 a1 a2 = some (r1, r2, r3, r4, r5, r6)) :
    Calls Tryd.prog 5 #[.agg #[.slice A0_0 l0_0.length c0_0, .int .i64 a0_1, .int .i64 a0_2, .slice A0_3 l0_3.length c0_3, .int .i64 a0_4], .int .i64 a1, .int .i64 a2] w fun e w' => ∃ v0_ v3_ : Value, e = .returned (.tuple #[.agg #[v0_, .int .i64 r2, .int .i64 r3, v3_, .int .i64 r5], .bool r6]) ∧ Kd.R k56 56 w' w.heap.size (fun _ => True) v0_ r1 ∧ Kd.S k41 41 w' w.heap.size (fun _ => True) v3_ r4 ∧ Below w.heap.size w w' := by
  have HM := Aside0.mk hM
  have HR0 := Aside0.mk hr0_0
  have HC0 := Aside0.mk hc0_0
  have HR3 := Aside0.mk hr0_3
  have HC3 := Aside0.mk hc0_3
  clear hM hr0_0 hc0_0 hr0_3 hc0_3
  obtain ⟨b, rr, e1, e2, e3⟩ := impl_EdtTake.parts h
  have E1 := Aside0.mk e1
  have E2 := Aside0.mk e2
  have E3 := Aside0.mk e3
  clear h e1 e2 e3
  go_enter Tryd.func5, Tryd.ntmps5
  go_upto_region 1 with (fail)
  have h3 := impl_EdtTake.blk w (.cells (l3A (.slice A0_0 l0_0.length c0_0) (.slice A0_3 l0_3.length c0_3) a0_1 a0_2 a0_4) 26) (.cells #[.int .i64 a1] 3) (.cells #[.int .i64 a2] 3) (.cells (l3A (.slice none 0 0) (.slice none 0 0) 0 0 0) 26)
  have hB0 : Below w.heap.size w ((((w.alloc (.cells (l3A (.slice A0_0 l0_0.length c0_0) (.slice A0_3 l0_3.length c0_3) a0_1 a0_2 a0_4) 26)).alloc (.cells #[.int .i64 a1] 3)).alloc (.cells #[.int .i64 a2] 3)).alloc (.cells (l3A (.slice none 0 0) (.slice none 0 0) 0 0 0) 26)) := below_alloc (below_alloc (below_alloc (below_alloc (Below.refl _ _) _) _) _) _
  refine wp_letter (fun W0 => (W0.heap[w.heap.size]? = some (.cells (l3A (.slice A0_0 l0_0.length c0_0) (.slice A0_3 l0_3.length c0_3) a0_1 a0_2 a0_4) 26 (0, 0)) ∧ W0.heap[w.heap.size + 1]? = some (.cells #[.int .i64 a1] 3 (0, 0)) ∧ W0.heap[w.heap.size + 2]? = some (.cells #[.int .i64 a2] 3 (0, 0)) ∧ W0.heap[w.heap.size + 3]? = some (.cells (l3A (.slice none 0 0) (.slice none 0 0) 0 0 0) 26 (0, 0))) ∧ Below w.heap.size w W0) ⟨h3, hB0⟩ ?_
  rintro W1 ⟨⟨hP, hb1, hb2, hZ⟩, hB⟩
  clear h3 hB0
  have HP := Aside0.mk hP
  have HZB := Aside0.mk hZ
  have HB := Aside0.mk hB
  have HED := Aside0.mk (edited_calls k A0_0 c0_0 l0_0 a0_1 a0_2 A0_3 c0_3 l0_3 a0_4 17 #[.pointer (some ⟨w.heap.size + 1, 0, none⟩), .pointer (some ⟨w.heap.size + 2, 0, none⟩)] (enters_of Tryd.func17 (by kernel_rfl) rfl) b r1 r2 r3 rr r5 r1 r2 r3 r4 r5 r6 W1 (Kd.C_below HR0.out hB) HC0.out (Kd.C_below HR3.out hB) HC3.out (Txt.MLen_below HM.out hB) E1.out (fun e => E2.out e) (fun e => by
      obtain ⟨z1, z2, z3, z4⟩ := E3.out e
      refine ⟨z1, ?_⟩
      rw [z4]
      exact clo_Take a1 a2 _ _ r1 r2 r3 rr r5 r6 W1 ((blk_cell hb1 0).trans rfl) ((blk_cell hb2 0).trans rfl) z3 z2))
  clear hP hb1 hb2 hZ hB E1 E2 E3 HR0 HC0 HR3 HC3 HM
  go_wp2_with (first | (refine wpList_load_row rfl 26 _ rfl w.heap.size rfl 26 (l3A (.slice A0_0 l0_0.length c0_0) (.slice A0_3 l0_3.length c0_3) a0_1 a0_2 a0_4) (0, 0) _ HP.out Tryd.underlying26 rfl (by kernel_rfl) ?_) | (go_at_call 16; refine HED.out.mono ?_; rintro e_ W5 ⟨vc', vr', rfl, hrc, hsr, hb⟩; obtain ⟨Ad, cd, rfl⟩ := Kd.R_slice hrc; obtain ⟨Ae, ce, rfl⟩ := Kd.R_slice (Kd.S_R hsr); have HRC := Aside0.mk (Kd.R_lower hrc HB.out.size); have HSR := Aside0.mk (Kd.S_lower hsr HB.out.size); have HB5 := Aside0.mk (below_step HB.out hb); have HZ5 := Aside0.mk (blk_below HZB.out hb); clear hrc hsr hb) | (refine wpList_put 26 _ _ rfl rfl (w.heap.size + 3) 0 rfl (.agg (l3A (.slice Ad r1.length cd) (.slice Ae r4.length ce) r2 r3 r5)) rfl 26 (l3A (.slice none 0 0) (.slice none 0 0) 0 0 0) (l3A (.slice Ad r1.length cd) (.slice Ae r4.length ce) r2 r3 r5) HZ5.out (by kernel_rfl) rfl rfl rfl (fun W9 hp => ?_); have HFB := Aside0.mk hp.blk; have HF := Aside0.mk (pw_below_grown HB5.out _ (by have := blk_lt HZ5.out; omega) hp.grown (fun k hk => by injection hk with hk; omega)); have HFR := Aside0.mk (R_put HRC.out HZ5.out hp (by decide)); have HFS := Aside0.mk (S_put HSR.out HZ5.out hp (by decide)); clear hp))
  exact bodyPost_ret (results_ct rfl _ _ (w.heap.size + 3) 26 (l3A (.slice Ad r1.length cd) (.slice Ae r4.length ce) r2 r3 r5) (0, 0) _ rfl HFB.out Tryd.underlying26 rfl (by kernel_rfl)) rfl ⟨_, _, rfl, HFR.out, HFS.out, HF.out⟩

/-! ### spec_EdtTake: function 6 (by hand) -/
-- imports: Derived.Deep.AppendSrc Derived.Laws.NewBlocks
def spec_EdtTake.f (k : Nat) (l0_0 : List S56) (a0_1 : Int) (a0_2 : Int) (l0_3 : List S41) (a0_4 : Int) (a1 a2 : Int) : Option (List S56 × Int × Int × List S41 × Int × Bool) :=
  (spec_TblOk.f k l0_0 a0_1 a0_2 l0_3 a0_4).bind fun b => if b = true then (spec_l2Copy.f k l0_0 a0_1 a0_2 l0_3 a0_4).bind fun c => if l0_3.length < 1000000 ∧ c.2.2.2.1.length = l0_3.length ∧ (rd_T41 l0_3 a1).f0.length < 1000000 then (if hasP l0_3 a1 a2 then some (c.1, c.2.1, c.2.2.1, c.2.2.2.1.set a1.toNat ⟨(rd_T41 l0_3 a1).f0.eraseIdx a2.toNat, (rd_T41 c.2.2.2.1 a1).f1⟩, c.2.2.2.2, true) else some (c.1, c.2.1, c.2.2.1, c.2.2.2.1, c.2.2.2.2, false)) else none else some ([], 0, 0, [], 0, false)
theorem spec_EdtTake.mono : ∀ a0 a1 a2 a3 a4 a5 a6 k, LeO (spec_EdtTake.f k a0 a1 a2 a3 a4 a5 a6) (spec_EdtTake.f (k + 1) a0 a1 a2 a3 a4 a5 a6) := fun _ _ _ _ _ _ _ _ => by
  unfold spec_EdtTake.f
  exact LeO.bind (spec_TblOk.mono _ _ _ _ _ _) fun _ => LeO.ite (LeO.bind (spec_l2Copy.mono _ _ _ _ _ _) fun _ => LeO.refl _) (LeO.refl _)
theorem spec_EdtTake.parts {k : Nat} {l0_0 : List S56} {a0_1 a0_2 : Int} {l0_3 : List S41} {a0_4 a1 a2 : Int} {c1 : List S56} {h1 f1 : Int} {r4 : List S41} {g1 : Int} {q : Bool} (h : spec_EdtTake.f k l0_0 a0_1 a0_2 l0_3 a0_4 a1 a2 = some (c1, h1, f1, r4, g1, q)) :
    ∃ b r1, Aside0 (spec_TblOk.f k l0_0 a0_1 a0_2 l0_3 a0_4 = some b) ∧ ((b = false ∧ q = false ∧ r4 = [] ∧ c1 = [] ∧ h1 = 0 ∧ f1 = 0 ∧ g1 = 0) ∨ (b = true ∧ Aside0 (spec_l2Copy.f k l0_0 a0_1 a0_2 l0_3 a0_4 = some (c1, h1, f1, r1, g1)) ∧ (l0_3.length < 1000000 ∧ r1.length = l0_3.length ∧ (rd_T41 l0_3 a1).f0.length < 1000000) ∧ ((¬ hasP l0_3 a1 a2 ∧ r4 = r1 ∧ q = false) ∨ (hasP l0_3 a1 a2 ∧ r4 = r1.set a1.toNat ⟨(rd_T41 l0_3 a1).f0.eraseIdx a2.toNat, (rd_T41 r1 a1).f1⟩ ∧ q = true)))) := by
  unfold spec_EdtTake.f at h
  obtain ⟨b, e1, h⟩ := Option.bind_eq_some_iff.1 h
  cases b
  · rw [if_neg (by decide)] at h
    simp only [Option.some.injEq, Prod.mk.injEq] at h
    obtain ⟨rfl, rfl, rfl, rfl, rfl, rfl⟩ := h
    exact ⟨false, [], ⟨e1⟩, .inl ⟨rfl, rfl, rfl, rfl, rfl, rfl, rfl⟩⟩
  · rw [if_pos rfl] at h
    obtain ⟨⟨x1, x2, x3, x4, x5⟩, e2, h⟩ := Option.bind_eq_some_iff.1 h
    split at h
    · rename_i hg
      split at h
      · rename_i hy
        simp only [Option.some.injEq, Prod.mk.injEq] at h
        obtain ⟨rfl, rfl, rfl, rfl, rfl, rfl⟩ := h
        exact ⟨true, x4, ⟨e1⟩, .inr ⟨rfl, ⟨e2⟩, hg, .inr ⟨hy, rfl, rfl⟩⟩⟩
      · rename_i hy
        simp only [Option.some.injEq, Prod.mk.injEq] at h
        obtain ⟨rfl, rfl, rfl, rfl, rfl, rfl⟩ := h
        exact ⟨true, x4, ⟨e1⟩, .inr ⟨rfl, ⟨e2⟩, hg, .inl ⟨hy, rfl, rfl⟩⟩⟩
    · cases h
theorem spec_EdtTake.in_dec (x c d : Int) : spec_l1In.f x c d = some (decide (c ≤ x ∧ x ≤ d)) := by
  unfold spec_l1In.f
  split
  · congr 1; exact decide_eq_decide.2 (by omega)
  · congr 1; symm; exact decide_eq_false (by omega)
/-- What stands behind the copying. -/
structure spec_EdtTake.E5 (w : World) (pa : Array Value) (B : Nat) (Ac Ar : Option Addr) (cc cr : Nat) (c1 : List S56) (h1 f1 : Int) (r1 : List S41) (g1 : Int) (W : World) : Prop where
  e : E3 w pa W
  xb : W.heap[B]? = some (.cells (l3A (.slice Ac c1.length cc) (.slice Ar r1.length cr) h1 f1 g1) 26 (0, 0))
  rc : Kd.R k56 56 W w.heap.size (fun _ => True) (.slice Ac c1.length cc) c1
  sr : Kd.S k41 41 W w.heap.size (fun _ => True) (.slice Ar r1.length cr) r1
  lt : w.heap.size + 2 ≤ B
theorem spec_EdtTake.E5.below {w W W' : World} {pa : Array Value} {B : Nat} {Ac Ar : Option Addr} {cc cr : Nat} {c1 : List S56} {h1 f1 : Int} {r1 : List S41} {g1 : Int} (h : spec_EdtTake.E5 w pa B Ac Ar cc cr c1 h1 f1 r1 g1 W) (hb : Below W.heap.size W W') : spec_EdtTake.E5 w pa B Ac Ar cc cr c1 h1 f1 r1 g1 W' := ⟨h.e.below hb, blk_below h.xb hb, Kd.R_below h.rc hb, Kd.S_below h.sr hb, h.lt⟩
def spec_EdtTake.T7 : Bool × List (List Nat × List Nat) := (true, [([], []), ([0], [0]), ([], []), ([], []), ([], []), ([], []), ([4, 5], [4, 5]), ([3, 6], [3, 6]), ([], []), ([], []), ([9], [9]), ([8, 10], [8, 10]), ([7, 11, 7], [7, 11]), ([1, 2, 0, 1, 2, 3, 4, 5, 6, 7, 8, 9, 10, 11, 12], [1, 2]), ([13, 0, 1, 2, 3, 4, 5, 6, 7, 8, 9, 10, 11, 12], [13]), ([14, 12, 12, 0, 1, 2, 3, 4, 5, 6, 7, 8, 9, 10, 11, 12], [12, 14])])
def spec_EdtTake.B7 : List Nat := [0, 1, 0, 0, 0, 0, 48, 120, 0, 0, 512, 1792, 4088, 8191, 16383, 32767]
def spec_EdtTake.L7 : List (Nat × Tmp) := [(0, 43), (1, 44), (2, 45), (3, 46), (4, 47), (5, 48), (6, 49), (7, 50), (8, 51), (9, 52), (10, 53), (11, 54), (12, 55), (13, 56), (14, 57)]
def spec_EdtTake.O7 : List Nat := [0, 1, 2, 3, 4, 5, 6, 7, 8, 9, 10, 11, 12, 13, 14, 15]
theorem spec_EdtTake.tab7 : rtab .any (opsOf Tryd.f6 7) = spec_EdtTake.T7 := by kernel_rfl
theorem spec_EdtTake.bits7 : waitsOk spec_EdtTake.T7.2 spec_EdtTake.B7 = true := by kernel_rfl
theorem spec_EdtTake.base7 : baseOk spec_EdtTake.T7.2 spec_EdtTake.O7 = true := by kernel_rfl
theorem spec_EdtTake.lof7 : (lof spec_EdtTake.T7.2.length spec_EdtTake.O7 (fun _ => false) == List.replicate spec_EdtTake.T7.2.length false && spec_EdtTake.O7.length == spec_EdtTake.T7.2.length) = true := by kernel_rfl
theorem spec_EdtTake.ents7 : chkL (opsOf Tryd.f6 7) spec_EdtTake.O7 spec_EdtTake.L7 = true := by kernel_rfl
theorem spec_EdtTake.last7 : lastOk spec_EdtTake.B7 spec_EdtTake.O7 15 = true := by kernel_rfl
/-- What is known of the values of the region that makes the row. -/
def spec_EdtTake.P7 (base at_ m : Nat) (X Y : List (List Value)) (V : Nat → Value) : Nat → Value → World → Prop
  | 3, v, W => ∃ g cur, v = .slice (some ⟨g, 0, none⟩) 0 0 ∧ RawB 11 38 base W g 0 0 cur []
  | 7, v, W => ∃ g cap cur, v = .slice (some ⟨g, 0, none⟩) at_ cap ∧ RawB 11 38 base W g at_ cap cur X
  | 12, v, W => ∃ g cap cur, v = .slice (some ⟨g, 0, none⟩) (at_ + m) cap ∧ RawB 11 38 base W g (at_ + m) cap cur (X ++ Y)
  | j, v, _ => v = V j
def spec_EdtTake.V7 (B gr : Nat) (row : Int) (n cr at_ l m c2 : Nat) (ao : Addr) (yA : Option Addr) : Nat → Value
  | 0 => .pointer (some ⟨B, 3, none⟩)
  | 1 => .slice (some ⟨gr, 0, none⟩) n cr
  | 2 => .int .i64 row
  | 4 | 8 => .slice (some ao) l c2
  | 5 | 9 => .int .i64 (at_ : Int)
  | 6 => .slice (some ao) at_ c2
  | 10 => .int .i64 ((at_ : Int) + 1)
  | 11 => .slice yA m (c2 - (at_ + 1))
  | 13 | 14 => .pointer (some ⟨gr, row.toNat * 2, none⟩)
  | _ => undef
theorem spec_EdtTake.keep7 {base at_ m : Nat} {X Y : List (List Value)} {V : Nat → Value} : ∀ (j : Nat) (v : Value) (W W' : World), j ∉ [12] → spec_EdtTake.P7 base at_ m X Y V j v W → StN 11 38 base at_ W W' → spec_EdtTake.P7 base at_ m X Y V j v W' := by
  intro j v W W' hj h hs
  unfold spec_EdtTake.P7 at h ⊢
  split at h
  · obtain ⟨g, cur, e, hB⟩ := h
    obtain ⟨c2, hB2⟩ := hs _ _ _ _ _ hB (Nat.zero_le _)
    exact ⟨g, c2, e, hB2⟩
  · obtain ⟨g, cap, cur, e, hB⟩ := h
    obtain ⟨c2, hB2⟩ := hs _ _ _ _ _ hB (Nat.le_refl _)
    exact ⟨g, cap, c2, e, hB2⟩
  · exact absurd (by simp) hj
  · exact h
set_option maxHeartbeats 4000000 in
set_option maxRecDepth 100000 in
theorem spec_EdtTake.calls (k : Nat) (A0_0 : Option Addr) (c0_0 : Nat) (l0_0 : List S56) (a0_1 : Int) (a0_2 : Int) (A0_3 : Option Addr) (c0_3 : Nat) (l0_3 : List S41) (a0_4 : Int) (a1 a2 : Int) (r1 : List S56) (r2 : Int) (r3 : Int) (r4 : List S41) (r5 : Int) (r6 : Bool) (w : World) (hr0_0 : Kd.C k56 w A0_0 l0_0.length l0_0) (hc0_0 : l0_0.length ≤ c0_0) (hr0_3 : Kd.C k41 w A0_3 l0_3.length l0_3) (hc0_3 : l0_3.length ≤ c0_3) (h : spec_EdtTake.f k l0_0 a0_1 a0_2 l0_3 a0_4 a1 a2 = some (r1, r2, r3, r4, r5, r6)) :
    Calls Tryd.prog 6 #[.agg #[.slice A0_0 l0_0.length c0_0, .int .i64 a0_1, .int .i64 a0_2, .slice A0_3 l0_3.length c0_3, .int .i64 a0_4], .int .i64 a1, .int .i64 a2] w fun e w' => ∃ v0_ v3_ : Value, e = .returned (.tuple #[.agg #[v0_, .int .i64 r2, .int .i64 r3, v3_, .int .i64 r5], .bool r6]) ∧ Kd.R k56 56 w' w.heap.size (fun _ => True) v0_ r1 ∧ Kd.S k41 41 w' w.heap.size (fun _ => True) v3_ r4 ∧ Below w.heap.size w w' := by
  have HR0 := Aside0.mk hr0_0
  have HC0 := Aside0.mk hc0_0
  have HR3 := Aside0.mk hr0_3
  have HC3 := Aside0.mk hc0_3
  clear hr0_0 hc0_0 hr0_3 hc0_3
  obtain ⟨b, rr, E1, hs⟩ := spec_EdtTake.parts h
  have HS := Aside0.mk hs
  clear h hs
  have hu := Tryd.underlying26
  go_enter Tryd.func6, Tryd.ntmps6
  go_upto_region 1 with (fail)
  refine wp_letter (fun W0 => E3 w (l3A (.slice A0_0 l0_0.length c0_0) (.slice A0_3 l0_3.length c0_3) a0_1 a0_2 a0_4) W0) ⟨below_alloc (below_alloc (Below.refl _ _) _) _, blk_alloc (blk_new w _) _, by have := blk_new2 w (.cells (l3A (.slice A0_0 l0_0.length c0_0) (.slice A0_3 l0_3.length c0_3) a0_1 a0_2 a0_4) 26) (.cells (l3A (.slice none 0 0) (.slice none 0 0) 0 0 0) 26); exact this⟩ ?_
  rintro W1 hQ
  have HQ := Aside0.mk hQ
  clear hQ
  rcases HS.out with ⟨rfl, rfl, rfl, rfl, rfl, rfl, rfl⟩ | ⟨rfl, E2, hg, hs⟩
  · clear HS
    go_wp2_with (first | (refine wpList_load_row rfl 26 _ rfl w.heap.size rfl 26 (l3A (.slice A0_0 l0_0.length c0_0) (.slice A0_3 l0_3.length c0_3) a0_1 a0_2 a0_4) (0, 0) _ HQ.out.pb Tryd.underlying26 rfl (by kernel_rfl) ?_) | (go_at_call 8; (with_reducible refine (spec_TblOk.calls k A0_0 c0_0 l0_0 a0_1 a0_2 A0_3 c0_3 l0_3 a0_4 false _ (Kd.C_below HR0.out HQ.out.bl) HC0.out (Kd.C_below HR3.out HQ.out.bl) HC3.out E1.out).mono ?_); rintro e_ W2 ⟨rfl, hb⟩; replace HQ := Aside0.mk (HQ.out.below hb); clear hb) | (refine wpList_put 26 _ _ rfl rfl (w.heap.size + 1) 0 rfl (.agg (l3A (.slice none 0 0) (.slice none 0 0) 0 0 0)) rfl 26 (l3A (.slice none 0 0) (.slice none 0 0) 0 0 0) (l3A (.slice none 0 0) (.slice none 0 0) 0 0 0) HQ.out.zb (by kernel_rfl) rfl rfl rfl (fun W9 hp => ?_); have HFB := Aside0.mk hp.blk; have HF := Aside0.mk (pw_below_grown HQ.out.bl _ (Nat.le_trans (Nat.le_add_right _ 2) HQ.out.size) hp.grown (fun k hk => by injection hk with hk; omega)); clear hp))
    exact bodyPost_ret (results_ct rfl _ _ (w.heap.size + 1) 26 (l3A (.slice none 0 0) (.slice none 0 0) 0 0 0) (0, 0) _ rfl HFB.out Tryd.underlying26 rfl (by kernel_rfl)) rfl ⟨_, _, rfl, Kd.R_nil _ _ _ _ _, Kd.S_nil _ _ _ _ _, HF.out⟩
  obtain ⟨hg1, hg2, hg3⟩ := hg
  have HG := Aside0.mk (And.intro hg1 (And.intro hg2 hg3))
  have w1 : wrap64 ((l0_3.length : Int) - 1) = (l0_3.length : Int) - 1 := by unfold wrap64; omega
  have HS2 := Aside0.mk hs
  clear HS hs hg1 hg2 hg3
  go_upto_region 4 with (first | (refine wpList_load_row rfl 26 _ rfl w.heap.size rfl 26 (l3A (.slice A0_0 l0_0.length c0_0) (.slice A0_3 l0_3.length c0_3) a0_1 a0_2 a0_4) (0, 0) _ HQ.out.pb Tryd.underlying26 rfl (by kernel_rfl) ?_) | (go_at_call 8; (with_reducible refine (spec_TblOk.calls k A0_0 c0_0 l0_0 a0_1 a0_2 A0_3 c0_3 l0_3 a0_4 true _ (Kd.C_below HR0.out HQ.out.bl) HC0.out (Kd.C_below HR3.out HQ.out.bl) HC3.out E1.out).mono ?_); rintro e_ W2 ⟨rfl, hb⟩; replace HQ := Aside0.mk (HQ.out.below hb); clear hb) | (go_at_call 20; (with_reducible refine (spec_l2Copy.calls k A0_0 c0_0 l0_0 a0_1 a0_2 A0_3 c0_3 l0_3 a0_4 r1 r2 r3 rr r5 _ (Kd.C_below HR0.out HQ.out.bl) HC0.out (Kd.C_below HR3.out HQ.out.bl) HC3.out E2.out).mono ?_); rintro e_ W3 ⟨vc, vr, rfl, hrc, hsr, hb⟩; obtain ⟨Ac, cc, rfl⟩ := Kd.R_slice hrc; obtain ⟨Ar, cr, rfl⟩ := Kd.R_slice (Kd.S_R hsr); have HRC := Aside0.mk (Kd.R_lower hrc (Nat.le_trans (Nat.le_add_right _ 2) HQ.out.size)); have HSR := Aside0.mk (Kd.S_lower hsr (Nat.le_trans (Nat.le_add_right _ 2) HQ.out.size)); replace HQ := Aside0.mk (HQ.out.below hb); clear hb hrc hsr) | (show wpList _ _ _ _ _ (World.alloc W3 _); have hz0 := blk_new W3 (.cells (l3A (.slice none 0 0) (.slice none 0 0) 0 0 0) 26); refine wpList_put 26 _ _ rfl rfl W3.heap.size 0 rfl (.agg (l3A (.slice Ac r1.length cc) (.slice Ar rr.length cr) r2 r3 r5)) rfl 26 (l3A (.slice none 0 0) (.slice none 0 0) 0 0 0) (l3A (.slice Ac r1.length cc) (.slice Ar rr.length cr) r2 r3 r5) hz0 (by kernel_rfl) rfl rfl rfl (fun W9 hp => ?_); have HFB := Aside0.mk hp.blk; have hbl := pw_below_grown (below_alloc (Below.refl W3.heap.size W3) _) _ (by simp) hp.grown (fun k hk => by injection hk with hk; omega); have HE := Aside0.mk (HQ.out.below hbl); have HFR := Aside0.mk (R_put (Kd.R_alloc HRC.out _) hz0 hp (by decide)); have HFS := Aside0.mk (S_put (Kd.S_alloc HSR.out _) hz0 hp (by decide)); clear hp hz0 hbl))
  refine wp_letter (fun W0 => spec_EdtTake.E5 w (l3A (.slice A0_0 l0_0.length c0_0) (.slice A0_3 l0_3.length c0_3) a0_1 a0_2 a0_4) W3.heap.size Ac Ar cc cr r1 r2 r3 rr r5 W0) ⟨HE.out, HFB.out, HFR.out, HFS.out, HQ.out.size⟩ ?_
  rintro W4 hQ
  generalize W3.heap.size = B at hQ ⊢
  clear HQ HRC HSR HFB HFR HFS HE E1
  have HQ := Aside0.mk hQ
  clear hQ
  have x3 : W4.cell? ⟨w.heap.size, 3, none⟩ = some (Value.slice A0_3 l0_3.length c0_3) := (blk_cell HQ.out.e.pb 3).trans rfl
  have A1 := Aside0.mk (spec_EdtTake.in_dec a1 0 ((l0_3.length : Int) - 1))
  by_cases h1 : 0 ≤ a1 ∧ a1 ≤ (l0_3.length : Int) - 1
  rotate_left
  · rw [decide_eq_false h1] at A1
    obtain ⟨rfl, rfl⟩ : r4 = rr ∧ r6 = false := by
      rcases HS2.out with ⟨_, h2, h3⟩ | ⟨h2, _⟩
      · exact ⟨h2, h3⟩
      · exact absurd h2.1 h1
    clear h1 HS2
    go_upto_region 5 with ((go_at_call 21; (first | (with_reducible refine (spec_l1In.calls _ _ _ _ _ A1.out).mono ?_)); rintro e_ W' ⟨rfl, ⟨nd, rfl⟩⟩))
    refine wp_letter (fun W0 => spec_EdtTake.E5 w (l3A (.slice A0_0 l0_0.length c0_0) (.slice A0_3 l0_3.length c0_3) a0_1 a0_2 a0_4) B Ac Ar cc cr r1 r2 r3 r4 r5 W0) (HQ.out.below (by repeat (with_reducible first | exact Below.refl _ _ | apply below_alloc | apply pw_below_drewN | apply below_drew1))) ?_
    rintro W5 hQ5
    clear HQ x3
    have HQ := Aside0.mk hQ5
    clear hQ5
    go_wp2_with (first | (refine wpList_load_row rfl 26 _ rfl B rfl 26 (l3A (.slice Ac r1.length cc) (.slice Ar r4.length cr) r2 r3 r5) (0, 0) _ HQ.out.xb Tryd.underlying26 rfl (by kernel_rfl) ?_) | (refine wpList_put 26 _ _ rfl rfl (w.heap.size + 1) 0 rfl (.agg (l3A (.slice Ac r1.length cc) (.slice Ar r4.length cr) r2 r3 r5)) rfl 26 (l3A (.slice none 0 0) (.slice none 0 0) 0 0 0) (l3A (.slice Ac r1.length cc) (.slice Ar r4.length cr) r2 r3 r5) HQ.out.e.zb (by kernel_rfl) rfl rfl rfl (fun W9 hp => ?_); have HFB := Aside0.mk hp.blk; have HF := Aside0.mk (pw_below_grown HQ.out.e.bl _ (Nat.le_trans (Nat.le_add_right _ 2) HQ.out.e.size) hp.grown (fun k hk => by injection hk with hk; omega)); have HFR := Aside0.mk (R_put HQ.out.rc HQ.out.e.zb hp (by decide)); have HFS := Aside0.mk (S_put HQ.out.sr HQ.out.e.zb hp (by decide)); clear hp))
    exact bodyPost_ret (results_ct rfl _ _ (w.heap.size + 1) 26 (l3A (.slice Ac r1.length cc) (.slice Ar r4.length cr) r2 r3 r5) (0, 0) _ rfl HFB.out Tryd.underlying26 rfl (by kernel_rfl)) rfl ⟨_, _, rfl, HFR.out, HFS.out, HF.out⟩
  rw [decide_eq_true h1] at A1
  obtain ⟨ad, A2, c2, hA, p0, p1, e2, hC2⟩ := at_T41 (Kd.C_below HR3.out HQ.out.e.bl) a1 h1.1 (by omega)
  subst hA
  obtain ⟨x, hx⟩ : ∃ x, rd_T41 l0_3 a1 = x := ⟨_, rfl⟩
  rw [hx] at p0 hC2 e2
  have hg3 := HG.out.2.2
  rw [hx] at hg3
  have w2 : wrap64 ((x.f0.length : Int) - 1) = (x.f0.length : Int) - 1 := by unfold wrap64; omega
  have HX3 := Aside0.mk hg3
  clear hg3
  have A3 := Aside0.mk (spec_EdtTake.in_dec a2 0 ((x.f0.length : Int) - 1))
  have hrow0 : 0 ≤ a1 := h1.1
  have hrow1 : a1 < (l0_3.length : Int) := by omega
  have HXX := Aside0.mk hx
  have HC2 := Aside0.mk hC2
  have HE2 := Aside0.mk e2
  clear p1 hx hC2 e2
  by_cases h2 : 0 ≤ a2 ∧ a2 ≤ (x.f0.length : Int) - 1
  rotate_left
  · rw [decide_eq_false h2] at A3
    obtain ⟨rfl, rfl⟩ : r4 = rr ∧ r6 = false := by
      rcases HS2.out with ⟨_, h3, h4⟩ | ⟨h3, _⟩
      · exact ⟨h3, h4⟩
      · exact absurd (HXX.out ▸ h3.2) h2
    clear h1 h2 HS2
    go_upto_region 5 with (first | (go_at_call 21; (first | (with_reducible refine (spec_l1In.calls _ _ _ _ _ A1.out).mono ?_) | (with_reducible refine (spec_l1In.calls _ _ _ _ _ A3.out).mono ?_)); rintro e_ W' ⟨rfl, ⟨nd, rfl⟩⟩))
    refine wp_letter (fun W0 => spec_EdtTake.E5 w (l3A (.slice A0_0 l0_0.length c0_0) (.slice (some ad) l0_3.length c0_3) a0_1 a0_2 a0_4) B Ac Ar cc cr r1 r2 r3 r4 r5 W0) (HQ.out.below (by repeat (with_reducible first | exact Below.refl _ _ | apply below_alloc | apply pw_below_drewN | apply below_drew1))) ?_
    rintro W5 hQ5
    clear HQ x3
    have HQ := Aside0.mk hQ5
    clear hQ5
    go_wp2_with (first | (refine wpList_load_row rfl 26 _ rfl B rfl 26 (l3A (.slice Ac r1.length cc) (.slice Ar r4.length cr) r2 r3 r5) (0, 0) _ HQ.out.xb Tryd.underlying26 rfl (by kernel_rfl) ?_) | (refine wpList_put 26 _ _ rfl rfl (w.heap.size + 1) 0 rfl (.agg (l3A (.slice Ac r1.length cc) (.slice Ar r4.length cr) r2 r3 r5)) rfl 26 (l3A (.slice none 0 0) (.slice none 0 0) 0 0 0) (l3A (.slice Ac r1.length cc) (.slice Ar r4.length cr) r2 r3 r5) HQ.out.e.zb (by kernel_rfl) rfl rfl rfl (fun W9 hp => ?_); have HFB := Aside0.mk hp.blk; have HF := Aside0.mk (pw_below_grown HQ.out.e.bl _ (Nat.le_trans (Nat.le_add_right _ 2) HQ.out.e.size) hp.grown (fun k hk => by injection hk with hk; omega)); have HFR := Aside0.mk (R_put HQ.out.rc HQ.out.e.zb hp (by decide)); have HFS := Aside0.mk (S_put HQ.out.sr HQ.out.e.zb hp (by decide)); clear hp))
    exact bodyPost_ret (results_ct rfl _ _ (w.heap.size + 1) 26 (l3A (.slice Ac r1.length cc) (.slice Ar r4.length cr) r2 r3 r5) (0, 0) _ rfl HFB.out Tryd.underlying26 rfl (by kernel_rfl)) rfl ⟨_, _, rfl, HFR.out, HFS.out, HF.out⟩
  rw [decide_eq_true h2] at A3
  obtain ⟨hr4, rfl⟩ : r4 = rr.set a1.toNat ⟨x.f0.eraseIdx a2.toNat, (rd_T41 rr a1).f1⟩ ∧ true = r6 := by
    rcases HS2.out with ⟨h3, _⟩ | ⟨_, h3, h4⟩
    · exact absurd ⟨h1, HXX.out ▸ h2⟩ h3
    · exact ⟨by rw [h3, HXX.out], h4.symm⟩
  obtain ⟨a2, rfl⟩ : ∃ a : Nat, a2 = (a : Int) := ⟨a2.toNat, by omega⟩
  have hil : a2 < x.f0.length := by omega
  have hX3 := HX3.out
  have hw3 : wrap64 ((a2 : Int) + 1) = (a2 : Int) + 1 := by unfold wrap64; omega
  have hw4 : IntKind.i64.wrap ((a2 : Int) + 1) = (a2 : Int) + 1 := by rw [IntKind.wrap_i64]; omega
  have hrl : a1 < (rr.length : Int) := by have := HG.out.2.1; omega
  have HR4 := Aside0.mk hr4
  have hX3' := Aside0.mk hX3
  clear h1 h2 HS2 hr4 hX3
  go_upto_region 6 with (first | (go_at_call 21; (first | (with_reducible refine (spec_l1In.calls _ _ _ _ _ A1.out).mono ?_) | (with_reducible refine (spec_l1In.calls _ _ _ _ _ A3.out).mono ?_)); rintro e_ W' ⟨rfl, ⟨nd, rfl⟩⟩))
  refine wp_letter (fun W0 => Below W4.heap.size W4 W0) (by repeat (with_reducible first | exact Below.refl _ _ | apply below_alloc | apply pw_below_drewN | apply below_drew1)) ?_
  rintro W5 hb45
  have hQ5 := HQ.out.below hb45
  have x3' := keepc (W := W4) x3 hb45
  have p0' := keepc (W := W4) p0 hb45
  have hc' := Kd.C_below HC2.out hb45
  clear hb45
  clear HQ x3 p0 A1 A3 HC2
  go_upto_region 7 with (fail)
  refine wp_letter (fun W0 => spec_EdtTake.E5 w (l3A (.slice A0_0 l0_0.length c0_0) (.slice (some ad) l0_3.length c0_3) a0_1 a0_2 a0_4) B Ac Ar cc cr r1 r2 r3 rr r5 W0 ∧ Kd.C k38 W0 A2 x.f0.length x.f0) ⟨hQ5, hc'⟩ ?_
  rintro W8 ⟨hQ, hck⟩
  clear hQ5 hc' x3' p0'
  have HG := Aside0.mk HG.out
  obtain ⟨ao, rfl, _⟩ := hck.2.2 (by omega)
  obtain ⟨gr, cr', hex, hgr1, _, cellx, hgx⟩ := Kd.S_form hQ.sr (by omega)
  obtain ⟨rfl, rfl⟩ : Ar = some ⟨gr, 0, none⟩ ∧ cr = cr' := by injection hex with h1 _ h2; exact ⟨h1, h2⟩
  obtain ⟨oki, cs, hcl, hMM, hcc, hoki, hH⟩ := Kd.S_lend hQ.sr z41 a1 hrow0 hrl
  clear hcl hcc hoki
  obtain ⟨v0, rfl, hri⟩ := k41_openM hMM
  have HHW := Aside0.mk (Kd.H_widen hH)
  obtain ⟨X, hXl, hXc, hXk⟩ := C_raw hck
  have HXK : Aside0 (∀ (j : Nat) (y : S38) (c : List Value), x.f0[j]? = some y → X[j]? = some c → ∀ (W : World) (base : Nat) (okq : Nat → Prop), k38.M W base okq y c) := ⟨fun j y c hy hc W base okq => hXk j y c hy hc⟩
  have HXL := Aside0.mk hXl
  have hce := HE2.out
  have HXT : Aside0 ((Kd.raw 11).C W8 (some ao) a2 (X.take a2)) := ⟨by
    have h := Kd.C_take (k := Kd.raw 11) (m := a2) (by rw [hXl]; exact hXc) (by omega)
    rw [List.length_take, Nat.min_eq_left (by omega)] at h
    exact h⟩
  obtain ⟨yA, hyA⟩ : ∃ yA, yA = if c2 = a2 + 1 then some ao else (some ao).map (·.add ((a2 + 1) * 11)) := ⟨_, rfl⟩
  have HYT : Aside0 ((Kd.raw 11).C W8 yA (x.f0.length - (a2 + 1)) (X.drop (a2 + 1))) := ⟨by
    have h := Kd.C_drop (k := Kd.raw 11) (m := a2 + 1) (c := c2) (by rw [hXl]; exact hXc) (by omega) (by omega)
    rw [List.length_drop, hXl] at h
    rw [hyA]
    exact h⟩
  have HSZ := Aside0.mk (R_size (Kd.S_R hQ.sr) hgx)
  have HXB := Aside0.mk hQ.xb
  have HQ8 := Aside0.mk hQ
  have HYA := Aside0.mk hyA
  have HGX := Aside0.mk hgx
  have HGR := Aside0.mk hgr1
  have hX3 := hX3'.out
  have hBlt := blk_lt hQ.xb
  have hgxlt := blk_lt hgx
  clear hXl hXc hXk hck hQ hex hyA hgx hgr1 hMM hH hri
  obtain ⟨i0, hi0, hz0, hzs, hzb⟩ := info_parts (P := Tryd.prog) (e := 38) (z := Value.agg #[(.string ⟨#[]⟩), (.int .i64 0), (.int .i64 0), (.int .i64 0), (.int .i64 0), (.int .i64 0), (.int .i64 0), (.int .i64 0), (.int .i64 0), (.int .i64 0), (.int .i64 0)]) (size := 11) (bytes := 96) (by kernel_rfl)
  have hus := Tryd.underlying39
  refine region_envF (T := spec_EdtTake.T7) (B := spec_EdtTake.B7) spec_EdtTake.O7 spec_EdtTake.L7 15 (spec_EdtTake.P7 W8.heap.size a2 (x.f0.length - (a2 + 1)) (X.take a2) (X.drop (a2 + 1)) (spec_EdtTake.V7 B gr a1 rr.length cr a2 x.f0.length (x.f0.length - (a2 + 1)) c2 ao yA))
    (fun _ W => Below W8.heap.size W8 W)
    (fun _ W => ∃ w1 g cap cur, W = w1.setCells gr (a1.toNat * 2) [.slice (some ⟨g, 0, none⟩) (a2 + (x.f0.length - (a2 + 1))) cap] ∧ Below W8.heap.size W8 w1 ∧ RawB 11 38 W8.heap.size w1 g (a2 + (x.f0.length - (a2 + 1))) cap cur (X.take a2 ++ X.drop (a2 + 1)))
    rfl spec_EdtTake.tab7 spec_EdtTake.bits7 spec_EdtTake.base7 spec_EdtTake.lof7 spec_EdtTake.ents7 spec_EdtTake.last7 (below_drew1 (Below.refl _ _)) ?_ ?_ ?_
  · skip
    refine alln_cons (EStepF.pure fun b_ E a' W ha hG hP => ?_) ?_
    · have s8 : a'.tmps[8]? = some (.pointer (some ⟨B, 0, none⟩)) := (slot_off ha rfl).trans rfl
      exact ⟨_, .pointer (some ⟨B, 3, none⟩), rfl, rfl, by clear ha hG hP; go_simp; try first | rfl | exact i64_w _, rfl, hG⟩
    refine alln_cons (EStepF.pure fun b E a' W ha hG hP => ?_) ?_
    · have s43 : a'.tmps[43]? = some (.pointer (some ⟨B, 3, none⟩)) := slotv ha (hP 0 rfl).1 rfl (hP 0 rfl).2
      have hc : W.cell? ⟨B, 3, none⟩ = some (.slice (some ⟨gr, 0, none⟩) rr.length cr) := (blk_cell (blk_below HXB.out hG) 3).trans rfl
      exact ⟨_, .slice (some ⟨gr, 0, none⟩) rr.length cr, rfl, rfl, by clear ha hG hP; go_simp, rfl, hG⟩
    refine alln_cons (EStepF.pure fun b_ E a' W ha hG hP => ?_) ?_
    · have s1 : a'.tmps[1]? = some (.int .i64 a1) := (slot_off ha rfl).trans rfl
      exact ⟨_, .int .i64 a1, rfl, rfl, by clear ha hG hP; go_simp; try first | rfl | exact i64_w _, rfl, hG⟩
    refine alln_cons (EStepF.step [12] spec_EdtTake.keep7 rfl fun b E a' W ha hG hP hoff hb => ?_) ?_
    · exact ⟨_, .slice (some ⟨W.heap.size, 0, none⟩) 0 0, W.alloc (.cells #[] 38), rfl, rfl, by clear ha hG hP hoff hb; go_simp; try rfl, ⟨W.heap.size, #[], rfl, ⟨blk_new W _, hG.size, rfl, Nat.le_refl _, Nat.zero_le _, rfl, rfl, by simp, by simp⟩⟩, StN.alloc _ _ _ _ W _, below_alloc hG _⟩
    refine alln_cons (EStepF.pure fun b_ E a' W ha hG hP => ?_) ?_
    · have s9 : a'.tmps[9]? = some (.slice (some ao) x.f0.length c2) := (slot_off ha rfl).trans rfl
      exact ⟨_, .slice (some ao) x.f0.length c2, rfl, rfl, by clear ha hG hP; go_simp; try first | rfl | exact i64_w _, rfl, hG⟩
    refine alln_cons (EStepF.pure fun b_ E a' W ha hG hP => ?_) ?_
    · have s2 : a'.tmps[2]? = some (.int .i64 (a2 : Int)) := (slot_off ha rfl).trans rfl
      exact ⟨_, .int .i64 (a2 : Int), rfl, rfl, by clear ha hG hP; go_simp; try first | rfl | exact i64_w _, rfl, hG⟩
    refine alln_cons (EStepF.pure fun b E a' W ha hG hP => ?_) ?_
    · have s47 : a'.tmps[47]? = some (.slice (some ao) x.f0.length c2) := slotv ha (hP 4 rfl).1 rfl (hP 4 rfl).2
      have s48 : a'.tmps[48]? = some (.int .i64 (a2 : Int)) := slotv ha (hP 5 rfl).1 rfl (hP 5 rfl).2
      have q1 : a2 ≤ c2 := by omega
      exact ⟨_, .slice (some ao) a2 c2, rfl, rfl, by clear ha hG hP; go_simp, rfl, hG⟩
    refine alln_cons (EStepF.stepO [12] spec_EdtTake.keep7 rfl (.call { callee := .builtin .append, args := #[.tmp 46, .tmp 49], argTypes := #[39, 39] }) ⟨_, rfl, rfl, rfl⟩ fun b E a' W oi ho ha hG hP hoff hb => ?_) ?_
    · obtain ⟨g0, cur0, h0, hB0⟩ := (hP 3 rfl).2
      have s46 : a'.tmps[46]? = some (.slice (some ⟨g0, 0, none⟩) 0 0) := slotv ha (hP 3 rfl).1 rfl h0
      have s49 : a'.tmps[49]? = some (.slice (some ao) a2 c2) := slotv ha (hP 6 rfl).1 rfl (hP 6 rfl).2
      obtain ⟨g1, cap1, cur1, W1, hr, hB1, hbl, hz, hfr⟩ := append_raw (P := Tryd.prog) W 39 oi.type 38 i0 _ 11 96 hus hi0 hz0 hzs hzb rfl (by decide) hB0 hG.size (Kd.C_below HXT.out hG) (c := c2) (fun _ => .inr trivial) (by omega) (by omega)
      rw [Nat.zero_add] at hr hB1
      exact ⟨_, W1, exec_append ho (by simp [Act.eval, Array.getD_eq_getD_getElem?, s46]) (by simp [Act.eval, Array.getD_eq_getD_getElem?, s49]) hr, ⟨g1, cap1, cur1, rfl, hB1⟩, fun g' n' cap' cur' rows' h' hn' => hfr h' (fun _ => by rcases Nat.eq_zero_or_pos a2 with h | h; exact .inl h; exact .inr (.inl (by omega))), hG.trans hbl⟩
    refine alln_cons (EStepF.pure fun b_ E a' W ha hG hP => ?_) ?_
    · have s9 : a'.tmps[9]? = some (.slice (some ao) x.f0.length c2) := (slot_off ha rfl).trans rfl
      exact ⟨_, .slice (some ao) x.f0.length c2, rfl, rfl, by clear ha hG hP; go_simp; try first | rfl | exact i64_w _, rfl, hG⟩
    refine alln_cons (EStepF.pure fun b_ E a' W ha hG hP => ?_) ?_
    · have s2 : a'.tmps[2]? = some (.int .i64 (a2 : Int)) := (slot_off ha rfl).trans rfl
      exact ⟨_, .int .i64 (a2 : Int), rfl, rfl, by clear ha hG hP; go_simp; try first | rfl | exact i64_w _, rfl, hG⟩
    refine alln_cons (EStepF.pure fun b_ E a' W ha hG hP => ?_) ?_
    · have s52 : a'.tmps[52]? = some (.int .i64 (a2 : Int)) := slotv ha (hP 9 rfl).1 rfl (hP 9 rfl).2
      exact ⟨_, .int .i64 ((a2 : Int) + 1), rfl, rfl, by clear ha hG hP; go_simp; try first | rfl | exact i64_w _, rfl, hG⟩
    refine alln_cons (EStepF.pure fun b E a' W ha hG hP => ?_) ?_
    · have s51 : a'.tmps[51]? = some (.slice (some ao) x.f0.length c2) := slotv ha (hP 8 rfl).1 rfl (hP 8 rfl).2
      have s53 : a'.tmps[53]? = some (.int .i64 ((a2 : Int) + 1)) := slotv ha (hP 10 rfl).1 rfl (hP 10 rfl).2
      have q1 : a2 + 1 ≤ c2 := by omega
      have q2 : ((a2 : Int) + 1).toNat = a2 + 1 := by omega
      have q3 : (0 : Int) ≤ (a2 : Int) + 1 := by omega
      have q4 : (a2 : Int) + 1 ≤ (x.f0.length : Int) := by omega
      have q5 : a2 + 1 ≤ x.f0.length := by omega
      exact ⟨_, .slice yA (x.f0.length - (a2 + 1)) (c2 - (a2 + 1)), rfl, rfl, by
        rw [HYA.out]
        clear ha hG hP
        by_cases hq : c2 = a2 + 1
        · subst hq; go_simp
        · go_simp, rfl, hG⟩
    refine alln_cons (EStepF.stepO [12] spec_EdtTake.keep7 rfl (.call { callee := .builtin .append, args := #[.tmp 50, .tmp 54], argTypes := #[39, 39] }) ⟨_, rfl, rfl, rfl⟩ fun b E a' W oi ho ha hG hP hoff hb => ?_) ?_
    · obtain ⟨g8, cap8, cur8, h8, hB8⟩ := (hP 7 rfl).2
      have s50 : a'.tmps[50]? = some (.slice (some ⟨g8, 0, none⟩) a2 cap8) := slotv ha (hP 7 rfl).1 rfl h8
      have s54 : a'.tmps[54]? = some (.slice yA (x.f0.length - (a2 + 1)) (c2 - (a2 + 1))) := slotv ha (hP 11 rfl).1 rfl (hP 11 rfl).2
      obtain ⟨g1, cap1, cur1, W1, hr, hB1, hbl, hz, hfr⟩ := append_raw (P := Tryd.prog) W 39 oi.type 38 i0 _ 11 96 hus hi0 hz0 hzs hzb rfl (by decide) hB8 hG.size (Kd.C_below HYT.out hG) (c := c2 - (a2 + 1)) (fun _ => .inr trivial) (by omega) (by omega)
      exact ⟨_, W1, exec_append ho (by simp [Act.eval, Array.getD_eq_getD_getElem?, s50]) (by simp [Act.eval, Array.getD_eq_getD_getElem?, s54]) hr, ⟨g1, cap1, cur1, rfl, hB1⟩, fun g' n' cap' cur' rows' h' hn' => hfr h' (fun _ => .inr (.inr hn')), hG.trans hbl⟩
    refine alln_cons (EStepF.pure fun b_ E a' W ha hG hP => ?_) ?_
    · have s44 : a'.tmps[44]? = some (.slice (some ⟨gr, 0, none⟩) rr.length cr) := slotv ha (hP 1 rfl).1 rfl (hP 1 rfl).2
      have s45 : a'.tmps[45]? = some (.int .i64 a1) := slotv ha (hP 2 rfl).1 rfl (hP 2 rfl).2
      exact ⟨_, .pointer (some ⟨gr, a1.toNat * 2, none⟩), rfl, rfl, by clear ha hG hP; go_simp; try first | rfl | exact i64_w _, rfl, hG⟩
    refine alln_cons (EStepF.pure fun b_ E a' W ha hG hP => ?_) alln_last
    · have s56 : a'.tmps[56]? = some (.pointer (some ⟨gr, a1.toNat * 2, none⟩)) := slotv ha (hP 13 rfl).1 rfl (hP 13 rfl).2
      exact ⟨_, .pointer (some ⟨gr, a1.toNat * 2, none⟩), rfl, rfl, by clear ha hG hP; go_simp; try first | rfl | exact i64_w _, rfl, hG⟩
  · intro b E a' W ha hG hP hb
    have s57 : a'.tmps[57]? = some (.pointer (some ⟨gr, a1.toNat * 2, none⟩)) := slotv ha (hP 14 rfl (by decide)).1 rfl (hP 14 rfl (by decide)).2
    obtain ⟨g, cap, cur, h13, hB13⟩ := (hP 12 rfl (by decide)).2
    have s55 : a'.tmps[55]? = some (.slice (some ⟨g, 0, none⟩) (a2 + (x.f0.length - (a2 + 1))) cap) := slotv ha (hP 12 rfl (by decide)).1 rfl h13
    have hn : a1.toNat * 2 + 1 ≤ cellx.size := by
      rw [HSZ.out.1]
      have := HSZ.out.2
      have := Nat.mul_le_mul_right 2 (show a1.toNat + 1 ≤ cr by omega)
      show a1.toNat * 2 + 1 ≤ cr * 2
      omega
    exact ⟨_, rfl, fun K hK => skip_ rfl rfl (run_blk 39 rfl (.slice (some ⟨g, 0, none⟩) (a2 + (x.f0.length - (a2 + 1))) cap) [.slice (some ⟨g, 0, none⟩) (a2 + (x.f0.length - (a2 + 1))) cap] (by simp [Act.eval, Array.getD_eq_getD_getElem?, s57]) (by simp [Act.eval, Array.getD_eq_getD_getElem?, s55]) rfl (by kernel_rfl) (by intro q hq; rw [List.mem_singleton] at hq; subst hq; rfl) (blk_below HGX.out hG) hn) (hK.out undef _ ⟨W, g, cap, cur, rfl, hG, hB13⟩)⟩
  · intro E b W hall hF
    obtain ⟨w1, g, cap, cur, rfl, hbl, hB⟩ := hF
    rw [putSel_all (fun x hx => hall x.1 (by revert x; decide))]
    simp only [spec_EdtTake.L7, List.foldl, Act.put, List.setIfInBounds_toArray, List.set_cons_zero, List.set_cons_succ]
    have hgx1 := blk_below HGX.out hbl
    obtain ⟨hHf, hgf⟩ := Kd.H_seg (Kd.H_below HHW.out hbl) hrow0 hrl (seg := [.slice (some ⟨g, 0, none⟩) (a2 + (x.f0.length - (a2 + 1))) cap]) (j := 0) (show 0 + 1 ≤ 2 by decide) (by intro q hq; rw [List.mem_singleton] at hq; subst hq; rfl)
    have hlen : (x.f0.eraseIdx a2).length = a2 + (x.f0.length - (a2 + 1)) := by rw [List.length_eraseIdx, if_pos hil]; omega
    have hR1 : Kd.R k38 38 w1 W8.heap.size (fun _ => True) (.slice (some ⟨g, 0, none⟩) (a2 + (x.f0.length - (a2 + 1))) cap) (x.f0.eraseIdx a2) := raw_R (d := k38) hB.raw (by rw [hlen]; exact hB.len.symm) (fun j y c hy hc okq => by
      rw [← List.eraseIdx_eq_take_drop_succ] at hc
      rw [List.getElem?_eraseIdx] at hy hc
      split at hy
      · rename_i h
        rw [if_pos h] at hc
        exact HXK.out j y c hy hc _ _ _
      · rename_i h
        rw [if_neg h] at hc
        exact HXK.out (j + 1) y c hy hc _ _ _)
    have hrf := Kd.R_set (Kd.R_tight rfl hR1) hgx1 (by decide) (a1.toNat * 2) (.slice (some ⟨g, 0, none⟩) (a2 + (x.f0.length - (a2 + 1))) cap)
    have hS := Kd.H_back hHf (x' := (⟨x.f0.eraseIdx a2, (rd_T41 rr a1).f1⟩ : S41)) (okp := fun k => some k = (Value.slice (some ⟨g, 0, none⟩) (a2 + (x.f0.length - (a2 + 1))) cap).ownBlock) (show k41.M _ _ _ _ _ from k41_mkM _ _ _ (⟨x.f0.eraseIdx a2, (rd_T41 rr a1).f1⟩ : S41) (Kd.R_lower hrf (by have := HQ8.out.e.size; omega))) (fun k hk => by
      obtain rfl : k = g := Option.some.inj hk
      exact .inr ⟨trivial, hB.bg⟩)
    have hput : r4 = rr.set a1.toNat ⟨x.f0.eraseIdx a2, (rd_T41 rr a1).f1⟩ := by rw [HR4.out, Int.toNat_natCast]
    have hl4 : r4.length = rr.length := by rw [hput, List.length_set]
    rw [← hput] at hS
    have he1 := HQ8.out.below hbl
    have hxz := blk_ne hgx1 he1.e.zb (by decide)
    have hxp := blk_ne hgx1 he1.e.pb (by decide)
    have hxx := blk_ne hgx1 he1.xb (by decide)
    have hsz8 := HQ8.out.e.size
    have HE5 : Aside0 (spec_EdtTake.E5 w (l3A (.slice A0_0 l0_0.length c0_0) (.slice (some ad) l0_3.length c0_3) a0_1 a0_2 a0_4) B Ac (some ⟨gr, 0, none⟩) cc cr r1 r2 r3 r4 r5 (w1.setCells gr (a1.toNat * 2) [.slice (some ⟨g, 0, none⟩) (a2 + (x.f0.length - (a2 + 1))) cap])) := ⟨⟨pw_below_grown he1.e.bl _ (by have := hbl.size; omega) hgf (fun k hk => by injection hk with hk; have := HGR.out; omega), blk_far he1.e.pb (fun e => hxp e.symm) _, blk_far he1.e.zb (fun e => hxz e.symm) _⟩, by rw [hl4]; exact blk_far he1.xb (fun e => hxx e.symm) _, Kd.R_set he1.rc hgx1 (by decide) _ _, by rw [hl4]; exact hS, he1.lt⟩
    clear hS hput hl4 he1 hxz hxp hxx hsz8 hrf hR1 hlen hHf hgf hgx1 hB hbl hall
    go_upto_region 8 with (fail)
    refine wp_letter (fun W0 => spec_EdtTake.E5 w (l3A (.slice A0_0 l0_0.length c0_0) (.slice (some ad) l0_3.length c0_3) a0_1 a0_2 a0_4) B Ac (some ⟨gr, 0, none⟩) cc cr r1 r2 r3 r4 r5 W0) HE5.out ?_
    rintro W6 hQ6
    clear HE5 HQ8 HXB HGX HGR HSZ HYA HXT HYT HXL HXK HHW
    have HQ := Aside0.mk hQ6
    clear hQ6
    go_wp2_with (first | (refine wpList_load_row rfl 26 _ rfl B rfl 26 (l3A (.slice Ac r1.length cc) (.slice (some ⟨gr, 0, none⟩) r4.length cr) r2 r3 r5) (0, 0) _ HQ.out.xb Tryd.underlying26 rfl (by kernel_rfl) ?_) | (refine wpList_put 26 _ _ rfl rfl (w.heap.size + 1) 0 rfl (.agg (l3A (.slice Ac r1.length cc) (.slice (some ⟨gr, 0, none⟩) r4.length cr) r2 r3 r5)) rfl 26 (l3A (.slice none 0 0) (.slice none 0 0) 0 0 0) (l3A (.slice Ac r1.length cc) (.slice (some ⟨gr, 0, none⟩) r4.length cr) r2 r3 r5) HQ.out.e.zb (by kernel_rfl) rfl rfl rfl (fun W9 hp => ?_); have HFB := Aside0.mk hp.blk; have HF := Aside0.mk (pw_below_grown HQ.out.e.bl _ (Nat.le_trans (Nat.le_add_right _ 2) HQ.out.e.size) hp.grown (fun k hk => by injection hk with hk; omega)); have HFR := Aside0.mk (R_put HQ.out.rc HQ.out.e.zb hp (by decide)); have HFS := Aside0.mk (S_put HQ.out.sr HQ.out.e.zb hp (by decide)); clear hp))
    exact bodyPost_ret (results_ct rfl _ _ (w.heap.size + 1) 26 (l3A (.slice Ac r1.length cc) (.slice (some ⟨gr, 0, none⟩) r4.length cr) r2 r3 r5) (0, 0) _ rfl HFB.out Tryd.underlying26 rfl (by kernel_rfl)) rfl ⟨_, _, rfl, HFR.out, HFS.out, HF.out⟩

/-! ### laws_FnEdtTake: function 3 (by hand) -/
/-- The law's last chain: no answer where it falls. -/
def laws_FnEdtTake.fin (k : Nat) (tc : List S56) (th tf : Int) (tr : List S41) (tg : Int) (xc : List S56) (xh xf : Int) (xr : List S41) (xg : Int) (row at_ : Int) : Option Bool :=
  if 0 ≤ row ∧ row < (tr.length : Int) ∧ 0 ≤ at_ ∧ at_ < ((rd_T41 tr row).f0.length : Int) then (impl_EdtPut.f k xc xh xf xr xg row at_ (rd_T38 (rd_T41 tr row).f0 at_)).bind fun z => (impl_TblOk.f k xc xh xf xr xg).bind fun a => (impl_TblCells.f k xc xh xf xr xg).bind fun n => (impl_TblCells.f k tc th tf tr tg).bind fun m => (laws_pwTable.f k z.1 z.2.1 z.2.2.1 z.2.2.2.1 z.2.2.2.2.1 tc th tf tr tg).bind fun e =>
    if a = true ∧ n = m - 1 ∧ 0 ≤ m ∧ m < 1000000 ∧ z.2.2.2.2.2 = true then some e else none else none
def laws_FnEdtTake.f (k : Nat) (l0 : List Int) : Option Bool :=
  if (l0.length : Int) > 1048576 then some true else (spec_DrawEdtTake.f k l0).bind fun d => (impl_EdtTake.f k d.1 d.2.1 d.2.2.1 d.2.2.2.1 d.2.2.2.2.1 d.2.2.2.2.2.1 d.2.2.2.2.2.2).bind fun x => (spec_EdtTake.f k d.1 d.2.1 d.2.2.1 d.2.2.2.1 d.2.2.2.2.1 d.2.2.2.2.2.1 d.2.2.2.2.2.2).bind fun y =>
    if x.2.2.2.2.2 = y.2.2.2.2.2 then (laws_pwTable.f k x.1 x.2.1 x.2.2.1 x.2.2.2.1 x.2.2.2.2.1 y.1 y.2.1 y.2.2.1 y.2.2.2.1 y.2.2.2.2.1).bind fun e => (spec_TblOk.f k d.1 d.2.1 d.2.2.1 d.2.2.2.1 d.2.2.2.2.1).bind fun o => if e = true then (
      if o = true then (if x.2.2.2.2.2 = true then laws_FnEdtTake.fin k d.1 d.2.1 d.2.2.1 d.2.2.2.1 d.2.2.2.2.1 x.1 x.2.1 x.2.2.1 x.2.2.2.1 x.2.2.2.2.1 d.2.2.2.2.2.1 d.2.2.2.2.2.2 else laws_pwTable.f k x.1 x.2.1 x.2.2.1 x.2.2.2.1 x.2.2.2.2.1 d.1 d.2.1 d.2.2.1 d.2.2.2.1 d.2.2.2.2.1)
      else (if x.2.2.2.2.2 = false then (laws_pwTable.f k x.1 x.2.1 x.2.2.1 x.2.2.2.1 x.2.2.2.2.1 [] 0 0 [] 0).bind fun e2 => if e2 = true then laws_pwOk.f else none else none)) else none else none
theorem laws_FnEdtTake.parts {k : Nat} {l0 : List Int} {r : Bool} (hn : ¬ (l0.length : Int) > 1048576) (h : laws_FnEdtTake.f k l0 = some r) :
    ∃ (tc : List S56) (th tf : Int) (tr : List S41) (tg : Int) (row at_ : Int) (xc : List S56) (xh xf : Int) (xr : List S41) (xg : Int) (yc : List S56) (yh yf : Int) (yr : List S41) (yg : Int) (ok : Bool), Aside0 (spec_DrawEdtTake.f k l0 = some (tc, th, tf, tr, tg, row, at_)) ∧ Aside0 (impl_EdtTake.f k tc th tf tr tg row at_ = some (xc, xh, xf, xr, xg, ok)) ∧ Aside0 (spec_EdtTake.f k tc th tf tr tg row at_ = some (yc, yh, yf, yr, yg, ok)) ∧ Aside0 (laws_pwTable.f k xc xh xf xr xg yc yh yf yr yg = some true) ∧
    ((Aside0 (spec_TblOk.f k tc th tf tr tg = some true) ∧ ok = true ∧ Aside0 (laws_FnEdtTake.fin k tc th tf tr tg xc xh xf xr xg row at_ = some r)) ∨ (Aside0 (spec_TblOk.f k tc th tf tr tg = some true) ∧ ok = false ∧ Aside0 (laws_pwTable.f k xc xh xf xr xg tc th tf tr tg = some r)) ∨
     (Aside0 (spec_TblOk.f k tc th tf tr tg = some false) ∧ ok = false ∧ Aside0 (laws_pwTable.f k xc xh xf xr xg [] 0 0 [] 0 = some true) ∧ Aside0 (laws_pwOk.f = some r))) := by
  unfold laws_FnEdtTake.f at h
  rw [if_neg hn] at h
  obtain ⟨⟨tc, th, tf, tr, tg, row, at_⟩, h1, g1⟩ := Option.bind_eq_some_iff.1 h
  clear h
  obtain ⟨⟨xc, xh, xf, xr, xg, ok⟩, h2, g2⟩ := Option.bind_eq_some_iff.1 g1
  clear g1
  obtain ⟨⟨yc, yh, yf, yr, yg, ok2⟩, h3, g3⟩ := Option.bind_eq_some_iff.1 g2
  clear g2
  split at g3
  · rename_i e
    obtain rfl : ok = ok2 := e
    obtain ⟨e, h4, g4⟩ := Option.bind_eq_some_iff.1 g3
    clear g3
    obtain ⟨o, h5, g5⟩ := Option.bind_eq_some_iff.1 g4
    clear g4
    cases e
    · rw [if_neg (by decide)] at g5; cases g5
    rw [if_pos rfl] at g5
    refine ⟨tc, th, tf, tr, tg, row, at_, xc, xh, xf, xr, xg, yc, yh, yf, yr, yg, ok, ⟨h1⟩, ⟨h2⟩, ⟨h3⟩, ⟨h4⟩, ?_⟩
    cases o
    · rw [if_neg (by decide)] at g5
      split at g5
      · rename_i e
        obtain ⟨e2, h6, g6⟩ := Option.bind_eq_some_iff.1 g5
        cases e2
        · rw [if_neg (by decide)] at g6; cases g6
        rw [if_pos rfl] at g6
        exact .inr (.inr ⟨⟨h5⟩, e, ⟨h6⟩, ⟨g6⟩⟩)
      · cases g5
    · rw [if_pos rfl] at g5
      split at g5
      · rename_i e
        exact .inl ⟨⟨h5⟩, e, ⟨g5⟩⟩
      · rename_i e
        exact .inr (.inl ⟨⟨h5⟩, by simpa using e, ⟨g5⟩⟩)
  · cases g3
theorem laws_FnEdtTake.parts2 {k : Nat} {tc : List S56} {th tf : Int} {tr : List S41} {tg : Int} {xc : List S56} {xh xf : Int} {xr : List S41} {xg : Int} {row at_ : Int} {r : Bool} (h : laws_FnEdtTake.fin k tc th tf tr tg xc xh xf xr xg row at_ = some r) :
    (0 ≤ row ∧ row < (tr.length : Int) ∧ 0 ≤ at_ ∧ at_ < ((rd_T41 tr row).f0.length : Int)) ∧ ∃ (zc : List S56) (zh zf : Int) (zr : List S41) (zg : Int) (m : Int), Aside0 (impl_EdtPut.f k xc xh xf xr xg row at_ (rd_T38 (rd_T41 tr row).f0 at_) = some (zc, zh, zf, zr, zg, true)) ∧ Aside0 (impl_TblOk.f k xc xh xf xr xg = some true) ∧ (0 ≤ m ∧ m < 1000000) ∧ Aside0 (impl_TblCells.f k xc xh xf xr xg = some (m - 1)) ∧ Aside0 (impl_TblCells.f k tc th tf tr tg = some m) ∧ Aside0 (laws_pwTable.f k zc zh zf zr zg tc th tf tr tg = some r) := by
  unfold laws_FnEdtTake.fin at h
  split at h
  · rename_i hb
    obtain ⟨⟨zc, zh, zf, zr, zg, ok⟩, h1, g1⟩ := Option.bind_eq_some_iff.1 h
    obtain ⟨a, h2, g2⟩ := Option.bind_eq_some_iff.1 g1
    obtain ⟨n, h3, g3⟩ := Option.bind_eq_some_iff.1 g2
    obtain ⟨m, h4, g4⟩ := Option.bind_eq_some_iff.1 g3
    obtain ⟨e, h5, g5⟩ := Option.bind_eq_some_iff.1 g4
    split at g5
    · rename_i ha
      obtain ⟨ha1, ha2, ha3, ha4, ha5⟩ := ha
      obtain rfl := Option.some.inj g5
      obtain rfl : ok = true := ha5
      subst ha1
      subst ha2
      exact ⟨hb, zc, zh, zf, zr, zg, m, ⟨h1⟩, ⟨h2⟩, ⟨ha3, ha4⟩, ⟨h3⟩, ⟨h4⟩, ⟨h5⟩⟩
    · cases g5
  · cases h
structure laws_FnEdtTake.Wd (w : World) (B : Nat) (pa : Array Value) (Ac Ar : Option Addr) (cs : List S56) (rs : List S41) (W : World) : Prop where
  bt : W.heap[B]? = some (.cells pa 26 (0, 0))
  kc : Kd.C k56 W Ac cs.length cs
  kr : Kd.C k41 W Ar rs.length rs
  bl : Below w.heap.size w W
theorem laws_FnEdtTake.Wd.below {w W W' : World} {B : Nat} {pa : Array Value} {Ac Ar : Option Addr} {cs : List S56} {rs : List S41} (h : laws_FnEdtTake.Wd w B pa Ac Ar cs rs W) (hb : Below W.heap.size W W') : laws_FnEdtTake.Wd w B pa Ac Ar cs rs W' :=
  ⟨blk_below h.bt hb, Kd.C_below h.kc hb, Kd.C_below h.kr hb, below_step h.bl hb⟩
set_option maxHeartbeats 4000000 in
set_option maxRecDepth 100000 in
theorem laws_FnEdtTake.calls (k : Nat) (A0 : Option Addr) (c0 : Nat) (l0 : List Int) (r : Bool) (w : World) (hr0 : Kd.C (Kd.int .u8) w A0 l0.length l0) (hc0 : l0.length ≤ c0) (hM : Txt.MLen w) (h : laws_FnEdtTake.f k l0 = some r) :
    Calls Tryd.prog 3 #[.slice A0 l0.length c0] w fun e w' => e = .returned (.bool r) ∧ Below w.heap.size w w' := by
  have HM := Aside0.mk hM
  clear hM
  have HR := Aside0.mk hr0
  have HC := Aside0.mk hc0
  clear hr0 hc0
  have hu1 := Tryd.underlying26
  by_cases hbig : (l0.length : Int) > 1048576
  · have hf : r = true := by unfold laws_FnEdtTake.f at h; rw [if_pos hbig] at h; exact (Option.some.inj h).symm
    subst hf
    clear h
    have b0 : decide (1048576 < (l0.length : Int)) = true := decide_eq_true hbig
    have b1 : decide (1048576 < l0.length) = true := decide_eq_true (by omega)
    clear hbig
    go_enter Tryd.func3, Tryd.ntmps3
    go_wp2
    go_ret
    exact ⟨rfl, by (repeat (with_reducible first | exact Below.refl _ _ | apply below_alloc | apply pw_below_drewN | apply below_drew1))⟩
  obtain ⟨tc, th, tf, tr, tg, row, at_, xc, xh, xf, xr, xg, yc, yh, yf, yr, yg, ok, A1, A2, A3, A4, hs⟩ := laws_FnEdtTake.parts hbig h
  have b0 : decide (1048576 < (l0.length : Int)) = false := decide_eq_false hbig
  have b1 : decide (1048576 < l0.length) = false := decide_eq_false (by omega)
  clear hbig h
  have HS := Aside0.mk hs
  clear hs
  go_enter Tryd.func3, Tryd.ntmps3
  go_upto_region 4 with (go_at_call 4; (with_reducible refine (spec_DrawEdtTake.calls k _ _ l0 tc th tf tr tg row at_ _ (by repeat (first | exact HR.out | (with_reducible refine Kd.C_alloc ?_ _) | (with_reducible refine Kd.C_drewN ?_ _) | (with_reducible refine Kd.C_drew ?_))) HC.out A1.out).mono ?_); rintro e W1 ⟨v0, v3, rfl, hv0, hv3, hb⟩; obtain ⟨tA, ta, rfl⟩ := Kd.R_slice hv0; obtain ⟨tB, tb, rfl⟩ := Kd.R_slice (Kd.S_R hv3); have HKc := Aside0.mk (Kd.R_reads' hv0).2.2; have HLc := Aside0.mk (Kd.R_reads' hv0).2.1; have HKr := Aside0.mk (Kd.R_reads' (Kd.S_R hv3)).2.2; have HLr := Aside0.mk (Kd.R_reads' (Kd.S_R hv3)).2.1; have HB := Aside0.mk (below_step (by (repeat (with_reducible first | exact Below.refl _ _ | apply below_alloc | apply pw_below_drewN | apply below_drew1))) hb); clear hb hv0 hv3)
  refine wp_letter (fun W0 => laws_FnEdtTake.Wd w W1.heap.size (l3A (.slice tA tc.length ta) (.slice tB tr.length tb) th tf tg) tA tB tc tr W0) ⟨blk_new W1 _, Kd.C_alloc HKc.out _, Kd.C_alloc HKr.out _, below_alloc HB.out _⟩ ?_
  rintro W2 hT
  generalize W1.heap.size = T at hT ⊢
  clear HKc HKr HB b0 b1
  have HT := Aside0.mk hT
  clear hT
  go_upto_region 5 with (first | (refine wpList_load_row rfl 26 _ rfl T rfl 26 (l3A (.slice tA tc.length ta) (.slice tB tr.length tb) th tf tg) (0, 0) _ HT.out.bt Tryd.underlying26 rfl (by kernel_rfl) ?_) | (go_at_call 5; (with_reducible refine (impl_EdtTake.calls k tA ta tc th tf tB tb tr tg row at_ xc xh xf xr xg ok _ HT.out.kc HLc.out HT.out.kr HLr.out (Txt.MLen_below HM.out HT.out.bl) A2.out).mono ?_); rintro e W3 ⟨v0, v3, rfl, hv0, hv3, hb⟩; obtain ⟨xA, xa, rfl⟩ := Kd.R_slice hv0; obtain ⟨xB, xb, rfl⟩ := Kd.R_slice (Kd.S_R hv3); have HKx := Aside0.mk (Kd.R_reads' hv0).2.2; have HLx := Aside0.mk (Kd.R_reads' hv0).2.1; have HKs := Aside0.mk (Kd.R_reads' (Kd.S_R hv3)).2.2; have HLs := Aside0.mk (Kd.R_reads' (Kd.S_R hv3)).2.1; replace HT := Aside0.mk (HT.out.below hb); clear hb hv0 hv3))
  refine wp_letter (fun W0 => laws_FnEdtTake.Wd w T (l3A (.slice tA tc.length ta) (.slice tB tr.length tb) th tf tg) tA tB tc tr W0 ∧ laws_FnEdtTake.Wd w W3.heap.size (l3A (.slice xA xc.length xa) (.slice xB xr.length xb) xh xf xg) xA xB xc xr W0) ⟨HT.out.below (below_alloc (Below.refl _ _) _), blk_new W3 _, Kd.C_alloc HKx.out _, Kd.C_alloc HKs.out _, below_alloc HT.out.bl _⟩ ?_
  rintro W4 ⟨hT, hX⟩
  generalize W3.heap.size = X at hX ⊢
  clear HT HKx HKs
  have HT := Aside0.mk hT
  have HX := Aside0.mk hX
  clear hT hX
  go_upto_region 6 with (first | (refine wpList_load_row rfl 26 _ rfl T rfl 26 (l3A (.slice tA tc.length ta) (.slice tB tr.length tb) th tf tg) (0, 0) _ HT.out.bt Tryd.underlying26 rfl (by kernel_rfl) ?_) | (go_at_call 6; (with_reducible refine (spec_EdtTake.calls k tA ta tc th tf tB tb tr tg row at_ yc yh yf yr yg ok _ HT.out.kc HLc.out HT.out.kr HLr.out A3.out).mono ?_); rintro e W5 ⟨v0, v3, rfl, hv0, hv3, hb⟩; obtain ⟨yA, ya, rfl⟩ := Kd.R_slice hv0; obtain ⟨yB, yb, rfl⟩ := Kd.R_slice (Kd.S_R hv3); have HKx := Aside0.mk (Kd.R_reads' hv0).2.2; have HLy := Aside0.mk (Kd.R_reads' hv0).2.1; have HKs := Aside0.mk (Kd.R_reads' (Kd.S_R hv3)).2.2; have HLz := Aside0.mk (Kd.R_reads' (Kd.S_R hv3)).2.1; replace HT := Aside0.mk (HT.out.below hb); replace HX := Aside0.mk (HX.out.below hb); clear hb hv0 hv3))
  refine wp_letter (fun W0 => laws_FnEdtTake.Wd w T (l3A (.slice tA tc.length ta) (.slice tB tr.length tb) th tf tg) tA tB tc tr W0 ∧ laws_FnEdtTake.Wd w X (l3A (.slice xA xc.length xa) (.slice xB xr.length xb) xh xf xg) xA xB xc xr W0 ∧ laws_FnEdtTake.Wd w W5.heap.size (l3A (.slice yA yc.length ya) (.slice yB yr.length yb) yh yf yg) yA yB yc yr W0) ⟨HT.out.below (below_alloc (Below.refl _ _) _), HX.out.below (below_alloc (Below.refl _ _) _), blk_new W5 _, Kd.C_alloc HKx.out _, Kd.C_alloc HKs.out _, below_alloc HT.out.bl _⟩ ?_
  rintro W6 ⟨hT, hX, hY⟩
  generalize W5.heap.size = Y at hY ⊢
  clear HT HX HKx HKs
  have HT := Aside0.mk hT
  have HX := Aside0.mk hX
  have HY := Aside0.mk hY
  clear hT hX hY
  have x0_ : _ = some (Value.slice xA xc.length xa) := (blk_cell HX.out.bt 0).trans rfl
  have x1_ : _ = some (Value.int .i64 xh) := (blk_cell HX.out.bt 1).trans rfl
  have x2_ : _ = some (Value.int .i64 xf) := (blk_cell HX.out.bt 2).trans rfl
  have x3_ : _ = some (Value.slice xB xr.length xb) := (blk_cell HX.out.bt 3).trans rfl
  have x4_ : _ = some (Value.int .i64 xg) := (blk_cell HX.out.bt 4).trans rfl
  have y0_ : _ = some (Value.slice yA yc.length ya) := (blk_cell HY.out.bt 0).trans rfl
  have y1_ : _ = some (Value.int .i64 yh) := (blk_cell HY.out.bt 1).trans rfl
  have y2_ : _ = some (Value.int .i64 yf) := (blk_cell HY.out.bt 2).trans rfl
  have y3_ : _ = some (Value.slice yB yr.length yb) := (blk_cell HY.out.bt 3).trans rfl
  have y4_ : _ = some (Value.int .i64 yg) := (blk_cell HY.out.bt 4).trans rfl
  go_upto_region 8 with (go_at_call 7; (with_reducible refine (laws_pwTable.calls k xA xa xc xh xf xB xb xr xg yA ya yc yh yf yB yb yr yg true _ HX.out.kc HLx.out HX.out.kr HLs.out HY.out.kc HLy.out HY.out.kr HLz.out A4.out).mono ?_); rintro e W7 ⟨rfl, hb⟩; clear x0_ x1_ x2_ x3_ x4_ y0_ y1_ y2_ y3_ y4_; replace HT := Aside0.mk (HT.out.below hb); replace HX := Aside0.mk (HX.out.below hb); clear hb)
  clear HY HLy HLz A4 A3 A2 A1
  rcases HS.out with ⟨B1, rfl, B2⟩ | ⟨B1, rfl, B2⟩ | ⟨B1, rfl, B2, B3⟩
  rotate_left
  · clear HS
    go_wp2_with (first | (refine wpList_load_row rfl 26 _ rfl T rfl 26 (l3A (.slice tA tc.length ta) (.slice tB tr.length tb) th tf tg) (0, 0) _ HT.out.bt Tryd.underlying26 rfl (by kernel_rfl) ?_) | (refine wpList_load_row rfl 26 _ rfl X rfl 26 (l3A (.slice xA xc.length xa) (.slice xB xr.length xb) xh xf xg) (0, 0) _ HX.out.bt Tryd.underlying26 rfl (by kernel_rfl) ?_) | (go_at_call 8; (with_reducible refine (spec_TblOk.calls k tA ta tc th tf tB tb tr tg true _ HT.out.kc HLc.out HT.out.kr HLr.out B1.out).mono ?_); rintro e W8 ⟨rfl, hb⟩; replace HT := Aside0.mk (HT.out.below hb); replace HX := Aside0.mk (HX.out.below hb); clear hb) | (go_at_call 7; (with_reducible refine (laws_pwTable.calls k xA xa xc xh xf xB xb xr xg tA ta tc th tf tB tb tr tg r _ HX.out.kc HLx.out HX.out.kr HLs.out HT.out.kc HLc.out HT.out.kr HLr.out B2.out).mono ?_); rintro e W9 ⟨rfl, hb⟩; replace HT := Aside0.mk (HT.out.below hb); clear hb))
    go_ret
    exact ⟨rfl, HT.out.bl⟩
  · clear HS
    go_wp2_with (first | (refine wpList_load_row rfl 26 _ rfl T rfl 26 (l3A (.slice tA tc.length ta) (.slice tB tr.length tb) th tf tg) (0, 0) _ HT.out.bt Tryd.underlying26 rfl (by kernel_rfl) ?_) | (refine wpList_load_row rfl 26 _ rfl X rfl 26 (l3A (.slice xA xc.length xa) (.slice xB xr.length xb) xh xf xg) (0, 0) _ HX.out.bt Tryd.underlying26 rfl (by kernel_rfl) ?_) | (go_at_call 8; (with_reducible refine (spec_TblOk.calls k tA ta tc th tf tB tb tr tg false _ HT.out.kc HLc.out HT.out.kr HLr.out B1.out).mono ?_); rintro e W8 ⟨rfl, hb⟩; replace HT := Aside0.mk (HT.out.below hb); replace HX := Aside0.mk (HX.out.below hb); clear hb) | (go_at_call 7; (refine (laws_pwTable.calls k xA xa xc xh xf xB xb xr xg none 0 [] 0 0 none 0 [] 0 true _ HX.out.kc HLx.out HX.out.kr HLs.out ?n1 (Nat.le_refl _) ?n2 (Nat.le_refl _) B2.out).mono ?_); (case n1 => exact (Kd.R_reads' (Kd.R_nil k56 56 _ 0 (fun _ => True))).2.2); (case n2 => exact (Kd.R_reads' (Kd.R_nil k41 41 _ 0 (fun _ => True))).2.2); rintro e W9 ⟨rfl, hb⟩; replace HT := Aside0.mk (HT.out.below hb); clear hb) | (go_at_call 9; (with_reducible refine (laws_pwOk.calls r _ (Txt.MLen_below HM.out HT.out.bl) B3.out).mono ?_); rintro e W10 ⟨rfl, hb⟩; replace HT := Aside0.mk (HT.out.below hb); clear hb))
    go_ret
    exact ⟨rfl, HT.out.bl⟩
  obtain ⟨⟨hb1, hb2, hb3, hb4⟩, zc, zh, zf, zr, zg, m, C1, C2, ⟨hm0, hm1⟩, C3, C4, C6⟩ := laws_FnEdtTake.parts2 B2.out
  clear HS B2
  go_upto_region 12 with (first | (refine wpList_load_row rfl 26 _ rfl T rfl 26 (l3A (.slice tA tc.length ta) (.slice tB tr.length tb) th tf tg) (0, 0) _ HT.out.bt Tryd.underlying26 rfl (by kernel_rfl) ?_) | (go_at_call 8; (with_reducible refine (spec_TblOk.calls k tA ta tc th tf tB tb tr tg true _ HT.out.kc HLc.out HT.out.kr HLr.out B1.out).mono ?_); rintro e W8 ⟨rfl, hb⟩; replace HT := Aside0.mk (HT.out.below hb); replace HX := Aside0.mk (HX.out.below hb); clear hb))
  clear B1
  obtain ⟨ad, B', c', hA, q0, q1, hle, hC⟩ := at_T41 HT.out.kr row hb1 hb2
  obtain ⟨ad2, hA2, z0, z1, z2, z3, z4, z5, z6, z7, z8, z9, z10⟩ := at_T38 hC at_ hb3 hb4
  rw [hA2] at q0
  have x0_ : _ = some (Value.slice xA xc.length xa) := (blk_cell HX.out.bt 0).trans rfl
  have x1_ : _ = some (Value.int .i64 xh) := (blk_cell HX.out.bt 1).trans rfl
  have x2_ : _ = some (Value.int .i64 xf) := (blk_cell HX.out.bt 2).trans rfl
  have x3_ : _ = some (Value.slice xB xr.length xb) := (blk_cell HX.out.bt 3).trans rfl
  have x4_ : _ = some (Value.int .i64 xg) := (blk_cell HX.out.bt 4).trans rfl
  have t3_ : _ = some (Value.slice tB tr.length tb) := (blk_cell HT.out.bt 3).trans rfl
  rw [hA] at t3_
  clear hA hA2 q1 hle hC
  have hrow : row < (tr.length : Int) := hb2
  go_cut [10, 11] (fun s11 s12 wx => ∃ (Z : Nat) (zA zB : Option Addr) (za zb : Nat), s11 = .pointer (some ⟨Z, 0, none⟩) ∧ s12 = .bool true ∧ Aside0 (laws_FnEdtTake.Wd w T (l3A (.slice tA tc.length ta) (.slice tB tr.length tb) th tf tg) tA tB tc tr wx ∧ laws_FnEdtTake.Wd w X (l3A (.slice xA xc.length xa) (.slice xB xr.length xb) xh xf xg) xA xB xc xr wx ∧ laws_FnEdtTake.Wd w Z (l3A (.slice zA zc.length za) (.slice zB zr.length zb) zh zf zg) zA zB zc zr wx ∧ zc.length ≤ za ∧ zr.length ≤ zb))
  case first =>
    go_region_held3 (fun w' => w'.cell? ⟨X, 0, none⟩ = some (.slice xA xc.length xa) ∧ w'.cell? ⟨X, 1, none⟩ = some (.int .i64 xh) ∧ w'.cell? ⟨X, 2, none⟩ = some (.int .i64 xf) ∧ w'.cell? ⟨X, 3, none⟩ = some (.slice xB xr.length xb) ∧ w'.cell? ⟨X, 4, none⟩ = some (.int .i64 xg) ∧ w'.cell? ⟨T, 3, none⟩ = some (.slice (some ad) tr.length tb) ∧ w'.cell? (ad.add (row.toNat * 2)) = some (.slice (some ad2) (rd_T41 tr row).f0.length c') ∧ w'.cell? (ad2.add (at_.toNat * 11)) = some (.string (rd_T38 (rd_T41 tr row).f0 at_).f0) ∧ w'.cell? ⟨(ad2.add (at_.toNat * 11)).block, (ad2.add (at_.toNat * 11)).off + 1, none⟩ = some (.int .i64 (rd_T38 (rd_T41 tr row).f0 at_).f1) ∧ w'.cell? ⟨(ad2.add (at_.toNat * 11)).block, (ad2.add (at_.toNat * 11)).off + 2, none⟩ = some (.int .i64 (rd_T38 (rd_T41 tr row).f0 at_).f2) ∧ w'.cell? ⟨(ad2.add (at_.toNat * 11)).block, (ad2.add (at_.toNat * 11)).off + 3, none⟩ = some (.int .i64 (rd_T38 (rd_T41 tr row).f0 at_).f3.f0) ∧ w'.cell? ⟨(ad2.add (at_.toNat * 11)).block, (ad2.add (at_.toNat * 11)).off + 4, none⟩ = some (.int .i64 (rd_T38 (rd_T41 tr row).f0 at_).f3.f1) ∧ w'.cell? ⟨(ad2.add (at_.toNat * 11)).block, (ad2.add (at_.toNat * 11)).off + 5, none⟩ = some (.int .i64 (rd_T38 (rd_T41 tr row).f0 at_).f4.f0) ∧ w'.cell? ⟨(ad2.add (at_.toNat * 11)).block, (ad2.add (at_.toNat * 11)).off + 6, none⟩ = some (.int .i64 (rd_T38 (rd_T41 tr row).f0 at_).f4.f1) ∧ w'.cell? ⟨(ad2.add (at_.toNat * 11)).block, (ad2.add (at_.toNat * 11)).off + 7, none⟩ = some (.int .i64 (rd_T38 (rd_T41 tr row).f0 at_).f5.f0) ∧ w'.cell? ⟨(ad2.add (at_.toNat * 11)).block, (ad2.add (at_.toNat * 11)).off + 8, none⟩ = some (.int .i64 (rd_T38 (rd_T41 tr row).f0 at_).f5.f1) ∧ w'.cell? ⟨(ad2.add (at_.toNat * 11)).block, (ad2.add (at_.toNat * 11)).off + 9, none⟩ = some (.int .i64 (rd_T38 (rd_T41 tr row).f0 at_).f6.f0) ∧ w'.cell? ⟨(ad2.add (at_.toNat * 11)).block, (ad2.add (at_.toNat * 11)).off + 10, none⟩ = some (.int .i64 (rd_T38 (rd_T41 tr row).f0 at_).f6.f1)) ((repeat' apply And.intro) <;> exact keepc (W := W8) (by assumption) (by repeat (with_reducible first | exact Below.refl _ _ | apply below_alloc | apply pw_below_drewN | apply below_drew1 | (refine below_set ?_ (by first | exact hb10.size | simp)) | refine below_step ?_ hb10))) (first | (go_at_call 10; (refine (impl_EdtPut.calls k xA xa xc xh xf xB xb xr xg row at_ (rd_T38 (rd_T41 tr row).f0 at_) zc zh zf zr zg true _ ?n1 HLx.out ?n2 HLs.out ?n3 C1.out).mono ?_); (case n1 => exact Kd.C_below HX.out.kc (by repeat (with_reducible first | exact Below.refl _ _ | apply below_alloc | apply pw_below_drewN | apply below_drew1))); (case n2 => exact Kd.C_below HX.out.kr (by repeat (with_reducible first | exact Below.refl _ _ | apply below_alloc | apply pw_below_drewN | apply below_drew1))); (case n3 => exact Txt.MLen_below HM.out (below_step HX.out.bl (by repeat (with_reducible first | exact Below.refl _ _ | apply below_alloc | apply pw_below_drewN | apply below_drew1)))); rintro e W10 ⟨v0, v3, rfl, hv0, hv3, hb10⟩; obtain ⟨zA, za, rfl⟩ := Kd.R_slice hv0; obtain ⟨zB, zb, rfl⟩ := Kd.R_slice (Kd.S_R hv3); have HLz := Aside0.mk (Kd.R_reads' hv0).2.1; have HLw := Aside0.mk (Kd.R_reads' (Kd.S_R hv3)).2.1; have HV0 := Aside0.mk (R_from hv0); have HV3 := Aside0.mk (R_from (Kd.S_R hv3)); clear hv0 hv3; (try (have hz10 : W10.heap[W8.heap.size]? = some (.cells (l3A (.slice none 0 0) (.slice none 0 0) 0 0 0) 26 (0, 0)) := blk_below (first_block W8 _ _ (by rfl)) hb10; have zc0 : W10.cell? ⟨W8.heap.size, 0, none⟩ = some (.slice none 0 0) := (blk_cell hz10 0).trans rfl; have zc1 : W10.cell? ⟨W8.heap.size, 1, none⟩ = some (.int .i64 0) := (blk_cell hz10 1).trans rfl; have zc2 : W10.cell? ⟨W8.heap.size, 2, none⟩ = some (.int .i64 0) := (blk_cell hz10 2).trans rfl; have zc3 : W10.cell? ⟨W8.heap.size, 3, none⟩ = some (.slice none 0 0) := (blk_cell hz10 3).trans rfl; have zc4 : W10.cell? ⟨W8.heap.size, 4, none⟩ = some (.int .i64 0) := (blk_cell hz10 4).trans rfl; have zf0 := blk_frozen hz10 0; have zf1 := blk_frozen hz10 1; have zf2 := blk_frozen hz10 2; have zf3 := blk_frozen hz10 3; have zf4 := blk_frozen hz10 4))))
    · go_wp2
      go_meet
      have hbx : Below W8.heap.size W8 (W10.alloc (.cells (l3A (.slice zA zc.length za) (.slice zB zr.length zb) zh zf zg) 26)) := by repeat (with_reducible first | exact Below.refl _ _ | apply below_alloc | apply pw_below_drewN | apply below_drew1 | refine below_step ?_ hb10)
      exact ⟨W10.heap.size, zA, zB, za, zb, rfl, rfl, ⟨HT.out.below hbx, HX.out.below hbx, ⟨blk_new W10 _, Kd.C_alloc (Kd.R_reads' HV0.out).2.2 _, Kd.C_alloc (Kd.R_reads' HV3.out).2.2 _, below_step HT.out.bl hbx⟩, HLz.out, HLw.out⟩⟩
    · go_wp2
      go_meet
      have hbx : Below W8.heap.size W8 (((((W10.setCell ⟨W8.heap.size, 0, none⟩ (.slice zA zc.length za)).setCell ⟨W8.heap.size, 1, none⟩ (.int .i64 zh)).setCell ⟨W8.heap.size, 2, none⟩ (.int .i64 zf)).setCell ⟨W8.heap.size, 3, none⟩ (.slice zB zr.length zb)).setCell ⟨W8.heap.size, 4, none⟩ (.int .i64 zg)) := by repeat (with_reducible first | exact Below.refl _ _ | apply below_alloc | apply pw_below_drewN | apply below_drew1 | (refine below_set ?_ (Nat.le_refl _)) | refine below_step ?_ hb10)
      exact ⟨W8.heap.size, zA, zB, za, zb, rfl, rfl, ⟨HT.out.below hbx, HX.out.below hbx, ⟨blk_put (blk_put (blk_put (blk_put (blk_put hz10 0 (.slice zA zc.length za) rfl) 1 (.int .i64 zh) rfl) 2 (.int .i64 zf) rfl) 3 (.slice zB zr.length zb) rfl) 4 (.int .i64 zg) rfl, (Kd.R_reads' (Kd.R_far (p := ⟨W8.heap.size, 4, none⟩) (Kd.R_far (p := ⟨W8.heap.size, 3, none⟩) (Kd.R_far (p := ⟨W8.heap.size, 2, none⟩) (Kd.R_far (p := ⟨W8.heap.size, 1, none⟩) (Kd.R_far (p := ⟨W8.heap.size, 0, none⟩) HV0.out (fun k hk => by have h := hk.2; simp at h; show k ≠ W8.heap.size; omega) _) (fun k hk => by have h := hk.2; simp at h; show k ≠ W8.heap.size; omega) _) (fun k hk => by have h := hk.2; simp at h; show k ≠ W8.heap.size; omega) _) (fun k hk => by have h := hk.2; simp at h; show k ≠ W8.heap.size; omega) _) (fun k hk => by have h := hk.2; simp at h; show k ≠ W8.heap.size; omega) _)).2.2, (Kd.R_reads' (Kd.R_far (p := ⟨W8.heap.size, 4, none⟩) (Kd.R_far (p := ⟨W8.heap.size, 3, none⟩) (Kd.R_far (p := ⟨W8.heap.size, 2, none⟩) (Kd.R_far (p := ⟨W8.heap.size, 1, none⟩) (Kd.R_far (p := ⟨W8.heap.size, 0, none⟩) HV3.out (fun k hk => by have h := hk.2; simp at h; show k ≠ W8.heap.size; omega) _) (fun k hk => by have h := hk.2; simp at h; show k ≠ W8.heap.size; omega) _) (fun k hk => by have h := hk.2; simp at h; show k ≠ W8.heap.size; omega) _) (fun k hk => by have h := hk.2; simp at h; show k ≠ W8.heap.size; omega) _) (fun k hk => by have h := hk.2; simp at h; show k ≠ W8.heap.size; omega) _)).2.2, below_step HT.out.bl hbx⟩, HLz.out, HLw.out⟩⟩
  case rest =>
    obtain ⟨Z, zA, zB, za, zb, rfl, rfl, hcw⟩ := hcut
    obtain ⟨hT, hX, hZ, hlz, hlw⟩ := hcw.out
    clear hcw HT HX q0 z0 z1 z2 z3 z4 z5 z6 z7 z8 z9 z10 x0_ x1_ x2_ x3_ x4_ t3_
    have HT := Aside0.mk hT
    have HX := Aside0.mk hX
    have HZ := Aside0.mk hZ
    have HLz := Aside0.mk hlz
    have HLw := Aside0.mk hlw
    clear hT hX hZ hlz hlw
    go_upto_region 13 with (fail)
    have y0 := Ext.cell ((blk_cell HX.out.bt 0).trans rfl : wc.cell? ⟨X, 0, none⟩ = some (Value.slice xA xc.length xa))
    have y1 := Ext.cell ((blk_cell HX.out.bt 1).trans rfl : wc.cell? ⟨X, 1, none⟩ = some (Value.int .i64 xh))
    have y2 := Ext.cell ((blk_cell HX.out.bt 2).trans rfl : wc.cell? ⟨X, 2, none⟩ = some (Value.int .i64 xf))
    have y3 := Ext.cell ((blk_cell HX.out.bt 3).trans rfl : wc.cell? ⟨X, 3, none⟩ = some (Value.slice xB xr.length xb))
    have y4 := Ext.cell ((blk_cell HX.out.bt 4).trans rfl : wc.cell? ⟨X, 4, none⟩ = some (Value.int .i64 xg))
    have w0 := Ext.cell ((blk_cell HT.out.bt 0).trans rfl : wc.cell? ⟨T, 0, none⟩ = some (Value.slice tA tc.length ta))
    have w1 := Ext.cell ((blk_cell HT.out.bt 1).trans rfl : wc.cell? ⟨T, 1, none⟩ = some (Value.int .i64 th))
    have w2 := Ext.cell ((blk_cell HT.out.bt 2).trans rfl : wc.cell? ⟨T, 2, none⟩ = some (Value.int .i64 tf))
    have w3 := Ext.cell ((blk_cell HT.out.bt 3).trans rfl : wc.cell? ⟨T, 3, none⟩ = some (Value.slice tB tr.length tb))
    have w4 := Ext.cell ((blk_cell HT.out.bt 4).trans rfl : wc.cell? ⟨T, 4, none⟩ = some (Value.int .i64 tg))
    have v0 := Ext.cell ((blk_cell HZ.out.bt 0).trans rfl : wc.cell? ⟨Z, 0, none⟩ = some (Value.slice zA zc.length za))
    have v1 := Ext.cell ((blk_cell HZ.out.bt 1).trans rfl : wc.cell? ⟨Z, 1, none⟩ = some (Value.int .i64 zh))
    have v2 := Ext.cell ((blk_cell HZ.out.bt 2).trans rfl : wc.cell? ⟨Z, 2, none⟩ = some (Value.int .i64 zf))
    have v3 := Ext.cell ((blk_cell HZ.out.bt 3).trans rfl : wc.cell? ⟨Z, 3, none⟩ = some (Value.slice zB zr.length zb))
    have v4 := Ext.cell ((blk_cell HZ.out.bt 4).trans rfl : wc.cell? ⟨Z, 4, none⟩ = some (Value.int .i64 zg))
    have FXc := Aside0.mk (fun (v : Ext wc) => Kd.C_below HX.out.kc v.below)
    have FXr := Aside0.mk (fun (v : Ext wc) => Kd.C_below HX.out.kr v.below)
    have FTc := Aside0.mk (fun (v : Ext wc) => Kd.C_below HT.out.kc v.below)
    have FTr := Aside0.mk (fun (v : Ext wc) => Kd.C_below HT.out.kr v.below)
    have FZc := Aside0.mk (fun (v : Ext wc) => Kd.C_below HZ.out.kc v.below)
    have FZr := Aside0.mk (fun (v : Ext wc) => Kd.C_below HZ.out.kr v.below)
    have FM := Aside0.mk (fun (v : Ext wc) => Txt.MLen_below HM.out (below_step HT.out.bl v.below))
    have hw1 : wrap64 (m - 1) = m - 1 := by unfold wrap64; omega
    have hw2 : IntKind.i64.wrap (m - 1) = m - 1 := by rw [IntKind.wrap_i64]; omega
    refine region_ext (by kernel_rfl) (by kernel_rfl) ?_
    repeat (go_big_quiet_step (first | (go_at_call 11; with_reducible exact Calls.ext (impl_TblOk.calls k xA xa xc xh xf xB xb xr xg true _ (FXc.out _) HLx.out (FXr.out _) HLs.out (FM.out _) C2.out)) | (go_at_call 12; first | with_reducible exact Calls.ext (impl_TblCells.calls k xA xa xc xh xf xB xb xr xg (m - 1) _ (FXc.out _) HLx.out (FXr.out _) HLs.out C3.out) | with_reducible exact Calls.ext (impl_TblCells.calls k tA ta tc th tf tB tb tr tg m _ (FTc.out _) HLc.out (FTr.out _) HLr.out C4.out)) | (go_at_call 7; with_reducible exact Calls.ext (laws_pwTable.calls k zA za zc zh zf zB zb zr zg tA ta tc th tf tB tb tr tg r _ (FZc.out _) HLz.out (FZr.out _) HLw.out (FTc.out _) HLc.out (FTr.out _) HLr.out C6.out))))
    refine wpQuiet_nil ?_
    rintro W8_ ⟨⟨_, hb3_⟩, rfl⟩
    go_wp2
    go_ret
    exact ⟨rfl, below_step HT.out.bl hb3_⟩


end Go.Proofs.YtaihfkjfbjcmhacDoor.Q
