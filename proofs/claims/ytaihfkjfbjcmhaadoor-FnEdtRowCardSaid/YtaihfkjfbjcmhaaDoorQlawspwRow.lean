-- Told by a program of this session (uprint.py, ulay.py).
import Derived.Test.YtaihfkjfbjcmhaaDoorQ0
import Derived.Test.YtaihfkjfbjcmhaaDoorReg
import Derived.Test.YtaihfkjfbjcmhaaDoorQimplin
import Derived.Test.YtaihfkjfbjcmhaaDoorQimplCellOk
import Derived.Test.YtaihfkjfbjcmhaaDoorQimplTblTablecopied
import Derived.Test.YtaihfkjfbjcmhaaDoorQspecTblOk
import Derived.Test.YtaihfkjfbjcmhaaDoorQspecl2Copy
import Derived.Deep.AppendSrc
import Derived.Laws.NewBlocks
namespace Go.Proofs.YtaihfkjfbjcmhaaDoor.Q
open Go.RowKit Go.Proofs.YtaihfkjfbjcmhaaDoorW.PrintWords Go.Proofs.YtaihfkjfbjcmhaaDoorW.PrintLast Go.Proofs.YtaihfkjfbjcmhaaDoorW.PrintMore Go.Proofs.YtaihfkjfbjcmhaaDoor.Reg Go.Proofs.YtaihfkjfbjcmhaaDoor.Box
attribute [local go_sem] max2_int min2_int max_two min_two max_three min_three max_four min_four
set_option linter.unusedVariables false
set_option linter.unusedSimpArgs false

/-! ### laws_pwRow: function 10 (by hand) -/
def laws_pwRow.tup (x : S58) : List UInt8 × List Int := (x.f0.data.toList, [x.f1, x.f2, x.f3.f0, x.f3.f1, x.f4.f0, x.f4.f1, x.f5.f0, x.f5.f1, x.f6.f0, x.f6.f1])
/-- Two rows that are the same; no answer else. -/
def laws_pwRow.f (k : Nat) (l0_0 : List S58) (a0_1 : Bool) (l1_0 : List S58) (a1_1 : Bool) : Option Bool := if l0_0.map laws_pwRow.tup = l1_0.map laws_pwRow.tup ∧ a0_1 = a1_1 then some true else none
theorem laws_pwRow.mono : ∀ l0_0 a0_1 l1_0 a1_1 k, LeO (laws_pwRow.f k l0_0 a0_1 l1_0 a1_1) (laws_pwRow.f (k + 1) l0_0 a0_1 l1_0 a1_1) := fun _ _ _ _ _ => LeO.refl _
theorem map_same {α β : Type} {f : α → β} (hf : ∀ x y, f x = f y → x = y) {l m : List α} (h : l.map f = m.map f) : l = m := by
  induction l generalizing m with
  | nil => cases m with
    | nil => rfl
    | cons y ys => cases h
  | cons x xs ih => cases m with
    | nil => cases h
    | cons y ys =>
      simp only [List.map_cons, List.cons.injEq] at h
      rw [ih h.2, hf x y h.1]
theorem laws_pwRow.inj (x y : S58) (h : laws_pwRow.tup x = laws_pwRow.tup y) : x = y := by
  obtain ⟨⟨⟨x0⟩⟩, x1, x2, ⟨x3, x4⟩, ⟨x5, x6⟩, ⟨x7, x8⟩, ⟨x9, x10⟩⟩ := x
  obtain ⟨⟨⟨y0⟩⟩, y1, y2, ⟨y3, y4⟩, ⟨y5, y6⟩, ⟨y7, y8⟩, ⟨y9, y10⟩⟩ := y
  unfold laws_pwRow.tup at h
  simp only [Prod.mk.injEq, List.cons.injEq, and_true] at h
  obtain ⟨h0, rfl, rfl, rfl, rfl, rfl, rfl, rfl, rfl, rfl, rfl⟩ := h
  subst h0
  rfl
set_option maxHeartbeats 4000000 in
set_option maxRecDepth 100000 in
theorem laws_pwRow.calls (k : Nat) (A0_0 : Option Addr) (c0_0 : Nat) (l0_0 : List (S58)) (a0_1 : Bool) (A1_0 : Option Addr) (c1_0 : Nat) (l1_0 : List (S58)) (a1_1 : Bool) (r : Bool) (w : World) (hr0_0 : Kd.C k58 w A0_0 l0_0.length l0_0) (hc0_0 : l0_0.length ≤ c0_0) (hr1_0 : Kd.C k58 w A1_0 l1_0.length l1_0) (hc1_0 : l1_0.length ≤ c1_0) (h : laws_pwRow.f k l0_0 a0_1 l1_0 a1_1 = some r) :
    Calls Tryd.prog 10 #[.agg #[.slice A0_0 l0_0.length c0_0, .bool a0_1], .agg #[.slice A1_0 l1_0.length c1_0, .bool a1_1]] w fun e w' => e = .returned (.bool r) ∧ Below w.heap.size w w' := by
  unfold laws_pwRow.f at h
  split at h
  rotate_left
  · cases h
  rename_i hs
  obtain ⟨hs, rfl⟩ := hs
  obtain rfl := map_same laws_pwRow.inj hs
  obtain rfl := Option.some.inj h
  have HR0 := Aside0.mk hr0_0
  have HR1 := Aside0.mk hr1_0
  have hbig := hr0_0.2.1
  clear hr0_0 hr1_0 hc0_0 hc1_0 h hs
  have hu1 := Tryd.underlying37
  have hu2 := Tryd.underlying58
  have hu3 := Tryd.underlying56
  go_enter Tryd.func10, Tryd.ntmps10
  go_upto_region 4 with (fail)
  refine wp_letter (fun W0 => W0.heap[w.heap.size]? = some (.cells #[.slice A0_0 l0_0.length c0_0, .bool a0_1] 37 (0, 0)) ∧ W0.heap[w.heap.size + 1]? = some (.cells #[.slice A1_0 l0_0.length c1_0, .bool a0_1] 37 (0, 0)) ∧ Below w.heap.size w W0) ⟨blk_alloc (blk_new w _) _, by have := blk_new2 w (.cells #[.slice A0_0 l0_0.length c0_0, .bool a0_1] 37) (.cells #[.slice A1_0 l0_0.length c1_0, .bool a0_1] 37); exact this, below_alloc (below_alloc (Below.refl _ _) _) _⟩ ?_
  rintro W1 ⟨hG, hH, hB⟩
  generalize w.heap.size + 1 = H at hH ⊢
  have HG := Aside0.mk hG
  have HH := Aside0.mk hH
  have HB := Aside0.mk hB
  clear hG hH hB
  go_loopg [5] l0_0.length (fun gg s5 wr => ∃ (n i : Nat), n ≤ gg ∧ i + n = l0_0.length ∧ s5 = .int .i64 i ∧ Aside0 (wr.heap[w.heap.size]? = some (.cells #[.slice A0_0 l0_0.length c0_0, .bool a0_1] 37 (0, 0))) ∧ Aside0 (wr.heap[H]? = some (.cells #[.slice A1_0 l0_0.length c1_0, .bool a0_1] 37 (0, 0))) ∧ Aside0 (Below w.heap.size w wr))
  case atStart => exact ⟨l0_0.length, 0, Nat.le_refl _, by omega, rfl, HG, HH, HB⟩
  case round =>
    clear HG HH HB
    obtain ⟨n, i, hg, hin, rfl, HG, HH, HB⟩ := hrel
    have g2 : wr.cell? ⟨w.heap.size, 0, none⟩ = some (Value.slice A0_0 l0_0.length c0_0) := (blk_cell HG.out 0).trans rfl
    cases n with
    | zero =>
      have hlt : ¬ (i : Int) < (l0_0.length : Int) := by omega
      go_wp2
      go_ret
      exact ⟨rfl, HB.out⟩
    | succ n =>
      have hlt : (i : Int) < (l0_0.length : Int) := by omega
      have h2 : wr.cell? ⟨H, 0, none⟩ = some (Value.slice A1_0 l0_0.length c1_0) := (blk_cell HH.out 0).trans rfl
      obtain ⟨ad, hA, p0, p1, p2, p3, p4, p5, p6, p7, p8, p9, p10⟩ := at_T58 (Kd.C_below HR0.out HB.out) i (by omega) hlt
      rw [hA] at g2
      clear hA
      obtain ⟨ad2, hA, q0, q1, q2, q3, q4, q5, q6, q7, q8, q9, q10⟩ := at_T58 (Kd.C_below HR1.out HB.out) i (by omega) hlt
      rw [hA] at h2
      clear hA
      simp only [Int.toNat_natCast] at p0 p1 p2 p3 p4 p5 p6 p7 p8 p9 p10 q0 q1 q2 q3 q4 q5 q6 q7 q8 q9 q10
      go_upto_region 6 with (fail)
      have xg2 := Ext.cell g2
      have xh2 := Ext.cell h2
      have xp0 := Ext.cell p0
      have xp1 := Ext.cell p1
      have xp2 := Ext.cell p2
      have xp3 := Ext.cell p3
      have xp4 := Ext.cell p4
      have xp5 := Ext.cell p5
      have xp6 := Ext.cell p6
      have xp7 := Ext.cell p7
      have xp8 := Ext.cell p8
      have xp9 := Ext.cell p9
      have xp10 := Ext.cell p10
      have xq0 := Ext.cell q0
      have xq1 := Ext.cell q1
      have xq2 := Ext.cell q2
      have xq3 := Ext.cell q3
      have xq4 := Ext.cell q4
      have xq5 := Ext.cell q5
      have xq6 := Ext.cell q6
      have xq7 := Ext.cell q7
      have xq8 := Ext.cell q8
      have xq9 := Ext.cell q9
      have xq10 := Ext.cell q10
      clear g2 h2 p0 p1 p2 p3 p4 p5 p6 p7 p8 p9 p10 q0 q1 q2 q3 q4 q5 q6 q7 q8 q9 q10
      refine region_ext (by kernel_rfl) (by kernel_rfl) ?_
      repeat (go_big_quiet_step (fail))
      refine wpQuiet_nil ?_
      rintro W8 ⟨⟨W9, hb3⟩, rfl⟩
      go_wp2
      go_roundg n
      case measure => omega
      case rel => exact ⟨n, i + 1, Nat.le_refl _, by omega, by go_num, ⟨blk_below HG.out hb3⟩, ⟨blk_below HH.out hb3⟩, ⟨below_step HB.out hb3⟩⟩

/-! ### laws_pwTable: function 7 (by hand) -/
def laws_pwTable.col (x : S52) : Int × Int := (x.f0, x.f1)
def laws_pwTable.row (x : S37) : List (List UInt8 × List Int) × Bool := (x.f0.map laws_pwRow.tup, x.f1)
/-- Two tables that are the same; no answer else. -/
def laws_pwTable.f (k : Nat) (l0_0 : List S52) (a0_1 : Int) (a0_2 : Int) (l0_3 : List S37) (a0_4 : Int) (l1_0 : List S52) (a1_1 : Int) (a1_2 : Int) (l1_3 : List S37) (a1_4 : Int) : Option Bool := if l0_0.map laws_pwTable.col = l1_0.map laws_pwTable.col ∧ a0_1 = a1_1 ∧ a0_2 = a1_2 ∧ l0_3.map laws_pwTable.row = l1_3.map laws_pwTable.row ∧ a0_4 = a1_4 then some true else none
theorem laws_pwTable.mono : ∀ l0_0 a0_1 a0_2 l0_3 a0_4 l1_0 a1_1 a1_2 l1_3 a1_4 k, LeO (laws_pwTable.f k l0_0 a0_1 a0_2 l0_3 a0_4 l1_0 a1_1 a1_2 l1_3 a1_4) (laws_pwTable.f (k + 1) l0_0 a0_1 a0_2 l0_3 a0_4 l1_0 a1_1 a1_2 l1_3 a1_4) := fun _ _ _ _ _ _ _ _ _ _ _ => LeO.refl _
theorem laws_pwTable.inj1 (x y : S52) (h : laws_pwTable.col x = laws_pwTable.col y) : x = y := by
  obtain ⟨x0, x1⟩ := x
  obtain ⟨y0, y1⟩ := y
  unfold laws_pwTable.col at h
  simp only [Prod.mk.injEq] at h
  obtain ⟨rfl, rfl⟩ := h
  rfl
theorem laws_pwTable.inj2 (x y : S37) (h : laws_pwTable.row x = laws_pwTable.row y) : x = y := by
  obtain ⟨x0, x1⟩ := x
  obtain ⟨y0, y1⟩ := y
  unfold laws_pwTable.row at h
  simp only [Prod.mk.injEq] at h
  obtain ⟨h, rfl⟩ := h
  rw [map_same laws_pwRow.inj h]
set_option maxHeartbeats 4000000 in
set_option maxRecDepth 100000 in
theorem laws_pwTable.calls (k : Nat) (A0_0 : Option Addr) (c0_0 : Nat) (l0_0 : List (S52)) (a0_1 : Int) (a0_2 : Int) (A0_3 : Option Addr) (c0_3 : Nat) (l0_3 : List (S37)) (a0_4 : Int) (A1_0 : Option Addr) (c1_0 : Nat) (l1_0 : List (S52)) (a1_1 : Int) (a1_2 : Int) (A1_3 : Option Addr) (c1_3 : Nat) (l1_3 : List (S37)) (a1_4 : Int) (r : Bool) (w : World) (hr0_0 : Kd.C k52 w A0_0 l0_0.length l0_0) (hc0_0 : l0_0.length ≤ c0_0) (hr0_3 : Kd.C k37 w A0_3 l0_3.length l0_3) (hc0_3 : l0_3.length ≤ c0_3) (hr1_0 : Kd.C k52 w A1_0 l1_0.length l1_0) (hc1_0 : l1_0.length ≤ c1_0) (hr1_3 : Kd.C k37 w A1_3 l1_3.length l1_3) (hc1_3 : l1_3.length ≤ c1_3) (h : laws_pwTable.f k l0_0 a0_1 a0_2 l0_3 a0_4 l1_0 a1_1 a1_2 l1_3 a1_4 = some r) :
    Calls Tryd.prog 7 #[.agg #[.slice A0_0 l0_0.length c0_0, .int .i64 a0_1, .int .i64 a0_2, .slice A0_3 l0_3.length c0_3, .int .i64 a0_4], .agg #[.slice A1_0 l1_0.length c1_0, .int .i64 a1_1, .int .i64 a1_2, .slice A1_3 l1_3.length c1_3, .int .i64 a1_4]] w fun e w' => e = .returned (.bool r) ∧ Below w.heap.size w w' := by
  unfold laws_pwTable.f at h
  split at h
  rotate_left
  · cases h
  rename_i hs
  obtain ⟨hs, rfl, rfl, hs3, rfl⟩ := hs
  obtain rfl := map_same laws_pwTable.inj1 hs
  obtain rfl := map_same laws_pwTable.inj2 hs3
  obtain rfl := Option.some.inj h
  have HR0 := Aside0.mk hr0_0
  have HR1 := Aside0.mk hr1_0
  have HS0 := Aside0.mk hr0_3
  have HS1 := Aside0.mk hr1_3
  have hbig := hr0_0.2.1
  have hbig3 := hr0_3.2.1
  clear hr0_0 hr1_0 hc0_0 hc1_0 hr0_3 hr1_3 hc0_3 hc1_3 h hs hs3
  have hu1 := Tryd.underlying26
  have hu2 := Tryd.underlying52
  go_enter Tryd.func7, Tryd.ntmps7
  go_upto_region 4 with (fail)
  refine wp_letter (fun W0 => W0.heap[w.heap.size]? = some (.cells (l3A (.slice A0_0 l0_0.length c0_0) (.slice A0_3 l0_3.length c0_3) a0_1 a0_2 a0_4) 26 (0, 0)) ∧ W0.heap[w.heap.size + 1]? = some (.cells (l3A (.slice A1_0 l0_0.length c1_0) (.slice A1_3 l0_3.length c1_3) a0_1 a0_2 a0_4) 26 (0, 0)) ∧ Below w.heap.size w W0) ⟨blk_alloc (blk_new w _) _, by have := blk_new2 w (.cells (l3A (.slice A0_0 l0_0.length c0_0) (.slice A0_3 l0_3.length c0_3) a0_1 a0_2 a0_4) 26) (.cells (l3A (.slice A1_0 l0_0.length c1_0) (.slice A1_3 l0_3.length c1_3) a0_1 a0_2 a0_4) 26); exact this, below_alloc (below_alloc (Below.refl _ _) _) _⟩ ?_
  rintro W1 ⟨hG, hH, hB⟩
  generalize w.heap.size + 1 = H at hH ⊢
  have HG := Aside0.mk hG
  have HH := Aside0.mk hH
  have HB := Aside0.mk hB
  clear hG hH hB
  go_loopg [5] l0_0.length (fun gg s5 wr => ∃ (n i : Nat), n ≤ gg ∧ i + n = l0_0.length ∧ s5 = .int .i64 i ∧ Aside0 (wr.heap[w.heap.size]? = some (.cells (l3A (.slice A0_0 l0_0.length c0_0) (.slice A0_3 l0_3.length c0_3) a0_1 a0_2 a0_4) 26 (0, 0))) ∧ Aside0 (wr.heap[H]? = some (.cells (l3A (.slice A1_0 l0_0.length c1_0) (.slice A1_3 l0_3.length c1_3) a0_1 a0_2 a0_4) 26 (0, 0))) ∧ Aside0 (Below w.heap.size w wr))
  case atStart => exact ⟨l0_0.length, 0, Nat.le_refl _, by omega, rfl, HG, HH, HB⟩
  case round =>
    clear HG HH HB
    obtain ⟨n, i, hg, hin, rfl, HG, HH, HB⟩ := hrel
    have g2 : wr.cell? ⟨w.heap.size, 0, none⟩ = some (Value.slice A0_0 l0_0.length c0_0) := (blk_cell HG.out 0).trans rfl
    cases n with
    | zero =>
      have hlt : ¬ (i : Int) < (l0_0.length : Int) := by omega
      go_upto_region 9 with (fail)
      clear g2
      go_loopg [6] l0_3.length (fun gg s6 wr => ∃ (n i : Nat), n ≤ gg ∧ i + n = l0_3.length ∧ s6 = .int .i64 i ∧ Aside0 (wr.heap[w.heap.size]? = some (.cells (l3A (.slice A0_0 l0_0.length c0_0) (.slice A0_3 l0_3.length c0_3) a0_1 a0_2 a0_4) 26 (0, 0))) ∧ Aside0 (wr.heap[H]? = some (.cells (l3A (.slice A1_0 l0_0.length c1_0) (.slice A1_3 l0_3.length c1_3) a0_1 a0_2 a0_4) 26 (0, 0))) ∧ Aside0 (Below w.heap.size w wr))
      case atStart => exact ⟨l0_3.length, 0, Nat.le_refl _, by omega, rfl, HG, HH, HB⟩
      case round =>
        clear HG HH HB hlt hin hg
        obtain ⟨n, i, hg, hin, rfl, HG, HH, HB⟩ := hrel
        have g3 : wr.cell? ⟨w.heap.size, 3, none⟩ = some (Value.slice A0_3 l0_3.length c0_3) := (blk_cell HG.out 3).trans rfl
        cases n with
        | zero =>
          have hlt : ¬ (i : Int) < (l0_3.length : Int) := by omega
          go_wp2
          go_ret
          exact ⟨rfl, HB.out⟩
        | succ n =>
          have hlt : (i : Int) < (l0_3.length : Int) := by omega
          have h3 : wr.cell? ⟨H, 3, none⟩ = some (Value.slice A1_3 l0_3.length c1_3) := (blk_cell HH.out 3).trans rfl
          obtain ⟨ad, B0, d0, hA, p0, p1, e0, hC0⟩ := at_T37 (Kd.C_below HS0.out HB.out) i (by omega) hlt
          rw [hA] at g3
          clear hA
          obtain ⟨ad2, B1, d1, hA, q0, q1, e1, hC1⟩ := at_T37 (Kd.C_below HS1.out HB.out) i (by omega) hlt
          rw [hA] at h3
          clear hA
          simp only [Int.toNat_natCast] at p0 p1 q0 q1
          obtain ⟨x, hx⟩ : ∃ x, rd_T37 l0_3 i = x := ⟨_, rfl⟩
          rw [hx] at p0 p1 q0 q1 hC0 hC1 e0 e1
          clear hx
          have HSM := Aside0.mk (show laws_pwRow.f k x.f0 x.f1 x.f0 x.f1 = some true by unfold laws_pwRow.f; rw [if_pos ⟨rfl, rfl⟩])
          have HE0 := Aside0.mk e0
          have HE1 := Aside0.mk e1
          clear e0 e1
          go_upto_region 11 with (fail)
          have FC := Aside0.mk (fun (v : Ext wr) => Kd.C_below hC0 v.below)
          have FD := Aside0.mk (fun (v : Ext wr) => Kd.C_below hC1 v.below)
          have xg2 := Ext.cell g3
          have xh2 := Ext.cell h3
          have xp0 := Ext.cell p0
          have xp1 := Ext.cell p1
          have xq0 := Ext.cell q0
          have xq1 := Ext.cell q1
          clear g3 h3 p0 p1 q0 q1 hC0 hC1
          refine region_ext (by kernel_rfl) (by kernel_rfl) ?_
          repeat (go_big_quiet_step (first | (go_at_call 10; exact Calls.ext (laws_pwRow.calls k B0 d0 x.f0 x.f1 B1 d1 x.f0 x.f1 true _ (FC.out _) HE0.out (FD.out _) HE1.out HSM.out))))
          refine wpQuiet_nil ?_
          rintro W8 ⟨⟨W9, hb3⟩, rfl⟩
          go_wp2
          go_roundg n
          case measure => omega
          case rel => exact ⟨n, i + 1, Nat.le_refl _, by omega, by go_num, ⟨blk_below HG.out hb3⟩, ⟨blk_below HH.out hb3⟩, ⟨below_step HB.out hb3⟩⟩
    | succ n =>
      have hlt : (i : Int) < (l0_0.length : Int) := by omega
      have h2 : wr.cell? ⟨H, 0, none⟩ = some (Value.slice A1_0 l0_0.length c1_0) := (blk_cell HH.out 0).trans rfl
      obtain ⟨ad, hA, p0, p1⟩ := at_T52 (Kd.C_below HR0.out HB.out) i (by omega) hlt
      rw [hA] at g2
      clear hA
      obtain ⟨ad2, hA, q0, q1⟩ := at_T52 (Kd.C_below HR1.out HB.out) i (by omega) hlt
      rw [hA] at h2
      clear hA
      simp only [Int.toNat_natCast] at p0 p1 q0 q1
      go_upto_region 6 with (fail)
      have xg2 := Ext.cell g2
      have xh2 := Ext.cell h2
      have xp0 := Ext.cell p0
      have xp1 := Ext.cell p1
      have xq0 := Ext.cell q0
      have xq1 := Ext.cell q1
      clear g2 h2 p0 p1 q0 q1
      refine region_ext (by kernel_rfl) (by kernel_rfl) ?_
      repeat (go_big_quiet_step (fail))
      refine wpQuiet_nil ?_
      rintro W8 ⟨⟨W9, hb3⟩, rfl⟩
      go_wp2
      go_roundg n
      case measure => omega
      case rel => exact ⟨n, i + 1, Nat.le_refl _, by omega, by go_num, ⟨blk_below HG.out hb3⟩, ⟨blk_below HH.out hb3⟩, ⟨below_step HB.out hb3⟩⟩

/-! ### laws_pwOk: function 9 -/
def laws_pwOk.f  : Option (Bool) := (impl_TxtOk.f (⟨#[97, 98, 32, 99]⟩ : ByteArray)).bind fun t385 => (some t385)
set_option maxHeartbeats 8000000 in
set_option maxRecDepth 100000 in
theorem laws_pwOk.calls  (r : Bool) (w : World) (hM : Txt.MLen w) (h : laws_pwOk.f  = some r) :
    Calls Tryd.prog 9 #[] w fun e w' => e = .returned (.bool r) ∧ Below w.heap.size w w' := by
  have HM := Aside0.mk hM
  clear hM
  have HB := Aside0.mk (Below.refl w.heap.size w)
  have H : ((impl_TxtOk.f (⟨#[97, 98, 32, 99]⟩ : ByteArray)).bind fun t385 => (some t385)) = some r := h
  clear h
  replace H := Option.bind_eq_some_iff.mp H
  obtain ⟨t385, A10, H⟩ := H
  replace H : (some t385) = some r := H
  have A1 := Aside0.mk A10
  clear A10
  obtain rfl := Option.some.inj H
  go_enter Tryd.func9, Tryd.ntmps9
  go_wp2_with (first | ((with_reducible refine gate_callee (f := 25) rfl ?_); refine goesL_ (some 1) rfl rfl Tryd.func25 (by kernel_rfl) rfl #[.string (⟨#[97, 98, 32, 99]⟩ : ByteArray)] rfl (by (try simp only [List.map_toArray, List.map_cons, List.map_nil]); first | done | rfl | (simp only [List.length_drop, List.length_take]; rfl)) ?_; (with_reducible refine (impl_TxtOk.calls (⟨#[97, 98, 32, 99]⟩ : ByteArray) t385 _ ?sideM A1.out).mono ?_); (case sideM => repeat (first | exact HM.out | exact (Txt.MLen_below HM.out HB.out) | (with_reducible refine Txt.MLen_alloc ?_ _) | (with_reducible refine Txt.MLen_drewN ?_ _) | (with_reducible refine Txt.MLen_drew ?_))); rintro e w2 ⟨rfl, hb⟩; refine ⟨_, rfl, ?_⟩; have n0_ := Aside0.mk (below_step (by repeat (first | (with_reducible first | exact HB.out | apply below_alloc | apply pw_below_drewN | apply below_drew1) | exact HB.out)) hb); clear HB; have HB := n0_; clear n0_; (try clear hb); (try clear hb2); (try clear hk); (try clear hi)))
  go_ret
  exact ⟨by first | rfl | (simp [IntKind.wrap_i64, wrap64]; done) | (simp [errW_none, errW_some] <;> rfl) | (simp [*, errW_none, errW_some] <;> rfl), by repeat (first | (with_reducible first | exact HB.out | apply below_alloc | apply pw_below_drewN | apply below_drew1) | exact HB.out)⟩

/-! ### impl_TblTable_part: function 34 -/
def impl_TblTable_part.f (l0_0 : List (S52)) (a0_1 : Int) (a0_2 : Int) (l0_3 : List (S37)) (a0_4 : Int) (a1 : Int) : Option (Int) := if a1 < a0_1 then (some 0) else (if a1 ≥ (wrap64 ((l0_3.length : Int) - a0_2)) then (some 2) else (some 1))
set_option maxHeartbeats 8000000 in
set_option maxRecDepth 100000 in
theorem impl_TblTable_part.calls (A0_0 : Option Addr) (c0_0 : Nat) (l0_0 : List (S52)) (a0_1 : Int) (a0_2 : Int) (A0_3 : Option Addr) (c0_3 : Nat) (l0_3 : List (S37)) (a0_4 : Int) (a1 : Int) (r : Int) (w : World) (hr0_0 : Kd.C k52 w A0_0 l0_0.length l0_0) (hc0_0 : l0_0.length ≤ c0_0) (hr0_3 : Kd.C k37 w A0_3 l0_3.length l0_3) (hc0_3 : l0_3.length ≤ c0_3) (h : impl_TblTable_part.f l0_0 a0_1 a0_2 l0_3 a0_4 a1 = some r) :
    Calls Tryd.prog 34 #[.agg #[.slice A0_0 l0_0.length c0_0, .int .i64 a0_1, .int .i64 a0_2, .slice A0_3 l0_3.length c0_3, .int .i64 a0_4], .int .i64 a1] w fun e w' => e = .returned (.int .i64 r) ∧ Below w.heap.size w w' := by
  have hu26 := Tryd.underlying26
  have HR0_0 := Aside0.mk hr0_0
  have HC0_0 := Aside0.mk hc0_0
  clear hr0_0 hc0_0
  have HR0_3 := Aside0.mk hr0_3
  have HC0_3 := Aside0.mk hc0_3
  clear hr0_3 hc0_3
  have HB := Aside0.mk (Below.refl w.heap.size w)
  have H : (if a1 < a0_1 then (some 0) else (if a1 ≥ (wrap64 ((l0_3.length : Int) - a0_2)) then (some 2) else (some 1))) = some r := h
  clear h
  by_cases c3 : a1 < a0_1
  · rw [if_pos c3] at H
    have c3b0 : decide (a1 < a0_1) = true := decide_eq_true c3
    clear c3
    obtain rfl := Option.some.inj H
    go_enter Tryd.func34, Tryd.ntmps34
    go_wp2_with (first | ((with_reducible refine gate_dst (N := 2) rfl ?_); refine box_event ?hg (N := 2) ?hd (cs := #[.slice A0_0 l0_0.length c0_0, .int .i64 a0_1, .int .i64 a0_2, .slice A0_3 l0_3.length c0_3, .int .i64 a0_4]) (t := 26) ?hr ?_; (case hd => rfl); (case hg => rfl); (case hr => first | (go_simp; done) | (go_simp; rfl)); intro gb386 hg w4 hbox hb; have n0_ := Aside0.mk (below_step (by repeat (first | (with_reducible first | exact HB.out | apply below_alloc | apply pw_below_drewN | apply below_drew1) | exact HB.out)) hb); have n1_ := Aside0.mk (hbox); have n2_ := Aside0.mk ((by rw [hg]; exact (below_size (by repeat (first | (with_reducible first | exact HB.out | apply below_alloc | apply pw_below_drewN | apply below_drew1) | exact HB.out))) : w.heap.size ≤ gb386)); have n3_ := Aside0.mk ((by rw [hg]; exact (below_size (by repeat (first | (with_reducible first | exact HB.out | apply below_alloc | apply pw_below_drewN | apply below_drew1) | exact HB.out))) : w.heap.size ≤ gb386)); clear HB; have HB := n0_; have BK386 := n1_; have GW386 := n2_; have GE386 := n3_; clear n0_ n1_ n2_ n3_; clear hb hbox hg; have hcz5_0 : w4.cell? ⟨gb386, 0, none⟩ = some (.slice A0_0 l0_0.length c0_0) := (blk_cell BK386.out 0).trans rfl; have hcz5_1 : w4.cell? ⟨gb386, 1, none⟩ = some (.int .i64 a0_1) := (blk_cell BK386.out 1).trans rfl; have hcz5_2 : w4.cell? ⟨gb386, 2, none⟩ = some (.int .i64 a0_2) := (blk_cell BK386.out 2).trans rfl; have hcz5_3 : w4.cell? ⟨gb386, 3, none⟩ = some (.slice A0_3 l0_3.length c0_3) := (blk_cell BK386.out 3).trans rfl; have hcz5_4 : w4.cell? ⟨gb386, 4, none⟩ = some (.int .i64 a0_4) := (blk_cell BK386.out 4).trans rfl; have hfz5_0 := blk_frozen BK386.out 0; have hfz5_1 := blk_frozen BK386.out 1; have hfz5_2 := blk_frozen BK386.out 2; have hfz5_3 := blk_frozen BK386.out 3; have hfz5_4 := blk_frozen BK386.out 4))
    go_ret
    exact ⟨by first | rfl | (simp [IntKind.wrap_i64, wrap64]; done) | (simp [errW_none, errW_some] <;> rfl) | (simp [*, errW_none, errW_some] <;> rfl), by repeat (first | (with_reducible first | exact HB.out | apply below_alloc | apply pw_below_drewN | apply below_drew1 | refine below_set ?_ GE386.out) | exact HB.out)⟩
  · rw [if_neg c3] at H
    have c3b0 : decide (a1 < a0_1) = false := decide_eq_false c3
    clear c3
    by_cases c6 : a1 ≥ (wrap64 ((l0_3.length : Int) - a0_2))
    · rw [if_pos c6] at H
      have c6b0 : decide ((wrap64 ((l0_3.length : Int) - a0_2)) ≤ a1) = true := decide_eq_true c6
      clear c6
      obtain rfl := Option.some.inj H
      go_enter Tryd.func34, Tryd.ntmps34
      go_wp2_with (first | ((with_reducible refine gate_dst (N := 2) rfl ?_); refine box_event ?hg (N := 2) ?hd (cs := #[.slice A0_0 l0_0.length c0_0, .int .i64 a0_1, .int .i64 a0_2, .slice A0_3 l0_3.length c0_3, .int .i64 a0_4]) (t := 26) ?hr ?_; (case hd => rfl); (case hg => rfl); (case hr => first | (go_simp; done) | (go_simp; rfl)); intro gb386 hg w7 hbox hb; have n0_ := Aside0.mk (below_step (by repeat (first | (with_reducible first | exact HB.out | apply below_alloc | apply pw_below_drewN | apply below_drew1) | exact HB.out)) hb); have n1_ := Aside0.mk (hbox); have n2_ := Aside0.mk ((by rw [hg]; exact (below_size (by repeat (first | (with_reducible first | exact HB.out | apply below_alloc | apply pw_below_drewN | apply below_drew1) | exact HB.out))) : w.heap.size ≤ gb386)); have n3_ := Aside0.mk ((by rw [hg]; exact (below_size (by repeat (first | (with_reducible first | exact HB.out | apply below_alloc | apply pw_below_drewN | apply below_drew1) | exact HB.out))) : w.heap.size ≤ gb386)); clear HB; have HB := n0_; have BK386 := n1_; have GW386 := n2_; have GE386 := n3_; clear n0_ n1_ n2_ n3_; clear hb hbox hg; have hcz8_0 : w7.cell? ⟨gb386, 0, none⟩ = some (.slice A0_0 l0_0.length c0_0) := (blk_cell BK386.out 0).trans rfl; have hcz8_1 : w7.cell? ⟨gb386, 1, none⟩ = some (.int .i64 a0_1) := (blk_cell BK386.out 1).trans rfl; have hcz8_2 : w7.cell? ⟨gb386, 2, none⟩ = some (.int .i64 a0_2) := (blk_cell BK386.out 2).trans rfl; have hcz8_3 : w7.cell? ⟨gb386, 3, none⟩ = some (.slice A0_3 l0_3.length c0_3) := (blk_cell BK386.out 3).trans rfl; have hcz8_4 : w7.cell? ⟨gb386, 4, none⟩ = some (.int .i64 a0_4) := (blk_cell BK386.out 4).trans rfl; have hfz8_0 := blk_frozen BK386.out 0; have hfz8_1 := blk_frozen BK386.out 1; have hfz8_2 := blk_frozen BK386.out 2; have hfz8_3 := blk_frozen BK386.out 3; have hfz8_4 := blk_frozen BK386.out 4))
      go_ret
      exact ⟨by first | rfl | (simp [IntKind.wrap_i64, wrap64]; done) | (simp [errW_none, errW_some] <;> rfl) | (simp [*, errW_none, errW_some] <;> rfl), by repeat (first | (with_reducible first | exact HB.out | apply below_alloc | apply pw_below_drewN | apply below_drew1 | refine below_set ?_ GE386.out) | exact HB.out)⟩
    · rw [if_neg c6] at H
      have c6b0 : decide ((wrap64 ((l0_3.length : Int) - a0_2)) ≤ a1) = false := decide_eq_false c6
      clear c6
      obtain rfl := Option.some.inj H
      go_enter Tryd.func34, Tryd.ntmps34
      go_wp2_with (first | ((with_reducible refine gate_dst (N := 2) rfl ?_); refine box_event ?hg (N := 2) ?hd (cs := #[.slice A0_0 l0_0.length c0_0, .int .i64 a0_1, .int .i64 a0_2, .slice A0_3 l0_3.length c0_3, .int .i64 a0_4]) (t := 26) ?hr ?_; (case hd => rfl); (case hg => rfl); (case hr => first | (go_simp; done) | (go_simp; rfl)); intro gb386 hg w9 hbox hb; have n0_ := Aside0.mk (below_step (by repeat (first | (with_reducible first | exact HB.out | apply below_alloc | apply pw_below_drewN | apply below_drew1) | exact HB.out)) hb); have n1_ := Aside0.mk (hbox); have n2_ := Aside0.mk ((by rw [hg]; exact (below_size (by repeat (first | (with_reducible first | exact HB.out | apply below_alloc | apply pw_below_drewN | apply below_drew1) | exact HB.out))) : w.heap.size ≤ gb386)); have n3_ := Aside0.mk ((by rw [hg]; exact (below_size (by repeat (first | (with_reducible first | exact HB.out | apply below_alloc | apply pw_below_drewN | apply below_drew1) | exact HB.out))) : w.heap.size ≤ gb386)); clear HB; have HB := n0_; have BK386 := n1_; have GW386 := n2_; have GE386 := n3_; clear n0_ n1_ n2_ n3_; clear hb hbox hg; have hcz10_0 : w9.cell? ⟨gb386, 0, none⟩ = some (.slice A0_0 l0_0.length c0_0) := (blk_cell BK386.out 0).trans rfl; have hcz10_1 : w9.cell? ⟨gb386, 1, none⟩ = some (.int .i64 a0_1) := (blk_cell BK386.out 1).trans rfl; have hcz10_2 : w9.cell? ⟨gb386, 2, none⟩ = some (.int .i64 a0_2) := (blk_cell BK386.out 2).trans rfl; have hcz10_3 : w9.cell? ⟨gb386, 3, none⟩ = some (.slice A0_3 l0_3.length c0_3) := (blk_cell BK386.out 3).trans rfl; have hcz10_4 : w9.cell? ⟨gb386, 4, none⟩ = some (.int .i64 a0_4) := (blk_cell BK386.out 4).trans rfl; have hfz10_0 := blk_frozen BK386.out 0; have hfz10_1 := blk_frozen BK386.out 1; have hfz10_2 := blk_frozen BK386.out 2; have hfz10_3 := blk_frozen BK386.out 3; have hfz10_4 := blk_frozen BK386.out 4))
      go_ret
      exact ⟨by first | rfl | (simp [IntKind.wrap_i64, wrap64]; done) | (simp [errW_none, errW_some] <;> rfl) | (simp [*, errW_none, errW_some] <;> rfl), by repeat (first | (with_reducible first | exact HB.out | apply below_alloc | apply pw_below_drewN | apply below_drew1 | refine below_set ?_ GE386.out) | exact HB.out)⟩

/-! ### impl_TblPart: function 12 -/
def impl_TblPart.f (k : Nat) (l0_0 : List (S52)) (a0_1 : Int) (a0_2 : Int) (l0_3 : List (S37)) (a0_4 : Int) (a1 : Int) : Option (Int) := (impl_TblOk.f k l0_0 a0_1 a0_2 l0_3 a0_4).bind fun t388 => (if t388 = true then ((impl_in.f a1 0 (wrap64 ((l0_3.length : Int) - 1))).bind fun t389 => (if t389 = true then ((impl_TblTable_part.f l0_0 a0_1 a0_2 l0_3 a0_4 a1).bind fun t390 => (some t390)) else (some (-1)))) else (some (-1)))
theorem impl_TblPart.mono : ∀ a0 a1 a2 a3 a4 a5 k, LeO (impl_TblPart.f k a0 a1 a2 a3 a4 a5) (impl_TblPart.f (k + 1) a0 a1 a2 a3 a4 a5) := by
  intro a0 a1 a2 a3 a4 a5 k
  unfold impl_TblPart.f
  repeat' first
      | (with_reducible exact impl_TblOk.mono _ _ _ _ _ _)
      | (with_reducible exact LeO.refl _)
      | (with_reducible exact LeO.none _)
      | (with_reducible refine LeO.ite ?_ ?_)
      | (with_reducible refine LeO.bind ?_ (fun _ => ?_))
      | exact impl_TblOk.mono _ _ _ _ _ _
      | exact LeO.none _
      | refine LeO.ite ?_ ?_
      | refine LeO.bind ?_ (fun _ => ?_)
set_option maxHeartbeats 8000000 in
set_option maxRecDepth 100000 in
theorem impl_TblPart.calls (k : Nat) (A0_0 : Option Addr) (c0_0 : Nat) (l0_0 : List (S52)) (a0_1 : Int) (a0_2 : Int) (A0_3 : Option Addr) (c0_3 : Nat) (l0_3 : List (S37)) (a0_4 : Int) (a1 : Int) (r : Int) (w : World) (hr0_0 : Kd.C k52 w A0_0 l0_0.length l0_0) (hc0_0 : l0_0.length ≤ c0_0) (hr0_3 : Kd.C k37 w A0_3 l0_3.length l0_3) (hc0_3 : l0_3.length ≤ c0_3) (hM : Txt.MLen w) (h : impl_TblPart.f k l0_0 a0_1 a0_2 l0_3 a0_4 a1 = some r) :
    Calls Tryd.prog 12 #[.agg #[.slice A0_0 l0_0.length c0_0, .int .i64 a0_1, .int .i64 a0_2, .slice A0_3 l0_3.length c0_3, .int .i64 a0_4], .int .i64 a1] w fun e w' => e = .returned (.int .i64 r) ∧ Below w.heap.size w w' := by
  have HM := Aside0.mk hM
  clear hM
  have hu26 := Tryd.underlying26
  have HR0_0 := Aside0.mk hr0_0
  have HC0_0 := Aside0.mk hc0_0
  clear hr0_0 hc0_0
  have HR0_3 := Aside0.mk hr0_3
  have HC0_3 := Aside0.mk hc0_3
  clear hr0_3 hc0_3
  have HB := Aside0.mk (Below.refl w.heap.size w)
  have H : ((impl_TblOk.f k l0_0 a0_1 a0_2 l0_3 a0_4).bind fun t388 => (if t388 = true then ((impl_in.f a1 0 (wrap64 ((l0_3.length : Int) - 1))).bind fun t389 => (if t389 = true then ((impl_TblTable_part.f l0_0 a0_1 a0_2 l0_3 a0_4 a1).bind fun t390 => (some t390)) else (some (-1)))) else (some (-1)))) = some r := h
  clear h
  replace H := Option.bind_eq_some_iff.mp H
  obtain ⟨t388, A30, H⟩ := H
  replace H : (if t388 = true then ((impl_in.f a1 0 (wrap64 ((l0_3.length : Int) - 1))).bind fun t389 => (if t389 = true then ((impl_TblTable_part.f l0_0 a0_1 a0_2 l0_3 a0_4 a1).bind fun t390 => (some t390)) else (some (-1)))) else (some (-1))) = some r := H
  have A3 := Aside0.mk A30
  clear A30
  by_cases c4 : t388 = true
  · subst c4
    have H1 : ((impl_in.f a1 0 (wrap64 ((l0_3.length : Int) - 1))).bind fun t389 => (if t389 = true then ((impl_TblTable_part.f l0_0 a0_1 a0_2 l0_3 a0_4 a1).bind fun t390 => (some t390)) else (some (-1)))) = some r := by rw [if_pos rfl] at H; exact H
    clear H
    have H := H1
    clear H1
    replace H := Option.bind_eq_some_iff.mp H
    obtain ⟨t389, A50, H⟩ := H
    replace H : (if t389 = true then ((impl_TblTable_part.f l0_0 a0_1 a0_2 l0_3 a0_4 a1).bind fun t390 => (some t390)) else (some (-1))) = some r := H
    have A5 := Aside0.mk A50
    clear A50
    by_cases c6 : t389 = true
    · subst c6
      have H1 : ((impl_TblTable_part.f l0_0 a0_1 a0_2 l0_3 a0_4 a1).bind fun t390 => (some t390)) = some r := by rw [if_pos rfl] at H; exact H
      clear H
      have H := H1
      clear H1
      replace H := Option.bind_eq_some_iff.mp H
      obtain ⟨t390, A70, H⟩ := H
      replace H : (some t390) = some r := H
      have A7 := Aside0.mk A70
      clear A70
      obtain rfl := Option.some.inj H
      go_enter Tryd.func12, Tryd.ntmps12
      go_wp2_with (first | ((with_reducible refine gate_dst (N := 2) rfl ?_); (try (refine gate_guard (by rfl) ?_; dsimp only)); refine box_event ?hg (N := 2) ?hd (cs := #[.slice A0_0 l0_0.length c0_0, .int .i64 a0_1, .int .i64 a0_2, .slice A0_3 l0_3.length c0_3, .int .i64 a0_4]) (t := 26) ?hr ?_; (case hd => rfl); (case hg => rfl); (case hr => first | (go_simp; done) | (go_simp; rfl)); intro gb387 hg w8 hbox hb; have n0_ := Aside0.mk (below_step (by repeat (first | (with_reducible first | exact HB.out | apply below_alloc | apply pw_below_drewN | apply below_drew1) | exact HB.out)) hb); have n1_ := Aside0.mk (hbox); have n2_ := Aside0.mk ((by rw [hg]; exact (below_size (by repeat (first | (with_reducible first | exact HB.out | apply below_alloc | apply pw_below_drewN | apply below_drew1) | exact HB.out))) : w.heap.size ≤ gb387)); have n3_ := Aside0.mk ((by rw [hg]; exact (below_size (by repeat (first | (with_reducible first | exact HB.out | apply below_alloc | apply pw_below_drewN | apply below_drew1) | exact HB.out))) : w.heap.size ≤ gb387)); clear HB; have HB := n0_; have BK387 := n1_; have GW387 := n2_; have GE387 := n3_; clear n0_ n1_ n2_ n3_; clear hb hbox hg; have hcz9_0 : w8.cell? ⟨gb387, 0, none⟩ = some (.slice A0_0 l0_0.length c0_0) := (blk_cell BK387.out 0).trans rfl; have hcz9_1 : w8.cell? ⟨gb387, 1, none⟩ = some (.int .i64 a0_1) := (blk_cell BK387.out 1).trans rfl; have hcz9_2 : w8.cell? ⟨gb387, 2, none⟩ = some (.int .i64 a0_2) := (blk_cell BK387.out 2).trans rfl; have hcz9_3 : w8.cell? ⟨gb387, 3, none⟩ = some (.slice A0_3 l0_3.length c0_3) := (blk_cell BK387.out 3).trans rfl; have hcz9_4 : w8.cell? ⟨gb387, 4, none⟩ = some (.int .i64 a0_4) := (blk_cell BK387.out 4).trans rfl; have hfz9_0 := blk_frozen BK387.out 0; have hfz9_1 := blk_frozen BK387.out 1; have hfz9_2 := blk_frozen BK387.out 2; have hfz9_3 := blk_frozen BK387.out 3; have hfz9_4 := blk_frozen BK387.out 4) | ((with_reducible refine gate_callee (f := 11) rfl ?_); refine goesL_ (some 6) rfl rfl Tryd.func11 (by kernel_rfl) rfl #[.agg #[.slice A0_0 l0_0.length c0_0, .int .i64 a0_1, .int .i64 a0_2, .slice A0_3 l0_3.length c0_3, .int .i64 a0_4]] rfl (by (try simp only [List.map_toArray, List.map_cons, List.map_nil]); first | done | rfl | (simp only [List.length_drop, List.length_take]; rfl)) ?_; (with_reducible refine (impl_TblOk.calls k _ _ l0_0 a0_1 a0_2 _ _ l0_3 a0_4 true _ ?side1 ?side2 ?side3 ?side4 ?sideM A3.out).mono ?_); (case sideM => repeat (first | exact HM.out | exact (Txt.MLen_below HM.out HB.out) | (with_reducible refine Txt.MLen_alloc ?_ _) | (with_reducible refine Txt.MLen_drewN ?_ _) | (with_reducible refine Txt.MLen_drew ?_))); (case side1 => repeat (first | exact HR0_0.out | exact (Kd.C_below HR0_0.out HB.out) | (with_reducible refine Kd.C_alloc ?_ _) | (with_reducible refine Kd.C_drewN ?_ _) | (with_reducible refine Kd.C_drew ?_))); (case side2 => exact HC0_0.out); (case side3 => repeat (first | exact HR0_3.out | exact (Kd.C_below HR0_3.out HB.out) | (with_reducible refine Kd.C_alloc ?_ _) | (with_reducible refine Kd.C_drewN ?_ _) | (with_reducible refine Kd.C_drew ?_))); (case side4 => exact HC0_3.out); rintro e w10 ⟨rfl, hb⟩; refine ⟨_, rfl, ?_⟩; have n0_ := Aside0.mk (blk_below (g := gb387) (o := .cells #[.slice A0_0 l0_0.length c0_0, .int .i64 a0_1, .int .i64 a0_2, .slice A0_3 l0_3.length c0_3, .int .i64 a0_4] 26 (0, 0)) (by (with_reducible repeat (first | refine blk_drewN ?_ _ | refine blk_drew ?_ | refine blk_alloc ?_ _)); exact BK387.out) hb); have n1_ := Aside0.mk (below_step (by repeat (first | (with_reducible first | exact HB.out | apply below_alloc | apply pw_below_drewN | apply below_drew1 | refine below_set ?_ GE387.out) | exact HB.out)) hb); clear BK387; clear HB; have BK387 := n0_; have HB := n1_; clear n0_ n1_; (try clear hb); (try clear hb2); (try clear hk); (try clear hi); have hcz11_0 : w10.cell? ⟨gb387, 0, none⟩ = some (.slice A0_0 l0_0.length c0_0) := (blk_cell BK387.out 0).trans rfl; have hcz11_1 : w10.cell? ⟨gb387, 1, none⟩ = some (.int .i64 a0_1) := (blk_cell BK387.out 1).trans rfl; have hcz11_2 : w10.cell? ⟨gb387, 2, none⟩ = some (.int .i64 a0_2) := (blk_cell BK387.out 2).trans rfl; have hcz11_3 : w10.cell? ⟨gb387, 3, none⟩ = some (.slice A0_3 l0_3.length c0_3) := (blk_cell BK387.out 3).trans rfl; have hcz11_4 : w10.cell? ⟨gb387, 4, none⟩ = some (.int .i64 a0_4) := (blk_cell BK387.out 4).trans rfl; have hfz11_0 := blk_frozen BK387.out 0; have hfz11_1 := blk_frozen BK387.out 1; have hfz11_2 := blk_frozen BK387.out 2; have hfz11_3 := blk_frozen BK387.out 3; have hfz11_4 := blk_frozen BK387.out 4) | (go_at_call 19; (with_reducible refine (impl_in.calls a1 0 (wrap64 ((l0_3.length : Int) - 1)) true _ A5.out).mono ?_); rintro e w' ⟨rfl, ⟨nd, rfl⟩⟩) | ((with_reducible refine gate_callee (f := 34) rfl ?_); refine goesL_ (some 19) rfl rfl Tryd.func34 (by kernel_rfl) rfl #[.agg #[.slice A0_0 l0_0.length c0_0, .int .i64 a0_1, .int .i64 a0_2, .slice A0_3 l0_3.length c0_3, .int .i64 a0_4], .int .i64 a1] rfl (by (try simp only [List.map_toArray, List.map_cons, List.map_nil]); first | done | rfl | (simp only [List.length_drop, List.length_take]; rfl)) ?_; (with_reducible refine (impl_TblTable_part.calls _ _ l0_0 a0_1 a0_2 _ _ l0_3 a0_4 a1 t390 _ ?side1 ?side2 ?side3 ?side4 A7.out).mono ?_); (case side1 => repeat (first | exact (Kd.C_below HR0_0.out (by repeat (first | (with_reducible first | exact HB.out | apply below_alloc | apply pw_below_drewN | apply below_drew1 | refine below_set ?_ GE387.out) | exact HB.out))) | (with_reducible refine Kd.C_alloc ?_ _) | (with_reducible refine Kd.C_drewN ?_ _) | (with_reducible refine Kd.C_drew ?_))); (case side2 => exact HC0_0.out); (case side3 => repeat (first | exact (Kd.C_below HR0_3.out (by repeat (first | (with_reducible first | exact HB.out | apply below_alloc | apply pw_below_drewN | apply below_drew1 | refine below_set ?_ GE387.out) | exact HB.out))) | (with_reducible refine Kd.C_alloc ?_ _) | (with_reducible refine Kd.C_drewN ?_ _) | (with_reducible refine Kd.C_drew ?_))); (case side4 => exact HC0_3.out); rintro e w12 ⟨rfl, hb⟩; refine ⟨_, rfl, ?_⟩; have n0_ := Aside0.mk (blk_below (g := gb387) (o := .cells #[.slice A0_0 l0_0.length c0_0, .int .i64 a0_1, .int .i64 a0_2, .slice A0_3 l0_3.length c0_3, .int .i64 a0_4] 26 (0, 0)) (by (with_reducible repeat (first | refine blk_drewN ?_ _ | refine blk_drew ?_ | refine blk_alloc ?_ _)); exact BK387.out) hb); have n1_ := Aside0.mk (below_step (by repeat (first | (with_reducible first | exact HB.out | apply below_alloc | apply pw_below_drewN | apply below_drew1 | refine below_set ?_ GE387.out) | exact HB.out)) hb); clear BK387; clear HB; have BK387 := n0_; have HB := n1_; clear n0_ n1_; (try clear hb); (try clear hb2); (try clear hk); (try clear hi)))
      go_ret
      exact ⟨by first | rfl | (simp [IntKind.wrap_i64, wrap64]; done) | (simp [errW_none, errW_some] <;> rfl) | (simp [*, errW_none, errW_some] <;> rfl), by repeat (first | (with_reducible first | exact HB.out | apply below_alloc | apply pw_below_drewN | apply below_drew1 | refine below_set ?_ GE387.out) | exact HB.out)⟩
    · replace c6 := Bool.eq_false_iff.mpr c6
      subst c6
      have H1 : (some (-1)) = some r := by rw [if_neg (show ¬ (false = true) by decide)] at H; exact H
      clear H
      have H := H1
      clear H1
      obtain rfl := Option.some.inj H
      go_enter Tryd.func12, Tryd.ntmps12
      go_wp2_with (first | ((with_reducible refine gate_dst (N := 2) rfl ?_); (try (refine gate_guard (by rfl) ?_; dsimp only)); refine box_event ?hg (N := 2) ?hd (cs := #[.slice A0_0 l0_0.length c0_0, .int .i64 a0_1, .int .i64 a0_2, .slice A0_3 l0_3.length c0_3, .int .i64 a0_4]) (t := 26) ?hr ?_; (case hd => rfl); (case hg => rfl); (case hr => first | (go_simp; done) | (go_simp; rfl)); intro gb387 hg w13 hbox hb; have n0_ := Aside0.mk (below_step (by repeat (first | (with_reducible first | exact HB.out | apply below_alloc | apply pw_below_drewN | apply below_drew1) | exact HB.out)) hb); have n1_ := Aside0.mk (hbox); have n2_ := Aside0.mk ((by rw [hg]; exact (below_size (by repeat (first | (with_reducible first | exact HB.out | apply below_alloc | apply pw_below_drewN | apply below_drew1) | exact HB.out))) : w.heap.size ≤ gb387)); have n3_ := Aside0.mk ((by rw [hg]; exact (below_size (by repeat (first | (with_reducible first | exact HB.out | apply below_alloc | apply pw_below_drewN | apply below_drew1) | exact HB.out))) : w.heap.size ≤ gb387)); clear HB; have HB := n0_; have BK387 := n1_; have GW387 := n2_; have GE387 := n3_; clear n0_ n1_ n2_ n3_; clear hb hbox hg; have hcz14_0 : w13.cell? ⟨gb387, 0, none⟩ = some (.slice A0_0 l0_0.length c0_0) := (blk_cell BK387.out 0).trans rfl; have hcz14_1 : w13.cell? ⟨gb387, 1, none⟩ = some (.int .i64 a0_1) := (blk_cell BK387.out 1).trans rfl; have hcz14_2 : w13.cell? ⟨gb387, 2, none⟩ = some (.int .i64 a0_2) := (blk_cell BK387.out 2).trans rfl; have hcz14_3 : w13.cell? ⟨gb387, 3, none⟩ = some (.slice A0_3 l0_3.length c0_3) := (blk_cell BK387.out 3).trans rfl; have hcz14_4 : w13.cell? ⟨gb387, 4, none⟩ = some (.int .i64 a0_4) := (blk_cell BK387.out 4).trans rfl; have hfz14_0 := blk_frozen BK387.out 0; have hfz14_1 := blk_frozen BK387.out 1; have hfz14_2 := blk_frozen BK387.out 2; have hfz14_3 := blk_frozen BK387.out 3; have hfz14_4 := blk_frozen BK387.out 4) | ((with_reducible refine gate_callee (f := 11) rfl ?_); refine goesL_ (some 6) rfl rfl Tryd.func11 (by kernel_rfl) rfl #[.agg #[.slice A0_0 l0_0.length c0_0, .int .i64 a0_1, .int .i64 a0_2, .slice A0_3 l0_3.length c0_3, .int .i64 a0_4]] rfl (by (try simp only [List.map_toArray, List.map_cons, List.map_nil]); first | done | rfl | (simp only [List.length_drop, List.length_take]; rfl)) ?_; (with_reducible refine (impl_TblOk.calls k _ _ l0_0 a0_1 a0_2 _ _ l0_3 a0_4 true _ ?side1 ?side2 ?side3 ?side4 ?sideM A3.out).mono ?_); (case sideM => repeat (first | exact HM.out | exact (Txt.MLen_below HM.out HB.out) | (with_reducible refine Txt.MLen_alloc ?_ _) | (with_reducible refine Txt.MLen_drewN ?_ _) | (with_reducible refine Txt.MLen_drew ?_))); (case side1 => repeat (first | exact HR0_0.out | exact (Kd.C_below HR0_0.out HB.out) | (with_reducible refine Kd.C_alloc ?_ _) | (with_reducible refine Kd.C_drewN ?_ _) | (with_reducible refine Kd.C_drew ?_))); (case side2 => exact HC0_0.out); (case side3 => repeat (first | exact HR0_3.out | exact (Kd.C_below HR0_3.out HB.out) | (with_reducible refine Kd.C_alloc ?_ _) | (with_reducible refine Kd.C_drewN ?_ _) | (with_reducible refine Kd.C_drew ?_))); (case side4 => exact HC0_3.out); rintro e w15 ⟨rfl, hb⟩; refine ⟨_, rfl, ?_⟩; have n0_ := Aside0.mk (blk_below (g := gb387) (o := .cells #[.slice A0_0 l0_0.length c0_0, .int .i64 a0_1, .int .i64 a0_2, .slice A0_3 l0_3.length c0_3, .int .i64 a0_4] 26 (0, 0)) (by (with_reducible repeat (first | refine blk_drewN ?_ _ | refine blk_drew ?_ | refine blk_alloc ?_ _)); exact BK387.out) hb); have n1_ := Aside0.mk (below_step (by repeat (first | (with_reducible first | exact HB.out | apply below_alloc | apply pw_below_drewN | apply below_drew1 | refine below_set ?_ GE387.out) | exact HB.out)) hb); clear BK387; clear HB; have BK387 := n0_; have HB := n1_; clear n0_ n1_; (try clear hb); (try clear hb2); (try clear hk); (try clear hi); have hcz16_0 : w15.cell? ⟨gb387, 0, none⟩ = some (.slice A0_0 l0_0.length c0_0) := (blk_cell BK387.out 0).trans rfl; have hcz16_1 : w15.cell? ⟨gb387, 1, none⟩ = some (.int .i64 a0_1) := (blk_cell BK387.out 1).trans rfl; have hcz16_2 : w15.cell? ⟨gb387, 2, none⟩ = some (.int .i64 a0_2) := (blk_cell BK387.out 2).trans rfl; have hcz16_3 : w15.cell? ⟨gb387, 3, none⟩ = some (.slice A0_3 l0_3.length c0_3) := (blk_cell BK387.out 3).trans rfl; have hcz16_4 : w15.cell? ⟨gb387, 4, none⟩ = some (.int .i64 a0_4) := (blk_cell BK387.out 4).trans rfl; have hfz16_0 := blk_frozen BK387.out 0; have hfz16_1 := blk_frozen BK387.out 1; have hfz16_2 := blk_frozen BK387.out 2; have hfz16_3 := blk_frozen BK387.out 3; have hfz16_4 := blk_frozen BK387.out 4) | (go_at_call 19; (with_reducible refine (impl_in.calls a1 0 (wrap64 ((l0_3.length : Int) - 1)) false _ A5.out).mono ?_); rintro e w' ⟨rfl, ⟨nd, rfl⟩⟩))
      go_ret
      exact ⟨by first | rfl | (simp [IntKind.wrap_i64, wrap64]; done) | (simp [errW_none, errW_some] <;> rfl) | (simp [*, errW_none, errW_some] <;> rfl), by repeat (first | (with_reducible first | exact HB.out | apply below_alloc | apply pw_below_drewN | apply below_drew1 | refine below_set ?_ GE387.out) | exact HB.out)⟩
  · replace c4 := Bool.eq_false_iff.mpr c4
    subst c4
    have H1 : (some (-1)) = some r := by rw [if_neg (show ¬ (false = true) by decide)] at H; exact H
    clear H
    have H := H1
    clear H1
    obtain rfl := Option.some.inj H
    go_enter Tryd.func12, Tryd.ntmps12
    go_wp2_with (first | ((with_reducible refine gate_dst (N := 2) rfl ?_); (try (refine gate_guard (by rfl) ?_; dsimp only)); refine box_event ?hg (N := 2) ?hd (cs := #[.slice A0_0 l0_0.length c0_0, .int .i64 a0_1, .int .i64 a0_2, .slice A0_3 l0_3.length c0_3, .int .i64 a0_4]) (t := 26) ?hr ?_; (case hd => rfl); (case hg => rfl); (case hr => first | (go_simp; done) | (go_simp; rfl)); intro gb387 hg w17 hbox hb; have n0_ := Aside0.mk (below_step (by repeat (first | (with_reducible first | exact HB.out | apply below_alloc | apply pw_below_drewN | apply below_drew1) | exact HB.out)) hb); have n1_ := Aside0.mk (hbox); have n2_ := Aside0.mk ((by rw [hg]; exact (below_size (by repeat (first | (with_reducible first | exact HB.out | apply below_alloc | apply pw_below_drewN | apply below_drew1) | exact HB.out))) : w.heap.size ≤ gb387)); have n3_ := Aside0.mk ((by rw [hg]; exact (below_size (by repeat (first | (with_reducible first | exact HB.out | apply below_alloc | apply pw_below_drewN | apply below_drew1) | exact HB.out))) : w.heap.size ≤ gb387)); clear HB; have HB := n0_; have BK387 := n1_; have GW387 := n2_; have GE387 := n3_; clear n0_ n1_ n2_ n3_; clear hb hbox hg; have hcz18_0 : w17.cell? ⟨gb387, 0, none⟩ = some (.slice A0_0 l0_0.length c0_0) := (blk_cell BK387.out 0).trans rfl; have hcz18_1 : w17.cell? ⟨gb387, 1, none⟩ = some (.int .i64 a0_1) := (blk_cell BK387.out 1).trans rfl; have hcz18_2 : w17.cell? ⟨gb387, 2, none⟩ = some (.int .i64 a0_2) := (blk_cell BK387.out 2).trans rfl; have hcz18_3 : w17.cell? ⟨gb387, 3, none⟩ = some (.slice A0_3 l0_3.length c0_3) := (blk_cell BK387.out 3).trans rfl; have hcz18_4 : w17.cell? ⟨gb387, 4, none⟩ = some (.int .i64 a0_4) := (blk_cell BK387.out 4).trans rfl; have hfz18_0 := blk_frozen BK387.out 0; have hfz18_1 := blk_frozen BK387.out 1; have hfz18_2 := blk_frozen BK387.out 2; have hfz18_3 := blk_frozen BK387.out 3; have hfz18_4 := blk_frozen BK387.out 4) | ((with_reducible refine gate_callee (f := 11) rfl ?_); refine goesL_ (some 6) rfl rfl Tryd.func11 (by kernel_rfl) rfl #[.agg #[.slice A0_0 l0_0.length c0_0, .int .i64 a0_1, .int .i64 a0_2, .slice A0_3 l0_3.length c0_3, .int .i64 a0_4]] rfl (by (try simp only [List.map_toArray, List.map_cons, List.map_nil]); first | done | rfl | (simp only [List.length_drop, List.length_take]; rfl)) ?_; (with_reducible refine (impl_TblOk.calls k _ _ l0_0 a0_1 a0_2 _ _ l0_3 a0_4 false _ ?side1 ?side2 ?side3 ?side4 ?sideM A3.out).mono ?_); (case sideM => repeat (first | exact HM.out | exact (Txt.MLen_below HM.out HB.out) | (with_reducible refine Txt.MLen_alloc ?_ _) | (with_reducible refine Txt.MLen_drewN ?_ _) | (with_reducible refine Txt.MLen_drew ?_))); (case side1 => repeat (first | exact HR0_0.out | exact (Kd.C_below HR0_0.out HB.out) | (with_reducible refine Kd.C_alloc ?_ _) | (with_reducible refine Kd.C_drewN ?_ _) | (with_reducible refine Kd.C_drew ?_))); (case side2 => exact HC0_0.out); (case side3 => repeat (first | exact HR0_3.out | exact (Kd.C_below HR0_3.out HB.out) | (with_reducible refine Kd.C_alloc ?_ _) | (with_reducible refine Kd.C_drewN ?_ _) | (with_reducible refine Kd.C_drew ?_))); (case side4 => exact HC0_3.out); rintro e w19 ⟨rfl, hb⟩; refine ⟨_, rfl, ?_⟩; have n0_ := Aside0.mk (blk_below (g := gb387) (o := .cells #[.slice A0_0 l0_0.length c0_0, .int .i64 a0_1, .int .i64 a0_2, .slice A0_3 l0_3.length c0_3, .int .i64 a0_4] 26 (0, 0)) (by (with_reducible repeat (first | refine blk_drewN ?_ _ | refine blk_drew ?_ | refine blk_alloc ?_ _)); exact BK387.out) hb); have n1_ := Aside0.mk (below_step (by repeat (first | (with_reducible first | exact HB.out | apply below_alloc | apply pw_below_drewN | apply below_drew1 | refine below_set ?_ GE387.out) | exact HB.out)) hb); clear BK387; clear HB; have BK387 := n0_; have HB := n1_; clear n0_ n1_; (try clear hb); (try clear hb2); (try clear hk); (try clear hi)))
    go_ret
    exact ⟨by first | rfl | (simp [IntKind.wrap_i64, wrap64]; done) | (simp [errW_none, errW_some] <;> rfl) | (simp [*, errW_none, errW_some] <;> rfl), by repeat (first | (with_reducible first | exact HB.out | apply below_alloc | apply pw_below_drewN | apply below_drew1 | refine below_set ?_ GE387.out) | exact HB.out)⟩

/-! ### impl_TblCells: function 13 -/
def impl_TblCells.l0 : Nat → Int → List (S37) → Int → Int → Option (Int)
  | 0, _, _, _, _ => none
  | k + 1, x3, x7, x8, x9 => if x9 < x8 then (if 0 ≤ x9 then (if x9 < (x7.length : Int) then (impl_TblCells.l0 k (wrap64 (x3 + (((rd_T37 x7 x9).f0).length : Int))) x7 x8 (wrap64 (x9 + 1))) else (none)) else (none)) else (some x3)
def impl_TblCells.f (k : Nat) (l0_0 : List (S52)) (a0_1 : Int) (a0_2 : Int) (l0_3 : List (S37)) (a0_4 : Int) : Option (Int) := impl_TblCells.l0 k 0 l0_3 (l0_3.length : Int) 0
theorem impl_TblCells.mono_l : ∀ k, (∀ y0 y1 y2 y3, LeO (impl_TblCells.l0 k y0 y1 y2 y3) (impl_TblCells.l0 (k + 1) y0 y1 y2 y3))
  | 0 => fun _ _ _ _ r h => by simp [impl_TblCells.l0] at h
  | k + 1 => by
    have ih0 := impl_TblCells.mono_l k
    · intro y0 y1 y2 y3
      unfold impl_TblCells.l0
      repeat' first
      | (with_reducible exact ih0 _ _ _ _)
      | (with_reducible exact LeO.refl _)
      | (with_reducible exact LeO.none _)
      | (with_reducible refine LeO.ite ?_ ?_)
      | (with_reducible refine LeO.bind ?_ (fun _ => ?_))
      | exact ih0 _ _ _ _
      | exact LeO.none _
      | refine LeO.ite ?_ ?_
      | refine LeO.bind ?_ (fun _ => ?_)
theorem impl_TblCells.mono : ∀ a0 a1 a2 a3 a4 k, LeO (impl_TblCells.f k a0 a1 a2 a3 a4) (impl_TblCells.f (k + 1) a0 a1 a2 a3 a4) := by
  intro a0 a1 a2 a3 a4 k
  have ih0 := impl_TblCells.mono_l k
  unfold impl_TblCells.f
  repeat' first
      | (with_reducible exact ih0 _ _ _ _)
      | (with_reducible exact LeO.refl _)
      | (with_reducible exact LeO.none _)
      | (with_reducible refine LeO.ite ?_ ?_)
      | (with_reducible refine LeO.bind ?_ (fun _ => ?_))
      | exact ih0 _ _ _ _
      | exact LeO.none _
      | refine LeO.ite ?_ ?_
      | refine LeO.bind ?_ (fun _ => ?_)
set_option maxHeartbeats 8000000 in
set_option maxRecDepth 100000 in
theorem impl_TblCells.calls (k : Nat) (A0_0 : Option Addr) (c0_0 : Nat) (l0_0 : List (S52)) (a0_1 : Int) (a0_2 : Int) (A0_3 : Option Addr) (c0_3 : Nat) (l0_3 : List (S37)) (a0_4 : Int) (r : Int) (w : World) (hr0_0 : Kd.C k52 w A0_0 l0_0.length l0_0) (hc0_0 : l0_0.length ≤ c0_0) (hr0_3 : Kd.C k37 w A0_3 l0_3.length l0_3) (hc0_3 : l0_3.length ≤ c0_3) (h : impl_TblCells.f k l0_0 a0_1 a0_2 l0_3 a0_4 = some r) :
    Calls Tryd.prog 13 #[.agg #[.slice A0_0 l0_0.length c0_0, .int .i64 a0_1, .int .i64 a0_2, .slice A0_3 l0_3.length c0_3, .int .i64 a0_4]] w fun e w' => e = .returned (.int .i64 r) ∧ Below w.heap.size w w' := by
  have hu26 := Tryd.underlying26
  have hu37 := Tryd.underlying37
  have HR0_0 := Aside0.mk hr0_0
  have HC0_0 := Aside0.mk hc0_0
  clear hr0_0 hc0_0
  have HR0_3 := Aside0.mk hr0_3
  have HC0_3 := Aside0.mk hc0_3
  clear hr0_3 hc0_3
  have HB := Aside0.mk (Below.refl w.heap.size w)
  have H : (impl_TblCells.l0 k 0 l0_3 (l0_3.length : Int) 0) = some r := h
  clear h
  have H' := Aside0.mk H
  clear H
  go_enter Tryd.func13, Tryd.ntmps13
  go_wp2_with (first | ((with_reducible refine gate_dst (N := 1) rfl ?_); refine box_event ?hg (N := 1) ?hd (cs := #[.slice A0_0 l0_0.length c0_0, .int .i64 a0_1, .int .i64 a0_2, .slice A0_3 l0_3.length c0_3, .int .i64 a0_4]) (t := 26) ?hr ?_; (case hd => rfl); (case hg => rfl); (case hr => first | (go_simp; done) | (go_simp; rfl)); intro gb391 hg w2 hbox hb; have n0_ := Aside0.mk (below_step (by repeat (first | (with_reducible first | exact HB.out | apply below_alloc | apply pw_below_drewN | apply below_drew1) | exact HB.out)) hb); have n1_ := Aside0.mk (hbox); have n2_ := Aside0.mk ((by rw [hg]; exact (below_size (by repeat (first | (with_reducible first | exact HB.out | apply below_alloc | apply pw_below_drewN | apply below_drew1) | exact HB.out))) : w.heap.size ≤ gb391)); have n3_ := Aside0.mk ((by rw [hg]; exact (below_size (by repeat (first | (with_reducible first | exact HB.out | apply below_alloc | apply pw_below_drewN | apply below_drew1) | exact HB.out))) : w.heap.size ≤ gb391)); clear HB; have HB := n0_; have BK391 := n1_; have GW391 := n2_; have GE391 := n3_; clear n0_ n1_ n2_ n3_; clear hb hbox hg; have hcz3_0 : w2.cell? ⟨gb391, 0, none⟩ = some (.slice A0_0 l0_0.length c0_0) := (blk_cell BK391.out 0).trans rfl; have hcz3_1 : w2.cell? ⟨gb391, 1, none⟩ = some (.int .i64 a0_1) := (blk_cell BK391.out 1).trans rfl; have hcz3_2 : w2.cell? ⟨gb391, 2, none⟩ = some (.int .i64 a0_2) := (blk_cell BK391.out 2).trans rfl; have hcz3_3 : w2.cell? ⟨gb391, 3, none⟩ = some (.slice A0_3 l0_3.length c0_3) := (blk_cell BK391.out 3).trans rfl; have hcz3_4 : w2.cell? ⟨gb391, 4, none⟩ = some (.int .i64 a0_4) := (blk_cell BK391.out 4).trans rfl; have hfz3_0 := blk_frozen BK391.out 0; have hfz3_1 := blk_frozen BK391.out 1; have hfz3_2 := blk_frozen BK391.out 2; have hfz3_3 := blk_frozen BK391.out 3; have hfz3_4 := blk_frozen BK391.out 4))
  go_loopg [3, 9] k (fun kq v3 v9 w' => ∃ (x3_1 : Int) (x9_1 : Int), v3 = .int .i64 x3_1 ∧ v9 = .int .i64 x9_1 ∧ Aside0 (impl_TblCells.l0 kq x3_1 l0_3 (l0_3.length : Int) x9_1 = some r) ∧ Aside0 (kq ≤ k) ∧ Aside0 (w'.heap[gb391]? = some (.cells #[(.slice A0_0 l0_0.length c0_0), .int .i64 a0_1, .int .i64 a0_2, (.slice A0_3 l0_3.length c0_3), .int .i64 a0_4] 26 (0, 0))) ∧ Aside0 (Below w.heap.size w w'))
  case atStart => exact ⟨(0), (0), (by first | rfl | (simp; done) | (simp [*]; done)), (by first | rfl | (simp; done) | (simp [*]; done)), H', ⟨Nat.le_refl _⟩, ⟨by (with_reducible repeat (first | refine blk_drewN ?_ _ | refine blk_drew ?_ | refine blk_alloc ?_ _)); exact BK391.out⟩, ⟨by repeat (first | (with_reducible first | exact HB.out | apply below_alloc | apply pw_below_drewN | apply below_drew1 | refine below_set ?_ GE391.out) | exact HB.out)⟩⟩
  case round =>
    clear H'
    try clear c1
    try clear p2
    try clear hcz3_0
    try clear hcz3_1
    try clear hcz3_2
    try clear hcz3_3
    try clear hcz3_4
    try clear hfz3_0
    try clear hfz3_1
    try clear hfz3_2
    try clear hfz3_3
    try clear hfz3_4
    obtain ⟨x3_1, x9_1, rfl, rfl, HA, HK1, BK391, HB⟩ := hrel
    cases gk with
    | zero => exact absurd HA.out (by simp [impl_TblCells.l0])
    | succ k1 =>
      have H := HA.out
      clear HA
      simp only [impl_TblCells.l0] at H
      by_cases c4 : x9_1 < (l0_3.length : Int)
      · rw [if_pos c4] at H
        have c4b0 : decide (x9_1 < (l0_3.length : Int)) = true := decide_eq_true c4
        clear c4
        by_cases c5 : 0 ≤ x9_1
        · rw [if_pos c5] at H
          have c5b0 : decide (0 ≤ x9_1) = true := decide_eq_true c5
          clear c5
          by_cases c6 : x9_1 < (l0_3.length : Int)
          · rw [if_pos c6] at H
            have c6b0 : decide (x9_1 < (l0_3.length : Int)) = true := decide_eq_true c6
            clear c6
            have H' := Aside0.mk H
            clear H
            have p392 : 0 ≤ (x9_1 : Int) := of_decide_eq_true (by first | (with_reducible assumption) | assumption)
            have q392 : x9_1 < (l0_3.length : Int) := of_decide_eq_true (by first | (with_reducible assumption) | assumption)
            obtain ⟨ad392, A392_0, c392_0, e392, hx392_0, hx392_1, hl392_0, hi392_0⟩ := at_T37 HR0_3.out x9_1 p392 q392
            cases e392
            replace hx392_0 := (HB.out.cell (World.block_lt_of_cell? w _ hx392_0)).trans hx392_0
            replace hx392_1 := (HB.out.cell (World.block_lt_of_cell? w _ hx392_1)).trans hx392_1
            have HR392_0 := Aside0.mk hi392_0
            have HC392_0 := Aside0.mk hl392_0
            clear hi392_0 hl392_0
            replace p392 := eq_true p392
            replace q392 := eq_true q392
            go_wp2_with (first | ((with_reducible refine gate_dst (N := 5) rfl ?_); refine box_event ?hg (N := 5) ?hd (cs := #[.slice none 0 0, .bool false]) (t := 37) ?hr ?_; (case hd => rfl); (case hg => rfl); (case hr => first | (go_simp; done) | (go_simp; rfl)); intro gb393 hg w7 hbox hb; have n0_ := Aside0.mk (blk_below (g := gb391) (o := .cells #[.slice A0_0 l0_0.length c0_0, .int .i64 a0_1, .int .i64 a0_2, .slice (some ad392) l0_3.length c0_3, .int .i64 a0_4] 26 (0, 0)) (by (with_reducible repeat (first | refine blk_drewN ?_ _ | refine blk_drew ?_ | refine blk_alloc ?_ _)); exact BK391.out) hb); have n1_ := Aside0.mk (below_step (by repeat (first | (with_reducible first | exact HB.out | apply below_alloc | apply pw_below_drewN | apply below_drew1 | refine below_set ?_ GE391.out) | exact HB.out)) hb); have n2_ := Aside0.mk (hbox); have n3_ := Aside0.mk ((by rw [hg]; exact (below_size (by repeat (first | (with_reducible first | exact HB.out | apply below_alloc | apply pw_below_drewN | apply below_drew1 | refine below_set ?_ GE391.out) | exact HB.out))) : w.heap.size ≤ gb393)); have n4_ := Aside0.mk ((by rw [hg]; exact (below_size (by repeat (first | (with_reducible first | exact HB.out | apply below_alloc | apply pw_below_drewN | apply below_drew1 | refine below_set ?_ GE391.out) | exact HB.out))) : w.heap.size ≤ gb393)); have n5_ := Aside0.mk ((by rw [hg]; exact Nat.ne_of_lt (blk_lt (g := gb391) (o := .cells #[.slice A0_0 l0_0.length c0_0, .int .i64 a0_1, .int .i64 a0_2, .slice (some ad392) l0_3.length c0_3, .int .i64 a0_4] 26 (0, 0)) (by (with_reducible repeat (first | refine blk_drewN ?_ _ | refine blk_drew ?_ | refine blk_alloc ?_ _)); exact BK391.out)) : gb391 ≠ gb393)); have n6_ := Aside0.mk ((by rw [hg]; exact Nat.ne_of_gt (blk_lt (g := gb391) (o := .cells #[.slice A0_0 l0_0.length c0_0, .int .i64 a0_1, .int .i64 a0_2, .slice (some ad392) l0_3.length c0_3, .int .i64 a0_4] 26 (0, 0)) (by (with_reducible repeat (first | refine blk_drewN ?_ _ | refine blk_drew ?_ | refine blk_alloc ?_ _)); exact BK391.out)) : gb393 ≠ gb391)); clear BK391; clear HB; have BK391 := n0_; have HB := n1_; have BK393 := n2_; have GW393 := n3_; have GE393 := n4_; have NB391_393 := n5_; have NB393_391 := n6_; clear n0_ n1_ n2_ n3_ n4_ n5_ n6_; clear hb hbox hg; have hnb8 := NB393_391.out; have hnc8 := NB391_393.out; have hcz9_0 : w7.cell? ⟨gb393, 0, none⟩ = some (.slice none 0 0) := (blk_cell BK393.out 0).trans rfl; have hcz9_1 : w7.cell? ⟨gb393, 1, none⟩ = some (.bool false) := (blk_cell BK393.out 1).trans rfl; have hfz9_0 := blk_frozen BK393.out 0; have hfz9_1 := blk_frozen BK393.out 1))
            go_roundg k1
            case measure => have := HK1.out; omega
            case rel => exact ⟨(wrap64 (x3_1 + (((rd_T37 l0_3 x9_1).f0).length : Int))), (wrap64 (x9_1 + 1)), (by first | rfl | (simp; done) | (simp [*]; done)), (by first | rfl | (simp; done) | (simp [*]; done)), H', ⟨by have := HK1.out; omega⟩, ⟨by (with_reducible repeat (first | refine blk_drewN ?_ _ | refine blk_drew ?_ | refine blk_alloc ?_ _)); refine blk_far ?_ NB391_393.out _; (with_reducible repeat (first | refine blk_drewN ?_ _ | refine blk_drew ?_ | refine blk_alloc ?_ _)); refine blk_far ?_ NB391_393.out _; (with_reducible repeat (first | refine blk_drewN ?_ _ | refine blk_drew ?_ | refine blk_alloc ?_ _)); exact BK391.out⟩, ⟨by repeat (first | (with_reducible first | exact HB.out | apply below_alloc | apply pw_below_drewN | apply below_drew1 | refine below_set ?_ GE391.out | refine below_set ?_ GE393.out) | exact HB.out)⟩⟩
          · rw [if_neg c6] at H
            exact absurd H (by simp)
        · rw [if_neg c5] at H
          exact absurd H (by simp)
      · rw [if_neg c4] at H
        have c4b0 : decide (x9_1 < (l0_3.length : Int)) = false := decide_eq_false c4
        clear c4
        obtain rfl := Option.some.inj H
        go_wp2
        go_ret
        exact ⟨by first | rfl | (simp [IntKind.wrap_i64, wrap64]; done) | (simp [errW_none, errW_some] <;> rfl) | (simp [*, errW_none, errW_some] <;> rfl), by repeat (first | (with_reducible first | exact HB.out | apply below_alloc | apply pw_below_drewN | apply below_drew1 | refine below_set ?_ GE391.out) | exact HB.out)⟩

-- NOT PRINTED: function 3 (laws_FnEdtRow)

/-! ### impl_EdtRow: function 5 (by hand) -/
def impl_EdtRow.f (k : Nat) (l0_0 : List S52) (a0_1 : Int) (a0_2 : Int) (l0_3 : List S37) (a0_4 : Int) (a1 : Int) : Option (List S52 × Int × Int × List S37 × Int × Bool) :=
  (impl_TblOk.f k l0_0 a0_1 a0_2 l0_3 a0_4).bind fun b => if b = true then (impl_TblTable_copied.f k l0_0 a0_1 a0_2 l0_3 a0_4).bind fun c => if 0 ≤ c.2.1 ∧ 0 ≤ c.2.2.1 ∧ c.2.2.1 ≤ (c.2.2.2.1.length : Int) ∧ c.2.2.2.1.length < 1000000 then some (c.1, c.2.1, c.2.2.1, if decide (rowP c.2.1 c.2.2.1 c.2.2.2.1 a1) = true then rowRows c.2.2.2.1 a1 else c.2.2.2.1, c.2.2.2.2, decide (rowP c.2.1 c.2.2.1 c.2.2.2.1 a1)) else none else some ([], 0, 0, [], 0, false)
theorem impl_EdtRow.mono : ∀ a0 a1 a2 a3 a4 b0 k, LeO (impl_EdtRow.f k a0 a1 a2 a3 a4 b0) (impl_EdtRow.f (k + 1) a0 a1 a2 a3 a4 b0) := fun _ _ _ _ _ _ _ => by
  unfold impl_EdtRow.f
  exact LeO.bind (impl_TblOk.mono _ _ _ _ _ _) fun _ => LeO.ite (LeO.bind (impl_TblTable_copied.mono _ _ _ _ _ _) fun _ => LeO.refl _) (LeO.refl _)
theorem impl_EdtRow.blk (w : World) (o1 o2 o3 : Obj) : (((w.alloc o1).alloc o2).alloc o3).heap[w.heap.size]? = some o1 ∧ (((w.alloc o1).alloc o2).alloc o3).heap[w.heap.size + 1]? = some o2 ∧ (((w.alloc o1).alloc o2).alloc o3).heap[w.heap.size + 2]? = some o3 := by
  have s1 : (w.alloc o1).heap.size = w.heap.size + 1 := by simp
  have s2 : ((w.alloc o1).alloc o2).heap.size = w.heap.size + 2 := by simp
  refine ⟨blk_alloc (blk_alloc (blk_new w o1) _) _, ?_, ?_⟩
  · rw [← s1]; exact blk_alloc (blk_new _ o2) _
  · rw [← s2]; exact blk_new _ o3
theorem impl_EdtRow.parts {k : Nat} {l0_0 : List S52} {a0_1 a0_2 : Int} {l0_3 : List S37} {a0_4 : Int} {a1 : Int} {c1 : List S52} {h1 f1 : Int} {r4 : List S37} {g1 : Int} {q : Bool} (h : impl_EdtRow.f k l0_0 a0_1 a0_2 l0_3 a0_4 a1 = some (c1, h1, f1, r4, g1, q)) :
    ∃ b r1, impl_TblOk.f k l0_0 a0_1 a0_2 l0_3 a0_4 = some b ∧ (b = false → q = false ∧ c1 = [] ∧ h1 = 0 ∧ f1 = 0 ∧ r4 = [] ∧ g1 = 0) ∧ (b = true → impl_TblTable_copied.f k l0_0 a0_1 a0_2 l0_3 a0_4 = some (c1, h1, f1, r1, g1) ∧ (0 ≤ h1 ∧ 0 ≤ f1 ∧ f1 ≤ (r1.length : Int) ∧ r1.length < 1000000) ∧ decide (rowP h1 f1 r1 a1) = q ∧ r4 = if q = true then rowRows r1 a1 else r1) := by
  unfold impl_EdtRow.f at h
  obtain ⟨b, e1, h⟩ := Option.bind_eq_some_iff.1 h
  cases b
  · rw [if_neg (by decide)] at h
    simp only [Option.some.injEq, Prod.mk.injEq] at h
    obtain ⟨rfl, rfl, rfl, rfl, rfl, rfl⟩ := h
    exact ⟨false, [], e1, fun _ => ⟨rfl, rfl, rfl, rfl, rfl, rfl⟩, (fun e => by cases e)⟩
  · rw [if_pos rfl] at h
    obtain ⟨⟨x1, x2, x3, x4, x5⟩, e2, h⟩ := Option.bind_eq_some_iff.1 h
    split at h
    · rename_i hg
      simp only [Option.some.injEq, Prod.mk.injEq] at h
      obtain ⟨rfl, rfl, rfl, h4, rfl, hq⟩ := h
      exact ⟨true, x4, e1, (fun e => by cases e), fun _ => ⟨e2, hg, hq, by rw [← h4, ← hq]⟩⟩
    · cases h
set_option maxHeartbeats 4000000 in
set_option maxRecDepth 100000 in
theorem impl_EdtRow.calls (k : Nat) (A0_0 : Option Addr) (c0_0 : Nat) (l0_0 : List S52) (a0_1 : Int) (a0_2 : Int) (A0_3 : Option Addr) (c0_3 : Nat) (l0_3 : List S37) (a0_4 : Int) (a1 : Int) (r1 : List S52) (r2 : Int) (r3 : Int) (r4 : List S37) (r5 : Int) (r6 : Bool) (w : World) (hr0_0 : Kd.C k52 w A0_0 l0_0.length l0_0) (hc0_0 : l0_0.length ≤ c0_0) (hr0_3 : Kd.C k37 w A0_3 l0_3.length l0_3) (hc0_3 : l0_3.length ≤ c0_3) (hM : Txt.MLen w) (h : impl_EdtRow.f k l0_0 a0_1 a0_2 l0_3 a0_4 a1 = some (r1, r2, r3, r4, r5, r6)) :
    Calls Tryd.prog 5 #[.agg #[.slice A0_0 l0_0.length c0_0, .int .i64 a0_1, .int .i64 a0_2, .slice A0_3 l0_3.length c0_3, .int .i64 a0_4], .int .i64 a1] w fun e w' => ∃ v0_ v3_ : Value, e = .returned (.tuple #[.agg #[v0_, .int .i64 r2, .int .i64 r3, v3_, .int .i64 r5], .bool r6]) ∧ Kd.R k52 52 w' w.heap.size (fun _ => True) v0_ r1 ∧ Kd.S k37 37 w' w.heap.size (fun _ => True) v3_ r4 ∧ Below w.heap.size w w' := by
  have HM := Aside0.mk hM
  have HR0 := Aside0.mk hr0_0
  have HC0 := Aside0.mk hc0_0
  have HR3 := Aside0.mk hr0_3
  have HC3 := Aside0.mk hc0_3
  clear hM hr0_0 hc0_0 hr0_3 hc0_3
  obtain ⟨b, rr, e1, e2, e3⟩ := impl_EdtRow.parts h
  have E1 := Aside0.mk e1
  have E2 := Aside0.mk e2
  have E3 := Aside0.mk e3
  clear h e1 e2 e3
  go_enter Tryd.func5, Tryd.ntmps5
  go_upto_region 1 with (fail)
  have h3 := impl_EdtRow.blk w (.cells (l3A (.slice A0_0 l0_0.length c0_0) (.slice A0_3 l0_3.length c0_3) a0_1 a0_2 a0_4) 26) (.cells #[.int .i64 a1] 3) (.cells (l3A (.slice none 0 0) (.slice none 0 0) 0 0 0) 26)
  have hB0 : Below w.heap.size w (((w.alloc (.cells (l3A (.slice A0_0 l0_0.length c0_0) (.slice A0_3 l0_3.length c0_3) a0_1 a0_2 a0_4) 26)).alloc (.cells #[.int .i64 a1] 3)).alloc (.cells (l3A (.slice none 0 0) (.slice none 0 0) 0 0 0) 26)) := below_alloc (below_alloc (below_alloc (Below.refl _ _) _) _) _
  refine wp_letter (fun W0 => (W0.heap[w.heap.size]? = some (.cells (l3A (.slice A0_0 l0_0.length c0_0) (.slice A0_3 l0_3.length c0_3) a0_1 a0_2 a0_4) 26 (0, 0)) ∧ W0.heap[w.heap.size + 1]? = some (.cells #[.int .i64 a1] 3 (0, 0)) ∧ W0.heap[w.heap.size + 2]? = some (.cells (l3A (.slice none 0 0) (.slice none 0 0) 0 0 0) 26 (0, 0))) ∧ Below w.heap.size w W0) ⟨h3, hB0⟩ ?_
  rintro W1 ⟨⟨hP, hb1, hZ⟩, hB⟩
  clear h3 hB0
  have HP := Aside0.mk hP
  have HZB := Aside0.mk hZ
  have HB := Aside0.mk hB
  have HED := Aside0.mk (edited_calls k A0_0 c0_0 l0_0 a0_1 a0_2 A0_3 c0_3 l0_3 a0_4 18 #[.pointer (some ⟨w.heap.size + 1, 0, none⟩)] (enters_of Tryd.func18 (by kernel_rfl) rfl) b r1 r2 r3 rr r5 r1 r2 r3 r4 r5 r6 W1 (Kd.C_below HR0.out hB) HC0.out (Kd.C_below HR3.out hB) HC3.out (Txt.MLen_below HM.out hB) E1.out (fun e => E2.out e) (fun e => by
      obtain ⟨z1, z2, z3, z4⟩ := E3.out e
      refine ⟨z1, ?_⟩
      rw [z4]
      exact clo_Row a1 _ r1 r2 r3 rr r5 r6 W1 ((blk_cell hb1 0).trans rfl) z3 z2))
  clear hP hb1 hZ hB E1 E2 E3 HR0 HC0 HR3 HC3 HM
  go_wp2_with (first | (refine wpList_load_row rfl 26 _ rfl w.heap.size rfl 26 (l3A (.slice A0_0 l0_0.length c0_0) (.slice A0_3 l0_3.length c0_3) a0_1 a0_2 a0_4) (0, 0) _ HP.out Tryd.underlying26 rfl (by kernel_rfl) ?_) | (go_at_call 17; refine HED.out.mono ?_; rintro e_ W5 ⟨vc', vr', rfl, hrc, hsr, hb⟩; obtain ⟨Ad, cd, rfl⟩ := Kd.R_slice hrc; obtain ⟨Ae, ce, rfl⟩ := Kd.R_slice (Kd.S_R hsr); have HRC := Aside0.mk (Kd.R_lower hrc HB.out.size); have HSR := Aside0.mk (Kd.S_lower hsr HB.out.size); have HB5 := Aside0.mk (below_step HB.out hb); have HZ5 := Aside0.mk (blk_below HZB.out hb); clear hrc hsr hb) | (refine wpList_put 26 _ _ rfl rfl (w.heap.size + 2) 0 rfl (.agg (l3A (.slice Ad r1.length cd) (.slice Ae r4.length ce) r2 r3 r5)) rfl 26 (l3A (.slice none 0 0) (.slice none 0 0) 0 0 0) (l3A (.slice Ad r1.length cd) (.slice Ae r4.length ce) r2 r3 r5) HZ5.out (by kernel_rfl) rfl rfl rfl (fun W9 hp => ?_); have HFB := Aside0.mk hp.blk; have HF := Aside0.mk (pw_below_grown HB5.out _ (by have := blk_lt HZ5.out; omega) hp.grown (fun k hk => by injection hk with hk; omega)); have HFR := Aside0.mk (R_put HRC.out HZ5.out hp (by decide)); have HFS := Aside0.mk (S_put HSR.out HZ5.out hp (by decide)); clear hp))
  exact bodyPost_ret (results_ct rfl _ _ (w.heap.size + 2) 26 (l3A (.slice Ad r1.length cd) (.slice Ae r4.length ce) r2 r3 r5) (0, 0) _ rfl HFB.out Tryd.underlying26 rfl (by kernel_rfl)) rfl ⟨_, _, rfl, HFR.out, HFS.out, HF.out⟩

/-! ### spec_EdtRow: function 6 (by hand) -/
-- imports: Derived.Deep.AppendSrc Derived.Laws.NewBlocks
def spec_EdtRow.f (k : Nat) (l0_0 : List S52) (a0_1 : Int) (a0_2 : Int) (l0_3 : List S37) (a0_4 : Int) (a1 : Int) : Option (List S52 × Int × Int × List S37 × Int × Bool) :=
  (spec_TblOk.f k l0_0 a0_1 a0_2 l0_3 a0_4).bind fun b => if b = true then (spec_l2Copy.f k l0_0 a0_1 a0_2 l0_3 a0_4).bind fun c => if 0 ≤ a0_1 ∧ 0 ≤ a0_2 ∧ a0_2 ≤ (l0_3.length : Int) ∧ l0_3.length < 1000000 ∧ 0 < l0_3.length ∧ c.2.2.2.1.length = l0_3.length then (if rowP a0_1 a0_2 l0_3 a1 then some (c.1, c.2.1, c.2.2.1, rowRows c.2.2.2.1 a1, c.2.2.2.2, true) else some (c.1, c.2.1, c.2.2.1, c.2.2.2.1, c.2.2.2.2, false)) else none else some ([], 0, 0, [], 0, false)
theorem spec_EdtRow.mono : ∀ a0 a1 a2 a3 a4 a5 k, LeO (spec_EdtRow.f k a0 a1 a2 a3 a4 a5) (spec_EdtRow.f (k + 1) a0 a1 a2 a3 a4 a5) := fun _ _ _ _ _ _ _ => by
  unfold spec_EdtRow.f
  exact LeO.bind (spec_TblOk.mono _ _ _ _ _ _) fun _ => LeO.ite (LeO.bind (spec_l2Copy.mono _ _ _ _ _ _) fun _ => LeO.refl _) (LeO.refl _)
theorem spec_EdtRow.parts {k : Nat} {l0_0 : List S52} {a0_1 a0_2 : Int} {l0_3 : List S37} {a0_4 a1 : Int} {c1 : List S52} {h1 f1 : Int} {r4 : List S37} {g1 : Int} {q : Bool} (h : spec_EdtRow.f k l0_0 a0_1 a0_2 l0_3 a0_4 a1 = some (c1, h1, f1, r4, g1, q)) :
    ∃ b r1, Aside0 (spec_TblOk.f k l0_0 a0_1 a0_2 l0_3 a0_4 = some b) ∧ ((b = false ∧ q = false ∧ r4 = [] ∧ c1 = [] ∧ h1 = 0 ∧ f1 = 0 ∧ g1 = 0) ∨ (b = true ∧ Aside0 (spec_l2Copy.f k l0_0 a0_1 a0_2 l0_3 a0_4 = some (c1, h1, f1, r1, g1)) ∧ (0 ≤ a0_1 ∧ 0 ≤ a0_2 ∧ a0_2 ≤ (l0_3.length : Int) ∧ l0_3.length < 1000000 ∧ 0 < l0_3.length ∧ r1.length = l0_3.length) ∧ ((¬ rowP a0_1 a0_2 l0_3 a1 ∧ r4 = r1 ∧ q = false) ∨ (rowP a0_1 a0_2 l0_3 a1 ∧ r4 = rowRows r1 a1 ∧ q = true)))) := by
  unfold spec_EdtRow.f at h
  obtain ⟨b, e1, h⟩ := Option.bind_eq_some_iff.1 h
  cases b
  · rw [if_neg (by decide)] at h
    simp only [Option.some.injEq, Prod.mk.injEq] at h
    obtain ⟨rfl, rfl, rfl, rfl, rfl, rfl⟩ := h
    exact ⟨false, [], ⟨e1⟩, .inl ⟨rfl, rfl, rfl, rfl, rfl, rfl, rfl⟩⟩
  · rw [if_pos rfl] at h
    obtain ⟨⟨x1, x2, x3, x4, x5⟩, e2, h⟩ := Option.bind_eq_some_iff.1 h
    split at h
    · rename_i hg
      split at h
      · rename_i hy
        simp only [Option.some.injEq, Prod.mk.injEq] at h
        obtain ⟨rfl, rfl, rfl, rfl, rfl, rfl⟩ := h
        exact ⟨true, x4, ⟨e1⟩, .inr ⟨rfl, ⟨e2⟩, hg, .inr ⟨hy, rfl, rfl⟩⟩⟩
      · rename_i hy
        simp only [Option.some.injEq, Prod.mk.injEq] at h
        obtain ⟨rfl, rfl, rfl, rfl, rfl, rfl⟩ := h
        exact ⟨true, x4, ⟨e1⟩, .inr ⟨rfl, ⟨e2⟩, hg, .inl ⟨hy, rfl, rfl⟩⟩⟩
    · cases h
theorem spec_EdtRow.in_dec (x c d : Int) : spec_l1In.f x c d = some (decide (c ≤ x ∧ x ≤ d)) := by
  unfold spec_l1In.f
  split
  · congr 1; exact decide_eq_decide.2 (by omega)
  · congr 1; symm; exact decide_eq_false (by omega)
/-- What stands behind the copying. -/
structure spec_EdtRow.E5 (w : World) (pa : Array Value) (B : Nat) (Ac Ar : Option Addr) (cc cr : Nat) (c1 : List S52) (h1 f1 : Int) (r1 : List S37) (g1 : Int) (W : World) : Prop where
  e : E3 w pa W
  xb : W.heap[B]? = some (.cells (l3A (.slice Ac c1.length cc) (.slice Ar r1.length cr) h1 f1 g1) 26 (0, 0))
  rc : Kd.R k52 52 W w.heap.size (fun _ => True) (.slice Ac c1.length cc) c1
  sr : Kd.S k37 37 W w.heap.size (fun _ => True) (.slice Ar r1.length cr) r1
  lt : w.heap.size + 2 ≤ B
theorem spec_EdtRow.E5.below {w W W' : World} {pa : Array Value} {B : Nat} {Ac Ar : Option Addr} {cc cr : Nat} {c1 : List S52} {h1 f1 : Int} {r1 : List S37} {g1 : Int} (h : spec_EdtRow.E5 w pa B Ac Ar cc cr c1 h1 f1 r1 g1 W) (hb : Below W.heap.size W W') : spec_EdtRow.E5 w pa B Ac Ar cc cr c1 h1 f1 r1 g1 W' := ⟨h.e.below hb, blk_below h.xb hb, Kd.R_below h.rc hb, Kd.S_below h.sr hb, h.lt⟩
def spec_EdtRow.T7 : Bool × List (List Nat × List Nat) := (true, [([], []), ([], []), ([1], [1]), ([], []), ([2, 3], [2, 3]), ([0, 4], [0, 4]), ([], []), ([6], [6]), ([5, 7, 5], [5, 7]), ([], []), ([9], [9]), ([], []), ([10, 11], [10, 11]), ([8, 12, 8], [8, 12]), ([0, 1, 2, 3, 4, 5, 6, 7, 8, 9, 10, 11, 12, 13], []), ([14, 13, 13, 0, 1, 2, 3, 4, 5, 6, 7, 8, 9, 10, 11, 12, 13], [13, 14])])
def spec_EdtRow.B7 : List Nat := [0, 0, 2, 0, 14, 31, 0, 64, 255, 0, 512, 0, 3584, 8191, 16383, 32767]
def spec_EdtRow.L7 : List (Nat × Tmp) := [(0, 34), (1, 35), (2, 36), (3, 37), (4, 38), (5, 39), (6, 40), (7, 41), (8, 42), (9, 43), (10, 44), (11, 45), (12, 46), (13, 47), (14, 48)]
def spec_EdtRow.O7 : List Nat := [0, 1, 2, 3, 4, 5, 6, 7, 8, 9, 10, 11, 12, 13, 14, 15]
theorem spec_EdtRow.tab7 : rtab .any (opsOf Tryd.f6 7) = spec_EdtRow.T7 := by kernel_rfl
theorem spec_EdtRow.bits7 : waitsOk spec_EdtRow.T7.2 spec_EdtRow.B7 = true := by kernel_rfl
theorem spec_EdtRow.base7 : baseOk spec_EdtRow.T7.2 spec_EdtRow.O7 = true := by kernel_rfl
theorem spec_EdtRow.lof7 : (lof spec_EdtRow.T7.2.length spec_EdtRow.O7 (fun _ => false) == List.replicate spec_EdtRow.T7.2.length false && spec_EdtRow.O7.length == spec_EdtRow.T7.2.length) = true := by kernel_rfl
theorem spec_EdtRow.ents7 : chkL (opsOf Tryd.f6 7) spec_EdtRow.O7 spec_EdtRow.L7 = true := by kernel_rfl
theorem spec_EdtRow.last7 : lastOk spec_EdtRow.B7 spec_EdtRow.O7 15 = true := by kernel_rfl
/-- What is known of the values of the region that makes the rows. -/
def spec_EdtRow.P7 (base at_ m : Nat) (X : List (List Value)) (Z : List Value) (Y : List (List Value)) (V : Nat → Value) : Nat → Value → World → Prop
  | 0, v, W => ∃ g cur, v = .slice (some ⟨g, 0, none⟩) 0 0 ∧ RawB 2 37 base W g 0 0 cur []
  | 5, v, W => ∃ g cap cur, v = .slice (some ⟨g, 0, none⟩) at_ cap ∧ RawB 2 37 base W g at_ cap cur X ∧ (at_ = 0 → cap = 0)
  | 7, v, W => ∃ g cur, v = .slice (some ⟨g, 0, none⟩) 1 1 ∧ RawB 2 37 base W g 1 1 cur [Z]
  | 8, v, W => ∃ g cap cur, v = .slice (some ⟨g, 0, none⟩) (at_ + 1) cap ∧ RawB 2 37 base W g (at_ + 1) cap cur (X ++ [Z])
  | 13, v, W => ∃ g cap cur, v = .slice (some ⟨g, 0, none⟩) (at_ + 1 + m) cap ∧ RawB 2 37 base W g (at_ + 1 + m) cap cur (X ++ [Z] ++ Y)
  | j, v, _ => v = V j
def spec_EdtRow.V7 (B Yb at_ n m cx cy : Nat) (ax : Addr) (yA : Option Addr) (ay : Addr) : Nat → Value
  | 1 | 14 => .pointer (some ⟨B, 3, none⟩)
  | 2 => .slice (some ax) n cx
  | 3 | 11 => .int .i64 (at_ : Int)
  | 4 => .slice (some ax) at_ cx
  | 6 => .agg #[.slice none 0 0, .bool false]
  | 9 => .pointer (some ⟨Yb, 3, none⟩)
  | 10 => .slice (some ay) n cy
  | 12 => .slice yA m (cy - at_)
  | _ => undef
theorem spec_EdtRow.keep7 {base at_ m N : Nat} {X : List (List Value)} {Z : List Value} {Y : List (List Value)} {V : Nat → Value} {C : List Nat} (h8 : at_ + 1 ≤ N ∨ (8 ∈ C ∧ at_ ≤ N ∧ 1 ≤ N)) (h13 : 13 ∈ C) : ∀ (j : Nat) (v : Value) (W W' : World), j ∉ C → spec_EdtRow.P7 base at_ m X Z Y V j v W → StN 2 37 base N W W' → spec_EdtRow.P7 base at_ m X Z Y V j v W' := by
  intro j v W W' hj h hs
  unfold spec_EdtRow.P7 at h ⊢
  split at h
  · obtain ⟨g, cur, e, hB⟩ := h
    obtain ⟨c2, hB2⟩ := hs _ _ _ _ _ hB (Nat.zero_le _)
    exact ⟨g, c2, e, hB2⟩
  · obtain ⟨g, cap, cur, e, hB, hz⟩ := h
    obtain ⟨c2, hB2⟩ := hs _ _ _ _ _ hB (by omega)
    exact ⟨g, cap, c2, e, hB2, hz⟩
  · obtain ⟨g, cur, e, hB⟩ := h
    obtain ⟨c2, hB2⟩ := hs _ _ _ _ _ hB (by omega)
    exact ⟨g, c2, e, hB2⟩
  · obtain ⟨g, cap, cur, e, hB⟩ := h
    rcases h8 with h8 | ⟨h8, _⟩
    · obtain ⟨c2, hB2⟩ := hs _ _ _ _ _ hB h8
      exact ⟨g, cap, c2, e, hB2⟩
    · exact absurd h8 hj
  · exact absurd h13 hj
  · exact h
set_option maxHeartbeats 4000000 in
set_option maxRecDepth 100000 in
theorem spec_EdtRow.calls (k : Nat) (A0_0 : Option Addr) (c0_0 : Nat) (l0_0 : List S52) (a0_1 : Int) (a0_2 : Int) (A0_3 : Option Addr) (c0_3 : Nat) (l0_3 : List S37) (a0_4 : Int) (a1 : Int) (r1 : List S52) (r2 : Int) (r3 : Int) (r4 : List S37) (r5 : Int) (r6 : Bool) (w : World) (hr0_0 : Kd.C k52 w A0_0 l0_0.length l0_0) (hc0_0 : l0_0.length ≤ c0_0) (hr0_3 : Kd.C k37 w A0_3 l0_3.length l0_3) (hc0_3 : l0_3.length ≤ c0_3) (h : spec_EdtRow.f k l0_0 a0_1 a0_2 l0_3 a0_4 a1 = some (r1, r2, r3, r4, r5, r6)) :
    Calls Tryd.prog 6 #[.agg #[.slice A0_0 l0_0.length c0_0, .int .i64 a0_1, .int .i64 a0_2, .slice A0_3 l0_3.length c0_3, .int .i64 a0_4], .int .i64 a1] w fun e w' => ∃ v0_ v3_ : Value, e = .returned (.tuple #[.agg #[v0_, .int .i64 r2, .int .i64 r3, v3_, .int .i64 r5], .bool r6]) ∧ Kd.R k52 52 w' w.heap.size (fun _ => True) v0_ r1 ∧ (∃ (A : Option Addr) (c : Nat), v3_ = .slice A r4.length c ∧ r4.length ≤ c ∧ Kd.C k37 w' A r4.length r4) ∧ Below w.heap.size w w' := by
  have HR0 := Aside0.mk hr0_0
  have HC0 := Aside0.mk hc0_0
  have HR3 := Aside0.mk hr0_3
  have HC3 := Aside0.mk hc0_3
  clear hr0_0 hc0_0 hr0_3 hc0_3
  obtain ⟨b, rr, E1, hs⟩ := spec_EdtRow.parts h
  have HS := Aside0.mk hs
  clear h hs
  have hu := Tryd.underlying26
  go_enter Tryd.func6, Tryd.ntmps6
  go_upto_region 1 with (fail)
  refine wp_letter (fun W0 => E3 w (l3A (.slice A0_0 l0_0.length c0_0) (.slice A0_3 l0_3.length c0_3) a0_1 a0_2 a0_4) W0) ⟨below_alloc (below_alloc (Below.refl _ _) _) _, blk_alloc (blk_new w _) _, by have := blk_new2 w (.cells (l3A (.slice A0_0 l0_0.length c0_0) (.slice A0_3 l0_3.length c0_3) a0_1 a0_2 a0_4) 26) (.cells (l3A (.slice none 0 0) (.slice none 0 0) 0 0 0) 26); exact this⟩ ?_
  rintro W1 hQ
  have HQ := Aside0.mk hQ
  clear hQ
  rcases HS.out with ⟨rfl, rfl, rfl, rfl, rfl, rfl, rfl⟩ | ⟨rfl, E2, hg, hs⟩
  · clear HS
    go_wp2_with (first | (refine wpList_load_row rfl 26 _ rfl w.heap.size rfl 26 (l3A (.slice A0_0 l0_0.length c0_0) (.slice A0_3 l0_3.length c0_3) a0_1 a0_2 a0_4) (0, 0) _ HQ.out.pb Tryd.underlying26 rfl (by kernel_rfl) ?_) | (go_at_call 8; (with_reducible refine (spec_TblOk.calls k A0_0 c0_0 l0_0 a0_1 a0_2 A0_3 c0_3 l0_3 a0_4 false _ (Kd.C_below HR0.out HQ.out.bl) HC0.out (Kd.C_below HR3.out HQ.out.bl) HC3.out E1.out).mono ?_); rintro e_ W2 ⟨rfl, hb⟩; replace HQ := Aside0.mk (HQ.out.below hb); clear hb) | (refine wpList_put 26 _ _ rfl rfl (w.heap.size + 1) 0 rfl (.agg (l3A (.slice none 0 0) (.slice none 0 0) 0 0 0)) rfl 26 (l3A (.slice none 0 0) (.slice none 0 0) 0 0 0) (l3A (.slice none 0 0) (.slice none 0 0) 0 0 0) HQ.out.zb (by kernel_rfl) rfl rfl rfl (fun W9 hp => ?_); have HFB := Aside0.mk hp.blk; have HF := Aside0.mk (pw_below_grown HQ.out.bl _ (Nat.le_trans (Nat.le_add_right _ 2) HQ.out.size) hp.grown (fun k hk => by injection hk with hk; omega)); clear hp))
    exact bodyPost_ret (results_ct rfl _ _ (w.heap.size + 1) 26 (l3A (.slice none 0 0) (.slice none 0 0) 0 0 0) (0, 0) _ rfl HFB.out Tryd.underlying26 rfl (by kernel_rfl)) rfl ⟨_, _, rfl, Kd.R_nil _ _ _ _ _, ⟨none, 0, rfl, Nat.le_refl _, (Kd.R_reads' (Kd.R_nil k37 37 W9 0 (fun _ => True))).2.2⟩, HF.out⟩
  obtain ⟨hg1, hg2, hg3, hg4, hg5, hg6⟩ := hg
  have HG := Aside0.mk (And.intro hg4 (And.intro hg5 hg6))
  have w1 : wrap64 ((l0_3.length : Int) - a0_2) = (l0_3.length : Int) - a0_2 := by unfold wrap64; omega
  have HG2 := Aside0.mk (And.intro hg1 (And.intro hg2 hg3))
  have HS2 := Aside0.mk hs
  clear HS hs hg1 hg2 hg3 hg4 hg5 hg6
  go_upto_region 4 with (first | (refine wpList_load_row rfl 26 _ rfl w.heap.size rfl 26 (l3A (.slice A0_0 l0_0.length c0_0) (.slice A0_3 l0_3.length c0_3) a0_1 a0_2 a0_4) (0, 0) _ HQ.out.pb Tryd.underlying26 rfl (by kernel_rfl) ?_) | (go_at_call 8; (with_reducible refine (spec_TblOk.calls k A0_0 c0_0 l0_0 a0_1 a0_2 A0_3 c0_3 l0_3 a0_4 true _ (Kd.C_below HR0.out HQ.out.bl) HC0.out (Kd.C_below HR3.out HQ.out.bl) HC3.out E1.out).mono ?_); rintro e_ W2 ⟨rfl, hb⟩; replace HQ := Aside0.mk (HQ.out.below hb); clear hb) | (go_at_call 21; (with_reducible refine (spec_l2Copy.calls k A0_0 c0_0 l0_0 a0_1 a0_2 A0_3 c0_3 l0_3 a0_4 r1 r2 r3 rr r5 _ (Kd.C_below HR0.out HQ.out.bl) HC0.out (Kd.C_below HR3.out HQ.out.bl) HC3.out E2.out).mono ?_); rintro e_ W3 ⟨vc, vr, rfl, hrc, hsr, hb⟩; obtain ⟨Ac, cc, rfl⟩ := Kd.R_slice hrc; obtain ⟨Ar, cr, rfl⟩ := Kd.R_slice (Kd.S_R hsr); have HRC := Aside0.mk (Kd.R_lower hrc (Nat.le_trans (Nat.le_add_right _ 2) HQ.out.size)); have HSR := Aside0.mk (Kd.S_lower hsr (Nat.le_trans (Nat.le_add_right _ 2) HQ.out.size)); replace HQ := Aside0.mk (HQ.out.below hb); clear hb hrc hsr) | (show wpList _ _ _ _ _ (World.alloc W3 _); have hz0 := blk_new W3 (.cells (l3A (.slice none 0 0) (.slice none 0 0) 0 0 0) 26); refine wpList_put 26 _ _ rfl rfl W3.heap.size 0 rfl (.agg (l3A (.slice Ac r1.length cc) (.slice Ar rr.length cr) r2 r3 r5)) rfl 26 (l3A (.slice none 0 0) (.slice none 0 0) 0 0 0) (l3A (.slice Ac r1.length cc) (.slice Ar rr.length cr) r2 r3 r5) hz0 (by kernel_rfl) rfl rfl rfl (fun W9 hp => ?_); have HFB := Aside0.mk hp.blk; have hbl := pw_below_grown (below_alloc (Below.refl W3.heap.size W3) _) _ (by simp) hp.grown (fun k hk => by injection hk with hk; omega); have HE := Aside0.mk (HQ.out.below hbl); have HFR := Aside0.mk (R_put (Kd.R_alloc HRC.out _) hz0 hp (by decide)); have HFS := Aside0.mk (S_put (Kd.S_alloc HSR.out _) hz0 hp (by decide)); clear hp hz0 hbl))
  refine wp_letter (fun W0 => spec_EdtRow.E5 w (l3A (.slice A0_0 l0_0.length c0_0) (.slice A0_3 l0_3.length c0_3) a0_1 a0_2 a0_4) W3.heap.size Ac Ar cc cr r1 r2 r3 rr r5 W0) ⟨HE.out, HFB.out, HFR.out, HFS.out, HQ.out.size⟩ ?_
  rintro W4 hQ
  generalize W3.heap.size = B at hQ ⊢
  clear HQ HRC HSR HFB HFR HFS HE E1
  have HQ := Aside0.mk hQ
  clear hQ
  have x1 : W4.cell? ⟨w.heap.size, 1, none⟩ = some (Value.int .i64 a0_1) := (blk_cell HQ.out.e.pb 1).trans rfl
  have x2 : W4.cell? ⟨w.heap.size, 2, none⟩ = some (Value.int .i64 a0_2) := (blk_cell HQ.out.e.pb 2).trans rfl
  have x3 : W4.cell? ⟨w.heap.size, 3, none⟩ = some (Value.slice A0_3 l0_3.length c0_3) := (blk_cell HQ.out.e.pb 3).trans rfl
  have A1 := Aside0.mk (spec_EdtRow.in_dec a1 a0_1 ((l0_3.length : Int) - a0_2))
  by_cases h8 : (l0_3.length : Int) = 8
  · obtain ⟨rfl, rfl⟩ : r4 = rr ∧ r6 = false := by
      rcases HS2.out with ⟨_, h2, h3⟩ | ⟨h2, _⟩
      · exact ⟨h2, h3⟩
      · exact absurd h8 h2.2
    have h5 : ((l0_3.length : Int) == 8) = true := by rw [beq_iff_eq]; exact h8
    clear h8 HS2 A1
    go_upto_region 5 with (fail)
    refine wp_letter (fun W0 => spec_EdtRow.E5 w (l3A (.slice A0_0 l0_0.length c0_0) (.slice A0_3 l0_3.length c0_3) a0_1 a0_2 a0_4) B Ac Ar cc cr r1 r2 r3 r4 r5 W0) (HQ.out.below (by repeat (with_reducible first | exact Below.refl _ _ | apply below_alloc | apply pw_below_drewN | apply below_drew1))) ?_
    rintro W5 hQ5
    clear HQ x1 x2 x3
    have HQ := Aside0.mk hQ5
    clear hQ5
    go_wp2_with (first | (refine wpList_load_row rfl 26 _ rfl B rfl 26 (l3A (.slice Ac r1.length cc) (.slice Ar r4.length cr) r2 r3 r5) (0, 0) _ HQ.out.xb Tryd.underlying26 rfl (by kernel_rfl) ?_) | (refine wpList_put 26 _ _ rfl rfl (w.heap.size + 1) 0 rfl (.agg (l3A (.slice Ac r1.length cc) (.slice Ar r4.length cr) r2 r3 r5)) rfl 26 (l3A (.slice none 0 0) (.slice none 0 0) 0 0 0) (l3A (.slice Ac r1.length cc) (.slice Ar r4.length cr) r2 r3 r5) HQ.out.e.zb (by kernel_rfl) rfl rfl rfl (fun W9 hp => ?_); have HFB := Aside0.mk hp.blk; have HF := Aside0.mk (pw_below_grown HQ.out.e.bl _ (Nat.le_trans (Nat.le_add_right _ 2) HQ.out.e.size) hp.grown (fun k hk => by injection hk with hk; omega)); have HFR := Aside0.mk (R_put HQ.out.rc HQ.out.e.zb hp (by decide)); have HFS := Aside0.mk (S_put HQ.out.sr HQ.out.e.zb hp (by decide)); clear hp))
    exact bodyPost_ret (results_ct rfl _ _ (w.heap.size + 1) 26 (l3A (.slice Ac r1.length cc) (.slice Ar r4.length cr) r2 r3 r5) (0, 0) _ rfl HFB.out Tryd.underlying26 rfl (by kernel_rfl)) rfl ⟨_, _, rfl, HFR.out, ⟨_, _, rfl, (Kd.R_reads' (Kd.S_R HFS.out)).2.1, (Kd.R_reads' (Kd.S_R HFS.out)).2.2⟩, HF.out⟩
  have h5 : ((l0_3.length : Int) == 8) = false := by rw [beq_eq_false_iff_ne]; exact h8
  by_cases h1 : a0_1 ≤ a1 ∧ a1 ≤ (l0_3.length : Int) - a0_2
  rotate_left
  · rw [decide_eq_false h1] at A1
    obtain ⟨rfl, rfl⟩ : r4 = rr ∧ r6 = false := by
      rcases HS2.out with ⟨_, h2, h3⟩ | ⟨h2, _⟩
      · exact ⟨h2, h3⟩
      · exact absurd h2.1 h1
    clear h1 h8 HS2
    go_upto_region 5 with ((go_at_call 22; (first | (with_reducible refine (spec_l1In.calls _ _ _ _ _ A1.out).mono ?_)); rintro e_ W' ⟨rfl, ⟨nd, rfl⟩⟩))
    refine wp_letter (fun W0 => spec_EdtRow.E5 w (l3A (.slice A0_0 l0_0.length c0_0) (.slice A0_3 l0_3.length c0_3) a0_1 a0_2 a0_4) B Ac Ar cc cr r1 r2 r3 r4 r5 W0) (HQ.out.below (by repeat (with_reducible first | exact Below.refl _ _ | apply below_alloc | apply pw_below_drewN | apply below_drew1))) ?_
    rintro W5 hQ5
    clear HQ x1 x2 x3
    have HQ := Aside0.mk hQ5
    clear hQ5
    go_wp2_with (first | (refine wpList_load_row rfl 26 _ rfl B rfl 26 (l3A (.slice Ac r1.length cc) (.slice Ar r4.length cr) r2 r3 r5) (0, 0) _ HQ.out.xb Tryd.underlying26 rfl (by kernel_rfl) ?_) | (refine wpList_put 26 _ _ rfl rfl (w.heap.size + 1) 0 rfl (.agg (l3A (.slice Ac r1.length cc) (.slice Ar r4.length cr) r2 r3 r5)) rfl 26 (l3A (.slice none 0 0) (.slice none 0 0) 0 0 0) (l3A (.slice Ac r1.length cc) (.slice Ar r4.length cr) r2 r3 r5) HQ.out.e.zb (by kernel_rfl) rfl rfl rfl (fun W9 hp => ?_); have HFB := Aside0.mk hp.blk; have HF := Aside0.mk (pw_below_grown HQ.out.e.bl _ (Nat.le_trans (Nat.le_add_right _ 2) HQ.out.e.size) hp.grown (fun k hk => by injection hk with hk; omega)); have HFR := Aside0.mk (R_put HQ.out.rc HQ.out.e.zb hp (by decide)); have HFS := Aside0.mk (S_put HQ.out.sr HQ.out.e.zb hp (by decide)); clear hp))
    exact bodyPost_ret (results_ct rfl _ _ (w.heap.size + 1) 26 (l3A (.slice Ac r1.length cc) (.slice Ar r4.length cr) r2 r3 r5) (0, 0) _ rfl HFB.out Tryd.underlying26 rfl (by kernel_rfl)) rfl ⟨_, _, rfl, HFR.out, ⟨_, _, rfl, (Kd.R_reads' (Kd.S_R HFS.out)).2.1, (Kd.R_reads' (Kd.S_R HFS.out)).2.2⟩, HF.out⟩
  rw [decide_eq_true h1] at A1
  obtain ⟨hr4, rfl⟩ : r4 = rowRows rr a1 ∧ true = r6 := by
    rcases HS2.out with ⟨h2, _⟩ | ⟨_, h2, h3⟩
    · exact absurd ⟨h1, h8⟩ h2
    · exact ⟨h2, h3.symm⟩
  obtain ⟨hg1, hg2, hg3⟩ := HG2.out
  obtain ⟨hg4, hg5, hg6⟩ := HG.out
  obtain ⟨at_, rfl⟩ : ∃ at_ : Nat, a1 = (at_ : Int) := ⟨a1.toNat, by omega⟩
  have hat : at_ ≤ rr.length := by omega
  have hrr : 0 < rr.length := by omega
  have hrb : rr.length < 1000000 := by omega
  have HR4 := Aside0.mk hr4
  clear h1 h8 HS2 hr4 hg1 hg2 hg3 hg4 hg5 hg6 HG HG2
  go_upto_region 6 with (first | (go_at_call 22; (first | (with_reducible refine (spec_l1In.calls _ _ _ _ _ A1.out).mono ?_)); rintro e_ W' ⟨rfl, ⟨nd, rfl⟩⟩))
  refine wp_letter (fun W0 => spec_EdtRow.E5 w (l3A (.slice A0_0 l0_0.length c0_0) (.slice A0_3 l0_3.length c0_3) a0_1 a0_2 a0_4) B Ac Ar cc cr r1 r2 r3 rr r5 W0) (HQ.out.below (by repeat (with_reducible first | exact Below.refl _ _ | apply below_alloc | apply pw_below_drewN | apply below_drew1))) ?_
  rintro W5 hQ5
  clear HQ x1 x2 x3 h5 A1
  have HQ := Aside0.mk hQ5
  clear hQ5
  go_upto_region 7 with (first | (refine wpList_load_row rfl 26 _ rfl w.heap.size rfl 26 (l3A (.slice A0_0 l0_0.length c0_0) (.slice A0_3 l0_3.length c0_3) a0_1 a0_2 a0_4) (0, 0) _ HQ.out.e.pb Tryd.underlying26 rfl (by kernel_rfl) ?_) | (go_at_call 21; (with_reducible refine (spec_l2Copy.calls k A0_0 c0_0 l0_0 a0_1 a0_2 A0_3 c0_3 l0_3 a0_4 r1 r2 r3 rr r5 _ (Kd.C_below HR0.out HQ.out.e.bl) HC0.out (Kd.C_below HR3.out HQ.out.e.bl) HC3.out E2.out).mono ?_); rintro e_ W7 ⟨vc2, vr2, rfl, hrc, hsr, hb⟩; obtain ⟨Ac2, cc2, rfl⟩ := Kd.R_slice hrc; obtain ⟨Ar2, cr2, rfl⟩ := Kd.R_slice (Kd.S_R hsr); have HSR2 := Aside0.mk hsr; replace HQ := Aside0.mk (HQ.out.below hb); clear hb hrc hsr) | (show wpList _ _ _ _ _ (World.alloc W7 _); have hz0 := blk_new W7 (.cells (l3A (.slice none 0 0) (.slice none 0 0) 0 0 0) 26); refine wpList_put 26 _ _ rfl rfl W7.heap.size 0 rfl (.agg (l3A (.slice Ac2 r1.length cc2) (.slice Ar2 rr.length cr2) r2 r3 r5)) rfl 26 (l3A (.slice none 0 0) (.slice none 0 0) 0 0 0) (l3A (.slice Ac2 r1.length cc2) (.slice Ar2 rr.length cr2) r2 r3 r5) hz0 (by kernel_rfl) rfl rfl rfl (fun W9 hp => ?_); have HFB := Aside0.mk hp.blk; have hbl := pw_below_grown (below_alloc (Below.refl W7.heap.size W7) _) _ (by simp) hp.grown (fun k hk => by injection hk with hk; omega); have HE := Aside0.mk (HQ.out.below hbl); have HFS := Aside0.mk (S_put (Kd.S_alloc HSR2.out _) hz0 hp (by decide)); clear hp hz0 hbl))
  refine wp_letter (fun W0 => spec_EdtRow.E5 w (l3A (.slice A0_0 l0_0.length c0_0) (.slice A0_3 l0_3.length c0_3) a0_1 a0_2 a0_4) B Ac Ar cc cr r1 r2 r3 rr r5 W0 ∧ W0.heap[W7.heap.size]? = some (.cells (l3A (.slice Ac2 r1.length cc2) (.slice Ar2 rr.length cr2) r2 r3 r5) 26 (0, 0)) ∧ Kd.S k37 37 W0 0 (fun _ => True) (.slice Ar2 rr.length cr2) rr) ⟨HE.out, HFB.out, Kd.S_lower HFS.out (Nat.zero_le _)⟩ ?_
  rintro W8 ⟨hQ, hyb, hys⟩
  generalize W7.heap.size = Yb at hyb ⊢
  clear HQ HSR2 HFB HFS HE E2
  obtain ⟨gx, cx', hex, _, _, cellx, hgx⟩ := Kd.S_form hQ.sr hrr
  obtain ⟨rfl, rfl⟩ : Ar = some ⟨gx, 0, none⟩ ∧ cr = cx' := by injection hex with h1 _ h2; exact ⟨h1, h2⟩
  obtain ⟨gy, cy', hey, _, _, celly, hgy⟩ := Kd.S_form hys hrr
  obtain ⟨rfl, rfl⟩ : Ar2 = some ⟨gy, 0, none⟩ ∧ cr2 = cy' := by injection hey with h1 _ h2; exact ⟨h1, h2⟩
  have hyk := (Kd.R_reads' (Kd.S_R hys)).2.2
  have hyc := (Kd.R_reads' (Kd.S_R hys)).2.1
  obtain ⟨X, hXl, hXc, hXk⟩ := C_raw (Kd.R_reads' (Kd.S_R hQ.sr)).2.2
  obtain ⟨Y, hYl, hYc, hYk⟩ := C_raw hyk
  have hcr := (Kd.R_reads' (Kd.S_R hQ.sr)).2.1
  have HXC := Aside0.mk hXc
  have HYC := Aside0.mk hYc
  have HYS := Aside0.mk hys
  have HGX := Aside0.mk hgx
  have HGY := Aside0.mk hgy
  have HXL := Aside0.mk hXl
  have HYL := Aside0.mk hYl
  have HXT : Aside0 ((Kd.raw 2).C W8 (some ⟨gx, 0, none⟩) at_ (X.take at_)) := ⟨by
    have h := Kd.C_take (k := Kd.raw 2) (m := at_) (by rw [hXl]; exact hXc) (by omega)
    rw [List.length_take, Nat.min_eq_left (by omega)] at h
    exact h⟩
  obtain ⟨yA, hyA⟩ : ∃ yA, yA = if cr2 = at_ then some (⟨gy, 0, none⟩ : Addr) else (some (⟨gy, 0, none⟩ : Addr)).map (·.add (at_ * 2)) := ⟨_, rfl⟩
  have HYT : Aside0 ((Kd.raw 2).C W8 yA (rr.length - at_) (Y.drop at_)) := ⟨by
    have h := Kd.C_drop (k := Kd.raw 2) (m := at_) (c := cr2) (by rw [hYl]; exact hYc) (by omega) (by omega)
    rw [List.length_drop, hYl] at h
    rw [hyA]
    exact h⟩
  have HXB := Aside0.mk hQ.xb
  have HYB := Aside0.mk hyb
  have HQ8 := Aside0.mk hQ
  have HYA := Aside0.mk hyA
  have hcy := hyc
  clear hyc
  have hBlt := blk_lt hQ.xb
  clear hXl hXc hXk hYl hYc hYk hyk hyb hys hQ hex hey hyA hgx hgy
  obtain ⟨i0, hi0, hz0, hzs, hzb⟩ := info_parts (P := Tryd.prog) (e := 37) (z := .agg #[.slice none 0 0, .bool false]) (size := 2) (bytes := 32) (by kernel_rfl)
  have hus := Tryd.underlying24
  refine region_envF (T := spec_EdtRow.T7) (B := spec_EdtRow.B7) spec_EdtRow.O7 spec_EdtRow.L7 15 (spec_EdtRow.P7 W8.heap.size at_ (rr.length - at_) (X.take at_) [.slice none 0 0, .bool false] (Y.drop at_) (spec_EdtRow.V7 B Yb at_ rr.length (rr.length - at_) cr cr2 ⟨gx, 0, none⟩ yA ⟨gy, 0, none⟩))
    (fun _ W => Below W8.heap.size W8 W)
    (fun _ W => ∃ w1 g cap cur, Put B (l3A (.slice Ac r1.length cc) (.slice (some ⟨g, 0, none⟩) (at_ + 1 + (rr.length - at_)) cap) r2 r3 r5) 26 w1 W ∧ Below W8.heap.size W8 w1 ∧ RawB 2 37 W8.heap.size w1 g (at_ + 1 + (rr.length - at_)) cap cur (X.take at_ ++ [[.slice none 0 0, .bool false]] ++ Y.drop at_))
    rfl spec_EdtRow.tab7 spec_EdtRow.bits7 spec_EdtRow.base7 spec_EdtRow.lof7 spec_EdtRow.ents7 spec_EdtRow.last7 (below_drew1 (Below.refl _ _)) ?_ ?_ ?_
  · skip
    refine alln_cons (EStepF.step [8, 13] (spec_EdtRow.keep7 (N := max 1 at_) (.inr ⟨by simp, by omega, by omega⟩) (by simp)) rfl fun b E a' W ha hG hP hoff hb => ?_) ?_
    · exact ⟨_, .slice (some ⟨W.heap.size, 0, none⟩) 0 0, W.alloc (.cells #[] 37), rfl, rfl, by clear ha hG hP hoff hb; go_simp; try rfl, ⟨W.heap.size, #[], rfl, ⟨blk_new W _, hG.size, rfl, Nat.le_refl _, Nat.zero_le _, rfl, rfl, by simp, by simp⟩⟩, StN.alloc _ _ _ _ W _, below_alloc hG _⟩
    refine alln_cons (EStepF.pure fun b_ E a' W ha hG hP => ?_) ?_
    · have s6 : a'.tmps[6]? = some (.pointer (some ⟨B, 0, none⟩)) := (slot_off ha rfl).trans rfl
      exact ⟨_, .pointer (some ⟨B, 3, none⟩), rfl, rfl, by clear ha hG hP; go_simp; try first | rfl | exact i64_w _, rfl, hG⟩
    refine alln_cons (EStepF.pure fun b E a' W ha hG hP => ?_) ?_
    · have s35 : a'.tmps[35]? = some (.pointer (some ⟨B, 3, none⟩)) := slotv ha (hP 1 rfl).1 rfl (hP 1 rfl).2
      have hc : W.cell? ⟨B, 3, none⟩ = some (.slice (some ⟨gx, 0, none⟩) rr.length cr) := (blk_cell (blk_below HXB.out hG) 3).trans rfl
      exact ⟨_, .slice (some ⟨gx, 0, none⟩) rr.length cr, rfl, rfl, by clear ha hG hP; go_simp, rfl, hG⟩
    refine alln_cons (EStepF.pure fun b_ E a' W ha hG hP => ?_) ?_
    · have s1 : a'.tmps[1]? = some (.int .i64 (at_ : Int)) := (slot_off ha rfl).trans rfl
      exact ⟨_, .int .i64 (at_ : Int), rfl, rfl, by clear ha hG hP; go_simp; try first | rfl | exact i64_w _, rfl, hG⟩
    refine alln_cons (EStepF.pure fun b E a' W ha hG hP => ?_) ?_
    · have s36 : a'.tmps[36]? = some (.slice (some ⟨gx, 0, none⟩) rr.length cr) := slotv ha (hP 2 rfl).1 rfl (hP 2 rfl).2
      have s37 : a'.tmps[37]? = some (.int .i64 (at_ : Int)) := slotv ha (hP 3 rfl).1 rfl (hP 3 rfl).2
      have q1 : at_ ≤ cr := by omega
      exact ⟨_, .slice (some ⟨gx, 0, none⟩) at_ cr, rfl, rfl, by clear ha hG hP; go_simp, rfl, hG⟩
    refine alln_cons (EStepF.stepO [8, 13] (spec_EdtRow.keep7 (N := max 1 at_) (.inr ⟨by simp, by omega, by omega⟩) (by simp)) rfl (.call { callee := .builtin .append, args := #[.tmp 34, .tmp 38], argTypes := #[24, 24] }) ⟨_, rfl, rfl, rfl⟩ fun b E a' W oi ho ha hG hP hoff hb => ?_) ?_
    · obtain ⟨g0, cur0, h0, hB0⟩ := (hP 0 rfl).2
      have s34 : a'.tmps[34]? = some (.slice (some ⟨g0, 0, none⟩) 0 0) := slotv ha (hP 0 rfl).1 rfl h0
      have s38 : a'.tmps[38]? = some (.slice (some ⟨gx, 0, none⟩) at_ cr) := slotv ha (hP 4 rfl).1 rfl (hP 4 rfl).2
      obtain ⟨g1, cap1, cur1, W1, hr, hB1, hbl, hz, hfr⟩ := append_raw (P := Tryd.prog) W 24 oi.type 37 i0 _ 2 32 hus hi0 hz0 hzs hzb rfl (by decide) hB0 hG.size (Kd.C_below HXT.out hG) (c := cr) (fun _ => .inr trivial) (by omega) (by omega)
      rw [Nat.zero_add] at hr hB1
      exact ⟨_, W1, exec_append ho (by simp [Act.eval, Array.getD_eq_getD_getElem?, s34]) (by simp [Act.eval, Array.getD_eq_getD_getElem?, s38]) hr, ⟨g1, cap1, cur1, rfl, hB1, hz⟩, fun g' n' cap' cur' rows' h' hn' => hfr h' (fun _ => by rcases Nat.eq_zero_or_pos at_ with h | h; exact .inl h; exact .inr (.inl (by omega))), hG.trans hbl⟩
    refine alln_cons (EStepF.pure fun b_ E a' W ha hG hP => ?_) ?_
    · exact ⟨_, .agg #[.slice none 0 0, .bool false], rfl, rfl, by clear ha hG hP; go_simp; try first | rfl | exact i64_w _, rfl, hG⟩
    refine alln_cons (EStepF.step [8, 13] (spec_EdtRow.keep7 (N := max 1 at_) (.inr ⟨by simp, by omega, by omega⟩) (by simp)) rfl fun b E a' W ha hG hP hoff hb => ?_) ?_
    · have s40 : a'.tmps[40]? = some (.agg #[.slice none 0 0, .bool false]) := slotv ha (hP 6 rfl).1 rfl (hP 6 rfl).2
      exact ⟨_, .slice (some ⟨W.heap.size, 0, none⟩) 1 1, W.alloc (.cells #[.slice none 0 0, .bool false] 37), rfl, rfl, by clear ha hG hP hoff hb; go_simp; try rfl, ⟨W.heap.size, #[.slice none 0 0, .bool false], rfl, ⟨blk_new W _, hG.size, rfl, Nat.le_refl _, by unfold maxLen; omega, rfl, rfl, by simp, by intro r hr u hu; rw [List.mem_singleton] at hr; subst hr; rcases List.mem_cons.1 hu with h | h; (· subst h; rfl); (· rw [List.mem_singleton] at h; subst h; rfl)⟩⟩, StN.alloc _ _ _ _ W _, below_alloc hG _⟩
    refine alln_cons (EStepF.stepO [8, 13] (spec_EdtRow.keep7 (N := max 1 at_) (.inr ⟨by simp, by omega, by omega⟩) (by simp)) rfl (.call { callee := .builtin .append, args := #[.tmp 39, .tmp 41], argTypes := #[24, 24] }) ⟨_, rfl, rfl, rfl⟩ fun b E a' W oi ho ha hG hP hoff hb => ?_) ?_
    · obtain ⟨g5, cap5, cur5, h5, hB5, hz5⟩ := (hP 5 rfl).2
      obtain ⟨g7, cur7, h7, hB7⟩ := (hP 7 rfl).2
      have s39 : a'.tmps[39]? = some (.slice (some ⟨g5, 0, none⟩) at_ cap5) := slotv ha (hP 5 rfl).1 rfl h5
      have s41 : a'.tmps[41]? = some (.slice (some ⟨g7, 0, none⟩) 1 1) := slotv ha (hP 7 rfl).1 rfl h7
      obtain ⟨g1, cap1, cur1, W1, hr, hB1, hbl, hz, hfr⟩ := append_raw (P := Tryd.prog) W 24 oi.type 37 i0 _ 2 32 hus hi0 hz0 hzs hzb rfl (by decide) hB5 hG.size (Kd.R_reads' hB7.raw).2.2 (c := 1) (fun _ => .inr trivial) (by simp only [List.length_singleton]; omega) (by simp only [List.length_singleton]; omega)
      exact ⟨_, W1, exec_append ho (by simp [Act.eval, Array.getD_eq_getD_getElem?, s39]) (by simp [Act.eval, Array.getD_eq_getD_getElem?, s41]) hr, ⟨g1, cap1, cur1, rfl, hB1⟩, fun g' n' cap' cur' rows' h' hn' => hfr h' (fun _ => by
        simp only [List.length_singleton]
        rcases Nat.eq_zero_or_pos at_ with h | h
        · exact .inr (.inl (by have := hz5 h; omega))
        · exact .inr (.inr (by omega))), hG.trans hbl⟩
    refine alln_cons (EStepF.pure fun b_ E a' W ha hG hP => ?_) ?_
    · have s7 : a'.tmps[7]? = some (.pointer (some ⟨Yb, 0, none⟩)) := (slot_off ha rfl).trans rfl
      exact ⟨_, .pointer (some ⟨Yb, 3, none⟩), rfl, rfl, by clear ha hG hP; go_simp; try first | rfl | exact i64_w _, rfl, hG⟩
    refine alln_cons (EStepF.pure fun b E a' W ha hG hP => ?_) ?_
    · have s43 : a'.tmps[43]? = some (.pointer (some ⟨Yb, 3, none⟩)) := slotv ha (hP 9 rfl).1 rfl (hP 9 rfl).2
      have hc : W.cell? ⟨Yb, 3, none⟩ = some (.slice (some ⟨gy, 0, none⟩) rr.length cr2) := (blk_cell (blk_below HYB.out hG) 3).trans rfl
      exact ⟨_, .slice (some ⟨gy, 0, none⟩) rr.length cr2, rfl, rfl, by clear ha hG hP; go_simp, rfl, hG⟩
    refine alln_cons (EStepF.pure fun b_ E a' W ha hG hP => ?_) ?_
    · have s1 : a'.tmps[1]? = some (.int .i64 (at_ : Int)) := (slot_off ha rfl).trans rfl
      exact ⟨_, .int .i64 (at_ : Int), rfl, rfl, by clear ha hG hP; go_simp; try first | rfl | exact i64_w _, rfl, hG⟩
    refine alln_cons (EStepF.pure fun b E a' W ha hG hP => ?_) ?_
    · have s44 : a'.tmps[44]? = some (.slice (some ⟨gy, 0, none⟩) rr.length cr2) := slotv ha (hP 10 rfl).1 rfl (hP 10 rfl).2
      have s45 : a'.tmps[45]? = some (.int .i64 (at_ : Int)) := slotv ha (hP 11 rfl).1 rfl (hP 11 rfl).2
      have q1 : at_ ≤ cr2 := by omega
      exact ⟨_, .slice yA (rr.length - at_) (cr2 - at_), rfl, rfl, by
        rw [HYA.out]
        clear ha hG hP
        by_cases hq : cr2 = at_
        · subst hq; go_simp
        · go_simp, rfl, hG⟩
    refine alln_cons (EStepF.stepO [13] (spec_EdtRow.keep7 (N := at_ + 1) (.inl (Nat.le_refl _)) (by simp)) rfl (.call { callee := .builtin .append, args := #[.tmp 42, .tmp 46], argTypes := #[24, 24] }) ⟨_, rfl, rfl, rfl⟩ fun b E a' W oi ho ha hG hP hoff hb => ?_) ?_
    · obtain ⟨g8, cap8, cur8, h8, hB8⟩ := (hP 8 rfl).2
      have s42 : a'.tmps[42]? = some (.slice (some ⟨g8, 0, none⟩) (at_ + 1) cap8) := slotv ha (hP 8 rfl).1 rfl h8
      have s46 : a'.tmps[46]? = some (.slice yA (rr.length - at_) (cr2 - at_)) := slotv ha (hP 12 rfl).1 rfl (hP 12 rfl).2
      obtain ⟨g1, cap1, cur1, W1, hr, hB1, hbl, hz, hfr⟩ := append_raw (P := Tryd.prog) W 24 oi.type 37 i0 _ 2 32 hus hi0 hz0 hzs hzb rfl (by decide) hB8 hG.size (Kd.C_below HYT.out hG) (c := cr2 - at_) (fun _ => .inr trivial) (by omega) (by omega)
      exact ⟨_, W1, exec_append ho (by simp [Act.eval, Array.getD_eq_getD_getElem?, s42]) (by simp [Act.eval, Array.getD_eq_getD_getElem?, s46]) hr, ⟨g1, cap1, cur1, rfl, hB1⟩, fun g' n' cap' cur' rows' h' hn' => hfr h' (fun _ => .inr (.inr hn')), hG.trans hbl⟩
    refine alln_cons (EStepF.pure fun b_ E a' W ha hG hP => ?_) alln_last
    · have s6 : a'.tmps[6]? = some (.pointer (some ⟨B, 0, none⟩)) := (slot_off ha rfl).trans rfl
      exact ⟨_, .pointer (some ⟨B, 3, none⟩), rfl, rfl, by clear ha hG hP; go_simp; try first | rfl | exact i64_w _, rfl, hG⟩
  · intro b E a' W ha hG hP hb
    have s48 : a'.tmps[48]? = some (.pointer (some ⟨B, 3, none⟩)) := slotv ha (hP 14 rfl (by decide)).1 rfl (hP 14 rfl (by decide)).2
    obtain ⟨g, cap, cur, h13, hB13⟩ := (hP 13 rfl (by decide)).2
    have s47 : a'.tmps[47]? = some (.slice (some ⟨g, 0, none⟩) (at_ + 1 + (rr.length - at_)) cap) := slotv ha (hP 13 rfl (by decide)).1 rfl h13
    have hxb := blk_below HXB.out hG
    have hp := Put.setRow (cs := l3A (.slice Ac r1.length cc) (.slice (some ⟨g, 0, none⟩) (at_ + 1 + (rr.length - at_)) cap) r2 r3 r5) hxb
    exact ⟨_, rfl, fun K hK => skip_ rfl rfl (exec_put 24 _ _ rfl B 3 (by simp [Act.eval, Array.getD_eq_getD_getElem?, s48]) (.slice (some ⟨g, 0, none⟩) (at_ + 1 + (rr.length - at_)) cap) (by simp [Act.eval, Array.getD_eq_getD_getElem?, s47]) 26 _ (l3A (.slice Ac r1.length cc) (.slice (some ⟨g, 0, none⟩) (at_ + 1 + (rr.length - at_)) cap) r2 r3 r5) hxb (by kernel_rfl) rfl rfl rfl) (hK.out undef _ ⟨W, g, cap, cur, hp, hG, hB13⟩)⟩
  · intro E b W hall hF
    obtain ⟨w1, g, cap, cur, hp, hbl, hB⟩ := hF
    rw [putSel_all (fun x hx => hall x.1 (by revert x; decide))]
    simp only [spec_EdtRow.L7, List.foldl, Act.put, List.setIfInBounds_toArray, List.set_cons_zero, List.set_cons_succ]
    have hgB : g ≠ B := by have := hB.bg; omega
    have hrw := hB.grown hp.grown hgB
    have hxb1 := blk_below HXB.out hbl
    have hgxB : gx ≠ B := blk_ne HGX.out HXB.out (by decide)
    have hgyB : gy ≠ B := blk_ne HGY.out HXB.out (by decide)
    have he1 := HQ8.out.e.below hbl
    have hB2 := HQ8.out.lt
    have hEW : E3 w (l3A (.slice A0_0 l0_0.length c0_0) (.slice A0_3 l0_3.length c0_3) a0_1 a0_2 a0_4) W := ⟨pw_below_grown he1.bl _ (by have := he1.size; omega) hp.grown (fun k hk => by injection hk with hk; omega), hp.keep he1.pb (by omega), hp.keep he1.zb (by omega)⟩
    have hlen : r4.length = at_ + 1 + (rr.length - at_) := by
      rw [HR4.out]
      unfold rowRows
      rw [Int.toNat_natCast, ins_len _ _ _ hat]
      omega
    have hrl : (X.take at_ ++ [[Value.slice none 0 0, Value.bool false]] ++ Y.drop at_).length = r4.length := by
      rw [← hrw.len, hlen]
    have hgx9 : gx ≠ w.heap.size + 1 := blk_ne (hp.keep (blk_below HGX.out hbl) hgxB) hEW.zb (by decide)
    have hgy9 : gy ≠ w.heap.size + 1 := blk_ne (hp.keep (blk_below HGY.out hbl) hgyB) hEW.zb (by decide)
    have hg9 : g ≠ w.heap.size + 1 := by have := hB.bg; omega
    have hCf : ∀ (W9 : World) (cs9 : Array Value), Put (w.heap.size + 1) cs9 26 W W9 → Kd.C k37 W9 (some ⟨g, 0, none⟩) r4.length r4 := by
      intro W9 cs9 hp9
      have hkx := C_same (Kd.R_reads' (Kd.S_R (S_put (S_put (Kd.S_below HQ8.out.sr hbl) hxb1 hp (by decide)) hEW.zb hp9 (by decide)))).2.2 (raw_C_grown (raw_C_grown (Kd.C_below HXC.out hbl) hp.grown (fun m => by rw [add_at]; exact hgxB)) hp9.grown (fun m => by rw [add_at]; exact hgx9))
      have hky := C_same (Kd.R_reads' (Kd.S_R (S_put (S_put (Kd.S_below HYS.out hbl) hxb1 hp (by decide)) hEW.zb hp9 (by decide)))).2.2 (raw_C_grown (raw_C_grown (Kd.C_below HYC.out hbl) hp.grown (fun m => by rw [add_at]; exact hgyB)) hp9.grown (fun m => by rw [add_at]; exact hgy9))
      have hrawc := (Kd.R_reads' (hrw.grown hp9.grown hg9).raw).2.2
      rw [← hrl]
      refine raw_C (d := k37) hrawc hrl (fun j x c hx hc => ?_)
      rw [mix_at X Y _ at_ (by rw [HXL.out]; exact hat)] at hc
      rw [HR4.out] at hx
      unfold rowRows at hx
      rw [Int.toNat_natCast, ins_at _ _ _ hat] at hx
      by_cases j1 : j < at_
      · rw [if_pos j1] at hx hc
        exact hkx j x c hx hc
      · rw [if_neg j1] at hx hc
        by_cases j2 : j = at_
        · rw [if_pos j2] at hx hc
          obtain rfl := Option.some.inj hx
          obtain rfl := Option.some.inj hc
          exact k37.K_of_M (k37_mkM W9 0 (fun _ => True) (⟨[], false⟩ : S37) (Kd.R_nil _ _ _ _ _))
        · rw [if_neg j2] at hx hc
          exact hky (j - 1) x c hx hc
    have hrcW := R_put (Kd.R_below HQ8.out.rc hbl) hxb1 hp (by decide)
    have hboxW : W.heap[B]? = some (.cells (l3A (.slice Ac r1.length cc) (.slice (some ⟨g, 0, none⟩) r4.length cap) r2 r3 r5) 26 (0, 0)) := by rw [hlen]; exact hp.blk
    have hleW : r4.length ≤ cap := by rw [hlen]; exact hrw.le
    have HEW := Aside0.mk hEW
    have HRW := Aside0.mk hrcW
    have HBW := Aside0.mk hboxW
    have HLW := Aside0.mk hleW
    have HCW := Aside0.mk hCf
    clear hgx9 hgy9 hg9 hlen hrl hrw hxb1 hgxB hgyB hgB hB hp hbl hall he1 hB2 hEW hrcW hboxW hleW hCf HXC HYC HYS HGX HGY HXB HYB HXT HYT HYA HXL HYL HR4 HQ8
    go_upto_region 8 with (fail)
    go_wp2_with (first | (refine wpList_load_row rfl 26 _ rfl B rfl 26 (l3A (.slice Ac r1.length cc) (.slice (some ⟨g, 0, none⟩) r4.length cap) r2 r3 r5) (0, 0) _ HBW.out Tryd.underlying26 rfl (by kernel_rfl) ?_) | (refine wpList_put 26 _ _ rfl rfl (w.heap.size + 1) 0 rfl (.agg (l3A (.slice Ac r1.length cc) (.slice (some ⟨g, 0, none⟩) r4.length cap) r2 r3 r5)) rfl 26 (l3A (.slice none 0 0) (.slice none 0 0) 0 0 0) (l3A (.slice Ac r1.length cc) (.slice (some ⟨g, 0, none⟩) r4.length cap) r2 r3 r5) HEW.out.zb (by kernel_rfl) rfl rfl rfl (fun W9 hp => ?_); have HFB := Aside0.mk hp.blk; have HF := Aside0.mk (pw_below_grown HEW.out.bl _ (Nat.le_trans (Nat.le_add_right _ 2) HEW.out.size) hp.grown (fun k hk => by injection hk with hk; omega)); have HFR := Aside0.mk (R_put HRW.out HEW.out.zb hp (by decide)); have HFP := Aside0.mk hp; clear hp))
    have hC9 := HCW.out W9 _ HFP.out
    exact bodyPost_ret (results_ct rfl _ _ (w.heap.size + 1) 26 (l3A (.slice Ac r1.length cc) (.slice (some ⟨g, 0, none⟩) r4.length cap) r2 r3 r5) (0, 0) _ rfl HFB.out Tryd.underlying26 rfl (by kernel_rfl)) rfl ⟨_, _, rfl, HFR.out, ⟨_, _, rfl, HLW.out, hC9⟩, HF.out⟩


end Go.Proofs.YtaihfkjfbjcmhaaDoor.Q
