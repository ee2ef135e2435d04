-- Told by a program of this session (uprint.py, ulay.py).
import Derived.Test.YtaihfkjfbjcmhabDoorQ0
import Derived.Test.YtaihfkjfbjcmhabDoorQspecl20Cell
namespace Go.Proofs.YtaihfkjfbjcmhabDoor.Q
open Go.RowKit Go.Proofs.YtaihfkjfbjcmhabDoorW.PrintWords Go.Proofs.YtaihfkjfbjcmhabDoorW.PrintLast Go.Proofs.YtaihfkjfbjcmhabDoorW.PrintMore
attribute [local go_sem] max2_int min2_int max_two min_two max_three min_three max_four min_four
set_option linter.unusedVariables false
set_option linter.unusedSimpArgs false

/-! ### spec_TblOk: function 8 -/
mutual
def spec_TblOk.j0 : Nat → Bool → List (S57) → Int → Int → List (S42) → Int → Option (Bool)
  | 0, _, _, _, _, _, _ => none
  | k + 1, x43, x218000, x218001, x218002, x218003, x218004 => if x43 = true then (some false) else (spec_TblOk.l0 k 0 x218000 x218001 x218002 x218003 x218004)
def spec_TblOk.l0 : Nat → Int → List (S57) → Int → Int → List (S42) → Int → Option (Bool)
  | 0, _, _, _, _, _, _ => none
  | k + 1, x3, x218000, x218001, x218002, x218003, x218004 => if x3 < (x218000.length : Int) then (if 0 ≤ x3 then ((spec_l2Col.f ((rd_T57 x218000 x3).f0) ((rd_T57 x218000 x3).f1)).bind fun t223 => (if t223 = true then (spec_TblOk.l0 k (wrap64 (x3 + 1)) x218000 x218001 x218002 x218003 x218004) else (some false))) else (none)) else (spec_TblOk.l1 k 0 x218000 x218001 x218002 x218003 x218004)
def spec_TblOk.l1 : Nat → Int → List (S57) → Int → Int → List (S42) → Int → Option (Bool)
  | 0, _, _, _, _, _, _ => none
  | k + 1, x4, x218000, x218001, x218002, x218003, x218004 => if x4 < (x218003.length : Int) then (if 0 ≤ x4 then (if (((rd_T42 x218003 x4).f0).length : Int) > 5 then (some false) else (spec_TblOk.l2 k x4 0 x218000 x218001 x218002 x218003 x218004)) else (none)) else (some true)
def spec_TblOk.l2 : Nat → Int → Int → List (S57) → Int → Int → List (S42) → Int → Option (Bool)
  | 0, _, _, _, _, _, _, _ => none
  | k + 1, x4, x5, x218000, x218001, x218002, x218003, x218004 => if 0 ≤ x4 then (if x4 < (x218003.length : Int) then (if x5 < (((rd_T42 x218003 x4).f0).length : Int) then (if 0 ≤ x5 then ((spec_CellOk.f k ((rd_T30 ((rd_T42 x218003 x4).f0) x5).f0) ((rd_T30 ((rd_T42 x218003 x4).f0) x5).f1) ((rd_T30 ((rd_T42 x218003 x4).f0) x5).f2) ((rd_T30 ((rd_T42 x218003 x4).f0) x5).f3.f0) ((rd_T30 ((rd_T42 x218003 x4).f0) x5).f3.f1) ((rd_T30 ((rd_T42 x218003 x4).f0) x5).f4.f0) ((rd_T30 ((rd_T42 x218003 x4).f0) x5).f4.f1) ((rd_T30 ((rd_T42 x218003 x4).f0) x5).f5.f0) ((rd_T30 ((rd_T42 x218003 x4).f0) x5).f5.f1) ((rd_T30 ((rd_T42 x218003 x4).f0) x5).f6.f0) ((rd_T30 ((rd_T42 x218003 x4).f0) x5).f6.f1)).bind fun t228 => (if t228 = true then (spec_TblOk.l2 k x4 (wrap64 (x5 + 1)) x218000 x218001 x218002 x218003 x218004) else (some false))) else (none)) else (spec_TblOk.l1 k (wrap64 (x4 + 1)) x218000 x218001 x218002 x218003 x218004)) else (none)) else (none)
end
def spec_TblOk.f (k : Nat) (l0_0 : List (S57)) (a0_1 : Int) (a0_2 : Int) (l0_3 : List (S42)) (a0_4 : Int) : Option (Bool) := (spec_l1In.f (l0_3.length : Int) 1 8).bind fun t218 => (if t218 = true then (if (l0_0.length : Int) > 8 then (spec_TblOk.j0 k true l0_0 a0_1 a0_2 l0_3 a0_4) else ((spec_l1In.f a0_1 0 (l0_3.length : Int)).bind fun t219 => (if t219 = true then ((spec_l1In.f a0_2 0 (wrap64 ((l0_3.length : Int) - a0_1))).bind fun t220 => (if t220 = true then ((spec_l1In.f a0_4 0 3).bind fun t221 => (spec_TblOk.j0 k (!t221) l0_0 a0_1 a0_2 l0_3 a0_4)) else (spec_TblOk.j0 k true l0_0 a0_1 a0_2 l0_3 a0_4))) else (spec_TblOk.j0 k true l0_0 a0_1 a0_2 l0_3 a0_4)))) else (spec_TblOk.j0 k true l0_0 a0_1 a0_2 l0_3 a0_4))
theorem spec_TblOk.mono_l : ∀ k, (∀ y0 y1 y2 y3 y4 y5, LeO (spec_TblOk.j0 k y0 y1 y2 y3 y4 y5) (spec_TblOk.j0 (k + 1) y0 y1 y2 y3 y4 y5)) ∧ (∀ y0 y1 y2 y3 y4 y5, LeO (spec_TblOk.l0 k y0 y1 y2 y3 y4 y5) (spec_TblOk.l0 (k + 1) y0 y1 y2 y3 y4 y5)) ∧ (∀ y0 y1 y2 y3 y4 y5, LeO (spec_TblOk.l1 k y0 y1 y2 y3 y4 y5) (spec_TblOk.l1 (k + 1) y0 y1 y2 y3 y4 y5)) ∧ (∀ y0 y1 y2 y3 y4 y5 y6, LeO (spec_TblOk.l2 k y0 y1 y2 y3 y4 y5 y6) (spec_TblOk.l2 (k + 1) y0 y1 y2 y3 y4 y5 y6))
  | 0 => ⟨fun _ _ _ _ _ _ r h => by simp [spec_TblOk.j0] at h, fun _ _ _ _ _ _ r h => by simp [spec_TblOk.l0] at h, fun _ _ _ _ _ _ r h => by simp [spec_TblOk.l1] at h, fun _ _ _ _ _ _ _ r h => by simp [spec_TblOk.l2] at h⟩
  | k + 1 => by
    obtain ⟨ih0, ih1, ih2, ih3⟩ := spec_TblOk.mono_l k
    refine ⟨?_, ?_, ?_, ?_⟩
    · intro y0 y1 y2 y3 y4 y5
      unfold spec_TblOk.j0
      repeat' first
      | (with_reducible exact ih0 _ _ _ _ _ _)
      | (with_reducible exact ih1 _ _ _ _ _ _)
      | (with_reducible exact ih2 _ _ _ _ _ _)
      | (with_reducible exact ih3 _ _ _ _ _ _ _)
      | (with_reducible exact spec_CellOk.mono _ _ _ _ _ _ _ _ _ _ _ _)
      | (with_reducible exact LeO.refl _)
      | (with_reducible exact LeO.none _)
      | (with_reducible refine LeO.ite ?_ ?_)
      | (with_reducible refine LeO.bind ?_ (fun _ => ?_))
      | exact ih0 _ _ _ _ _ _
      | exact ih1 _ _ _ _ _ _
      | exact ih2 _ _ _ _ _ _
      | exact ih3 _ _ _ _ _ _ _
      | exact spec_CellOk.mono _ _ _ _ _ _ _ _ _ _ _ _
      | exact LeO.none _
      | refine LeO.ite ?_ ?_
      | refine LeO.bind ?_ (fun _ => ?_)
    · intro y0 y1 y2 y3 y4 y5
      unfold spec_TblOk.l0
      repeat' first
      | (with_reducible exact ih0 _ _ _ _ _ _)
      | (with_reducible exact ih1 _ _ _ _ _ _)
      | (with_reducible exact ih2 _ _ _ _ _ _)
      | (with_reducible exact ih3 _ _ _ _ _ _ _)
      | (with_reducible exact spec_CellOk.mono _ _ _ _ _ _ _ _ _ _ _ _)
      | (with_reducible exact LeO.refl _)
      | (with_reducible exact LeO.none _)
      | (with_reducible refine LeO.ite ?_ ?_)
      | (with_reducible refine LeO.bind ?_ (fun _ => ?_))
      | exact ih0 _ _ _ _ _ _
      | exact ih1 _ _ _ _ _ _
      | exact ih2 _ _ _ _ _ _
      | exact ih3 _ _ _ _ _ _ _
      | exact spec_CellOk.mono _ _ _ _ _ _ _ _ _ _ _ _
      | exact LeO.none _
      | refine LeO.ite ?_ ?_
      | refine LeO.bind ?_ (fun _ => ?_)
    · intro y0 y1 y2 y3 y4 y5
      unfold spec_TblOk.l1
      repeat' first
      | (with_reducible exact ih0 _ _ _ _ _ _)
      | (with_reducible exact ih1 _ _ _ _ _ _)
      | (with_reducible exact ih2 _ _ _ _ _ _)
      | (with_reducible exact ih3 _ _ _ _ _ _ _)
      | (with_reducible exact spec_CellOk.mono _ _ _ _ _ _ _ _ _ _ _ _)
      | (with_reducible exact LeO.refl _)
      | (with_reducible exact LeO.none _)
      | (with_reducible refine LeO.ite ?_ ?_)
      | (with_reducible refine LeO.bind ?_ (fun _ => ?_))
      | exact ih0 _ _ _ _ _ _
      | exact ih1 _ _ _ _ _ _
      | exact ih2 _ _ _ _ _ _
      | exact ih3 _ _ _ _ _ _ _
      | exact spec_CellOk.mono _ _ _ _ _ _ _ _ _ _ _ _
      | exact LeO.none _
      | refine LeO.ite ?_ ?_
      | refine LeO.bind ?_ (fun _ => ?_)
    · intro y0 y1 y2 y3 y4 y5 y6
      unfold spec_TblOk.l2
      repeat' first
      | (with_reducible exact ih0 _ _ _ _ _ _)
      | (with_reducible exact ih1 _ _ _ _ _ _)
      | (with_reducible exact ih2 _ _ _ _ _ _)
      | (with_reducible exact ih3 _ _ _ _ _ _ _)
      | (with_reducible exact spec_CellOk.mono _ _ _ _ _ _ _ _ _ _ _ _)
      | (with_reducible exact LeO.refl _)
      | (with_reducible exact LeO.none _)
      | (with_reducible refine LeO.ite ?_ ?_)
      | (with_reducible refine LeO.bind ?_ (fun _ => ?_))
      | exact ih0 _ _ _ _ _ _
      | exact ih1 _ _ _ _ _ _
      | exact ih2 _ _ _ _ _ _
      | exact ih3 _ _ _ _ _ _ _
      | exact spec_CellOk.mono _ _ _ _ _ _ _ _ _ _ _ _
      | exact LeO.none _
      | refine LeO.ite ?_ ?_
      | refine LeO.bind ?_ (fun _ => ?_)
theorem spec_TblOk.mono : ∀ a0 a1 a2 a3 a4 k, LeO (spec_TblOk.f k a0 a1 a2 a3 a4) (spec_TblOk.f (k + 1) a0 a1 a2 a3 a4) := by
  intro a0 a1 a2 a3 a4 k
  obtain ⟨ih0, ih1, ih2, ih3⟩ := spec_TblOk.mono_l k
  unfold spec_TblOk.f
  repeat' first
      | (with_reducible exact ih0 _ _ _ _ _ _)
      | (with_reducible exact ih1 _ _ _ _ _ _)
      | (with_reducible exact ih2 _ _ _ _ _ _)
      | (with_reducible exact ih3 _ _ _ _ _ _ _)
      | (with_reducible exact spec_CellOk.mono _ _ _ _ _ _ _ _ _ _ _ _)
      | (with_reducible exact LeO.refl _)
      | (with_reducible exact LeO.none _)
      | (with_reducible refine LeO.ite ?_ ?_)
      | (with_reducible refine LeO.bind ?_ (fun _ => ?_))
      | exact ih0 _ _ _ _ _ _
      | exact ih1 _ _ _ _ _ _
      | exact ih2 _ _ _ _ _ _
      | exact ih3 _ _ _ _ _ _ _
      | exact spec_CellOk.mono _ _ _ _ _ _ _ _ _ _ _ _
      | exact LeO.none _
      | refine LeO.ite ?_ ?_
      | refine LeO.bind ?_ (fun _ => ?_)
set_option maxHeartbeats 8000000 in
set_option maxRecDepth 100000 in
theorem spec_TblOk.calls (k : Nat) (A0_0 : Option Addr) (c0_0 : Nat) (l0_0 : List (S57)) (a0_1 : Int) (a0_2 : Int) (A0_3 : Option Addr) (c0_3 : Nat) (l0_3 : List (S42)) (a0_4 : Int) (r : Bool) (w : World) (hr0_0 : Kd.C k57 w A0_0 l0_0.length l0_0) (hc0_0 : l0_0.length ≤ c0_0) (hr0_3 : Kd.C k42 w A0_3 l0_3.length l0_3) (hc0_3 : l0_3.length ≤ c0_3) (h : spec_TblOk.f k l0_0 a0_1 a0_2 l0_3 a0_4 = some r) :
    Calls Tryd.prog 8 #[.agg #[.slice A0_0 l0_0.length c0_0, .int .i64 a0_1, .int .i64 a0_2, .slice A0_3 l0_3.length c0_3, .int .i64 a0_4]] w fun e w' => e = .returned (.bool r) ∧ Below w.heap.size w w' := by
  have hu26 := Tryd.underlying26
  have hu57 := Tryd.underlying57
  have hu30 := Tryd.underlying30
  have HR0_0 := Aside0.mk hr0_0
  have HC0_0 := Aside0.mk hc0_0
  clear hr0_0 hc0_0
  have HR0_3 := Aside0.mk hr0_3
  have HC0_3 := Aside0.mk hc0_3
  clear hr0_3 hc0_3
  have HB := Aside0.mk (Below.refl w.heap.size w)
  have H : ((spec_l1In.f (l0_3.length : Int) 1 8).bind fun t218 => (if t218 = true then (if (l0_0.length : Int) > 8 then (spec_TblOk.j0 k true l0_0 a0_1 a0_2 l0_3 a0_4) else ((spec_l1In.f a0_1 0 (l0_3.length : Int)).bind fun t219 => (if t219 = true then ((spec_l1In.f a0_2 0 (wrap64 ((l0_3.length : Int) - a0_1))).bind fun t220 => (if t220 = true then ((spec_l1In.f a0_4 0 3).bind fun t221 => (spec_TblOk.j0 k (!t221) l0_0 a0_1 a0_2 l0_3 a0_4)) else (spec_TblOk.j0 k true l0_0 a0_1 a0_2 l0_3 a0_4))) else (spec_TblOk.j0 k true l0_0 a0_1 a0_2 l0_3 a0_4)))) else (spec_TblOk.j0 k true l0_0 a0_1 a0_2 l0_3 a0_4))) = some r := h
  clear h
  have HC2 := Aside0.mk H
  clear H
  go_enter Tryd.func8, Tryd.ntmps8
  go_upto_region 1 with (first | ((with_reducible refine gate_dst (N := 1) rfl ?_); (try (refine gate_guard (by rfl) ?_; dsimp only)); refine box_event ?hg (N := 1) ?hd (cs := #[.slice A0_0 l0_0.length c0_0, .int .i64 a0_1, .int .i64 a0_2, .slice A0_3 l0_3.length c0_3, .int .i64 a0_4]) (t := 26) ?hr ?_; (case hd => rfl); (case hg => rfl); (case hr => first | (go_simp; done) | (go_simp; rfl)); intro gb217 hg w3 hbox hb; have n0_ := Aside0.mk (below_step (by repeat (first | (with_reducible first | exact HB.out | apply below_alloc | apply pw_below_drewN | apply below_drew1) | exact HB.out)) hb); have n1_ := Aside0.mk (hbox); have n2_ := Aside0.mk ((by rw [hg]; exact (below_size (by repeat (first | (with_reducible first | exact HB.out | apply below_alloc | apply pw_below_drewN | apply below_drew1) | exact HB.out))) : w.heap.size ≤ gb217)); have n3_ := Aside0.mk ((by rw [hg]; exact (below_size (by repeat (first | (with_reducible first | exact HB.out | apply below_alloc | apply pw_below_drewN | apply below_drew1) | exact HB.out))) : w.heap.size ≤ gb217)); clear HB; have HB := n0_; have BK217 := n1_; have GW217 := n2_; have GE217 := n3_; clear n0_ n1_ n2_ n3_; clear hb hbox hg))
  (try simp only [Act.put, List.setIfInBounds_toArray, List.set_cons_zero, List.set_cons_succ])
  go_cut [43] (fun v43 wc => ∃ (kq : Nat) (x43_1 : Bool), v43 = .bool x43_1 ∧ Aside0 (spec_TblOk.j0 kq x43_1 l0_0 a0_1 a0_2 l0_3 a0_4 = some r) ∧ Aside0 (kq ≤ k) ∧ Aside0 (wc.heap[gb217]? = some (.cells #[(.slice A0_0 l0_0.length c0_0), .int .i64 a0_1, .int .i64 a0_2, (.slice A0_3 l0_3.length c0_3), .int .i64 a0_4] 26 (0, 0))) ∧ Aside0 (Below w.heap.size w wc))
  case first =>
    have H := HC2.out
    clear HC2
    replace H := Option.bind_eq_some_iff.mp H
    obtain ⟨t218, A40, H⟩ := H
    replace H : (if t218 = true then (if (l0_0.length : Int) > 8 then (spec_TblOk.j0 k true l0_0 a0_1 a0_2 l0_3 a0_4) else ((spec_l1In.f a0_1 0 (l0_3.length : Int)).bind fun t219 => (if t219 = true then ((spec_l1In.f a0_2 0 (wrap64 ((l0_3.length : Int) - a0_1))).bind fun t220 => (if t220 = true then ((spec_l1In.f a0_4 0 3).bind fun t221 => (spec_TblOk.j0 k (!t221) l0_0 a0_1 a0_2 l0_3 a0_4)) else (spec_TblOk.j0 k true l0_0 a0_1 a0_2 l0_3 a0_4))) else (spec_TblOk.j0 k true l0_0 a0_1 a0_2 l0_3 a0_4)))) else (spec_TblOk.j0 k true l0_0 a0_1 a0_2 l0_3 a0_4)) = some r := H
    have A4 := Aside0.mk A40
    clear A40
    by_cases c5 : t218 = true
    · subst c5
      have H1 : (if (l0_0.length : Int) > 8 then (spec_TblOk.j0 k true l0_0 a0_1 a0_2 l0_3 a0_4) else ((spec_l1In.f a0_1 0 (l0_3.length : Int)).bind fun t219 => (if t219 = true then ((spec_l1In.f a0_2 0 (wrap64 ((l0_3.length : Int) - a0_1))).bind fun t220 => (if t220 = true then ((spec_l1In.f a0_4 0 3).bind fun t221 => (spec_TblOk.j0 k (!t221) l0_0 a0_1 a0_2 l0_3 a0_4)) else (spec_TblOk.j0 k true l0_0 a0_1 a0_2 l0_3 a0_4))) else (spec_TblOk.j0 k true l0_0 a0_1 a0_2 l0_3 a0_4)))) = some r := by rw [if_pos rfl] at H; exact H
      clear H
      have H := H1
      clear H1
      by_cases c6 : (l0_0.length : Int) > 8
      · rw [if_pos c6] at H
        have c6b0 : decide (8 < (l0_0.length : Int)) = true := decide_eq_true c6
        have c6b1 : decide (8 < l0_0.length) = true := decide_eq_true (by omega)
        clear c6
        (first | rw [c6b0] | (simp only [i64_w, i32_w]; rw [c6b0]) | skip)
        have H' := Aside0.mk H
        clear H
        have hcz7_0 : w3.cell? ⟨gb217, 0, none⟩ = some (.slice A0_0 l0_0.length c0_0) := (blk_cell BK217.out 0).trans rfl
        have hcz7_1 : w3.cell? ⟨gb217, 1, none⟩ = some (.int .i64 a0_1) := (blk_cell BK217.out 1).trans rfl
        have hcz7_2 : w3.cell? ⟨gb217, 2, none⟩ = some (.int .i64 a0_2) := (blk_cell BK217.out 2).trans rfl
        have hcz7_3 : w3.cell? ⟨gb217, 3, none⟩ = some (.slice A0_3 l0_3.length c0_3) := (blk_cell BK217.out 3).trans rfl
        have hcz7_4 : w3.cell? ⟨gb217, 4, none⟩ = some (.int .i64 a0_4) := (blk_cell BK217.out 4).trans rfl
        have hfz7_0 := blk_frozen BK217.out 0
        have hfz7_1 := blk_frozen BK217.out 1
        have hfz7_2 := blk_frozen BK217.out 2
        have hfz7_3 := blk_frozen BK217.out 3
        have hfz7_4 := blk_frozen BK217.out 4
        go_wp2_with (first | ((with_reducible refine gate_callee (f := 24) rfl ?_); refine goesL_ (some 9) rfl rfl Tryd.func24 (by kernel_rfl) rfl #[.int .i64 (l0_3.length : Int), .int .i64 1, .int .i64 8] rfl (by (try simp only [List.map_toArray, List.map_cons, List.map_nil]); first | done | rfl | (simp only [List.length_drop, List.length_take]; rfl)) ?_; (with_reducible refine (spec_l1In.calls (l0_3.length : Int) 1 8 true _ A4.out).mono ?_); rintro e w' ⟨rfl, ⟨nd, rfl⟩⟩; refine ⟨_, rfl, ?_⟩))
        go_meet
        case rel => exact ⟨_, (true), (by first | rfl | (simp; done) | (simp [*]; done)), H', ⟨by first | omega | exact Nat.le_refl _⟩, ⟨by (with_reducible repeat (first | refine blk_drewN ?_ _ | refine blk_drew ?_ | refine blk_alloc ?_ _)); exact BK217.out⟩, ⟨by repeat (first | (with_reducible first | exact HB.out | apply below_alloc | apply pw_below_drewN | apply below_drew1 | refine below_set ?_ GE217.out) | exact HB.out)⟩⟩
      · rw [if_neg c6] at H
        have c6b0 : decide (8 < (l0_0.length : Int)) = false := decide_eq_false c6
        have c6b1 : decide (8 < l0_0.length) = false := decide_eq_false (by omega)
        clear c6
        (first | rw [c6b0] | (simp only [i64_w, i32_w]; rw [c6b0]) | skip)
        replace H := Option.bind_eq_some_iff.mp H
        obtain ⟨t219, A80, H⟩ := H
        replace H : (if t219 = true then ((spec_l1In.f a0_2 0 (wrap64 ((l0_3.length : Int) - a0_1))).bind fun t220 => (if t220 = true then ((spec_l1In.f a0_4 0 3).bind fun t221 => (spec_TblOk.j0 k (!t221) l0_0 a0_1 a0_2 l0_3 a0_4)) else (spec_TblOk.j0 k true l0_0 a0_1 a0_2 l0_3 a0_4))) else (spec_TblOk.j0 k true l0_0 a0_1 a0_2 l0_3 a0_4)) = some r := H
        have A8 := Aside0.mk A80
        clear A80
        by_cases c9 : t219 = true
        · subst c9
          have H1 : ((spec_l1In.f a0_2 0 (wrap64 ((l0_3.length : Int) - a0_1))).bind fun t220 => (if t220 = true then ((spec_l1In.f a0_4 0 3).bind fun t221 => (spec_TblOk.j0 k (!t221) l0_0 a0_1 a0_2 l0_3 a0_4)) else (spec_TblOk.j0 k true l0_0 a0_1 a0_2 l0_3 a0_4))) = some r := by rw [if_pos rfl] at H; exact H
          clear H
          have H := H1
          clear H1
          replace H := Option.bind_eq_some_iff.mp H
          obtain ⟨t220, A100, H⟩ := H
          replace H : (if t220 = true then ((spec_l1In.f a0_4 0 3).bind fun t221 => (spec_TblOk.j0 k (!t221) l0_0 a0_1 a0_2 l0_3 a0_4)) else (spec_TblOk.j0 k true l0_0 a0_1 a0_2 l0_3 a0_4)) = some r := H
          have A10 := Aside0.mk A100
          clear A100
          by_cases c11 : t220 = true
          · subst c11
            have H1 : ((spec_l1In.f a0_4 0 3).bind fun t221 => (spec_TblOk.j0 k (!t221) l0_0 a0_1 a0_2 l0_3 a0_4)) = some r := by rw [if_pos rfl] at H; exact H
            clear H
            have H := H1
            clear H1
            replace H := Option.bind_eq_some_iff.mp H
            obtain ⟨t221, A120, H⟩ := H
            replace H : (spec_TblOk.j0 k (!t221) l0_0 a0_1 a0_2 l0_3 a0_4) = some r := H
            have A12 := Aside0.mk A120
            clear A120
            have H' := Aside0.mk H
            clear H
            have hcz13_0 : w3.cell? ⟨gb217, 0, none⟩ = some (.slice A0_0 l0_0.length c0_0) := (blk_cell BK217.out 0).trans rfl
            have hcz13_1 : w3.cell? ⟨gb217, 1, none⟩ = some (.int .i64 a0_1) := (blk_cell BK217.out 1).trans rfl
            have hcz13_2 : w3.cell? ⟨gb217, 2, none⟩ = some (.int .i64 a0_2) := (blk_cell BK217.out 2).trans rfl
            have hcz13_3 : w3.cell? ⟨gb217, 3, none⟩ = some (.slice A0_3 l0_3.length c0_3) := (blk_cell BK217.out 3).trans rfl
            have hcz13_4 : w3.cell? ⟨gb217, 4, none⟩ = some (.int .i64 a0_4) := (blk_cell BK217.out 4).trans rfl
            have hfz13_0 := blk_frozen BK217.out 0
            have hfz13_1 := blk_frozen BK217.out 1
            have hfz13_2 := blk_frozen BK217.out 2
            have hfz13_3 := blk_frozen BK217.out 3
            have hfz13_4 := blk_frozen BK217.out 4
            go_wp2_with (first | ((with_reducible refine gate_callee (f := 24) rfl ?_); refine goesL_ (some 9) rfl rfl Tryd.func24 (by kernel_rfl) rfl #[.int .i64 (l0_3.length : Int), .int .i64 1, .int .i64 8] rfl (by (try simp only [List.map_toArray, List.map_cons, List.map_nil]); first | done | rfl | (simp only [List.length_drop, List.length_take]; rfl)) ?_; (with_reducible refine (spec_l1In.calls (l0_3.length : Int) 1 8 true _ A4.out).mono ?_); rintro e w' ⟨rfl, ⟨nd, rfl⟩⟩; refine ⟨_, rfl, ?_⟩) | (go_at_call 24; (with_reducible refine (spec_l1In.calls a0_1 0 (l0_3.length : Int) true _ A8.out).mono ?_); rintro e w' ⟨rfl, ⟨nd, rfl⟩⟩) | (go_at_call 24; (with_reducible refine (spec_l1In.calls a0_2 0 (wrap64 ((l0_3.length : Int) - a0_1)) true _ A10.out).mono ?_); rintro e w' ⟨rfl, ⟨nd, rfl⟩⟩) | (go_at_call 24; (with_reducible refine (spec_l1In.calls a0_4 0 3 t221 _ A12.out).mono ?_); rintro e w' ⟨rfl, ⟨nd, rfl⟩⟩))
            go_meet
            case rel => exact ⟨_, (!t221), (by first | rfl | (simp; done) | (simp [*]; done)), H', ⟨by first | omega | exact Nat.le_refl _⟩, ⟨by (with_reducible repeat (first | refine blk_drewN ?_ _ | refine blk_drew ?_ | refine blk_alloc ?_ _)); exact BK217.out⟩, ⟨by repeat (first | (with_reducible first | exact HB.out | apply below_alloc | apply pw_below_drewN | apply below_drew1 | refine below_set ?_ GE217.out) | exact HB.out)⟩⟩
          · replace c11 := Bool.eq_false_iff.mpr c11
            subst c11
            have H1 : (spec_TblOk.j0 k true l0_0 a0_1 a0_2 l0_3 a0_4) = some r := by rw [if_neg (show ¬ (false = true) by decide)] at H; exact H
            clear H
            have H := H1
            clear H1
            have H' := Aside0.mk H
            clear H
            have hcz14_0 : w3.cell? ⟨gb217, 0, none⟩ = some (.slice A0_0 l0_0.length c0_0) := (blk_cell BK217.out 0).trans rfl
            have hcz14_1 : w3.cell? ⟨gb217, 1, none⟩ = some (.int .i64 a0_1) := (blk_cell BK217.out 1).trans rfl
            have hcz14_2 : w3.cell? ⟨gb217, 2, none⟩ = some (.int .i64 a0_2) := (blk_cell BK217.out 2).trans rfl
            have hcz14_3 : w3.cell? ⟨gb217, 3, none⟩ = some (.slice A0_3 l0_3.length c0_3) := (blk_cell BK217.out 3).trans rfl
            have hcz14_4 : w3.cell? ⟨gb217, 4, none⟩ = some (.int .i64 a0_4) := (blk_cell BK217.out 4).trans rfl
            have hfz14_0 := blk_frozen BK217.out 0
            have hfz14_1 := blk_frozen BK217.out 1
            have hfz14_2 := blk_frozen BK217.out 2
            have hfz14_3 := blk_frozen BK217.out 3
            have hfz14_4 := blk_frozen BK217.out 4
            go_wp2_with (first | ((with_reducible refine gate_callee (f := 24) rfl ?_); refine goesL_ (some 9) rfl rfl Tryd.func24 (by kernel_rfl) rfl #[.int .i64 (l0_3.length : Int), .int .i64 1, .int .i64 8] rfl (by (try simp only [List.map_toArray, List.map_cons, List.map_nil]); first | done | rfl | (simp only [List.length_drop, List.length_take]; rfl)) ?_; (with_reducible refine (spec_l1In.calls (l0_3.length : Int) 1 8 true _ A4.out).mono ?_); rintro e w' ⟨rfl, ⟨nd, rfl⟩⟩; refine ⟨_, rfl, ?_⟩) | (go_at_call 24; (with_reducible refine (spec_l1In.calls a0_1 0 (l0_3.length : Int) true _ A8.out).mono ?_); rintro e w' ⟨rfl, ⟨nd, rfl⟩⟩) | (go_at_call 24; (with_reducible refine (spec_l1In.calls a0_2 0 (wrap64 ((l0_3.length : Int) - a0_1)) false _ A10.out).mono ?_); rintro e w' ⟨rfl, ⟨nd, rfl⟩⟩))
            go_meet
            case rel => exact ⟨_, (true), (by first | rfl | (simp; done) | (simp [*]; done)), H', ⟨by first | omega | exact Nat.le_refl _⟩, ⟨by (with_reducible repeat (first | refine blk_drewN ?_ _ | refine blk_drew ?_ | refine blk_alloc ?_ _)); exact BK217.out⟩, ⟨by repeat (first | (with_reducible first | exact HB.out | apply below_alloc | apply pw_below_drewN | apply below_drew1 | refine below_set ?_ GE217.out) | exact HB.out)⟩⟩
        · replace c9 := Bool.eq_false_iff.mpr c9
          subst c9
          have H1 : (spec_TblOk.j0 k true l0_0 a0_1 a0_2 l0_3 a0_4) = some r := by rw [if_neg (show ¬ (false = true) by decide)] at H; exact H
          clear H
          have H := H1
          clear H1
          have H' := Aside0.mk H
          clear H
          have hcz15_0 : w3.cell? ⟨gb217, 0, none⟩ = some (.slice A0_0 l0_0.length c0_0) := (blk_cell BK217.out 0).trans rfl
          have hcz15_1 : w3.cell? ⟨gb217, 1, none⟩ = some (.int .i64 a0_1) := (blk_cell BK217.out 1).trans rfl
          have hcz15_2 : w3.cell? ⟨gb217, 2, none⟩ = some (.int .i64 a0_2) := (blk_cell BK217.out 2).trans rfl
          have hcz15_3 : w3.cell? ⟨gb217, 3, none⟩ = some (.slice A0_3 l0_3.length c0_3) := (blk_cell BK217.out 3).trans rfl
          have hcz15_4 : w3.cell? ⟨gb217, 4, none⟩ = some (.int .i64 a0_4) := (blk_cell BK217.out 4).trans rfl
          have hfz15_0 := blk_frozen BK217.out 0
          have hfz15_1 := blk_frozen BK217.out 1
          have hfz15_2 := blk_frozen BK217.out 2
          have hfz15_3 := blk_frozen BK217.out 3
          have hfz15_4 := blk_frozen BK217.out 4
          go_wp2_with (first | ((with_reducible refine gate_callee (f := 24) rfl ?_); refine goesL_ (some 9) rfl rfl Tryd.func24 (by kernel_rfl) rfl #[.int .i64 (l0_3.length : Int), .int .i64 1, .int .i64 8] rfl (by (try simp only [List.map_toArray, List.map_cons, List.map_nil]); first | done | rfl | (simp only [List.length_drop, List.length_take]; rfl)) ?_; (with_reducible refine (spec_l1In.calls (l0_3.length : Int) 1 8 true _ A4.out).mono ?_); rintro e w' ⟨rfl, ⟨nd, rfl⟩⟩; refine ⟨_, rfl, ?_⟩) | (go_at_call 24; (with_reducible refine (spec_l1In.calls a0_1 0 (l0_3.length : Int) false _ A8.out).mono ?_); rintro e w' ⟨rfl, ⟨nd, rfl⟩⟩))
          go_meet
          case rel => exact ⟨_, (true), (by first | rfl | (simp; done) | (simp [*]; done)), H', ⟨by first | omega | exact Nat.le_refl _⟩, ⟨by (with_reducible repeat (first | refine blk_drewN ?_ _ | refine blk_drew ?_ | refine blk_alloc ?_ _)); exact BK217.out⟩, ⟨by repeat (first | (with_reducible first | exact HB.out | apply below_alloc | apply pw_below_drewN | apply below_drew1 | refine below_set ?_ GE217.out) | exact HB.out)⟩⟩
    · replace c5 := Bool.eq_false_iff.mpr c5
      subst c5
      have H1 : (spec_TblOk.j0 k true l0_0 a0_1 a0_2 l0_3 a0_4) = some r := by rw [if_neg (show ¬ (false = true) by decide)] at H; exact H
      clear H
      have H := H1
      clear H1
      have H' := Aside0.mk H
      clear H
      have hcz16_0 : w3.cell? ⟨gb217, 0, none⟩ = some (.slice A0_0 l0_0.length c0_0) := (blk_cell BK217.out 0).trans rfl
      have hcz16_1 : w3.cell? ⟨gb217, 1, none⟩ = some (.int .i64 a0_1) := (blk_cell BK217.out 1).trans rfl
      have hcz16_2 : w3.cell? ⟨gb217, 2, none⟩ = some (.int .i64 a0_2) := (blk_cell BK217.out 2).trans rfl
      have hcz16_3 : w3.cell? ⟨gb217, 3, none⟩ = some (.slice A0_3 l0_3.length c0_3) := (blk_cell BK217.out 3).trans rfl
      have hcz16_4 : w3.cell? ⟨gb217, 4, none⟩ = some (.int .i64 a0_4) := (blk_cell BK217.out 4).trans rfl
      have hfz16_0 := blk_frozen BK217.out 0
      have hfz16_1 := blk_frozen BK217.out 1
      have hfz16_2 := blk_frozen BK217.out 2
      have hfz16_3 := blk_frozen BK217.out 3
      have hfz16_4 := blk_frozen BK217.out 4
      go_wp2_with (first | ((with_reducible refine gate_callee (f := 24) rfl ?_); refine goesL_ (some 9) rfl rfl Tryd.func24 (by kernel_rfl) rfl #[.int .i64 (l0_3.length : Int), .int .i64 1, .int .i64 8] rfl (by (try simp only [List.map_toArray, List.map_cons, List.map_nil]); first | done | rfl | (simp only [List.length_drop, List.length_take]; rfl)) ?_; (with_reducible refine (spec_l1In.calls (l0_3.length : Int) 1 8 false _ A4.out).mono ?_); rintro e w' ⟨rfl, ⟨nd, rfl⟩⟩; refine ⟨_, rfl, ?_⟩))
      go_meet
      case rel => exact ⟨_, (true), (by first | rfl | (simp; done) | (simp [*]; done)), H', ⟨by first | omega | exact Nat.le_refl _⟩, ⟨by (with_reducible repeat (first | refine blk_drewN ?_ _ | refine blk_drew ?_ | refine blk_alloc ?_ _)); exact BK217.out⟩, ⟨by repeat (first | (with_reducible first | exact HB.out | apply below_alloc | apply pw_below_drewN | apply below_drew1 | refine below_set ?_ GE217.out) | exact HB.out)⟩⟩
  case rest =>
    clear HC2
    try clear c1
    try clear c2
    try clear p2
    try clear c5
    try clear c6
    try clear c6b0
    try clear c6b1
    try clear p6
    try clear c8
    try clear c9
    try clear c11
    try clear hcz13_0
    try clear hcz13_1
    try clear hcz13_2
    try clear hcz13_3
    try clear hcz13_4
    try clear hcz14_0
    try clear hcz14_1
    try clear hcz14_2
    try clear hcz14_3
    try clear hcz14_4
    try clear hcz15_0
    try clear hcz15_1
    try clear hcz15_2
    try clear hcz15_3
    try clear hcz15_4
    try clear hcz16_0
    try clear hcz16_1
    try clear hcz16_2
    try clear hcz16_3
    try clear hcz16_4
    try clear hcz7_0
    try clear hcz7_1
    try clear hcz7_2
    try clear hcz7_3
    try clear hcz7_4
    try clear hfz13_0
    try clear hfz13_1
    try clear hfz13_2
    try clear hfz13_3
    try clear hfz13_4
    try clear hfz14_0
    try clear hfz14_1
    try clear hfz14_2
    try clear hfz14_3
    try clear hfz14_4
    try clear hfz15_0
    try clear hfz15_1
    try clear hfz15_2
    try clear hfz15_3
    try clear hfz15_4
    try clear hfz16_0
    try clear hfz16_1
    try clear hfz16_2
    try clear hfz16_3
    try clear hfz16_4
    try clear hfz7_0
    try clear hfz7_1
    try clear hfz7_2
    try clear hfz7_3
    try clear hfz7_4
    obtain ⟨kq, x43_1, rfl, HA, HJ1, BK217, HB⟩ := hcut
    cases kq with
    | zero => exact absurd HA.out (by simp [spec_TblOk.j0])
    | succ kj1 =>
      have H := HA.out
      clear HA
      simp only [spec_TblOk.j0] at H
      by_cases c17 : x43_1 = true
      · subst c17
        have H1 : (some false) = some r := by rw [if_pos rfl] at H; exact H
        clear H
        have H := H1
        clear H1
        obtain rfl := Option.some.inj H
        go_wp2
        go_ret
        exact ⟨by first | rfl | (simp [IntKind.wrap_i64, wrap64]; done) | (simp [errW_none, errW_some] <;> rfl) | (simp [*, errW_none, errW_some] <;> rfl), by repeat (first | (with_reducible first | exact HB.out | apply below_alloc | apply pw_below_drewN | apply below_drew1 | refine below_set ?_ GE217.out) | exact HB.out)⟩
      · replace c17 := Bool.eq_false_iff.mpr c17
        subst c17
        have H1 : (spec_TblOk.l0 kj1 0 l0_0 a0_1 a0_2 l0_3 a0_4) = some r := by rw [if_neg (show ¬ (false = true) by decide)] at H; exact H
        clear H
        have H := H1
        clear H1
        have H' := Aside0.mk H
        clear H
        go_wp2
        go_loopg [3] kj1 (fun kq v3 w' => ∃ (x3_2 : Int), v3 = .int .i64 x3_2 ∧ Aside0 (spec_TblOk.l0 kq x3_2 l0_0 a0_1 a0_2 l0_3 a0_4 = some r) ∧ Aside0 (kq ≤ kj1) ∧ Aside0 (w'.heap[gb217]? = some (.cells #[(.slice A0_0 l0_0.length c0_0), .int .i64 a0_1, .int .i64 a0_2, (.slice A0_3 l0_3.length c0_3), .int .i64 a0_4] 26 (0, 0))) ∧ Aside0 (Below w.heap.size w w'))
        case atStart => exact ⟨(0), (by first | rfl | (simp; done) | (simp [*]; done)), H', ⟨Nat.le_refl _⟩, ⟨by (with_reducible repeat (first | refine blk_drewN ?_ _ | refine blk_drew ?_ | refine blk_alloc ?_ _)); exact BK217.out⟩, ⟨by repeat (first | (with_reducible first | exact HB.out | apply below_alloc | apply pw_below_drewN | apply below_drew1 | refine below_set ?_ GE217.out) | exact HB.out)⟩⟩
        case round =>
          clear H'
          try clear c1
          try clear c2
          try clear p2
          try clear c5
          try clear c6
          try clear c6b0
          try clear c6b1
          try clear p6
          try clear c8
          try clear c9
          try clear c11
          try clear c17
          try clear hcz13_0
          try clear hcz13_1
          try clear hcz13_2
          try clear hcz13_3
          try clear hcz13_4
          try clear hcz14_0
          try clear hcz14_1
          try clear hcz14_2
          try clear hcz14_3
          try clear hcz14_4
          try clear hcz15_0
          try clear hcz15_1
          try clear hcz15_2
          try clear hcz15_3
          try clear hcz15_4
          try clear hcz16_0
          try clear hcz16_1
          try clear hcz16_2
          try clear hcz16_3
          try clear hcz16_4
          try clear hcz7_0
          try clear hcz7_1
          try clear hcz7_2
          try clear hcz7_3
          try clear hcz7_4
          try clear hfz13_0
          try clear hfz13_1
          try clear hfz13_2
          try clear hfz13_3
          try clear hfz13_4
          try clear hfz14_0
          try clear hfz14_1
          try clear hfz14_2
          try clear hfz14_3
          try clear hfz14_4
          try clear hfz15_0
          try clear hfz15_1
          try clear hfz15_2
          try clear hfz15_3
          try clear hfz15_4
          try clear hfz16_0
          try clear hfz16_1
          try clear hfz16_2
          try clear hfz16_3
          try clear hfz16_4
          try clear hfz7_0
          try clear hfz7_1
          try clear hfz7_2
          try clear hfz7_3
          try clear hfz7_4
          try clear p2
          try clear p6
          obtain ⟨x3_2, rfl, HA, HK2, BK217, HB⟩ := hrel
          cases gk with
          | zero => exact absurd HA.out (by simp [spec_TblOk.l0])
          | succ k2 =>
            have H := HA.out
            clear HA
            simp only [spec_TblOk.l0] at H
            by_cases c18 : x3_2 < (l0_0.length : Int)
            · rw [if_pos c18] at H
              have c18b0 : decide (x3_2 < (l0_0.length : Int)) = true := decide_eq_true c18
              clear c18
              by_cases c19 : 0 ≤ x3_2
              · rw [if_pos c19] at H
                have c19b0 : decide (0 ≤ x3_2) = true := decide_eq_true c19
                clear c19
                replace H := Option.bind_eq_some_iff.mp H
                obtain ⟨t223, A200, H⟩ := H
                replace H : (if t223 = true then (spec_TblOk.l0 k2 (wrap64 (x3_2 + 1)) l0_0 a0_1 a0_2 l0_3 a0_4) else (some false)) = some r := H
                have A20 := Aside0.mk A200
                clear A200
                by_cases c21 : t223 = true
                · subst c21
                  have H1 : (spec_TblOk.l0 k2 (wrap64 (x3_2 + 1)) l0_0 a0_1 a0_2 l0_3 a0_4) = some r := by rw [if_pos rfl] at H; exact H
                  clear H
                  have H := H1
                  clear H1
                  have H' := Aside0.mk H
                  clear H
                  have hcz22_0 : wr.cell? ⟨gb217, 0, none⟩ = some (.slice A0_0 l0_0.length c0_0) := (blk_cell BK217.out 0).trans rfl
                  have hcz22_1 : wr.cell? ⟨gb217, 1, none⟩ = some (.int .i64 a0_1) := (blk_cell BK217.out 1).trans rfl
                  have hcz22_2 : wr.cell? ⟨gb217, 2, none⟩ = some (.int .i64 a0_2) := (blk_cell BK217.out 2).trans rfl
                  have hcz22_3 : wr.cell? ⟨gb217, 3, none⟩ = some (.slice A0_3 l0_3.length c0_3) := (blk_cell BK217.out 3).trans rfl
                  have hcz22_4 : wr.cell? ⟨gb217, 4, none⟩ = some (.int .i64 a0_4) := (blk_cell BK217.out 4).trans rfl
                  have hfz22_0 := blk_frozen BK217.out 0
                  have hfz22_1 := blk_frozen BK217.out 1
                  have hfz22_2 := blk_frozen BK217.out 2
                  have hfz22_3 := blk_frozen BK217.out 3
                  have hfz22_4 := blk_frozen BK217.out 4
                  have p222 : 0 ≤ (x3_2 : Int) := of_decide_eq_true (by first | (with_reducible assumption) | assumption)
                  have q222 : x3_2 < (l0_0.length : Int) := of_decide_eq_true (by first | (with_reducible assumption) | assumption)
                  obtain ⟨ad222, e222, hx222_0, hx222_1⟩ := at_T57 HR0_0.out x3_2 p222 q222
                  cases e222
                  replace hx222_0 := (HB.out.cell (World.block_lt_of_cell? w _ hx222_0)).trans hx222_0
                  replace hx222_1 := (HB.out.cell (World.block_lt_of_cell? w _ hx222_1)).trans hx222_1
                  replace p222 := eq_true p222
                  replace q222 := eq_true q222
                  go_wp2_with (first | ((with_reducible refine gate_callee (f := 26) rfl ?_); refine goesL_ (some 56) rfl rfl Tryd.func26 (by kernel_rfl) rfl #[.agg #[.int .i64 ((rd_T57 l0_0 x3_2).f0), .int .i64 ((rd_T57 l0_0 x3_2).f1)]] rfl (by (try simp only [List.map_toArray, List.map_cons, List.map_nil]); first | done | rfl | (simp only [List.length_drop, List.length_take]; rfl)) ?_; (with_reducible refine (spec_l2Col.calls ((rd_T57 l0_0 x3_2).f0) ((rd_T57 l0_0 x3_2).f1) true _ A20.out).mono ?_); rintro e w23 ⟨rfl, hb⟩; refine ⟨_, rfl, ?_⟩; have n0_ := Aside0.mk (blk_below (g := gb217) (o := .cells #[.slice (some ad222) l0_0.length c0_0, .int .i64 a0_1, .int .i64 a0_2, .slice A0_3 l0_3.length c0_3, .int .i64 a0_4] 26 (0, 0)) (by (with_reducible repeat (first | refine blk_drewN ?_ _ | refine blk_drew ?_ | refine blk_alloc ?_ _)); exact BK217.out) hb); have n1_ := Aside0.mk (below_step (by repeat (first | (with_reducible first | exact HB.out | apply below_alloc | apply pw_below_drewN | apply below_drew1 | refine below_set ?_ GE217.out) | exact HB.out)) hb); clear BK217; clear HB; have BK217 := n0_; have HB := n1_; clear n0_ n1_; (try clear hb); (try clear hb2); (try clear hk); (try clear hi)))
                  go_roundg k2
                  case measure => have := HJ1.out; have := HK2.out; omega
                  case rel => exact ⟨(wrap64 (x3_2 + 1)), (by first | rfl | (simp; done) | (simp [*]; done)), H', ⟨by have := HJ1.out; have := HK2.out; omega⟩, ⟨by (with_reducible repeat (first | refine blk_drewN ?_ _ | refine blk_drew ?_ | refine blk_alloc ?_ _)); exact BK217.out⟩, ⟨by repeat (first | (with_reducible first | exact HB.out | apply below_alloc | apply pw_below_drewN | apply below_drew1 | refine below_set ?_ GE217.out) | exact HB.out)⟩⟩
                · replace c21 := Bool.eq_false_iff.mpr c21
                  subst c21
                  have H1 : (some false) = some r := by rw [if_neg (show ¬ (false = true) by decide)] at H; exact H
                  clear H
                  have H := H1
                  clear H1
                  obtain rfl := Option.some.inj H
                  have hcz24_0 : wr.cell? ⟨gb217, 0, none⟩ = some (.slice A0_0 l0_0.length c0_0) := (blk_cell BK217.out 0).trans rfl
                  have hcz24_1 : wr.cell? ⟨gb217, 1, none⟩ = some (.int .i64 a0_1) := (blk_cell BK217.out 1).trans rfl
                  have hcz24_2 : wr.cell? ⟨gb217, 2, none⟩ = some (.int .i64 a0_2) := (blk_cell BK217.out 2).trans rfl
                  have hcz24_3 : wr.cell? ⟨gb217, 3, none⟩ = some (.slice A0_3 l0_3.length c0_3) := (blk_cell BK217.out 3).trans rfl
                  have hcz24_4 : wr.cell? ⟨gb217, 4, none⟩ = some (.int .i64 a0_4) := (blk_cell BK217.out 4).trans rfl
                  have hfz24_0 := blk_frozen BK217.out 0
                  have hfz24_1 := blk_frozen BK217.out 1
                  have hfz24_2 := blk_frozen BK217.out 2
                  have hfz24_3 := blk_frozen BK217.out 3
                  have hfz24_4 := blk_frozen BK217.out 4
                  have p222 : 0 ≤ (x3_2 : Int) := of_decide_eq_true (by first | (with_reducible assumption) | assumption)
                  have q222 : x3_2 < (l0_0.length : Int) := of_decide_eq_true (by first | (with_reducible assumption) | assumption)
                  obtain ⟨ad222, e222, hx222_0, hx222_1⟩ := at_T57 HR0_0.out x3_2 p222 q222
                  cases e222
                  replace hx222_0 := (HB.out.cell (World.block_lt_of_cell? w _ hx222_0)).trans hx222_0
                  replace hx222_1 := (HB.out.cell (World.block_lt_of_cell? w _ hx222_1)).trans hx222_1
                  replace p222 := eq_true p222
                  replace q222 := eq_true q222
                  go_wp2_with (first | ((with_reducible refine gate_callee (f := 26) rfl ?_); refine goesL_ (some 56) rfl rfl Tryd.func26 (by kernel_rfl) rfl #[.agg #[.int .i64 ((rd_T57 l0_0 x3_2).f0), .int .i64 ((rd_T57 l0_0 x3_2).f1)]] rfl (by (try simp only [List.map_toArray, List.map_cons, List.map_nil]); first | done | rfl | (simp only [List.length_drop, List.length_take]; rfl)) ?_; (with_reducible refine (spec_l2Col.calls ((rd_T57 l0_0 x3_2).f0) ((rd_T57 l0_0 x3_2).f1) false _ A20.out).mono ?_); rintro e w25 ⟨rfl, hb⟩; refine ⟨_, rfl, ?_⟩; have n0_ := Aside0.mk (blk_below (g := gb217) (o := .cells #[.slice (some ad222) l0_0.length c0_0, .int .i64 a0_1, .int .i64 a0_2, .slice A0_3 l0_3.length c0_3, .int .i64 a0_4] 26 (0, 0)) (by (with_reducible repeat (first | refine blk_drewN ?_ _ | refine blk_drew ?_ | refine blk_alloc ?_ _)); exact BK217.out) hb); have n1_ := Aside0.mk (below_step (by repeat (first | (with_reducible first | exact HB.out | apply below_alloc | apply pw_below_drewN | apply below_drew1 | refine below_set ?_ GE217.out) | exact HB.out)) hb); clear BK217; clear HB; have BK217 := n0_; have HB := n1_; clear n0_ n1_; (try clear hb); (try clear hb2); (try clear hk); (try clear hi)))
                  go_ret
                  exact ⟨by first | rfl | (simp [IntKind.wrap_i64, wrap64]; done) | (simp [errW_none, errW_some] <;> rfl) | (simp [*, errW_none, errW_some] <;> rfl), by repeat (first | (with_reducible first | exact HB.out | apply below_alloc | apply pw_below_drewN | apply below_drew1 | refine below_set ?_ GE217.out) | exact HB.out)⟩
              · rw [if_neg c19] at H
                exact absurd H (by simp)
            · rw [if_neg c18] at H
              have c18b0 : decide (x3_2 < (l0_0.length : Int)) = false := decide_eq_false c18
              clear c18
              have H' := Aside0.mk H
              clear H
              have hcz26_0 : wr.cell? ⟨gb217, 0, none⟩ = some (.slice A0_0 l0_0.length c0_0) := (blk_cell BK217.out 0).trans rfl
              have hcz26_1 : wr.cell? ⟨gb217, 1, none⟩ = some (.int .i64 a0_1) := (blk_cell BK217.out 1).trans rfl
              have hcz26_2 : wr.cell? ⟨gb217, 2, none⟩ = some (.int .i64 a0_2) := (blk_cell BK217.out 2).trans rfl
              have hcz26_3 : wr.cell? ⟨gb217, 3, none⟩ = some (.slice A0_3 l0_3.length c0_3) := (blk_cell BK217.out 3).trans rfl
              have hcz26_4 : wr.cell? ⟨gb217, 4, none⟩ = some (.int .i64 a0_4) := (blk_cell BK217.out 4).trans rfl
              have hfz26_0 := blk_frozen BK217.out 0
              have hfz26_1 := blk_frozen BK217.out 1
              have hfz26_2 := blk_frozen BK217.out 2
              have hfz26_3 := blk_frozen BK217.out 3
              have hfz26_4 := blk_frozen BK217.out 4
              go_wp2
              go_loopg [4] k2 (fun kq v4 w' => ∃ (x4_3 : Int), v4 = .int .i64 x4_3 ∧ Aside0 (spec_TblOk.l1 kq x4_3 l0_0 a0_1 a0_2 l0_3 a0_4 = some r) ∧ Aside0 (kq ≤ k2) ∧ Aside0 (w'.heap[gb217]? = some (.cells #[(.slice A0_0 l0_0.length c0_0), .int .i64 a0_1, .int .i64 a0_2, (.slice A0_3 l0_3.length c0_3), .int .i64 a0_4] 26 (0, 0))) ∧ Aside0 (Below w.heap.size w w'))
              case atStart => exact ⟨(0), (by first | rfl | (simp; done) | (simp [*]; done)), H', ⟨Nat.le_refl _⟩, ⟨by (with_reducible repeat (first | refine blk_drewN ?_ _ | refine blk_drew ?_ | refine blk_alloc ?_ _)); exact BK217.out⟩, ⟨by repeat (first | (with_reducible first | exact HB.out | apply below_alloc | apply pw_below_drewN | apply below_drew1 | refine below_set ?_ GE217.out) | exact HB.out)⟩⟩
              case round =>
                clear H'
                try clear c1
                try clear c2
                try clear p2
                try clear q2
                try clear hx2
                try clear c5
                try clear c6
                try clear c6b0
                try clear c6b1
                try clear p6
                try clear c8
                try clear c9
                try clear c11
                try clear c17
                try clear c18
                try clear c18b0
                try clear c19
                try clear c19b0
                try clear c21
                try clear p22
                try clear q22
                try clear hx22
                try clear c24
                try clear c26
                try clear hcz13_0
                try clear hcz13_1
                try clear hcz13_2
                try clear hcz13_3
                try clear hcz13_4
                try clear hcz14_0
                try clear hcz14_1
                try clear hcz14_2
                try clear hcz14_3
                try clear hcz14_4
                try clear hcz15_0
                try clear hcz15_1
                try clear hcz15_2
                try clear hcz15_3
                try clear hcz15_4
                try clear hcz16_0
                try clear hcz16_1
                try clear hcz16_2
                try clear hcz16_3
                try clear hcz16_4
                try clear hcz22_0
                try clear hcz22_1
                try clear hcz22_2
                try clear hcz22_3
                try clear hcz22_4
                try clear hcz24_0
                try clear hcz24_1
                try clear hcz24_2
                try clear hcz24_3
                try clear hcz24_4
                try clear hcz26_0
                try clear hcz26_1
                try clear hcz26_2
                try clear hcz26_3
                try clear hcz26_4
                try clear hcz7_0
                try clear hcz7_1
                try clear hcz7_2
                try clear hcz7_3
                try clear hcz7_4
                try clear hfz13_0
                try clear hfz13_1
                try clear hfz13_2
                try clear hfz13_3
                try clear hfz13_4
                try clear hfz14_0
                try clear hfz14_1
                try clear hfz14_2
                try clear hfz14_3
                try clear hfz14_4
                try clear hfz15_0
                try clear hfz15_1
                try clear hfz15_2
                try clear hfz15_3
                try clear hfz15_4
                try clear hfz16_0
                try clear hfz16_1
                try clear hfz16_2
                try clear hfz16_3
                try clear hfz16_4
                try clear hfz22_0
                try clear hfz22_1
                try clear hfz22_2
                try clear hfz22_3
                try clear hfz22_4
                try clear hfz24_0
                try clear hfz24_1
                try clear hfz24_2
                try clear hfz24_3
                try clear hfz24_4
                try clear hfz26_0
                try clear hfz26_1
                try clear hfz26_2
                try clear hfz26_3
                try clear hfz26_4
                try clear hfz7_0
                try clear hfz7_1
                try clear hfz7_2
                try clear hfz7_3
                try clear hfz7_4
                try clear hx222_0
                try clear hx222_1
                try clear p2
                try clear p222
                try clear p6
                try clear q222
                obtain ⟨x4_3, rfl, HA, HK3, BK217, HB⟩ := hrel
                cases gk with
                | zero => exact absurd HA.out (by simp [spec_TblOk.l1])
                | succ k3 =>
                  have H := HA.out
                  clear HA
                  simp only [spec_TblOk.l1] at H
                  by_cases c27 : x4_3 < (l0_3.length : Int)
                  · rw [if_pos c27] at H
                    have c27b0 : decide (x4_3 < (l0_3.length : Int)) = true := decide_eq_true c27
                    clear c27
                    by_cases c28 : 0 ≤ x4_3
                    · rw [if_pos c28] at H
                      have c28b0 : decide (0 ≤ x4_3) = true := decide_eq_true c28
                      clear c28
                      by_cases c29 : (((rd_T42 l0_3 x4_3).f0).length : Int) > 5
                      · rw [if_pos c29] at H
                        have c29b0 : decide (5 < (((rd_T42 l0_3 x4_3).f0).length : Int)) = true := decide_eq_true c29
                        have c29b1 : decide (5 < ((rd_T42 l0_3 x4_3).f0).length) = true := decide_eq_true (by omega)
                        clear c29
                        obtain rfl := Option.some.inj H
                        have hcz30_0 : wr.cell? ⟨gb217, 0, none⟩ = some (.slice A0_0 l0_0.length c0_0) := (blk_cell BK217.out 0).trans rfl
                        have hcz30_1 : wr.cell? ⟨gb217, 1, none⟩ = some (.int .i64 a0_1) := (blk_cell BK217.out 1).trans rfl
                        have hcz30_2 : wr.cell? ⟨gb217, 2, none⟩ = some (.int .i64 a0_2) := (blk_cell BK217.out 2).trans rfl
                        have hcz30_3 : wr.cell? ⟨gb217, 3, none⟩ = some (.slice A0_3 l0_3.length c0_3) := (blk_cell BK217.out 3).trans rfl
                        have hcz30_4 : wr.cell? ⟨gb217, 4, none⟩ = some (.int .i64 a0_4) := (blk_cell BK217.out 4).trans rfl
                        have hfz30_0 := blk_frozen BK217.out 0
                        have hfz30_1 := blk_frozen BK217.out 1
                        have hfz30_2 := blk_frozen BK217.out 2
                        have hfz30_3 := blk_frozen BK217.out 3
                        have hfz30_4 := blk_frozen BK217.out 4
                        have p224 : 0 ≤ (x4_3 : Int) := of_decide_eq_true (by first | (with_reducible assumption) | assumption)
                        have q224 : x4_3 < (l0_3.length : Int) := of_decide_eq_true (by first | (with_reducible assumption) | assumption)
                        obtain ⟨ad224, A224_0, c224_0, e224, hx224_0, hx224_1, hl224_0, hi224_0⟩ := at_T42 HR0_3.out x4_3 p224 q224
                        cases e224
                        replace hx224_0 := (HB.out.cell (World.block_lt_of_cell? w _ hx224_0)).trans hx224_0
                        replace hx224_1 := (HB.out.cell (World.block_lt_of_cell? w _ hx224_1)).trans hx224_1
                        have HR224_0 := Aside0.mk hi224_0
                        have HC224_0 := Aside0.mk hl224_0
                        clear hi224_0 hl224_0
                        replace p224 := eq_true p224
                        replace q224 := eq_true q224
                        go_wp2
                        go_ret
                        exact ⟨by first | rfl | (simp [IntKind.wrap_i64, wrap64]; done) | (simp [errW_none, errW_some] <;> rfl) | (simp [*, errW_none, errW_some] <;> rfl), by repeat (first | (with_reducible first | exact HB.out | apply below_alloc | apply pw_below_drewN | apply below_drew1 | refine below_set ?_ GE217.out) | exact HB.out)⟩
                      · rw [if_neg c29] at H
                        have c29b0 : decide (5 < (((rd_T42 l0_3 x4_3).f0).length : Int)) = false := decide_eq_false c29
                        have c29b1 : decide (5 < ((rd_T42 l0_3 x4_3).f0).length) = false := decide_eq_false (by omega)
                        clear c29
                        have H' := Aside0.mk H
                        clear H
                        have hcz31_0 : wr.cell? ⟨gb217, 0, none⟩ = some (.slice A0_0 l0_0.length c0_0) := (blk_cell BK217.out 0).trans rfl
                        have hcz31_1 : wr.cell? ⟨gb217, 1, none⟩ = some (.int .i64 a0_1) := (blk_cell BK217.out 1).trans rfl
                        have hcz31_2 : wr.cell? ⟨gb217, 2, none⟩ = some (.int .i64 a0_2) := (blk_cell BK217.out 2).trans rfl
                        have hcz31_3 : wr.cell? ⟨gb217, 3, none⟩ = some (.slice A0_3 l0_3.length c0_3) := (blk_cell BK217.out 3).trans rfl
                        have hcz31_4 : wr.cell? ⟨gb217, 4, none⟩ = some (.int .i64 a0_4) := (blk_cell BK217.out 4).trans rfl
                        have hfz31_0 := blk_frozen BK217.out 0
                        have hfz31_1 := blk_frozen BK217.out 1
                        have hfz31_2 := blk_frozen BK217.out 2
                        have hfz31_3 := blk_frozen BK217.out 3
                        have hfz31_4 := blk_frozen BK217.out 4
                        have p224 : 0 ≤ (x4_3 : Int) := of_decide_eq_true (by first | (with_reducible assumption) | assumption)
                        have q224 : x4_3 < (l0_3.length : Int) := of_decide_eq_true (by first | (with_reducible assumption) | assumption)
                        obtain ⟨ad224, A224_0, c224_0, e224, hx224_0, hx224_1, hl224_0, hi224_0⟩ := at_T42 HR0_3.out x4_3 p224 q224
                        cases e224
                        replace hx224_0 := (HB.out.cell (World.block_lt_of_cell? w _ hx224_0)).trans hx224_0
                        replace hx224_1 := (HB.out.cell (World.block_lt_of_cell? w _ hx224_1)).trans hx224_1
                        have HR224_0 := Aside0.mk hi224_0
                        have HC224_0 := Aside0.mk hl224_0
                        clear hi224_0 hl224_0
                        replace p224 := eq_true p224
                        replace q224 := eq_true q224
                        go_wp2
                        go_loopg [5] k3 (fun kq v5 w' => ∃ (x5_4 : Int), v5 = .int .i64 x5_4 ∧ Aside0 (spec_TblOk.l2 kq x4_3 x5_4 l0_0 a0_1 a0_2 l0_3 a0_4 = some r) ∧ Aside0 (kq ≤ k3) ∧ Aside0 (w'.heap[gb217]? = some (.cells #[(.slice A0_0 l0_0.length c0_0), .int .i64 a0_1, .int .i64 a0_2, (.slice (some ad224) l0_3.length c0_3), .int .i64 a0_4] 26 (0, 0))) ∧ Aside0 (Below w.heap.size w w'))
                        case atStart => exact ⟨(0), (by first | rfl | (simp; done) | (simp [*]; done)), H', ⟨Nat.le_refl _⟩, ⟨by (with_reducible repeat (first | refine blk_drewN ?_ _ | refine blk_drew ?_ | refine blk_alloc ?_ _)); exact BK217.out⟩, ⟨by repeat (first | (with_reducible first | exact HB.out | apply below_alloc | apply pw_below_drewN | apply below_drew1 | refine below_set ?_ GE217.out) | exact HB.out)⟩⟩
                        case round =>
                          clear H'
                          try clear c1
                          try clear c2
                          try clear p2
                          try clear q2
                          try clear hx2
                          try clear c5
                          try clear c6
                          try clear c6b0
                          try clear c6b1
                          try clear p6
                          try clear c8
                          try clear c9
                          try clear c11
                          try clear c17
                          try clear c18
                          try clear c18b0
                          try clear c19
                          try clear c19b0
                          try clear c21
                          try clear c22
                          try clear p22
                          try clear q22
                          try clear hx22
                          try clear c24
                          try clear c26
                          try clear c27
                          try clear c27b0
                          try clear c28
                          try clear c28b0
                          try clear c29
                          try clear c29b0
                          try clear c29b1
                          try clear hcz13_0
                          try clear hcz13_1
                          try clear hcz13_2
                          try clear hcz13_3
                          try clear hcz13_4
                          try clear hcz14_0
                          try clear hcz14_1
                          try clear hcz14_2
                          try clear hcz14_3
                          try clear hcz14_4
                          try clear hcz15_0
                          try clear hcz15_1
                          try clear hcz15_2
                          try clear hcz15_3
                          try clear hcz15_4
                          try clear hcz16_0
                          try clear hcz16_1
                          try clear hcz16_2
                          try clear hcz16_3
                          try clear hcz16_4
                          try clear hcz22_0
                          try clear hcz22_1
                          try clear hcz22_2
                          try clear hcz22_3
                          try clear hcz22_4
                          try clear hcz24_0
                          try clear hcz24_1
                          try clear hcz24_2
                          try clear hcz24_3
                          try clear hcz24_4
                          try clear hcz26_0
                          try clear hcz26_1
                          try clear hcz26_2
                          try clear hcz26_3
                          try clear hcz26_4
                          try clear hcz30_0
                          try clear hcz30_1
                          try clear hcz30_2
                          try clear hcz30_3
                          try clear hcz30_4
                          try clear hcz31_0
                          try clear hcz31_1
                          try clear hcz31_2
                          try clear hcz31_3
                          try clear hcz31_4
                          try clear hcz7_0
                          try clear hcz7_1
                          try clear hcz7_2
                          try clear hcz7_3
                          try clear hcz7_4
                          try clear hfz13_0
                          try clear hfz13_1
                          try clear hfz13_2
                          try clear hfz13_3
                          try clear hfz13_4
                          try clear hfz14_0
                          try clear hfz14_1
                          try clear hfz14_2
                          try clear hfz14_3
                          try clear hfz14_4
                          try clear hfz15_0
                          try clear hfz15_1
                          try clear hfz15_2
                          try clear hfz15_3
                          try clear hfz15_4
                          try clear hfz16_0
                          try clear hfz16_1
                          try clear hfz16_2
                          try clear hfz16_3
                          try clear hfz16_4
                          try clear hfz22_0
                          try clear hfz22_1
                          try clear hfz22_2
                          try clear hfz22_3
                          try clear hfz22_4
                          try clear hfz24_0
                          try clear hfz24_1
                          try clear hfz24_2
                          try clear hfz24_3
                          try clear hfz24_4
                          try clear hfz26_0
                          try clear hfz26_1
                          try clear hfz26_2
                          try clear hfz26_3
                          try clear hfz26_4
                          try clear hfz30_0
                          try clear hfz30_1
                          try clear hfz30_2
                          try clear hfz30_3
                          try clear hfz30_4
                          try clear hfz31_0
                          try clear hfz31_1
                          try clear hfz31_2
                          try clear hfz31_3
                          try clear hfz31_4
                          try clear hfz7_0
                          try clear hfz7_1
                          try clear hfz7_2
                          try clear hfz7_3
                          try clear hfz7_4
                          try clear hx222_0
                          try clear hx222_1
                          try clear hx224_0
                          try clear hx224_1
                          try clear p2
                          try clear p22
                          try clear p222
                          try clear p224
                          try clear p6
                          try clear q2
                          try clear q22
                          try clear q222
                          try clear q224
                          obtain ⟨x5_4, rfl, HA, HK4, BK217, HB⟩ := hrel
                          cases gk with
                          | zero => exact absurd HA.out (by simp [spec_TblOk.l2])
                          | succ k4 =>
                            have H := HA.out
                            clear HA
                            simp only [spec_TblOk.l2] at H
                            by_cases c32 : 0 ≤ x4_3
                            · rw [if_pos c32] at H
                              have c32b0 : decide (0 ≤ x4_3) = true := decide_eq_true c32
                              clear c32
                              by_cases c33 : x4_3 < (l0_3.length : Int)
                              · rw [if_pos c33] at H
                                have c33b0 : decide (x4_3 < (l0_3.length : Int)) = true := decide_eq_true c33
                                clear c33
                                by_cases c34 : x5_4 < (((rd_T42 l0_3 x4_3).f0).length : Int)
                                · rw [if_pos c34] at H
                                  have c34b0 : decide (x5_4 < (((rd_T42 l0_3 x4_3).f0).length : Int)) = true := decide_eq_true c34
                                  clear c34
                                  by_cases c35 : 0 ≤ x5_4
                                  · rw [if_pos c35] at H
                                    have c35b0 : decide (0 ≤ x5_4) = true := decide_eq_true c35
                                    clear c35
                                    replace H := Option.bind_eq_some_iff.mp H
                                    obtain ⟨t228, A360, H⟩ := H
                                    replace H : (if t228 = true then (spec_TblOk.l2 k4 x4_3 (wrap64 (x5_4 + 1)) l0_0 a0_1 a0_2 l0_3 a0_4) else (some false)) = some r := H
                                    have A36 := Aside0.mk A360
                                    clear A360
                                    by_cases c37 : t228 = true
                                    · subst c37
                                      have H1 : (spec_TblOk.l2 k4 x4_3 (wrap64 (x5_4 + 1)) l0_0 a0_1 a0_2 l0_3 a0_4) = some r := by rw [if_pos rfl] at H; exact H
                                      clear H
                                      have H := H1
                                      clear H1
                                      have H' := Aside0.mk H
                                      clear H
                                      have hcz38_0 : wr.cell? ⟨gb217, 0, none⟩ = some (.slice A0_0 l0_0.length c0_0) := (blk_cell BK217.out 0).trans rfl
                                      have hcz38_1 : wr.cell? ⟨gb217, 1, none⟩ = some (.int .i64 a0_1) := (blk_cell BK217.out 1).trans rfl
                                      have hcz38_2 : wr.cell? ⟨gb217, 2, none⟩ = some (.int .i64 a0_2) := (blk_cell BK217.out 2).trans rfl
                                      have hcz38_3 : wr.cell? ⟨gb217, 3, none⟩ = some (.slice (some ad224) l0_3.length c0_3) := (blk_cell BK217.out 3).trans rfl
                                      have hcz38_4 : wr.cell? ⟨gb217, 4, none⟩ = some (.int .i64 a0_4) := (blk_cell BK217.out 4).trans rfl
                                      have hfz38_0 := blk_frozen BK217.out 0
                                      have hfz38_1 := blk_frozen BK217.out 1
                                      have hfz38_2 := blk_frozen BK217.out 2
                                      have hfz38_3 := blk_frozen BK217.out 3
                                      have hfz38_4 := blk_frozen BK217.out 4
                                      have p225 : 0 ≤ (x4_3 : Int) := of_decide_eq_true (by first | (with_reducible assumption) | assumption)
                                      have q225 : x4_3 < (l0_3.length : Int) := of_decide_eq_true (by first | (with_reducible assumption) | assumption)
                                      obtain ⟨ad225, A225_0, c225_0, e225, hx225_0, hx225_1, hl225_0, hi225_0⟩ := at_T42 HR0_3.out x4_3 p225 q225
                                      obtain rfl : ad224 = ad225 := (by injection e225)
                                      replace hx225_0 := (HB.out.cell (World.block_lt_of_cell? w _ hx225_0)).trans hx225_0
                                      replace hx225_1 := (HB.out.cell (World.block_lt_of_cell? w _ hx225_1)).trans hx225_1
                                      have HR225_0 := Aside0.mk hi225_0
                                      have HC225_0 := Aside0.mk hl225_0
                                      clear hi225_0 hl225_0
                                      replace p225 := eq_true p225
                                      replace q225 := eq_true q225
                                      have p226 : 0 ≤ (x4_3 : Int) := of_decide_eq_true (by first | (with_reducible assumption) | assumption)
                                      have q226 : x4_3 < (l0_3.length : Int) := of_decide_eq_true (by first | (with_reducible assumption) | assumption)
                                      obtain ⟨ad226, A226_0, c226_0, e226, hx226_0, hx226_1, hl226_0, hi226_0⟩ := at_T42 HR0_3.out x4_3 p226 q226
                                      obtain rfl : ad224 = ad226 := (by injection e226)
                                      replace hx226_0 := (HB.out.cell (World.block_lt_of_cell? w _ hx226_0)).trans hx226_0
                                      replace hx226_1 := (HB.out.cell (World.block_lt_of_cell? w _ hx226_1)).trans hx226_1
                                      have HR226_0 := Aside0.mk hi226_0
                                      have HC226_0 := Aside0.mk hl226_0
                                      clear hi226_0 hl226_0
                                      replace p226 := eq_true p226
                                      replace q226 := eq_true q226
                                      have ea_ := Option.some.inj (hx225_0.symm.trans hx226_0)
                                      injection ea_ with ea_ en_ ec_
                                      subst ea_
                                      subst ec_
                                      clear en_
                                      have p227 : 0 ≤ (x5_4 : Int) := of_decide_eq_true (by first | (with_reducible assumption) | assumption)
                                      have q227 : x5_4 < (((rd_T42 l0_3 x4_3).f0).length : Int) := of_decide_eq_true (by first | (with_reducible assumption) | assumption)
                                      obtain ⟨ad227, e227, hx227_0, hx227_1, hx227_2, hx227_3, hx227_4, hx227_5, hx227_6, hx227_7, hx227_8, hx227_9, hx227_10⟩ := at_T30 HR226_0.out x5_4 p227 q227
                                      cases e227
                                      replace hx227_0 := (HB.out.cell (World.block_lt_of_cell? w _ hx227_0)).trans hx227_0
                                      replace hx227_1 := (HB.out.cell (World.block_lt_of_cell? w _ hx227_1)).trans hx227_1
                                      replace hx227_2 := (HB.out.cell (World.block_lt_of_cell? w _ hx227_2)).trans hx227_2
                                      replace hx227_3 := (HB.out.cell (World.block_lt_of_cell? w _ hx227_3)).trans hx227_3
                                      replace hx227_4 := (HB.out.cell (World.block_lt_of_cell? w _ hx227_4)).trans hx227_4
                                      replace hx227_5 := (HB.out.cell (World.block_lt_of_cell? w _ hx227_5)).trans hx227_5
                                      replace hx227_6 := (HB.out.cell (World.block_lt_of_cell? w _ hx227_6)).trans hx227_6
                                      replace hx227_7 := (HB.out.cell (World.block_lt_of_cell? w _ hx227_7)).trans hx227_7
                                      replace hx227_8 := (HB.out.cell (World.block_lt_of_cell? w _ hx227_8)).trans hx227_8
                                      replace hx227_9 := (HB.out.cell (World.block_lt_of_cell? w _ hx227_9)).trans hx227_9
                                      replace hx227_10 := (HB.out.cell (World.block_lt_of_cell? w _ hx227_10)).trans hx227_10
                                      replace p227 := eq_true p227
                                      replace q227 := eq_true q227
                                      go_wp2_with (first | ((with_reducible refine gate_callee (f := 23) rfl ?_); refine goesL_ (some 93) rfl rfl Tryd.func23 (by kernel_rfl) rfl #[.agg #[.string ((rd_T30 ((rd_T42 l0_3 x4_3).f0) x5_4).f0), .int .i64 ((rd_T30 ((rd_T42 l0_3 x4_3).f0) x5_4).f1), .int .i64 ((rd_T30 ((rd_T42 l0_3 x4_3).f0) x5_4).f2), .int .i64 ((rd_T30 ((rd_T42 l0_3 x4_3).f0) x5_4).f3.f0), .int .i64 ((rd_T30 ((rd_T42 l0_3 x4_3).f0) x5_4).f3.f1), .int .i64 ((rd_T30 ((rd_T42 l0_3 x4_3).f0) x5_4).f4.f0), .int .i64 ((rd_T30 ((rd_T42 l0_3 x4_3).f0) x5_4).f4.f1), .int .i64 ((rd_T30 ((rd_T42 l0_3 x4_3).f0) x5_4).f5.f0), .int .i64 ((rd_T30 ((rd_T42 l0_3 x4_3).f0) x5_4).f5.f1), .int .i64 ((rd_T30 ((rd_T42 l0_3 x4_3).f0) x5_4).f6.f0), .int .i64 ((rd_T30 ((rd_T42 l0_3 x4_3).f0) x5_4).f6.f1)]] rfl (by (try simp only [List.map_toArray, List.map_cons, List.map_nil]); first | done | rfl | (simp only [List.length_drop, List.length_take]; rfl)) ?_; (with_reducible refine (spec_CellOk.calls k4 ((rd_T30 ((rd_T42 l0_3 x4_3).f0) x5_4).f0) ((rd_T30 ((rd_T42 l0_3 x4_3).f0) x5_4).f1) ((rd_T30 ((rd_T42 l0_3 x4_3).f0) x5_4).f2) ((rd_T30 ((rd_T42 l0_3 x4_3).f0) x5_4).f3.f0) ((rd_T30 ((rd_T42 l0_3 x4_3).f0) x5_4).f3.f1) ((rd_T30 ((rd_T42 l0_3 x4_3).f0) x5_4).f4.f0) ((rd_T30 ((rd_T42 l0_3 x4_3).f0) x5_4).f4.f1) ((rd_T30 ((rd_T42 l0_3 x4_3).f0) x5_4).f5.f0) ((rd_T30 ((rd_T42 l0_3 x4_3).f0) x5_4).f5.f1) ((rd_T30 ((rd_T42 l0_3 x4_3).f0) x5_4).f6.f0) ((rd_T30 ((rd_T42 l0_3 x4_3).f0) x5_4).f6.f1) true _ A36.out).mono ?_); rintro e w39 ⟨rfl, hb⟩; refine ⟨_, rfl, ?_⟩; have n0_ := Aside0.mk (blk_below (g := gb217) (o := .cells #[.slice A0_0 l0_0.length c0_0, .int .i64 a0_1, .int .i64 a0_2, .slice (some ad224) l0_3.length c0_3, .int .i64 a0_4] 26 (0, 0)) (by (with_reducible repeat (first | refine blk_drewN ?_ _ | refine blk_drew ?_ | refine blk_alloc ?_ _)); exact BK217.out) hb); have n1_ := Aside0.mk (below_step (by repeat (first | (with_reducible first | exact HB.out | apply below_alloc | apply pw_below_drewN | apply below_drew1 | refine below_set ?_ GE217.out) | exact HB.out)) hb); clear BK217; clear HB; have BK217 := n0_; have HB := n1_; clear n0_ n1_; (try clear hb); (try clear hb2); (try clear hk); (try clear hi)))
                                      go_roundg k4
                                      case measure => have := HJ1.out; have := HK2.out; have := HK3.out; have := HK4.out; omega
                                      case rel => exact ⟨(wrap64 (x5_4 + 1)), (by first | rfl | (simp; done) | (simp [*]; done)), H', ⟨by have := HJ1.out; have := HK2.out; have := HK3.out; have := HK4.out; omega⟩, ⟨by (with_reducible repeat (first | refine blk_drewN ?_ _ | refine blk_drew ?_ | refine blk_alloc ?_ _)); exact BK217.out⟩, ⟨by repeat (first | (with_reducible first | exact HB.out | apply below_alloc | apply pw_below_drewN | apply below_drew1 | refine below_set ?_ GE217.out) | exact HB.out)⟩⟩
                                    · replace c37 := Bool.eq_false_iff.mpr c37
                                      subst c37
                                      have H1 : (some false) = some r := by rw [if_neg (show ¬ (false = true) by decide)] at H; exact H
                                      clear H
                                      have H := H1
                                      clear H1
                                      obtain rfl := Option.some.inj H
                                      have hcz40_0 : wr.cell? ⟨gb217, 0, none⟩ = some (.slice A0_0 l0_0.length c0_0) := (blk_cell BK217.out 0).trans rfl
                                      have hcz40_1 : wr.cell? ⟨gb217, 1, none⟩ = some (.int .i64 a0_1) := (blk_cell BK217.out 1).trans rfl
                                      have hcz40_2 : wr.cell? ⟨gb217, 2, none⟩ = some (.int .i64 a0_2) := (blk_cell BK217.out 2).trans rfl
                                      have hcz40_3 : wr.cell? ⟨gb217, 3, none⟩ = some (.slice (some ad224) l0_3.length c0_3) := (blk_cell BK217.out 3).trans rfl
                                      have hcz40_4 : wr.cell? ⟨gb217, 4, none⟩ = some (.int .i64 a0_4) := (blk_cell BK217.out 4).trans rfl
                                      have hfz40_0 := blk_frozen BK217.out 0
                                      have hfz40_1 := blk_frozen BK217.out 1
                                      have hfz40_2 := blk_frozen BK217.out 2
                                      have hfz40_3 := blk_frozen BK217.out 3
                                      have hfz40_4 := blk_frozen BK217.out 4
                                      have p225 : 0 ≤ (x4_3 : Int) := of_decide_eq_true (by first | (with_reducible assumption) | assumption)
                                      have q225 : x4_3 < (l0_3.length : Int) := of_decide_eq_true (by first | (with_reducible assumption) | assumption)
                                      obtain ⟨ad225, A225_0, c225_0, e225, hx225_0, hx225_1, hl225_0, hi225_0⟩ := at_T42 HR0_3.out x4_3 p225 q225
                                      obtain rfl : ad224 = ad225 := (by injection e225)
                                      replace hx225_0 := (HB.out.cell (World.block_lt_of_cell? w _ hx225_0)).trans hx225_0
                                      replace hx225_1 := (HB.out.cell (World.block_lt_of_cell? w _ hx225_1)).trans hx225_1
                                      have HR225_0 := Aside0.mk hi225_0
                                      have HC225_0 := Aside0.mk hl225_0
                                      clear hi225_0 hl225_0
                                      replace p225 := eq_true p225
                                      replace q225 := eq_true q225
                                      have p226 : 0 ≤ (x4_3 : Int) := of_decide_eq_true (by first | (with_reducible assumption) | assumption)
                                      have q226 : x4_3 < (l0_3.length : Int) := of_decide_eq_true (by first | (with_reducible assumption) | assumption)
                                      obtain ⟨ad226, A226_0, c226_0, e226, hx226_0, hx226_1, hl226_0, hi226_0⟩ := at_T42 HR0_3.out x4_3 p226 q226
                                      obtain rfl : ad224 = ad226 := (by injection e226)
                                      replace hx226_0 := (HB.out.cell (World.block_lt_of_cell? w _ hx226_0)).trans hx226_0
                                      replace hx226_1 := (HB.out.cell (World.block_lt_of_cell? w _ hx226_1)).trans hx226_1
                                      have HR226_0 := Aside0.mk hi226_0
                                      have HC226_0 := Aside0.mk hl226_0
                                      clear hi226_0 hl226_0
                                      replace p226 := eq_true p226
                                      replace q226 := eq_true q226
                                      have ea_ := Option.some.inj (hx225_0.symm.trans hx226_0)
                                      injection ea_ with ea_ en_ ec_
                                      subst ea_
                                      subst ec_
                                      clear en_
                                      have p227 : 0 ≤ (x5_4 : Int) := of_decide_eq_true (by first | (with_reducible assumption) | assumption)
                                      have q227 : x5_4 < (((rd_T42 l0_3 x4_3).f0).length : Int) := of_decide_eq_true (by first | (with_reducible assumption) | assumption)
                                      obtain ⟨ad227, e227, hx227_0, hx227_1, hx227_2, hx227_3, hx227_4, hx227_5, hx227_6, hx227_7, hx227_8, hx227_9, hx227_10⟩ := at_T30 HR226_0.out x5_4 p227 q227
                                      cases e227
                                      replace hx227_0 := (HB.out.cell (World.block_lt_of_cell? w _ hx227_0)).trans hx227_0
                                      replace hx227_1 := (HB.out.cell (World.block_lt_of_cell? w _ hx227_1)).trans hx227_1
                                      replace hx227_2 := (HB.out.cell (World.block_lt_of_cell? w _ hx227_2)).trans hx227_2
                                      replace hx227_3 := (HB.out.cell (World.block_lt_of_cell? w _ hx227_3)).trans hx227_3
                                      replace hx227_4 := (HB.out.cell (World.block_lt_of_cell? w _ hx227_4)).trans hx227_4
                                      replace hx227_5 := (HB.out.cell (World.block_lt_of_cell? w _ hx227_5)).trans hx227_5
                                      replace hx227_6 := (HB.out.cell (World.block_lt_of_cell? w _ hx227_6)).trans hx227_6
                                      replace hx227_7 := (HB.out.cell (World.block_lt_of_cell? w _ hx227_7)).trans hx227_7
                                      replace hx227_8 := (HB.out.cell (World.block_lt_of_cell? w _ hx227_8)).trans hx227_8
                                      replace hx227_9 := (HB.out.cell (World.block_lt_of_cell? w _ hx227_9)).trans hx227_9
                                      replace hx227_10 := (HB.out.cell (World.block_lt_of_cell? w _ hx227_10)).trans hx227_10
                                      replace p227 := eq_true p227
                                      replace q227 := eq_true q227
                                      go_wp2_with (first | ((with_reducible refine gate_callee (f := 23) rfl ?_); refine goesL_ (some 93) rfl rfl Tryd.func23 (by kernel_rfl) rfl #[.agg #[.string ((rd_T30 ((rd_T42 l0_3 x4_3).f0) x5_4).f0), .int .i64 ((rd_T30 ((rd_T42 l0_3 x4_3).f0) x5_4).f1), .int .i64 ((rd_T30 ((rd_T42 l0_3 x4_3).f0) x5_4).f2), .int .i64 ((rd_T30 ((rd_T42 l0_3 x4_3).f0) x5_4).f3.f0), .int .i64 ((rd_T30 ((rd_T42 l0_3 x4_3).f0) x5_4).f3.f1), .int .i64 ((rd_T30 ((rd_T42 l0_3 x4_3).f0) x5_4).f4.f0), .int .i64 ((rd_T30 ((rd_T42 l0_3 x4_3).f0) x5_4).f4.f1), .int .i64 ((rd_T30 ((rd_T42 l0_3 x4_3).f0) x5_4).f5.f0), .int .i64 ((rd_T30 ((rd_T42 l0_3 x4_3).f0) x5_4).f5.f1), .int .i64 ((rd_T30 ((rd_T42 l0_3 x4_3).f0) x5_4).f6.f0), .int .i64 ((rd_T30 ((rd_T42 l0_3 x4_3).f0) x5_4).f6.f1)]] rfl (by (try simp only [List.map_toArray, List.map_cons, List.map_nil]); first | done | rfl | (simp only [List.length_drop, List.length_take]; rfl)) ?_; (with_reducible refine (spec_CellOk.calls k4 ((rd_T30 ((rd_T42 l0_3 x4_3).f0) x5_4).f0) ((rd_T30 ((rd_T42 l0_3 x4_3).f0) x5_4).f1) ((rd_T30 ((rd_T42 l0_3 x4_3).f0) x5_4).f2) ((rd_T30 ((rd_T42 l0_3 x4_3).f0) x5_4).f3.f0) ((rd_T30 ((rd_T42 l0_3 x4_3).f0) x5_4).f3.f1) ((rd_T30 ((rd_T42 l0_3 x4_3).f0) x5_4).f4.f0) ((rd_T30 ((rd_T42 l0_3 x4_3).f0) x5_4).f4.f1) ((rd_T30 ((rd_T42 l0_3 x4_3).f0) x5_4).f5.f0) ((rd_T30 ((rd_T42 l0_3 x4_3).f0) x5_4).f5.f1) ((rd_T30 ((rd_T42 l0_3 x4_3).f0) x5_4).f6.f0) ((rd_T30 ((rd_T42 l0_3 x4_3).f0) x5_4).f6.f1) false _ A36.out).mono ?_); rintro e w41 ⟨rfl, hb⟩; refine ⟨_, rfl, ?_⟩; have n0_ := Aside0.mk (blk_below (g := gb217) (o := .cells #[.slice A0_0 l0_0.length c0_0, .int .i64 a0_1, .int .i64 a0_2, .slice (some ad224) l0_3.length c0_3, .int .i64 a0_4] 26 (0, 0)) (by (with_reducible repeat (first | refine blk_drewN ?_ _ | refine blk_drew ?_ | refine blk_alloc ?_ _)); exact BK217.out) hb); have n1_ := Aside0.mk (below_step (by repeat (first | (with_reducible first | exact HB.out | apply below_alloc | apply pw_below_drewN | apply below_drew1 | refine below_set ?_ GE217.out) | exact HB.out)) hb); clear BK217; clear HB; have BK217 := n0_; have HB := n1_; clear n0_ n1_; (try clear hb); (try clear hb2); (try clear hk); (try clear hi)))
                                      go_ret
                                      exact ⟨by first | rfl | (simp [IntKind.wrap_i64, wrap64]; done) | (simp [errW_none, errW_some] <;> rfl) | (simp [*, errW_none, errW_some] <;> rfl), by repeat (first | (with_reducible first | exact HB.out | apply below_alloc | apply pw_below_drewN | apply below_drew1 | refine below_set ?_ GE217.out) | exact HB.out)⟩
                                  · rw [if_neg c35] at H
                                    exact absurd H (by simp)
                                · rw [if_neg c34] at H
                                  have c34b0 : decide (x5_4 < (((rd_T42 l0_3 x4_3).f0).length : Int)) = false := decide_eq_false c34
                                  clear c34
                                  have H' := Aside0.mk H
                                  clear H
                                  have hcz42_0 : wr.cell? ⟨gb217, 0, none⟩ = some (.slice A0_0 l0_0.length c0_0) := (blk_cell BK217.out 0).trans rfl
                                  have hcz42_1 : wr.cell? ⟨gb217, 1, none⟩ = some (.int .i64 a0_1) := (blk_cell BK217.out 1).trans rfl
                                  have hcz42_2 : wr.cell? ⟨gb217, 2, none⟩ = some (.int .i64 a0_2) := (blk_cell BK217.out 2).trans rfl
                                  have hcz42_3 : wr.cell? ⟨gb217, 3, none⟩ = some (.slice (some ad224) l0_3.length c0_3) := (blk_cell BK217.out 3).trans rfl
                                  have hcz42_4 : wr.cell? ⟨gb217, 4, none⟩ = some (.int .i64 a0_4) := (blk_cell BK217.out 4).trans rfl
                                  have hfz42_0 := blk_frozen BK217.out 0
                                  have hfz42_1 := blk_frozen BK217.out 1
                                  have hfz42_2 := blk_frozen BK217.out 2
                                  have hfz42_3 := blk_frozen BK217.out 3
                                  have hfz42_4 := blk_frozen BK217.out 4
                                  have p225 : 0 ≤ (x4_3 : Int) := of_decide_eq_true (by first | (with_reducible assumption) | assumption)
                                  have q225 : x4_3 < (l0_3.length : Int) := of_decide_eq_true (by first | (with_reducible assumption) | assumption)
                                  obtain ⟨ad225, A225_0, c225_0, e225, hx225_0, hx225_1, hl225_0, hi225_0⟩ := at_T42 HR0_3.out x4_3 p225 q225
                                  obtain rfl : ad224 = ad225 := (by injection e225)
                                  replace hx225_0 := (HB.out.cell (World.block_lt_of_cell? w _ hx225_0)).trans hx225_0
                                  replace hx225_1 := (HB.out.cell (World.block_lt_of_cell? w _ hx225_1)).trans hx225_1
                                  have HR225_0 := Aside0.mk hi225_0
                                  have HC225_0 := Aside0.mk hl225_0
                                  clear hi225_0 hl225_0
                                  replace p225 := eq_true p225
                                  replace q225 := eq_true q225
                                  go_wp2
                                  go_roundg k4
                                  case measure => have := HJ1.out; have := HK2.out; have := HK3.out; have := HK4.out; omega
                                  case rel => exact ⟨(wrap64 (x4_3 + 1)), (by first | rfl | (simp; done) | (simp [*]; done)), H', ⟨by have := HJ1.out; have := HK2.out; have := HK3.out; have := HK4.out; omega⟩, ⟨by (with_reducible repeat (first | refine blk_drewN ?_ _ | refine blk_drew ?_ | refine blk_alloc ?_ _)); exact BK217.out⟩, ⟨by repeat (first | (with_reducible first | exact HB.out | apply below_alloc | apply pw_below_drewN | apply below_drew1 | refine below_set ?_ GE217.out) | exact HB.out)⟩⟩
                              · rw [if_neg c33] at H
                                exact absurd H (by simp)
                            · rw [if_neg c32] at H
                              exact absurd H (by simp)
                    · rw [if_neg c28] at H
                      exact absurd H (by simp)
                  · rw [if_neg c27] at H
                    have c27b0 : decide (x4_3 < (l0_3.length : Int)) = false := decide_eq_false c27
                    clear c27
                    obtain rfl := Option.some.inj H
                    have hcz43_0 : wr.cell? ⟨gb217, 0, none⟩ = some (.slice A0_0 l0_0.length c0_0) := (blk_cell BK217.out 0).trans rfl
                    have hcz43_1 : wr.cell? ⟨gb217, 1, none⟩ = some (.int .i64 a0_1) := (blk_cell BK217.out 1).trans rfl
                    have hcz43_2 : wr.cell? ⟨gb217, 2, none⟩ = some (.int .i64 a0_2) := (blk_cell BK217.out 2).trans rfl
                    have hcz43_3 : wr.cell? ⟨gb217, 3, none⟩ = some (.slice A0_3 l0_3.length c0_3) := (blk_cell BK217.out 3).trans rfl
                    have hcz43_4 : wr.cell? ⟨gb217, 4, none⟩ = some (.int .i64 a0_4) := (blk_cell BK217.out 4).trans rfl
                    have hfz43_0 := blk_frozen BK217.out 0
                    have hfz43_1 := blk_frozen BK217.out 1
                    have hfz43_2 := blk_frozen BK217.out 2
                    have hfz43_3 := blk_frozen BK217.out 3
                    have hfz43_4 := blk_frozen BK217.out 4
                    go_wp2
                    go_ret
                    exact ⟨by first | rfl | (simp [IntKind.wrap_i64, wrap64]; done) | (simp [errW_none, errW_some] <;> rfl) | (simp [*, errW_none, errW_some] <;> rfl), by repeat (first | (with_reducible first | exact HB.out | apply below_alloc | apply pw_below_drewN | apply below_drew1 | refine below_set ?_ GE217.out) | exact HB.out)⟩


end Go.Proofs.YtaihfkjfbjcmhabDoor.Q
