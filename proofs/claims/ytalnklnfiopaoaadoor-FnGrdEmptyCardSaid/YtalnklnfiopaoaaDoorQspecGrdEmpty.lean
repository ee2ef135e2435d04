-- Told by a program of this session (uprint.py, ulay.py).
import Derived.Test.YtalnklnfiopaoaaDoorQ0
import Derived.Test.YtalnklnfiopaoaaDoorQspecl1In
import Derived.Test.YtalnklnfiopaoaaDoorQspecDrawGrdEmpty
namespace Go.Proofs.YtalnklnfiopaoaaDoor.Q
open Go.RowKit Go.Proofs.YtalnklnfiopaoaaDoorW.PrintWords Go.Proofs.YtalnklnfiopaoaaDoorW.PrintLast Go.Proofs.YtalnklnfiopaoaaDoorW.PrintMore
attribute [local go_sem] max2_int min2_int max_two min_two max_three min_three max_four min_four
set_option linter.unusedVariables false
set_option linter.unusedSimpArgs false

/-! ### spec_GrdEmpty: function 6 -/
def spec_GrdEmpty.l0 : Nat → Int → Int → Int → Int → List (S36) → Option (Int)
  | 0, _, _, _, _, _ => none
  | k + 1, x3, x4, x315000, x315001, x315002 => if x4 < (x315002.length : Int) then (if 0 ≤ x4 then (spec_GrdEmpty.l0 k (wrap64 (x3 - (wrap64 (((rd_T36 x315002 x4).f2) * ((rd_T36 x315002 x4).f3))))) (wrap64 (x4 + 1)) x315000 x315001 x315002) else (none)) else (some x3)
def spec_GrdEmpty.f (k : Nat) (a0_0 : Int) (a0_1 : Int) (l0_2 : List (S36)) : Option (Int) := (spec_GrdOk.f k a0_0 a0_1 l0_2).bind fun t315 => (if t315 = true then (spec_GrdEmpty.l0 k (wrap64 (a0_0 * a0_1)) 0 a0_0 a0_1 l0_2) else (some 0))
theorem spec_GrdEmpty.mono_l : ∀ k, (∀ y0 y1 y2 y3 y4, LeO (spec_GrdEmpty.l0 k y0 y1 y2 y3 y4) (spec_GrdEmpty.l0 (k + 1) y0 y1 y2 y3 y4))
  | 0 => fun _ _ _ _ _ r h => by simp [spec_GrdEmpty.l0] at h
  | k + 1 => by
    have ih0 := spec_GrdEmpty.mono_l k
    · intro y0 y1 y2 y3 y4
      unfold spec_GrdEmpty.l0
      repeat' first
      | (with_reducible exact ih0 _ _ _ _ _)
      | (with_reducible exact spec_GrdOk.mono _ _ _ _)
      | (with_reducible exact LeO.refl _)
      | (with_reducible exact LeO.none _)
      | (with_reducible refine LeO.ite ?_ ?_)
      | (with_reducible refine LeO.bind ?_ (fun _ => ?_))
      | exact ih0 _ _ _ _ _
      | exact spec_GrdOk.mono _ _ _ _
      | exact LeO.none _
      | refine LeO.ite ?_ ?_
      | refine LeO.bind ?_ (fun _ => ?_)
theorem spec_GrdEmpty.mono : ∀ a0 a1 a2 k, LeO (spec_GrdEmpty.f k a0 a1 a2) (spec_GrdEmpty.f (k + 1) a0 a1 a2) := by
  intro a0 a1 a2 k
  have ih0 := spec_GrdEmpty.mono_l k
  unfold spec_GrdEmpty.f
  repeat' first
      | (with_reducible exact ih0 _ _ _ _ _)
      | (with_reducible exact spec_GrdOk.mono _ _ _ _)
      | (with_reducible exact LeO.refl _)
      | (with_reducible exact LeO.none _)
      | (with_reducible refine LeO.ite ?_ ?_)
      | (with_reducible refine LeO.bind ?_ (fun _ => ?_))
      | exact ih0 _ _ _ _ _
      | exact spec_GrdOk.mono _ _ _ _
      | exact LeO.none _
      | refine LeO.ite ?_ ?_
      | refine LeO.bind ?_ (fun _ => ?_)
set_option maxHeartbeats 8000000 in
set_option maxRecDepth 100000 in
theorem spec_GrdEmpty.calls (k : Nat) (a0_0 : Int) (a0_1 : Int) (A0_2 : Option Addr) (c0_2 : Nat) (l0_2 : List (S36)) (r : Int) (w : World) (hr0_2 : Kd.C k36 w A0_2 l0_2.length l0_2) (hc0_2 : l0_2.length ≤ c0_2) (h : spec_GrdEmpty.f k a0_0 a0_1 l0_2 = some r) :
    Calls Tryd.prog 6 #[.agg #[.int .i64 a0_0, .int .i64 a0_1, .slice A0_2 l0_2.length c0_2]] w fun e w' => e = .returned (.int .i64 r) ∧ Below w.heap.size w w' := by
  have hu25 := Tryd.underlying25
  have HR0_2 := Aside0.mk hr0_2
  have HC0_2 := Aside0.mk hc0_2
  clear hr0_2 hc0_2
  have HB := Aside0.mk (Below.refl w.heap.size w)
  have H : ((spec_GrdOk.f k a0_0 a0_1 l0_2).bind fun t315 => (if t315 = true then (spec_GrdEmpty.l0 k (wrap64 (a0_0 * a0_1)) 0 a0_0 a0_1 l0_2) else (some 0))) = some r := h
  clear h
  replace H := Option.bind_eq_some_iff.mp H
  obtain ⟨t315, A20, H⟩ := H
  replace H : (if t315 = true then (spec_GrdEmpty.l0 k (wrap64 (a0_0 * a0_1)) 0 a0_0 a0_1 l0_2) else (some 0)) = some r := H
  have A2 := Aside0.mk A20
  clear A20
  by_cases c3 : t315 = true
  · subst c3
    have H1 : (spec_GrdEmpty.l0 k (wrap64 (a0_0 * a0_1)) 0 a0_0 a0_1 l0_2) = some r := by rw [if_pos rfl] at H; exact H
    clear H
    have H := H1
    clear H1
    have H' := Aside0.mk H
    clear H
    go_enter Tryd.func6, Tryd.ntmps6
    go_wp2_with (first | ((with_reducible refine gate_dst (N := 1) rfl ?_); refine box_event ?hg (N := 1) ?hd (cs := #[.int .i64 a0_0, .int .i64 a0_1, .slice A0_2 l0_2.length c0_2]) (t := 25) ?hr ?_; (case hd => rfl); (case hg => rfl); (case hr => first | (go_simp; done) | (go_simp; rfl)); intro gb314 hg w4 hbox hb; have n0_ := Aside0.mk (below_step (by repeat (first | (with_reducible first | exact HB.out | apply below_alloc | apply pw_below_drewN | apply below_drew1) | exact HB.out)) hb); have n1_ := Aside0.mk (hbox); have n2_ := Aside0.mk ((by rw [hg]; exact (below_size (by repeat (first | (with_reducible first | exact HB.out | apply below_alloc | apply pw_below_drewN | apply below_drew1) | exact HB.out))) : w.heap.size ≤ gb314)); have n3_ := Aside0.mk ((by rw [hg]; exact (below_size (by repeat (first | (with_reducible first | exact HB.out | apply below_alloc | apply pw_below_drewN | apply below_drew1) | exact HB.out))) : w.heap.size ≤ gb314)); clear HB; have HB := n0_; have BK314 := n1_; have GW314 := n2_; have GE314 := n3_; clear n0_ n1_ n2_ n3_; clear hb hbox hg; have hcz5_0 : w4.cell? ⟨gb314, 0, none⟩ = some (.int .i64 a0_0) := (blk_cell BK314.out 0).trans rfl; have hcz5_1 : w4.cell? ⟨gb314, 1, none⟩ = some (.int .i64 a0_1) := (blk_cell BK314.out 1).trans rfl; have hcz5_2 : w4.cell? ⟨gb314, 2, none⟩ = some (.slice A0_2 l0_2.length c0_2) := (blk_cell BK314.out 2).trans rfl; have hfz5_0 := blk_frozen BK314.out 0; have hfz5_1 := blk_frozen BK314.out 1; have hfz5_2 := blk_frozen BK314.out 2) | (go_at_call 8; (with_reducible refine (spec_GrdOk.calls k a0_0 a0_1 _ _ l0_2 true _ ?side1 ?side2 A2.out).mono ?_); (case side1 => repeat (first | exact HR0_2.out | exact (Kd.C_below HR0_2.out HB.out) | (with_reducible refine Kd.C_alloc ?_ _) | (with_reducible refine Kd.C_drewN ?_ _) | (with_reducible refine Kd.C_drew ?_))); (case side2 => exact HC0_2.out); rintro e w6 ⟨rfl, hb⟩; have n0_ := Aside0.mk (blk_below (g := gb314) (o := .cells #[.int .i64 a0_0, .int .i64 a0_1, .slice A0_2 l0_2.length c0_2] 25 (0, 0)) (by (with_reducible repeat (first | refine blk_drewN ?_ _ | refine blk_drew ?_ | refine blk_alloc ?_ _)); exact BK314.out) hb); have n1_ := Aside0.mk (below_step (by repeat (first | (with_reducible first | exact HB.out | apply below_alloc | apply pw_below_drewN | apply below_drew1 | refine below_set ?_ GE314.out) | exact HB.out)) hb); clear BK314; clear HB; have BK314 := n0_; have HB := n1_; clear n0_ n1_; (try clear hb); (try clear hb2); (try clear hk); (try clear hi); have hcz7_0 : w6.cell? ⟨gb314, 0, none⟩ = some (.int .i64 a0_0) := (blk_cell BK314.out 0).trans rfl; have hcz7_1 : w6.cell? ⟨gb314, 1, none⟩ = some (.int .i64 a0_1) := (blk_cell BK314.out 1).trans rfl; have hcz7_2 : w6.cell? ⟨gb314, 2, none⟩ = some (.slice A0_2 l0_2.length c0_2) := (blk_cell BK314.out 2).trans rfl; have hfz7_0 := blk_frozen BK314.out 0; have hfz7_1 := blk_frozen BK314.out 1; have hfz7_2 := blk_frozen BK314.out 2))
    repeat (go_quiet (first | ((with_reducible refine gate_dst (N := 1) rfl ?_); refine box_event ?hg (N := 1) ?hd (cs := #[.int .i64 a0_0, .int .i64 a0_1, .slice A0_2 l0_2.length c0_2]) (t := 25) ?hr ?_; (case hd => rfl); (case hg => rfl); (case hr => first | (go_simp; done) | (go_simp; rfl)); intro gb314 hg w4 hbox hb; have n0_ := Aside0.mk (below_step (by repeat (first | (with_reducible first | exact HB.out | apply below_alloc | apply pw_below_drewN | apply below_drew1) | exact HB.out)) hb); have n1_ := Aside0.mk (hbox); have n2_ := Aside0.mk ((by rw [hg]; exact (below_size (by repeat (first | (with_reducible first | exact HB.out | apply below_alloc | apply pw_below_drewN | apply below_drew1) | exact HB.out))) : w.heap.size ≤ gb314)); have n3_ := Aside0.mk ((by rw [hg]; exact (below_size (by repeat (first | (with_reducible first | exact HB.out | apply below_alloc | apply pw_below_drewN | apply below_drew1) | exact HB.out))) : w.heap.size ≤ gb314)); clear HB; have HB := n0_; have BK314 := n1_; have GW314 := n2_; have GE314 := n3_; clear n0_ n1_ n2_ n3_; clear hb hbox hg; have hcz5_0 : w4.cell? ⟨gb314, 0, none⟩ = some (.int .i64 a0_0) := (blk_cell BK314.out 0).trans rfl; have hcz5_1 : w4.cell? ⟨gb314, 1, none⟩ = some (.int .i64 a0_1) := (blk_cell BK314.out 1).trans rfl; have hcz5_2 : w4.cell? ⟨gb314, 2, none⟩ = some (.slice A0_2 l0_2.length c0_2) := (blk_cell BK314.out 2).trans rfl; have hfz5_0 := blk_frozen BK314.out 0; have hfz5_1 := blk_frozen BK314.out 1; have hfz5_2 := blk_frozen BK314.out 2) | (go_at_call 8; (with_reducible refine (spec_GrdOk.calls k a0_0 a0_1 _ _ l0_2 true _ ?side1 ?side2 A2.out).mono ?_); (case side1 => repeat (first | exact HR0_2.out | exact (Kd.C_below HR0_2.out HB.out) | (with_reducible refine Kd.C_alloc ?_ _) | (with_reducible refine Kd.C_drewN ?_ _) | (with_reducible refine Kd.C_drew ?_))); (case side2 => exact HC0_2.out); rintro e w6 ⟨rfl, hb⟩; have n0_ := Aside0.mk (blk_below (g := gb314) (o := .cells #[.int .i64 a0_0, .int .i64 a0_1, .slice A0_2 l0_2.length c0_2] 25 (0, 0)) (by (with_reducible repeat (first | refine blk_drewN ?_ _ | refine blk_drew ?_ | refine blk_alloc ?_ _)); exact BK314.out) hb); have n1_ := Aside0.mk (below_step (by repeat (first | (with_reducible first | exact HB.out | apply below_alloc | apply pw_below_drewN | apply below_drew1 | refine below_set ?_ GE314.out) | exact HB.out)) hb); clear BK314; clear HB; have BK314 := n0_; have HB := n1_; clear n0_ n1_; (try clear hb); (try clear hb2); (try clear hk); (try clear hi); have hcz7_0 : w6.cell? ⟨gb314, 0, none⟩ = some (.int .i64 a0_0) := (blk_cell BK314.out 0).trans rfl; have hcz7_1 : w6.cell? ⟨gb314, 1, none⟩ = some (.int .i64 a0_1) := (blk_cell BK314.out 1).trans rfl; have hcz7_2 : w6.cell? ⟨gb314, 2, none⟩ = some (.slice A0_2 l0_2.length c0_2) := (blk_cell BK314.out 2).trans rfl; have hfz7_0 := blk_frozen BK314.out 0; have hfz7_1 := blk_frozen BK314.out 1; have hfz7_2 := blk_frozen BK314.out 2)); try go_wp2_with (first | ((with_reducible refine gate_dst (N := 1) rfl ?_); refine box_event ?hg (N := 1) ?hd (cs := #[.int .i64 a0_0, .int .i64 a0_1, .slice A0_2 l0_2.length c0_2]) (t := 25) ?hr ?_; (case hd => rfl); (case hg => rfl); (case hr => first | (go_simp; done) | (go_simp; rfl)); intro gb314 hg w4 hbox hb; have n0_ := Aside0.mk (below_step (by repeat (first | (with_reducible first | exact HB.out | apply below_alloc | apply pw_below_drewN | apply below_drew1) | exact HB.out)) hb); have n1_ := Aside0.mk (hbox); have n2_ := Aside0.mk ((by rw [hg]; exact (below_size (by repeat (first | (with_reducible first | exact HB.out | apply below_alloc | apply pw_below_drewN | apply below_drew1) | exact HB.out))) : w.heap.size ≤ gb314)); have n3_ := Aside0.mk ((by rw [hg]; exact (below_size (by repeat (first | (with_reducible first | exact HB.out | apply below_alloc | apply pw_below_drewN | apply below_drew1) | exact HB.out))) : w.heap.size ≤ gb314)); clear HB; have HB := n0_; have BK314 := n1_; have GW314 := n2_; have GE314 := n3_; clear n0_ n1_ n2_ n3_; clear hb hbox hg; have hcz5_0 : w4.cell? ⟨gb314, 0, none⟩ = some (.int .i64 a0_0) := (blk_cell BK314.out 0).trans rfl; have hcz5_1 : w4.cell? ⟨gb314, 1, none⟩ = some (.int .i64 a0_1) := (blk_cell BK314.out 1).trans rfl; have hcz5_2 : w4.cell? ⟨gb314, 2, none⟩ = some (.slice A0_2 l0_2.length c0_2) := (blk_cell BK314.out 2).trans rfl; have hfz5_0 := blk_frozen BK314.out 0; have hfz5_1 := blk_frozen BK314.out 1; have hfz5_2 := blk_frozen BK314.out 2) | (go_at_call 8; (with_reducible refine (spec_GrdOk.calls k a0_0 a0_1 _ _ l0_2 true _ ?side1 ?side2 A2.out).mono ?_); (case side1 => repeat (first | exact HR0_2.out | exact (Kd.C_below HR0_2.out HB.out) | (with_reducible refine Kd.C_alloc ?_ _) | (with_reducible refine Kd.C_drewN ?_ _) | (with_reducible refine Kd.C_drew ?_))); (case side2 => exact HC0_2.out); rintro e w6 ⟨rfl, hb⟩; have n0_ := Aside0.mk (blk_below (g := gb314) (o := .cells #[.int .i64 a0_0, .int .i64 a0_1, .slice A0_2 l0_2.length c0_2] 25 (0, 0)) (by (with_reducible repeat (first | refine blk_drewN ?_ _ | refine blk_drew ?_ | refine blk_alloc ?_ _)); exact BK314.out) hb); have n1_ := Aside0.mk (below_step (by repeat (first | (with_reducible first | exact HB.out | apply below_alloc | apply pw_below_drewN | apply below_drew1 | refine below_set ?_ GE314.out) | exact HB.out)) hb); clear BK314; clear HB; have BK314 := n0_; have HB := n1_; clear n0_ n1_; (try clear hb); (try clear hb2); (try clear hk); (try clear hi); have hcz7_0 : w6.cell? ⟨gb314, 0, none⟩ = some (.int .i64 a0_0) := (blk_cell BK314.out 0).trans rfl; have hcz7_1 : w6.cell? ⟨gb314, 1, none⟩ = some (.int .i64 a0_1) := (blk_cell BK314.out 1).trans rfl; have hcz7_2 : w6.cell? ⟨gb314, 2, none⟩ = some (.slice A0_2 l0_2.length c0_2) := (blk_cell BK314.out 2).trans rfl; have hfz7_0 := blk_frozen BK314.out 0; have hfz7_1 := blk_frozen BK314.out 1; have hfz7_2 := blk_frozen BK314.out 2)))
    go_loopg [3, 4] k (fun kq v3 v4 w' => ∃ (x3_1 : Int) (x4_1 : Int), v3 = .int .i64 x3_1 ∧ v4 = .int .i64 x4_1 ∧ Aside0 (spec_GrdEmpty.l0 kq x3_1 x4_1 a0_0 a0_1 l0_2 = some r) ∧ Aside0 (kq ≤ k) ∧ Aside0 (w'.heap[gb314]? = some (.cells #[.int .i64 a0_0, .int .i64 a0_1, (.slice A0_2 l0_2.length c0_2)] 25 (0, 0))) ∧ Aside0 (Below w.heap.size w w'))
    case atStart => exact ⟨(wrap64 (a0_0 * a0_1)), (0), (by first | rfl | (simp; done) | (simp [*]; done)), (by first | rfl | (simp; done) | (simp [*]; done)), H', ⟨Nat.le_refl _⟩, ⟨by (with_reducible repeat (first | refine blk_drewN ?_ _ | refine blk_drew ?_ | refine blk_alloc ?_ _)); exact BK314.out⟩, ⟨by repeat (first | (with_reducible first | exact HB.out | apply below_alloc | apply pw_below_drewN | apply below_drew1 | refine below_set ?_ GE314.out) | exact HB.out)⟩⟩
    case round =>
      clear H'
      try clear p2
      try clear c3
      try clear c6
      try clear p6
      try clear hcz5_0
      try clear hcz5_1
      try clear hcz5_2
      try clear hcz7_0
      try clear hcz7_1
      try clear hcz7_2
      try clear hfz5_0
      try clear hfz5_1
      try clear hfz5_2
      try clear hfz7_0
      try clear hfz7_1
      try clear hfz7_2
      obtain ⟨x3_1, x4_1, rfl, rfl, HA, HK1, BK314, HB⟩ := hrel
      cases gk with
      | zero => exact absurd HA.out (by simp [spec_GrdEmpty.l0])
      | succ k1 =>
        have H := HA.out
        clear HA
        simp only [spec_GrdEmpty.l0] at H
        by_cases c8 : x4_1 < (l0_2.length : Int)
        · rw [if_pos c8] at H
          have c8b0 : decide (x4_1 < (l0_2.length : Int)) = true := decide_eq_true c8
          clear c8
          by_cases c9 : 0 ≤ x4_1
          · rw [if_pos c9] at H
            have c9b0 : decide (0 ≤ x4_1) = true := decide_eq_true c9
            clear c9
            have H' := Aside0.mk H
            clear H
            have hcz10_0 : wr.cell? ⟨gb314, 0, none⟩ = some (.int .i64 a0_0) := (blk_cell BK314.out 0).trans rfl
            have hcz10_1 : wr.cell? ⟨gb314, 1, none⟩ = some (.int .i64 a0_1) := (blk_cell BK314.out 1).trans rfl
            have hcz10_2 : wr.cell? ⟨gb314, 2, none⟩ = some (.slice A0_2 l0_2.length c0_2) := (blk_cell BK314.out 2).trans rfl
            have hfz10_0 := blk_frozen BK314.out 0
            have hfz10_1 := blk_frozen BK314.out 1
            have hfz10_2 := blk_frozen BK314.out 2
            have p316 : 0 ≤ (x4_1 : Int) := of_decide_eq_true (by first | (with_reducible assumption) | assumption)
            have q316 : x4_1 < (l0_2.length : Int) := of_decide_eq_true (by first | (with_reducible assumption) | assumption)
            obtain ⟨ad316, e316, hx316_0, hx316_1, hx316_2, hx316_3, hx316_4⟩ := at_T36 HR0_2.out x4_1 p316 q316
            cases e316
            replace hx316_0 := (HB.out.cell (World.block_lt_of_cell? w _ hx316_0)).trans hx316_0
            replace hx316_1 := (HB.out.cell (World.block_lt_of_cell? w _ hx316_1)).trans hx316_1
            replace hx316_2 := (HB.out.cell (World.block_lt_of_cell? w _ hx316_2)).trans hx316_2
            replace hx316_3 := (HB.out.cell (World.block_lt_of_cell? w _ hx316_3)).trans hx316_3
            replace hx316_4 := (HB.out.cell (World.block_lt_of_cell? w _ hx316_4)).trans hx316_4
            replace p316 := eq_true p316
            replace q316 := eq_true q316
            have p317 : 0 ≤ (x4_1 : Int) := of_decide_eq_true (by first | (with_reducible assumption) | assumption)
            have q317 : x4_1 < (l0_2.length : Int) := of_decide_eq_true (by first | (with_reducible assumption) | assumption)
            obtain ⟨ad317, e317, hx317_0, hx317_1, hx317_2, hx317_3, hx317_4⟩ := at_T36 HR0_2.out x4_1 p317 q317
            obtain rfl : ad316 = ad317 := (by injection e317)
            replace hx317_0 := (HB.out.cell (World.block_lt_of_cell? w _ hx317_0)).trans hx317_0
            replace hx317_1 := (HB.out.cell (World.block_lt_of_cell? w _ hx317_1)).trans hx317_1
            replace hx317_2 := (HB.out.cell (World.block_lt_of_cell? w _ hx317_2)).trans hx317_2
            replace hx317_3 := (HB.out.cell (World.block_lt_of_cell? w _ hx317_3)).trans hx317_3
            replace hx317_4 := (HB.out.cell (World.block_lt_of_cell? w _ hx317_4)).trans hx317_4
            replace p317 := eq_true p317
            replace q317 := eq_true q317
            go_wp2
            repeat (go_quiet (fail); try go_wp2)
            go_roundg k1
            case measure => have := HK1.out; omega
            case rel => exact ⟨(wrap64 (x3_1 - (wrap64 (((rd_T36 l0_2 x4_1).f2) * ((rd_T36 l0_2 x4_1).f3))))), (wrap64 (x4_1 + 1)), (by first | rfl | (simp; done) | (simp [*]; done)), (by first | rfl | (simp; done) | (simp [*]; done)), H', ⟨by have := HK1.out; omega⟩, ⟨by (with_reducible repeat (first | refine blk_drewN ?_ _ | refine blk_drew ?_ | refine blk_alloc ?_ _)); exact BK314.out⟩, ⟨by repeat (first | (with_reducible first | exact HB.out | apply below_alloc | apply pw_below_drewN | apply below_drew1 | refine below_set ?_ GE314.out) | exact HB.out)⟩⟩
          · rw [if_neg c9] at H
            exact absurd H (by simp)
        · rw [if_neg c8] at H
          have c8b0 : decide (x4_1 < (l0_2.length : Int)) = false := decide_eq_false c8
          clear c8
          obtain rfl := Option.some.inj H
          have hcz11_0 : wr.cell? ⟨gb314, 0, none⟩ = some (.int .i64 a0_0) := (blk_cell BK314.out 0).trans rfl
          have hcz11_1 : wr.cell? ⟨gb314, 1, none⟩ = some (.int .i64 a0_1) := (blk_cell BK314.out 1).trans rfl
          have hcz11_2 : wr.cell? ⟨gb314, 2, none⟩ = some (.slice A0_2 l0_2.length c0_2) := (blk_cell BK314.out 2).trans rfl
          have hfz11_0 := blk_frozen BK314.out 0
          have hfz11_1 := blk_frozen BK314.out 1
          have hfz11_2 := blk_frozen BK314.out 2
          go_wp2
          repeat (go_quiet (fail); try go_wp2)
          go_ret
          exact ⟨by first | rfl | (simp [IntKind.wrap_i64, wrap64]; done) | (simp [errW_none, errW_some] <;> rfl) | (simp [*, errW_none, errW_some] <;> rfl), by repeat (first | (with_reducible first | exact HB.out | apply below_alloc | apply pw_below_drewN | apply below_drew1 | refine below_set ?_ GE314.out) | exact HB.out)⟩
  · replace c3 := Bool.eq_false_iff.mpr c3
    subst c3
    have H1 : (some 0) = some r := by rw [if_neg (show ¬ (false = true) by decide)] at H; exact H
    clear H
    have H := H1
    clear H1
    obtain rfl := Option.some.inj H
    go_enter Tryd.func6, Tryd.ntmps6
    go_wp2_with (first | ((with_reducible refine gate_dst (N := 1) rfl ?_); refine box_event ?hg (N := 1) ?hd (cs := #[.int .i64 a0_0, .int .i64 a0_1, .slice A0_2 l0_2.length c0_2]) (t := 25) ?hr ?_; (case hd => rfl); (case hg => rfl); (case hr => first | (go_simp; done) | (go_simp; rfl)); intro gb314 hg w12 hbox hb; have n0_ := Aside0.mk (below_step (by repeat (first | (with_reducible first | exact HB.out | apply below_alloc | apply pw_below_drewN | apply below_drew1) | exact HB.out)) hb); have n1_ := Aside0.mk (hbox); have n2_ := Aside0.mk ((by rw [hg]; exact (below_size (by repeat (first | (with_reducible first | exact HB.out | apply below_alloc | apply pw_below_drewN | apply below_drew1) | exact HB.out))) : w.heap.size ≤ gb314)); have n3_ := Aside0.mk ((by rw [hg]; exact (below_size (by repeat (first | (with_reducible first | exact HB.out | apply below_alloc | apply pw_below_drewN | apply below_drew1) | exact HB.out))) : w.heap.size ≤ gb314)); clear HB; have HB := n0_; have BK314 := n1_; have GW314 := n2_; have GE314 := n3_; clear n0_ n1_ n2_ n3_; clear hb hbox hg; have hcz13_0 : w12.cell? ⟨gb314, 0, none⟩ = some (.int .i64 a0_0) := (blk_cell BK314.out 0).trans rfl; have hcz13_1 : w12.cell? ⟨gb314, 1, none⟩ = some (.int .i64 a0_1) := (blk_cell BK314.out 1).trans rfl; have hcz13_2 : w12.cell? ⟨gb314, 2, none⟩ = some (.slice A0_2 l0_2.length c0_2) := (blk_cell BK314.out 2).trans rfl; have hfz13_0 := blk_frozen BK314.out 0; have hfz13_1 := blk_frozen BK314.out 1; have hfz13_2 := blk_frozen BK314.out 2) | (go_at_call 8; (with_reducible refine (spec_GrdOk.calls k a0_0 a0_1 _ _ l0_2 false _ ?side1 ?side2 A2.out).mono ?_); (case side1 => repeat (first | exact HR0_2.out | exact (Kd.C_below HR0_2.out HB.out) | (with_reducible refine Kd.C_alloc ?_ _) | (with_reducible refine Kd.C_drewN ?_ _) | (with_reducible refine Kd.C_drew ?_))); (case side2 => exact HC0_2.out); rintro e w14 ⟨rfl, hb⟩; have n0_ := Aside0.mk (blk_below (g := gb314) (o := .cells #[.int .i64 a0_0, .int .i64 a0_1, .slice A0_2 l0_2.length c0_2] 25 (0, 0)) (by (with_reducible repeat (first | refine blk_drewN ?_ _ | refine blk_drew ?_ | refine blk_alloc ?_ _)); exact BK314.out) hb); have n1_ := Aside0.mk (below_step (by repeat (first | (with_reducible first | exact HB.out | apply below_alloc | apply pw_below_drewN | apply below_drew1 | refine below_set ?_ GE314.out) | exact HB.out)) hb); clear BK314; clear HB; have BK314 := n0_; have HB := n1_; clear n0_ n1_; (try clear hb); (try clear hb2); (try clear hk); (try clear hi)))
    repeat (go_quiet (first | ((with_reducible refine gate_dst (N := 1) rfl ?_); refine box_event ?hg (N := 1) ?hd (cs := #[.int .i64 a0_0, .int .i64 a0_1, .slice A0_2 l0_2.length c0_2]) (t := 25) ?hr ?_; (case hd => rfl); (case hg => rfl); (case hr => first | (go_simp; done) | (go_simp; rfl)); intro gb314 hg w12 hbox hb; have n0_ := Aside0.mk (below_step (by repeat (first | (with_reducible first | exact HB.out | apply below_alloc | apply pw_below_drewN | apply below_drew1) | exact HB.out)) hb); have n1_ := Aside0.mk (hbox); have n2_ := Aside0.mk ((by rw [hg]; exact (below_size (by repeat (first | (with_reducible first | exact HB.out | apply below_alloc | apply pw_below_drewN | apply below_drew1) | exact HB.out))) : w.heap.size ≤ gb314)); have n3_ := Aside0.mk ((by rw [hg]; exact (below_size (by repeat (first | (with_reducible first | exact HB.out | apply below_alloc | apply pw_below_drewN | apply below_drew1) | exact HB.out))) : w.heap.size ≤ gb314)); clear HB; have HB := n0_; have BK314 := n1_; have GW314 := n2_; have GE314 := n3_; clear n0_ n1_ n2_ n3_; clear hb hbox hg; have hcz13_0 : w12.cell? ⟨gb314, 0, none⟩ = some (.int .i64 a0_0) := (blk_cell BK314.out 0).trans rfl; have hcz13_1 : w12.cell? ⟨gb314, 1, none⟩ = some (.int .i64 a0_1) := (blk_cell BK314.out 1).trans rfl; have hcz13_2 : w12.cell? ⟨gb314, 2, none⟩ = some (.slice A0_2 l0_2.length c0_2) := (blk_cell BK314.out 2).trans rfl; have hfz13_0 := blk_frozen BK314.out 0; have hfz13_1 := blk_frozen BK314.out 1; have hfz13_2 := blk_frozen BK314.out 2) | (go_at_call 8; (with_reducible refine (spec_GrdOk.calls k a0_0 a0_1 _ _ l0_2 false _ ?side1 ?side2 A2.out).mono ?_); (case side1 => repeat (first | exact HR0_2.out | exact (Kd.C_below HR0_2.out HB.out) | (with_reducible refine Kd.C_alloc ?_ _) | (with_reducible refine Kd.C_drewN ?_ _) | (with_reducible refine Kd.C_drew ?_))); (case side2 => exact HC0_2.out); rintro e w14 ⟨rfl, hb⟩; have n0_ := Aside0.mk (blk_below (g := gb314) (o := .cells #[.int .i64 a0_0, .int .i64 a0_1, .slice A0_2 l0_2.length c0_2] 25 (0, 0)) (by (with_reducible repeat (first | refine blk_drewN ?_ _ | refine blk_drew ?_ | refine blk_alloc ?_ _)); exact BK314.out) hb); have n1_ := Aside0.mk (below_step (by repeat (first | (with_reducible first | exact HB.out | apply below_alloc | apply pw_below_drewN | apply below_drew1 | refine below_set ?_ GE314.out) | exact HB.out)) hb); clear BK314; clear HB; have BK314 := n0_; have HB := n1_; clear n0_ n1_; (try clear hb); (try clear hb2); (try clear hk); (try clear hi))); try go_wp2_with (first | ((with_reducible refine gate_dst (N := 1) rfl ?_); refine box_event ?hg (N := 1) ?hd (cs := #[.int .i64 a0_0, .int .i64 a0_1, .slice A0_2 l0_2.length c0_2]) (t := 25) ?hr ?_; (case hd => rfl); (case hg => rfl); (case hr => first | (go_simp; done) | (go_simp; rfl)); intro gb314 hg w12 hbox hb; have n0_ := Aside0.mk (below_step (by repeat (first | (with_reducible first | exact HB.out | apply below_alloc | apply pw_below_drewN | apply below_drew1) | exact HB.out)) hb); have n1_ := Aside0.mk (hbox); have n2_ := Aside0.mk ((by rw [hg]; exact (below_size (by repeat (first | (with_reducible first | exact HB.out | apply below_alloc | apply pw_below_drewN | apply below_drew1) | exact HB.out))) : w.heap.size ≤ gb314)); have n3_ := Aside0.mk ((by rw [hg]; exact (below_size (by repeat (first | (with_reducible first | exact HB.out | apply below_alloc | apply pw_below_drewN | apply below_drew1) | exact HB.out))) : w.heap.size ≤ gb314)); clear HB; have HB := n0_; have BK314 := n1_; have GW314 := n2_; have GE314 := n3_; clear n0_ n1_ n2_ n3_; clear hb hbox hg; have hcz13_0 : w12.cell? ⟨gb314, 0, none⟩ = some (.int .i64 a0_0) := (blk_cell BK314.out 0).trans rfl; have hcz13_1 : w12.cell? ⟨gb314, 1, none⟩ = some (.int .i64 a0_1) := (blk_cell BK314.out 1).trans rfl; have hcz13_2 : w12.cell? ⟨gb314, 2, none⟩ = some (.slice A0_2 l0_2.length c0_2) := (blk_cell BK314.out 2).trans rfl; have hfz13_0 := blk_frozen BK314.out 0; have hfz13_1 := blk_frozen BK314.out 1; have hfz13_2 := blk_frozen BK314.out 2) | (go_at_call 8; (with_reducible refine (spec_GrdOk.calls k a0_0 a0_1 _ _ l0_2 false _ ?side1 ?side2 A2.out).mono ?_); (case side1 => repeat (first | exact HR0_2.out | exact (Kd.C_below HR0_2.out HB.out) | (with_reducible refine Kd.C_alloc ?_ _) | (with_reducible refine Kd.C_drewN ?_ _) | (with_reducible refine Kd.C_drew ?_))); (case side2 => exact HC0_2.out); rintro e w14 ⟨rfl, hb⟩; have n0_ := Aside0.mk (blk_below (g := gb314) (o := .cells #[.int .i64 a0_0, .int .i64 a0_1, .slice A0_2 l0_2.length c0_2] 25 (0, 0)) (by (with_reducible repeat (first | refine blk_drewN ?_ _ | refine blk_drew ?_ | refine blk_alloc ?_ _)); exact BK314.out) hb); have n1_ := Aside0.mk (below_step (by repeat (first | (with_reducible first | exact HB.out | apply below_alloc | apply pw_below_drewN | apply below_drew1 | refine below_set ?_ GE314.out) | exact HB.out)) hb); clear BK314; clear HB; have BK314 := n0_; have HB := n1_; clear n0_ n1_; (try clear hb); (try clear hb2); (try clear hk); (try clear hi))))
    go_ret
    exact ⟨by first | rfl | (simp [IntKind.wrap_i64, wrap64]; done) | (simp [errW_none, errW_some] <;> rfl) | (simp [*, errW_none, errW_some] <;> rfl), by repeat (first | (with_reducible first | exact HB.out | apply below_alloc | apply pw_below_drewN | apply below_drew1 | refine below_set ?_ GE314.out) | exact HB.out)⟩

/-! ### impl_TxtOk: function 18 (by hand) -/
def impl_TxtOk.f (a0 : ByteArray) : Option Bool := if a0.size < 4294967281 then some (Txt.ppTxtOk a0) else none
set_option maxHeartbeats 2000000 in
set_option maxRecDepth 100000 in
theorem impl_TxtOk.calls (a0 : ByteArray) (r : Bool) (w : World) (hM : Txt.MLen w) (h : impl_TxtOk.f a0 = some r) :
    Calls Tryd.prog 18 #[.string a0] w fun e w' => e = .returned (.bool r) ∧ Below w.heap.size w w' := by
  unfold impl_TxtOk.f at h
  split at h
  · rename_i hs
    have hr := Option.some.inj h
    have HM := Aside0.mk hM
    have HS := Aside0.mk hs
    clear hM hs h
    by_cases h0 : a0.toList.isEmpty = true
    · have e0 : a0.toList.isEmpty = true := h0
      have er : Txt.ppTxtOk a0 = true := by unfold Txt.ppTxtOk; rw [e0]; rfl
      rw [er] at hr
      subst hr
      clear er h0
      go_enter Tryd.func18, Tryd.ntmps18
      go_wp2
      go_ret
      exact ⟨rfl, Below.refl _ _⟩
    · have e0 : a0.toList.isEmpty = false := Bool.eq_false_iff.2 h0
      have er : Txt.ppTxtOk a0 = ((Txt.ppWords a0).all Txt.ppWordOk && decide ((a0.size : Int) ≤ 30)) := by unfold Txt.ppTxtOk; rw [e0]; rfl
      rw [er] at hr
      clear er h0
      obtain ⟨L, hL⟩ : ∃ L, Txt.ppWords a0 = L := ⟨_, rfl⟩
      have hsp := Txt.split_sp a0 w HM.out HS.out
      have hsz : ∀ x ∈ L, x.size ≤ 9223372036854775807 := fun x hx => by
        have := Txt.ppWords_le a0 x (hL ▸ hx)
        have := HS.out
        omega
      have hln : L.length ≤ 4294967281 := by
        have := Txt.ppWords_len a0
        have := HS.out
        rw [hL] at *
        omega
      have HLN := Aside0.mk hln
      clear hln
      rw [hL] at hsp hr
      have HE := Aside0.mk hr
      clear hr
      have HSP := Aside0.mk hsp
      have HSZ := Aside0.mk hsz
      clear hsp hsz hL
      go_enter Tryd.func18, Tryd.ntmps18
      go_wp2_with (go_at_call 26; (with_reducible refine HSP.out.mono ?_); rintro e w' ⟨rfl, rfl⟩)
      go_loopg [10] L.length (fun gg v10 wr => ∃ kk : Nat, kk ≤ L.length ∧ L.length - kk ≤ gg ∧ v10 = .int .i64 kk ∧ Aside0 (Below w.heap.size w wr) ∧ Aside0 (wr.heap[w.heap.size]? = some (.cells (L.map Value.string).toArray 9 (0, 0))) ∧ Aside0 (∀ j (h : j < L.length), j < kk → Txt.ppWordOk L[j] = true))
      case atStart => exact ⟨0, Nat.zero_le _, by omega, rfl, ⟨below_alloc (Below.refl _ _) _⟩, ⟨blk_new _ _⟩, ⟨fun j _ hj => absurd hj (Nat.not_lt_zero _)⟩⟩
      case round =>
        obtain ⟨kk, hkk, hg, rfl, HB, BK, AA⟩ := hrel
        by_cases hlt : kk < L.length
        · have hltz : (kk : Int) < (L.length : Int) := by omega
          have hcell : wr.cell? ⟨w.heap.size, kk, none⟩ = some (.string L[kk]) := (blk_cell BK.out kk).trans (by simp [hlt])
          have hfz := blk_frozen BK.out kk
          have hsk := HSZ.out L[kk] (List.getElem_mem hlt)
          have htrim := fun W => Txt.trim_az L[kk] W hsk
          have HT := Aside0.mk htrim
          obtain ⟨y, hy⟩ : ∃ y, L[kk] = y := ⟨_, rfl⟩
          have HY := Aside0.mk hy
          rw [hy] at hcell HT
          clear hsk htrim hy
          obtain ⟨z, hz⟩ : ∃ z, Txt.ppRest y = z := ⟨_, rfl⟩
          rw [hz] at HT
          have HZ := Aside0.mk hz
          clear hz
          by_cases h1 : y.toList.isEmpty = true
          · have e1 : y.toList.isEmpty = true := h1
            have hno : (L.all Txt.ppWordOk && decide ((a0.size : Int) ≤ 30)) = false := by
              have : L.all Txt.ppWordOk = false := List.all_eq_false.2 ⟨L[kk], List.getElem_mem hlt, by rw [HY.out]; unfold Txt.ppWordOk; rw [e1]; simp⟩
              rw [this]; rfl
            have HNO := Aside0.mk hno
            clear hno h1
            go_wp2
            go_ret
            exact ⟨by rw [← HE.out, HNO.out]; rfl, HB.out⟩
          · have e1 : y.toList.isEmpty = false := Bool.eq_false_iff.2 h1
            clear h1
            by_cases h2 : z.toList.isEmpty = true
            · have e2 : z.toList.isEmpty = true := h2
              have hyes : Txt.ppWordOk L[kk] = true := by rw [HY.out]; unfold Txt.ppWordOk; rw [HZ.out, e1, e2]; rfl
              have HYES := Aside0.mk hyes
              clear hyes h2
              go_wp2_with (go_at_call 27; (with_reducible refine (HT.out _).mono ?_); rintro e w' ⟨rfl, hb⟩)
              go_roundg (L.length - (kk + 1))
              case measure => omega
              case rel =>
                refine ⟨kk + 1, by omega, by omega, (by have := HLN.out; show Value.int .i64 (wrap64 ((kk : Int) + 1)) = Value.int .i64 ((kk + 1 : Nat) : Int); congr 1; unfold wrap64; omega), ⟨below_step HB.out hb⟩, ⟨blk_below BK.out hb⟩, ⟨fun j h hj => ?_⟩⟩
                by_cases e : j = kk
                · subst e
                  exact HYES.out
                · exact AA.out j h (by omega)
            · have e2 : z.toList.isEmpty = false := Bool.eq_false_iff.2 h2
              have hno : (L.all Txt.ppWordOk && decide ((a0.size : Int) ≤ 30)) = false := by
                have : L.all Txt.ppWordOk = false := List.all_eq_false.2 ⟨L[kk], List.getElem_mem hlt, by rw [HY.out]; unfold Txt.ppWordOk; rw [HZ.out, e1, e2]; simp⟩
                rw [this]; rfl
              have HNO := Aside0.mk hno
              clear hno h2
              go_wp2_with (go_at_call 27; (with_reducible refine (HT.out _).mono ?_); rintro e w' ⟨rfl, hb⟩)
              go_ret
              exact ⟨by rw [← HE.out, HNO.out]; rfl, below_step HB.out hb⟩
        · have hltz : ¬ (kk : Int) < (L.length : Int) := by omega
          have hk : kk = L.length := by omega
          have hall : (L.all Txt.ppWordOk && decide ((a0.size : Int) ≤ 30)) = decide ((a0.size : Int) ≤ 30) := by
            have : L.all Txt.ppWordOk = true := List.all_eq_true.2 (fun x hx => by
              obtain ⟨j, hj, rfl⟩ := List.getElem_of_mem hx
              exact AA.out j hj (by omega))
            rw [this]; rfl
          have HALL := Aside0.mk hall
          clear hall
          go_wp2
          go_ret
          exact ⟨by rw [← HE.out, HALL.out]; rfl, HB.out⟩
  · exact absurd h (by simp)

/-! ### laws_pwOk: function 9 -/
def laws_pwOk.f  : Option (Bool) := (impl_TxtOk.f (⟨#[97, 98, 32, 99]⟩ : ByteArray)).bind fun t318 => (some t318)
set_option maxHeartbeats 8000000 in
set_option maxRecDepth 100000 in
theorem laws_pwOk.calls  (r : Bool) (w : World) (hM : Txt.MLen w) (h : laws_pwOk.f  = some r) :
    Calls Tryd.prog 9 #[] w fun e w' => e = .returned (.bool r) ∧ Below w.heap.size w w' := by
  have HM := Aside0.mk hM
  clear hM
  have HB := Aside0.mk (Below.refl w.heap.size w)
  have H : ((impl_TxtOk.f (⟨#[97, 98, 32, 99]⟩ : ByteArray)).bind fun t318 => (some t318)) = some r := h
  clear h
  replace H := Option.bind_eq_some_iff.mp H
  obtain ⟨t318, A10, H⟩ := H
  replace H : (some t318) = some r := H
  have A1 := Aside0.mk A10
  clear A10
  obtain rfl := Option.some.inj H
  go_enter Tryd.func9, Tryd.ntmps9
  go_wp2_with (first | ((with_reducible refine gate_callee (f := 18) rfl ?_); refine goesL_ (some 1) rfl rfl Tryd.func18 (by kernel_rfl) rfl #[.string (⟨#[97, 98, 32, 99]⟩ : ByteArray)] rfl (by (try simp only [List.map_toArray, List.map_cons, List.map_nil]); first | done | rfl | (simp only [List.length_drop, List.length_take]; rfl)) ?_; (with_reducible refine (impl_TxtOk.calls (⟨#[97, 98, 32, 99]⟩ : ByteArray) t318 _ ?sideM A1.out).mono ?_); (case sideM => repeat (first | exact HM.out | exact (Txt.MLen_below HM.out HB.out) | (with_reducible refine Txt.MLen_alloc ?_ _) | (with_reducible refine Txt.MLen_drewN ?_ _) | (with_reducible refine Txt.MLen_drew ?_))); rintro e w2 ⟨rfl, hb⟩; refine ⟨_, rfl, ?_⟩; have n0_ := Aside0.mk (below_step (by repeat (first | (with_reducible first | exact HB.out | apply below_alloc | apply pw_below_drewN | apply below_drew1) | exact HB.out)) hb); clear HB; have HB := n0_; clear n0_; (try clear hb); (try clear hb2); (try clear hk); (try clear hi)))
  go_ret
  exact ⟨by first | rfl | (simp [IntKind.wrap_i64, wrap64]; done) | (simp [errW_none, errW_some] <;> rfl) | (simp [*, errW_none, errW_some] <;> rfl), by repeat (first | (with_reducible first | exact HB.out | apply below_alloc | apply pw_below_drewN | apply below_drew1) | exact HB.out)⟩

/-! ### impl_among: function 28 -/
def impl_among.f (a0 : Int) (a1 : Int) (a2 : Int) : Option (Bool) := if a0 ≥ a1 then (if a2 > 0 then (some (decide ((IntKind.u64.wrap ((IntKind.u64.wrap (a0)) - (IntKind.u64.wrap (a1)))) < (IntKind.u64.wrap (a2))))) else (some false)) else (some false)
set_option maxHeartbeats 8000000 in
set_option maxRecDepth 100000 in
theorem impl_among.calls (a0 : Int) (a1 : Int) (a2 : Int) (r : Bool) (w : World) (h : impl_among.f a0 a1 a2 = some r) :
    Calls Tryd.prog 28 #[.int .i64 a0, .int .i64 a1, .int .i64 a2] w fun e w' => e = .returned (.bool r) ∧ Drawn0 w w' := by
  have H : (if a0 ≥ a1 then (if a2 > 0 then (some (decide ((IntKind.u64.wrap ((IntKind.u64.wrap (a0)) - (IntKind.u64.wrap (a1)))) < (IntKind.u64.wrap (a2))))) else (some false)) else (some false)) = some r := h
  clear h
  by_cases c4 : a0 ≥ a1
  · rw [if_pos c4] at H
    have c4b0 : decide (a1 ≤ a0) = true := decide_eq_true c4
    clear c4
    by_cases c5 : a2 > 0
    · rw [if_pos c5] at H
      have c5b0 : decide (0 < a2) = true := decide_eq_true c5
      clear c5
      obtain rfl := Option.some.inj H
      go_enter Tryd.func28, Tryd.ntmps28
      go_wp2
      go_ret
      exact ⟨by first | rfl | (simp [IntKind.wrap_i64, wrap64]; done) | (simp; done) | (simp [*]; done), by repeat (first | exact Drawn0.refl _ | apply Drawn0.step)⟩
    · rw [if_neg c5] at H
      have c5b0 : decide (0 < a2) = false := decide_eq_false c5
      clear c5
      obtain rfl := Option.some.inj H
      go_enter Tryd.func28, Tryd.ntmps28
      go_wp2
      go_ret
      exact ⟨by first | rfl | (simp [IntKind.wrap_i64, wrap64]; done) | (simp; done) | (simp [*]; done), by repeat (first | exact Drawn0.refl _ | apply Drawn0.step)⟩
  · rw [if_neg c4] at H
    have c4b0 : decide (a1 ≤ a0) = false := decide_eq_false c4
    clear c4
    obtain rfl := Option.some.inj H
    go_enter Tryd.func28, Tryd.ntmps28
    go_wp2
    go_ret
    exact ⟨by first | rfl | (simp [IntKind.wrap_i64, wrap64]; done) | (simp; done) | (simp [*]; done), by repeat (first | exact Drawn0.refl _ | apply Drawn0.step)⟩

/-! ### impl_GrdCell_has: function 21 -/
def impl_GrdCell_has.f (a0_0 : Int) (a0_1 : Int) (a0_2 : Int) (a0_3 : Int) (a0_4 : Int) (a1 : Int) (a2 : Int) : Option (Bool) := (impl_among.f a1 a0_0 a0_2).bind fun t320 => (if t320 = true then ((impl_among.f a2 a0_1 a0_3).bind fun t321 => (some t321)) else (some false))
set_option maxHeartbeats 8000000 in
set_option maxRecDepth 100000 in
theorem impl_GrdCell_has.calls (a0_0 : Int) (a0_1 : Int) (a0_2 : Int) (a0_3 : Int) (a0_4 : Int) (a1 : Int) (a2 : Int) (r : Bool) (w : World) (h : impl_GrdCell_has.f a0_0 a0_1 a0_2 a0_3 a0_4 a1 a2 = some r) :
    Calls Tryd.prog 21 #[.agg #[.int .i64 a0_0, .int .i64 a0_1, .int .i64 a0_2, .int .i64 a0_3, .int .i64 a0_4], .int .i64 a1, .int .i64 a2] w fun e w' => e = .returned (.bool r) ∧ Below w.heap.size w w' := by
  have hu36 := Tryd.underlying36
  have HB := Aside0.mk (Below.refl w.heap.size w)
  have H : ((impl_among.f a1 a0_0 a0_2).bind fun t320 => (if t320 = true then ((impl_among.f a2 a0_1 a0_3).bind fun t321 => (some t321)) else (some false))) = some r := h
  clear h
  replace H := Option.bind_eq_some_iff.mp H
  obtain ⟨t320, A40, H⟩ := H
  replace H : (if t320 = true then ((impl_among.f a2 a0_1 a0_3).bind fun t321 => (some t321)) else (some false)) = some r := H
  have A4 := Aside0.mk A40
  clear A40
  by_cases c5 : t320 = true
  · subst c5
    have H1 : ((impl_among.f a2 a0_1 a0_3).bind fun t321 => (some t321)) = some r := by rw [if_pos rfl] at H; exact H
    clear H
    have H := H1
    clear H1
    replace H := Option.bind_eq_some_iff.mp H
    obtain ⟨t321, A60, H⟩ := H
    replace H : (some t321) = some r := H
    have A6 := Aside0.mk A60
    clear A60
    obtain rfl := Option.some.inj H
    go_enter Tryd.func21, Tryd.ntmps21
    go_wp2_with (first | ((with_reducible refine gate_dst (N := 3) rfl ?_); refine box_event ?hg (N := 3) ?hd (cs := #[.int .i64 a0_0, .int .i64 a0_1, .int .i64 a0_2, .int .i64 a0_3, .int .i64 a0_4]) (t := 36) ?hr ?_; (case hd => rfl); (case hg => rfl); (case hr => first | (go_simp; done) | (go_simp; rfl)); intro gb319 hg w7 hbox hb; have n0_ := Aside0.mk (below_step (by repeat (first | (with_reducible first | exact HB.out | apply below_alloc | apply pw_below_drewN | apply below_drew1) | exact HB.out)) hb); have n1_ := Aside0.mk (hbox); have n2_ := Aside0.mk ((by rw [hg]; exact (below_size (by repeat (first | (with_reducible first | exact HB.out | apply below_alloc | apply pw_below_drewN | apply below_drew1) | exact HB.out))) : w.heap.size ≤ gb319)); have n3_ := Aside0.mk ((by rw [hg]; exact (below_size (by repeat (first | (with_reducible first | exact HB.out | apply below_alloc | apply pw_below_drewN | apply below_drew1) | exact HB.out))) : w.heap.size ≤ gb319)); clear HB; have HB := n0_; have BK319 := n1_; have GW319 := n2_; have GE319 := n3_; clear n0_ n1_ n2_ n3_; clear hb hbox hg; have hcz8_0 : w7.cell? ⟨gb319, 0, none⟩ = some (.int .i64 a0_0) := (blk_cell BK319.out 0).trans rfl; have hcz8_1 : w7.cell? ⟨gb319, 1, none⟩ = some (.int .i64 a0_1) := (blk_cell BK319.out 1).trans rfl; have hcz8_2 : w7.cell? ⟨gb319, 2, none⟩ = some (.int .i64 a0_2) := (blk_cell BK319.out 2).trans rfl; have hcz8_3 : w7.cell? ⟨gb319, 3, none⟩ = some (.int .i64 a0_3) := (blk_cell BK319.out 3).trans rfl; have hcz8_4 : w7.cell? ⟨gb319, 4, none⟩ = some (.int .i64 a0_4) := (blk_cell BK319.out 4).trans rfl; have hfz8_0 := blk_frozen BK319.out 0; have hfz8_1 := blk_frozen BK319.out 1; have hfz8_2 := blk_frozen BK319.out 2; have hfz8_3 := blk_frozen BK319.out 3; have hfz8_4 := blk_frozen BK319.out 4) | ((with_reducible refine gate_callee (f := 28) rfl ?_); refine goesL_ (some 12) rfl rfl Tryd.func28 (by kernel_rfl) rfl #[.int .i64 a1, .int .i64 a0_0, .int .i64 a0_2] rfl (by (try simp only [List.map_toArray, List.map_cons, List.map_nil]); first | done | rfl | (simp only [List.length_drop, List.length_take]; rfl)) ?_; (with_reducible refine (impl_among.calls a1 a0_0 a0_2 true _ A4.out).mono ?_); rintro e w' ⟨rfl, ⟨nd, rfl⟩⟩; refine ⟨_, rfl, ?_⟩) | (go_at_call 28; (with_reducible refine (impl_among.calls a2 a0_1 a0_3 t321 _ A6.out).mono ?_); rintro e w' ⟨rfl, ⟨nd, rfl⟩⟩))
    go_ret
    exact ⟨by first | rfl | (simp [IntKind.wrap_i64, wrap64]; done) | (simp [errW_none, errW_some] <;> rfl) | (simp [*, errW_none, errW_some] <;> rfl), by repeat (first | (with_reducible first | exact HB.out | apply below_alloc | apply pw_below_drewN | apply below_drew1 | refine below_set ?_ GE319.out) | exact HB.out)⟩
  · replace c5 := Bool.eq_false_iff.mpr c5
    subst c5
    have H1 : (some false) = some r := by rw [if_neg (show ¬ (false = true) by decide)] at H; exact H
    clear H
    have H := H1
    clear H1
    obtain rfl := Option.some.inj H
    go_enter Tryd.func21, Tryd.ntmps21
    go_wp2_with (first | ((with_reducible refine gate_dst (N := 3) rfl ?_); refine box_event ?hg (N := 3) ?hd (cs := #[.int .i64 a0_0, .int .i64 a0_1, .int .i64 a0_2, .int .i64 a0_3, .int .i64 a0_4]) (t := 36) ?hr ?_; (case hd => rfl); (case hg => rfl); (case hr => first | (go_simp; done) | (go_simp; rfl)); intro gb319 hg w9 hbox hb; have n0_ := Aside0.mk (below_step (by repeat (first | (with_reducible first | exact HB.out | apply below_alloc | apply pw_below_drewN | apply below_drew1) | exact HB.out)) hb); have n1_ := Aside0.mk (hbox); have n2_ := Aside0.mk ((by rw [hg]; exact (below_size (by repeat (first | (with_reducible first | exact HB.out | apply below_alloc | apply pw_below_drewN | apply below_drew1) | exact HB.out))) : w.heap.size ≤ gb319)); have n3_ := Aside0.mk ((by rw [hg]; exact (below_size (by repeat (first | (with_reducible first | exact HB.out | apply below_alloc | apply pw_below_drewN | apply below_drew1) | exact HB.out))) : w.heap.size ≤ gb319)); clear HB; have HB := n0_; have BK319 := n1_; have GW319 := n2_; have GE319 := n3_; clear n0_ n1_ n2_ n3_; clear hb hbox hg; have hcz10_0 : w9.cell? ⟨gb319, 0, none⟩ = some (.int .i64 a0_0) := (blk_cell BK319.out 0).trans rfl; have hcz10_1 : w9.cell? ⟨gb319, 1, none⟩ = some (.int .i64 a0_1) := (blk_cell BK319.out 1).trans rfl; have hcz10_2 : w9.cell? ⟨gb319, 2, none⟩ = some (.int .i64 a0_2) := (blk_cell BK319.out 2).trans rfl; have hcz10_3 : w9.cell? ⟨gb319, 3, none⟩ = some (.int .i64 a0_3) := (blk_cell BK319.out 3).trans rfl; have hcz10_4 : w9.cell? ⟨gb319, 4, none⟩ = some (.int .i64 a0_4) := (blk_cell BK319.out 4).trans rfl; have hfz10_0 := blk_frozen BK319.out 0; have hfz10_1 := blk_frozen BK319.out 1; have hfz10_2 := blk_frozen BK319.out 2; have hfz10_3 := blk_frozen BK319.out 3; have hfz10_4 := blk_frozen BK319.out 4) | ((with_reducible refine gate_callee (f := 28) rfl ?_); refine goesL_ (some 12) rfl rfl Tryd.func28 (by kernel_rfl) rfl #[.int .i64 a1, .int .i64 a0_0, .int .i64 a0_2] rfl (by (try simp only [List.map_toArray, List.map_cons, List.map_nil]); first | done | rfl | (simp only [List.length_drop, List.length_take]; rfl)) ?_; (with_reducible refine (impl_among.calls a1 a0_0 a0_2 false _ A4.out).mono ?_); rintro e w' ⟨rfl, ⟨nd, rfl⟩⟩; refine ⟨_, rfl, ?_⟩))
    go_ret
    exact ⟨by first | rfl | (simp [IntKind.wrap_i64, wrap64]; done) | (simp [errW_none, errW_some] <;> rfl) | (simp [*, errW_none, errW_some] <;> rfl), by repeat (first | (with_reducible first | exact HB.out | apply below_alloc | apply pw_below_drewN | apply below_drew1 | refine below_set ?_ GE319.out) | exact HB.out)⟩

/-! ### impl_GrdAt: function 10 (by hand) -/
set_option maxHeartbeats 2000000 in
set_option maxRecDepth 100000 in
/-- slices.IndexFunc over cells at their places, whatever the function asks. -/
theorem idxf_cell (p : S36 → Bool) (g : Nat) (lb : Array Value) (eg : ∀ args w, (callFunc g args).run Tryd.prog w = .ok (.enter g args) w) (A : Option Addr) (c : Nat) (l : List S36) (w : World)
    (hr : Kd.C k36 w A l.length l) (hc : l.length ≤ c)
    (hp : ∀ (W : World) (x : S36), Below w.heap.size w W → Calls Tryd.prog g (#[.agg #[.int .i64 x.f0, .int .i64 x.f1, .int .i64 x.f2, .int .i64 x.f3, .int .i64 x.f4]] ++ lb) W fun e W' => e = .returned (.bool (p x)) ∧ Below w.heap.size w W') :
    Calls Tryd.prog 19 #[.slice A l.length c, .func (.func g) #[] lb] w fun e w' => e = .returned (.int .i64 (ppIdx p l)) ∧ Below w.heap.size w w' := by
  have hbig := hr.2.1
  have HR := Aside0.mk hr
  clear hr
  go_enter Tryd.func19, Tryd.ntmps19
  go_wp2
  go_loopg [5, 8] l.length (fun gg _ s8 wr => ∃ kk : Nat, kk ≤ l.length ∧ l.length - kk ≤ gg ∧ s8 = .int .i64 kk ∧ Aside0 (Below w.heap.size w wr) ∧ Aside0 (∀ j (h : j < l.length), j < kk → p l[j] = false))
  case atStart => exact ⟨0, Nat.zero_le _, by omega, rfl, ⟨Below.refl _ w⟩, ⟨fun j _ hj => absurd hj (Nat.not_lt_zero _)⟩⟩
  case round =>
    obtain ⟨kk, hkk, hg, rfl, BW, AA⟩ := hrel
    by_cases hlt : kk < l.length
    · have hltz : (kk : Int) < (l.length : Int) := by omega
      obtain ⟨ad, e0, h0, h1, h2, h3, h4⟩ := at_T36 HR.out (kk : Int) (by omega) hltz
      cases e0
      replace h0 := (BW.out.cell (World.block_lt_of_cell? w _ h0)).trans h0
      replace h1 := (BW.out.cell (World.block_lt_of_cell? w _ h1)).trans h1
      replace h2 := (BW.out.cell (World.block_lt_of_cell? w _ h2)).trans h2
      replace h3 := (BW.out.cell (World.block_lt_of_cell? w _ h3)).trans h3
      replace h4 := (BW.out.cell (World.block_lt_of_cell? w _ h4)).trans h4
      simp only [Int.toNat_natCast] at h0 h1 h2 h3 h4
      have hcall := hp wr (rd_T36 l (kk : Int)) BW.out
      have hy : rd_T36 l (kk : Int) = l[kk] := by unfold rd_T36; simp [List.getD_eq_getElem?_getD, List.getElem?_eq_getElem hlt]
      generalize rd_T36 l (kk : Int) = y at h0 h1 h2 h3 h4 hcall hy
      have HY := Aside0.mk hy
      clear hy hp
      cases hq : p y with
      | true =>
        rw [hq] at hcall
        go_wp2_with (go_at_fn g; refine hcall.mono ?_; rintro e w' ⟨rfl, hb'⟩)
        go_ret
        refine ⟨?_, hb'⟩
        rw [ppIdx_hit p l kk hlt (by rw [← HY.out]; exact hq) AA.out]
        rfl
      | false =>
        rw [hq] at hcall
        go_wp2_with (go_at_fn g; refine hcall.mono ?_; rintro e w' ⟨rfl, hb'⟩)
        go_roundg (l.length - (kk + 1))
        case measure => omega
        case rel =>
          refine ⟨kk + 1, by omega, by omega, by go_num, ⟨hb'⟩, ⟨fun j h hj => ?_⟩⟩
          by_cases e : j = kk
          · subst e
            rw [← HY.out]; exact hq
          · exact AA.out j h (by omega)
    · have hltz : ¬ (kk : Int) < (l.length : Int) := by omega
      have hk : kk = l.length := by omega
      subst hk
      go_wp2
      go_ret
      refine ⟨?_, BW.out⟩
      rw [ppIdx_miss p l (fun j hj => AA.out j hj hj)]
      rfl
/-- The cell has the slot. -/
def ppHasB (x : S36) (row col : Int) : Bool := (impl_GrdCell_has.f x.f0 x.f1 x.f2 x.f3 x.f4 row col).getD false
theorem ppAmongS (n f m : Int) : ∃ b, impl_among.f n f m = some b := by
  unfold impl_among.f
  split
  · split
    · exact ⟨_, rfl⟩
    · exact ⟨_, rfl⟩
  · exact ⟨_, rfl⟩
theorem ppHas_some (x : S36) (row col : Int) : impl_GrdCell_has.f x.f0 x.f1 x.f2 x.f3 x.f4 row col = some (ppHasB x row col) := by
  unfold ppHasB impl_GrdCell_has.f
  obtain ⟨b1, h1⟩ := ppAmongS row x.f0 x.f2
  obtain ⟨b2, h2⟩ := ppAmongS col x.f1 x.f3
  rw [h1, h2]
  cases b1 <;> rfl
set_option maxHeartbeats 2000000 in
set_option maxRecDepth 100000 in
theorem clo_GrdAt (x : S36) (row col : Int) (b1 b2 : Nat) (w : World) (h1 : w.cell? ⟨b1, 0, none⟩ = some (.int .i64 row)) (h2 : w.cell? ⟨b2, 0, none⟩ = some (.int .i64 col)) :
    Calls Tryd.prog 20 #[.agg #[.int .i64 x.f0, .int .i64 x.f1, .int .i64 x.f2, .int .i64 x.f3, .int .i64 x.f4], .pointer (some ⟨b1, 0, none⟩), .pointer (some ⟨b2, 0, none⟩)] w fun e w' => e = .returned (.bool (ppHasB x row col)) ∧ Below w.heap.size w w' := by
  have hb1 := World.block_lt_of_cell? w _ h1
  have hb2 := World.block_lt_of_cell? w _ h2
  have HS := Aside0.mk (ppHas_some x row col)
  have hu := Tryd.underlying36
  go_enter Tryd.func20, Tryd.ntmps20
  go_wp2_with (go_at_call 21; refine (impl_GrdCell_has.calls _ _ _ _ _ _ _ _ _ HS.out).mono ?_; rintro e w' ⟨rfl, hb⟩)
  go_ret
  exact ⟨rfl, below_step (below_alloc (Below.refl _ _) _) hb⟩
def impl_GrdAt.f (k : Nat) (a0_0 : Int) (a0_1 : Int) (l0_2 : List S36) (a1 : Int) (a2 : Int) : Option Int := some (ppIdx (fun x => ppHasB x a1 a2) l0_2)
theorem impl_GrdAt.mono : ∀ a0_0 a0_1 a0_2 a1 a2 k, LeO (impl_GrdAt.f k a0_0 a0_1 a0_2 a1 a2) (impl_GrdAt.f (k + 1) a0_0 a0_1 a0_2 a1 a2) := fun _ _ _ _ _ _ => LeO.refl _
set_option maxHeartbeats 2000000 in
set_option maxRecDepth 100000 in
theorem impl_GrdAt.calls (k : Nat) (a0_0 : Int) (a0_1 : Int) (A0_2 : Option Addr) (c0_2 : Nat) (l0_2 : List (S36)) (a1 : Int) (a2 : Int) (r : Int) (w : World) (hr0_2 : Kd.C k36 w A0_2 l0_2.length l0_2) (hc0_2 : l0_2.length ≤ c0_2) (h : impl_GrdAt.f k a0_0 a0_1 l0_2 a1 a2 = some r) :
    Calls Tryd.prog 10 #[.agg #[.int .i64 a0_0, .int .i64 a0_1, .slice A0_2 l0_2.length c0_2], .int .i64 a1, .int .i64 a2] w fun e w' => e = .returned (.int .i64 r) ∧ Below w.heap.size w w' := by
  obtain rfl := Option.some.inj h
  have HR := Aside0.mk hr0_2
  have HC := Aside0.mk hc0_2
  clear hr0_2 hc0_2 h
  have eg := enters_of Tryd.func20 (by kernel_rfl) rfl
  have hu := Tryd.underlying25
  have hp : ∀ (W0 : World), W0.cell? ⟨w.heap.size + 1, 0, none⟩ = some (.int .i64 a1) → W0.cell? ⟨w.heap.size + 2, 0, none⟩ = some (.int .i64 a2) → w.heap.size + 3 ≤ W0.heap.size → ∀ (W : World) (x : S36), Below W0.heap.size W0 W → Calls Tryd.prog 20 (#[.agg #[.int .i64 x.f0, .int .i64 x.f1, .int .i64 x.f2, .int .i64 x.f3, .int .i64 x.f4]] ++ #[.pointer (some ⟨w.heap.size + 1, 0, none⟩), .pointer (some ⟨w.heap.size + 2, 0, none⟩)]) W fun e W' => e = .returned (.bool (ppHasB x a1 a2)) ∧ Below W0.heap.size W0 W' := by
    intro W0 h1 h2 hs W x hb
    have h1' := (hb.cell (World.block_lt_of_cell? W0 _ h1)).trans h1
    have h2' := (hb.cell (World.block_lt_of_cell? W0 _ h2)).trans h2
    exact (clo_GrdAt x a1 a2 _ _ W h1' h2').mono fun e W' ⟨he, hb'⟩ => ⟨he, below_then hb hb.size hb'⟩
  have HP := Aside0.mk hp
  clear hp
  go_enter Tryd.func10, Tryd.ntmps10
  go_wp2_with (go_at_call 19; refine (idxf_cell (fun x => ppHasB x a1 a2) 20 _ eg A0_2 c0_2 l0_2 _ ?hr HC.out (HP.out _ ?h1 ?h2 ?hs)).mono ?_; (case hr => repeat (first | exact HR.out | (with_reducible refine Kd.C_alloc ?_ _))); (case h1 => go_simp); (case h2 => go_simp); (case hs => simp); rintro e w' ⟨rfl, hb⟩)
  go_ret
  exact ⟨rfl, below_step (below_alloc (below_alloc (below_alloc (Below.refl _ _) _) _) _) hb⟩


end Go.Proofs.YtalnklnfiopaoaaDoor.Q
