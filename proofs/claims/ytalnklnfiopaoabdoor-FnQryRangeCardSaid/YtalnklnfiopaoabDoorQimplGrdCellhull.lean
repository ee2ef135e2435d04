-- Told by a program of this session (uprint.py, ulay.py).
import Derived.Test.YtalnklnfiopaoabDoorQ0
import Derived.Test.YtalnklnfiopaoabDoorReg
import Derived.Test.YtalnklnfiopaoabDoorQspecl20Open
import Derived.Test.YtalnklnfiopaoabDoorQspecl3Free
import Derived.Test.YtalnklnfiopaoabDoorQspecDrawQryRange
namespace Go.Proofs.YtalnklnfiopaoabDoor.Q
open Go.RowKit Go.Proofs.YtalnklnfiopaoabDoorW.PrintWords Go.Proofs.YtalnklnfiopaoabDoorW.PrintLast Go.Proofs.YtalnklnfiopaoabDoorW.PrintMore Go.Proofs.YtalnklnfiopaoabDoor.Reg Go.Proofs.YtalnklnfiopaoabDoor.Box
attribute [local go_sem] max2_int min2_int max_two min_two max_three min_three max_four min_four
set_option linter.unusedVariables false
set_option linter.unusedSimpArgs false

/-! ### impl_GrdCell_hull: function 14 -/
def impl_GrdCell_hull.f (a0_0 : Int) (a0_1 : Int) (a0_2 : Int) (a0_3 : Int) (a0_4 : Int) (a1_0 : Int) (a1_1 : Int) (a1_2 : Int) (a1_3 : Int) (a1_4 : Int) : Option (Int × Int × Int × Int × Int) := some (mn a0_0 a1_0, mn a0_1 a1_1, wrap64 ((mx (wrap64 (a0_0 + a0_2)) (wrap64 (a1_0 + a1_2))) - (mn a0_0 a1_0)), wrap64 ((mx (wrap64 (a0_1 + a0_3)) (wrap64 (a1_1 + a1_3))) - (mn a0_1 a1_1)), 0)
set_option maxHeartbeats 8000000 in
set_option maxRecDepth 100000 in
theorem impl_GrdCell_hull.calls (a0_0 : Int) (a0_1 : Int) (a0_2 : Int) (a0_3 : Int) (a0_4 : Int) (a1_0 : Int) (a1_1 : Int) (a1_2 : Int) (a1_3 : Int) (a1_4 : Int) (r1 : Int) (r2 : Int) (r3 : Int) (r4 : Int) (r5 : Int) (w : World) (h : impl_GrdCell_hull.f a0_0 a0_1 a0_2 a0_3 a0_4 a1_0 a1_1 a1_2 a1_3 a1_4 = some (r1, r2, r3, r4, r5)) :
    Calls Tryd.prog 14 #[.agg #[.int .i64 a0_0, .int .i64 a0_1, .int .i64 a0_2, .int .i64 a0_3, .int .i64 a0_4], .agg #[.int .i64 a1_0, .int .i64 a1_1, .int .i64 a1_2, .int .i64 a1_3, .int .i64 a1_4]] w fun e w' => e = .returned (.agg #[.int .i64 r1, .int .i64 r2, .int .i64 r3, .int .i64 r4, .int .i64 r5]) ∧ Below w.heap.size w w' := by
  have hu29 := Tryd.underlying29
  have HB := Aside0.mk (Below.refl w.heap.size w)
  have H : (some (mn a0_0 a1_0, mn a0_1 a1_1, wrap64 ((mx (wrap64 (a0_0 + a0_2)) (wrap64 (a1_0 + a1_2))) - (mn a0_0 a1_0)), wrap64 ((mx (wrap64 (a0_1 + a0_3)) (wrap64 (a1_1 + a1_3))) - (mn a0_1 a1_1)), 0)) = some (r1, r2, r3, r4, r5) := h
  clear h
  obtain ⟨ji3, hji3⟩ : ∃ j_ : Int, (mn a0_0 a1_0) = j_ := ⟨_, rfl⟩
  replace H : (some (ji3, mn a0_1 a1_1, wrap64 ((mx (wrap64 (a0_0 + a0_2)) (wrap64 (a1_0 + a1_2))) - (ji3)), wrap64 ((mx (wrap64 (a0_1 + a0_3)) (wrap64 (a1_1 + a1_3))) - (mn a0_1 a1_1)), 0)) = some (r1, r2, r3, r4, r5) := by first | (rw [hji3] at H; exact H) | (simp only [hji3] at H ⊢; exact H)
  have hji3_ : (if a1_0 < a0_0 then a1_0 else a0_0) = ji3 := hji3
  obtain ⟨ji4, hji4⟩ : ∃ j_ : Int, (mn a0_1 a1_1) = j_ := ⟨_, rfl⟩
  replace H : (some (ji3, ji4, wrap64 ((mx (wrap64 (a0_0 + a0_2)) (wrap64 (a1_0 + a1_2))) - (ji3)), wrap64 ((mx (wrap64 (a0_1 + a0_3)) (wrap64 (a1_1 + a1_3))) - (ji4)), 0)) = some (r1, r2, r3, r4, r5) := by first | (rw [hji4] at H; exact H) | (simp only [hji4] at H ⊢; exact H)
  have hji4_ : (if a1_1 < a0_1 then a1_1 else a0_1) = ji4 := hji4
  obtain ⟨ji5, hji5⟩ : ∃ j_ : Int, (mx (wrap64 (a0_0 + a0_2)) (wrap64 (a1_0 + a1_2))) = j_ := ⟨_, rfl⟩
  replace H : (some (ji3, ji4, wrap64 ((ji5) - (ji3)), wrap64 ((mx (wrap64 (a0_1 + a0_3)) (wrap64 (a1_1 + a1_3))) - (ji4)), 0)) = some (r1, r2, r3, r4, r5) := by first | (rw [hji5] at H; exact H) | (simp only [hji5] at H ⊢; exact H)
  have hji5_ : (if (wrap64 (a0_0 + a0_2)) < (wrap64 (a1_0 + a1_2)) then (wrap64 (a1_0 + a1_2)) else (wrap64 (a0_0 + a0_2))) = ji5 := hji5
  obtain ⟨ji6, hji6⟩ : ∃ j_ : Int, (mx (wrap64 (a0_1 + a0_3)) (wrap64 (a1_1 + a1_3))) = j_ := ⟨_, rfl⟩
  replace H : (some (ji3, ji4, wrap64 ((ji5) - (ji3)), wrap64 ((ji6) - (ji4)), 0)) = some (r1, r2, r3, r4, r5) := by first | (rw [hji6] at H; exact H) | (simp only [hji6] at H ⊢; exact H)
  have hji6_ : (if (wrap64 (a0_1 + a0_3)) < (wrap64 (a1_1 + a1_3)) then (wrap64 (a1_1 + a1_3)) else (wrap64 (a0_1 + a0_3))) = ji6 := hji6
  simp only [Option.some.injEq, Prod.mk.injEq] at H
  obtain ⟨rfl, rfl, rfl, rfl, rfl⟩ := H
  go_enter Tryd.func14, Tryd.ntmps14
  go_wp2_with (first | ((with_reducible refine gate_dst (N := 2) rfl ?_); refine box_event ?hg (N := 2) ?hd (cs := #[.int .i64 a0_0, .int .i64 a0_1, .int .i64 a0_2, .int .i64 a0_3, .int .i64 a0_4]) (t := 29) ?hr ?_; (case hd => rfl); (case hg => rfl); (case hr => first | (go_simp; done) | (go_simp; rfl)); intro gb300 hg w7 hbox hb; have n0_ := Aside0.mk (below_step (by repeat (first | (with_reducible first | exact HB.out | apply below_alloc | apply pw_below_drewN | apply below_drew1) | exact HB.out)) hb); have n1_ := Aside0.mk (hbox); have n2_ := Aside0.mk ((by rw [hg]; exact (below_size (by repeat (first | (with_reducible first | exact HB.out | apply below_alloc | apply pw_below_drewN | apply below_drew1) | exact HB.out))) : w.heap.size ≤ gb300)); have n3_ := Aside0.mk ((by rw [hg]; exact (below_size (by repeat (first | (with_reducible first | exact HB.out | apply below_alloc | apply pw_below_drewN | apply below_drew1) | exact HB.out))) : w.heap.size ≤ gb300)); clear HB; have HB := n0_; have BK300 := n1_; have GW300 := n2_; have GE300 := n3_; clear n0_ n1_ n2_ n3_; clear hb hbox hg) | ((with_reducible refine gate_dst (N := 3) rfl ?_); refine box_event ?hg (N := 3) ?hd (cs := #[.int .i64 a1_0, .int .i64 a1_1, .int .i64 a1_2, .int .i64 a1_3, .int .i64 a1_4]) (t := 29) ?hr ?_; (case hd => rfl); (case hg => rfl); (case hr => first | (go_simp; done) | (go_simp; rfl)); intro gb301 hg w8 hbox hb; have n0_ := Aside0.mk (blk_below (g := gb300) (o := .cells #[.int .i64 a0_0, .int .i64 a0_1, .int .i64 a0_2, .int .i64 a0_3, .int .i64 a0_4] 29 (0, 0)) (by (with_reducible repeat (first | refine blk_drewN ?_ _ | refine blk_drew ?_ | refine blk_alloc ?_ _)); exact BK300.out) hb); have n1_ := Aside0.mk (below_step (by repeat (first | (with_reducible first | exact HB.out | apply below_alloc | apply pw_below_drewN | apply below_drew1 | refine below_set ?_ GE300.out) | exact HB.out)) hb); have n2_ := Aside0.mk (hbox); have n3_ := Aside0.mk ((by rw [hg]; exact (below_size (by repeat (first | (with_reducible first | exact HB.out | apply below_alloc | apply pw_below_drewN | apply below_drew1 | refine below_set ?_ GE300.out) | exact HB.out))) : w.heap.size ≤ gb301)); have n4_ := Aside0.mk ((by rw [hg]; exact (below_size (by repeat (first | (with_reducible first | exact HB.out | apply below_alloc | apply pw_below_drewN | apply below_drew1 | refine below_set ?_ GE300.out) | exact HB.out))) : w.heap.size ≤ gb301)); have n5_ := Aside0.mk ((by rw [hg]; exact Nat.ne_of_lt (blk_lt (g := gb300) (o := .cells #[.int .i64 a0_0, .int .i64 a0_1, .int .i64 a0_2, .int .i64 a0_3, .int .i64 a0_4] 29 (0, 0)) (by (with_reducible repeat (first | refine blk_drewN ?_ _ | refine blk_drew ?_ | refine blk_alloc ?_ _)); exact BK300.out)) : gb300 ≠ gb301)); have n6_ := Aside0.mk ((by rw [hg]; exact Nat.ne_of_gt (blk_lt (g := gb300) (o := .cells #[.int .i64 a0_0, .int .i64 a0_1, .int .i64 a0_2, .int .i64 a0_3, .int .i64 a0_4] 29 (0, 0)) (by (with_reducible repeat (first | refine blk_drewN ?_ _ | refine blk_drew ?_ | refine blk_alloc ?_ _)); exact BK300.out)) : gb301 ≠ gb300)); clear BK300; clear HB; have BK300 := n0_; have HB := n1_; have BK301 := n2_; have GW301 := n3_; have GE301 := n4_; have NB300_301 := n5_; have NB301_300 := n6_; clear n0_ n1_ n2_ n3_ n4_ n5_ n6_; clear hb hbox hg) | ((with_reducible refine gate_dst (N := 4) rfl ?_); refine box_event ?hg (N := 4) ?hd (cs := #[.int .i64 0, .int .i64 0, .int .i64 0, .int .i64 0, .int .i64 0]) (t := 29) ?hr ?_; (case hd => rfl); (case hg => rfl); (case hr => first | (go_simp; done) | (go_simp; rfl)); intro gb302 hg w9 hbox hb; have n0_ := Aside0.mk (blk_below (g := gb300) (o := .cells #[.int .i64 a0_0, .int .i64 a0_1, .int .i64 a0_2, .int .i64 a0_3, .int .i64 a0_4] 29 (0, 0)) (by (with_reducible repeat (first | refine blk_drewN ?_ _ | refine blk_drew ?_ | refine blk_alloc ?_ _)); exact BK300.out) hb); have n1_ := Aside0.mk (blk_below (g := gb301) (o := .cells #[.int .i64 a1_0, .int .i64 a1_1, .int .i64 a1_2, .int .i64 a1_3, .int .i64 a1_4] 29 (0, 0)) (by (with_reducible repeat (first | refine blk_drewN ?_ _ | refine blk_drew ?_ | refine blk_alloc ?_ _)); exact BK301.out) hb); have n2_ := Aside0.mk (below_step (by repeat (first | (with_reducible first | exact HB.out | apply below_alloc | apply pw_below_drewN | apply below_drew1 | refine below_set ?_ GE300.out | refine below_set ?_ GE301.out) | exact HB.out)) hb); have n3_ := Aside0.mk (hbox); have n4_ := Aside0.mk ((by rw [hg]; exact (below_size (by repeat (first | (with_reducible first | exact HB.out | apply below_alloc | apply pw_below_drewN | apply below_drew1 | refine below_set ?_ GE300.out | refine below_set ?_ GE301.out) | exact HB.out))) : w.heap.size ≤ gb302)); have n5_ := Aside0.mk ((by rw [hg]; exact (below_size (by repeat (first | (with_reducible first | exact HB.out | apply below_alloc | apply pw_below_drewN | apply below_drew1 | refine below_set ?_ GE300.out | refine below_set ?_ GE301.out) | exact HB.out))) : w.heap.size ≤ gb302)); have n6_ := Aside0.mk ((by rw [hg]; exact Nat.ne_of_lt (blk_lt (g := gb300) (o := .cells #[.int .i64 a0_0, .int .i64 a0_1, .int .i64 a0_2, .int .i64 a0_3, .int .i64 a0_4] 29 (0, 0)) (by (with_reducible repeat (first | refine blk_drewN ?_ _ | refine blk_drew ?_ | refine blk_alloc ?_ _)); exact BK300.out)) : gb300 ≠ gb302)); have n7_ := Aside0.mk ((by rw [hg]; exact Nat.ne_of_gt (blk_lt (g := gb300) (o := .cells #[.int .i64 a0_0, .int .i64 a0_1, .int .i64 a0_2, .int .i64 a0_3, .int .i64 a0_4] 29 (0, 0)) (by (with_reducible repeat (first | refine blk_drewN ?_ _ | refine blk_drew ?_ | refine blk_alloc ?_ _)); exact BK300.out)) : gb302 ≠ gb300)); have n8_ := Aside0.mk ((by rw [hg]; exact Nat.ne_of_lt (blk_lt (g := gb301) (o := .cells #[.int .i64 a1_0, .int .i64 a1_1, .int .i64 a1_2, .int .i64 a1_3, .int .i64 a1_4] 29 (0, 0)) (by (with_reducible repeat (first | refine blk_drewN ?_ _ | refine blk_drew ?_ | refine blk_alloc ?_ _)); exact BK301.out)) : gb301 ≠ gb302)); have n9_ := Aside0.mk ((by rw [hg]; exact Nat.ne_of_gt (blk_lt (g := gb301) (o := .cells #[.int .i64 a1_0, .int .i64 a1_1, .int .i64 a1_2, .int .i64 a1_3, .int .i64 a1_4] 29 (0, 0)) (by (with_reducible repeat (first | refine blk_drewN ?_ _ | refine blk_drew ?_ | refine blk_alloc ?_ _)); exact BK301.out)) : gb302 ≠ gb301)); clear BK300; clear BK301; clear HB; have BK300 := n0_; have BK301 := n1_; have HB := n2_; have BK302 := n3_; have GW302 := n4_; have GE302 := n5_; have NB300_302 := n6_; have NB302_300 := n7_; have NB301_302 := n8_; have NB302_301 := n9_; clear n0_ n1_ n2_ n3_ n4_ n5_ n6_ n7_ n8_ n9_; clear hb hbox hg; have hnb10 := NB300_301.out; have hnc10 := NB301_300.out; have hnb11 := NB300_302.out; have hnc11 := NB302_300.out; have hcz12_0 : w9.cell? ⟨gb300, 0, none⟩ = some (.int .i64 a0_0) := (blk_cell BK300.out 0).trans rfl; have hcz12_1 : w9.cell? ⟨gb300, 1, none⟩ = some (.int .i64 a0_1) := (blk_cell BK300.out 1).trans rfl; have hcz12_2 : w9.cell? ⟨gb300, 2, none⟩ = some (.int .i64 a0_2) := (blk_cell BK300.out 2).trans rfl; have hcz12_3 : w9.cell? ⟨gb300, 3, none⟩ = some (.int .i64 a0_3) := (blk_cell BK300.out 3).trans rfl; have hcz12_4 : w9.cell? ⟨gb300, 4, none⟩ = some (.int .i64 a0_4) := (blk_cell BK300.out 4).trans rfl; have hfz12_0 := blk_frozen BK300.out 0; have hfz12_1 := blk_frozen BK300.out 1; have hfz12_2 := blk_frozen BK300.out 2; have hfz12_3 := blk_frozen BK300.out 3; have hfz12_4 := blk_frozen BK300.out 4; have hnb13 := NB301_302.out; have hnc13 := NB302_301.out; have hcz14_0 : w9.cell? ⟨gb301, 0, none⟩ = some (.int .i64 a1_0) := (blk_cell BK301.out 0).trans rfl; have hcz14_1 : w9.cell? ⟨gb301, 1, none⟩ = some (.int .i64 a1_1) := (blk_cell BK301.out 1).trans rfl; have hcz14_2 : w9.cell? ⟨gb301, 2, none⟩ = some (.int .i64 a1_2) := (blk_cell BK301.out 2).trans rfl; have hcz14_3 : w9.cell? ⟨gb301, 3, none⟩ = some (.int .i64 a1_3) := (blk_cell BK301.out 3).trans rfl; have hcz14_4 : w9.cell? ⟨gb301, 4, none⟩ = some (.int .i64 a1_4) := (blk_cell BK301.out 4).trans rfl; have hfz14_0 := blk_frozen BK301.out 0; have hfz14_1 := blk_frozen BK301.out 1; have hfz14_2 := blk_frozen BK301.out 2; have hfz14_3 := blk_frozen BK301.out 3; have hfz14_4 := blk_frozen BK301.out 4; have hcz15_0 : w9.cell? ⟨gb302, 0, none⟩ = some (.int .i64 0) := (blk_cell BK302.out 0).trans rfl; have hcz15_1 : w9.cell? ⟨gb302, 1, none⟩ = some (.int .i64 0) := (blk_cell BK302.out 1).trans rfl; have hcz15_2 : w9.cell? ⟨gb302, 2, none⟩ = some (.int .i64 0) := (blk_cell BK302.out 2).trans rfl; have hcz15_3 : w9.cell? ⟨gb302, 3, none⟩ = some (.int .i64 0) := (blk_cell BK302.out 3).trans rfl; have hcz15_4 : w9.cell? ⟨gb302, 4, none⟩ = some (.int .i64 0) := (blk_cell BK302.out 4).trans rfl; have hfz15_0 := blk_frozen BK302.out 0; have hfz15_1 := blk_frozen BK302.out 1; have hfz15_2 := blk_frozen BK302.out 2; have hfz15_3 := blk_frozen BK302.out 3; have hfz15_4 := blk_frozen BK302.out 4))
  repeat (go_quiet (first | ((with_reducible refine gate_dst (N := 2) rfl ?_); refine box_event ?hg (N := 2) ?hd (cs := #[.int .i64 a0_0, .int .i64 a0_1, .int .i64 a0_2, .int .i64 a0_3, .int .i64 a0_4]) (t := 29) ?hr ?_; (case hd => rfl); (case hg => rfl); (case hr => first | (go_simp; done) | (go_simp; rfl)); intro gb300 hg w7 hbox hb; have n0_ := Aside0.mk (below_step (by repeat (first | (with_reducible first | exact HB.out | apply below_alloc | apply pw_below_drewN | apply below_drew1) | exact HB.out)) hb); have n1_ := Aside0.mk (hbox); have n2_ := Aside0.mk ((by rw [hg]; exact (below_size (by repeat (first | (with_reducible first | exact HB.out | apply below_alloc | apply pw_below_drewN | apply below_drew1) | exact HB.out))) : w.heap.size ≤ gb300)); have n3_ := Aside0.mk ((by rw [hg]; exact (below_size (by repeat (first | (with_reducible first | exact HB.out | apply below_alloc | apply pw_below_drewN | apply below_drew1) | exact HB.out))) : w.heap.size ≤ gb300)); clear HB; have HB := n0_; have BK300 := n1_; have GW300 := n2_; have GE300 := n3_; clear n0_ n1_ n2_ n3_; clear hb hbox hg) | ((with_reducible refine gate_dst (N := 3) rfl ?_); refine box_event ?hg (N := 3) ?hd (cs := #[.int .i64 a1_0, .int .i64 a1_1, .int .i64 a1_2, .int .i64 a1_3, .int .i64 a1_4]) (t := 29) ?hr ?_; (case hd => rfl); (case hg => rfl); (case hr => first | (go_simp; done) | (go_simp; rfl)); intro gb301 hg w8 hbox hb; have n0_ := Aside0.mk (blk_below (g := gb300) (o := .cells #[.int .i64 a0_0, .int .i64 a0_1, .int .i64 a0_2, .int .i64 a0_3, .int .i64 a0_4] 29 (0, 0)) (by (with_reducible repeat (first | refine blk_drewN ?_ _ | refine blk_drew ?_ | refine blk_alloc ?_ _)); exact BK300.out) hb); have n1_ := Aside0.mk (below_step (by repeat (first | (with_reducible first | exact HB.out | apply below_alloc | apply pw_below_drewN | apply below_drew1 | refine below_set ?_ GE300.out) | exact HB.out)) hb); have n2_ := Aside0.mk (hbox); have n3_ := Aside0.mk ((by rw [hg]; exact (below_size (by repeat (first | (with_reducible first | exact HB.out | apply below_alloc | apply pw_below_drewN | apply below_drew1 | refine below_set ?_ GE300.out) | exact HB.out))) : w.heap.size ≤ gb301)); have n4_ := Aside0.mk ((by rw [hg]; exact (below_size (by repeat (first | (with_reducible first | exact HB.out | apply below_alloc | apply pw_below_drewN | apply below_drew1 | refine below_set ?_ GE300.out) | exact HB.out))) : w.heap.size ≤ gb301)); have n5_ := Aside0.mk ((by rw [hg]; exact Nat.ne_of_lt (blk_lt (g := gb300) (o := .cells #[.int .i64 a0_0, .int .i64 a0_1, .int .i64 a0_2, .int .i64 a0_3, .int .i64 a0_4] 29 (0, 0)) (by (with_reducible repeat (first | refine blk_drewN ?_ _ | refine blk_drew ?_ | refine blk_alloc ?_ _)); exact BK300.out)) : gb300 ≠ gb301)); have n6_ := Aside0.mk ((by rw [hg]; exact Nat.ne_of_gt (blk_lt (g := gb300) (o := .cells #[.int .i64 a0_0, .int .i64 a0_1, .int .i64 a0_2, .int .i64 a0_3, .int .i64 a0_4] 29 (0, 0)) (by (with_reducible repeat (first | refine blk_drewN ?_ _ | refine blk_drew ?_ | refine blk_alloc ?_ _)); exact BK300.out)) : gb301 ≠ gb300)); clear BK300; clear HB; have BK300 := n0_; have HB := n1_; have BK301 := n2_; have GW301 := n3_; have GE301 := n4_; have NB300_301 := n5_; have NB301_300 := n6_; clear n0_ n1_ n2_ n3_ n4_ n5_ n6_; clear hb hbox hg) | ((with_reducible refine gate_dst (N := 4) rfl ?_); refine box_event ?hg (N := 4) ?hd (cs := #[.int .i64 0, .int .i64 0, .int .i64 0, .int .i64 0, .int .i64 0]) (t := 29) ?hr ?_; (case hd => rfl); (case hg => rfl); (case hr => first | (go_simp; done) | (go_simp; rfl)); intro gb302 hg w9 hbox hb; have n0_ := Aside0.mk (blk_below (g := gb300) (o := .cells #[.int .i64 a0_0, .int .i64 a0_1, .int .i64 a0_2, .int .i64 a0_3, .int .i64 a0_4] 29 (0, 0)) (by (with_reducible repeat (first | refine blk_drewN ?_ _ | refine blk_drew ?_ | refine blk_alloc ?_ _)); exact BK300.out) hb); have n1_ := Aside0.mk (blk_below (g := gb301) (o := .cells #[.int .i64 a1_0, .int .i64 a1_1, .int .i64 a1_2, .int .i64 a1_3, .int .i64 a1_4] 29 (0, 0)) (by (with_reducible repeat (first | refine blk_drewN ?_ _ | refine blk_drew ?_ | refine blk_alloc ?_ _)); exact BK301.out) hb); have n2_ := Aside0.mk (below_step (by repeat (first | (with_reducible first | exact HB.out | apply below_alloc | apply pw_below_drewN | apply below_drew1 | refine below_set ?_ GE300.out | refine below_set ?_ GE301.out) | exact HB.out)) hb); have n3_ := Aside0.mk (hbox); have n4_ := Aside0.mk ((by rw [hg]; exact (below_size (by repeat (first | (with_reducible first | exact HB.out | apply below_alloc | apply pw_below_drewN | apply below_drew1 | refine below_set ?_ GE300.out | refine below_set ?_ GE301.out) | exact HB.out))) : w.heap.size ≤ gb302)); have n5_ := Aside0.mk ((by rw [hg]; exact (below_size (by repeat (first | (with_reducible first | exact HB.out | apply below_alloc | apply pw_below_drewN | apply below_drew1 | refine below_set ?_ GE300.out | refine below_set ?_ GE301.out) | exact HB.out))) : w.heap.size ≤ gb302)); have n6_ := Aside0.mk ((by rw [hg]; exact Nat.ne_of_lt (blk_lt (g := gb300) (o := .cells #[.int .i64 a0_0, .int .i64 a0_1, .int .i64 a0_2, .int .i64 a0_3, .int .i64 a0_4] 29 (0, 0)) (by (with_reducible repeat (first | refine blk_drewN ?_ _ | refine blk_drew ?_ | refine blk_alloc ?_ _)); exact BK300.out)) : gb300 ≠ gb302)); have n7_ := Aside0.mk ((by rw [hg]; exact Nat.ne_of_gt (blk_lt (g := gb300) (o := .cells #[.int .i64 a0_0, .int .i64 a0_1, .int .i64 a0_2, .int .i64 a0_3, .int .i64 a0_4] 29 (0, 0)) (by (with_reducible repeat (first | refine blk_drewN ?_ _ | refine blk_drew ?_ | refine blk_alloc ?_ _)); exact BK300.out)) : gb302 ≠ gb300)); have n8_ := Aside0.mk ((by rw [hg]; exact Nat.ne_of_lt (blk_lt (g := gb301) (o := .cells #[.int .i64 a1_0, .int .i64 a1_1, .int .i64 a1_2, .int .i64 a1_3, .int .i64 a1_4] 29 (0, 0)) (by (with_reducible repeat (first | refine blk_drewN ?_ _ | refine blk_drew ?_ | refine blk_alloc ?_ _)); exact BK301.out)) : gb301 ≠ gb302)); have n9_ := Aside0.mk ((by rw [hg]; exact Nat.ne_of_gt (blk_lt (g := gb301) (o := .cells #[.int .i64 a1_0, .int .i64 a1_1, .int .i64 a1_2, .int .i64 a1_3, .int .i64 a1_4] 29 (0, 0)) (by (with_reducible repeat (first | refine blk_drewN ?_ _ | refine blk_drew ?_ | refine blk_alloc ?_ _)); exact BK301.out)) : gb302 ≠ gb301)); clear BK300; clear BK301; clear HB; have BK300 := n0_; have BK301 := n1_; have HB := n2_; have BK302 := n3_; have GW302 := n4_; have GE302 := n5_; have NB300_302 := n6_; have NB302_300 := n7_; have NB301_302 := n8_; have NB302_301 := n9_; clear n0_ n1_ n2_ n3_ n4_ n5_ n6_ n7_ n8_ n9_; clear hb hbox hg; have hnb10 := NB300_301.out; have hnc10 := NB301_300.out; have hnb11 := NB300_302.out; have hnc11 := NB302_300.out; have hcz12_0 : w9.cell? ⟨gb300, 0, none⟩ = some (.int .i64 a0_0) := (blk_cell BK300.out 0).trans rfl; have hcz12_1 : w9.cell? ⟨gb300, 1, none⟩ = some (.int .i64 a0_1) := (blk_cell BK300.out 1).trans rfl; have hcz12_2 : w9.cell? ⟨gb300, 2, none⟩ = some (.int .i64 a0_2) := (blk_cell BK300.out 2).trans rfl; have hcz12_3 : w9.cell? ⟨gb300, 3, none⟩ = some (.int .i64 a0_3) := (blk_cell BK300.out 3).trans rfl; have hcz12_4 : w9.cell? ⟨gb300, 4, none⟩ = some (.int .i64 a0_4) := (blk_cell BK300.out 4).trans rfl; have hfz12_0 := blk_frozen BK300.out 0; have hfz12_1 := blk_frozen BK300.out 1; have hfz12_2 := blk_frozen BK300.out 2; have hfz12_3 := blk_frozen BK300.out 3; have hfz12_4 := blk_frozen BK300.out 4; have hnb13 := NB301_302.out; have hnc13 := NB302_301.out; have hcz14_0 : w9.cell? ⟨gb301, 0, none⟩ = some (.int .i64 a1_0) := (blk_cell BK301.out 0).trans rfl; have hcz14_1 : w9.cell? ⟨gb301, 1, none⟩ = some (.int .i64 a1_1) := (blk_cell BK301.out 1).trans rfl; have hcz14_2 : w9.cell? ⟨gb301, 2, none⟩ = some (.int .i64 a1_2) := (blk_cell BK301.out 2).trans rfl; have hcz14_3 : w9.cell? ⟨gb301, 3, none⟩ = some (.int .i64 a1_3) := (blk_cell BK301.out 3).trans rfl; have hcz14_4 : w9.cell? ⟨gb301, 4, none⟩ = some (.int .i64 a1_4) := (blk_cell BK301.out 4).trans rfl; have hfz14_0 := blk_frozen BK301.out 0; have hfz14_1 := blk_frozen BK301.out 1; have hfz14_2 := blk_frozen BK301.out 2; have hfz14_3 := blk_frozen BK301.out 3; have hfz14_4 := blk_frozen BK301.out 4; have hcz15_0 : w9.cell? ⟨gb302, 0, none⟩ = some (.int .i64 0) := (blk_cell BK302.out 0).trans rfl; have hcz15_1 : w9.cell? ⟨gb302, 1, none⟩ = some (.int .i64 0) := (blk_cell BK302.out 1).trans rfl; have hcz15_2 : w9.cell? ⟨gb302, 2, none⟩ = some (.int .i64 0) := (blk_cell BK302.out 2).trans rfl; have hcz15_3 : w9.cell? ⟨gb302, 3, none⟩ = some (.int .i64 0) := (blk_cell BK302.out 3).trans rfl; have hcz15_4 : w9.cell? ⟨gb302, 4, none⟩ = some (.int .i64 0) := (blk_cell BK302.out 4).trans rfl; have hfz15_0 := blk_frozen BK302.out 0; have hfz15_1 := blk_frozen BK302.out 1; have hfz15_2 := blk_frozen BK302.out 2; have hfz15_3 := blk_frozen BK302.out 3; have hfz15_4 := blk_frozen BK302.out 4)); try go_wp2_with (first | ((with_reducible refine gate_dst (N := 2) rfl ?_); refine box_event ?hg (N := 2) ?hd (cs := #[.int .i64 a0_0, .int .i64 a0_1, .int .i64 a0_2, .int .i64 a0_3, .int .i64 a0_4]) (t := 29) ?hr ?_; (case hd => rfl); (case hg => rfl); (case hr => first | (go_simp; done) | (go_simp; rfl)); intro gb300 hg w7 hbox hb; have n0_ := Aside0.mk (below_step (by repeat (first | (with_reducible first | exact HB.out | apply below_alloc | apply pw_below_drewN | apply below_drew1) | exact HB.out)) hb); have n1_ := Aside0.mk (hbox); have n2_ := Aside0.mk ((by rw [hg]; exact (below_size (by repeat (first | (with_reducible first | exact HB.out | apply below_alloc | apply pw_below_drewN | apply below_drew1) | exact HB.out))) : w.heap.size ≤ gb300)); have n3_ := Aside0.mk ((by rw [hg]; exact (below_size (by repeat (first | (with_reducible first | exact HB.out | apply below_alloc | apply pw_below_drewN | apply below_drew1) | exact HB.out))) : w.heap.size ≤ gb300)); clear HB; have HB := n0_; have BK300 := n1_; have GW300 := n2_; have GE300 := n3_; clear n0_ n1_ n2_ n3_; clear hb hbox hg) | ((with_reducible refine gate_dst (N := 3) rfl ?_); refine box_event ?hg (N := 3) ?hd (cs := #[.int .i64 a1_0, .int .i64 a1_1, .int .i64 a1_2, .int .i64 a1_3, .int .i64 a1_4]) (t := 29) ?hr ?_; (case hd => rfl); (case hg => rfl); (case hr => first | (go_simp; done) | (go_simp; rfl)); intro gb301 hg w8 hbox hb; have n0_ := Aside0.mk (blk_below (g := gb300) (o := .cells #[.int .i64 a0_0, .int .i64 a0_1, .int .i64 a0_2, .int .i64 a0_3, .int .i64 a0_4] 29 (0, 0)) (by (with_reducible repeat (first | refine blk_drewN ?_ _ | refine blk_drew ?_ | refine blk_alloc ?_ _)); exact BK300.out) hb); have n1_ := Aside0.mk (below_step (by repeat (first | (with_reducible first | exact HB.out | apply below_alloc | apply pw_below_drewN | apply below_drew1 | refine below_set ?_ GE300.out) | exact HB.out)) hb); have n2_ := Aside0.mk (hbox); have n3_ := Aside0.mk ((by rw [hg]; exact (below_size (by repeat (first | (with_reducible first | exact HB.out | apply below_alloc | apply pw_below_drewN | apply below_drew1 | refine below_set ?_ GE300.out) | exact HB.out))) : w.heap.size ≤ gb301)); have n4_ := Aside0.mk ((by rw [hg]; exact (below_size (by repeat (first | (with_reducible first | exact HB.out | apply below_alloc | apply pw_below_drewN | apply below_drew1 | refine below_set ?_ GE300.out) | exact HB.out))) : w.heap.size ≤ gb301)); have n5_ := Aside0.mk ((by rw [hg]; exact Nat.ne_of_lt (blk_lt (g := gb300) (o := .cells #[.int .i64 a0_0, .int .i64 a0_1, .int .i64 a0_2, .int .i64 a0_3, .int .i64 a0_4] 29 (0, 0)) (by (with_reducible repeat (first | refine blk_drewN ?_ _ | refine blk_drew ?_ | refine blk_alloc ?_ _)); exact BK300.out)) : gb300 ≠ gb301)); have n6_ := Aside0.mk ((by rw [hg]; exact Nat.ne_of_gt (blk_lt (g := gb300) (o := .cells #[.int .i64 a0_0, .int .i64 a0_1, .int .i64 a0_2, .int .i64 a0_3, .int .i64 a0_4] 29 (0, 0)) (by (with_reducible repeat (first | refine blk_drewN ?_ _ | refine blk_drew ?_ | refine blk_alloc ?_ _)); exact BK300.out)) : gb301 ≠ gb300)); clear BK300; clear HB; have BK300 := n0_; have HB := n1_; have BK301 := n2_; have GW301 := n3_; have GE301 := n4_; have NB300_301 := n5_; have NB301_300 := n6_; clear n0_ n1_ n2_ n3_ n4_ n5_ n6_; clear hb hbox hg) | ((with_reducible refine gate_dst (N := 4) rfl ?_); refine box_event ?hg (N := 4) ?hd (cs := #[.int .i64 0, .int .i64 0, .int .i64 0, .int .i64 0, .int .i64 0]) (t := 29) ?hr ?_; (case hd => rfl); (case hg => rfl); (case hr => first | (go_simp; done) | (go_simp; rfl)); intro gb302 hg w9 hbox hb; have n0_ := Aside0.mk (blk_below (g := gb300) (o := .cells #[.int .i64 a0_0, .int .i64 a0_1, .int .i64 a0_2, .int .i64 a0_3, .int .i64 a0_4] 29 (0, 0)) (by (with_reducible repeat (first | refine blk_drewN ?_ _ | refine blk_drew ?_ | refine blk_alloc ?_ _)); exact BK300.out) hb); have n1_ := Aside0.mk (blk_below (g := gb301) (o := .cells #[.int .i64 a1_0, .int .i64 a1_1, .int .i64 a1_2, .int .i64 a1_3, .int .i64 a1_4] 29 (0, 0)) (by (with_reducible repeat (first | refine blk_drewN ?_ _ | refine blk_drew ?_ | refine blk_alloc ?_ _)); exact BK301.out) hb); have n2_ := Aside0.mk (below_step (by repeat (first | (with_reducible first | exact HB.out | apply below_alloc | apply pw_below_drewN | apply below_drew1 | refine below_set ?_ GE300.out | refine below_set ?_ GE301.out) | exact HB.out)) hb); have n3_ := Aside0.mk (hbox); have n4_ := Aside0.mk ((by rw [hg]; exact (below_size (by repeat (first | (with_reducible first | exact HB.out | apply below_alloc | apply pw_below_drewN | apply below_drew1 | refine below_set ?_ GE300.out | refine below_set ?_ GE301.out) | exact HB.out))) : w.heap.size ≤ gb302)); have n5_ := Aside0.mk ((by rw [hg]; exact (below_size (by repeat (first | (with_reducible first | exact HB.out | apply below_alloc | apply pw_below_drewN | apply below_drew1 | refine below_set ?_ GE300.out | refine below_set ?_ GE301.out) | exact HB.out))) : w.heap.size ≤ gb302)); have n6_ := Aside0.mk ((by rw [hg]; exact Nat.ne_of_lt (blk_lt (g := gb300) (o := .cells #[.int .i64 a0_0, .int .i64 a0_1, .int .i64 a0_2, .int .i64 a0_3, .int .i64 a0_4] 29 (0, 0)) (by (with_reducible repeat (first | refine blk_drewN ?_ _ | refine blk_drew ?_ | refine blk_alloc ?_ _)); exact BK300.out)) : gb300 ≠ gb302)); have n7_ := Aside0.mk ((by rw [hg]; exact Nat.ne_of_gt (blk_lt (g := gb300) (o := .cells #[.int .i64 a0_0, .int .i64 a0_1, .int .i64 a0_2, .int .i64 a0_3, .int .i64 a0_4] 29 (0, 0)) (by (with_reducible repeat (first | refine blk_drewN ?_ _ | refine blk_drew ?_ | refine blk_alloc ?_ _)); exact BK300.out)) : gb302 ≠ gb300)); have n8_ := Aside0.mk ((by rw [hg]; exact Nat.ne_of_lt (blk_lt (g := gb301) (o := .cells #[.int .i64 a1_0, .int .i64 a1_1, .int .i64 a1_2, .int .i64 a1_3, .int .i64 a1_4] 29 (0, 0)) (by (with_reducible repeat (first | refine blk_drewN ?_ _ | refine blk_drew ?_ | refine blk_alloc ?_ _)); exact BK301.out)) : gb301 ≠ gb302)); have n9_ := Aside0.mk ((by rw [hg]; exact Nat.ne_of_gt (blk_lt (g := gb301) (o := .cells #[.int .i64 a1_0, .int .i64 a1_1, .int .i64 a1_2, .int .i64 a1_3, .int .i64 a1_4] 29 (0, 0)) (by (with_reducible repeat (first | refine blk_drewN ?_ _ | refine blk_drew ?_ | refine blk_alloc ?_ _)); exact BK301.out)) : gb302 ≠ gb301)); clear BK300; clear BK301; clear HB; have BK300 := n0_; have BK301 := n1_; have HB := n2_; have BK302 := n3_; have GW302 := n4_; have GE302 := n5_; have NB300_302 := n6_; have NB302_300 := n7_; have NB301_302 := n8_; have NB302_301 := n9_; clear n0_ n1_ n2_ n3_ n4_ n5_ n6_ n7_ n8_ n9_; clear hb hbox hg; have hnb10 := NB300_301.out; have hnc10 := NB301_300.out; have hnb11 := NB300_302.out; have hnc11 := NB302_300.out; have hcz12_0 : w9.cell? ⟨gb300, 0, none⟩ = some (.int .i64 a0_0) := (blk_cell BK300.out 0).trans rfl; have hcz12_1 : w9.cell? ⟨gb300, 1, none⟩ = some (.int .i64 a0_1) := (blk_cell BK300.out 1).trans rfl; have hcz12_2 : w9.cell? ⟨gb300, 2, none⟩ = some (.int .i64 a0_2) := (blk_cell BK300.out 2).trans rfl; have hcz12_3 : w9.cell? ⟨gb300, 3, none⟩ = some (.int .i64 a0_3) := (blk_cell BK300.out 3).trans rfl; have hcz12_4 : w9.cell? ⟨gb300, 4, none⟩ = some (.int .i64 a0_4) := (blk_cell BK300.out 4).trans rfl; have hfz12_0 := blk_frozen BK300.out 0; have hfz12_1 := blk_frozen BK300.out 1; have hfz12_2 := blk_frozen BK300.out 2; have hfz12_3 := blk_frozen BK300.out 3; have hfz12_4 := blk_frozen BK300.out 4; have hnb13 := NB301_302.out; have hnc13 := NB302_301.out; have hcz14_0 : w9.cell? ⟨gb301, 0, none⟩ = some (.int .i64 a1_0) := (blk_cell BK301.out 0).trans rfl; have hcz14_1 : w9.cell? ⟨gb301, 1, none⟩ = some (.int .i64 a1_1) := (blk_cell BK301.out 1).trans rfl; have hcz14_2 : w9.cell? ⟨gb301, 2, none⟩ = some (.int .i64 a1_2) := (blk_cell BK301.out 2).trans rfl; have hcz14_3 : w9.cell? ⟨gb301, 3, none⟩ = some (.int .i64 a1_3) := (blk_cell BK301.out 3).trans rfl; have hcz14_4 : w9.cell? ⟨gb301, 4, none⟩ = some (.int .i64 a1_4) := (blk_cell BK301.out 4).trans rfl; have hfz14_0 := blk_frozen BK301.out 0; have hfz14_1 := blk_frozen BK301.out 1; have hfz14_2 := blk_frozen BK301.out 2; have hfz14_3 := blk_frozen BK301.out 3; have hfz14_4 := blk_frozen BK301.out 4; have hcz15_0 : w9.cell? ⟨gb302, 0, none⟩ = some (.int .i64 0) := (blk_cell BK302.out 0).trans rfl; have hcz15_1 : w9.cell? ⟨gb302, 1, none⟩ = some (.int .i64 0) := (blk_cell BK302.out 1).trans rfl; have hcz15_2 : w9.cell? ⟨gb302, 2, none⟩ = some (.int .i64 0) := (blk_cell BK302.out 2).trans rfl; have hcz15_3 : w9.cell? ⟨gb302, 3, none⟩ = some (.int .i64 0) := (blk_cell BK302.out 3).trans rfl; have hcz15_4 : w9.cell? ⟨gb302, 4, none⟩ = some (.int .i64 0) := (blk_cell BK302.out 4).trans rfl; have hfz15_0 := blk_frozen BK302.out 0; have hfz15_1 := blk_frozen BK302.out 1; have hfz15_2 := blk_frozen BK302.out 2; have hfz15_3 := blk_frozen BK302.out 3; have hfz15_4 := blk_frozen BK302.out 4)))
  refine bodyPost_ret (results_cell_row rfl _ _ gb302 29 #[.int .i64 ji3, .int .i64 ji4, .int .i64 (wrap64 ((ji5) - (ji3))), .int .i64 (wrap64 ((ji6) - (ji4))), .int .i64 0] (0, 0) _ rfl (by (with_reducible repeat (first | refine blk_drewN ?_ _ | refine blk_drew ?_ | refine blk_alloc ?_ _)); refine blk_put (cs := #[.int .i64 ji3, .int .i64 ji4, .int .i64 (wrap64 ((ji5) - (ji3))), .int .i64 (wrap64 ((ji6) - (ji4))), .int .i64 0]) ?_ 4 _ rfl; (with_reducible repeat (first | refine blk_drewN ?_ _ | refine blk_drew ?_ | refine blk_alloc ?_ _)); refine blk_put (cs := #[.int .i64 ji3, .int .i64 ji4, .int .i64 (wrap64 ((ji5) - (ji3))), .int .i64 0, .int .i64 0]) ?_ 3 _ rfl; (with_reducible repeat (first | refine blk_drewN ?_ _ | refine blk_drew ?_ | refine blk_alloc ?_ _)); refine blk_put (cs := #[.int .i64 ji3, .int .i64 ji4, .int .i64 0, .int .i64 0, .int .i64 0]) ?_ 2 _ rfl; (with_reducible repeat (first | refine blk_drewN ?_ _ | refine blk_drew ?_ | refine blk_alloc ?_ _)); refine blk_put (cs := #[.int .i64 ji3, .int .i64 0, .int .i64 0, .int .i64 0, .int .i64 0]) ?_ 1 _ rfl; (with_reducible repeat (first | refine blk_drewN ?_ _ | refine blk_drew ?_ | refine blk_alloc ?_ _)); refine blk_put (cs := #[.int .i64 0, .int .i64 0, .int .i64 0, .int .i64 0, .int .i64 0]) ?_ 0 _ rfl; (with_reducible repeat (first | refine blk_drewN ?_ _ | refine blk_drew ?_ | refine blk_alloc ?_ _)); exact BK302.out) Tryd.underlying29 rfl (by kernel_rfl)) rfl ?_
  exact ⟨by first | rfl | (simp [IntKind.wrap_i64, wrap64]; done) | (simp [errW_none, errW_some] <;> rfl) | (simp only [← hji3, ← hji4, ← hji5, ← hji6]; first | rfl | (simp [errW_none, errW_some] <;> rfl)) | (simp [*, errW_none, errW_some] <;> rfl), by repeat (first | (with_reducible first | exact HB.out | apply below_alloc | apply pw_below_drewN | apply below_drew1 | refine below_set ?_ GE300.out | refine below_set ?_ GE301.out | refine below_set ?_ GE302.out) | exact HB.out)⟩

/-! ### impl_QryRange: function 5 (by hand) -/
mutual
def impl_QryRange.j0 : Nat → Int → Int → Bool → Int → Int → List (S29) → Option (Int × Int × Int × Int × Int)
  | 0, _, _, _, _, _, _ => none
  | k + 1, x1, x2, x32, x304000, x304001, x304002 => if x32 = true then (some (0, 0, 0, 0, 0)) else (if 0 ≤ x1 then (if x1 < (x304002.length : Int) then (if 0 ≤ x2 then (if x2 < (x304002.length : Int) then ((impl_GrdCell_hull.f ((rd_T29 x304002 x1).f0) ((rd_T29 x304002 x1).f1) ((rd_T29 x304002 x1).f2) ((rd_T29 x304002 x1).f3) ((rd_T29 x304002 x1).f4) ((rd_T29 x304002 x2).f0) ((rd_T29 x304002 x2).f1) ((rd_T29 x304002 x2).f2) ((rd_T29 x304002 x2).f3) ((rd_T29 x304002 x2).f4)).bind fun bt310 => (impl_QryRange.l0 k true x304000 x304001 x304002 bt310.1 bt310.2.1 bt310.2.2.1 bt310.2.2.2.1 bt310.2.2.2.2)) else (none)) else (none)) else (none)) else (none))
def impl_QryRange.l0 : Nat → Bool → Int → Int → List (S29) → Int → Int → Int → Int → Int → Option (Int × Int × Int × Int × Int)
  | 0, _, _, _, _, _, _, _, _, _ => none
  | k + 1, x8, x304000, x304001, x304002, x316000, x316001, x316002, x316003, x316004 => if x8 = true then (impl_QryRange.l1 k false x304002 (x304002.length : Int) 0 x304000 x304001 x304002 x316000 x316001 x316002 x316003 x316004) else (some (x316000, x316001, x316002, x316003, x316004))
def impl_QryRange.l1 : Nat → Bool → List (S29) → Int → Int → Int → Int → List (S29) → Int → Int → Int → Int → Int → Option (Int × Int × Int × Int × Int)
  | 0, _, _, _, _, _, _, _, _, _, _, _, _ => none
  | k + 1, x8, x47, x48, x49, x304000, x304001, x304002, x316000, x316001, x316002, x316003, x316004 => if x49 < x48 then (if 0 ≤ x49 then (if x49 < (x47.length : Int) then ((impl_GrdCell_hull.f x316000 x316001 x316002 x316003 x316004 ((rd_T29 x47 x49).f0) ((rd_T29 x47 x49).f1) ((rd_T29 x47 x49).f2) ((rd_T29 x47 x49).f3) ((rd_T29 x47 x49).f4)).bind fun bt318 => ((impl_GrdCell_meets.f x316000 x316001 x316002 x316003 x316004 ((rd_T29 x47 x49).f0) ((rd_T29 x47 x49).f1) ((rd_T29 x47 x49).f2) ((rd_T29 x47 x49).f3) ((rd_T29 x47 x49).f4)).bind fun t324 => (if t324 = true then (if (!(bt318.1 == x316000) || (!(bt318.2.1 == x316001) || (!(bt318.2.2.1 == x316002) || (!(bt318.2.2.2.1 == x316003) || (!(bt318.2.2.2.2 == x316004)))))) = true then (impl_QryRange.l1 k true x47 x48 (wrap64 (x49 + 1)) x304000 x304001 x304002 bt318.1 bt318.2.1 bt318.2.2.1 bt318.2.2.2.1 bt318.2.2.2.2) else (impl_QryRange.l1 k x8 x47 x48 (wrap64 (x49 + 1)) x304000 x304001 x304002 x316000 x316001 x316002 x316003 x316004)) else (impl_QryRange.l1 k x8 x47 x48 (wrap64 (x49 + 1)) x304000 x304001 x304002 x316000 x316001 x316002 x316003 x316004)))) else (none)) else (none)) else (impl_QryRange.l0 k x8 x304000 x304001 x304002 x316000 x316001 x316002 x316003 x316004)
end
def impl_QryRange.f (k : Nat) (a0_0 : Int) (a0_1 : Int) (l0_2 : List (S29)) (a1 : Int) (a2 : Int) : Option (Int × Int × Int × Int × Int) := (impl_GrdOk.f k a0_0 a0_1 l0_2).bind fun t305 => (if t305 = true then ((impl_in.f a1 0 (wrap64 ((l0_2.length : Int) - 1))).bind fun t306 => (if t306 = true then ((impl_in.f a2 0 (wrap64 ((l0_2.length : Int) - 1))).bind fun t307 => (impl_QryRange.j0 k a1 a2 (!t307) a0_0 a0_1 l0_2)) else (impl_QryRange.j0 k a1 a2 true a0_0 a0_1 l0_2))) else (impl_QryRange.j0 k a1 a2 true a0_0 a0_1 l0_2))
theorem impl_QryRange.mono_l : ∀ k, (∀ y0 y1 y2 y3 y4 y5, LeO (impl_QryRange.j0 k y0 y1 y2 y3 y4 y5) (impl_QryRange.j0 (k + 1) y0 y1 y2 y3 y4 y5)) ∧ (∀ y0 y1 y2 y3 y4 y5 y6 y7 y8, LeO (impl_QryRange.l0 k y0 y1 y2 y3 y4 y5 y6 y7 y8) (impl_QryRange.l0 (k + 1) y0 y1 y2 y3 y4 y5 y6 y7 y8)) ∧ (∀ y0 y1 y2 y3 y4 y5 y6 y7 y8 y9 y10 y11, LeO (impl_QryRange.l1 k y0 y1 y2 y3 y4 y5 y6 y7 y8 y9 y10 y11) (impl_QryRange.l1 (k + 1) y0 y1 y2 y3 y4 y5 y6 y7 y8 y9 y10 y11))
  | 0 => ⟨fun _ _ _ _ _ _ r h => by simp [impl_QryRange.j0] at h, fun _ _ _ _ _ _ _ _ _ r h => by simp [impl_QryRange.l0] at h, fun _ _ _ _ _ _ _ _ _ _ _ _ r h => by simp [impl_QryRange.l1] at h⟩
  | k + 1 => by
    obtain ⟨ih0, ih1, ih2⟩ := impl_QryRange.mono_l k
    refine ⟨?_, ?_, ?_⟩
    · intro y0 y1 y2 y3 y4 y5
      unfold impl_QryRange.j0
      repeat' first
      | (with_reducible exact ih0 _ _ _ _ _ _)
      | (with_reducible exact ih1 _ _ _ _ _ _ _ _ _)
      | (with_reducible exact ih2 _ _ _ _ _ _ _ _ _ _ _ _)
      | (with_reducible exact impl_GrdOk.mono _ _ _ _)
      | (with_reducible exact LeO.refl _)
      | (with_reducible exact LeO.none _)
      | (with_reducible refine LeO.ite ?_ ?_)
      | (with_reducible refine LeO.bind ?_ (fun _ => ?_))
      | exact ih0 _ _ _ _ _ _
      | exact ih1 _ _ _ _ _ _ _ _ _
      | exact ih2 _ _ _ _ _ _ _ _ _ _ _ _
      | exact impl_GrdOk.mono _ _ _ _
      | exact LeO.none _
      | refine LeO.ite ?_ ?_
      | refine LeO.bind ?_ (fun _ => ?_)
    · intro y0 y1 y2 y3 y4 y5 y6 y7 y8
      unfold impl_QryRange.l0
      repeat' first
      | (with_reducible exact ih0 _ _ _ _ _ _)
      | (with_reducible exact ih1 _ _ _ _ _ _ _ _ _)
      | (with_reducible exact ih2 _ _ _ _ _ _ _ _ _ _ _ _)
      | (with_reducible exact impl_GrdOk.mono _ _ _ _)
      | (with_reducible exact LeO.refl _)
      | (with_reducible exact LeO.none _)
      | (with_reducible refine LeO.ite ?_ ?_)
      | (with_reducible refine LeO.bind ?_ (fun _ => ?_))
      | exact ih0 _ _ _ _ _ _
      | exact ih1 _ _ _ _ _ _ _ _ _
      | exact ih2 _ _ _ _ _ _ _ _ _ _ _ _
      | exact impl_GrdOk.mono _ _ _ _
      | exact LeO.none _
      | refine LeO.ite ?_ ?_
      | refine LeO.bind ?_ (fun _ => ?_)
    · intro y0 y1 y2 y3 y4 y5 y6 y7 y8 y9 y10 y11
      unfold impl_QryRange.l1
      repeat' first
      | (with_reducible exact ih0 _ _ _ _ _ _)
      | (with_reducible exact ih1 _ _ _ _ _ _ _ _ _)
      | (with_reducible exact ih2 _ _ _ _ _ _ _ _ _ _ _ _)
      | (with_reducible exact impl_GrdOk.mono _ _ _ _)
      | (with_reducible exact LeO.refl _)
      | (with_reducible exact LeO.none _)
      | (with_reducible refine LeO.ite ?_ ?_)
      | (with_reducible refine LeO.bind ?_ (fun _ => ?_))
      | exact ih0 _ _ _ _ _ _
      | exact ih1 _ _ _ _ _ _ _ _ _
      | exact ih2 _ _ _ _ _ _ _ _ _ _ _ _
      | exact impl_GrdOk.mono _ _ _ _
      | exact LeO.none _
      | refine LeO.ite ?_ ?_
      | refine LeO.bind ?_ (fun _ => ?_)
theorem impl_QryRange.mono : ∀ a0 a1 a2 a3 a4 k, LeO (impl_QryRange.f k a0 a1 a2 a3 a4) (impl_QryRange.f (k + 1) a0 a1 a2 a3 a4) := by
  intro a0 a1 a2 a3 a4 k
  obtain ⟨ih0, ih1, ih2⟩ := impl_QryRange.mono_l k
  unfold impl_QryRange.f
  repeat' first
      | (with_reducible exact ih0 _ _ _ _ _ _)
      | (with_reducible exact ih1 _ _ _ _ _ _ _ _ _)
      | (with_reducible exact ih2 _ _ _ _ _ _ _ _ _ _ _ _)
      | (with_reducible exact impl_GrdOk.mono _ _ _ _)
      | (with_reducible exact LeO.refl _)
      | (with_reducible exact LeO.none _)
      | (with_reducible refine LeO.ite ?_ ?_)
      | (with_reducible refine LeO.bind ?_ (fun _ => ?_))
      | exact ih0 _ _ _ _ _ _
      | exact ih1 _ _ _ _ _ _ _ _ _
      | exact ih2 _ _ _ _ _ _ _ _ _ _ _ _
      | exact impl_GrdOk.mono _ _ _ _
      | exact LeO.none _
      | refine LeO.ite ?_ ?_
      | refine LeO.bind ?_ (fun _ => ?_)
def impl_QryRange.T3 : Bool × List (List Nat × List Nat) := (true, [([], []), ([0], [0]), ([], []), ([1, 2], [1, 2]), ([3], [3]), ([], []), ([5], [5]), ([], []), ([6, 7], [6, 7]), ([8], [8]), ([4, 9], [4, 9]), ([], []), ([11, 10, 10, 0, 1, 2, 3, 4, 5, 6, 7, 8, 9, 10, 11], [10, 11])])
def impl_QryRange.B3 : List Nat := [0, 1, 0, 7, 15, 0, 32, 0, 224, 480, 1023, 0, 4095]
theorem impl_QryRange.tab3 : rtab .any (opsOf Tryd.f5 3) = impl_QryRange.T3 := by kernel_rfl
theorem impl_QryRange.bits3 : waitsOk impl_QryRange.T3.2 impl_QryRange.B3 = true := by kernel_rfl
theorem impl_QryRange.parts {k : Nat} {a0_0 a0_1 : Int} {l0_2 : List S29} {a1 a2 r1 r2 r3 r4 r5 : Int} (hbig : l0_2.length ≤ 9223372036854775807) (h : impl_QryRange.f k a0_0 a0_1 l0_2 a1 a2 = some (r1, r2, r3, r4, r5)) :
    ((r1 = 0 ∧ r2 = 0 ∧ r3 = 0 ∧ r4 = 0 ∧ r5 = 0) ∧ (Aside0 (impl_GrdOk.f k a0_0 a0_1 l0_2 = some false) ∨ (Aside0 (impl_GrdOk.f k a0_0 a0_1 l0_2 = some true) ∧ Aside0 (impl_in.f a1 0 ((l0_2.length : Int) - 1) = some false)) ∨ (Aside0 (impl_GrdOk.f k a0_0 a0_1 l0_2 = some true) ∧ Aside0 (impl_in.f a1 0 ((l0_2.length : Int) - 1) = some true) ∧ Aside0 (impl_in.f a2 0 ((l0_2.length : Int) - 1) = some false)))) ∨
    (Aside0 (impl_GrdOk.f k a0_0 a0_1 l0_2 = some true) ∧ Aside0 (impl_in.f a1 0 ((l0_2.length : Int) - 1) = some true) ∧ Aside0 (impl_in.f a2 0 ((l0_2.length : Int) - 1) = some true) ∧ ∃ (q : Nat) (x : S29), (0 ≤ a1 ∧ a1 < (l0_2.length : Int)) ∧ (0 ≤ a2 ∧ a2 < (l0_2.length : Int)) ∧ Aside0 (impl_GrdCell_hull.f (rd_T29 l0_2 a1).f0 (rd_T29 l0_2 a1).f1 (rd_T29 l0_2 a1).f2 (rd_T29 l0_2 a1).f3 (rd_T29 l0_2 a1).f4 (rd_T29 l0_2 a2).f0 (rd_T29 l0_2 a2).f1 (rd_T29 l0_2 a2).f2 (rd_T29 l0_2 a2).f3 (rd_T29 l0_2 a2).f4 = some (x.f0, x.f1, x.f2, x.f3, x.f4)) ∧ Aside0 (impl_QryRange.l0 q true a0_0 a0_1 l0_2 x.f0 x.f1 x.f2 x.f3 x.f4 = some (r1, r2, r3, r4, r5))) := by
  have bad : impl_QryRange.j0 k a1 a2 true a0_0 a0_1 l0_2 = some (r1, r2, r3, r4, r5) → r1 = 0 ∧ r2 = 0 ∧ r3 = 0 ∧ r4 = 0 ∧ r5 = 0 := by
    intro h
    cases k with
    | zero => unfold impl_QryRange.j0 at h; cases h
    | succ k =>
      unfold impl_QryRange.j0 at h
      simp at h
      omega
  unfold impl_QryRange.f at h
  rw [show wrap64 ((l0_2.length : Int) - 1) = (l0_2.length : Int) - 1 by unfold wrap64; omega] at h
  rw [Option.bind_eq_some_iff] at h
  obtain ⟨t1, h1, h⟩ := h
  cases t1 with
  | false => exact .inl ⟨bad h, .inl ⟨h1⟩⟩
  | true =>
    rw [if_pos rfl, Option.bind_eq_some_iff] at h
    obtain ⟨t2, h2, h⟩ := h
    cases t2 with
    | false => exact .inl ⟨bad h, .inr (.inl ⟨⟨h1⟩, ⟨h2⟩⟩)⟩
    | true =>
      rw [if_pos rfl, Option.bind_eq_some_iff] at h
      obtain ⟨t3, h3, h⟩ := h
      cases t3 with
      | false => exact .inl ⟨bad h, .inr (.inr ⟨⟨h1⟩, ⟨h2⟩, ⟨h3⟩⟩)⟩
      | true =>
        refine .inr ⟨⟨h1⟩, ⟨h2⟩, ⟨h3⟩, ?_⟩
        cases k with
        | zero => unfold impl_QryRange.j0 at h; cases h
        | succ k =>
          simp only [impl_QryRange.j0, Bool.not_true, Bool.false_eq_true, if_false] at h
          split at h
          · split at h
            · split at h
              · split at h
                · rw [Option.bind_eq_some_iff] at h
                  obtain ⟨⟨x0, x1, x2, x3, x4⟩, hx, h⟩ := h
                  exact ⟨k, ⟨x0, x1, x2, x3, x4⟩, ⟨by assumption, by assumption⟩, ⟨by assumption, by assumption⟩, ⟨hx⟩, ⟨h⟩⟩
                · cases h
              · cases h
            · cases h
          · cases h
set_option maxHeartbeats 4000000 in
set_option maxRecDepth 100000 in
theorem impl_QryRange.calls (k : Nat) (a0_0 : Int) (a0_1 : Int) (A0_2 : Option Addr) (c0_2 : Nat) (l0_2 : List (S29)) (a1 : Int) (a2 : Int) (r1 : Int) (r2 : Int) (r3 : Int) (r4 : Int) (r5 : Int) (w : World) (hr0_2 : Kd.C k29 w A0_2 l0_2.length l0_2) (hc0_2 : l0_2.length ≤ c0_2) (h : impl_QryRange.f k a0_0 a0_1 l0_2 a1 a2 = some (r1, r2, r3, r4, r5)) :
    Calls Tryd.prog 5 #[.agg #[.int .i64 a0_0, .int .i64 a0_1, .slice A0_2 l0_2.length c0_2], .int .i64 a1, .int .i64 a2] w fun e w' => e = .returned (.agg #[.int .i64 r1, .int .i64 r2, .int .i64 r3, .int .i64 r4, .int .i64 r5]) ∧ Below w.heap.size w w' := by
  have HR := Aside0.mk hr0_2
  have HC := Aside0.mk hc0_2
  have hbig := hr0_2.2.1
  clear hr0_2 hc0_2
  have hu1 := Tryd.underlying25
  have hu2 := Tryd.underlying29
  rcases impl_QryRange.parts hbig h with ⟨⟨rfl, rfl, rfl, rfl, rfl⟩, A1 | ⟨A1, A2⟩ | ⟨A1, A2, A3⟩⟩ | ⟨A1, A2, A3, q, x, ⟨ha0, ha1⟩, ⟨hb0, hb1⟩, A4, A5⟩
  iterate 3
    · clear h
      go_enter Tryd.func5, Tryd.ntmps5
      go_wp2_with (first | (go_at_call 12; (with_reducible refine (impl_GrdOk.calls k a0_0 a0_1 A0_2 c0_2 l0_2 _ _ (Kd.C_below HR.out (below_alloc (below_alloc (Below.refl _ _) _) _)) HC.out A1.out).mono ?_); rintro e W ⟨rfl, hb⟩; have HG := Aside0.mk (blk_below (blk_alloc (blk_new w (.cells #[.int .i64 a0_0, .int .i64 a0_1, .slice A0_2 l0_2.length c0_2] 25)) (.cells (gcA 0 0 0 0 0) 29)) hb); have HO := Aside0.mk (blk_below (blk_new2 w (.cells #[.int .i64 a0_0, .int .i64 a0_1, .slice A0_2 l0_2.length c0_2] 25) (.cells (gcA 0 0 0 0 0) 29)) hb); have HB := Aside0.mk (below_step (below_alloc (below_alloc (Below.refl _ w) _) _) hb); clear hb; have q2 : W.cell? ⟨w.heap.size, 2, none⟩ = some (.slice A0_2 l0_2.length c0_2) := (blk_cell HG.out 2).trans rfl) | (go_at_call 13; (first | (with_reducible refine (impl_in.calls _ _ _ _ _ A2.out).mono ?_) | (with_reducible refine (impl_in.calls _ _ _ _ _ A3.out).mono ?_)); rintro e W' ⟨rfl, ⟨nd, rfl⟩⟩) | (refine wpList_put 29 _ _ rfl rfl (w.heap.size + 1) 0 rfl (.agg (gcA 0 0 0 0 0)) rfl 29 (gcA 0 0 0 0 0) (gcA 0 0 0 0 0) HO.out (by kernel_rfl) rfl rfl rfl (fun W9 hp => ?_); have HB := Aside0.mk (hp.below (by first | exact HB.out | exact pw_below_drewN HB.out _) (Nat.le_add_right _ 1)); have HO := Aside0.mk hp.blk; clear hp))
      exact bodyPost_ret (results_cell_row rfl _ _ (w.heap.size + 1) 29 (gcA 0 0 0 0 0) (0, 0) _ rfl HO.out Tryd.underlying29 rfl (by kernel_rfl)) rfl ⟨rfl, HB.out⟩
  clear h
  obtain ⟨ad, rfl, p0, p1, p2, p3, p4⟩ := at_T29 HR.out a1 ha0 ha1
  obtain ⟨ad', e', s0, s1, s2, s3, s4⟩ := at_T29 HR.out a2 hb0 hb1
  cases e'
  obtain ⟨xa, hxa⟩ : ∃ xa, rd_T29 l0_2 a1 = xa := ⟨_, rfl⟩
  obtain ⟨xb, hxb⟩ : ∃ xb, rd_T29 l0_2 a2 = xb := ⟨_, rfl⟩
  rw [hxa] at p0 p1 p2 p3 p4 A4
  rw [hxb] at s0 s1 s2 s3 s4 A4
  clear hxa hxb
  have PA := Aside0.mk (And.intro p0 (And.intro p1 (And.intro p2 (And.intro p3 (And.intro p4 (And.intro s0 (And.intro s1 (And.intro s2 (And.intro s3 s4)))))))))
  clear p0 p1 p2 p3 p4 s0 s1 s2 s3 s4
  go_enter Tryd.func5, Tryd.ntmps5
  go_wp2_with (first | (go_at_call 12; (with_reducible refine (impl_GrdOk.calls k a0_0 a0_1 (some ad) c0_2 l0_2 _ _ (Kd.C_below HR.out (below_alloc (below_alloc (Below.refl _ _) _) _)) HC.out A1.out).mono ?_); rintro e W ⟨rfl, hb⟩; have HG := Aside0.mk (blk_below (blk_alloc (blk_new w (.cells #[.int .i64 a0_0, .int .i64 a0_1, .slice (some ad) l0_2.length c0_2] 25)) (.cells (gcA 0 0 0 0 0) 29)) hb); have HO := Aside0.mk (blk_below (blk_new2 w (.cells #[.int .i64 a0_0, .int .i64 a0_1, .slice (some ad) l0_2.length c0_2] 25) (.cells (gcA 0 0 0 0 0) 29)) hb); have HB := Aside0.mk (below_step (below_alloc (below_alloc (Below.refl _ w) _) _) hb); clear hb; have q2 : W.cell? ⟨w.heap.size, 2, none⟩ = some (.slice (some ad) l0_2.length c0_2) := (blk_cell HG.out 2).trans rfl) | (go_at_call 13; (first | (with_reducible refine (impl_in.calls _ _ _ _ _ A2.out).mono ?_) | (with_reducible refine (impl_in.calls _ _ _ _ _ A3.out).mono ?_)); rintro e W' ⟨rfl, ⟨nd, rfl⟩⟩) | (refine wpList_put 29 _ _ rfl rfl (w.heap.size + 1) 0 rfl (.agg (gcA 0 0 0 0 0)) rfl 29 (gcA 0 0 0 0 0) (gcA 0 0 0 0 0) HO.out (by kernel_rfl) rfl rfl rfl (fun W9 hp => ?_); have HB := Aside0.mk (hp.below (by first | exact HB.out | exact pw_below_drewN HB.out _) (Nat.le_add_right _ 1)); have HO := Aside0.mk hp.blk; clear hp))
  go_upto_region 3 with fail
  go_cut [7] (fun s7 wx => ∃ C : Nat, s7 = .pointer (some ⟨C, 0, none⟩) ∧ w.heap.size + 2 ≤ C ∧ Aside0 (wx.heap[C]? = some (.cells (gcA x.f0 x.f1 x.f2 x.f3 x.f4) 29 (0, 0))) ∧ Aside0 (Below W.heap.size W wx))
  case first =>
    obtain ⟨p0, p1, p2, p3, p4, s0, s1, s2, s3, s4⟩ := PA.out
    replace p0 := (HB.out.cell (World.block_lt_of_cell? w _ p0)).trans p0
    replace p1 := (HB.out.cell (World.block_lt_of_cell? w _ p1)).trans p1
    replace p2 := (HB.out.cell (World.block_lt_of_cell? w _ p2)).trans p2
    replace p3 := (HB.out.cell (World.block_lt_of_cell? w _ p3)).trans p3
    replace p4 := (HB.out.cell (World.block_lt_of_cell? w _ p4)).trans p4
    replace s0 := (HB.out.cell (World.block_lt_of_cell? w _ s0)).trans s0
    replace s1 := (HB.out.cell (World.block_lt_of_cell? w _ s1)).trans s1
    replace s2 := (HB.out.cell (World.block_lt_of_cell? w _ s2)).trans s2
    replace s3 := (HB.out.cell (World.block_lt_of_cell? w _ s3)).trans s3
    replace s4 := (HB.out.cell (World.block_lt_of_cell? w _ s4)).trans s4
    go_region_held3 (fun w' => w'.cell? ⟨w.heap.size, 2, none⟩ = some (.slice (some ad) l0_2.length c0_2) ∧ w'.cell? (ad.add (a1.toNat * 5)) = some (.int .i64 xa.f0) ∧ w'.cell? ⟨(ad.add (a1.toNat * 5)).block, (ad.add (a1.toNat * 5)).off + 1, none⟩ = some (.int .i64 xa.f1) ∧ w'.cell? ⟨(ad.add (a1.toNat * 5)).block, (ad.add (a1.toNat * 5)).off + 2, none⟩ = some (.int .i64 xa.f2) ∧ w'.cell? ⟨(ad.add (a1.toNat * 5)).block, (ad.add (a1.toNat * 5)).off + 3, none⟩ = some (.int .i64 xa.f3) ∧ w'.cell? ⟨(ad.add (a1.toNat * 5)).block, (ad.add (a1.toNat * 5)).off + 4, none⟩ = some (.int .i64 xa.f4) ∧ w'.cell? (ad.add (a2.toNat * 5)) = some (.int .i64 xb.f0) ∧ w'.cell? ⟨(ad.add (a2.toNat * 5)).block, (ad.add (a2.toNat * 5)).off + 1, none⟩ = some (.int .i64 xb.f1) ∧ w'.cell? ⟨(ad.add (a2.toNat * 5)).block, (ad.add (a2.toNat * 5)).off + 2, none⟩ = some (.int .i64 xb.f2) ∧ w'.cell? ⟨(ad.add (a2.toNat * 5)).block, (ad.add (a2.toNat * 5)).off + 3, none⟩ = some (.int .i64 xb.f3) ∧ w'.cell? ⟨(ad.add (a2.toNat * 5)).block, (ad.add (a2.toNat * 5)).off + 4, none⟩ = some (.int .i64 xb.f4)) ((repeat' apply And.intro) <;> exact keepc (W := W) (by assumption) (by repeat (with_reducible first | exact Below.refl _ _ | apply below_alloc | apply pw_below_drewN | apply below_drew1 | (refine below_set ?_ (by simp)) | refine below_step ?_ hb2)))
      (first | (go_at_call 14; (with_reducible refine (impl_GrdCell_hull.calls _ _ _ _ _ _ _ _ _ _ _ _ _ _ _ _ A4.out).mono ?_); rintro e W2 ⟨rfl, hb2⟩; try (have nb : W2.heap[W.heap.size]? = some (.cells (gcA 0 0 0 0 0) 29 (0, 0)) := blk_below (first_block W _ _ (by rfl)) hb2; have nf := blk_frozen nb; obtain ⟨n0, n1, n2, n3, n4⟩ := gcA_cells nb; have f0 := nf 0; have f1 := nf 1; have f2 := nf 2; have f3 := nf 3; have f4 := nf 4; clear nf)))
    · go_wp2_with fail
      go_meet
      exact ⟨W2.heap.size, rfl, Nat.le_trans (blk_lt HO.out) hb2.size, ⟨blk_new W2 (.cells (gcA x.f0 x.f1 x.f2 x.f3 x.f4) 29)⟩, ⟨below_alloc (below_step (below_drew1 (pw_below_drewN (Below.refl _ W) _)) hb2) _⟩⟩
    · have hX0 : W2.heap[W.heap.size]? = some (.cells (gcA 0 0 0 0 0) 29 (0, 0)) := blk_below (first_block W _ _ (by rfl)) hb2
      have hb4 : Below W.heap.size W W2 := below_step (below_alloc (below_drew1 (pw_below_drewN (Below.refl _ W) _)) _) hb2
      go_wp2_with fail
      go_meet
      exact ⟨W.heap.size, rfl, blk_lt HO.out, ⟨blk_put (blk_put (blk_put (blk_put (blk_put hX0 0 (.int .i64 x.f0) rfl) 1 (.int .i64 x.f1) rfl) 2 (.int .i64 x.f2) rfl) 3 (.int .i64 x.f3) rfl) 4 (.int .i64 x.f4) rfl⟩, ⟨below_set (below_set (below_set (below_set (below_set hb4 (Nat.le_refl _)) (Nat.le_refl _)) (Nat.le_refl _)) (Nat.le_refl _)) (Nat.le_refl _)⟩⟩
  case rest =>
    obtain ⟨C, rfl, hC, HX, hb3⟩ := hcut
    replace HB := Aside0.mk (below_step HB.out hb3.out)
    replace HG := Aside0.mk (blk_below HG.out hb3.out)
    replace HO := Aside0.mk (blk_below HO.out hb3.out)
    clear hb3 PA q2
    go_wp2
    go_loopg [8] q (fun gg s8 wr => ∃ (q' : Nat) (c : Bool) (y : S29), q' ≤ gg ∧ s8 = .bool c ∧ Aside0 (impl_QryRange.l0 q' c a0_0 a0_1 l0_2 y.f0 y.f1 y.f2 y.f3 y.f4 = some (r1, r2, r3, r4, r5)) ∧ Aside0 (wr.heap[C]? = some (.cells (gcA y.f0 y.f1 y.f2 y.f3 y.f4) 29 (0, 0))) ∧ Aside0 (wr.heap[w.heap.size]? = some (.cells #[.int .i64 a0_0, .int .i64 a0_1, .slice (some ad) l0_2.length c0_2] 25 (0, 0))) ∧ Aside0 (wr.heap[w.heap.size + 1]? = some (.cells (gcA 0 0 0 0 0) 29 (0, 0))) ∧ Aside0 (Below w.heap.size w wr))
    case atStart => exact ⟨q, true, x, Nat.le_refl _, rfl, A5, HX, HG, HO, HB⟩
    case round =>
      clear HX HG HO HB A5
      obtain ⟨q', c, y, hq, rfl, HL, HX, HG, HO, HB⟩ := hrel
      cases q' with
      | zero => exact absurd HL.out (by simp [impl_QryRange.l0])
      | succ q' =>
        have hl := HL.out
        clear HL
        cases c with
        | false =>
          simp only [impl_QryRange.l0, Bool.false_eq_true, if_false, Option.some.injEq, Prod.mk.injEq] at hl
          obtain ⟨rfl, rfl, rfl, rfl, rfl⟩ := hl
          obtain ⟨o0, o1, o2, o3, o4⟩ := gcA_cells HX.out
          go_wp2_with (refine wpList_put 29 _ _ rfl rfl (w.heap.size + 1) 0 rfl (.agg (gcA y.f0 y.f1 y.f2 y.f3 y.f4)) rfl 29 (gcA 0 0 0 0 0) (gcA y.f0 y.f1 y.f2 y.f3 y.f4) HO.out (by kernel_rfl) rfl rfl rfl (fun W9 hp => ?_); have HB := Aside0.mk (hp.below HB.out (Nat.le_add_right _ 1)); have HO := Aside0.mk hp.blk; clear hp)
          exact bodyPost_ret (results_cell_row rfl _ _ (w.heap.size + 1) 29 (gcA y.f0 y.f1 y.f2 y.f3 y.f4) (0, 0) _ rfl HO.out Tryd.underlying29 rfl (by kernel_rfl)) rfl ⟨rfl, HB.out⟩
        | true =>
          simp only [impl_QryRange.l0, if_true] at hl
          have AL := Aside0.mk hl
          clear hl
          have q2 : wr.cell? ⟨w.heap.size, 2, none⟩ = some (.slice (some ad) l0_2.length c0_2) := (blk_cell HG.out 2).trans rfl
          go_wp2
          go_loopg [8, 49] q' (fun gg s8 s49 wr => ∃ (q2 : Nat) (c : Bool) (i : Int) (y : S29), q2 ≤ gg ∧ q2 ≤ q' ∧ s8 = .bool c ∧ s49 = .int .i64 i ∧ Aside0 (impl_QryRange.l1 q2 c l0_2 (l0_2.length : Int) i a0_0 a0_1 l0_2 y.f0 y.f1 y.f2 y.f3 y.f4 = some (r1, r2, r3, r4, r5)) ∧ Aside0 (wr.heap[C]? = some (.cells (gcA y.f0 y.f1 y.f2 y.f3 y.f4) 29 (0, 0))) ∧ Aside0 (wr.heap[w.heap.size]? = some (.cells #[.int .i64 a0_0, .int .i64 a0_1, .slice (some ad) l0_2.length c0_2] 25 (0, 0))) ∧ Aside0 (wr.heap[w.heap.size + 1]? = some (.cells (gcA 0 0 0 0 0) 29 (0, 0))) ∧ Aside0 (Below w.heap.size w wr))
          case atStart => exact ⟨q', false, 0, y, Nat.le_refl _, Nat.le_refl _, rfl, rfl, AL, HX, HG, HO, HB⟩
          case round =>
            rename_i wr0 _ _ _ _
            clear HX HG HO HB AL q2
            obtain ⟨q2, c, i, y, hq2, hq3, rfl, rfl, HL, HX, HG, HO, HB⟩ := hrel
            cases q2 with
            | zero => exact absurd HL.out (by simp [impl_QryRange.l1])
            | succ q2 =>
              have hl := HL.out
              clear HL
              simp only [impl_QryRange.l1] at hl
              by_cases hlt : i < (l0_2.length : Int)
              · rw [if_pos hlt] at hl
                by_cases h0 : 0 ≤ i
                · rw [if_pos h0, if_pos hlt, Option.bind_eq_some_iff] at hl
                  obtain ⟨⟨y0, y1, y2, y3, y4⟩, hh, hl⟩ := hl
                  rw [Option.bind_eq_some_iff] at hl
                  obtain ⟨t, hm, hl⟩ := hl
                  have AH := Aside0.mk hh
                  have AM := Aside0.mk hm
                  clear hh hm
                  obtain ⟨ad2, e', p0, p1, p2, p3, p4⟩ := at_T29 (Kd.C_below HR.out HB.out) i h0 hlt
                  cases e'
                  obtain ⟨x, hx⟩ : ∃ x, rd_T29 l0_2 i = x := ⟨_, rfl⟩
                  rw [hx] at p0 p1 p2 p3 p4 AH AM
                  clear hx
                  obtain ⟨o0, o1, o2, o3, o4⟩ := gcA_cells HX.out
                  have n0 := alloc_cell HX.out
                  rw [show wrap64 (i + 1) = i + 1 by unfold wrap64; omega] at hl
                  cases t
                  rotate_left
                  · rw [if_pos rfl] at hl
                    by_cases e : y0 = y.f0 ∧ y1 = y.f1 ∧ y2 = y.f2 ∧ y3 = y.f3 ∧ y4 = y.f4
                    · rw [if_neg (by simp [e])] at hl
                      obtain ⟨rfl, rfl, rfl, rfl, rfl⟩ := e
                      have AL := Aside0.mk hl
                      clear hl
                      go_wp2_with (first | (go_at_call 14; (with_reducible refine (impl_GrdCell_hull.calls _ _ _ _ _ _ _ _ _ _ _ _ _ _ _ _ AH.out).mono ?_); rintro e W1 ⟨rfl, hb1⟩; clear o0 o1 o2 o3 o4 n0 p0 p1 p2 p3 p4; replace HG := Aside0.mk (blk_below (blk_alloc HG.out _) hb1); replace HO := Aside0.mk (blk_below (blk_alloc HO.out _) hb1); replace HB := Aside0.mk (below_step (below_alloc HB.out _) hb1); have HN := Aside0.mk (blk_below (blk_new wr (.cells (gcA x.f0 x.f1 x.f2 x.f3 x.f4) 29)) hb1); replace HX := Aside0.mk (blk_below (blk_alloc HX.out _) hb1); clear hb1; have m0 := gcA_cells HN.out; have o0 := gcA_cells HX.out; obtain ⟨m0, m1, m2, m3, m4⟩ := m0; obtain ⟨o0, o1, o2, o3, o4⟩ := o0; have n0 := alloc_cell HX.out; have n1 := alloc_cell HN.out) | (go_at_call 15; (with_reducible refine (impl_GrdCell_meets.calls _ _ _ _ _ _ _ _ _ _ _ _ AM.out).mono ?_); rintro e W4 ⟨rfl, hb4⟩; clear o0 o1 o2 o3 o4 m0 m1 m2 m3 m4 n0 n1 HN; replace HG := Aside0.mk (blk_below (blk_alloc HG.out _) hb4); replace HO := Aside0.mk (blk_below (blk_alloc HO.out _) hb4); replace HB := Aside0.mk (below_step (below_alloc HB.out _) hb4); have HN := Aside0.mk (blk_below (blk_new W1 (.cells (gcA _ _ _ _ _) 29)) hb4); replace HX := Aside0.mk (blk_below (blk_alloc HX.out _) hb4); clear hb4; have m0 := gcA_cells HN.out; have o0 := gcA_cells HX.out; obtain ⟨m0, m1, m2, m3, m4⟩ := m0; obtain ⟨o0, o1, o2, o3, o4⟩ := o0) | (show wpList _ _ _ _ _ W4; refine wpList_put 29 _ _ rfl rfl C 0 rfl (.agg (gcA _ _ _ _ _)) rfl 29 (gcA y.f0 y.f1 y.f2 y.f3 y.f4) (gcA _ _ _ _ _) HX.out (by kernel_rfl) rfl rfl rfl (fun W9 hp => ?_); replace HG := Aside0.mk (hp.keep HG.out (by omega)); replace HO := Aside0.mk (hp.keep HO.out (by omega)); replace HB := Aside0.mk (hp.below HB.out (by omega)); replace HX := Aside0.mk hp.blk; clear hp o0 o1 o2 o3 o4 m0 m1 m2 m3 m4))
                      go_roundg q2
                      case measure => omega
                      case rel => exact ⟨q2, c, i + 1, y, Nat.le_refl _, by omega, rfl, rfl, AL, HX, HG, HO, HB⟩
                    · rw [if_pos (by simp; omega)] at hl
                      obtain ⟨y', hy'⟩ : ∃ y' : S29, y' = ⟨y0, y1, y2, y3, y4⟩ := ⟨_, rfl⟩
                      have AL : Aside0 (impl_QryRange.l1 q2 true l0_2 (l0_2.length : Int) (i + 1) a0_0 a0_1 l0_2 y'.f0 y'.f1 y'.f2 y'.f3 y'.f4 = some (r1, r2, r3, r4, r5)) := ⟨by rw [hy']; exact hl⟩
                      have HY := Aside0.mk hy'
                      clear hl hy'
                      rcases (by omega : y0 ≠ y.f0 ∨ (y0 = y.f0 ∧ y1 ≠ y.f1) ∨ (y0 = y.f0 ∧ y1 = y.f1 ∧ y2 ≠ y.f2) ∨ (y0 = y.f0 ∧ y1 = y.f1 ∧ y2 = y.f2 ∧ y3 ≠ y.f3) ∨ (y0 = y.f0 ∧ y1 = y.f1 ∧ y2 = y.f2 ∧ y3 = y.f3 ∧ y4 ≠ y.f4)) with e | ⟨rfl, e⟩ | ⟨rfl, rfl, e⟩ | ⟨rfl, rfl, rfl, e⟩ | ⟨rfl, rfl, rfl, rfl, e⟩
                      iterate 5
                        · clear ‹¬ (_ ∧ _)›
                          go_wp2_with (first | (go_at_call 14; (with_reducible refine (impl_GrdCell_hull.calls _ _ _ _ _ _ _ _ _ _ _ _ _ _ _ _ AH.out).mono ?_); rintro e W1 ⟨rfl, hb1⟩; clear o0 o1 o2 o3 o4 n0 p0 p1 p2 p3 p4; replace HG := Aside0.mk (blk_below (blk_alloc HG.out _) hb1); replace HO := Aside0.mk (blk_below (blk_alloc HO.out _) hb1); replace HB := Aside0.mk (below_step (below_alloc HB.out _) hb1); have HN := Aside0.mk (blk_below (blk_new wr (.cells (gcA x.f0 x.f1 x.f2 x.f3 x.f4) 29)) hb1); replace HX := Aside0.mk (blk_below (blk_alloc HX.out _) hb1); clear hb1; have m0 := gcA_cells HN.out; have o0 := gcA_cells HX.out; obtain ⟨m0, m1, m2, m3, m4⟩ := m0; obtain ⟨o0, o1, o2, o3, o4⟩ := o0; have n0 := alloc_cell HX.out; have n1 := alloc_cell HN.out) | (go_at_call 15; (with_reducible refine (impl_GrdCell_meets.calls _ _ _ _ _ _ _ _ _ _ _ _ AM.out).mono ?_); rintro e W4 ⟨rfl, hb4⟩; clear o0 o1 o2 o3 o4 m0 m1 m2 m3 m4 n0 n1 HN; replace HG := Aside0.mk (blk_below (blk_alloc HG.out _) hb4); replace HO := Aside0.mk (blk_below (blk_alloc HO.out _) hb4); replace HB := Aside0.mk (below_step (below_alloc HB.out _) hb4); have HN := Aside0.mk (blk_below (blk_new W1 (.cells (gcA _ _ _ _ _) 29)) hb4); replace HX := Aside0.mk (blk_below (blk_alloc HX.out _) hb4); clear hb4; have m0 := gcA_cells HN.out; have o0 := gcA_cells HX.out; obtain ⟨m0, m1, m2, m3, m4⟩ := m0; obtain ⟨o0, o1, o2, o3, o4⟩ := o0) | (show wpList _ _ _ _ _ W4; refine wpList_put 29 _ _ rfl rfl C 0 rfl (.agg (gcA _ _ _ _ _)) rfl 29 (gcA y.f0 y.f1 y.f2 y.f3 y.f4) (gcA _ _ _ _ _) HX.out (by kernel_rfl) rfl rfl rfl (fun W9 hp => ?_); replace HG := Aside0.mk (hp.keep HG.out (by omega)); replace HO := Aside0.mk (hp.keep HO.out (by omega)); replace HB := Aside0.mk (hp.below HB.out (by omega)); replace HX := Aside0.mk hp.blk; clear hp o0 o1 o2 o3 o4 m0 m1 m2 m3 m4))
                          go_roundg q2
                          case measure => omega
                          case rel => exact ⟨q2, true, i + 1, y', Nat.le_refl _, by omega, rfl, rfl, AL, ⟨by rw [HY.out]; exact HX.out⟩, HG, HO, HB⟩
                  · rw [if_neg (by decide)] at hl
                    have AL := Aside0.mk hl
                    clear hl
                    go_wp2_with (first | (go_at_call 14; (with_reducible refine (impl_GrdCell_hull.calls _ _ _ _ _ _ _ _ _ _ _ _ _ _ _ _ AH.out).mono ?_); rintro e W1 ⟨rfl, hb1⟩; clear o0 o1 o2 o3 o4 n0 p0 p1 p2 p3 p4; replace HG := Aside0.mk (blk_below (blk_alloc HG.out _) hb1); replace HO := Aside0.mk (blk_below (blk_alloc HO.out _) hb1); replace HB := Aside0.mk (below_step (below_alloc HB.out _) hb1); have HN := Aside0.mk (blk_below (blk_new wr (.cells (gcA x.f0 x.f1 x.f2 x.f3 x.f4) 29)) hb1); replace HX := Aside0.mk (blk_below (blk_alloc HX.out _) hb1); clear hb1; have m0 := gcA_cells HN.out; have o0 := gcA_cells HX.out; obtain ⟨m0, m1, m2, m3, m4⟩ := m0; obtain ⟨o0, o1, o2, o3, o4⟩ := o0; have n0 := alloc_cell HX.out; have n1 := alloc_cell HN.out) | (go_at_call 15; (with_reducible refine (impl_GrdCell_meets.calls _ _ _ _ _ _ _ _ _ _ _ _ AM.out).mono ?_); rintro e W4 ⟨rfl, hb4⟩; clear o0 o1 o2 o3 o4 m0 m1 m2 m3 m4 n0 n1 HN; replace HG := Aside0.mk (blk_below (blk_alloc HG.out _) hb4); replace HO := Aside0.mk (blk_below (blk_alloc HO.out _) hb4); replace HB := Aside0.mk (below_step (below_alloc HB.out _) hb4); have HN := Aside0.mk (blk_below (blk_new W1 (.cells (gcA _ _ _ _ _) 29)) hb4); replace HX := Aside0.mk (blk_below (blk_alloc HX.out _) hb4); clear hb4; have m0 := gcA_cells HN.out; have o0 := gcA_cells HX.out; obtain ⟨m0, m1, m2, m3, m4⟩ := m0; obtain ⟨o0, o1, o2, o3, o4⟩ := o0) | (show wpList _ _ _ _ _ W4; refine wpList_put 29 _ _ rfl rfl C 0 rfl (.agg (gcA _ _ _ _ _)) rfl 29 (gcA y.f0 y.f1 y.f2 y.f3 y.f4) (gcA _ _ _ _ _) HX.out (by kernel_rfl) rfl rfl rfl (fun W9 hp => ?_); replace HG := Aside0.mk (hp.keep HG.out (by omega)); replace HO := Aside0.mk (hp.keep HO.out (by omega)); replace HB := Aside0.mk (hp.below HB.out (by omega)); replace HX := Aside0.mk hp.blk; clear hp o0 o1 o2 o3 o4 m0 m1 m2 m3 m4))
                    go_roundg q2
                    case measure => omega
                    case rel => exact ⟨q2, c, i + 1, y, Nat.le_refl _, by omega, rfl, rfl, AL, HX, HG, HO, HB⟩
                · rw [if_neg h0] at hl
                  cases hl
              · rw [if_neg hlt] at hl
                have AL := Aside0.mk hl
                clear hl
                go_wp2
                go_roundg q2
                case measure => omega
                case rel => exact ⟨q2, c, y, Nat.le_refl _, rfl, AL, HX, HG, HO, HB⟩

/-! ### spec_GrdOk: function 7 (by hand) -/

mutual
def spec_GrdOk.j0 : Nat → Bool → Int → Int → List (S29) → Option (Bool)
  | 0, _, _, _, _ => none
  | k + 1, x20, x326000, x326001, x326002 => if x20 = true then (some false) else (spec_GrdOk.l0 k 0 x326000 x326001 x326002)
def spec_GrdOk.l0 : Nat → Int → Int → Int → List (S29) → Option (Bool)
  | 0, _, _, _, _ => none
  | k + 1, x3, x326000, x326001, x326002 => if x3 < (x326002.length : Int) then (if 0 ≤ x3 then ((spec_l1In.f ((rd_T29 x326002 x3).f0) 0 (wrap64 (x326000 - 1))).bind fun t330 => (if t330 = true then ((spec_l1In.f ((rd_T29 x326002 x3).f1) 0 (wrap64 (x326001 - 1))).bind fun t331 => (if t331 = true then ((spec_l1In.f ((rd_T29 x326002 x3).f2) 1 (wrap64 (x326000 - ((rd_T29 x326002 x3).f0)))).bind fun t332 => (if t332 = true then ((spec_l1In.f ((rd_T29 x326002 x3).f3) 1 (wrap64 (x326001 - ((rd_T29 x326002 x3).f1)))).bind fun t333 => (if t333 = true then ((spec_l1In.f ((rd_T29 x326002 x3).f4) 0 4).bind fun t334 => (if t334 = true then (if x3 ≤ (x326002.length : Int) then ((spec_l3Free.f k (x326002.take (x3 : Int).toNat) ((rd_T29 x326002 x3).f0) ((rd_T29 x326002 x3).f1) ((rd_T29 x326002 x3).f2) ((rd_T29 x326002 x3).f3) ((rd_T29 x326002 x3).f4)).bind fun t339 => (if t339 = true then (spec_GrdOk.l0 k (wrap64 (x3 + 1)) x326000 x326001 x326002) else (some false))) else (none)) else (some false))) else (some false))) else (some false))) else (some false))) else (some false))) else (none)) else (some true)
end
def spec_GrdOk.f (k : Nat) (a0_0 : Int) (a0_1 : Int) (l0_2 : List (S29)) : Option (Bool) := (spec_l1In.f a0_0 1 8).bind fun t326 => (if t326 = true then ((spec_l1In.f a0_1 1 94).bind fun t327 => (if t327 = true then (spec_GrdOk.j0 k (decide ((l0_2.length : Int) > 40)) a0_0 a0_1 l0_2) else (spec_GrdOk.j0 k true a0_0 a0_1 l0_2))) else (spec_GrdOk.j0 k true a0_0 a0_1 l0_2))
theorem spec_GrdOk.mono_l : ∀ k, (∀ y0 y1 y2 y3, LeO (spec_GrdOk.j0 k y0 y1 y2 y3) (spec_GrdOk.j0 (k + 1) y0 y1 y2 y3)) ∧ (∀ y0 y1 y2 y3, LeO (spec_GrdOk.l0 k y0 y1 y2 y3) (spec_GrdOk.l0 (k + 1) y0 y1 y2 y3))
  | 0 => ⟨fun _ _ _ _ r h => by simp [spec_GrdOk.j0] at h, fun _ _ _ _ r h => by simp [spec_GrdOk.l0] at h⟩
  | k + 1 => by
    obtain ⟨ih0, ih1⟩ := spec_GrdOk.mono_l k
    refine ⟨?_, ?_⟩
    · intro y0 y1 y2 y3
      unfold spec_GrdOk.j0
      repeat' first
      | (with_reducible exact ih0 _ _ _ _)
      | (with_reducible exact ih1 _ _ _ _)
      | (with_reducible exact spec_l3Free.mono _ _ _ _ _ _ _)
      | (with_reducible exact LeO.refl _)
      | (with_reducible exact LeO.none _)
      | (with_reducible refine LeO.ite ?_ ?_)
      | (with_reducible refine LeO.bind ?_ (fun _ => ?_))
      | exact ih0 _ _ _ _
      | exact ih1 _ _ _ _
      | exact spec_l3Free.mono _ _ _ _ _ _ _
      | exact LeO.none _
      | refine LeO.ite ?_ ?_
      | refine LeO.bind ?_ (fun _ => ?_)
    · intro y0 y1 y2 y3
      unfold spec_GrdOk.l0
      repeat' first
      | (with_reducible exact ih0 _ _ _ _)
      | (with_reducible exact ih1 _ _ _ _)
      | (with_reducible exact spec_l3Free.mono _ _ _ _ _ _ _)
      | (with_reducible exact LeO.refl _)
      | (with_reducible exact LeO.none _)
      | (with_reducible refine LeO.ite ?_ ?_)
      | (with_reducible refine LeO.bind ?_ (fun _ => ?_))
      | exact ih0 _ _ _ _
      | exact ih1 _ _ _ _
      | exact spec_l3Free.mono _ _ _ _ _ _ _
      | exact LeO.none _
      | refine LeO.ite ?_ ?_
      | refine LeO.bind ?_ (fun _ => ?_)
theorem spec_GrdOk.mono : ∀ a0 a1 a2 k, LeO (spec_GrdOk.f k a0 a1 a2) (spec_GrdOk.f (k + 1) a0 a1 a2) := by
  intro a0 a1 a2 k
  obtain ⟨ih0, ih1⟩ := spec_GrdOk.mono_l k
  unfold spec_GrdOk.f
  repeat' first
      | (with_reducible exact ih0 _ _ _ _)
      | (with_reducible exact ih1 _ _ _ _)
      | (with_reducible exact spec_l3Free.mono _ _ _ _ _ _ _)
      | (with_reducible exact LeO.refl _)
      | (with_reducible exact LeO.none _)
      | (with_reducible refine LeO.ite ?_ ?_)
      | (with_reducible refine LeO.bind ?_ (fun _ => ?_))
      | exact ih0 _ _ _ _
      | exact ih1 _ _ _ _
      | exact spec_l3Free.mono _ _ _ _ _ _ _
      | exact LeO.none _
      | refine LeO.ite ?_ ?_
      | refine LeO.bind ?_ (fun _ => ?_)
def spec_GrdOk.T7 : Bool × List (List Nat × List Nat) := (true, [([], []), ([0], [0]), ([], []), ([2], [2]), ([3], [3]), ([1, 4], [1, 4]), ([5], [5]), ([6, 5], [6]), ([7], [7]), ([8, 7], [7, 8]), ([7], [7]), ([10, 7], [7, 10]), ([11, 7], [7, 11]), ([9, 12, 7, 7], [7, 9, 12]), ([13, 7], [7, 13]), ([7, 14], [7, 14]), ([15, 13], [15]), ([16], [16]), ([17, 16], [16, 17]), ([16], [16]), ([19, 16], [16, 19]), ([16], [16]), ([21, 16], [16, 21]), ([20, 22, 16], [16, 20, 22]), ([18, 23, 16, 16], [16, 18, 23]), ([24, 16], [16, 24]), ([16, 25], [16, 25]), ([26, 24], [26]), ([27], [27]), ([28, 27], [27, 28]), ([27], [27]), ([30, 27], [27, 30]), ([27], [27]), ([32, 27], [27, 32]), ([31, 33, 27], [27, 31, 33]), ([29, 34, 27, 27], [27, 29, 34]), ([35, 27], [27, 35]), ([27, 36], [27, 36]), ([37, 35], [37]), ([38], [38]), ([39, 38], [38, 39]), ([40, 38, 38], [38, 40]), ([41, 38], [38, 41]), ([38, 42], [38, 42]), ([43, 41], [43]), ([44], [44]), ([45, 44], [44, 45]), ([44], [44]), ([46, 47, 44], [44, 46, 47]), ([44], [44]), ([48, 49, 44, 44], [44, 48, 49]), ([50, 44], [44, 50]), ([44, 51], [44, 51])])
def spec_GrdOk.B7 : List Nat := [0, 1, 0, 4, 12, 31, 63, 127, 255, 511, 255, 1279, 3327, 8191, 16383, 32767, 65535, 131071, 262143, 131071, 655359, 131071, 2228223, 7995391, 16777215, 33554431, 67108863, 134217727, 268435455, 536870911, 268435455, 1342177279, 268435455, 4563402751, 16374562815, 34359738367, 68719476735, 137438953471, 274877906943, 549755813887, 1099511627775, 2199023255551, 4398046511103, 8796093022207, 17592186044415, 35184372088831, 70368744177663, 35184372088831, 281474976710655, 35184372088831, 1125899906842623, 2251799813685247, 4503599627370495]
theorem spec_GrdOk.tab7 : rtab .any (opsOf Tryd.f7 7) = spec_GrdOk.T7 := by kernel_rfl
theorem spec_GrdOk.bits7 : waitsOk spec_GrdOk.T7.2 spec_GrdOk.B7 = true := by kernel_rfl
/-- Which test of a cell falls first, if one does. -/
theorem spec_GrdOk.step {k : Nat} {i a b : Int} {l : List S29} {r : Bool} (hi : i < (l.length : Int)) (h : spec_GrdOk.l0 (k + 1) i a b l = some r) :
    0 ≤ i ∧ ∃ x, x = rd_T29 l i ∧
    ((r = false ∧ (Aside0 (spec_l1In.f x.f0 0 (wrap64 (a - 1)) = some false) ∨ (Aside0 (spec_l1In.f x.f0 0 (wrap64 (a - 1)) = some true) ∧ Aside0 (spec_l1In.f x.f1 0 (wrap64 (b - 1)) = some false)) ∨
      (Aside0 (spec_l1In.f x.f0 0 (wrap64 (a - 1)) = some true) ∧ Aside0 (spec_l1In.f x.f1 0 (wrap64 (b - 1)) = some true) ∧ Aside0 (spec_l1In.f x.f2 1 (wrap64 (a - x.f0)) = some false)) ∨
      (Aside0 (spec_l1In.f x.f0 0 (wrap64 (a - 1)) = some true) ∧ Aside0 (spec_l1In.f x.f1 0 (wrap64 (b - 1)) = some true) ∧ Aside0 (spec_l1In.f x.f2 1 (wrap64 (a - x.f0)) = some true) ∧ Aside0 (spec_l1In.f x.f3 1 (wrap64 (b - x.f1)) = some false)) ∨
      (Aside0 (spec_l1In.f x.f0 0 (wrap64 (a - 1)) = some true) ∧ Aside0 (spec_l1In.f x.f1 0 (wrap64 (b - 1)) = some true) ∧ Aside0 (spec_l1In.f x.f2 1 (wrap64 (a - x.f0)) = some true) ∧ Aside0 (spec_l1In.f x.f3 1 (wrap64 (b - x.f1)) = some true) ∧ Aside0 (spec_l1In.f x.f4 0 4 = some false)))) ∨
    (Aside0 (spec_l1In.f x.f0 0 (wrap64 (a - 1)) = some true) ∧ Aside0 (spec_l1In.f x.f1 0 (wrap64 (b - 1)) = some true) ∧ Aside0 (spec_l1In.f x.f2 1 (wrap64 (a - x.f0)) = some true) ∧ Aside0 (spec_l1In.f x.f3 1 (wrap64 (b - x.f1)) = some true) ∧ Aside0 (spec_l1In.f x.f4 0 4 = some true) ∧
      ∃ t, Aside0 (spec_l3Free.f k (l.take i.toNat) x.f0 x.f1 x.f2 x.f3 x.f4 = some t) ∧ ((t = false ∧ r = false) ∨ (t = true ∧ Aside0 (spec_GrdOk.l0 k (wrap64 (i + 1)) a b l = some r))))) := by
  simp only [spec_GrdOk.l0] at h
  rw [if_pos hi] at h
  split at h
  · rename_i h0
    refine ⟨h0, _, rfl, ?_⟩
    rw [Option.bind_eq_some_iff] at h
    obtain ⟨t1, h1, h⟩ := h
    cases t1
    · exact .inl ⟨(Option.some.inj h).symm, .inl ⟨h1⟩⟩
    · rw [if_pos rfl, Option.bind_eq_some_iff] at h
      obtain ⟨t2, h2, h⟩ := h
      cases t2
      · exact .inl ⟨(Option.some.inj h).symm, .inr (.inl ⟨⟨h1⟩, ⟨h2⟩⟩)⟩
      · rw [if_pos rfl, Option.bind_eq_some_iff] at h
        obtain ⟨t3, h3, h⟩ := h
        cases t3
        · exact .inl ⟨(Option.some.inj h).symm, .inr (.inr (.inl ⟨⟨h1⟩, ⟨h2⟩, ⟨h3⟩⟩))⟩
        · rw [if_pos rfl, Option.bind_eq_some_iff] at h
          obtain ⟨t4, h4, h⟩ := h
          cases t4
          · exact .inl ⟨(Option.some.inj h).symm, .inr (.inr (.inr (.inl ⟨⟨h1⟩, ⟨h2⟩, ⟨h3⟩, ⟨h4⟩⟩)))⟩
          · rw [if_pos rfl, Option.bind_eq_some_iff] at h
            obtain ⟨t5, h5, h⟩ := h
            cases t5
            · exact .inl ⟨(Option.some.inj h).symm, .inr (.inr (.inr (.inr ⟨⟨h1⟩, ⟨h2⟩, ⟨h3⟩, ⟨h4⟩, ⟨h5⟩⟩)))⟩
            · rw [if_pos rfl, if_pos (Int.le_of_lt hi), Option.bind_eq_some_iff] at h
              obtain ⟨t6, h6, h⟩ := h
              refine .inr ⟨⟨h1⟩, ⟨h2⟩, ⟨h3⟩, ⟨h4⟩, ⟨h5⟩, t6, ⟨h6⟩, ?_⟩
              cases t6
              · exact .inl ⟨rfl, (Option.some.inj h).symm⟩
              · exact .inr ⟨rfl, ⟨h⟩⟩
  · cases h
theorem spec_GrdOk.parts {k : Nat} {a b : Int} {l : List S29} {r : Bool} (h : spec_GrdOk.f k a b l = some r) :
    (r = false ∧ (Aside0 (spec_l1In.f a 1 8 = some false) ∨ (Aside0 (spec_l1In.f a 1 8 = some true) ∧ Aside0 (spec_l1In.f b 1 94 = some false)) ∨ (Aside0 (spec_l1In.f a 1 8 = some true) ∧ Aside0 (spec_l1In.f b 1 94 = some true) ∧ 40 < (l.length : Int)))) ∨
    (Aside0 (spec_l1In.f a 1 8 = some true) ∧ Aside0 (spec_l1In.f b 1 94 = some true) ∧ (l.length : Int) ≤ 40 ∧ ∃ q, Aside0 (spec_GrdOk.l0 q 0 a b l = some r)) := by
  have bad : spec_GrdOk.j0 k true a b l = some r → r = false := by
    intro h
    cases k with
    | zero => unfold spec_GrdOk.j0 at h; cases h
    | succ k =>
      simp only [spec_GrdOk.j0, if_true] at h
      exact (Option.some.inj h).symm
  unfold spec_GrdOk.f at h
  rw [Option.bind_eq_some_iff] at h
  obtain ⟨t1, h1, h⟩ := h
  cases t1
  · exact .inl ⟨bad h, .inl ⟨h1⟩⟩
  · rw [if_pos rfl, Option.bind_eq_some_iff] at h
    obtain ⟨t2, h2, h⟩ := h
    cases t2
    · exact .inl ⟨bad h, .inr (.inl ⟨⟨h1⟩, ⟨h2⟩⟩)⟩
    · rw [if_pos rfl] at h
      by_cases hl : (l.length : Int) > 40
      · rw [decide_eq_true hl] at h
        exact .inl ⟨bad h, .inr (.inr ⟨⟨h1⟩, ⟨h2⟩, hl⟩)⟩
      · rw [decide_eq_false hl] at h
        refine .inr ⟨⟨h1⟩, ⟨h2⟩, by omega, ?_⟩
        cases k with
        | zero => unfold spec_GrdOk.j0 at h; cases h
        | succ k =>
          simp only [spec_GrdOk.j0, Bool.false_eq_true, if_false] at h
          exact ⟨k, ⟨h⟩⟩
theorem gk_free (A : Option Addr) (n c : Nat) (l : List S29) (x0 x1 x2 x3 x4 : Int) (t : Bool) (W : World) (hr : Kd.C k29 W A l.length l) (hn : n ≤ l.length) (hc : l.length ≤ c) {q : Nat} (h : spec_l3Free.f q (l.take n) x0 x1 x2 x3 x4 = some t) :
    Calls Tryd.prog 19 #[.slice A n c, .agg #[.int .i64 x0, .int .i64 x1, .int .i64 x2, .int .i64 x3, .int .i64 x4]] W fun e w' => e = .returned (.bool t) ∧ Below W.heap.size W w' := by
  have hl : (l.take n).length = n := by rw [List.length_take]; omega
  have hC : Kd.C k29 W A (l.take n).length (l.take n) := by
    refine ⟨rfl, by rw [hl]; exact Nat.le_trans hn hr.2.1, fun hp => ?_⟩
    rw [hl] at hp
    obtain ⟨ad, e, hcl⟩ := hr.2.2 (by omega)
    exact ⟨ad, e, fun j p hj => hcl j p (by
      rw [List.getElem?_take] at hj
      split at hj
      · exact hj
      · cases hj)⟩
  have := spec_l3Free.calls q A c (l.take n) x0 x1 x2 x3 x4 t W hC (by omega) h
  rwa [hl] at this
set_option maxHeartbeats 4000000 in
set_option maxRecDepth 100000 in
theorem spec_GrdOk.calls (k : Nat) (a0_0 : Int) (a0_1 : Int) (A0_2 : Option Addr) (c0_2 : Nat) (l0_2 : List (S29)) (r : Bool) (w : World) (hr0_2 : Kd.C k29 w A0_2 l0_2.length l0_2) (hc0_2 : l0_2.length ≤ c0_2) (h : spec_GrdOk.f k a0_0 a0_1 l0_2 = some r) :
    Calls Tryd.prog 7 #[.agg #[.int .i64 a0_0, .int .i64 a0_1, .slice A0_2 l0_2.length c0_2]] w fun e w' => e = .returned (.bool r) ∧ Below w.heap.size w w' := by
  have HR := Aside0.mk hr0_2
  have HC := Aside0.mk hc0_2
  have hbig := hr0_2.2.1
  clear hr0_2 hc0_2
  have hu1 := Tryd.underlying25
  have hu2 := Tryd.underlying29
  rcases spec_GrdOk.parts h with ⟨rfl, A1 | ⟨A1, A2⟩ | ⟨A1, A2, hl⟩⟩ | ⟨A1, A2, hl, q, AL⟩
  iterate 3
    · clear h
      go_enter Tryd.func7, Tryd.ntmps7
      go_wp2_with (go_at_call 16; (first | (with_reducible refine (spec_l1In.calls _ _ _ _ _ A1.out).mono ?_) | (with_reducible refine (spec_l1In.calls _ _ _ _ _ A2.out).mono ?_)); rintro e W' ⟨rfl, ⟨nd, rfl⟩⟩)
      go_ret
      exact ⟨rfl, by repeat (with_reducible first | exact Below.refl _ _ | apply below_alloc | apply pw_below_drewN | apply below_drew1)⟩
  clear h
  go_enter Tryd.func7, Tryd.ntmps7
  go_wp2_with (go_at_call 16; (first | (with_reducible refine (spec_l1In.calls _ _ _ _ _ A1.out).mono ?_) | (with_reducible refine (spec_l1In.calls _ _ _ _ _ A2.out).mono ?_)); rintro e W' ⟨rfl, ⟨nd, rfl⟩⟩)
  go_loopg [3] q (fun gg s3 wr => ∃ (q' : Nat) (i : Int), q' ≤ gg ∧ s3 = .int .i64 i ∧ Aside0 (spec_GrdOk.l0 q' i a0_0 a0_1 l0_2 = some r) ∧ Aside0 (wr.heap[w.heap.size]? = some (.cells #[.int .i64 a0_0, .int .i64 a0_1, .slice A0_2 l0_2.length c0_2] 25 (0, 0))) ∧ Aside0 (Below w.heap.size w wr))
  case atStart => exact ⟨q, 0, Nat.le_refl _, rfl, AL, ⟨by (with_reducible repeat (first | refine blk_drewN ?_ _ | refine blk_drew ?_)); exact blk_new w _⟩, ⟨by repeat (with_reducible first | exact Below.refl _ _ | apply below_alloc | apply pw_below_drewN | apply below_drew1)⟩⟩
  case round =>
    obtain ⟨q', i, hq, rfl, HL, HG, HB⟩ := hrel
    have g0 : wr.cell? ⟨w.heap.size, 0, none⟩ = some (.int .i64 a0_0) := (blk_cell HG.out 0).trans rfl
    have g1 : wr.cell? ⟨w.heap.size, 1, none⟩ = some (.int .i64 a0_1) := (blk_cell HG.out 1).trans rfl
    have g2 : wr.cell? ⟨w.heap.size, 2, none⟩ = some (.slice A0_2 l0_2.length c0_2) := (blk_cell HG.out 2).trans rfl
    cases q' with
    | zero => exact absurd HL.out (by simp [spec_GrdOk.l0])
    | succ q' =>
      by_cases hlt : i < (l0_2.length : Int)
      · obtain ⟨h0, x, hx, hs⟩ := spec_GrdOk.step hlt HL.out
        obtain ⟨ad, hA, p0, p1, p2, p3, p4⟩ := at_T29 (Kd.C_below HR.out HB.out) i h0 hlt
        rw [← hx] at p0 p1 p2 p3 p4
        have hz : (0 : Int) ≤ (l0_2.length : Int) := by omega
        have hle : i ≤ (l0_2.length : Int) := by omega
        have hcap : (l0_2.length : Int) ≤ (c0_2 : Int) := by have := HC.out; omega
        have HX := Aside0.mk hx
        clear hx HL AL
        subst hA
        obtain ⟨n, rfl⟩ : ∃ n : Nat, i = n := ⟨i.toNat, by omega⟩
        rw [Int.toNat_natCast] at hs p0 p1 p2 p3 p4
        have FR := Aside0.mk (fun (u : Ext (wr.alloc (.cells (gcA x.f0 x.f1 x.f2 x.f3 x.f4) 29))) (t : Bool) (ht : spec_l3Free.f q' (l0_2.take n) x.f0 x.f1 x.f2 x.f3 x.f4 = some t) => gk_free (some ad) n c0_2 l0_2 x.f0 x.f1 x.f2 x.f3 x.f4 t u.world (Kd.C_below HR.out (below_step (below_alloc HB.out _) u.below)) (by omega) (by omega) ht)
        go_wp2
        obtain ⟨c0, c1, c2, c3, c4⟩ := gcA_cells (blk_new wr (.cells (gcA x.f0 x.f1 x.f2 x.f3 x.f4) 29))
        have n0 := alloc_cell HG.out
        replace g0 := (n0 (.cells (gcA x.f0 x.f1 x.f2 x.f3 x.f4) 29) 0).trans g0
        replace g1 := (n0 (.cells (gcA x.f0 x.f1 x.f2 x.f3 x.f4) 29) 1).trans g1
        replace g2 := (n0 (.cells (gcA x.f0 x.f1 x.f2 x.f3 x.f4) 29) 2).trans g2
        replace HG := Aside0.mk (blk_alloc HG.out (.cells (gcA x.f0 x.f1 x.f2 x.f3 x.f4) 29))
        replace HB := Aside0.mk (below_alloc HB.out (.cells (gcA x.f0 x.f1 x.f2 x.f3 x.f4) 29))
        show Code.wp _ _ _ _ (wr.alloc (.cells (gcA x.f0 x.f1 x.f2 x.f3 x.f4) 29))
        obtain ⟨W0, hW0⟩ : ∃ W0, wr.alloc (.cells (gcA x.f0 x.f1 x.f2 x.f3 x.f4) 29) = W0 := ⟨_, rfl⟩
        rw [hW0] at c0 c1 c2 c3 c4 g0 g1 g2 FR HG HB ⊢
        clear hW0 p0 p1 p2 p3 p4 n0
        have xc := Ext.cell c0
        have xc1 := Ext.cell c1
        have xc2 := Ext.cell c2
        have xc3 := Ext.cell c3
        have xc4 := Ext.cell c4
        have xg := Ext.cell g0
        have xg1 := Ext.cell g1
        have xg2 := Ext.cell g2
        clear c0 c1 c2 c3 c4 g0 g1 g2
        have e1 : IntKind.i64.wrap (a0_0 - 1) = wrap64 (a0_0 - 1) := by simp [IntKind.wrap_i64, wrap64]
        have e2 : IntKind.i64.wrap (a0_1 - 1) = wrap64 (a0_1 - 1) := by simp [IntKind.wrap_i64, wrap64]
        have e3 : IntKind.i64.wrap (a0_0 - x.f0) = wrap64 (a0_0 - x.f0) := by simp [IntKind.wrap_i64, wrap64]
        have e4 : IntKind.i64.wrap (a0_1 - x.f1) = wrap64 (a0_1 - x.f1) := by simp [IntKind.wrap_i64, wrap64]
        rcases hs with ⟨rfl, B1 | ⟨B1, B2⟩ | ⟨B1, B2, B3⟩ | ⟨B1, B2, B3, B4⟩ | ⟨B1, B2, B3, B4, B5⟩⟩ | ⟨B1, B2, B3, B4, B5, t, B6, ⟨rfl, rfl⟩ | ⟨rfl, AL⟩⟩
        iterate 6
          · refine region_ext (by kernel_rfl) (by kernel_rfl) ?_
            repeat (go_big_quiet_step (first | (go_at_call 16; first | exact Calls.ext0 (spec_l1In.calls _ _ _ _ _ B1.out) | exact Calls.ext0 (spec_l1In.calls _ _ _ _ _ B2.out) | exact Calls.ext0 (spec_l1In.calls _ _ _ _ _ B3.out) | exact Calls.ext0 (spec_l1In.calls _ _ _ _ _ B4.out) | exact Calls.ext0 (spec_l1In.calls _ _ _ _ _ B5.out)) | (go_at_call 19; exact Calls.ext (FR.out _ _ B6.out))))
            refine wpQuiet_nil ?_
            rintro _ ⟨⟨W3, hb3⟩, rfl⟩
            go_wp2
            go_ret
            exact ⟨rfl, below_step HB.out hb3⟩
        refine region_ext (by kernel_rfl) (by kernel_rfl) ?_
        repeat (go_big_quiet_step (first | (go_at_call 16; first | exact Calls.ext0 (spec_l1In.calls _ _ _ _ _ B1.out) | exact Calls.ext0 (spec_l1In.calls _ _ _ _ _ B2.out) | exact Calls.ext0 (spec_l1In.calls _ _ _ _ _ B3.out) | exact Calls.ext0 (spec_l1In.calls _ _ _ _ _ B4.out) | exact Calls.ext0 (spec_l1In.calls _ _ _ _ _ B5.out)) | (go_at_call 19; exact Calls.ext (FR.out _ _ B6.out))))
        refine wpQuiet_nil ?_
        rintro _ ⟨⟨W3, hb3⟩, rfl⟩
        go_wp2
        go_roundg q'
        case measure => omega
        case rel => exact ⟨q', (n : Int) + 1, Nat.le_refl _, rfl, ⟨by rw [show ((n : Int) + 1) = wrap64 ((n : Int) + 1) by unfold wrap64; omega]; exact AL.out⟩, ⟨blk_below HG.out hb3⟩, ⟨below_step HB.out hb3⟩⟩
      · have hl := HL.out
        simp only [spec_GrdOk.l0] at hl
        rw [if_neg hlt] at hl
        obtain rfl := Option.some.inj hl
        clear hl HL
        go_wp2
        go_ret
        exact ⟨rfl, HB.out⟩

/-! ### spec_l10Span: function 17 (by hand) -/
def spec_l10Span.f (a0_0 : Int) (a0_1 : Int) (a0_2 : Int) (a0_3 : Int) (a0_4 : Int) (a1_0 : Int) (a1_1 : Int) (a1_2 : Int) (a1_3 : Int) (a1_4 : Int) : Option (Int × Int × Int × Int × Int) := (spec_l1Max.f (wrap64 (a0_0 + a0_2)) (wrap64 (a1_0 + a1_2))).bind fun t344 => ((spec_l1Max.f (wrap64 (a0_1 + a0_3)) (wrap64 (a1_1 + a1_3))).bind fun t345 => (if a1_0 < a0_0 then (if a1_1 < a0_1 then (some (a1_0, a1_1, wrap64 (t344 - a1_0), wrap64 (t345 - a1_1), a0_4)) else (some (a1_0, a0_1, wrap64 (t344 - a1_0), wrap64 (t345 - a0_1), a0_4))) else (if a1_1 < a0_1 then (some (a0_0, a1_1, wrap64 (t344 - a0_0), wrap64 (t345 - a1_1), a0_4)) else (some (a0_0, a0_1, wrap64 (t344 - a0_0), wrap64 (t345 - a0_1), a0_4)))))
set_option maxHeartbeats 4000000 in
set_option maxRecDepth 100000 in
theorem spec_l10Span.calls (a0_0 : Int) (a0_1 : Int) (a0_2 : Int) (a0_3 : Int) (a0_4 : Int) (a1_0 : Int) (a1_1 : Int) (a1_2 : Int) (a1_3 : Int) (a1_4 : Int) (r1 : Int) (r2 : Int) (r3 : Int) (r4 : Int) (r5 : Int) (w : World) (h : spec_l10Span.f a0_0 a0_1 a0_2 a0_3 a0_4 a1_0 a1_1 a1_2 a1_3 a1_4 = some (r1, r2, r3, r4, r5)) :
    Calls Tryd.prog 17 #[.agg #[.int .i64 a0_0, .int .i64 a0_1, .int .i64 a0_2, .int .i64 a0_3, .int .i64 a0_4], .agg #[.int .i64 a1_0, .int .i64 a1_1, .int .i64 a1_2, .int .i64 a1_3, .int .i64 a1_4]] w fun e w' => e = .returned (.agg #[.int .i64 r1, .int .i64 r2, .int .i64 r3, .int .i64 r4, .int .i64 r5]) ∧ Below w.heap.size w w' := by
  unfold spec_l10Span.f at h
  rw [Option.bind_eq_some_iff] at h
  obtain ⟨m1, h1, h⟩ := h
  rw [Option.bind_eq_some_iff] at h
  obtain ⟨m2, h2, h⟩ := h
  have A1 := Aside0.mk h1
  have A2 := Aside0.mk h2
  have HH := Aside0.mk h
  clear h h1 h2
  by_cases c1 : a1_0 < a0_0
  all_goals by_cases c2 : a1_1 < a0_1
  all_goals
    have hr := HH.out
    clear HH
    simp only [if_pos, if_neg, c1, c2, if_true, if_false, Option.some.injEq, Prod.mk.injEq] at hr
    obtain ⟨rfl, rfl, rfl, rfl, rfl⟩ := hr
    go_enter Tryd.func17, Tryd.ntmps17
    go_wp2_with (go_at_call 24; (first | (with_reducible refine (spec_l1Max.calls _ _ m1 _ A1.out).mono ?_) | (with_reducible refine (spec_l1Max.calls _ _ m2 _ A2.out).mono ?_)); rintro e w' ⟨rfl, ⟨nd, rfl⟩⟩)
    refine bodyPost_ret ?hr rfl ⟨rfl, ?hb⟩
    case hr => simp [results, Tryd.results17, go_sem]
    case hb => repeat (with_reducible first | exact Below.refl _ _ | apply below_alloc | apply pw_below_drewN | refine below_set ?_ (by omega))


end Go.Proofs.YtalnklnfiopaoabDoor.Q
