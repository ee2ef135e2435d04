-- Told by a program of this session (uprint.py, ulay.py).
import Derived.Test.YtalnklnfiopaoabDoorQ0
import Derived.Test.YtalnklnfiopaoabDoorQspecl20Open
import Derived.Test.YtalnklnfiopaoabDoorQspecl20Grid
namespace Go.Proofs.YtalnklnfiopaoabDoor.Q
open Go.RowKit Go.Proofs.YtalnklnfiopaoabDoorW.PrintWords Go.Proofs.YtalnklnfiopaoabDoorW.PrintLast Go.Proofs.YtalnklnfiopaoabDoorW.PrintMore
attribute [local go_sem] max2_int min2_int max_two min_two max_three min_three max_four min_four
set_option linter.unusedVariables false
set_option linter.unusedSimpArgs false

/-! ### spec_DrawQryRange: function 4 -/
def spec_DrawQryRange.f (k : Nat) (l0 : List Int) : Option (Int × Int × (List (S29)) × Int × Int) := (spec_l20Open.f l0).bind fun bt269 => ((spec_l20Grid.f k bt269.1 bt269.2 12).bind fun bt272 => ((spec_l20Rd_pick.f k bt269.1 bt272.2.2.2 (wrap64 ((bt272.2.2.1.length : Int) + 2))).bind fun bt279 => ((spec_l20Rd_pick.f k bt269.1 bt279.2 (wrap64 ((bt272.2.2.1.length : Int) + 1))).bind fun bt281 => (some (bt272.1, bt272.2.1, bt272.2.2.1, wrap64 (bt279.1 - 1), bt281.1)))))
theorem spec_DrawQryRange.mono : ∀ a0 k, LeO (spec_DrawQryRange.f k a0) (spec_DrawQryRange.f (k + 1) a0) := by
  intro a0 k
  unfold spec_DrawQryRange.f
  repeat' first
      | (with_reducible exact spec_l20Grid.mono _ _ _ _)
      | (with_reducible exact spec_l20Rd_pick.mono _ _ _ _)
      | (with_reducible exact LeO.refl _)
      | (with_reducible exact LeO.none _)
      | (with_reducible refine LeO.ite ?_ ?_)
      | (with_reducible refine LeO.bind ?_ (fun _ => ?_))
      | exact spec_l20Grid.mono _ _ _ _
      | exact spec_l20Rd_pick.mono _ _ _ _
      | exact LeO.none _
      | refine LeO.ite ?_ ?_
      | refine LeO.bind ?_ (fun _ => ?_)
def spec_DrawQryRange.T3 : Bool × List (List Nat × List Nat) := (true, [([], []), ([], []), ([], []), ([2], [2]), ([3], [3]), ([4], [4]), ([1, 5], [1, 5]), ([6], [6]), ([], []), ([], []), ([9], [9]), ([10], [10]), ([11], [11]), ([8, 12, 6], [8, 12]), ([0, 13, 0], [0]), ([7, 14, 0, 1, 2, 3, 4, 5, 6, 7, 14], [7]), ([13, 15, 0, 1, 2, 3, 4, 5, 6, 7, 8, 9, 10, 11, 12, 13, 14, 15], [13])])
def spec_DrawQryRange.B3 : List Nat := [0, 0, 0, 4, 12, 28, 62, 126, 0, 0, 512, 1536, 3584, 8062, 16255, 32767, 65535]
theorem spec_DrawQryRange.tab3 : rtab .any (opsOf Tryd.f4 3) = spec_DrawQryRange.T3 := by kernel_rfl
theorem spec_DrawQryRange.bits3 : waitsOk spec_DrawQryRange.T3.2 spec_DrawQryRange.B3 = true := by kernel_rfl
set_option maxHeartbeats 8000000 in
set_option maxRecDepth 100000 in
theorem spec_DrawQryRange.calls (k : Nat) (A0 : Option Addr) (c0 : Nat) (l0 : List Int) (r1 : Int) (r2 : Int) (r3 : List (S29)) (r4 : Int) (r5 : Int) (w : World) (hr0 : Kd.C (Kd.int .u8) w A0 l0.length l0) (hc0 : l0.length ≤ c0) (h : spec_DrawQryRange.f k l0 = some (r1, r2, r3, r4, r5)) :
    Calls Tryd.prog 4 #[.slice A0 l0.length c0] w fun e w' => ∃ v2_ : Value, e = .returned (.tuple #[.agg #[.int .i64 r1, .int .i64 r2, v2_], .int .i64 r4, .int .i64 r5]) ∧ Kd.R k29 29 w' w.heap.size (fun _ => True) v2_ r3 ∧ Below w.heap.size w w' := by
  have hu25 := Tryd.underlying25
  have HR0 := Aside0.mk hr0
  have HC0 := Aside0.mk hc0
  clear hr0 hc0
  have HB := Aside0.mk (Below.refl w.heap.size w)
  have H : ((spec_l20Open.f l0).bind fun bt269 => ((spec_l20Grid.f k bt269.1 bt269.2 12).bind fun bt272 => ((spec_l20Rd_pick.f k bt269.1 bt272.2.2.2 (wrap64 ((bt272.2.2.1.length : Int) + 2))).bind fun bt279 => ((spec_l20Rd_pick.f k bt269.1 bt279.2 (wrap64 ((bt272.2.2.1.length : Int) + 1))).bind fun bt281 => (some (bt272.1, bt272.2.1, bt272.2.2.1, wrap64 (bt279.1 - 1), bt281.1)))))) = some (r1, r2, r3, r4, r5) := h
  clear h
  replace H := Option.bind_eq_some_iff.mp H
  obtain ⟨⟨t269, t270⟩, A20, H⟩ := H
  replace H : ((spec_l20Grid.f k t269 t270 12).bind fun bt272 => ((spec_l20Rd_pick.f k t269 bt272.2.2.2 (wrap64 ((bt272.2.2.1.length : Int) + 2))).bind fun bt279 => ((spec_l20Rd_pick.f k t269 bt279.2 (wrap64 ((bt272.2.2.1.length : Int) + 1))).bind fun bt281 => (some (bt272.1, bt272.2.1, bt272.2.2.1, wrap64 (bt279.1 - 1), bt281.1))))) = some (r1, r2, r3, r4, r5) := H
  have A2 := Aside0.mk A20
  clear A20
  replace H := Option.bind_eq_some_iff.mp H
  obtain ⟨⟨t272, t273, t274, t277⟩, A30, H⟩ := H
  replace H : ((spec_l20Rd_pick.f k t269 t277 (wrap64 ((t274.length : Int) + 2))).bind fun bt279 => ((spec_l20Rd_pick.f k t269 bt279.2 (wrap64 ((t274.length : Int) + 1))).bind fun bt281 => (some (t272, t273, t274, wrap64 (bt279.1 - 1), bt281.1)))) = some (r1, r2, r3, r4, r5) := H
  have A3 := Aside0.mk A30
  clear A30
  replace H := Option.bind_eq_some_iff.mp H
  obtain ⟨⟨t279, t280⟩, A40, H⟩ := H
  replace H : ((spec_l20Rd_pick.f k t269 t280 (wrap64 ((t274.length : Int) + 1))).bind fun bt281 => (some (t272, t273, t274, wrap64 (t279 - 1), bt281.1))) = some (r1, r2, r3, r4, r5) := H
  have A4 := Aside0.mk A40
  clear A40
  replace H := Option.bind_eq_some_iff.mp H
  obtain ⟨⟨t281, t282⟩, A50, H⟩ := H
  replace H : (some (t272, t273, t274, wrap64 (t279 - 1), t281)) = some (r1, r2, r3, r4, r5) := H
  have A5 := Aside0.mk A50
  clear A50
  simp only [Option.some.injEq, Prod.mk.injEq] at H
  obtain ⟨rfl, rfl, rfl, rfl, rfl⟩ := H
  go_enter Tryd.func4, Tryd.ntmps4
  try go_wp2_with (first | ((with_reducible refine gate_dst (N := 2) rfl ?_); refine box_event ?hg (N := 2) ?hd (cs := #[.int .i64 0, .int .i64 0, .slice none 0 0]) (t := 25) ?hr ?_; (case hd => rfl); (case hg => rfl); (case hr => first | (go_simp; done) | (go_simp; rfl)); intro gb268 hg w6 hbox hb; have n0_ := Aside0.mk (below_step (by repeat (first | (with_reducible first | exact HB.out | apply below_alloc | apply pw_below_drewN | apply below_drew1) | exact HB.out)) hb); have n1_ := Aside0.mk (hbox); have n2_ := Aside0.mk ((by rw [hg]; exact (below_size (by repeat (first | (with_reducible first | exact HB.out | apply below_alloc | apply pw_below_drewN | apply below_drew1) | exact HB.out))) : w.heap.size ≤ gb268)); have n3_ := Aside0.mk ((by rw [hg]; exact (below_size (by repeat (first | (with_reducible first | exact HB.out | apply below_alloc | apply pw_below_drewN | apply below_drew1) | exact HB.out))) : w.heap.size ≤ gb268)); clear HB; have HB := n0_; have BK268 := n1_; have GW268 := n2_; have GE268 := n3_; clear n0_ n1_ n2_ n3_; clear hb hbox hg) | ((with_reducible refine gate_callee (f := 9) rfl ?_); refine goesL_ (some 8) rfl rfl Tryd.func9 (by kernel_rfl) rfl #[.slice A0 l0.length c0] rfl (by (try simp only [List.map_toArray, List.map_cons, List.map_nil]); first | done | rfl | (simp only [List.length_drop, List.length_take]; rfl)) ?_; (with_reducible refine (spec_l20Open.calls _ _ l0 t269 t270 w _ ?side1 ?side2 ?side3 A2.out).mono ?_); (case side1 => repeat (first | (with_reducible first | exact HB.out | apply below_alloc | apply pw_below_drewN | apply below_drew1 | refine below_set ?_ GE268.out) | exact HB.out)); (case side2 => exact HR0.out); (case side3 => exact HC0.out); rintro e w7 ⟨g271, rfl, hi, hb, hb2⟩; refine ⟨_, rfl, ?_⟩; have n0_ := Aside0.mk (blk_below (g := gb268) (o := .cells #[.int .i64 0, .int .i64 0, .slice none 0 0] 25 (0, 0)) (by (with_reducible repeat (first | refine blk_drewN ?_ _ | refine blk_drew ?_ | refine blk_alloc ?_ _)); exact BK268.out) hb2); have n1_ := Aside0.mk (hb); have n2_ := Aside0.mk (hi); have n3_ := Aside0.mk (IsS46.ne_blk hi (blk_below (g := gb268) (o := .cells #[.int .i64 0, .int .i64 0, .slice none 0 0] 25 (0, 0)) (by (with_reducible repeat (first | refine blk_drewN ?_ _ | refine blk_drew ?_ | refine blk_alloc ?_ _)); exact BK268.out) hb2) (by decide)); have n4_ := Aside0.mk (Ne.symm (IsS46.ne_blk hi (blk_below (g := gb268) (o := .cells #[.int .i64 0, .int .i64 0, .slice none 0 0] 25 (0, 0)) (by (with_reducible repeat (first | refine blk_drewN ?_ _ | refine blk_drew ?_ | refine blk_alloc ?_ _)); exact BK268.out) hb2) (by decide))); clear BK268; clear HB; have BK268 := n0_; have HB := n1_; have HI271 := n2_; have NB271_268 := n3_; have NB268_271 := n4_; clear n0_ n1_ n2_ n3_ n4_; (try clear hb); (try clear hb2); (try clear hk); (try clear hi)) | ((with_reducible refine gate_callee (f := 10) rfl ?_); refine goesL_ (some 10) rfl rfl Tryd.func10 (by kernel_rfl) rfl #[.pointer (some ⟨g271, 0, none⟩), .int .i64 12] rfl (by (try simp only [List.map_toArray, List.map_cons, List.map_nil]); first | done | rfl | (simp only [List.length_drop, List.length_take]; rfl)) ?_; (with_reducible refine (spec_l20Grid.calls k g271 t269 t270 12 t272 t273 t274 t277 w _ ?side1 ?side2 A3.out).mono ?_); (case side1 => repeat (first | (with_reducible first | exact HI271.out | apply IsS46.alloc | apply IsS46.drewN | apply IsS46.drew | apply IsS46.set_1 | refine IsS46.far ?_ NB271_268.out _) | exact HI271.out)); (case side2 => repeat (first | (with_reducible first | exact HB.out | apply below_alloc | apply pw_below_drewN | apply below_drew1 | refine below_set ?_ (IsS46.ge HI271.out) | refine below_set ?_ GE268.out) | exact HB.out)); rintro e w8 ⟨v275, rfl, ho0, hi, hb, hk⟩; refine ⟨_, rfl, ?_⟩; have n0_ := Aside0.mk (KeepBut.blk hk (g' := gb268) (o := .cells #[.int .i64 0, .int .i64 0, .slice none 0 0] 25 (0, 0)) (by (with_reducible repeat (first | refine blk_drewN ?_ _ | refine blk_drew ?_ | refine blk_alloc ?_ _)); exact BK268.out) NB268_271.out (by simp)); have n1_ := Aside0.mk (Kd.R_lower ho0 (below_size (by repeat (first | (with_reducible first | exact HB.out | apply below_alloc | apply pw_below_drewN | apply below_drew1 | refine below_set ?_ (IsS46.ge HI271.out) | refine below_set ?_ GE268.out) | exact HB.out)))); have n2_ := Aside0.mk (hb); have n3_ := Aside0.mk (hi); clear BK268; clear HB; clear HI271; have BK268 := n0_; have HO276 := n1_; have HB := n2_; have HI271 := n3_; clear n0_ n1_ n2_ n3_; (try clear hb); (try clear hb2); (try clear hk); (try clear hi); (try clear ho0)) | ((with_reducible refine gate_dst (N := 6) rfl ?_); refine box_event ?hg (N := 6) ?hd (cs := #[.int .i64 0, .int .i64 0, .slice none 0 0]) (t := 25) ?hr ?_; (case hd => rfl); (case hg => rfl); (case hr => first | (go_simp; done) | (go_simp; rfl)); intro gb278 hg w9 hbox hb; have n0_ := Aside0.mk (Kd.R_below (by (with_reducible repeat (first | apply Kd.R_alloc | apply Kd.R_drewN | apply Kd.R_drew)); exact HO276.out) hb); have n1_ := Aside0.mk (blk_below (g := gb268) (o := .cells #[.int .i64 0, .int .i64 0, .slice none 0 0] 25 (0, 0)) (by (with_reducible repeat (first | refine blk_drewN ?_ _ | refine blk_drew ?_ | refine blk_alloc ?_ _)); exact BK268.out) hb); have n2_ := Aside0.mk (IsS46.below (by repeat (first | (with_reducible first | exact HI271.out | apply IsS46.alloc | apply IsS46.drewN | apply IsS46.drew | apply IsS46.set_1 | refine IsS46.far ?_ NB271_268.out _) | exact HI271.out)) hb); have n3_ := Aside0.mk (below_step (by repeat (first | (with_reducible first | exact HB.out | apply below_alloc | apply pw_below_drewN | apply below_drew1 | refine below_set ?_ (IsS46.ge HI271.out) | refine below_set ?_ GE268.out) | exact HB.out)) hb); have n4_ := Aside0.mk (hbox); have n5_ := Aside0.mk ((by rw [hg]; exact (below_size (by repeat (first | (with_reducible first | exact HB.out | apply below_alloc | apply pw_below_drewN | apply below_drew1 | refine below_set ?_ (IsS46.ge HI271.out) | refine below_set ?_ GE268.out) | exact HB.out))) : w.heap.size ≤ gb278)); have n6_ := Aside0.mk ((by rw [hg]; exact (below_size (by repeat (first | (with_reducible first | exact HB.out | apply below_alloc | apply pw_below_drewN | apply below_drew1 | refine below_set ?_ (IsS46.ge HI271.out) | refine below_set ?_ GE268.out) | exact HB.out))) : w.heap.size ≤ gb278)); have n7_ := Aside0.mk ((by rw [hg]; exact Nat.ne_of_lt (blk_lt (g := gb268) (o := .cells #[.int .i64 0, .int .i64 0, .slice none 0 0] 25 (0, 0)) (by (with_reducible repeat (first | refine blk_drewN ?_ _ | refine blk_drew ?_ | refine blk_alloc ?_ _)); exact BK268.out)) : gb268 ≠ gb278)); have n8_ := Aside0.mk ((by rw [hg]; exact Nat.ne_of_gt (blk_lt (g := gb268) (o := .cells #[.int .i64 0, .int .i64 0, .slice none 0 0] 25 (0, 0)) (by (with_reducible repeat (first | refine blk_drewN ?_ _ | refine blk_drew ?_ | refine blk_alloc ?_ _)); exact BK268.out)) : gb278 ≠ gb268)); have n9_ := Aside0.mk ((by rw [hg]; exact Nat.ne_of_lt (IsS46.lt (show IsS46 w _ g271 t269 t277 from by repeat (first | (with_reducible first | exact HI271.out | apply IsS46.alloc | apply IsS46.drewN | apply IsS46.drew | apply IsS46.set_1 | refine IsS46.far ?_ NB271_268.out _) | exact HI271.out))) : g271 ≠ gb278)); have n10_ := Aside0.mk ((by rw [hg]; exact Nat.ne_of_gt (IsS46.lt (show IsS46 w _ g271 t269 t277 from by repeat (first | (with_reducible first | exact HI271.out | apply IsS46.alloc | apply IsS46.drewN | apply IsS46.drew | apply IsS46.set_1 | refine IsS46.far ?_ NB271_268.out _) | exact HI271.out))) : gb278 ≠ g271)); clear HO276; clear BK268; clear HI271; clear HB; have HO276 := n0_; have BK268 := n1_; have HI271 := n2_; have HB := n3_; have BK278 := n4_; have GW278 := n5_; have GE278 := n6_; have NB268_278 := n7_; have NB278_268 := n8_; have NB271_278 := n9_; have NB278_271 := n10_; clear n0_ n1_ n2_ n3_ n4_ n5_ n6_ n7_ n8_ n9_ n10_; clear hb hbox hg; have hnb10 := NB278_268.out; have hnc10 := NB268_278.out; have hnb11 := NB278_271.out; have hnc11 := NB271_278.out; have hcz12_0 : w9.cell? ⟨gb278, 0, none⟩ = some (.int .i64 0) := (blk_cell BK278.out 0).trans rfl; have hcz12_1 : w9.cell? ⟨gb278, 1, none⟩ = some (.int .i64 0) := (blk_cell BK278.out 1).trans rfl; have hcz12_2 : w9.cell? ⟨gb278, 2, none⟩ = some (.slice none 0 0) := (blk_cell BK278.out 2).trans rfl; have hfz12_0 := blk_frozen BK278.out 0; have hfz12_1 := blk_frozen BK278.out 1; have hfz12_2 := blk_frozen BK278.out 2; obtain ⟨Ao13, co13, eo13⟩ := Kd.R_slice HO276.out; subst eo13))
  have n0_ : Aside0 (Kd.R k29 29 (((w9.setCell ⟨gb278, 0, none⟩ (.int .i64 t272)).setCell ⟨gb278, 1, none⟩ (.int .i64 t273)).setCell ⟨gb278, 2, none⟩ (.slice Ao13 t274.length co13)) w.heap.size (fun _ => True) (.slice Ao13 t274.length co13) t274) := ⟨by (with_reducible repeat (first | apply Kd.R_alloc | apply Kd.R_drewN | apply Kd.R_drew)); exact Kd.R_mono (Kd.R_far (p := ⟨gb278, 2, none⟩) (Kd.R_far (p := ⟨gb278, 1, none⟩) (Kd.R_far (p := ⟨gb278, 0, none⟩) (Kd.R_types HO276.out BK278.out (by decide)) (fun _ hk => hk.2) (.int .i64 t272)) (fun _ hk => hk.2) (.int .i64 t273)) (fun _ hk => hk.2) (.slice Ao13 t274.length co13)) (fun _ hk => trivial)⟩
  have n1_ : Aside0 ((((w9.setCell ⟨gb278, 0, none⟩ (.int .i64 t272)).setCell ⟨gb278, 1, none⟩ (.int .i64 t273)).setCell ⟨gb278, 2, none⟩ (.slice Ao13 t274.length co13)).heap[gb268]? = some (.cells #[.int .i64 0, .int .i64 0, .slice none 0 0] 25 (0, 0))) := ⟨by (with_reducible repeat (first | refine blk_drewN ?_ _ | refine blk_drew ?_ | refine blk_alloc ?_ _)); refine blk_far ?_ NB268_278.out _; (with_reducible repeat (first | refine blk_drewN ?_ _ | refine blk_drew ?_ | refine blk_alloc ?_ _)); refine blk_far ?_ NB268_278.out _; (with_reducible repeat (first | refine blk_drewN ?_ _ | refine blk_drew ?_ | refine blk_alloc ?_ _)); refine blk_far ?_ NB268_278.out _; (with_reducible repeat (first | refine blk_drewN ?_ _ | refine blk_drew ?_ | refine blk_alloc ?_ _)); exact BK268.out⟩
  have n2_ : Aside0 ((((w9.setCell ⟨gb278, 0, none⟩ (.int .i64 t272)).setCell ⟨gb278, 1, none⟩ (.int .i64 t273)).setCell ⟨gb278, 2, none⟩ (.slice Ao13 t274.length co13)).heap[gb278]? = some (.cells #[.int .i64 t272, .int .i64 t273, .slice Ao13 t274.length co13] 25 (0, 0))) := ⟨by (with_reducible repeat (first | refine blk_drewN ?_ _ | refine blk_drew ?_ | refine blk_alloc ?_ _)); refine blk_put (cs := #[.int .i64 t272, .int .i64 t273, .slice none 0 0]) ?_ 2 _ rfl; (with_reducible repeat (first | refine blk_drewN ?_ _ | refine blk_drew ?_ | refine blk_alloc ?_ _)); refine blk_put (cs := #[.int .i64 t272, .int .i64 0, .slice none 0 0]) ?_ 1 _ rfl; (with_reducible repeat (first | refine blk_drewN ?_ _ | refine blk_drew ?_ | refine blk_alloc ?_ _)); refine blk_put (cs := #[.int .i64 0, .int .i64 0, .slice none 0 0]) ?_ 0 _ rfl; (with_reducible repeat (first | refine blk_drewN ?_ _ | refine blk_drew ?_ | refine blk_alloc ?_ _)); exact BK278.out⟩
  have n3_ : Aside0 (IsS46 w (((w9.setCell ⟨gb278, 0, none⟩ (.int .i64 t272)).setCell ⟨gb278, 1, none⟩ (.int .i64 t273)).setCell ⟨gb278, 2, none⟩ (.slice Ao13 t274.length co13)) g271 t269 t277) := ⟨by repeat (first | (with_reducible first | exact HI271.out | apply IsS46.alloc | apply IsS46.drewN | apply IsS46.drew | apply IsS46.set_1 | refine IsS46.far ?_ NB271_268.out _ | refine IsS46.far ?_ NB271_278.out _) | exact HI271.out)⟩
  have n4_ : Aside0 (Below w.heap.size w (((w9.setCell ⟨gb278, 0, none⟩ (.int .i64 t272)).setCell ⟨gb278, 1, none⟩ (.int .i64 t273)).setCell ⟨gb278, 2, none⟩ (.slice Ao13 t274.length co13))) := ⟨by repeat (first | (with_reducible first | exact HB.out | apply below_alloc | apply pw_below_drewN | apply below_drew1 | refine below_set ?_ (IsS46.ge HI271.out) | refine below_set ?_ GE268.out | refine below_set ?_ GE278.out) | exact HB.out)⟩
  (try clear HO276)
  (try clear BK268)
  (try clear BK278)
  (try clear HI271)
  (try clear HB)
  generalize (((w9.setCell ⟨gb278, 0, none⟩ (.int .i64 t272)).setCell ⟨gb278, 1, none⟩ (.int .i64 t273)).setCell ⟨gb278, 2, none⟩ (.slice Ao13 t274.length co13)) = w14 at n0_ n1_ n2_ n3_ n4_ ⊢
  have HO276 := n0_
  have BK268 := n1_
  have BK278 := n2_
  have HI271 := n3_
  have HB := n4_
  clear n0_ n1_ n2_ n3_ n4_
  have n0_ := Aside0.mk (Kd.R_drew HO276.out)
  have n1_ := Aside0.mk (blk_drew BK268.out)
  have n2_ := Aside0.mk (blk_drew BK278.out)
  have n3_ := Aside0.mk (IsS46.drew HI271.out)
  have n4_ := Aside0.mk (below_drew1 HB.out)
  clear HO276
  clear BK268
  clear BK278
  clear HI271
  clear HB
  have HO276 := n0_
  have BK268 := n1_
  have BK278 := n2_
  have HI271 := n3_
  have HB := n4_
  clear n0_ n1_ n2_ n3_ n4_
  refine start_ (n := 17) (S := fun w' => w'.cell? ⟨gb278, 0, none⟩ = some (.int .i64 t272) ∧ w'.cell? ⟨gb278, 1, none⟩ = some (.int .i64 t273) ∧ w'.cell? ⟨gb278, 2, none⟩ = some (.slice Ao13 t274.length co13)) (ds := []) #[false, false, false, false, false, false, false, false, false, false, false, false, false, false, false, false, false] (by kernel_rfl) rfl rfl ⟨(blk_cell BK278.out 0).trans rfl, (blk_cell BK278.out 1).trans rfl, (blk_cell BK278.out 2).trans rfl⟩ (fun hHeld => ?_); refine with_tabW spec_DrawQryRange.tab3 spec_DrawQryRange.bits3 (fun HT_ HW_ => ?_)
  generalize w14.drew = w15 at HO276 BK268 BK278 HI271 HB hHeld ⊢
  refine pure_ (i := 1) (N := some 12) (v := ?_) (a' := ?_) #[false, true, false, false, false, false, false, false, false, false, false, false, false, false, false, false, false] rfl rfl (any_of HT_.out (by kernel_rfl)) (fun _ _ _ h => h) (Or.inl ⟨by rfl, ?_⟩) ?_ ?_
  rotate_left
  · intro w'
    go_simp
    with_reducible rfl
  rotate_left
  · simp only [Act.put, List.setIfInBounds_toArray, List.set_cons_zero, List.set_cons_succ, i64_w, i32_w]
    rfl
  refine pure_ (i := 2) (N := some 13) (v := ?_) (a' := ?_) #[false, true, true, false, false, false, false, false, false, false, false, false, false, false, false, false, false] rfl rfl (any_of HT_.out (by kernel_rfl)) (fun _ _ _ h => h) (Or.inl ⟨by rfl, ?_⟩) ?_ ?_
  rotate_left
  · intro w'
    go_simp
    with_reducible rfl
  rotate_left
  · simp only [Act.put, List.setIfInBounds_toArray, List.set_cons_zero, List.set_cons_succ, i64_w, i32_w]
    rfl
  refine pure_ (i := 8) (N := some 19) (v := ?_) (a' := ?_) #[false, true, true, false, false, false, false, false, true, false, false, false, false, false, false, false, false] rfl rfl (any_of HT_.out (by kernel_rfl)) (fun _ _ _ h => h) (Or.inl ⟨by rfl, ?_⟩) ?_ ?_
  rotate_left
  · intro w'
    go_simp
    with_reducible rfl
  rotate_left
  · simp only [Act.put, List.setIfInBounds_toArray, List.set_cons_zero, List.set_cons_succ, i64_w, i32_w]
    rfl
  refine pure_ (i := 9) (N := some 20) (v := ?_) (a' := ?_) #[false, true, true, false, false, false, false, false, true, true, false, false, false, false, false, false, false] rfl rfl (any_of HT_.out (by kernel_rfl)) (fun _ _ _ h => h) (Or.inl ⟨by rfl, ?_⟩) ?_ ?_
  rotate_left
  · intro w'
    go_simp
    with_reducible rfl
  rotate_left
  · simp only [Act.put, List.setIfInBounds_toArray, List.set_cons_zero, List.set_cons_succ, i64_w, i32_w]
    rfl
  refine take_ (i := 0) (N := some 11) (v := ?_) (a' := ?_) #[true, true, true, false, false, false, false, false, true, true, false, false, false, false, false, false, false] rfl rfl (take_ofW HT_.out HW_.out (by kernel_rfl)) (fun _ _ _ h => h) (Or.inl ⟨by rfl, ?_⟩) hHeld ?_ ?_
  rotate_left
  · rintro w' ⟨s0, s1, s2⟩
    go_simp
    with_reducible rfl
  rotate_left
  · simp only [Act.put, List.setIfInBounds_toArray, List.set_cons_zero, List.set_cons_succ, i64_w, i32_w]
    rfl
  refine take_ (i := 3) (N := some 14) (v := ?_) (a' := ?_) #[true, true, true, true, false, false, false, false, true, true, false, false, false, false, false, false, false] rfl rfl (take_ofW HT_.out HW_.out (by kernel_rfl)) (fun _ _ _ h => h) (Or.inl ⟨by rfl, ?_⟩) hHeld ?_ ?_
  rotate_left
  · rintro w' ⟨s0, s1, s2⟩
    go_simp
    with_reducible rfl
  rotate_left
  · simp only [Act.put, List.setIfInBounds_toArray, List.set_cons_zero, List.set_cons_succ, i64_w, i32_w]
    rfl
  refine pure_ (i := 4) (N := some 15) (v := ?_) (a' := ?_) #[true, true, true, true, true, false, false, false, true, true, false, false, false, false, false, false, false] rfl rfl (any_of HT_.out (by kernel_rfl)) (fun _ _ _ h => h) (Or.inl ⟨by rfl, ?_⟩) ?_ ?_
  rotate_left
  · intro w'
    go_simp
    with_reducible rfl
  rotate_left
  · simp only [Act.put, List.setIfInBounds_toArray, List.set_cons_zero, List.set_cons_succ, i64_w, i32_w]
    rfl
  refine pure_ (i := 5) (N := some 16) (v := ?_) (a' := ?_) #[true, true, true, true, true, true, false, false, true, true, false, false, false, false, false, false, false] rfl rfl (any_of HT_.out (by kernel_rfl)) (fun _ _ _ h => h) (Or.inl ⟨by rfl, ?_⟩) ?_ ?_
  rotate_left
  · intro w'
    go_simp
    with_reducible rfl
  rotate_left
  · simp only [Act.put, List.setIfInBounds_toArray, List.set_cons_zero, List.set_cons_succ, i64_w, i32_w]
    rfl
  refine take_ (i := 10) (N := some 21) (v := ?_) (a' := ?_) #[true, true, true, true, true, true, false, false, true, true, true, false, false, false, false, false, false] rfl rfl (take_ofW HT_.out HW_.out (by kernel_rfl)) (fun _ _ _ h => h) (Or.inl ⟨by rfl, ?_⟩) hHeld ?_ ?_
  rotate_left
  · rintro w' ⟨s0, s1, s2⟩
    go_simp
    with_reducible rfl
  rotate_left
  · simp only [Act.put, List.setIfInBounds_toArray, List.set_cons_zero, List.set_cons_succ, i64_w, i32_w]
    rfl
  refine pure_ (i := 11) (N := some 22) (v := ?_) (a' := ?_) #[true, true, true, true, true, true, false, false, true, true, true, true, false, false, false, false, false] rfl rfl (any_of HT_.out (by kernel_rfl)) (fun _ _ _ h => h) (Or.inl ⟨by rfl, ?_⟩) ?_ ?_
  rotate_left
  · intro w'
    go_simp
    with_reducible rfl
  rotate_left
  · simp only [Act.put, List.setIfInBounds_toArray, List.set_cons_zero, List.set_cons_succ, i64_w, i32_w]
    rfl
  refine pure_ (i := 12) (N := some 23) (v := ?_) (a' := ?_) #[true, true, true, true, true, true, false, false, true, true, true, true, true, false, false, false, false] rfl rfl (any_of HT_.out (by kernel_rfl)) (fun _ _ _ h => h) (Or.inl ⟨by rfl, ?_⟩) ?_ ?_
  rotate_left
  · intro w'
    go_simp
    with_reducible rfl
  rotate_left
  · simp only [Act.put, List.setIfInBounds_toArray, List.set_cons_zero, List.set_cons_succ, i64_w, i32_w]
    rfl
  refine one_ (i := 6) (N := some 17) #[true, true, true, true, true, true, true, false, true, true, true, true, true, false, false, false, false] rfl rfl (one_of HT_.out (by kernel_rfl)) (by decide) (fun K hK => ?_)
  refine goes_ Tryd.func11 (by kernel_rfl) rfl #[.pointer (some ⟨g271, 0, none⟩), .int .i64 (wrap64 ((t274.length : Int) + 2))] (by rfl) rfl rfl (by (try simp only [List.map_toArray, List.map_cons, List.map_nil]); first | done | rfl | (simp only [List.length_drop, List.length_take]; rfl)) ?_
  with_reducible refine (spec_l20Rd_pick.calls k g271 t269 t277 (wrap64 ((t274.length : Int) + 2)) t279 t280 w _ ?side1 ?side2 A4.out).mono ?_
  (case side1 => repeat (first | (with_reducible first | exact HI271.out | apply IsS46.alloc | apply IsS46.drewN | apply IsS46.drew | apply IsS46.set_1 | refine IsS46.far ?_ NB271_268.out _ | refine IsS46.far ?_ NB271_278.out _) | exact HI271.out))
  (case side2 => repeat (first | (with_reducible first | exact HB.out | apply below_alloc | apply pw_below_drewN | apply below_drew1 | refine below_set ?_ (IsS46.ge HI271.out) | refine below_set ?_ GE268.out | refine below_set ?_ GE278.out) | exact HB.out))
  rintro e w16 ⟨rfl, hi, hb, hk⟩
  refine ⟨_, rfl, ?_⟩
  have n0_ := Aside0.mk (KeepBut.blk hk (g' := gb268) (o := .cells #[.int .i64 0, .int .i64 0, .slice none 0 0] 25 (0, 0)) (by (with_reducible repeat (first | refine blk_drewN ?_ _ | refine blk_drew ?_ | refine blk_alloc ?_ _)); exact BK268.out) NB268_271.out (by simp))
  have n1_ := Aside0.mk (Kd.R_mono (Kd.R_keep (IsS46.apart (show IsS46 w _ g271 t269 t277 from by repeat (first | (with_reducible first | exact HI271.out | apply IsS46.alloc | apply IsS46.drewN | apply IsS46.drew | apply IsS46.set_1 | refine IsS46.far ?_ NB271_268.out _ | refine IsS46.far ?_ NB271_278.out _) | exact HI271.out)) (by (with_reducible repeat (first | apply Kd.R_alloc | apply Kd.R_drewN | apply Kd.R_drew)); exact HO276.out) (by decide)) hk (fun _ h => h.2)) (fun _ h => h.1))
  have n2_ := Aside0.mk (KeepBut.blk hk (g' := gb278) (o := .cells #[.int .i64 t272, .int .i64 t273, .slice Ao13 t274.length co13] 25 (0, 0)) (by (with_reducible repeat (first | refine blk_drewN ?_ _ | refine blk_drew ?_ | refine blk_alloc ?_ _)); exact BK278.out) NB278_271.out (by simp))
  have n3_ := Aside0.mk (hb)
  have n4_ := Aside0.mk (hi)
  clear BK268
  clear HO276
  clear BK278
  clear HB
  clear HI271
  have BK268 := n0_
  have HO276 := n1_
  have BK278 := n2_
  have HB := n3_
  have HI271 := n4_
  clear n0_ n1_ n2_ n3_ n4_
  (try clear hb)
  (try clear hb2)
  (try clear hk)
  (try clear hi)
  refine hK.out _ _ ⟨(blk_cell BK278.out 0).trans rfl, (blk_cell BK278.out 1).trans rfl, (blk_cell BK278.out 2).trans rfl⟩ (fun hHeld => ?_)
  clear hK K
  refine norm_ (a' := ?_) ?_ ?_
  rotate_left
  · show Act.put _ (some 17) _ = _
    simp only [Act.put, List.setIfInBounds_toArray, List.set_cons_zero, List.set_cons_succ, i64_w, i32_w]
    rfl
  refine pure_ (i := 7) (N := some 18) (v := ?_) (a' := ?_) #[true, true, true, true, true, true, true, true, true, true, true, true, true, false, false, false, false] rfl rfl (any_of HT_.out (by kernel_rfl)) (fun _ _ _ h => h) (Or.inl ⟨by rfl, ?_⟩) ?_ ?_
  rotate_left
  · intro w'
    go_simp
    with_reducible rfl
  rotate_left
  · simp only [Act.put, List.setIfInBounds_toArray, List.set_cons_zero, List.set_cons_succ, i64_w, i32_w]
    rfl
  refine one_ (i := 13) (N := some 24) #[true, true, true, true, true, true, true, true, true, true, true, true, true, true, false, false, false] rfl rfl (one_of HT_.out (by kernel_rfl)) (by decide) (fun K hK => ?_)
  refine goes_ Tryd.func11 (by kernel_rfl) rfl #[.pointer (some ⟨g271, 0, none⟩), .int .i64 (wrap64 ((t274.length : Int) + 1))] (by rfl) rfl rfl (by (try simp only [List.map_toArray, List.map_cons, List.map_nil]); first | done | rfl | (simp only [List.length_drop, List.length_take]; rfl)) ?_
  with_reducible refine (spec_l20Rd_pick.calls k g271 t269 t280 (wrap64 ((t274.length : Int) + 1)) t281 t282 w _ ?side1 ?side2 A5.out).mono ?_
  (case side1 => repeat (first | (with_reducible first | exact HI271.out | apply IsS46.alloc | apply IsS46.drewN | apply IsS46.drew | apply IsS46.set_1 | refine IsS46.far ?_ NB271_268.out _ | refine IsS46.far ?_ NB271_278.out _) | exact HI271.out))
  (case side2 => repeat (first | (with_reducible first | exact HB.out | apply below_alloc | apply pw_below_drewN | apply below_drew1 | refine below_set ?_ (IsS46.ge HI271.out) | refine below_set ?_ GE268.out | refine below_set ?_ GE278.out) | exact HB.out))
  rintro e w17 ⟨rfl, hi, hb, hk⟩
  refine ⟨_, rfl, ?_⟩
  have n0_ := Aside0.mk (KeepBut.blk hk (g' := gb268) (o := .cells #[.int .i64 0, .int .i64 0, .slice none 0 0] 25 (0, 0)) (by (with_reducible repeat (first | refine blk_drewN ?_ _ | refine blk_drew ?_ | refine blk_alloc ?_ _)); exact BK268.out) NB268_271.out (by simp))
  have n1_ := Aside0.mk (Kd.R_mono (Kd.R_keep (IsS46.apart (show IsS46 w _ g271 t269 t280 from by repeat (first | (with_reducible first | exact HI271.out | apply IsS46.alloc | apply IsS46.drewN | apply IsS46.drew | apply IsS46.set_1 | refine IsS46.far ?_ NB271_268.out _ | refine IsS46.far ?_ NB271_278.out _) | exact HI271.out)) (by (with_reducible repeat (first | apply Kd.R_alloc | apply Kd.R_drewN | apply Kd.R_drew)); exact HO276.out) (by decide)) hk (fun _ h => h.2)) (fun _ h => h.1))
  have n2_ := Aside0.mk (KeepBut.blk hk (g' := gb278) (o := .cells #[.int .i64 t272, .int .i64 t273, .slice Ao13 t274.length co13] 25 (0, 0)) (by (with_reducible repeat (first | refine blk_drewN ?_ _ | refine blk_drew ?_ | refine blk_alloc ?_ _)); exact BK278.out) NB278_271.out (by simp))
  have n3_ := Aside0.mk (hb)
  have n4_ := Aside0.mk (hi)
  clear BK268
  clear HO276
  clear BK278
  clear HB
  clear HI271
  have BK268 := n0_
  have HO276 := n1_
  have BK278 := n2_
  have HB := n3_
  have HI271 := n4_
  clear n0_ n1_ n2_ n3_ n4_
  (try clear hb)
  (try clear hb2)
  (try clear hk)
  (try clear hi)
  refine hK.out _ _ ⟨(blk_cell BK278.out 0).trans rfl, (blk_cell BK278.out 1).trans rfl, (blk_cell BK278.out 2).trans rfl⟩ (fun hHeld => ?_)
  clear hK K
  refine norm_ (a' := ?_) ?_ ?_
  rotate_left
  · show Act.put _ (some 24) _ = _
    simp only [Act.put, List.setIfInBounds_toArray, List.set_cons_zero, List.set_cons_succ, i64_w, i32_w]
    rfl
  refine one_ (i := 14) (N := none) #[true, true, true, true, true, true, true, true, true, true, true, true, true, true, true, false, false] rfl rfl (one_of HT_.out (by kernel_rfl)) (by decide) (fun K hK => ?_)
  have hs18 : w17.cell? ⟨gb268, 0, none⟩ = some (.int .i64 0) := (blk_cell BK268.out 0).trans rfl
  have hfs18 := blk_frozen BK268.out 0
  have hns18_1 := NB278_268.out
  have hms18_1 := NB268_278.out
  have hs19 : w17.cell? ⟨gb268, 1, none⟩ = some (.int .i64 0) := (blk_cell BK268.out 1).trans rfl
  have hfs19 := blk_frozen BK268.out 1
  have hns19_1 := NB278_268.out
  have hms19_1 := NB268_278.out
  have hs20 : w17.cell? ⟨gb268, 2, none⟩ = some (.slice none 0 0) := (blk_cell BK268.out 2).trans rfl
  have hfs20 := blk_frozen BK268.out 2
  have hns20_1 := NB278_268.out
  have hms20_1 := NB268_278.out
  refine skip_ (w1 := ?_) (by rfl) rfl ?_ ?_
  rotate_left
  · go_simp
    rfl
  refine hK.out _ _ ⟨((cell_far (p := ⟨gb268, _, none⟩) NB278_268.out _).trans (((cell_far (p := ⟨gb268, _, none⟩) NB278_268.out _).trans (((cell_far (p := ⟨gb268, _, none⟩) NB278_268.out _).trans (hHeld.1)))))), ((cell_far (p := ⟨gb268, _, none⟩) NB278_268.out _).trans (((cell_far (p := ⟨gb268, _, none⟩) NB278_268.out _).trans (((cell_far (p := ⟨gb268, _, none⟩) NB278_268.out _).trans (hHeld.2.1)))))), ((cell_far (p := ⟨gb268, _, none⟩) NB278_268.out _).trans (((cell_far (p := ⟨gb268, _, none⟩) NB278_268.out _).trans (((cell_far (p := ⟨gb268, _, none⟩) NB278_268.out _).trans (hHeld.2.2))))))⟩ (fun hHeld => ?_)
  clear hK K
  refine pure_ (i := 15) (N := some 3) (v := ?_) (a' := ?_) #[true, true, true, true, true, true, true, true, true, true, true, true, true, true, true, true, false] rfl rfl (any_of HT_.out (by kernel_rfl)) (fun _ _ _ h => h) (Or.inl ⟨by rfl, ?_⟩) ?_ ?_
  rotate_left
  · intro w'
    go_simp
    with_reducible rfl
  rotate_left
  · simp only [Act.put, List.setIfInBounds_toArray, List.set_cons_zero, List.set_cons_succ, i64_w, i32_w]
    rfl
  refine pure_ (i := 16) (N := some 4) (v := ?_) (a' := ?_) #[true, true, true, true, true, true, true, true, true, true, true, true, true, true, true, true, true] rfl rfl (any_of HT_.out (by kernel_rfl)) (fun _ _ _ h => h) (Or.inl ⟨by rfl, ?_⟩) ?_ ?_
  rotate_left
  · intro w'
    go_simp
    with_reducible rfl
  rotate_left
  · simp only [Act.put, List.setIfInBounds_toArray, List.set_cons_zero, List.set_cons_succ, i64_w, i32_w]
    rfl
  refine done_ (done_of HT_.out (by kernel_rfl)) ?_
  try go_wp2
  refine bodyPost_ret (results_ctt rfl _ _ gb268 25 #[.int .i64 t272, .int .i64 t273, .slice Ao13 t274.length co13] (0, 0) _ rfl (by (with_reducible repeat (first | refine blk_drewN ?_ _ | refine blk_drew ?_ | refine blk_alloc ?_ _)); refine blk_put (cs := #[.int .i64 t272, .int .i64 t273, .slice none 0 0]) ?_ 2 _ rfl; (with_reducible repeat (first | refine blk_drewN ?_ _ | refine blk_drew ?_ | refine blk_alloc ?_ _)); refine blk_put (cs := #[.int .i64 t272, .int .i64 0, .slice none 0 0]) ?_ 1 _ rfl; (with_reducible repeat (first | refine blk_drewN ?_ _ | refine blk_drew ?_ | refine blk_alloc ?_ _)); refine blk_put (cs := #[.int .i64 0, .int .i64 0, .slice none 0 0]) ?_ 0 _ rfl; (with_reducible repeat (first | refine blk_drewN ?_ _ | refine blk_drew ?_ | refine blk_alloc ?_ _)); exact BK268.out) Tryd.underlying25 rfl (by kernel_rfl)) rfl ?_
  exact ⟨_, by first | rfl | (simp [errW_none, errW_some] <;> rfl) | (simp [*, errW_none, errW_some] <;> rfl), by (with_reducible repeat (first | apply Kd.R_alloc | apply Kd.R_drewN | apply Kd.R_drew)); exact Kd.R_mono (Kd.R_far (p := ⟨gb268, 2, none⟩) (Kd.R_far (p := ⟨gb268, 1, none⟩) (Kd.R_far (p := ⟨gb268, 0, none⟩) (Kd.R_types HO276.out BK268.out (by decide)) (fun _ hk => hk.2) (.int .i64 t272)) (fun _ hk => hk.2) (.int .i64 t273)) (fun _ hk => hk.2) (.slice Ao13 t274.length co13)) (fun _ hk => trivial), by repeat (first | (with_reducible first | exact HB.out | apply below_alloc | apply pw_below_drewN | apply below_drew1 | refine below_set ?_ (IsS46.ge HI271.out) | refine below_set ?_ GE268.out | refine below_set ?_ GE278.out) | exact HB.out)⟩

/-! ### impl_in: function 13 -/
def impl_in.f (a0 : Int) (a1 : Int) (a2 : Int) : Option (Bool) := if a0 ≥ a1 then (some (decide (a0 ≤ a2))) else (some false)
set_option maxHeartbeats 8000000 in
set_option maxRecDepth 100000 in
theorem impl_in.calls (a0 : Int) (a1 : Int) (a2 : Int) (r : Bool) (w : World) (h : impl_in.f a0 a1 a2 = some r) :
    Calls Tryd.prog 13 #[.int .i64 a0, .int .i64 a1, .int .i64 a2] w fun e w' => e = .returned (.bool r) ∧ Drawn0 w w' := by
  have H : (if a0 ≥ a1 then (some (decide (a0 ≤ a2))) else (some false)) = some r := h
  clear h
  by_cases c4 : a0 ≥ a1
  · rw [if_pos c4] at H
    have c4b0 : decide (a1 ≤ a0) = true := decide_eq_true c4
    clear c4
    obtain rfl := Option.some.inj H
    go_enter Tryd.func13, Tryd.ntmps13
    go_wp2
    go_ret
    exact ⟨by first | rfl | (simp [IntKind.wrap_i64, wrap64]; done) | (simp; done) | (simp [*]; done), by repeat (first | exact Drawn0.refl _ | apply Drawn0.step)⟩
  · rw [if_neg c4] at H
    have c4b0 : decide (a1 ≤ a0) = false := decide_eq_false c4
    clear c4
    obtain rfl := Option.some.inj H
    go_enter Tryd.func13, Tryd.ntmps13
    go_wp2
    go_ret
    exact ⟨by first | rfl | (simp [IntKind.wrap_i64, wrap64]; done) | (simp; done) | (simp [*]; done), by repeat (first | exact Drawn0.refl _ | apply Drawn0.step)⟩

/-! ### impl_GrdCell_meets: function 15 -/
def impl_GrdCell_meets.f (a0_0 : Int) (a0_1 : Int) (a0_2 : Int) (a0_3 : Int) (a0_4 : Int) (a1_0 : Int) (a1_1 : Int) (a1_2 : Int) (a1_3 : Int) (a1_4 : Int) : Option (Bool) := if a0_0 < (wrap64 (a1_0 + a1_2)) then (if a1_0 < (wrap64 (a0_0 + a0_2)) then (if a0_1 < (wrap64 (a1_1 + a1_3)) then (some (decide (a1_1 < (wrap64 (a0_1 + a0_3))))) else (some false)) else (some false)) else (some false)
set_option maxHeartbeats 8000000 in
set_option maxRecDepth 100000 in
theorem impl_GrdCell_meets.calls (a0_0 : Int) (a0_1 : Int) (a0_2 : Int) (a0_3 : Int) (a0_4 : Int) (a1_0 : Int) (a1_1 : Int) (a1_2 : Int) (a1_3 : Int) (a1_4 : Int) (r : Bool) (w : World) (h : impl_GrdCell_meets.f a0_0 a0_1 a0_2 a0_3 a0_4 a1_0 a1_1 a1_2 a1_3 a1_4 = some r) :
    Calls Tryd.prog 15 #[.agg #[.int .i64 a0_0, .int .i64 a0_1, .int .i64 a0_2, .int .i64 a0_3, .int .i64 a0_4], .agg #[.int .i64 a1_0, .int .i64 a1_1, .int .i64 a1_2, .int .i64 a1_3, .int .i64 a1_4]] w fun e w' => e = .returned (.bool r) ∧ Below w.heap.size w w' := by
  have hu29 := Tryd.underlying29
  have HB := Aside0.mk (Below.refl w.heap.size w)
  have H : (if a0_0 < (wrap64 (a1_0 + a1_2)) then (if a1_0 < (wrap64 (a0_0 + a0_2)) then (if a0_1 < (wrap64 (a1_1 + a1_3)) then (some (decide (a1_1 < (wrap64 (a0_1 + a0_3))))) else (some false)) else (some false)) else (some false)) = some r := h
  clear h
  by_cases c3 : a0_0 < (wrap64 (a1_0 + a1_2))
  · rw [if_pos c3] at H
    have c3b0 : decide (a0_0 < (wrap64 (a1_0 + a1_2))) = true := decide_eq_true c3
    clear c3
    by_cases c4 : a1_0 < (wrap64 (a0_0 + a0_2))
    · rw [if_pos c4] at H
      have c4b0 : decide (a1_0 < (wrap64 (a0_0 + a0_2))) = true := decide_eq_true c4
      clear c4
      by_cases c5 : a0_1 < (wrap64 (a1_1 + a1_3))
      · rw [if_pos c5] at H
        have c5b0 : decide (a0_1 < (wrap64 (a1_1 + a1_3))) = true := decide_eq_true c5
        clear c5
        obtain rfl := Option.some.inj H
        go_enter Tryd.func15, Tryd.ntmps15
        go_wp2_with (first | ((with_reducible refine gate_dst (N := 2) rfl ?_); refine box_event ?hg (N := 2) ?hd (cs := #[.int .i64 a0_0, .int .i64 a0_1, .int .i64 a0_2, .int .i64 a0_3, .int .i64 a0_4]) (t := 29) ?hr ?_; (case hd => rfl); (case hg => rfl); (case hr => first | (go_simp; done) | (go_simp; rfl)); intro gb283 hg w6 hbox hb; have n0_ := Aside0.mk (below_step (by repeat (first | (with_reducible first | exact HB.out | apply below_alloc | apply pw_below_drewN | apply below_drew1) | exact HB.out)) hb); have n1_ := Aside0.mk (hbox); have n2_ := Aside0.mk ((by rw [hg]; exact (below_size (by repeat (first | (with_reducible first | exact HB.out | apply below_alloc | apply pw_below_drewN | apply below_drew1) | exact HB.out))) : w.heap.size ≤ gb283)); have n3_ := Aside0.mk ((by rw [hg]; exact (below_size (by repeat (first | (with_reducible first | exact HB.out | apply below_alloc | apply pw_below_drewN | apply below_drew1) | exact HB.out))) : w.heap.size ≤ gb283)); clear HB; have HB := n0_; have BK283 := n1_; have GW283 := n2_; have GE283 := n3_; clear n0_ n1_ n2_ n3_; clear hb hbox hg) | ((with_reducible refine gate_dst (N := 3) rfl ?_); refine box_event ?hg (N := 3) ?hd (cs := #[.int .i64 a1_0, .int .i64 a1_1, .int .i64 a1_2, .int .i64 a1_3, .int .i64 a1_4]) (t := 29) ?hr ?_; (case hd => rfl); (case hg => rfl); (case hr => first | (go_simp; done) | (go_simp; rfl)); intro gb284 hg w7 hbox hb; have n0_ := Aside0.mk (blk_below (g := gb283) (o := .cells #[.int .i64 a0_0, .int .i64 a0_1, .int .i64 a0_2, .int .i64 a0_3, .int .i64 a0_4] 29 (0, 0)) (by (with_reducible repeat (first | refine blk_drewN ?_ _ | refine blk_drew ?_ | refine blk_alloc ?_ _)); exact BK283.out) hb); have n1_ := Aside0.mk (below_step (by repeat (first | (with_reducible first | exact HB.out | apply below_alloc | apply pw_below_drewN | apply below_drew1 | refine below_set ?_ GE283.out) | exact HB.out)) hb); have n2_ := Aside0.mk (hbox); have n3_ := Aside0.mk ((by rw [hg]; exact (below_size (by repeat (first | (with_reducible first | exact HB.out | apply below_alloc | apply pw_below_drewN | apply below_drew1 | refine below_set ?_ GE283.out) | exact HB.out))) : w.heap.size ≤ gb284)); have n4_ := Aside0.mk ((by rw [hg]; exact (below_size (by repeat (first | (with_reducible first | exact HB.out | apply below_alloc | apply pw_below_drewN | apply below_drew1 | refine below_set ?_ GE283.out) | exact HB.out))) : w.heap.size ≤ gb284)); have n5_ := Aside0.mk ((by rw [hg]; exact Nat.ne_of_lt (blk_lt (g := gb283) (o := .cells #[.int .i64 a0_0, .int .i64 a0_1, .int .i64 a0_2, .int .i64 a0_3, .int .i64 a0_4] 29 (0, 0)) (by (with_reducible repeat (first | refine blk_drewN ?_ _ | refine blk_drew ?_ | refine blk_alloc ?_ _)); exact BK283.out)) : gb283 ≠ gb284)); have n6_ := Aside0.mk ((by rw [hg]; exact Nat.ne_of_gt (blk_lt (g := gb283) (o := .cells #[.int .i64 a0_0, .int .i64 a0_1, .int .i64 a0_2, .int .i64 a0_3, .int .i64 a0_4] 29 (0, 0)) (by (with_reducible repeat (first | refine blk_drewN ?_ _ | refine blk_drew ?_ | refine blk_alloc ?_ _)); exact BK283.out)) : gb284 ≠ gb283)); clear BK283; clear HB; have BK283 := n0_; have HB := n1_; have BK284 := n2_; have GW284 := n3_; have GE284 := n4_; have NB283_284 := n5_; have NB284_283 := n6_; clear n0_ n1_ n2_ n3_ n4_ n5_ n6_; clear hb hbox hg; have hnb8 := NB283_284.out; have hnc8 := NB284_283.out; have hcz9_0 : w7.cell? ⟨gb283, 0, none⟩ = some (.int .i64 a0_0) := (blk_cell BK283.out 0).trans rfl; have hcz9_1 : w7.cell? ⟨gb283, 1, none⟩ = some (.int .i64 a0_1) := (blk_cell BK283.out 1).trans rfl; have hcz9_2 : w7.cell? ⟨gb283, 2, none⟩ = some (.int .i64 a0_2) := (blk_cell BK283.out 2).trans rfl; have hcz9_3 : w7.cell? ⟨gb283, 3, none⟩ = some (.int .i64 a0_3) := (blk_cell BK283.out 3).trans rfl; have hcz9_4 : w7.cell? ⟨gb283, 4, none⟩ = some (.int .i64 a0_4) := (blk_cell BK283.out 4).trans rfl; have hfz9_0 := blk_frozen BK283.out 0; have hfz9_1 := blk_frozen BK283.out 1; have hfz9_2 := blk_frozen BK283.out 2; have hfz9_3 := blk_frozen BK283.out 3; have hfz9_4 := blk_frozen BK283.out 4; have hcz10_0 : w7.cell? ⟨gb284, 0, none⟩ = some (.int .i64 a1_0) := (blk_cell BK284.out 0).trans rfl; have hcz10_1 : w7.cell? ⟨gb284, 1, none⟩ = some (.int .i64 a1_1) := (blk_cell BK284.out 1).trans rfl; have hcz10_2 : w7.cell? ⟨gb284, 2, none⟩ = some (.int .i64 a1_2) := (blk_cell BK284.out 2).trans rfl; have hcz10_3 : w7.cell? ⟨gb284, 3, none⟩ = some (.int .i64 a1_3) := (blk_cell BK284.out 3).trans rfl; have hcz10_4 : w7.cell? ⟨gb284, 4, none⟩ = some (.int .i64 a1_4) := (blk_cell BK284.out 4).trans rfl; have hfz10_0 := blk_frozen BK284.out 0; have hfz10_1 := blk_frozen BK284.out 1; have hfz10_2 := blk_frozen BK284.out 2; have hfz10_3 := blk_frozen BK284.out 3; have hfz10_4 := blk_frozen BK284.out 4))
        go_ret
        exact ⟨by first | rfl | (simp [IntKind.wrap_i64, wrap64]; done) | (simp [errW_none, errW_some] <;> rfl) | (simp [*, errW_none, errW_some] <;> rfl), by repeat (first | (with_reducible first | exact HB.out | apply below_alloc | apply pw_below_drewN | apply below_drew1 | refine below_set ?_ GE283.out | refine below_set ?_ GE284.out) | exact HB.out)⟩
      · rw [if_neg c5] at H
        have c5b0 : decide (a0_1 < (wrap64 (a1_1 + a1_3))) = false := decide_eq_false c5
        clear c5
        obtain rfl := Option.some.inj H
        go_enter Tryd.func15, Tryd.ntmps15
        go_wp2_with (first | ((with_reducible refine gate_dst (N := 2) rfl ?_); refine box_event ?hg (N := 2) ?hd (cs := #[.int .i64 a0_0, .int .i64 a0_1, .int .i64 a0_2, .int .i64 a0_3, .int .i64 a0_4]) (t := 29) ?hr ?_; (case hd => rfl); (case hg => rfl); (case hr => first | (go_simp; done) | (go_simp; rfl)); intro gb283 hg w11 hbox hb; have n0_ := Aside0.mk (below_step (by repeat (first | (with_reducible first | exact HB.out | apply below_alloc | apply pw_below_drewN | apply below_drew1) | exact HB.out)) hb); have n1_ := Aside0.mk (hbox); have n2_ := Aside0.mk ((by rw [hg]; exact (below_size (by repeat (first | (with_reducible first | exact HB.out | apply below_alloc | apply pw_below_drewN | apply below_drew1) | exact HB.out))) : w.heap.size ≤ gb283)); have n3_ := Aside0.mk ((by rw [hg]; exact (below_size (by repeat (first | (with_reducible first | exact HB.out | apply below_alloc | apply pw_below_drewN | apply below_drew1) | exact HB.out))) : w.heap.size ≤ gb283)); clear HB; have HB := n0_; have BK283 := n1_; have GW283 := n2_; have GE283 := n3_; clear n0_ n1_ n2_ n3_; clear hb hbox hg) | ((with_reducible refine gate_dst (N := 3) rfl ?_); refine box_event ?hg (N := 3) ?hd (cs := #[.int .i64 a1_0, .int .i64 a1_1, .int .i64 a1_2, .int .i64 a1_3, .int .i64 a1_4]) (t := 29) ?hr ?_; (case hd => rfl); (case hg => rfl); (case hr => first | (go_simp; done) | (go_simp; rfl)); intro gb284 hg w12 hbox hb; have n0_ := Aside0.mk (blk_below (g := gb283) (o := .cells #[.int .i64 a0_0, .int .i64 a0_1, .int .i64 a0_2, .int .i64 a0_3, .int .i64 a0_4] 29 (0, 0)) (by (with_reducible repeat (first | refine blk_drewN ?_ _ | refine blk_drew ?_ | refine blk_alloc ?_ _)); exact BK283.out) hb); have n1_ := Aside0.mk (below_step (by repeat (first | (with_reducible first | exact HB.out | apply below_alloc | apply pw_below_drewN | apply below_drew1 | refine below_set ?_ GE283.out) | exact HB.out)) hb); have n2_ := Aside0.mk (hbox); have n3_ := Aside0.mk ((by rw [hg]; exact (below_size (by repeat (first | (with_reducible first | exact HB.out | apply below_alloc | apply pw_below_drewN | apply below_drew1 | refine below_set ?_ GE283.out) | exact HB.out))) : w.heap.size ≤ gb284)); have n4_ := Aside0.mk ((by rw [hg]; exact (below_size (by repeat (first | (with_reducible first | exact HB.out | apply below_alloc | apply pw_below_drewN | apply below_drew1 | refine below_set ?_ GE283.out) | exact HB.out))) : w.heap.size ≤ gb284)); have n5_ := Aside0.mk ((by rw [hg]; exact Nat.ne_of_lt (blk_lt (g := gb283) (o := .cells #[.int .i64 a0_0, .int .i64 a0_1, .int .i64 a0_2, .int .i64 a0_3, .int .i64 a0_4] 29 (0, 0)) (by (with_reducible repeat (first | refine blk_drewN ?_ _ | refine blk_drew ?_ | refine blk_alloc ?_ _)); exact BK283.out)) : gb283 ≠ gb284)); have n6_ := Aside0.mk ((by rw [hg]; exact Nat.ne_of_gt (blk_lt (g := gb283) (o := .cells #[.int .i64 a0_0, .int .i64 a0_1, .int .i64 a0_2, .int .i64 a0_3, .int .i64 a0_4] 29 (0, 0)) (by (with_reducible repeat (first | refine blk_drewN ?_ _ | refine blk_drew ?_ | refine blk_alloc ?_ _)); exact BK283.out)) : gb284 ≠ gb283)); clear BK283; clear HB; have BK283 := n0_; have HB := n1_; have BK284 := n2_; have GW284 := n3_; have GE284 := n4_; have NB283_284 := n5_; have NB284_283 := n6_; clear n0_ n1_ n2_ n3_ n4_ n5_ n6_; clear hb hbox hg; have hnb13 := NB283_284.out; have hnc13 := NB284_283.out; have hcz14_0 : w12.cell? ⟨gb283, 0, none⟩ = some (.int .i64 a0_0) := (blk_cell BK283.out 0).trans rfl; have hcz14_1 : w12.cell? ⟨gb283, 1, none⟩ = some (.int .i64 a0_1) := (blk_cell BK283.out 1).trans rfl; have hcz14_2 : w12.cell? ⟨gb283, 2, none⟩ = some (.int .i64 a0_2) := (blk_cell BK283.out 2).trans rfl; have hcz14_3 : w12.cell? ⟨gb283, 3, none⟩ = some (.int .i64 a0_3) := (blk_cell BK283.out 3).trans rfl; have hcz14_4 : w12.cell? ⟨gb283, 4, none⟩ = some (.int .i64 a0_4) := (blk_cell BK283.out 4).trans rfl; have hfz14_0 := blk_frozen BK283.out 0; have hfz14_1 := blk_frozen BK283.out 1; have hfz14_2 := blk_frozen BK283.out 2; have hfz14_3 := blk_frozen BK283.out 3; have hfz14_4 := blk_frozen BK283.out 4; have hcz15_0 : w12.cell? ⟨gb284, 0, none⟩ = some (.int .i64 a1_0) := (blk_cell BK284.out 0).trans rfl; have hcz15_1 : w12.cell? ⟨gb284, 1, none⟩ = some (.int .i64 a1_1) := (blk_cell BK284.out 1).trans rfl; have hcz15_2 : w12.cell? ⟨gb284, 2, none⟩ = some (.int .i64 a1_2) := (blk_cell BK284.out 2).trans rfl; have hcz15_3 : w12.cell? ⟨gb284, 3, none⟩ = some (.int .i64 a1_3) := (blk_cell BK284.out 3).trans rfl; have hcz15_4 : w12.cell? ⟨gb284, 4, none⟩ = some (.int .i64 a1_4) := (blk_cell BK284.out 4).trans rfl; have hfz15_0 := blk_frozen BK284.out 0; have hfz15_1 := blk_frozen BK284.out 1; have hfz15_2 := blk_frozen BK284.out 2; have hfz15_3 := blk_frozen BK284.out 3; have hfz15_4 := blk_frozen BK284.out 4))
        go_ret
        exact ⟨by first | rfl | (simp [IntKind.wrap_i64, wrap64]; done) | (simp [errW_none, errW_some] <;> rfl) | (simp [*, errW_none, errW_some] <;> rfl), by repeat (first | (with_reducible first | exact HB.out | apply below_alloc | apply pw_below_drewN | apply below_drew1 | refine below_set ?_ GE283.out | refine below_set ?_ GE284.out) | exact HB.out)⟩
    · rw [if_neg c4] at H
      have c4b0 : decide (a1_0 < (wrap64 (a0_0 + a0_2))) = false := decide_eq_false c4
      clear c4
      obtain rfl := Option.some.inj H
      go_enter Tryd.func15, Tryd.ntmps15
      go_wp2_with (first | ((with_reducible refine gate_dst (N := 2) rfl ?_); refine box_event ?hg (N := 2) ?hd (cs := #[.int .i64 a0_0, .int .i64 a0_1, .int .i64 a0_2, .int .i64 a0_3, .int .i64 a0_4]) (t := 29) ?hr ?_; (case hd => rfl); (case hg => rfl); (case hr => first | (go_simp; done) | (go_simp; rfl)); intro gb283 hg w16 hbox hb; have n0_ := Aside0.mk (below_step (by repeat (first | (with_reducible first | exact HB.out | apply below_alloc | apply pw_below_drewN | apply below_drew1) | exact HB.out)) hb); have n1_ := Aside0.mk (hbox); have n2_ := Aside0.mk ((by rw [hg]; exact (below_size (by repeat (first | (with_reducible first | exact HB.out | apply below_alloc | apply pw_below_drewN | apply below_drew1) | exact HB.out))) : w.heap.size ≤ gb283)); have n3_ := Aside0.mk ((by rw [hg]; exact (below_size (by repeat (first | (with_reducible first | exact HB.out | apply below_alloc | apply pw_below_drewN | apply below_drew1) | exact HB.out))) : w.heap.size ≤ gb283)); clear HB; have HB := n0_; have BK283 := n1_; have GW283 := n2_; have GE283 := n3_; clear n0_ n1_ n2_ n3_; clear hb hbox hg) | ((with_reducible refine gate_dst (N := 3) rfl ?_); refine box_event ?hg (N := 3) ?hd (cs := #[.int .i64 a1_0, .int .i64 a1_1, .int .i64 a1_2, .int .i64 a1_3, .int .i64 a1_4]) (t := 29) ?hr ?_; (case hd => rfl); (case hg => rfl); (case hr => first | (go_simp; done) | (go_simp; rfl)); intro gb284 hg w17 hbox hb; have n0_ := Aside0.mk (blk_below (g := gb283) (o := .cells #[.int .i64 a0_0, .int .i64 a0_1, .int .i64 a0_2, .int .i64 a0_3, .int .i64 a0_4] 29 (0, 0)) (by (with_reducible repeat (first | refine blk_drewN ?_ _ | refine blk_drew ?_ | refine blk_alloc ?_ _)); exact BK283.out) hb); have n1_ := Aside0.mk (below_step (by repeat (first | (with_reducible first | exact HB.out | apply below_alloc | apply pw_below_drewN | apply below_drew1 | refine below_set ?_ GE283.out) | exact HB.out)) hb); have n2_ := Aside0.mk (hbox); have n3_ := Aside0.mk ((by rw [hg]; exact (below_size (by repeat (first | (with_reducible first | exact HB.out | apply below_alloc | apply pw_below_drewN | apply below_drew1 | refine below_set ?_ GE283.out) | exact HB.out))) : w.heap.size ≤ gb284)); have n4_ := Aside0.mk ((by rw [hg]; exact (below_size (by repeat (first | (with_reducible first | exact HB.out | apply below_alloc | apply pw_below_drewN | apply below_drew1 | refine below_set ?_ GE283.out) | exact HB.out))) : w.heap.size ≤ gb284)); have n5_ := Aside0.mk ((by rw [hg]; exact Nat.ne_of_lt (blk_lt (g := gb283) (o := .cells #[.int .i64 a0_0, .int .i64 a0_1, .int .i64 a0_2, .int .i64 a0_3, .int .i64 a0_4] 29 (0, 0)) (by (with_reducible repeat (first | refine blk_drewN ?_ _ | refine blk_drew ?_ | refine blk_alloc ?_ _)); exact BK283.out)) : gb283 ≠ gb284)); have n6_ := Aside0.mk ((by rw [hg]; exact Nat.ne_of_gt (blk_lt (g := gb283) (o := .cells #[.int .i64 a0_0, .int .i64 a0_1, .int .i64 a0_2, .int .i64 a0_3, .int .i64 a0_4] 29 (0, 0)) (by (with_reducible repeat (first | refine blk_drewN ?_ _ | refine blk_drew ?_ | refine blk_alloc ?_ _)); exact BK283.out)) : gb284 ≠ gb283)); clear BK283; clear HB; have BK283 := n0_; have HB := n1_; have BK284 := n2_; have GW284 := n3_; have GE284 := n4_; have NB283_284 := n5_; have NB284_283 := n6_; clear n0_ n1_ n2_ n3_ n4_ n5_ n6_; clear hb hbox hg; have hnb18 := NB283_284.out; have hnc18 := NB284_283.out; have hcz19_0 : w17.cell? ⟨gb283, 0, none⟩ = some (.int .i64 a0_0) := (blk_cell BK283.out 0).trans rfl; have hcz19_1 : w17.cell? ⟨gb283, 1, none⟩ = some (.int .i64 a0_1) := (blk_cell BK283.out 1).trans rfl; have hcz19_2 : w17.cell? ⟨gb283, 2, none⟩ = some (.int .i64 a0_2) := (blk_cell BK283.out 2).trans rfl; have hcz19_3 : w17.cell? ⟨gb283, 3, none⟩ = some (.int .i64 a0_3) := (blk_cell BK283.out 3).trans rfl; have hcz19_4 : w17.cell? ⟨gb283, 4, none⟩ = some (.int .i64 a0_4) := (blk_cell BK283.out 4).trans rfl; have hfz19_0 := blk_frozen BK283.out 0; have hfz19_1 := blk_frozen BK283.out 1; have hfz19_2 := blk_frozen BK283.out 2; have hfz19_3 := blk_frozen BK283.out 3; have hfz19_4 := blk_frozen BK283.out 4; have hcz20_0 : w17.cell? ⟨gb284, 0, none⟩ = some (.int .i64 a1_0) := (blk_cell BK284.out 0).trans rfl; have hcz20_1 : w17.cell? ⟨gb284, 1, none⟩ = some (.int .i64 a1_1) := (blk_cell BK284.out 1).trans rfl; have hcz20_2 : w17.cell? ⟨gb284, 2, none⟩ = some (.int .i64 a1_2) := (blk_cell BK284.out 2).trans rfl; have hcz20_3 : w17.cell? ⟨gb284, 3, none⟩ = some (.int .i64 a1_3) := (blk_cell BK284.out 3).trans rfl; have hcz20_4 : w17.cell? ⟨gb284, 4, none⟩ = some (.int .i64 a1_4) := (blk_cell BK284.out 4).trans rfl; have hfz20_0 := blk_frozen BK284.out 0; have hfz20_1 := blk_frozen BK284.out 1; have hfz20_2 := blk_frozen BK284.out 2; have hfz20_3 := blk_frozen BK284.out 3; have hfz20_4 := blk_frozen BK284.out 4))
      go_ret
      exact ⟨by first | rfl | (simp [IntKind.wrap_i64, wrap64]; done) | (simp [errW_none, errW_some] <;> rfl) | (simp [*, errW_none, errW_some] <;> rfl), by repeat (first | (with_reducible first | exact HB.out | apply below_alloc | apply pw_below_drewN | apply below_drew1 | refine below_set ?_ GE283.out | refine below_set ?_ GE284.out) | exact HB.out)⟩
  · rw [if_neg c3] at H
    have c3b0 : decide (a0_0 < (wrap64 (a1_0 + a1_2))) = false := decide_eq_false c3
    clear c3
    obtain rfl := Option.some.inj H
    go_enter Tryd.func15, Tryd.ntmps15
    go_wp2_with (first | ((with_reducible refine gate_dst (N := 2) rfl ?_); refine box_event ?hg (N := 2) ?hd (cs := #[.int .i64 a0_0, .int .i64 a0_1, .int .i64 a0_2, .int .i64 a0_3, .int .i64 a0_4]) (t := 29) ?hr ?_; (case hd => rfl); (case hg => rfl); (case hr => first | (go_simp; done) | (go_simp; rfl)); intro gb283 hg w21 hbox hb; have n0_ := Aside0.mk (below_step (by repeat (first | (with_reducible first | exact HB.out | apply below_alloc | apply pw_below_drewN | apply below_drew1) | exact HB.out)) hb); have n1_ := Aside0.mk (hbox); have n2_ := Aside0.mk ((by rw [hg]; exact (below_size (by repeat (first | (with_reducible first | exact HB.out | apply below_alloc | apply pw_below_drewN | apply below_drew1) | exact HB.out))) : w.heap.size ≤ gb283)); have n3_ := Aside0.mk ((by rw [hg]; exact (below_size (by repeat (first | (with_reducible first | exact HB.out | apply below_alloc | apply pw_below_drewN | apply below_drew1) | exact HB.out))) : w.heap.size ≤ gb283)); clear HB; have HB := n0_; have BK283 := n1_; have GW283 := n2_; have GE283 := n3_; clear n0_ n1_ n2_ n3_; clear hb hbox hg) | ((with_reducible refine gate_dst (N := 3) rfl ?_); refine box_event ?hg (N := 3) ?hd (cs := #[.int .i64 a1_0, .int .i64 a1_1, .int .i64 a1_2, .int .i64 a1_3, .int .i64 a1_4]) (t := 29) ?hr ?_; (case hd => rfl); (case hg => rfl); (case hr => first | (go_simp; done) | (go_simp; rfl)); intro gb284 hg w22 hbox hb; have n0_ := Aside0.mk (blk_below (g := gb283) (o := .cells #[.int .i64 a0_0, .int .i64 a0_1, .int .i64 a0_2, .int .i64 a0_3, .int .i64 a0_4] 29 (0, 0)) (by (with_reducible repeat (first | refine blk_drewN ?_ _ | refine blk_drew ?_ | refine blk_alloc ?_ _)); exact BK283.out) hb); have n1_ := Aside0.mk (below_step (by repeat (first | (with_reducible first | exact HB.out | apply below_alloc | apply pw_below_drewN | apply below_drew1 | refine below_set ?_ GE283.out) | exact HB.out)) hb); have n2_ := Aside0.mk (hbox); have n3_ := Aside0.mk ((by rw [hg]; exact (below_size (by repeat (first | (with_reducible first | exact HB.out | apply below_alloc | apply pw_below_drewN | apply below_drew1 | refine below_set ?_ GE283.out) | exact HB.out))) : w.heap.size ≤ gb284)); have n4_ := Aside0.mk ((by rw [hg]; exact (below_size (by repeat (first | (with_reducible first | exact HB.out | apply below_alloc | apply pw_below_drewN | apply below_drew1 | refine below_set ?_ GE283.out) | exact HB.out))) : w.heap.size ≤ gb284)); have n5_ := Aside0.mk ((by rw [hg]; exact Nat.ne_of_lt (blk_lt (g := gb283) (o := .cells #[.int .i64 a0_0, .int .i64 a0_1, .int .i64 a0_2, .int .i64 a0_3, .int .i64 a0_4] 29 (0, 0)) (by (with_reducible repeat (first | refine blk_drewN ?_ _ | refine blk_drew ?_ | refine blk_alloc ?_ _)); exact BK283.out)) : gb283 ≠ gb284)); have n6_ := Aside0.mk ((by rw [hg]; exact Nat.ne_of_gt (blk_lt (g := gb283) (o := .cells #[.int .i64 a0_0, .int .i64 a0_1, .int .i64 a0_2, .int .i64 a0_3, .int .i64 a0_4] 29 (0, 0)) (by (with_reducible repeat (first | refine blk_drewN ?_ _ | refine blk_drew ?_ | refine blk_alloc ?_ _)); exact BK283.out)) : gb284 ≠ gb283)); clear BK283; clear HB; have BK283 := n0_; have HB := n1_; have BK284 := n2_; have GW284 := n3_; have GE284 := n4_; have NB283_284 := n5_; have NB284_283 := n6_; clear n0_ n1_ n2_ n3_ n4_ n5_ n6_; clear hb hbox hg; have hnb23 := NB283_284.out; have hnc23 := NB284_283.out; have hcz24_0 : w22.cell? ⟨gb283, 0, none⟩ = some (.int .i64 a0_0) := (blk_cell BK283.out 0).trans rfl; have hcz24_1 : w22.cell? ⟨gb283, 1, none⟩ = some (.int .i64 a0_1) := (blk_cell BK283.out 1).trans rfl; have hcz24_2 : w22.cell? ⟨gb283, 2, none⟩ = some (.int .i64 a0_2) := (blk_cell BK283.out 2).trans rfl; have hcz24_3 : w22.cell? ⟨gb283, 3, none⟩ = some (.int .i64 a0_3) := (blk_cell BK283.out 3).trans rfl; have hcz24_4 : w22.cell? ⟨gb283, 4, none⟩ = some (.int .i64 a0_4) := (blk_cell BK283.out 4).trans rfl; have hfz24_0 := blk_frozen BK283.out 0; have hfz24_1 := blk_frozen BK283.out 1; have hfz24_2 := blk_frozen BK283.out 2; have hfz24_3 := blk_frozen BK283.out 3; have hfz24_4 := blk_frozen BK283.out 4; have hcz25_0 : w22.cell? ⟨gb284, 0, none⟩ = some (.int .i64 a1_0) := (blk_cell BK284.out 0).trans rfl; have hcz25_1 : w22.cell? ⟨gb284, 1, none⟩ = some (.int .i64 a1_1) := (blk_cell BK284.out 1).trans rfl; have hcz25_2 : w22.cell? ⟨gb284, 2, none⟩ = some (.int .i64 a1_2) := (blk_cell BK284.out 2).trans rfl; have hcz25_3 : w22.cell? ⟨gb284, 3, none⟩ = some (.int .i64 a1_3) := (blk_cell BK284.out 3).trans rfl; have hcz25_4 : w22.cell? ⟨gb284, 4, none⟩ = some (.int .i64 a1_4) := (blk_cell BK284.out 4).trans rfl; have hfz25_0 := blk_frozen BK284.out 0; have hfz25_1 := blk_frozen BK284.out 1; have hfz25_2 := blk_frozen BK284.out 2; have hfz25_3 := blk_frozen BK284.out 3; have hfz25_4 := blk_frozen BK284.out 4))
    go_ret
    exact ⟨by first | rfl | (simp [IntKind.wrap_i64, wrap64]; done) | (simp [errW_none, errW_some] <;> rfl) | (simp [*, errW_none, errW_some] <;> rfl), by repeat (first | (with_reducible first | exact HB.out | apply below_alloc | apply pw_below_drewN | apply below_drew1 | refine below_set ?_ GE283.out | refine below_set ?_ GE284.out) | exact HB.out)⟩

/-! ### impl_GrdOk: function 12 (by hand) -/
set_option maxHeartbeats 2000000 in
set_option maxRecDepth 100000 in
/-- slices.IndexFunc over cells at their places, whatever a bound method asks. -/
theorem idxf_cellm (p : S29 → Bool) (g : Nat) (fb : Array Value) (eg : ∀ args w, (callFunc g args).run Tryd.prog w = .ok (.enter g args) w) (A : Option Addr) (c : Nat) (l : List S29) (w : World)
    (hr : Kd.C k29 w A l.length l) (hc : l.length ≤ c)
    (hp : ∀ (W : World) (x : S29), Below w.heap.size w W → Calls Tryd.prog g (fb ++ #[.agg #[.int .i64 x.f0, .int .i64 x.f1, .int .i64 x.f2, .int .i64 x.f3, .int .i64 x.f4]]) W fun e W' => e = .returned (.bool (p x)) ∧ Below w.heap.size w W') :
    Calls Tryd.prog 30 #[.slice A l.length c, .func (.func g) fb #[]] w fun e w' => e = .returned (.int .i64 (ppIdx p l)) ∧ Below w.heap.size w w' := by
  have hbig := hr.2.1
  have HR := Aside0.mk hr
  clear hr
  go_enter Tryd.func30, Tryd.ntmps30
  go_wp2
  go_loopg [5, 8] l.length (fun gg _ s8 wr => ∃ kk : Nat, kk ≤ l.length ∧ l.length - kk ≤ gg ∧ s8 = .int .i64 kk ∧ Aside0 (Below w.heap.size w wr) ∧ Aside0 (∀ j (h : j < l.length), j < kk → p l[j] = false))
  case atStart => exact ⟨0, Nat.zero_le _, by omega, rfl, ⟨Below.refl _ w⟩, ⟨fun j _ hj => absurd hj (Nat.not_lt_zero _)⟩⟩
  case round =>
    obtain ⟨kk, hkk, hg, rfl, BW, AA⟩ := hrel
    by_cases hlt : kk < l.length
    · have hltz : (kk : Int) < (l.length : Int) := by omega
      obtain ⟨ad, e0, h0, h1, h2, h3, h4⟩ := at_T29 HR.out (kk : Int) (by omega) hltz
      cases e0
      replace h0 := (BW.out.cell (World.block_lt_of_cell? w _ h0)).trans h0
      replace h1 := (BW.out.cell (World.block_lt_of_cell? w _ h1)).trans h1
      replace h2 := (BW.out.cell (World.block_lt_of_cell? w _ h2)).trans h2
      replace h3 := (BW.out.cell (World.block_lt_of_cell? w _ h3)).trans h3
      replace h4 := (BW.out.cell (World.block_lt_of_cell? w _ h4)).trans h4
      simp only [Int.toNat_natCast] at h0 h1 h2 h3 h4
      have hcall := hp wr (rd_T29 l (kk : Int)) BW.out
      have hy : rd_T29 l (kk : Int) = l[kk] := by unfold rd_T29; simp [List.getD_eq_getElem?_getD, List.getElem?_eq_getElem hlt]
      generalize rd_T29 l (kk : Int) = y at h0 h1 h2 h3 h4 hcall hy
      have HY := Aside0.mk hy
      clear hy hp
      cases hq : p y with
      | true =>
        rw [hq] at hcall
        go_wp2_with (go_at_fn g; refine hcall.mono ?_; rintro e w' ⟨rfl, hb'⟩)
        go_ret
        refine ⟨?_, hb'⟩
        rw [ppIdx_hit p l kk hlt (by rw [← HY.out]; exact hq) AA.out]
        rfl
      | false =>
        rw [hq] at hcall
        go_wp2_with (go_at_fn g; refine hcall.mono ?_; rintro e w' ⟨rfl, hb'⟩)
        go_roundg (l.length - (kk + 1))
        case measure => omega
        case rel =>
          refine ⟨kk + 1, by omega, by omega, by go_num, ⟨hb'⟩, ⟨fun j h hj => ?_⟩⟩
          by_cases e : j = kk
          · subst e
            rw [← HY.out]; exact hq
          · exact AA.out j h (by omega)
    · have hltz : ¬ (kk : Int) < (l.length : Int) := by omega
      have hk : kk = l.length := by omega
      subst hk
      go_wp2
      go_ret
      refine ⟨?_, BW.out⟩
      rw [ppIdx_miss p l (fun j hj => AA.out j hj hj)]
      rfl
set_option maxHeartbeats 2000000 in
set_option maxRecDepth 100000 in
theorem cntf_cellm (p : S29 → Bool) (g : Nat) (fb : Array Value) (eg : ∀ args w, (callFunc g args).run Tryd.prog w = .ok (.enter g args) w) (A : Option Addr) (c : Nat) (l : List S29) (w : World)
    (hr : Kd.C k29 w A l.length l) (hc : l.length ≤ c)
    (hp : ∀ (W : World) (x : S29), Below w.heap.size w W → Calls Tryd.prog g (fb ++ #[.agg #[.int .i64 x.f0, .int .i64 x.f1, .int .i64 x.f2, .int .i64 x.f3, .int .i64 x.f4]]) W fun e W' => e = .returned (.bool (p x)) ∧ Below w.heap.size w W') :
    Calls Tryd.prog 23 #[.slice A l.length c, .func (.func g) fb #[]] w fun e w' => e = .returned (.bool (decide (0 ≤ ppIdx p l))) ∧ Below w.heap.size w w' := by
  have HR := Aside0.mk hr
  have HC := Aside0.mk hc
  have HP := Aside0.mk hp
  clear hr hc hp
  go_enter Tryd.func23, Tryd.ntmps23
  go_wp2_with (go_at_call 30; (with_reducible refine (idxf_cellm p g fb eg A c l _ HR.out HC.out HP.out).mono ?_); rintro e w' ⟨rfl, hb⟩)
  go_ret
  exact ⟨rfl, hb⟩
/-- The two cells have a slot in common, as the program asks it. -/
def ppMeetB (a b : S29) : Bool := (impl_GrdCell_meets.f a.f0 a.f1 a.f2 a.f3 a.f4 b.f0 b.f1 b.f2 b.f3 b.f4).getD false
theorem ppMeet_some (a b : S29) : impl_GrdCell_meets.f a.f0 a.f1 a.f2 a.f3 a.f4 b.f0 b.f1 b.f2 b.f3 b.f4 = some (ppMeetB a b) := by
  unfold ppMeetB impl_GrdCell_meets.f
  (repeat' split) <;> rfl
def impl_ccells.f (k : Nat) (l : List S29) (a0 a1 a2 a3 a4 : Int) : Option Bool := some (decide (0 ≤ ppIdx (fun x => ppMeetB ⟨a0, a1, a2, a3, a4⟩ x) l))
theorem impl_ccells.mono : ∀ l a0 a1 a2 a3 a4 k, LeO (impl_ccells.f k l a0 a1 a2 a3 a4) (impl_ccells.f (k + 1) l a0 a1 a2 a3 a4) := fun _ _ _ _ _ _ _ => LeO.refl _
theorem impl_ccells.calls (k : Nat) (A : Option Addr) (c : Nat) (l : List S29) (a0 a1 a2 a3 a4 : Int) (r : Bool) (w : World) (hr : Kd.C k29 w A l.length l) (hc : l.length ≤ c) (h : impl_ccells.f k l a0 a1 a2 a3 a4 = some r) :
    Calls Tryd.prog 23 #[.slice A l.length c, .func (.func 15) #[.agg #[.int .i64 a0, .int .i64 a1, .int .i64 a2, .int .i64 a3, .int .i64 a4]] #[]] w fun e w' => e = .returned (.bool r) ∧ Below w.heap.size w w' := by
  obtain rfl := Option.some.inj h
  exact cntf_cellm (fun x => ppMeetB ⟨a0, a1, a2, a3, a4⟩ x) 15 _ (enters_of Tryd.func15 (by kernel_rfl) rfl) A c l w hr hc (fun W x hb => (impl_GrdCell_meets.calls _ _ _ _ _ _ _ _ _ _ _ _ (ppMeet_some ⟨a0, a1, a2, a3, a4⟩ x)).mono fun e W' ⟨he, hb'⟩ => ⟨he, below_then hb hb.size hb'⟩)
mutual
def impl_GrdOk.j0 : Nat → Bool → Int → Int → List (S29) → Option (Bool)
  | 0, _, _, _, _ => none
  | k + 1, x20, x286000, x286001, x286002 => if x20 = true then (some false) else (impl_GrdOk.l0 k x286002 (x286002.length : Int) 0 x286000 x286001 x286002)
def impl_GrdOk.l0 : Nat → List (S29) → Int → Int → Int → Int → List (S29) → Option (Bool)
  | 0, _, _, _, _, _, _ => none
  | k + 1, x22, x23, x24, x286000, x286001, x286002 => if x24 < x23 then (if 0 ≤ x24 then (if x24 < (x22.length : Int) then ((impl_in.f ((rd_T29 x22 x24).f0) 0 (wrap64 (x286000 - 1))).bind fun t290 => (if t290 = true then ((impl_in.f ((rd_T29 x22 x24).f2) 1 (wrap64 (x286000 - ((rd_T29 x22 x24).f0)))).bind fun t291 => (if t291 = true then ((impl_in.f ((rd_T29 x22 x24).f1) 0 (wrap64 (x286001 - 1))).bind fun t292 => (if t292 = true then ((impl_in.f ((rd_T29 x22 x24).f3) 1 (wrap64 (x286001 - ((rd_T29 x22 x24).f1)))).bind fun t293 => (impl_GrdOk.j2 k x24 x22 x23 x24 (!t293) x286000 x286001 x286002 ((rd_T29 x22 x24).f0) ((rd_T29 x22 x24).f1) ((rd_T29 x22 x24).f2) ((rd_T29 x22 x24).f3) ((rd_T29 x22 x24).f4))) else (impl_GrdOk.j2 k x24 x22 x23 x24 true x286000 x286001 x286002 ((rd_T29 x22 x24).f0) ((rd_T29 x22 x24).f1) ((rd_T29 x22 x24).f2) ((rd_T29 x22 x24).f3) ((rd_T29 x22 x24).f4)))) else (impl_GrdOk.j2 k x24 x22 x23 x24 true x286000 x286001 x286002 ((rd_T29 x22 x24).f0) ((rd_T29 x22 x24).f1) ((rd_T29 x22 x24).f2) ((rd_T29 x22 x24).f3) ((rd_T29 x22 x24).f4)))) else (impl_GrdOk.j2 k x24 x22 x23 x24 true x286000 x286001 x286002 ((rd_T29 x22 x24).f0) ((rd_T29 x22 x24).f1) ((rd_T29 x22 x24).f2) ((rd_T29 x22 x24).f3) ((rd_T29 x22 x24).f4)))) else (none)) else (none)) else (some true)
def impl_GrdOk.j2 : Nat → Int → List (S29) → Int → Int → Bool → Int → Int → List (S29) → Int → Int → Int → Int → Int → Option (Bool)
  | 0, _, _, _, _, _, _, _, _, _, _, _, _, _ => none
  | k + 1, x3, x22, x23, x24, x66, x286000, x286001, x286002, x290000, x290001, x290002, x290003, x290004 => if x66 = true then (some false) else ((impl_in.f x290004 0 4).bind fun t294 => (if t294 = true then (if 0 ≤ x3 then (if x3 ≤ (x286002.length : Int) then ((impl_ccells.f k (x286002.take (x3 : Int).toNat) x290000 x290001 x290002 x290003 x290004).bind fun t299 => (if t299 = true then (some false) else (impl_GrdOk.l0 k x22 x23 (wrap64 (x24 + 1)) x286000 x286001 x286002))) else (none)) else (none)) else (some false)))
end
def impl_GrdOk.f (k : Nat) (a0_0 : Int) (a0_1 : Int) (l0_2 : List (S29)) : Option (Bool) := (impl_in.f a0_0 1 8).bind fun t286 => (if t286 = true then ((impl_in.f a0_1 1 94).bind fun t287 => (if t287 = true then (impl_GrdOk.j0 k (decide ((l0_2.length : Int) > 40)) a0_0 a0_1 l0_2) else (impl_GrdOk.j0 k true a0_0 a0_1 l0_2))) else (impl_GrdOk.j0 k true a0_0 a0_1 l0_2))
theorem impl_GrdOk.mono_l : ∀ k, (∀ y0 y1 y2 y3, LeO (impl_GrdOk.j0 k y0 y1 y2 y3) (impl_GrdOk.j0 (k + 1) y0 y1 y2 y3)) ∧ (∀ y0 y1 y2 y3 y4 y5, LeO (impl_GrdOk.l0 k y0 y1 y2 y3 y4 y5) (impl_GrdOk.l0 (k + 1) y0 y1 y2 y3 y4 y5)) ∧ (∀ y0 y1 y2 y3 y4 y5 y6 y7 y8 y9 y10 y11 y12, LeO (impl_GrdOk.j2 k y0 y1 y2 y3 y4 y5 y6 y7 y8 y9 y10 y11 y12) (impl_GrdOk.j2 (k + 1) y0 y1 y2 y3 y4 y5 y6 y7 y8 y9 y10 y11 y12))
  | 0 => ⟨fun _ _ _ _ r h => by simp [impl_GrdOk.j0] at h, fun _ _ _ _ _ _ r h => by simp [impl_GrdOk.l0] at h, fun _ _ _ _ _ _ _ _ _ _ _ _ _ r h => by simp [impl_GrdOk.j2] at h⟩
  | k + 1 => by
    obtain ⟨ih0, ih1, ih2⟩ := impl_GrdOk.mono_l k
    refine ⟨?_, ?_, ?_⟩
    · intro y0 y1 y2 y3
      unfold impl_GrdOk.j0
      repeat' first
      | (with_reducible exact ih0 _ _ _ _)
      | (with_reducible exact ih1 _ _ _ _ _ _)
      | (with_reducible exact ih2 _ _ _ _ _ _ _ _ _ _ _ _ _)
      | (with_reducible exact impl_ccells.mono _ _ _ _ _ _ _)
      | (with_reducible exact LeO.refl _)
      | (with_reducible exact LeO.none _)
      | (with_reducible refine LeO.ite ?_ ?_)
      | (with_reducible refine LeO.bind ?_ (fun _ => ?_))
      | exact ih0 _ _ _ _
      | exact ih1 _ _ _ _ _ _
      | exact ih2 _ _ _ _ _ _ _ _ _ _ _ _ _
      | exact impl_ccells.mono _ _ _ _ _ _ _
      | exact LeO.none _
      | refine LeO.ite ?_ ?_
      | refine LeO.bind ?_ (fun _ => ?_)
    · intro y0 y1 y2 y3 y4 y5
      unfold impl_GrdOk.l0
      repeat' first
      | (with_reducible exact ih0 _ _ _ _)
      | (with_reducible exact ih1 _ _ _ _ _ _)
      | (with_reducible exact ih2 _ _ _ _ _ _ _ _ _ _ _ _ _)
      | (with_reducible exact impl_ccells.mono _ _ _ _ _ _ _)
      | (with_reducible exact LeO.refl _)
      | (with_reducible exact LeO.none _)
      | (with_reducible refine LeO.ite ?_ ?_)
      | (with_reducible refine LeO.bind ?_ (fun _ => ?_))
      | exact ih0 _ _ _ _
      | exact ih1 _ _ _ _ _ _
      | exact ih2 _ _ _ _ _ _ _ _ _ _ _ _ _
      | exact impl_ccells.mono _ _ _ _ _ _ _
      | exact LeO.none _
      | refine LeO.ite ?_ ?_
      | refine LeO.bind ?_ (fun _ => ?_)
    · intro y0 y1 y2 y3 y4 y5 y6 y7 y8 y9 y10 y11 y12
      unfold impl_GrdOk.j2
      repeat' first
      | (with_reducible exact ih0 _ _ _ _)
      | (with_reducible exact ih1 _ _ _ _ _ _)
      | (with_reducible exact ih2 _ _ _ _ _ _ _ _ _ _ _ _ _)
      | (with_reducible exact impl_ccells.mono _ _ _ _ _ _ _)
      | (with_reducible exact LeO.refl _)
      | (with_reducible exact LeO.none _)
      | (with_reducible refine LeO.ite ?_ ?_)
      | (with_reducible refine LeO.bind ?_ (fun _ => ?_))
      | exact ih0 _ _ _ _
      | exact ih1 _ _ _ _ _ _
      | exact ih2 _ _ _ _ _ _ _ _ _ _ _ _ _
      | exact impl_ccells.mono _ _ _ _ _ _ _
      | exact LeO.none _
      | refine LeO.ite ?_ ?_
      | refine LeO.bind ?_ (fun _ => ?_)
theorem impl_GrdOk.mono : ∀ a0 a1 a2 k, LeO (impl_GrdOk.f k a0 a1 a2) (impl_GrdOk.f (k + 1) a0 a1 a2) := by
  intro a0 a1 a2 k
  obtain ⟨ih0, ih1, ih2⟩ := impl_GrdOk.mono_l k
  unfold impl_GrdOk.f
  repeat' first
      | (with_reducible exact ih0 _ _ _ _)
      | (with_reducible exact ih1 _ _ _ _ _ _)
      | (with_reducible exact ih2 _ _ _ _ _ _ _ _ _ _ _ _ _)
      | (with_reducible exact impl_ccells.mono _ _ _ _ _ _ _)
      | (with_reducible exact LeO.refl _)
      | (with_reducible exact LeO.none _)
      | (with_reducible refine LeO.ite ?_ ?_)
      | (with_reducible refine LeO.bind ?_ (fun _ => ?_))
      | exact ih0 _ _ _ _
      | exact ih1 _ _ _ _ _ _
      | exact ih2 _ _ _ _ _ _ _ _ _ _ _ _ _
      | exact impl_ccells.mono _ _ _ _ _ _ _
      | exact LeO.none _
      | refine LeO.ite ?_ ?_
      | refine LeO.bind ?_ (fun _ => ?_)
def impl_GrdOk.T8 : Bool × List (List Nat × List Nat) := (true, [([], []), ([0], [0]), ([1], [1]), ([2], [2]), ([3, 2], [3]), ([4], [4]), ([5, 4], [4, 5]), ([4], [4]), ([6, 7, 4], [4, 6, 7]), ([4], [4]), ([9, 4], [4, 9]), ([8, 10, 4, 4], [4, 8, 10]), ([4, 11], [4, 11])])
def impl_GrdOk.B8 : List Nat := [0, 1, 3, 7, 15, 31, 63, 31, 255, 31, 543, 2047, 4095]
theorem impl_GrdOk.tab8 : rtab .any (opsOf Tryd.f12 8) = impl_GrdOk.T8 := by kernel_rfl
theorem impl_GrdOk.bits8 : waitsOk impl_GrdOk.T8.2 impl_GrdOk.B8 = true := by kernel_rfl
theorem impl_GrdOk.step {k : Nat} {i a b : Int} {l : List S29} {r : Bool} (hi : i < (l.length : Int)) (h : impl_GrdOk.l0 (k + 1) l (l.length : Int) i a b l = some r) :
    0 ≤ i ∧ ∃ x, x = rd_T29 l i ∧
    ((r = false ∧ (Aside0 (impl_in.f x.f0 0 (wrap64 (a - 1)) = some false) ∨ (Aside0 (impl_in.f x.f0 0 (wrap64 (a - 1)) = some true) ∧ Aside0 (impl_in.f x.f2 1 (wrap64 (a - x.f0)) = some false)) ∨
      (Aside0 (impl_in.f x.f0 0 (wrap64 (a - 1)) = some true) ∧ Aside0 (impl_in.f x.f2 1 (wrap64 (a - x.f0)) = some true) ∧ Aside0 (impl_in.f x.f1 0 (wrap64 (b - 1)) = some false)) ∨
      (Aside0 (impl_in.f x.f0 0 (wrap64 (a - 1)) = some true) ∧ Aside0 (impl_in.f x.f2 1 (wrap64 (a - x.f0)) = some true) ∧ Aside0 (impl_in.f x.f1 0 (wrap64 (b - 1)) = some true) ∧ Aside0 (impl_in.f x.f3 1 (wrap64 (b - x.f1)) = some false)))) ∨
    (Aside0 (impl_in.f x.f0 0 (wrap64 (a - 1)) = some true) ∧ Aside0 (impl_in.f x.f2 1 (wrap64 (a - x.f0)) = some true) ∧ Aside0 (impl_in.f x.f1 0 (wrap64 (b - 1)) = some true) ∧ Aside0 (impl_in.f x.f3 1 (wrap64 (b - x.f1)) = some true) ∧
      ((r = false ∧ Aside0 (impl_in.f x.f4 0 4 = some false)) ∨ (Aside0 (impl_in.f x.f4 0 4 = some true) ∧ ∃ q t, q < k ∧ Aside0 (impl_ccells.f q (l.take i.toNat) x.f0 x.f1 x.f2 x.f3 x.f4 = some t) ∧ ((t = true ∧ r = false) ∨ (t = false ∧ Aside0 (impl_GrdOk.l0 q l (l.length : Int) (wrap64 (i + 1)) a b l = some r))))))) := by
  have bad : ∀ y0 y1 y2 y3 y4, impl_GrdOk.j2 k i l (l.length : Int) i true a b l y0 y1 y2 y3 y4 = some r → r = false := by
    intro _ _ _ _ _ h
    cases k with
    | zero => unfold impl_GrdOk.j2 at h; cases h
    | succ k =>
      simp only [impl_GrdOk.j2, if_true] at h
      exact (Option.some.inj h).symm
  simp only [impl_GrdOk.l0] at h
  rw [if_pos hi] at h
  split at h
  · rename_i h0
    refine ⟨h0, _, rfl, ?_⟩
    first | rw [if_pos hi, Option.bind_eq_some_iff] at h | rw [Option.bind_eq_some_iff] at h
    obtain ⟨t1, h1, h⟩ := h
    cases t1
    · exact .inl ⟨bad _ _ _ _ _ h, .inl ⟨h1⟩⟩
    · rw [if_pos rfl, Option.bind_eq_some_iff] at h
      obtain ⟨t2, h2, h⟩ := h
      cases t2
      · exact .inl ⟨bad _ _ _ _ _ h, .inr (.inl ⟨⟨h1⟩, ⟨h2⟩⟩)⟩
      · rw [if_pos rfl, Option.bind_eq_some_iff] at h
        obtain ⟨t3, h3, h⟩ := h
        cases t3
        · exact .inl ⟨bad _ _ _ _ _ h, .inr (.inr (.inl ⟨⟨h1⟩, ⟨h2⟩, ⟨h3⟩⟩))⟩
        · rw [if_pos rfl, Option.bind_eq_some_iff] at h
          obtain ⟨t4, h4, h⟩ := h
          cases t4
          · exact .inl ⟨bad _ _ _ _ _ h, .inr (.inr (.inr ⟨⟨h1⟩, ⟨h2⟩, ⟨h3⟩, ⟨h4⟩⟩))⟩
          · refine .inr ⟨⟨h1⟩, ⟨h2⟩, ⟨h3⟩, ⟨h4⟩, ?_⟩
            cases k with
            | zero => unfold impl_GrdOk.j2 at h; cases h
            | succ k =>
              simp only [impl_GrdOk.j2, Bool.not_true, Bool.false_eq_true, if_false] at h
              rw [Option.bind_eq_some_iff] at h
              obtain ⟨t5, h5, h⟩ := h
              cases t5
              · exact .inl ⟨(Option.some.inj h).symm, ⟨h5⟩⟩
              · rw [if_pos rfl, if_pos h0, if_pos (Int.le_of_lt hi), Option.bind_eq_some_iff] at h
                obtain ⟨t6, h6, h⟩ := h
                refine .inr ⟨⟨h5⟩, k, t6, Nat.lt_succ_self _, ⟨h6⟩, ?_⟩
                cases t6
                · exact .inr ⟨rfl, ⟨h⟩⟩
                · exact .inl ⟨rfl, (Option.some.inj h).symm⟩
  · cases h
theorem impl_GrdOk.parts {k : Nat} {a b : Int} {l : List S29} {r : Bool} (h : impl_GrdOk.f k a b l = some r) :
    (r = false ∧ (Aside0 (impl_in.f a 1 8 = some false) ∨ (Aside0 (impl_in.f a 1 8 = some true) ∧ Aside0 (impl_in.f b 1 94 = some false)) ∨ (Aside0 (impl_in.f a 1 8 = some true) ∧ Aside0 (impl_in.f b 1 94 = some true) ∧ 40 < (l.length : Int)))) ∨
    (Aside0 (impl_in.f a 1 8 = some true) ∧ Aside0 (impl_in.f b 1 94 = some true) ∧ (l.length : Int) ≤ 40 ∧ ∃ q, Aside0 (impl_GrdOk.l0 q l (l.length : Int) 0 a b l = some r)) := by
  have bad : impl_GrdOk.j0 k true a b l = some r → r = false := by
    intro h
    cases k with
    | zero => unfold impl_GrdOk.j0 at h; cases h
    | succ k =>
      simp only [impl_GrdOk.j0, if_true] at h
      exact (Option.some.inj h).symm
  unfold impl_GrdOk.f at h
  rw [Option.bind_eq_some_iff] at h
  obtain ⟨t1, h1, h⟩ := h
  cases t1
  · exact .inl ⟨bad h, .inl ⟨h1⟩⟩
  · rw [if_pos rfl, Option.bind_eq_some_iff] at h
    obtain ⟨t2, h2, h⟩ := h
    cases t2
    · exact .inl ⟨bad h, .inr (.inl ⟨⟨h1⟩, ⟨h2⟩⟩)⟩
    · rw [if_pos rfl] at h
      by_cases hl : (l.length : Int) > 40
      · rw [decide_eq_true hl] at h
        exact .inl ⟨bad h, .inr (.inr ⟨⟨h1⟩, ⟨h2⟩, hl⟩)⟩
      · rw [decide_eq_false hl] at h
        refine .inr ⟨⟨h1⟩, ⟨h2⟩, by omega, ?_⟩
        cases k with
        | zero => unfold impl_GrdOk.j0 at h; cases h
        | succ k =>
          simp only [impl_GrdOk.j0, Bool.false_eq_true, if_false] at h
          exact ⟨k, ⟨h⟩⟩
theorem gk_cells (A : Option Addr) (n c : Nat) (l : List S29) (x0 x1 x2 x3 x4 : Int) (t : Bool) (W : World) (hr : Kd.C k29 W A l.length l) (hn : n ≤ l.length) (hc : l.length ≤ c) {q : Nat} (h : impl_ccells.f q (l.take n) x0 x1 x2 x3 x4 = some t) :
    Calls Tryd.prog 23 #[.slice A n c, .func (.func 15) #[.agg #[.int .i64 x0, .int .i64 x1, .int .i64 x2, .int .i64 x3, .int .i64 x4]] #[]] W fun e w' => e = .returned (.bool t) ∧ Below W.heap.size W w' := by
  have hl : (l.take n).length = n := by rw [List.length_take]; omega
  have := impl_ccells.calls q A c (l.take n) x0 x1 x2 x3 x4 t W (Kd.C_take hr hn) (by omega) h
  rwa [hl] at this
set_option maxHeartbeats 4000000 in
set_option maxRecDepth 100000 in
theorem impl_GrdOk.calls (k : Nat) (a0_0 : Int) (a0_1 : Int) (A0_2 : Option Addr) (c0_2 : Nat) (l0_2 : List S29) (r : Bool) (w : World) (hr0_2 : Kd.C k29 w A0_2 l0_2.length l0_2) (hc0_2 : l0_2.length ≤ c0_2) (h : impl_GrdOk.f k a0_0 a0_1 l0_2 = some r) :
    Calls Tryd.prog 12 #[.agg #[.int .i64 a0_0, .int .i64 a0_1, .slice A0_2 l0_2.length c0_2]] w fun e w' => e = .returned (.bool r) ∧ Below w.heap.size w w' := by
  have HR := Aside0.mk hr0_2
  have HC := Aside0.mk hc0_2
  have hbig := hr0_2.2.1
  clear hr0_2 hc0_2
  have hu1 := Tryd.underlying25
  have hu2 := Tryd.underlying29
  rcases impl_GrdOk.parts h with ⟨rfl, A1 | ⟨A1, A2⟩ | ⟨A1, A2, hl⟩⟩ | ⟨A1, A2, hl, q, AL⟩
  iterate 3
    · clear h
      go_enter Tryd.func12, Tryd.ntmps12
      go_wp2_with (go_at_call 13; (first | (with_reducible refine (impl_in.calls _ _ _ _ _ A1.out).mono ?_) | (with_reducible refine (impl_in.calls _ _ _ _ _ A2.out).mono ?_)); rintro e W' ⟨rfl, ⟨nd, rfl⟩⟩)
      go_ret
      exact ⟨rfl, by repeat (with_reducible first | exact Below.refl _ _ | apply below_alloc | apply pw_below_drewN | apply below_drew1)⟩
  clear h
  go_enter Tryd.func12, Tryd.ntmps12
  go_wp2_with (go_at_call 13; (first | (with_reducible refine (impl_in.calls _ _ _ _ _ A1.out).mono ?_) | (with_reducible refine (impl_in.calls _ _ _ _ _ A2.out).mono ?_)); rintro e W' ⟨rfl, ⟨nd, rfl⟩⟩)
  go_loopg [24] q (fun gg s24 wr => ∃ (q' : Nat) (i : Int), q' ≤ gg ∧ s24 = .int .i64 i ∧ Aside0 (impl_GrdOk.l0 q' l0_2 (l0_2.length : Int) i a0_0 a0_1 l0_2 = some r) ∧ Aside0 (wr.heap[w.heap.size]? = some (.cells #[.int .i64 a0_0, .int .i64 a0_1, .slice A0_2 l0_2.length c0_2] 25 (0, 0))) ∧ Aside0 (Below w.heap.size w wr))
  case atStart => exact ⟨q, 0, Nat.le_refl _, rfl, AL, ⟨by (with_reducible repeat (first | refine blk_drewN ?_ _ | refine blk_drew ?_)); exact blk_new w _⟩, ⟨by repeat (with_reducible first | exact Below.refl _ _ | apply below_alloc | apply pw_below_drewN | apply below_drew1)⟩⟩
  case round =>
    obtain ⟨q', i, hq, rfl, HL, HG, HB⟩ := hrel
    cases q' with
    | zero => exact absurd HL.out (by simp [impl_GrdOk.l0])
    | succ q' =>
      by_cases hlt : i < (l0_2.length : Int)
      · obtain ⟨h0, x, hx, hs⟩ := impl_GrdOk.step hlt HL.out
        obtain ⟨ad, hA, p0, p1, p2, p3, p4⟩ := at_T29 (Kd.C_below HR.out HB.out) i h0 hlt
        rw [← hx] at p0 p1 p2 p3 p4
        have hz : (0 : Int) ≤ (l0_2.length : Int) := by omega
        have hle : i ≤ (l0_2.length : Int) := by omega
        have hcap : (l0_2.length : Int) ≤ (c0_2 : Int) := by have := HC.out; omega
        have HX := Aside0.mk hx
        clear hx HL AL
        subst hA
        obtain ⟨n, rfl⟩ : ∃ n : Nat, i = n := ⟨i.toNat, by omega⟩
        rw [Int.toNat_natCast] at hs p0 p1 p2 p3 p4
        have HNL : Aside0 (n ≤ l0_2.length) := ⟨by omega⟩
        have g0 : wr.cell? ⟨w.heap.size, 0, none⟩ = some (.int .i64 a0_0) := (blk_cell HG.out 0).trans rfl
        have g1 : wr.cell? ⟨w.heap.size, 1, none⟩ = some (.int .i64 a0_1) := (blk_cell HG.out 1).trans rfl
        have n0 := alloc_cell HG.out
        have HN := Aside0.mk (blk_new wr (.cells (gcA x.f0 x.f1 x.f2 x.f3 x.f4) 29))
        replace HG := Aside0.mk (blk_alloc HG.out (.cells (gcA x.f0 x.f1 x.f2 x.f3 x.f4) 29))
        replace HB := Aside0.mk (below_alloc HB.out (.cells (gcA x.f0 x.f1 x.f2 x.f3 x.f4) 29))
        rcases hs with ⟨rfl, B1 | ⟨B1, B2⟩ | ⟨B1, B2, B3⟩ | ⟨B1, B2, B3, B4⟩⟩ | ⟨B1, B2, B3, B4, ⟨rfl, B5⟩ | ⟨B5, q2, t, hq2, B6, ⟨rfl, rfl⟩ | ⟨rfl, AL⟩⟩⟩
        iterate 4
          · go_wp2_with (go_at_call 13; (first | (with_reducible refine (impl_in.calls _ _ _ _ _ B1.out).mono ?_) | (with_reducible refine (impl_in.calls _ _ _ _ _ B2.out).mono ?_) | (with_reducible refine (impl_in.calls _ _ _ _ _ B3.out).mono ?_) | (with_reducible refine (impl_in.calls _ _ _ _ _ B4.out).mono ?_)); rintro e W' ⟨rfl, ⟨nd, rfl⟩⟩)
            go_ret
            exact ⟨rfl, by (repeat (with_reducible first | apply pw_below_drewN | apply below_drew1)); exact HB.out⟩
        iterate 2
          · go_wp2_with (go_at_call 13; (first | (with_reducible refine (impl_in.calls _ _ _ _ _ B1.out).mono ?_) | (with_reducible refine (impl_in.calls _ _ _ _ _ B2.out).mono ?_) | (with_reducible refine (impl_in.calls _ _ _ _ _ B3.out).mono ?_) | (with_reducible refine (impl_in.calls _ _ _ _ _ B4.out).mono ?_)); rintro e W' ⟨rfl, ⟨nd, rfl⟩⟩)
            refine wp_letter (fun W0 => W0.heap[w.heap.size]? = some (.cells #[.int .i64 a0_0, .int .i64 a0_1, .slice (some ad) l0_2.length c0_2] 25 (0, 0)) ∧ W0.heap[wr.heap.size]? = some (.cells (gcA x.f0 x.f1 x.f2 x.f3 x.f4) 29 (0, 0)) ∧ Below w.heap.size w W0) ⟨HG.out, HN.out, pw_below_drewN HB.out _⟩ ?_
            clear HG HN HB p0 p1 p2 p3 p4 g0 g1 n0
            intro W0 hW
            have HG := Aside0.mk hW.1
            have HN := Aside0.mk hW.2.1
            have HB := Aside0.mk hW.2.2
            clear hW
            obtain ⟨c0, c1, c2, c3, c4⟩ := gcA_cells HN.out
            have xc0 := Ext.cell c0
            have xc1 := Ext.cell c1
            have xc2 := Ext.cell c2
            have xc3 := Ext.cell c3
            have xc4 := Ext.cell c4
            have xg0 := Ext.cell ((blk_cell HG.out 0).trans rfl : _ = some (.int .i64 a0_0))
            have xg1 := Ext.cell ((blk_cell HG.out 1).trans rfl : _ = some (.int .i64 a0_1))
            have xg2 := Ext.cell ((blk_cell HG.out 2).trans rfl : _ = some (.slice (some ad) l0_2.length c0_2))
            clear c0 c1 c2 c3 c4
            refine region_ext (by kernel_rfl) (by kernel_rfl) ?_
            repeat (go_big_quiet_step (first | (go_at_call 13; first | exact Calls.ext0 (impl_in.calls _ _ _ _ _ B1.out) | exact Calls.ext0 (impl_in.calls _ _ _ _ _ B2.out) | exact Calls.ext0 (impl_in.calls _ _ _ _ _ B3.out) | exact Calls.ext0 (impl_in.calls _ _ _ _ _ B4.out) | exact Calls.ext0 (impl_in.calls _ _ _ _ _ B5.out)) | (go_at_call 23; exact Calls.ext (gk_cells _ _ _ _ _ _ _ _ _ _ _ (Kd.C_below HR.out (below_step HB.out (Ext.below _))) HNL.out HC.out B6.out))))
            refine wpQuiet_nil ?_
            rintro _ ⟨⟨W3, hb3⟩, rfl⟩
            clear xc0 xc1 xc2 xc3 xc4 xg0 xg1 xg2
            replace HG := Aside0.mk (blk_below HG.out hb3)
            replace HN := Aside0.mk (blk_below HN.out hb3)
            replace HB := Aside0.mk (below_step HB.out hb3)
            clear hb3
            go_wp2
            go_ret
            exact ⟨rfl, HB.out⟩
        go_wp2_with (go_at_call 13; (first | (with_reducible refine (impl_in.calls _ _ _ _ _ B1.out).mono ?_) | (with_reducible refine (impl_in.calls _ _ _ _ _ B2.out).mono ?_) | (with_reducible refine (impl_in.calls _ _ _ _ _ B3.out).mono ?_) | (with_reducible refine (impl_in.calls _ _ _ _ _ B4.out).mono ?_)); rintro e W' ⟨rfl, ⟨nd, rfl⟩⟩)
        refine wp_letter (fun W0 => W0.heap[w.heap.size]? = some (.cells #[.int .i64 a0_0, .int .i64 a0_1, .slice (some ad) l0_2.length c0_2] 25 (0, 0)) ∧ W0.heap[wr.heap.size]? = some (.cells (gcA x.f0 x.f1 x.f2 x.f3 x.f4) 29 (0, 0)) ∧ Below w.heap.size w W0) ⟨HG.out, HN.out, pw_below_drewN HB.out _⟩ ?_
        clear HG HN HB p0 p1 p2 p3 p4 g0 g1 n0
        intro W0 hW
        have HG := Aside0.mk hW.1
        have HN := Aside0.mk hW.2.1
        have HB := Aside0.mk hW.2.2
        clear hW
        obtain ⟨c0, c1, c2, c3, c4⟩ := gcA_cells HN.out
        have xc0 := Ext.cell c0
        have xc1 := Ext.cell c1
        have xc2 := Ext.cell c2
        have xc3 := Ext.cell c3
        have xc4 := Ext.cell c4
        have xg0 := Ext.cell ((blk_cell HG.out 0).trans rfl : _ = some (.int .i64 a0_0))
        have xg1 := Ext.cell ((blk_cell HG.out 1).trans rfl : _ = some (.int .i64 a0_1))
        have xg2 := Ext.cell ((blk_cell HG.out 2).trans rfl : _ = some (.slice (some ad) l0_2.length c0_2))
        clear c0 c1 c2 c3 c4
        refine region_ext (by kernel_rfl) (by kernel_rfl) ?_
        repeat (go_big_quiet_step (first | (go_at_call 13; first | exact Calls.ext0 (impl_in.calls _ _ _ _ _ B1.out) | exact Calls.ext0 (impl_in.calls _ _ _ _ _ B2.out) | exact Calls.ext0 (impl_in.calls _ _ _ _ _ B3.out) | exact Calls.ext0 (impl_in.calls _ _ _ _ _ B4.out) | exact Calls.ext0 (impl_in.calls _ _ _ _ _ B5.out)) | (go_at_call 23; exact Calls.ext (gk_cells _ _ _ _ _ _ _ _ _ _ _ (Kd.C_below HR.out (below_step HB.out (Ext.below _))) HNL.out HC.out B6.out))))
        refine wpQuiet_nil ?_
        rintro _ ⟨⟨W3, hb3⟩, rfl⟩
        clear xc0 xc1 xc2 xc3 xc4 xg0 xg1 xg2
        replace HG := Aside0.mk (blk_below HG.out hb3)
        replace HN := Aside0.mk (blk_below HN.out hb3)
        replace HB := Aside0.mk (below_step HB.out hb3)
        clear hb3
        go_wp2
        go_roundg q2
        case measure => omega
        case rel => exact ⟨q2, (n : Int) + 1, Nat.le_refl _, rfl, ⟨by rw [show ((n : Int) + 1) = wrap64 ((n : Int) + 1) by unfold wrap64; omega]; exact AL.out⟩, HG, HB⟩
      · have hl := HL.out
        simp only [impl_GrdOk.l0] at hl
        rw [if_neg hlt] at hl
        obtain rfl := Option.some.inj hl
        clear hl HL
        go_wp2
        go_ret
        exact ⟨rfl, HB.out⟩


end Go.Proofs.YtalnklnfiopaoabDoor.Q
