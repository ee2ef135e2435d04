-- Told by a program of this session (uprint.py, ulay.py).
import Derived.Test.YtalnklnfiopaoadDoorQ0
import Derived.Test.YtalnklnfiopaoadDoorQspecl1In
import Derived.Test.YtalnklnfiopaoadDoorQspecl3Free
import Derived.Test.YtalnklnfiopaoadDoorQspecGrdOf
import Derived.Test.YtalnklnfiopaoadDoorQspecl20Grid
namespace Go.Proofs.YtalnklnfiopaoadDoor.Q
open Go.RowKit Go.Proofs.YtalnklnfiopaoadDoorW.PrintWords Go.Proofs.YtalnklnfiopaoadDoorW.PrintLast Go.Proofs.YtalnklnfiopaoadDoorW.PrintMore
attribute [local go_sem] max2_int min2_int max_two min_two max_three min_three max_four min_four
set_option linter.unusedVariables false
set_option linter.unusedSimpArgs false

/-! ### spec_DrawQrySlots: function 4 -/
def spec_DrawQrySlots.f (k : Nat) (l0 : List Int) : Option (Int × Int × (List (S41))) := (spec_l20Open.f l0).bind fun bt269 => ((spec_l20Grid.f k bt269.1 bt269.2 8).bind fun bt272 => (some (bt272.1, bt272.2.1, bt272.2.2.1)))
theorem spec_DrawQrySlots.mono : ∀ a0 k, LeO (spec_DrawQrySlots.f k a0) (spec_DrawQrySlots.f (k + 1) a0) := by
  intro a0 k
  unfold spec_DrawQrySlots.f
  repeat' first
      | (with_reducible exact spec_l20Grid.mono _ _ _ _)
      | (with_reducible exact LeO.refl _)
      | (with_reducible exact LeO.none _)
      | (with_reducible refine LeO.ite ?_ ?_)
      | (with_reducible refine LeO.bind ?_ (fun _ => ?_))
      | exact spec_l20Grid.mono _ _ _ _
      | exact LeO.none _
      | refine LeO.ite ?_ ?_
      | refine LeO.bind ?_ (fun _ => ?_)
set_option maxHeartbeats 8000000 in
set_option maxRecDepth 100000 in
theorem spec_DrawQrySlots.calls (k : Nat) (A0 : Option Addr) (c0 : Nat) (l0 : List Int) (r1 : Int) (r2 : Int) (r3 : List (S41)) (w : World) (hr0 : Kd.C (Kd.int .u8) w A0 l0.length l0) (hc0 : l0.length ≤ c0) (h : spec_DrawQrySlots.f k l0 = some (r1, r2, r3)) :
    Calls Tryd.prog 4 #[.slice A0 l0.length c0] w fun e w' => ∃ v2_ : Value, e = .returned (.agg #[.int .i64 r1, .int .i64 r2, v2_]) ∧ Kd.R k41 41 w' w.heap.size (fun _ => True) v2_ r3 ∧ Below w.heap.size w w' := by
  have hu25 := Tryd.underlying25
  have HR0 := Aside0.mk hr0
  have HC0 := Aside0.mk hc0
  clear hr0 hc0
  have HB := Aside0.mk (Below.refl w.heap.size w)
  have H : ((spec_l20Open.f l0).bind fun bt269 => ((spec_l20Grid.f k bt269.1 bt269.2 8).bind fun bt272 => (some (bt272.1, bt272.2.1, bt272.2.2.1)))) = some (r1, r2, r3) := h
  clear h
  replace H := Option.bind_eq_some_iff.mp H
  obtain ⟨⟨t269, t270⟩, A20, H⟩ := H
  replace H : ((spec_l20Grid.f k t269 t270 8).bind fun bt272 => (some (bt272.1, bt272.2.1, bt272.2.2.1))) = some (r1, r2, r3) := H
  have A2 := Aside0.mk A20
  clear A20
  replace H := Option.bind_eq_some_iff.mp H
  obtain ⟨⟨t272, t273, t274, t277⟩, A30, H⟩ := H
  replace H : (some (t272, t273, t274)) = some (r1, r2, r3) := H
  have A3 := Aside0.mk A30
  clear A30
  simp only [Option.some.injEq, Prod.mk.injEq] at H
  obtain ⟨rfl, rfl, rfl⟩ := H
  go_enter Tryd.func4, Tryd.ntmps4
  go_wp2_with (first | ((with_reducible refine gate_dst (N := 2) rfl ?_); refine box_event ?hg (N := 2) ?hd (cs := #[.int .i64 0, .int .i64 0, .slice none 0 0]) (t := 25) ?hr ?_; (case hd => rfl); (case hg => rfl); (case hr => first | (go_simp; done) | (go_simp; rfl)); intro gb268 hg w4 hbox hb; have n0_ := Aside0.mk (below_step (by repeat (first | (with_reducible first | exact HB.out | apply below_alloc | apply pw_below_drewN | apply below_drew1) | exact HB.out)) hb); have n1_ := Aside0.mk (hbox); have n2_ := Aside0.mk ((by rw [hg]; exact (below_size (by repeat (first | (with_reducible first | exact HB.out | apply below_alloc | apply pw_below_drewN | apply below_drew1) | exact HB.out))) : w.heap.size ≤ gb268)); have n3_ := Aside0.mk ((by rw [hg]; exact (below_size (by repeat (first | (with_reducible first | exact HB.out | apply below_alloc | apply pw_below_drewN | apply below_drew1) | exact HB.out))) : w.heap.size ≤ gb268)); clear HB; have HB := n0_; have BK268 := n1_; have GW268 := n2_; have GE268 := n3_; clear n0_ n1_ n2_ n3_; clear hb hbox hg) | ((with_reducible refine gate_callee (f := 13) rfl ?_); refine goesL_ (some 4) rfl rfl Tryd.func13 (by kernel_rfl) rfl #[.slice A0 l0.length c0] rfl (by (try simp only [List.map_toArray, List.map_cons, List.map_nil]); first | done | rfl | (simp only [List.length_drop, List.length_take]; rfl)) ?_; (with_reducible refine (spec_l20Open.calls _ _ l0 t269 t270 w _ ?side1 ?side2 ?side3 A2.out).mono ?_); (case side1 => repeat (first | (with_reducible first | exact HB.out | apply below_alloc | apply pw_below_drewN | apply below_drew1 | refine below_set ?_ GE268.out) | exact HB.out)); (case side2 => exact HR0.out); (case side3 => exact HC0.out); rintro e w5 ⟨g271, rfl, hi, hb, hb2⟩; refine ⟨_, rfl, ?_⟩; have n0_ := Aside0.mk (blk_below (g := gb268) (o := .cells #[.int .i64 0, .int .i64 0, .slice none 0 0] 25 (0, 0)) (by (with_reducible repeat (first | refine blk_drewN ?_ _ | refine blk_drew ?_ | refine blk_alloc ?_ _)); exact BK268.out) hb2); have n1_ := Aside0.mk (hb); have n2_ := Aside0.mk (hi); have n3_ := Aside0.mk (IsS56.ne_blk hi (blk_below (g := gb268) (o := .cells #[.int .i64 0, .int .i64 0, .slice none 0 0] 25 (0, 0)) (by (with_reducible repeat (first | refine blk_drewN ?_ _ | refine blk_drew ?_ | refine blk_alloc ?_ _)); exact BK268.out) hb2) (by decide)); have n4_ := Aside0.mk (Ne.symm (IsS56.ne_blk hi (blk_below (g := gb268) (o := .cells #[.int .i64 0, .int .i64 0, .slice none 0 0] 25 (0, 0)) (by (with_reducible repeat (first | refine blk_drewN ?_ _ | refine blk_drew ?_ | refine blk_alloc ?_ _)); exact BK268.out) hb2) (by decide))); clear BK268; clear HB; have BK268 := n0_; have HB := n1_; have HI271 := n2_; have NB271_268 := n3_; have NB268_271 := n4_; clear n0_ n1_ n2_ n3_ n4_; (try clear hb); (try clear hb2); (try clear hk); (try clear hi)) | ((with_reducible refine gate_callee (f := 12) rfl ?_); refine goesL_ (some 5) rfl rfl Tryd.func12 (by kernel_rfl) rfl #[.pointer (some ⟨g271, 0, none⟩), .int .i64 8] rfl (by (try simp only [List.map_toArray, List.map_cons, List.map_nil]); first | done | rfl | (simp only [List.length_drop, List.length_take]; rfl)) ?_; (with_reducible refine (spec_l20Grid.calls k g271 t269 t270 8 t272 t273 t274 t277 w _ ?side1 ?side2 A3.out).mono ?_); (case side1 => repeat (first | (with_reducible first | exact HI271.out | apply IsS56.alloc | apply IsS56.drewN | apply IsS56.drew | apply IsS56.set_1 | refine IsS56.far ?_ NB271_268.out _) | exact HI271.out)); (case side2 => repeat (first | (with_reducible first | exact HB.out | apply below_alloc | apply pw_below_drewN | apply below_drew1 | refine below_set ?_ (IsS56.ge HI271.out) | refine below_set ?_ GE268.out) | exact HB.out)); rintro e w6 ⟨v275, rfl, ho0, hi, hb, hk⟩; refine ⟨_, rfl, ?_⟩; have n0_ := Aside0.mk (KeepBut.blk hk (g' := gb268) (o := .cells #[.int .i64 0, .int .i64 0, .slice none 0 0] 25 (0, 0)) (by (with_reducible repeat (first | refine blk_drewN ?_ _ | refine blk_drew ?_ | refine blk_alloc ?_ _)); exact BK268.out) NB268_271.out (by simp)); have n1_ := Aside0.mk (Kd.R_lower ho0 (below_size (by repeat (first | (with_reducible first | exact HB.out | apply below_alloc | apply pw_below_drewN | apply below_drew1 | refine below_set ?_ (IsS56.ge HI271.out) | refine below_set ?_ GE268.out) | exact HB.out)))); have n2_ := Aside0.mk (hb); have n3_ := Aside0.mk (hi); clear BK268; clear HB; clear HI271; have BK268 := n0_; have HO276 := n1_; have HB := n2_; have HI271 := n3_; clear n0_ n1_ n2_ n3_; (try clear hb); (try clear hb2); (try clear hk); (try clear hi); (try clear ho0); have hnb7 := NB268_271.out; have hnc7 := NB271_268.out; have hcz8_0 : w6.cell? ⟨gb268, 0, none⟩ = some (.int .i64 0) := (blk_cell BK268.out 0).trans rfl; have hcz8_1 : w6.cell? ⟨gb268, 1, none⟩ = some (.int .i64 0) := (blk_cell BK268.out 1).trans rfl; have hcz8_2 : w6.cell? ⟨gb268, 2, none⟩ = some (.slice none 0 0) := (blk_cell BK268.out 2).trans rfl; have hfz8_0 := blk_frozen BK268.out 0; have hfz8_1 := blk_frozen BK268.out 1; have hfz8_2 := blk_frozen BK268.out 2; obtain ⟨Ao9, co9, eo9⟩ := Kd.R_slice HO276.out; subst eo9))
  refine bodyPost_ret (results_cell_row rfl _ _ gb268 25 #[.int .i64 t272, .int .i64 t273, .slice Ao9 t274.length co9] (0, 0) _ rfl (by (with_reducible repeat (first | refine blk_drewN ?_ _ | refine blk_drew ?_ | refine blk_alloc ?_ _)); refine blk_put (cs := #[.int .i64 t272, .int .i64 t273, .slice none 0 0]) ?_ 2 _ rfl; (with_reducible repeat (first | refine blk_drewN ?_ _ | refine blk_drew ?_ | refine blk_alloc ?_ _)); refine blk_put (cs := #[.int .i64 t272, .int .i64 0, .slice none 0 0]) ?_ 1 _ rfl; (with_reducible repeat (first | refine blk_drewN ?_ _ | refine blk_drew ?_ | refine blk_alloc ?_ _)); refine blk_put (cs := #[.int .i64 0, .int .i64 0, .slice none 0 0]) ?_ 0 _ rfl; (with_reducible repeat (first | refine blk_drewN ?_ _ | refine blk_drew ?_ | refine blk_alloc ?_ _)); exact BK268.out) Tryd.underlying25 rfl (by kernel_rfl)) rfl ?_
  exact ⟨_, by first | rfl | (simp [errW_none, errW_some] <;> rfl) | (simp [*, errW_none, errW_some] <;> rfl), by (with_reducible repeat (first | apply Kd.R_alloc | apply Kd.R_drewN | apply Kd.R_drew)); exact Kd.R_mono (Kd.R_far (p := ⟨gb268, 2, none⟩) (Kd.R_far (p := ⟨gb268, 1, none⟩) (Kd.R_far (p := ⟨gb268, 0, none⟩) (Kd.R_types HO276.out BK268.out (by decide)) (fun _ hk => hk.2) (.int .i64 t272)) (fun _ hk => hk.2) (.int .i64 t273)) (fun _ hk => hk.2) (.slice Ao9 t274.length co9)) (fun _ hk => trivial), by repeat (first | (with_reducible first | exact HB.out | apply below_alloc | apply pw_below_drewN | apply below_drew1 | refine below_set ?_ (IsS56.ge HI271.out) | refine below_set ?_ GE268.out) | exact HB.out)⟩

/-! ### spec_GrdOk: function 8 (by hand) -/

mutual
def spec_GrdOk.j0 : Nat → Bool → Int → Int → List (S41) → Option (Bool)
  | 0, _, _, _, _ => none
  | k + 1, x20, x279000, x279001, x279002 => if x20 = true then (some false) else (spec_GrdOk.l0 k 0 x279000 x279001 x279002)
def spec_GrdOk.l0 : Nat → Int → Int → Int → List (S41) → Option (Bool)
  | 0, _, _, _, _ => none
  | k + 1, x3, x279000, x279001, x279002 => if x3 < (x279002.length : Int) then (if 0 ≤ x3 then ((spec_l1In.f ((rd_T41 x279002 x3).f0) 0 (wrap64 (x279000 - 1))).bind fun t283 => (if t283 = true then ((spec_l1In.f ((rd_T41 x279002 x3).f1) 0 (wrap64 (x279001 - 1))).bind fun t284 => (if t284 = true then ((spec_l1In.f ((rd_T41 x279002 x3).f2) 1 (wrap64 (x279000 - ((rd_T41 x279002 x3).f0)))).bind fun t285 => (if t285 = true then ((spec_l1In.f ((rd_T41 x279002 x3).f3) 1 (wrap64 (x279001 - ((rd_T41 x279002 x3).f1)))).bind fun t286 => (if t286 = true then ((spec_l1In.f ((rd_T41 x279002 x3).f4) 0 4).bind fun t287 => (if t287 = true then (if x3 ≤ (x279002.length : Int) then ((spec_l3Free.f k (x279002.take (x3 : Int).toNat) ((rd_T41 x279002 x3).f0) ((rd_T41 x279002 x3).f1) ((rd_T41 x279002 x3).f2) ((rd_T41 x279002 x3).f3) ((rd_T41 x279002 x3).f4)).bind fun t292 => (if t292 = true then (spec_GrdOk.l0 k (wrap64 (x3 + 1)) x279000 x279001 x279002) else (some false))) else (none)) else (some false))) else (some false))) else (some false))) else (some false))) else (some false))) else (none)) else (some true)
end
def spec_GrdOk.f (k : Nat) (a0_0 : Int) (a0_1 : Int) (l0_2 : List (S41)) : Option (Bool) := (spec_l1In.f a0_0 1 8).bind fun t279 => (if t279 = true then ((spec_l1In.f a0_1 1 94).bind fun t280 => (if t280 = true then (spec_GrdOk.j0 k (decide ((l0_2.length : Int) > 40)) a0_0 a0_1 l0_2) else (spec_GrdOk.j0 k true a0_0 a0_1 l0_2))) else (spec_GrdOk.j0 k true a0_0 a0_1 l0_2))
theorem spec_GrdOk.mono_l : ∀ k, (∀ y0 y1 y2 y3, LeO (spec_GrdOk.j0 k y0 y1 y2 y3) (spec_GrdOk.j0 (k + 1) y0 y1 y2 y3)) ∧ (∀ y0 y1 y2 y3, LeO (spec_GrdOk.l0 k y0 y1 y2 y3) (spec_GrdOk.l0 (k + 1) y0 y1 y2 y3))
  | 0 => ⟨fun _ _ _ _ r h => by simp [spec_GrdOk.j0] at h, fun _ _ _ _ r h => by simp [spec_GrdOk.l0] at h⟩
  | k + 1 => by
    obtain ⟨ih0, ih1⟩ := spec_GrdOk.mono_l k
    refine ⟨?_, ?_⟩
    · intro y0 y1 y2 y3
      unfold spec_GrdOk.j0
      repeat' first
      | (with_reducible exact ih0 _ _ _ _)
      | (with_reducible exact ih1 _ _ _ _)
      | (with_reducible exact spec_l3Free.mono _ _ _ _ _ _ _)
      | (with_reducible exact LeO.refl _)
      | (with_reducible exact LeO.none _)
      | (with_reducible refine LeO.ite ?_ ?_)
      | (with_reducible refine LeO.bind ?_ (fun _ => ?_))
      | exact ih0 _ _ _ _
      | exact ih1 _ _ _ _
      | exact spec_l3Free.mono _ _ _ _ _ _ _
      | exact LeO.none _
      | refine LeO.ite ?_ ?_
      | refine LeO.bind ?_ (fun _ => ?_)
    · intro y0 y1 y2 y3
      unfold spec_GrdOk.l0
      repeat' first
      | (with_reducible exact ih0 _ _ _ _)
      | (with_reducible exact ih1 _ _ _ _)
      | (with_reducible exact spec_l3Free.mono _ _ _ _ _ _ _)
      | (with_reducible exact LeO.refl _)
      | (with_reducible exact LeO.none _)
      | (with_reducible refine LeO.ite ?_ ?_)
      | (with_reducible refine LeO.bind ?_ (fun _ => ?_))
      | exact ih0 _ _ _ _
      | exact ih1 _ _ _ _
      | exact spec_l3Free.mono _ _ _ _ _ _ _
      | exact LeO.none _
      | refine LeO.ite ?_ ?_
      | refine LeO.bind ?_ (fun _ => ?_)
theorem spec_GrdOk.mono : ∀ a0 a1 a2 k, LeO (spec_GrdOk.f k a0 a1 a2) (spec_GrdOk.f (k + 1) a0 a1 a2) := by
  intro a0 a1 a2 k
  obtain ⟨ih0, ih1⟩ := spec_GrdOk.mono_l k
  unfold spec_GrdOk.f
  repeat' first
      | (with_reducible exact ih0 _ _ _ _)
      | (with_reducible exact ih1 _ _ _ _)
      | (with_reducible exact spec_l3Free.mono _ _ _ _ _ _ _)
      | (with_reducible exact LeO.refl _)
      | (with_reducible exact LeO.none _)
      | (with_reducible refine LeO.ite ?_ ?_)
      | (with_reducible refine LeO.bind ?_ (fun _ => ?_))
      | exact ih0 _ _ _ _
      | exact ih1 _ _ _ _
      | exact spec_l3Free.mono _ _ _ _ _ _ _
      | exact LeO.none _
      | refine LeO.ite ?_ ?_
      | refine LeO.bind ?_ (fun _ => ?_)
def spec_GrdOk.T7 : Bool × List (List Nat × List Nat) := (true, [([], []), ([0], [0]), ([], []), ([2], [2]), ([3], [3]), ([1, 4], [1, 4]), ([5], [5]), ([6, 5], [6]), ([7], [7]), ([8, 7], [7, 8]), ([7], [7]), ([10, 7], [7, 10]), ([11, 7], [7, 11]), ([9, 12, 7, 7], [7, 9, 12]), ([13, 7], [7, 13]), ([7, 14], [7, 14]), ([15, 13], [15]), ([16], [16]), ([17, 16], [16, 17]), ([16], [16]), ([19, 16], [16, 19]), ([16], [16]), ([21, 16], [16, 21]), ([20, 22, 16], [16, 20, 22]), ([18, 23, 16, 16], [16, 18, 23]), ([24, 16], [16, 24]), ([16, 25], [16, 25]), ([26, 24], [26]), ([27], [27]), ([28, 27], [27, 28]), ([27], [27]), ([30, 27], [27, 30]), ([27], [27]), ([32, 27], [27, 32]), ([31, 33, 27], [27, 31, 33]), ([29, 34, 27, 27], [27, 29, 34]), ([35, 27], [27, 35]), ([27, 36], [27, 36]), ([37, 35], [37]), ([38], [38]), ([39, 38], [38, 39]), ([40, 38, 38], [38, 40]), ([41, 38], [38, 41]), ([38, 42], [38, 42]), ([43, 41], [43]), ([44], [44]), ([45, 44], [44, 45]), ([44], [44]), ([46, 47, 44], [44, 46, 47]), ([44], [44]), ([48, 49, 44, 44], [44, 48, 49]), ([50, 44], [44, 50]), ([44, 51], [44, 51])])
def spec_GrdOk.B7 : List Nat := [0, 1, 0, 4, 12, 31, 63, 127, 255, 511, 255, 1279, 3327, 8191, 16383, 32767, 65535, 131071, 262143, 131071, 655359, 131071, 2228223, 7995391, 16777215, 33554431, 67108863, 134217727, 268435455, 536870911, 268435455, 1342177279, 268435455, 4563402751, 16374562815, 34359738367, 68719476735, 137438953471, 274877906943, 549755813887, 1099511627775, 2199023255551, 4398046511103, 8796093022207, 17592186044415, 35184372088831, 70368744177663, 35184372088831, 281474976710655, 35184372088831, 1125899906842623, 2251799813685247, 4503599627370495]
theorem spec_GrdOk.tab7 : rtab .any (opsOf Tryd.f8 7) = spec_GrdOk.T7 := by kernel_rfl
theorem spec_GrdOk.bits7 : waitsOk spec_GrdOk.T7.2 spec_GrdOk.B7 = true := by kernel_rfl
/-- Which test of a cell falls first, if one does. -/
theorem spec_GrdOk.step {k : Nat} {i a b : Int} {l : List S41} {r : Bool} (hi : i < (l.length : Int)) (h : spec_GrdOk.l0 (k + 1) i a b l = some r) :
    0 ≤ i ∧ ∃ x, x = rd_T41 l i ∧
    ((r = false ∧ (Aside0 (spec_l1In.f x.f0 0 (wrap64 (a - 1)) = some false) ∨ (Aside0 (spec_l1In.f x.f0 0 (wrap64 (a - 1)) = some true) ∧ Aside0 (spec_l1In.f x.f1 0 (wrap64 (b - 1)) = some false)) ∨
      (Aside0 (spec_l1In.f x.f0 0 (wrap64 (a - 1)) = some true) ∧ Aside0 (spec_l1In.f x.f1 0 (wrap64 (b - 1)) = some true) ∧ Aside0 (spec_l1In.f x.f2 1 (wrap64 (a - x.f0)) = some false)) ∨
      (Aside0 (spec_l1In.f x.f0 0 (wrap64 (a - 1)) = some true) ∧ Aside0 (spec_l1In.f x.f1 0 (wrap64 (b - 1)) = some true) ∧ Aside0 (spec_l1In.f x.f2 1 (wrap64 (a - x.f0)) = some true) ∧ Aside0 (spec_l1In.f x.f3 1 (wrap64 (b - x.f1)) = some false)) ∨
      (Aside0 (spec_l1In.f x.f0 0 (wrap64 (a - 1)) = some true) ∧ Aside0 (spec_l1In.f x.f1 0 (wrap64 (b - 1)) = some true) ∧ Aside0 (spec_l1In.f x.f2 1 (wrap64 (a - x.f0)) = some true) ∧ Aside0 (spec_l1In.f x.f3 1 (wrap64 (b - x.f1)) = some true) ∧ Aside0 (spec_l1In.f x.f4 0 4 = some false)))) ∨
    (Aside0 (spec_l1In.f x.f0 0 (wrap64 (a - 1)) = some true) ∧ Aside0 (spec_l1In.f x.f1 0 (wrap64 (b - 1)) = some true) ∧ Aside0 (spec_l1In.f x.f2 1 (wrap64 (a - x.f0)) = some true) ∧ Aside0 (spec_l1In.f x.f3 1 (wrap64 (b - x.f1)) = some true) ∧ Aside0 (spec_l1In.f x.f4 0 4 = some true) ∧
      ∃ t, Aside0 (spec_l3Free.f k (l.take i.toNat) x.f0 x.f1 x.f2 x.f3 x.f4 = some t) ∧ ((t = false ∧ r = false) ∨ (t = true ∧ Aside0 (spec_GrdOk.l0 k (wrap64 (i + 1)) a b l = some r))))) := by
  simp only [spec_GrdOk.l0] at h
  rw [if_pos hi] at h
  split at h
  · rename_i h0
    refine ⟨h0, _, rfl, ?_⟩
    rw [Option.bind_eq_some_iff] at h
    obtain ⟨t1, h1, h⟩ := h
    cases t1
    · exact .inl ⟨(Option.some.inj h).symm, .inl ⟨h1⟩⟩
    · rw [if_pos rfl, Option.bind_eq_some_iff] at h
      obtain ⟨t2, h2, h⟩ := h
      cases t2
      · exact .inl ⟨(Option.some.inj h).symm, .inr (.inl ⟨⟨h1⟩, ⟨h2⟩⟩)⟩
      · rw [if_pos rfl, Option.bind_eq_some_iff] at h
        obtain ⟨t3, h3, h⟩ := h
        cases t3
        · exact .inl ⟨(Option.some.inj h).symm, .inr (.inr (.inl ⟨⟨h1⟩, ⟨h2⟩, ⟨h3⟩⟩))⟩
        · rw [if_pos rfl, Option.bind_eq_some_iff] at h
          obtain ⟨t4, h4, h⟩ := h
          cases t4
          · exact .inl ⟨(Option.some.inj h).symm, .inr (.inr (.inr (.inl ⟨⟨h1⟩, ⟨h2⟩, ⟨h3⟩, ⟨h4⟩⟩)))⟩
          · rw [if_pos rfl, Option.bind_eq_some_iff] at h
            obtain ⟨t5, h5, h⟩ := h
            cases t5
            · exact .inl ⟨(Option.some.inj h).symm, .inr (.inr (.inr (.inr ⟨⟨h1⟩, ⟨h2⟩, ⟨h3⟩, ⟨h4⟩, ⟨h5⟩⟩)))⟩
            · rw [if_pos rfl, if_pos (Int.le_of_lt hi), Option.bind_eq_some_iff] at h
              obtain ⟨t6, h6, h⟩ := h
              refine .inr ⟨⟨h1⟩, ⟨h2⟩, ⟨h3⟩, ⟨h4⟩, ⟨h5⟩, t6, ⟨h6⟩, ?_⟩
              cases t6
              · exact .inl ⟨rfl, (Option.some.inj h).symm⟩
              · exact .inr ⟨rfl, ⟨h⟩⟩
  · cases h
theorem spec_GrdOk.parts {k : Nat} {a b : Int} {l : List S41} {r : Bool} (h : spec_GrdOk.f k a b l = some r) :
    (r = false ∧ (Aside0 (spec_l1In.f a 1 8 = some false) ∨ (Aside0 (spec_l1In.f a 1 8 = some true) ∧ Aside0 (spec_l1In.f b 1 94 = some false)) ∨ (Aside0 (spec_l1In.f a 1 8 = some true) ∧ Aside0 (spec_l1In.f b 1 94 = some true) ∧ 40 < (l.length : Int)))) ∨
    (Aside0 (spec_l1In.f a 1 8 = some true) ∧ Aside0 (spec_l1In.f b 1 94 = some true) ∧ (l.length : Int) ≤ 40 ∧ ∃ q, Aside0 (spec_GrdOk.l0 q 0 a b l = some r)) := by
  have bad : spec_GrdOk.j0 k true a b l = some r → r = false := by
    intro h
    cases k with
    | zero => unfold spec_GrdOk.j0 at h; cases h
    | succ k =>
      simp only [spec_GrdOk.j0, if_true] at h
      exact (Option.some.inj h).symm
  unfold spec_GrdOk.f at h
  rw [Option.bind_eq_some_iff] at h
  obtain ⟨t1, h1, h⟩ := h
  cases t1
  · exact .inl ⟨bad h, .inl ⟨h1⟩⟩
  · rw [if_pos rfl, Option.bind_eq_some_iff] at h
    obtain ⟨t2, h2, h⟩ := h
    cases t2
    · exact .inl ⟨bad h, .inr (.inl ⟨⟨h1⟩, ⟨h2⟩⟩)⟩
    · rw [if_pos rfl] at h
      by_cases hl : (l.length : Int) > 40
      · rw [decide_eq_true hl] at h
        exact .inl ⟨bad h, .inr (.inr ⟨⟨h1⟩, ⟨h2⟩, hl⟩)⟩
      · rw [decide_eq_false hl] at h
        refine .inr ⟨⟨h1⟩, ⟨h2⟩, by omega, ?_⟩
        cases k with
        | zero => unfold spec_GrdOk.j0 at h; cases h
        | succ k =>
          simp only [spec_GrdOk.j0, Bool.false_eq_true, if_false] at h
          exact ⟨k, ⟨h⟩⟩
theorem gk_free (A : Option Addr) (n c : Nat) (l : List S41) (x0 x1 x2 x3 x4 : Int) (t : Bool) (W : World) (hr : Kd.C k41 W A l.length l) (hn : n ≤ l.length) (hc : l.length ≤ c) {q : Nat} (h : spec_l3Free.f q (l.take n) x0 x1 x2 x3 x4 = some t) :
    Calls Tryd.prog 18 #[.slice A n c, .agg #[.int .i64 x0, .int .i64 x1, .int .i64 x2, .int .i64 x3, .int .i64 x4]] W fun e w' => e = .returned (.bool t) ∧ Below W.heap.size W w' := by
  have hl : (l.take n).length = n := by rw [List.length_take]; omega
  have hC : Kd.C k41 W A (l.take n).length (l.take n) := by
    refine ⟨rfl, by rw [hl]; exact Nat.le_trans hn hr.2.1, fun hp => ?_⟩
    rw [hl] at hp
    obtain ⟨ad, e, hcl⟩ := hr.2.2 (by omega)
    exact ⟨ad, e, fun j p hj => hcl j p (by
      rw [List.getElem?_take] at hj
      split at hj
      · exact hj
      · cases hj)⟩
  have := spec_l3Free.calls q A c (l.take n) x0 x1 x2 x3 x4 t W hC (by omega) h
  rwa [hl] at this
set_option maxHeartbeats 4000000 in
set_option maxRecDepth 100000 in
theorem spec_GrdOk.calls (k : Nat) (a0_0 : Int) (a0_1 : Int) (A0_2 : Option Addr) (c0_2 : Nat) (l0_2 : List (S41)) (r : Bool) (w : World) (hr0_2 : Kd.C k41 w A0_2 l0_2.length l0_2) (hc0_2 : l0_2.length ≤ c0_2) (h : spec_GrdOk.f k a0_0 a0_1 l0_2 = some r) :
    Calls Tryd.prog 8 #[.agg #[.int .i64 a0_0, .int .i64 a0_1, .slice A0_2 l0_2.length c0_2]] w fun e w' => e = .returned (.bool r) ∧ Below w.heap.size w w' := by
  have HR := Aside0.mk hr0_2
  have HC := Aside0.mk hc0_2
  have hbig := hr0_2.2.1
  clear hr0_2 hc0_2
  have hu1 := Tryd.underlying25
  have hu2 := Tryd.underlying41
  rcases spec_GrdOk.parts h with ⟨rfl, A1 | ⟨A1, A2⟩ | ⟨A1, A2, hl⟩⟩ | ⟨A1, A2, hl, q, AL⟩
  iterate 3
    · clear h
      go_enter Tryd.func8, Tryd.ntmps8
      go_wp2_with (go_at_call 17; (first | (with_reducible refine (spec_l1In.calls _ _ _ _ _ A1.out).mono ?_) | (with_reducible refine (spec_l1In.calls _ _ _ _ _ A2.out).mono ?_)); rintro e W' ⟨rfl, ⟨nd, rfl⟩⟩)
      go_ret
      exact ⟨rfl, by repeat (with_reducible first | exact Below.refl _ _ | apply below_alloc | apply pw_below_drewN | apply below_drew1)⟩
  clear h
  go_enter Tryd.func8, Tryd.ntmps8
  go_wp2_with (go_at_call 17; (first | (with_reducible refine (spec_l1In.calls _ _ _ _ _ A1.out).mono ?_) | (with_reducible refine (spec_l1In.calls _ _ _ _ _ A2.out).mono ?_)); rintro e W' ⟨rfl, ⟨nd, rfl⟩⟩)
  go_loopg [3] q (fun gg s3 wr => ∃ (q' : Nat) (i : Int), q' ≤ gg ∧ s3 = .int .i64 i ∧ Aside0 (spec_GrdOk.l0 q' i a0_0 a0_1 l0_2 = some r) ∧ Aside0 (wr.heap[w.heap.size]? = some (.cells #[.int .i64 a0_0, .int .i64 a0_1, .slice A0_2 l0_2.length c0_2] 25 (0, 0))) ∧ Aside0 (Below w.heap.size w wr))
  case atStart => exact ⟨q, 0, Nat.le_refl _, rfl, AL, ⟨by (with_reducible repeat (first | refine blk_drewN ?_ _ | refine blk_drew ?_)); exact blk_new w _⟩, ⟨by repeat (with_reducible first | exact Below.refl _ _ | apply below_alloc | apply pw_below_drewN | apply below_drew1)⟩⟩
  case round =>
    obtain ⟨q', i, hq, rfl, HL, HG, HB⟩ := hrel
    have g0 : wr.cell? ⟨w.heap.size, 0, none⟩ = some (.int .i64 a0_0) := (blk_cell HG.out 0).trans rfl
    have g1 : wr.cell? ⟨w.heap.size, 1, none⟩ = some (.int .i64 a0_1) := (blk_cell HG.out 1).trans rfl
    have g2 : wr.cell? ⟨w.heap.size, 2, none⟩ = some (.slice A0_2 l0_2.length c0_2) := (blk_cell HG.out 2).trans rfl
    cases q' with
    | zero => exact absurd HL.out (by simp [spec_GrdOk.l0])
    | succ q' =>
      by_cases hlt : i < (l0_2.length : Int)
      · obtain ⟨h0, x, hx, hs⟩ := spec_GrdOk.step hlt HL.out
        obtain ⟨ad, hA, p0, p1, p2, p3, p4⟩ := at_T41 (Kd.C_below HR.out HB.out) i h0 hlt
        rw [← hx] at p0 p1 p2 p3 p4
        have hz : (0 : Int) ≤ (l0_2.length : Int) := by omega
        have hle : i ≤ (l0_2.length : Int) := by omega
        have hcap : (l0_2.length : Int) ≤ (c0_2 : Int) := by have := HC.out; omega
        have HX := Aside0.mk hx
        clear hx HL AL
        subst hA
        obtain ⟨n, rfl⟩ : ∃ n : Nat, i = n := ⟨i.toNat, by omega⟩
        rw [Int.toNat_natCast] at hs p0 p1 p2 p3 p4
        have FR := Aside0.mk (fun (u : Ext (wr.alloc (.cells (gcA x.f0 x.f1 x.f2 x.f3 x.f4) 41))) (t : Bool) (ht : spec_l3Free.f q' (l0_2.take n) x.f0 x.f1 x.f2 x.f3 x.f4 = some t) => gk_free (some ad) n c0_2 l0_2 x.f0 x.f1 x.f2 x.f3 x.f4 t u.world (Kd.C_below HR.out (below_step (below_alloc HB.out _) u.below)) (by omega) (by omega) ht)
        go_wp2
        obtain ⟨c0, c1, c2, c3, c4⟩ := gcA_cells (blk_new wr (.cells (gcA x.f0 x.f1 x.f2 x.f3 x.f4) 41))
        have n0 := alloc_cell HG.out
        replace g0 := (n0 (.cells (gcA x.f0 x.f1 x.f2 x.f3 x.f4) 41) 0).trans g0
        replace g1 := (n0 (.cells (gcA x.f0 x.f1 x.f2 x.f3 x.f4) 41) 1).trans g1
        replace g2 := (n0 (.cells (gcA x.f0 x.f1 x.f2 x.f3 x.f4) 41) 2).trans g2
        replace HG := Aside0.mk (blk_alloc HG.out (.cells (gcA x.f0 x.f1 x.f2 x.f3 x.f4) 41))
        replace HB := Aside0.mk (below_alloc HB.out (.cells (gcA x.f0 x.f1 x.f2 x.f3 x.f4) 41))
        show Code.wp _ _ _ _ (wr.alloc (.cells (gcA x.f0 x.f1 x.f2 x.f3 x.f4) 41))
        obtain ⟨W0, hW0⟩ : ∃ W0, wr.alloc (.cells (gcA x.f0 x.f1 x.f2 x.f3 x.f4) 41) = W0 := ⟨_, rfl⟩
        rw [hW0] at c0 c1 c2 c3 c4 g0 g1 g2 FR HG HB ⊢
        clear hW0 p0 p1 p2 p3 p4 n0
        have xc := Ext.cell c0
        have xc1 := Ext.cell c1
        have xc2 := Ext.cell c2
        have xc3 := Ext.cell c3
        have xc4 := Ext.cell c4
        have xg := Ext.cell g0
        have xg1 := Ext.cell g1
        have xg2 := Ext.cell g2
        clear c0 c1 c2 c3 c4 g0 g1 g2
        have e1 : IntKind.i64.wrap (a0_0 - 1) = wrap64 (a0_0 - 1) := by simp [IntKind.wrap_i64, wrap64]
        have e2 : IntKind.i64.wrap (a0_1 - 1) = wrap64 (a0_1 - 1) := by simp [IntKind.wrap_i64, wrap64]
        have e3 : IntKind.i64.wrap (a0_0 - x.f0) = wrap64 (a0_0 - x.f0) := by simp [IntKind.wrap_i64, wrap64]
        have e4 : IntKind.i64.wrap (a0_1 - x.f1) = wrap64 (a0_1 - x.f1) := by simp [IntKind.wrap_i64, wrap64]
        rcases hs with ⟨rfl, B1 | ⟨B1, B2⟩ | ⟨B1, B2, B3⟩ | ⟨B1, B2, B3, B4⟩ | ⟨B1, B2, B3, B4, B5⟩⟩ | ⟨B1, B2, B3, B4, B5, t, B6, ⟨rfl, rfl⟩ | ⟨rfl, AL⟩⟩
        iterate 6
          · refine region_ext (by kernel_rfl) (by kernel_rfl) ?_
            repeat (go_big_quiet_step (first | (go_at_call 17; first | exact Calls.ext0 (spec_l1In.calls _ _ _ _ _ B1.out) | exact Calls.ext0 (spec_l1In.calls _ _ _ _ _ B2.out) | exact Calls.ext0 (spec_l1In.calls _ _ _ _ _ B3.out) | exact Calls.ext0 (spec_l1In.calls _ _ _ _ _ B4.out) | exact Calls.ext0 (spec_l1In.calls _ _ _ _ _ B5.out)) | (go_at_call 18; exact Calls.ext (FR.out _ _ B6.out))))
            refine wpQuiet_nil ?_
            rintro _ ⟨⟨W3, hb3⟩, rfl⟩
            go_wp2
            go_ret
            exact ⟨rfl, below_step HB.out hb3⟩
        refine region_ext (by kernel_rfl) (by kernel_rfl) ?_
        repeat (go_big_quiet_step (first | (go_at_call 17; first | exact Calls.ext0 (spec_l1In.calls _ _ _ _ _ B1.out) | exact Calls.ext0 (spec_l1In.calls _ _ _ _ _ B2.out) | exact Calls.ext0 (spec_l1In.calls _ _ _ _ _ B3.out) | exact Calls.ext0 (spec_l1In.calls _ _ _ _ _ B4.out) | exact Calls.ext0 (spec_l1In.calls _ _ _ _ _ B5.out)) | (go_at_call 18; exact Calls.ext (FR.out _ _ B6.out))))
        refine wpQuiet_nil ?_
        rintro _ ⟨⟨W3, hb3⟩, rfl⟩
        go_wp2
        go_roundg q'
        case measure => omega
        case rel => exact ⟨q', (n : Int) + 1, Nat.le_refl _, rfl, ⟨by rw [show ((n : Int) + 1) = wrap64 ((n : Int) + 1) by unfold wrap64; omega]; exact AL.out⟩, ⟨blk_below HG.out hb3⟩, ⟨below_step HB.out hb3⟩⟩
      · have hl := HL.out
        simp only [spec_GrdOk.l0] at hl
        rw [if_neg hlt] at hl
        obtain rfl := Option.some.inj hl
        clear hl HL
        go_wp2
        go_ret
        exact ⟨rfl, HB.out⟩

/-! ### impl_among: function 35 -/
def impl_among.f (a0 : Int) (a1 : Int) (a2 : Int) : Option (Bool) := if a0 ≥ a1 then (if a2 > 0 then (some (decide ((IntKind.u64.wrap ((IntKind.u64.wrap (a0)) - (IntKind.u64.wrap (a1)))) < (IntKind.u64.wrap (a2))))) else (some false)) else (some false)
set_option maxHeartbeats 8000000 in
set_option maxRecDepth 100000 in
theorem impl_among.calls (a0 : Int) (a1 : Int) (a2 : Int) (r : Bool) (w : World) (h : impl_among.f a0 a1 a2 = some r) :
    Calls Tryd.prog 35 #[.int .i64 a0, .int .i64 a1, .int .i64 a2] w fun e w' => e = .returned (.bool r) ∧ Drawn0 w w' := by
  have H : (if a0 ≥ a1 then (if a2 > 0 then (some (decide ((IntKind.u64.wrap ((IntKind.u64.wrap (a0)) - (IntKind.u64.wrap (a1)))) < (IntKind.u64.wrap (a2))))) else (some false)) else (some false)) = some r := h
  clear h
  by_cases c4 : a0 ≥ a1
  · rw [if_pos c4] at H
    have c4b0 : decide (a1 ≤ a0) = true := decide_eq_true c4
    clear c4
    by_cases c5 : a2 > 0
    · rw [if_pos c5] at H
      have c5b0 : decide (0 < a2) = true := decide_eq_true c5
      clear c5
      obtain rfl := Option.some.inj H
      go_enter Tryd.func35, Tryd.ntmps35
      go_wp2
      go_ret
      exact ⟨by first | rfl | (simp [IntKind.wrap_i64, wrap64]; done) | (simp; done) | (simp [*]; done), by repeat (first | exact Drawn0.refl _ | apply Drawn0.step)⟩
    · rw [if_neg c5] at H
      have c5b0 : decide (0 < a2) = false := decide_eq_false c5
      clear c5
      obtain rfl := Option.some.inj H
      go_enter Tryd.func35, Tryd.ntmps35
      go_wp2
      go_ret
      exact ⟨by first | rfl | (simp [IntKind.wrap_i64, wrap64]; done) | (simp; done) | (simp [*]; done), by repeat (first | exact Drawn0.refl _ | apply Drawn0.step)⟩
  · rw [if_neg c4] at H
    have c4b0 : decide (a1 ≤ a0) = false := decide_eq_false c4
    clear c4
    obtain rfl := Option.some.inj H
    go_enter Tryd.func35, Tryd.ntmps35
    go_wp2
    go_ret
    exact ⟨by first | rfl | (simp [IntKind.wrap_i64, wrap64]; done) | (simp; done) | (simp [*]; done), by repeat (first | exact Drawn0.refl _ | apply Drawn0.step)⟩

/-! ### impl_GrdCell_has: function 22 -/
def impl_GrdCell_has.f (a0_0 : Int) (a0_1 : Int) (a0_2 : Int) (a0_3 : Int) (a0_4 : Int) (a1 : Int) (a2 : Int) : Option (Bool) := (impl_among.f a1 a0_0 a0_2).bind fun t294 => (if t294 = true then ((impl_among.f a2 a0_1 a0_3).bind fun t295 => (some t295)) else (some false))
set_option maxHeartbeats 8000000 in
set_option maxRecDepth 100000 in
theorem impl_GrdCell_has.calls (a0_0 : Int) (a0_1 : Int) (a0_2 : Int) (a0_3 : Int) (a0_4 : Int) (a1 : Int) (a2 : Int) (r : Bool) (w : World) (h : impl_GrdCell_has.f a0_0 a0_1 a0_2 a0_3 a0_4 a1 a2 = some r) :
    Calls Tryd.prog 22 #[.agg #[.int .i64 a0_0, .int .i64 a0_1, .int .i64 a0_2, .int .i64 a0_3, .int .i64 a0_4], .int .i64 a1, .int .i64 a2] w fun e w' => e = .returned (.bool r) ∧ Below w.heap.size w w' := by
  have hu41 := Tryd.underlying41
  have HB := Aside0.mk (Below.refl w.heap.size w)
  have H : ((impl_among.f a1 a0_0 a0_2).bind fun t294 => (if t294 = true then ((impl_among.f a2 a0_1 a0_3).bind fun t295 => (some t295)) else (some false))) = some r := h
  clear h
  replace H := Option.bind_eq_some_iff.mp H
  obtain ⟨t294, A40, H⟩ := H
  replace H : (if t294 = true then ((impl_among.f a2 a0_1 a0_3).bind fun t295 => (some t295)) else (some false)) = some r := H
  have A4 := Aside0.mk A40
  clear A40
  by_cases c5 : t294 = true
  · subst c5
    have H1 : ((impl_among.f a2 a0_1 a0_3).bind fun t295 => (some t295)) = some r := by rw [if_pos rfl] at H; exact H
    clear H
    have H := H1
    clear H1
    replace H := Option.bind_eq_some_iff.mp H
    obtain ⟨t295, A60, H⟩ := H
    replace H : (some t295) = some r := H
    have A6 := Aside0.mk A60
    clear A60
    obtain rfl := Option.some.inj H
    go_enter Tryd.func22, Tryd.ntmps22
    go_wp2_with (first | ((with_reducible refine gate_dst (N := 3) rfl ?_); refine box_event ?hg (N := 3) ?hd (cs := #[.int .i64 a0_0, .int .i64 a0_1, .int .i64 a0_2, .int .i64 a0_3, .int .i64 a0_4]) (t := 41) ?hr ?_; (case hd => rfl); (case hg => rfl); (case hr => first | (go_simp; done) | (go_simp; rfl)); intro gb293 hg w7 hbox hb; have n0_ := Aside0.mk (below_step (by repeat (first | (with_reducible first | exact HB.out | apply below_alloc | apply pw_below_drewN | apply below_drew1) | exact HB.out)) hb); have n1_ := Aside0.mk (hbox); have n2_ := Aside0.mk ((by rw [hg]; exact (below_size (by repeat (first | (with_reducible first | exact HB.out | apply below_alloc | apply pw_below_drewN | apply below_drew1) | exact HB.out))) : w.heap.size ≤ gb293)); have n3_ := Aside0.mk ((by rw [hg]; exact (below_size (by repeat (first | (with_reducible first | exact HB.out | apply below_alloc | apply pw_below_drewN | apply below_drew1) | exact HB.out))) : w.heap.size ≤ gb293)); clear HB; have HB := n0_; have BK293 := n1_; have GW293 := n2_; have GE293 := n3_; clear n0_ n1_ n2_ n3_; clear hb hbox hg; have hcz8_0 : w7.cell? ⟨gb293, 0, none⟩ = some (.int .i64 a0_0) := (blk_cell BK293.out 0).trans rfl; have hcz8_1 : w7.cell? ⟨gb293, 1, none⟩ = some (.int .i64 a0_1) := (blk_cell BK293.out 1).trans rfl; have hcz8_2 : w7.cell? ⟨gb293, 2, none⟩ = some (.int .i64 a0_2) := (blk_cell BK293.out 2).trans rfl; have hcz8_3 : w7.cell? ⟨gb293, 3, none⟩ = some (.int .i64 a0_3) := (blk_cell BK293.out 3).trans rfl; have hcz8_4 : w7.cell? ⟨gb293, 4, none⟩ = some (.int .i64 a0_4) := (blk_cell BK293.out 4).trans rfl; have hfz8_0 := blk_frozen BK293.out 0; have hfz8_1 := blk_frozen BK293.out 1; have hfz8_2 := blk_frozen BK293.out 2; have hfz8_3 := blk_frozen BK293.out 3; have hfz8_4 := blk_frozen BK293.out 4) | ((with_reducible refine gate_callee (f := 35) rfl ?_); refine goesL_ (some 12) rfl rfl Tryd.func35 (by kernel_rfl) rfl #[.int .i64 a1, .int .i64 a0_0, .int .i64 a0_2] rfl (by (try simp only [List.map_toArray, List.map_cons, List.map_nil]); first | done | rfl | (simp only [List.length_drop, List.length_take]; rfl)) ?_; (with_reducible refine (impl_among.calls a1 a0_0 a0_2 true _ A4.out).mono ?_); rintro e w' ⟨rfl, ⟨nd, rfl⟩⟩; refine ⟨_, rfl, ?_⟩) | (go_at_call 35; (with_reducible refine (impl_among.calls a2 a0_1 a0_3 t295 _ A6.out).mono ?_); rintro e w' ⟨rfl, ⟨nd, rfl⟩⟩))
    go_ret
    exact ⟨by first | rfl | (simp [IntKind.wrap_i64, wrap64]; done) | (simp [errW_none, errW_some] <;> rfl) | (simp [*, errW_none, errW_some] <;> rfl), by repeat (first | (with_reducible first | exact HB.out | apply below_alloc | apply pw_below_drewN | apply below_drew1 | refine below_set ?_ GE293.out) | exact HB.out)⟩
  · replace c5 := Bool.eq_false_iff.mpr c5
    subst c5
    have H1 : (some false) = some r := by rw [if_neg (show ¬ (false = true) by decide)] at H; exact H
    clear H
    have H := H1
    clear H1
    obtain rfl := Option.some.inj H
    go_enter Tryd.func22, Tryd.ntmps22
    go_wp2_with (first | ((with_reducible refine gate_dst (N := 3) rfl ?_); refine box_event ?hg (N := 3) ?hd (cs := #[.int .i64 a0_0, .int .i64 a0_1, .int .i64 a0_2, .int .i64 a0_3, .int .i64 a0_4]) (t := 41) ?hr ?_; (case hd => rfl); (case hg => rfl); (case hr => first | (go_simp; done) | (go_simp; rfl)); intro gb293 hg w9 hbox hb; have n0_ := Aside0.mk (below_step (by repeat (first | (with_reducible first | exact HB.out | apply below_alloc | apply pw_below_drewN | apply below_drew1) | exact HB.out)) hb); have n1_ := Aside0.mk (hbox); have n2_ := Aside0.mk ((by rw [hg]; exact (below_size (by repeat (first | (with_reducible first | exact HB.out | apply below_alloc | apply pw_below_drewN | apply below_drew1) | exact HB.out))) : w.heap.size ≤ gb293)); have n3_ := Aside0.mk ((by rw [hg]; exact (below_size (by repeat (first | (with_reducible first | exact HB.out | apply below_alloc | apply pw_below_drewN | apply below_drew1) | exact HB.out))) : w.heap.size ≤ gb293)); clear HB; have HB := n0_; have BK293 := n1_; have GW293 := n2_; have GE293 := n3_; clear n0_ n1_ n2_ n3_; clear hb hbox hg; have hcz10_0 : w9.cell? ⟨gb293, 0, none⟩ = some (.int .i64 a0_0) := (blk_cell BK293.out 0).trans rfl; have hcz10_1 : w9.cell? ⟨gb293, 1, none⟩ = some (.int .i64 a0_1) := (blk_cell BK293.out 1).trans rfl; have hcz10_2 : w9.cell? ⟨gb293, 2, none⟩ = some (.int .i64 a0_2) := (blk_cell BK293.out 2).trans rfl; have hcz10_3 : w9.cell? ⟨gb293, 3, none⟩ = some (.int .i64 a0_3) := (blk_cell BK293.out 3).trans rfl; have hcz10_4 : w9.cell? ⟨gb293, 4, none⟩ = some (.int .i64 a0_4) := (blk_cell BK293.out 4).trans rfl; have hfz10_0 := blk_frozen BK293.out 0; have hfz10_1 := blk_frozen BK293.out 1; have hfz10_2 := blk_frozen BK293.out 2; have hfz10_3 := blk_frozen BK293.out 3; have hfz10_4 := blk_frozen BK293.out 4) | ((with_reducible refine gate_callee (f := 35) rfl ?_); refine goesL_ (some 12) rfl rfl Tryd.func35 (by kernel_rfl) rfl #[.int .i64 a1, .int .i64 a0_0, .int .i64 a0_2] rfl (by (try simp only [List.map_toArray, List.map_cons, List.map_nil]); first | done | rfl | (simp only [List.length_drop, List.length_take]; rfl)) ?_; (with_reducible refine (impl_among.calls a1 a0_0 a0_2 false _ A4.out).mono ?_); rintro e w' ⟨rfl, ⟨nd, rfl⟩⟩; refine ⟨_, rfl, ?_⟩))
    go_ret
    exact ⟨by first | rfl | (simp [IntKind.wrap_i64, wrap64]; done) | (simp [errW_none, errW_some] <;> rfl) | (simp [*, errW_none, errW_some] <;> rfl), by repeat (first | (with_reducible first | exact HB.out | apply below_alloc | apply pw_below_drewN | apply below_drew1 | refine below_set ?_ GE293.out) | exact HB.out)⟩

/-! ### impl_GrdAt: function 10 (by hand) -/
set_option maxHeartbeats 2000000 in
set_option maxRecDepth 100000 in
/-- slices.IndexFunc over cells at their places, whatever the function asks. -/
theorem idxf_cell (p : S41 → Bool) (g : Nat) (lb : Array Value) (eg : ∀ args w, (callFunc g args).run Tryd.prog w = .ok (.enter g args) w) (A : Option Addr) (c : Nat) (l : List S41) (w : World)
    (hr : Kd.C k41 w A l.length l) (hc : l.length ≤ c)
    (hp : ∀ (W : World) (x : S41), Below w.heap.size w W → Calls Tryd.prog g (#[.agg #[.int .i64 x.f0, .int .i64 x.f1, .int .i64 x.f2, .int .i64 x.f3, .int .i64 x.f4]] ++ lb) W fun e W' => e = .returned (.bool (p x)) ∧ Below w.heap.size w W') :
    Calls Tryd.prog 20 #[.slice A l.length c, .func (.func g) #[] lb] w fun e w' => e = .returned (.int .i64 (ppIdx p l)) ∧ Below w.heap.size w w' := by
  have hbig := hr.2.1
  have HR := Aside0.mk hr
  clear hr
  go_enter Tryd.func20, Tryd.ntmps20
  go_wp2
  go_loopg [5, 8] l.length (fun gg _ s8 wr => ∃ kk : Nat, kk ≤ l.length ∧ l.length - kk ≤ gg ∧ s8 = .int .i64 kk ∧ Aside0 (Below w.heap.size w wr) ∧ Aside0 (∀ j (h : j < l.length), j < kk → p l[j] = false))
  case atStart => exact ⟨0, Nat.zero_le _, by omega, rfl, ⟨Below.refl _ w⟩, ⟨fun j _ hj => absurd hj (Nat.not_lt_zero _)⟩⟩
  case round =>
    obtain ⟨kk, hkk, hg, rfl, BW, AA⟩ := hrel
    by_cases hlt : kk < l.length
    · have hltz : (kk : Int) < (l.length : Int) := by omega
      obtain ⟨ad, e0, h0, h1, h2, h3, h4⟩ := at_T41 HR.out (kk : Int) (by omega) hltz
      cases e0
      replace h0 := (BW.out.cell (World.block_lt_of_cell? w _ h0)).trans h0
      replace h1 := (BW.out.cell (World.block_lt_of_cell? w _ h1)).trans h1
      replace h2 := (BW.out.cell (World.block_lt_of_cell? w _ h2)).trans h2
      replace h3 := (BW.out.cell (World.block_lt_of_cell? w _ h3)).trans h3
      replace h4 := (BW.out.cell (World.block_lt_of_cell? w _ h4)).trans h4
      simp only [Int.toNat_natCast] at h0 h1 h2 h3 h4
      have hcall := hp wr (rd_T41 l (kk : Int)) BW.out
      have hy : rd_T41 l (kk : Int) = l[kk] := by unfold rd_T41; simp [List.getD_eq_getElem?_getD, List.getElem?_eq_getElem hlt]
      generalize rd_T41 l (kk : Int) = y at h0 h1 h2 h3 h4 hcall hy
      have HY := Aside0.mk hy
      clear hy hp
      cases hq : p y with
      | true =>
        rw [hq] at hcall
        go_wp2_with (go_at_fn g; refine hcall.mono ?_; rintro e w' ⟨rfl, hb'⟩)
        go_ret
        refine ⟨?_, hb'⟩
        rw [ppIdx_hit p l kk hlt (by rw [← HY.out]; exact hq) AA.out]
        rfl
      | false =>
        rw [hq] at hcall
        go_wp2_with (go_at_fn g; refine hcall.mono ?_; rintro e w' ⟨rfl, hb'⟩)
        go_roundg (l.length - (kk + 1))
        case measure => omega
        case rel =>
          refine ⟨kk + 1, by omega, by omega, by go_num, ⟨hb'⟩, ⟨fun j h hj => ?_⟩⟩
          by_cases e : j = kk
          · subst e
            rw [← HY.out]; exact hq
          · exact AA.out j h (by omega)
    · have hltz : ¬ (kk : Int) < (l.length : Int) := by omega
      have hk : kk = l.length := by omega
      subst hk
      go_wp2
      go_ret
      refine ⟨?_, BW.out⟩
      rw [ppIdx_miss p l (fun j hj => AA.out j hj hj)]
      rfl
/-- The cell has the slot. -/
def ppHasB (x : S41) (row col : Int) : Bool := (impl_GrdCell_has.f x.f0 x.f1 x.f2 x.f3 x.f4 row col).getD false
theorem ppAmongS (n f m : Int) : ∃ b, impl_among.f n f m = some b := by
  unfold impl_among.f
  split
  · split
    · exact ⟨_, rfl⟩
    · exact ⟨_, rfl⟩
  · exact ⟨_, rfl⟩
theorem ppHas_some (x : S41) (row col : Int) : impl_GrdCell_has.f x.f0 x.f1 x.f2 x.f3 x.f4 row col = some (ppHasB x row col) := by
  unfold ppHasB impl_GrdCell_has.f
  obtain ⟨b1, h1⟩ := ppAmongS row x.f0 x.f2
  obtain ⟨b2, h2⟩ := ppAmongS col x.f1 x.f3
  rw [h1, h2]
  cases b1 <;> rfl
set_option maxHeartbeats 2000000 in
set_option maxRecDepth 100000 in
theorem clo_GrdAt (x : S41) (row col : Int) (b1 b2 : Nat) (w : World) (h1 : w.cell? ⟨b1, 0, none⟩ = some (.int .i64 row)) (h2 : w.cell? ⟨b2, 0, none⟩ = some (.int .i64 col)) :
    Calls Tryd.prog 21 #[.agg #[.int .i64 x.f0, .int .i64 x.f1, .int .i64 x.f2, .int .i64 x.f3, .int .i64 x.f4], .pointer (some ⟨b1, 0, none⟩), .pointer (some ⟨b2, 0, none⟩)] w fun e w' => e = .returned (.bool (ppHasB x row col)) ∧ Below w.heap.size w w' := by
  have hb1 := World.block_lt_of_cell? w _ h1
  have hb2 := World.block_lt_of_cell? w _ h2
  have HS := Aside0.mk (ppHas_some x row col)
  have hu := Tryd.underlying41
  go_enter Tryd.func21, Tryd.ntmps21
  go_wp2_with (go_at_call 22; refine (impl_GrdCell_has.calls _ _ _ _ _ _ _ _ _ HS.out).mono ?_; rintro e w' ⟨rfl, hb⟩)
  go_ret
  exact ⟨rfl, below_step (below_alloc (Below.refl _ _) _) hb⟩
def impl_GrdAt.f (k : Nat) (a0_0 : Int) (a0_1 : Int) (l0_2 : List S41) (a1 : Int) (a2 : Int) : Option Int := some (ppIdx (fun x => ppHasB x a1 a2) l0_2)
theorem impl_GrdAt.mono : ∀ a0_0 a0_1 a0_2 a1 a2 k, LeO (impl_GrdAt.f k a0_0 a0_1 a0_2 a1 a2) (impl_GrdAt.f (k + 1) a0_0 a0_1 a0_2 a1 a2) := fun _ _ _ _ _ _ => LeO.refl _
set_option maxHeartbeats 2000000 in
set_option maxRecDepth 100000 in
theorem impl_GrdAt.calls (k : Nat) (a0_0 : Int) (a0_1 : Int) (A0_2 : Option Addr) (c0_2 : Nat) (l0_2 : List (S41)) (a1 : Int) (a2 : Int) (r : Int) (w : World) (hr0_2 : Kd.C k41 w A0_2 l0_2.length l0_2) (hc0_2 : l0_2.length ≤ c0_2) (h : impl_GrdAt.f k a0_0 a0_1 l0_2 a1 a2 = some r) :
    Calls Tryd.prog 10 #[.agg #[.int .i64 a0_0, .int .i64 a0_1, .slice A0_2 l0_2.length c0_2], .int .i64 a1, .int .i64 a2] w fun e w' => e = .returned (.int .i64 r) ∧ Below w.heap.size w w' := by
  obtain rfl := Option.some.inj h
  have HR := Aside0.mk hr0_2
  have HC := Aside0.mk hc0_2
  clear hr0_2 hc0_2 h
  have eg := enters_of Tryd.func21 (by kernel_rfl) rfl
  have hu := Tryd.underlying25
  have hp : ∀ (W0 : World), W0.cell? ⟨w.heap.size + 1, 0, none⟩ = some (.int .i64 a1) → W0.cell? ⟨w.heap.size + 2, 0, none⟩ = some (.int .i64 a2) → w.heap.size + 3 ≤ W0.heap.size → ∀ (W : World) (x : S41), Below W0.heap.size W0 W → Calls Tryd.prog 21 (#[.agg #[.int .i64 x.f0, .int .i64 x.f1, .int .i64 x.f2, .int .i64 x.f3, .int .i64 x.f4]] ++ #[.pointer (some ⟨w.heap.size + 1, 0, none⟩), .pointer (some ⟨w.heap.size + 2, 0, none⟩)]) W fun e W' => e = .returned (.bool (ppHasB x a1 a2)) ∧ Below W0.heap.size W0 W' := by
    intro W0 h1 h2 hs W x hb
    have h1' := (hb.cell (World.block_lt_of_cell? W0 _ h1)).trans h1
    have h2' := (hb.cell (World.block_lt_of_cell? W0 _ h2)).trans h2
    exact (clo_GrdAt x a1 a2 _ _ W h1' h2').mono fun e W' ⟨he, hb'⟩ => ⟨he, below_then hb hb.size hb'⟩
  have HP := Aside0.mk hp
  clear hp
  go_enter Tryd.func10, Tryd.ntmps10
  go_wp2_with (go_at_call 20; refine (idxf_cell (fun x => ppHasB x a1 a2) 21 _ eg A0_2 c0_2 l0_2 _ ?hr HC.out (HP.out _ ?h1 ?h2 ?hs)).mono ?_; (case hr => repeat (first | exact HR.out | (with_reducible refine Kd.C_alloc ?_ _))); (case h1 => go_simp); (case h2 => go_simp); (case hs => simp); rintro e w' ⟨rfl, hb⟩)
  go_ret
  exact ⟨rfl, below_step (below_alloc (below_alloc (below_alloc (Below.refl _ _) _) _) _) hb⟩

/-! ### impl_in: function 26 -/
def impl_in.f (a0 : Int) (a1 : Int) (a2 : Int) : Option (Bool) := if a0 ≥ a1 then (some (decide (a0 ≤ a2))) else (some false)
set_option maxHeartbeats 8000000 in
set_option maxRecDepth 100000 in
theorem impl_in.calls (a0 : Int) (a1 : Int) (a2 : Int) (r : Bool) (w : World) (h : impl_in.f a0 a1 a2 = some r) :
    Calls Tryd.prog 26 #[.int .i64 a0, .int .i64 a1, .int .i64 a2] w fun e w' => e = .returned (.bool r) ∧ Drawn0 w w' := by
  have H : (if a0 ≥ a1 then (some (decide (a0 ≤ a2))) else (some false)) = some r := h
  clear h
  by_cases c4 : a0 ≥ a1
  · rw [if_pos c4] at H
    have c4b0 : decide (a1 ≤ a0) = true := decide_eq_true c4
    clear c4
    obtain rfl := Option.some.inj H
    go_enter Tryd.func26, Tryd.ntmps26
    go_wp2
    go_ret
    exact ⟨by first | rfl | (simp [IntKind.wrap_i64, wrap64]; done) | (simp; done) | (simp [*]; done), by repeat (first | exact Drawn0.refl _ | apply Drawn0.step)⟩
  · rw [if_neg c4] at H
    have c4b0 : decide (a1 ≤ a0) = false := decide_eq_false c4
    clear c4
    obtain rfl := Option.some.inj H
    go_enter Tryd.func26, Tryd.ntmps26
    go_wp2
    go_ret
    exact ⟨by first | rfl | (simp [IntKind.wrap_i64, wrap64]; done) | (simp; done) | (simp [*]; done), by repeat (first | exact Drawn0.refl _ | apply Drawn0.step)⟩

/-! ### impl_GrdCell_meets: function 28 -/
def impl_GrdCell_meets.f (a0_0 : Int) (a0_1 : Int) (a0_2 : Int) (a0_3 : Int) (a0_4 : Int) (a1_0 : Int) (a1_1 : Int) (a1_2 : Int) (a1_3 : Int) (a1_4 : Int) : Option (Bool) := if a0_0 < (wrap64 (a1_0 + a1_2)) then (if a1_0 < (wrap64 (a0_0 + a0_2)) then (if a0_1 < (wrap64 (a1_1 + a1_3)) then (some (decide (a1_1 < (wrap64 (a0_1 + a0_3))))) else (some false)) else (some false)) else (some false)
set_option maxHeartbeats 8000000 in
set_option maxRecDepth 100000 in
theorem impl_GrdCell_meets.calls (a0_0 : Int) (a0_1 : Int) (a0_2 : Int) (a0_3 : Int) (a0_4 : Int) (a1_0 : Int) (a1_1 : Int) (a1_2 : Int) (a1_3 : Int) (a1_4 : Int) (r : Bool) (w : World) (h : impl_GrdCell_meets.f a0_0 a0_1 a0_2 a0_3 a0_4 a1_0 a1_1 a1_2 a1_3 a1_4 = some r) :
    Calls Tryd.prog 28 #[.agg #[.int .i64 a0_0, .int .i64 a0_1, .int .i64 a0_2, .int .i64 a0_3, .int .i64 a0_4], .agg #[.int .i64 a1_0, .int .i64 a1_1, .int .i64 a1_2, .int .i64 a1_3, .int .i64 a1_4]] w fun e w' => e = .returned (.bool r) ∧ Below w.heap.size w w' := by
  have hu41 := Tryd.underlying41
  have HB := Aside0.mk (Below.refl w.heap.size w)
  have H : (if a0_0 < (wrap64 (a1_0 + a1_2)) then (if a1_0 < (wrap64 (a0_0 + a0_2)) then (if a0_1 < (wrap64 (a1_1 + a1_3)) then (some (decide (a1_1 < (wrap64 (a0_1 + a0_3))))) else (some false)) else (some false)) else (some false)) = some r := h
  clear h
  by_cases c3 : a0_0 < (wrap64 (a1_0 + a1_2))
  · rw [if_pos c3] at H
    have c3b0 : decide (a0_0 < (wrap64 (a1_0 + a1_2))) = true := decide_eq_true c3
    clear c3
    by_cases c4 : a1_0 < (wrap64 (a0_0 + a0_2))
    · rw [if_pos c4] at H
      have c4b0 : decide (a1_0 < (wrap64 (a0_0 + a0_2))) = true := decide_eq_true c4
      clear c4
      by_cases c5 : a0_1 < (wrap64 (a1_1 + a1_3))
      · rw [if_pos c5] at H
        have c5b0 : decide (a0_1 < (wrap64 (a1_1 + a1_3))) = true := decide_eq_true c5
        clear c5
        obtain rfl := Option.some.inj H
        go_enter Tryd.func28, Tryd.ntmps28
        go_wp2_with (first | ((with_reducible refine gate_dst (N := 2) rfl ?_); refine box_event ?hg (N := 2) ?hd (cs := #[.int .i64 a0_0, .int .i64 a0_1, .int .i64 a0_2, .int .i64 a0_3, .int .i64 a0_4]) (t := 41) ?hr ?_; (case hd => rfl); (case hg => rfl); (case hr => first | (go_simp; done) | (go_simp; rfl)); intro gb297 hg w6 hbox hb; have n0_ := Aside0.mk (below_step (by repeat (first | (with_reducible first | exact HB.out | apply below_alloc | apply pw_below_drewN | apply below_drew1) | exact HB.out)) hb); have n1_ := Aside0.mk (hbox); have n2_ := Aside0.mk ((by rw [hg]; exact (below_size (by repeat (first | (with_reducible first | exact HB.out | apply below_alloc | apply pw_below_drewN | apply below_drew1) | exact HB.out))) : w.heap.size ≤ gb297)); have n3_ := Aside0.mk ((by rw [hg]; exact (below_size (by repeat (first | (with_reducible first | exact HB.out | apply below_alloc | apply pw_below_drewN | apply below_drew1) | exact HB.out))) : w.heap.size ≤ gb297)); clear HB; have HB := n0_; have BK297 := n1_; have GW297 := n2_; have GE297 := n3_; clear n0_ n1_ n2_ n3_; clear hb hbox hg) | ((with_reducible refine gate_dst (N := 3) rfl ?_); refine box_event ?hg (N := 3) ?hd (cs := #[.int .i64 a1_0, .int .i64 a1_1, .int .i64 a1_2, .int .i64 a1_3, .int .i64 a1_4]) (t := 41) ?hr ?_; (case hd => rfl); (case hg => rfl); (case hr => first | (go_simp; done) | (go_simp; rfl)); intro gb298 hg w7 hbox hb; have n0_ := Aside0.mk (blk_below (g := gb297) (o := .cells #[.int .i64 a0_0, .int .i64 a0_1, .int .i64 a0_2, .int .i64 a0_3, .int .i64 a0_4] 41 (0, 0)) (by (with_reducible repeat (first | refine blk_drewN ?_ _ | refine blk_drew ?_ | refine blk_alloc ?_ _)); exact BK297.out) hb); have n1_ := Aside0.mk (below_step (by repeat (first | (with_reducible first | exact HB.out | apply below_alloc | apply pw_below_drewN | apply below_drew1 | refine below_set ?_ GE297.out) | exact HB.out)) hb); have n2_ := Aside0.mk (hbox); have n3_ := Aside0.mk ((by rw [hg]; exact (below_size (by repeat (first | (with_reducible first | exact HB.out | apply below_alloc | apply pw_below_drewN | apply below_drew1 | refine below_set ?_ GE297.out) | exact HB.out))) : w.heap.size ≤ gb298)); have n4_ := Aside0.mk ((by rw [hg]; exact (below_size (by repeat (first | (with_reducible first | exact HB.out | apply below_alloc | apply pw_below_drewN | apply below_drew1 | refine below_set ?_ GE297.out) | exact HB.out))) : w.heap.size ≤ gb298)); have n5_ := Aside0.mk ((by rw [hg]; exact Nat.ne_of_lt (blk_lt (g := gb297) (o := .cells #[.int .i64 a0_0, .int .i64 a0_1, .int .i64 a0_2, .int .i64 a0_3, .int .i64 a0_4] 41 (0, 0)) (by (with_reducible repeat (first | refine blk_drewN ?_ _ | refine blk_drew ?_ | refine blk_alloc ?_ _)); exact BK297.out)) : gb297 ≠ gb298)); have n6_ := Aside0.mk ((by rw [hg]; exact Nat.ne_of_gt (blk_lt (g := gb297) (o := .cells #[.int .i64 a0_0, .int .i64 a0_1, .int .i64 a0_2, .int .i64 a0_3, .int .i64 a0_4] 41 (0, 0)) (by (with_reducible repeat (first | refine blk_drewN ?_ _ | refine blk_drew ?_ | refine blk_alloc ?_ _)); exact BK297.out)) : gb298 ≠ gb297)); clear BK297; clear HB; have BK297 := n0_; have HB := n1_; have BK298 := n2_; have GW298 := n3_; have GE298 := n4_; have NB297_298 := n5_; have NB298_297 := n6_; clear n0_ n1_ n2_ n3_ n4_ n5_ n6_; clear hb hbox hg; have hnb8 := NB297_298.out; have hnc8 := NB298_297.out; have hcz9_0 : w7.cell? ⟨gb297, 0, none⟩ = some (.int .i64 a0_0) := (blk_cell BK297.out 0).trans rfl; have hcz9_1 : w7.cell? ⟨gb297, 1, none⟩ = some (.int .i64 a0_1) := (blk_cell BK297.out 1).trans rfl; have hcz9_2 : w7.cell? ⟨gb297, 2, none⟩ = some (.int .i64 a0_2) := (blk_cell BK297.out 2).trans rfl; have hcz9_3 : w7.cell? ⟨gb297, 3, none⟩ = some (.int .i64 a0_3) := (blk_cell BK297.out 3).trans rfl; have hcz9_4 : w7.cell? ⟨gb297, 4, none⟩ = some (.int .i64 a0_4) := (blk_cell BK297.out 4).trans rfl; have hfz9_0 := blk_frozen BK297.out 0; have hfz9_1 := blk_frozen BK297.out 1; have hfz9_2 := blk_frozen BK297.out 2; have hfz9_3 := blk_frozen BK297.out 3; have hfz9_4 := blk_frozen BK297.out 4; have hcz10_0 : w7.cell? ⟨gb298, 0, none⟩ = some (.int .i64 a1_0) := (blk_cell BK298.out 0).trans rfl; have hcz10_1 : w7.cell? ⟨gb298, 1, none⟩ = some (.int .i64 a1_1) := (blk_cell BK298.out 1).trans rfl; have hcz10_2 : w7.cell? ⟨gb298, 2, none⟩ = some (.int .i64 a1_2) := (blk_cell BK298.out 2).trans rfl; have hcz10_3 : w7.cell? ⟨gb298, 3, none⟩ = some (.int .i64 a1_3) := (blk_cell BK298.out 3).trans rfl; have hcz10_4 : w7.cell? ⟨gb298, 4, none⟩ = some (.int .i64 a1_4) := (blk_cell BK298.out 4).trans rfl; have hfz10_0 := blk_frozen BK298.out 0; have hfz10_1 := blk_frozen BK298.out 1; have hfz10_2 := blk_frozen BK298.out 2; have hfz10_3 := blk_frozen BK298.out 3; have hfz10_4 := blk_frozen BK298.out 4))
        go_ret
        exact ⟨by first | rfl | (simp [IntKind.wrap_i64, wrap64]; done) | (simp [errW_none, errW_some] <;> rfl) | (simp [*, errW_none, errW_some] <;> rfl), by repeat (first | (with_reducible first | exact HB.out | apply below_alloc | apply pw_below_drewN | apply below_drew1 | refine below_set ?_ GE297.out | refine below_set ?_ GE298.out) | exact HB.out)⟩
      · rw [if_neg c5] at H
        have c5b0 : decide (a0_1 < (wrap64 (a1_1 + a1_3))) = false := decide_eq_false c5
        clear c5
        obtain rfl := Option.some.inj H
        go_enter Tryd.func28, Tryd.ntmps28
        go_wp2_with (first | ((with_reducible refine gate_dst (N := 2) rfl ?_); refine box_event ?hg (N := 2) ?hd (cs := #[.int .i64 a0_0, .int .i64 a0_1, .int .i64 a0_2, .int .i64 a0_3, .int .i64 a0_4]) (t := 41) ?hr ?_; (case hd => rfl); (case hg => rfl); (case hr => first | (go_simp; done) | (go_simp; rfl)); intro gb297 hg w11 hbox hb; have n0_ := Aside0.mk (below_step (by repeat (first | (with_reducible first | exact HB.out | apply below_alloc | apply pw_below_drewN | apply below_drew1) | exact HB.out)) hb); have n1_ := Aside0.mk (hbox); have n2_ := Aside0.mk ((by rw [hg]; exact (below_size (by repeat (first | (with_reducible first | exact HB.out | apply below_alloc | apply pw_below_drewN | apply below_drew1) | exact HB.out))) : w.heap.size ≤ gb297)); have n3_ := Aside0.mk ((by rw [hg]; exact (below_size (by repeat (first | (with_reducible first | exact HB.out | apply below_alloc | apply pw_below_drewN | apply below_drew1) | exact HB.out))) : w.heap.size ≤ gb297)); clear HB; have HB := n0_; have BK297 := n1_; have GW297 := n2_; have GE297 := n3_; clear n0_ n1_ n2_ n3_; clear hb hbox hg) | ((with_reducible refine gate_dst (N := 3) rfl ?_); refine box_event ?hg (N := 3) ?hd (cs := #[.int .i64 a1_0, .int .i64 a1_1, .int .i64 a1_2, .int .i64 a1_3, .int .i64 a1_4]) (t := 41) ?hr ?_; (case hd => rfl); (case hg => rfl); (case hr => first | (go_simp; done) | (go_simp; rfl)); intro gb298 hg w12 hbox hb; have n0_ := Aside0.mk (blk_below (g := gb297) (o := .cells #[.int .i64 a0_0, .int .i64 a0_1, .int .i64 a0_2, .int .i64 a0_3, .int .i64 a0_4] 41 (0, 0)) (by (with_reducible repeat (first | refine blk_drewN ?_ _ | refine blk_drew ?_ | refine blk_alloc ?_ _)); exact BK297.out) hb); have n1_ := Aside0.mk (below_step (by repeat (first | (with_reducible first | exact HB.out | apply below_alloc | apply pw_below_drewN | apply below_drew1 | refine below_set ?_ GE297.out) | exact HB.out)) hb); have n2_ := Aside0.mk (hbox); have n3_ := Aside0.mk ((by rw [hg]; exact (below_size (by repeat (first | (with_reducible first | exact HB.out | apply below_alloc | apply pw_below_drewN | apply below_drew1 | refine below_set ?_ GE297.out) | exact HB.out))) : w.heap.size ≤ gb298)); have n4_ := Aside0.mk ((by rw [hg]; exact (below_size (by repeat (first | (with_reducible first | exact HB.out | apply below_alloc | apply pw_below_drewN | apply below_drew1 | refine below_set ?_ GE297.out) | exact HB.out))) : w.heap.size ≤ gb298)); have n5_ := Aside0.mk ((by rw [hg]; exact Nat.ne_of_lt (blk_lt (g := gb297) (o := .cells #[.int .i64 a0_0, .int .i64 a0_1, .int .i64 a0_2, .int .i64 a0_3, .int .i64 a0_4] 41 (0, 0)) (by (with_reducible repeat (first | refine blk_drewN ?_ _ | refine blk_drew ?_ | refine blk_alloc ?_ _)); exact BK297.out)) : gb297 ≠ gb298)); have n6_ := Aside0.mk ((by rw [hg]; exact Nat.ne_of_gt (blk_lt (g := gb297) (o := .cells #[.int .i64 a0_0, .int .i64 a0_1, .int .i64 a0_2, .int .i64 a0_3, .int .i64 a0_4] 41 (0, 0)) (by (with_reducible repeat (first | refine blk_drewN ?_ _ | refine blk_drew ?_ | refine blk_alloc ?_ _)); exact BK297.out)) : gb298 ≠ gb297)); clear BK297; clear HB; have BK297 := n0_; have HB := n1_; have BK298 := n2_; have GW298 := n3_; have GE298 := n4_; have NB297_298 := n5_; have NB298_297 := n6_; clear n0_ n1_ n2_ n3_ n4_ n5_ n6_; clear hb hbox hg; have hnb13 := NB297_298.out; have hnc13 := NB298_297.out; have hcz14_0 : w12.cell? ⟨gb297, 0, none⟩ = some (.int .i64 a0_0) := (blk_cell BK297.out 0).trans rfl; have hcz14_1 : w12.cell? ⟨gb297, 1, none⟩ = some (.int .i64 a0_1) := (blk_cell BK297.out 1).trans rfl; have hcz14_2 : w12.cell? ⟨gb297, 2, none⟩ = some (.int .i64 a0_2) := (blk_cell BK297.out 2).trans rfl; have hcz14_3 : w12.cell? ⟨gb297, 3, none⟩ = some (.int .i64 a0_3) := (blk_cell BK297.out 3).trans rfl; have hcz14_4 : w12.cell? ⟨gb297, 4, none⟩ = some (.int .i64 a0_4) := (blk_cell BK297.out 4).trans rfl; have hfz14_0 := blk_frozen BK297.out 0; have hfz14_1 := blk_frozen BK297.out 1; have hfz14_2 := blk_frozen BK297.out 2; have hfz14_3 := blk_frozen BK297.out 3; have hfz14_4 := blk_frozen BK297.out 4; have hcz15_0 : w12.cell? ⟨gb298, 0, none⟩ = some (.int .i64 a1_0) := (blk_cell BK298.out 0).trans rfl; have hcz15_1 : w12.cell? ⟨gb298, 1, none⟩ = some (.int .i64 a1_1) := (blk_cell BK298.out 1).trans rfl; have hcz15_2 : w12.cell? ⟨gb298, 2, none⟩ = some (.int .i64 a1_2) := (blk_cell BK298.out 2).trans rfl; have hcz15_3 : w12.cell? ⟨gb298, 3, none⟩ = some (.int .i64 a1_3) := (blk_cell BK298.out 3).trans rfl; have hcz15_4 : w12.cell? ⟨gb298, 4, none⟩ = some (.int .i64 a1_4) := (blk_cell BK298.out 4).trans rfl; have hfz15_0 := blk_frozen BK298.out 0; have hfz15_1 := blk_frozen BK298.out 1; have hfz15_2 := blk_frozen BK298.out 2; have hfz15_3 := blk_frozen BK298.out 3; have hfz15_4 := blk_frozen BK298.out 4))
        go_ret
        exact ⟨by first | rfl | (simp [IntKind.wrap_i64, wrap64]; done) | (simp [errW_none, errW_some] <;> rfl) | (simp [*, errW_none, errW_some] <;> rfl), by repeat (first | (with_reducible first | exact HB.out | apply below_alloc | apply pw_below_drewN | apply below_drew1 | refine below_set ?_ GE297.out | refine below_set ?_ GE298.out) | exact HB.out)⟩
    · rw [if_neg c4] at H
      have c4b0 : decide (a1_0 < (wrap64 (a0_0 + a0_2))) = false := decide_eq_false c4
      clear c4
      obtain rfl := Option.some.inj H
      go_enter Tryd.func28, Tryd.ntmps28
      go_wp2_with (first | ((with_reducible refine gate_dst (N := 2) rfl ?_); refine box_event ?hg (N := 2) ?hd (cs := #[.int .i64 a0_0, .int .i64 a0_1, .int .i64 a0_2, .int .i64 a0_3, .int .i64 a0_4]) (t := 41) ?hr ?_; (case hd => rfl); (case hg => rfl); (case hr => first | (go_simp; done) | (go_simp; rfl)); intro gb297 hg w16 hbox hb; have n0_ := Aside0.mk (below_step (by repeat (first | (with_reducible first | exact HB.out | apply below_alloc | apply pw_below_drewN | apply below_drew1) | exact HB.out)) hb); have n1_ := Aside0.mk (hbox); have n2_ := Aside0.mk ((by rw [hg]; exact (below_size (by repeat (first | (with_reducible first | exact HB.out | apply below_alloc | apply pw_below_drewN | apply below_drew1) | exact HB.out))) : w.heap.size ≤ gb297)); have n3_ := Aside0.mk ((by rw [hg]; exact (below_size (by repeat (first | (with_reducible first | exact HB.out | apply below_alloc | apply pw_below_drewN | apply below_drew1) | exact HB.out))) : w.heap.size ≤ gb297)); clear HB; have HB := n0_; have BK297 := n1_; have GW297 := n2_; have GE297 := n3_; clear n0_ n1_ n2_ n3_; clear hb hbox hg) | ((with_reducible refine gate_dst (N := 3) rfl ?_); refine box_event ?hg (N := 3) ?hd (cs := #[.int .i64 a1_0, .int .i64 a1_1, .int .i64 a1_2, .int .i64 a1_3, .int .i64 a1_4]) (t := 41) ?hr ?_; (case hd => rfl); (case hg => rfl); (case hr => first | (go_simp; done) | (go_simp; rfl)); intro gb298 hg w17 hbox hb; have n0_ := Aside0.mk (blk_below (g := gb297) (o := .cells #[.int .i64 a0_0, .int .i64 a0_1, .int .i64 a0_2, .int .i64 a0_3, .int .i64 a0_4] 41 (0, 0)) (by (with_reducible repeat (first | refine blk_drewN ?_ _ | refine blk_drew ?_ | refine blk_alloc ?_ _)); exact BK297.out) hb); have n1_ := Aside0.mk (below_step (by repeat (first | (with_reducible first | exact HB.out | apply below_alloc | apply pw_below_drewN | apply below_drew1 | refine below_set ?_ GE297.out) | exact HB.out)) hb); have n2_ := Aside0.mk (hbox); have n3_ := Aside0.mk ((by rw [hg]; exact (below_size (by repeat (first | (with_reducible first | exact HB.out | apply below_alloc | apply pw_below_drewN | apply below_drew1 | refine below_set ?_ GE297.out) | exact HB.out))) : w.heap.size ≤ gb298)); have n4_ := Aside0.mk ((by rw [hg]; exact (below_size (by repeat (first | (with_reducible first | exact HB.out | apply below_alloc | apply pw_below_drewN | apply below_drew1 | refine below_set ?_ GE297.out) | exact HB.out))) : w.heap.size ≤ gb298)); have n5_ := Aside0.mk ((by rw [hg]; exact Nat.ne_of_lt (blk_lt (g := gb297) (o := .cells #[.int .i64 a0_0, .int .i64 a0_1, .int .i64 a0_2, .int .i64 a0_3, .int .i64 a0_4] 41 (0, 0)) (by (with_reducible repeat (first | refine blk_drewN ?_ _ | refine blk_drew ?_ | refine blk_alloc ?_ _)); exact BK297.out)) : gb297 ≠ gb298)); have n6_ := Aside0.mk ((by rw [hg]; exact Nat.ne_of_gt (blk_lt (g := gb297) (o := .cells #[.int .i64 a0_0, .int .i64 a0_1, .int .i64 a0_2, .int .i64 a0_3, .int .i64 a0_4] 41 (0, 0)) (by (with_reducible repeat (first | refine blk_drewN ?_ _ | refine blk_drew ?_ | refine blk_alloc ?_ _)); exact BK297.out)) : gb298 ≠ gb297)); clear BK297; clear HB; have BK297 := n0_; have HB := n1_; have BK298 := n2_; have GW298 := n3_; have GE298 := n4_; have NB297_298 := n5_; have NB298_297 := n6_; clear n0_ n1_ n2_ n3_ n4_ n5_ n6_; clear hb hbox hg; have hnb18 := NB297_298.out; have hnc18 := NB298_297.out; have hcz19_0 : w17.cell? ⟨gb297, 0, none⟩ = some (.int .i64 a0_0) := (blk_cell BK297.out 0).trans rfl; have hcz19_1 : w17.cell? ⟨gb297, 1, none⟩ = some (.int .i64 a0_1) := (blk_cell BK297.out 1).trans rfl; have hcz19_2 : w17.cell? ⟨gb297, 2, none⟩ = some (.int .i64 a0_2) := (blk_cell BK297.out 2).trans rfl; have hcz19_3 : w17.cell? ⟨gb297, 3, none⟩ = some (.int .i64 a0_3) := (blk_cell BK297.out 3).trans rfl; have hcz19_4 : w17.cell? ⟨gb297, 4, none⟩ = some (.int .i64 a0_4) := (blk_cell BK297.out 4).trans rfl; have hfz19_0 := blk_frozen BK297.out 0; have hfz19_1 := blk_frozen BK297.out 1; have hfz19_2 := blk_frozen BK297.out 2; have hfz19_3 := blk_frozen BK297.out 3; have hfz19_4 := blk_frozen BK297.out 4; have hcz20_0 : w17.cell? ⟨gb298, 0, none⟩ = some (.int .i64 a1_0) := (blk_cell BK298.out 0).trans rfl; have hcz20_1 : w17.cell? ⟨gb298, 1, none⟩ = some (.int .i64 a1_1) := (blk_cell BK298.out 1).trans rfl; have hcz20_2 : w17.cell? ⟨gb298, 2, none⟩ = some (.int .i64 a1_2) := (blk_cell BK298.out 2).trans rfl; have hcz20_3 : w17.cell? ⟨gb298, 3, none⟩ = some (.int .i64 a1_3) := (blk_cell BK298.out 3).trans rfl; have hcz20_4 : w17.cell? ⟨gb298, 4, none⟩ = some (.int .i64 a1_4) := (blk_cell BK298.out 4).trans rfl; have hfz20_0 := blk_frozen BK298.out 0; have hfz20_1 := blk_frozen BK298.out 1; have hfz20_2 := blk_frozen BK298.out 2; have hfz20_3 := blk_frozen BK298.out 3; have hfz20_4 := blk_frozen BK298.out 4))
      go_ret
      exact ⟨by first | rfl | (simp [IntKind.wrap_i64, wrap64]; done) | (simp [errW_none, errW_some] <;> rfl) | (simp [*, errW_none, errW_some] <;> rfl), by repeat (first | (with_reducible first | exact HB.out | apply below_alloc | apply pw_below_drewN | apply below_drew1 | refine below_set ?_ GE297.out | refine below_set ?_ GE298.out) | exact HB.out)⟩
  · rw [if_neg c3] at H
    have c3b0 : decide (a0_0 < (wrap64 (a1_0 + a1_2))) = false := decide_eq_false c3
    clear c3
    obtain rfl := Option.some.inj H
    go_enter Tryd.func28, Tryd.ntmps28
    go_wp2_with (first | ((with_reducible refine gate_dst (N := 2) rfl ?_); refine box_event ?hg (N := 2) ?hd (cs := #[.int .i64 a0_0, .int .i64 a0_1, .int .i64 a0_2, .int .i64 a0_3, .int .i64 a0_4]) (t := 41) ?hr ?_; (case hd => rfl); (case hg => rfl); (case hr => first | (go_simp; done) | (go_simp; rfl)); intro gb297 hg w21 hbox hb; have n0_ := Aside0.mk (below_step (by repeat (first | (with_reducible first | exact HB.out | apply below_alloc | apply pw_below_drewN | apply below_drew1) | exact HB.out)) hb); have n1_ := Aside0.mk (hbox); have n2_ := Aside0.mk ((by rw [hg]; exact (below_size (by repeat (first | (with_reducible first | exact HB.out | apply below_alloc | apply pw_below_drewN | apply below_drew1) | exact HB.out))) : w.heap.size ≤ gb297)); have n3_ := Aside0.mk ((by rw [hg]; exact (below_size (by repeat (first | (with_reducible first | exact HB.out | apply below_alloc | apply pw_below_drewN | apply below_drew1) | exact HB.out))) : w.heap.size ≤ gb297)); clear HB; have HB := n0_; have BK297 := n1_; have GW297 := n2_; have GE297 := n3_; clear n0_ n1_ n2_ n3_; clear hb hbox hg) | ((with_reducible refine gate_dst (N := 3) rfl ?_); refine box_event ?hg (N := 3) ?hd (cs := #[.int .i64 a1_0, .int .i64 a1_1, .int .i64 a1_2, .int .i64 a1_3, .int .i64 a1_4]) (t := 41) ?hr ?_; (case hd => rfl); (case hg => rfl); (case hr => first | (go_simp; done) | (go_simp; rfl)); intro gb298 hg w22 hbox hb; have n0_ := Aside0.mk (blk_below (g := gb297) (o := .cells #[.int .i64 a0_0, .int .i64 a0_1, .int .i64 a0_2, .int .i64 a0_3, .int .i64 a0_4] 41 (0, 0)) (by (with_reducible repeat (first | refine blk_drewN ?_ _ | refine blk_drew ?_ | refine blk_alloc ?_ _)); exact BK297.out) hb); have n1_ := Aside0.mk (below_step (by repeat (first | (with_reducible first | exact HB.out | apply below_alloc | apply pw_below_drewN | apply below_drew1 | refine below_set ?_ GE297.out) | exact HB.out)) hb); have n2_ := Aside0.mk (hbox); have n3_ := Aside0.mk ((by rw [hg]; exact (below_size (by repeat (first | (with_reducible first | exact HB.out | apply below_alloc | apply pw_below_drewN | apply below_drew1 | refine below_set ?_ GE297.out) | exact HB.out))) : w.heap.size ≤ gb298)); have n4_ := Aside0.mk ((by rw [hg]; exact (below_size (by repeat (first | (with_reducible first | exact HB.out | apply below_alloc | apply pw_below_drewN | apply below_drew1 | refine below_set ?_ GE297.out) | exact HB.out))) : w.heap.size ≤ gb298)); have n5_ := Aside0.mk ((by rw [hg]; exact Nat.ne_of_lt (blk_lt (g := gb297) (o := .cells #[.int .i64 a0_0, .int .i64 a0_1, .int .i64 a0_2, .int .i64 a0_3, .int .i64 a0_4] 41 (0, 0)) (by (with_reducible repeat (first | refine blk_drewN ?_ _ | refine blk_drew ?_ | refine blk_alloc ?_ _)); exact BK297.out)) : gb297 ≠ gb298)); have n6_ := Aside0.mk ((by rw [hg]; exact Nat.ne_of_gt (blk_lt (g := gb297) (o := .cells #[.int .i64 a0_0, .int .i64 a0_1, .int .i64 a0_2, .int .i64 a0_3, .int .i64 a0_4] 41 (0, 0)) (by (with_reducible repeat (first | refine blk_drewN ?_ _ | refine blk_drew ?_ | refine blk_alloc ?_ _)); exact BK297.out)) : gb298 ≠ gb297)); clear BK297; clear HB; have BK297 := n0_; have HB := n1_; have BK298 := n2_; have GW298 := n3_; have GE298 := n4_; have NB297_298 := n5_; have NB298_297 := n6_; clear n0_ n1_ n2_ n3_ n4_ n5_ n6_; clear hb hbox hg; have hnb23 := NB297_298.out; have hnc23 := NB298_297.out; have hcz24_0 : w22.cell? ⟨gb297, 0, none⟩ = some (.int .i64 a0_0) := (blk_cell BK297.out 0).trans rfl; have hcz24_1 : w22.cell? ⟨gb297, 1, none⟩ = some (.int .i64 a0_1) := (blk_cell BK297.out 1).trans rfl; have hcz24_2 : w22.cell? ⟨gb297, 2, none⟩ = some (.int .i64 a0_2) := (blk_cell BK297.out 2).trans rfl; have hcz24_3 : w22.cell? ⟨gb297, 3, none⟩ = some (.int .i64 a0_3) := (blk_cell BK297.out 3).trans rfl; have hcz24_4 : w22.cell? ⟨gb297, 4, none⟩ = some (.int .i64 a0_4) := (blk_cell BK297.out 4).trans rfl; have hfz24_0 := blk_frozen BK297.out 0; have hfz24_1 := blk_frozen BK297.out 1; have hfz24_2 := blk_frozen BK297.out 2; have hfz24_3 := blk_frozen BK297.out 3; have hfz24_4 := blk_frozen BK297.out 4; have hcz25_0 : w22.cell? ⟨gb298, 0, none⟩ = some (.int .i64 a1_0) := (blk_cell BK298.out 0).trans rfl; have hcz25_1 : w22.cell? ⟨gb298, 1, none⟩ = some (.int .i64 a1_1) := (blk_cell BK298.out 1).trans rfl; have hcz25_2 : w22.cell? ⟨gb298, 2, none⟩ = some (.int .i64 a1_2) := (blk_cell BK298.out 2).trans rfl; have hcz25_3 : w22.cell? ⟨gb298, 3, none⟩ = some (.int .i64 a1_3) := (blk_cell BK298.out 3).trans rfl; have hcz25_4 : w22.cell? ⟨gb298, 4, none⟩ = some (.int .i64 a1_4) := (blk_cell BK298.out 4).trans rfl; have hfz25_0 := blk_frozen BK298.out 0; have hfz25_1 := blk_frozen BK298.out 1; have hfz25_2 := blk_frozen BK298.out 2; have hfz25_3 := blk_frozen BK298.out 3; have hfz25_4 := blk_frozen BK298.out 4))
    go_ret
    exact ⟨by first | rfl | (simp [IntKind.wrap_i64, wrap64]; done) | (simp [errW_none, errW_some] <;> rfl) | (simp [*, errW_none, errW_some] <;> rfl), by repeat (first | (with_reducible first | exact HB.out | apply below_alloc | apply pw_below_drewN | apply below_drew1 | refine below_set ?_ GE297.out | refine below_set ?_ GE298.out) | exact HB.out)⟩

/-! ### impl_GrdOk: function 14 (by hand) -/
set_option maxHeartbeats 2000000 in
set_option maxRecDepth 100000 in
/-- slices.IndexFunc over cells at their places, whatever a bound method asks. -/
theorem idxf_cellm (p : S41 → Bool) (g : Nat) (fb : Array Value) (eg : ∀ args w, (callFunc g args).run Tryd.prog w = .ok (.enter g args) w) (A : Option Addr) (c : Nat) (l : List S41) (w : World)
    (hr : Kd.C k41 w A l.length l) (hc : l.length ≤ c)
    (hp : ∀ (W : World) (x : S41), Below w.heap.size w W → Calls Tryd.prog g (fb ++ #[.agg #[.int .i64 x.f0, .int .i64 x.f1, .int .i64 x.f2, .int .i64 x.f3, .int .i64 x.f4]]) W fun e W' => e = .returned (.bool (p x)) ∧ Below w.heap.size w W') :
    Calls Tryd.prog 20 #[.slice A l.length c, .func (.func g) fb #[]] w fun e w' => e = .returned (.int .i64 (ppIdx p l)) ∧ Below w.heap.size w w' := by
  have hbig := hr.2.1
  have HR := Aside0.mk hr
  clear hr
  go_enter Tryd.func20, Tryd.ntmps20
  go_wp2
  go_loopg [5, 8] l.length (fun gg _ s8 wr => ∃ kk : Nat, kk ≤ l.length ∧ l.length - kk ≤ gg ∧ s8 = .int .i64 kk ∧ Aside0 (Below w.heap.size w wr) ∧ Aside0 (∀ j (h : j < l.length), j < kk → p l[j] = false))
  case atStart => exact ⟨0, Nat.zero_le _, by omega, rfl, ⟨Below.refl _ w⟩, ⟨fun j _ hj => absurd hj (Nat.not_lt_zero _)⟩⟩
  case round =>
    obtain ⟨kk, hkk, hg, rfl, BW, AA⟩ := hrel
    by_cases hlt : kk < l.length
    · have hltz : (kk : Int) < (l.length : Int) := by omega
      obtain ⟨ad, e0, h0, h1, h2, h3, h4⟩ := at_T41 HR.out (kk : Int) (by omega) hltz
      cases e0
      replace h0 := (BW.out.cell (World.block_lt_of_cell? w _ h0)).trans h0
      replace h1 := (BW.out.cell (World.block_lt_of_cell? w _ h1)).trans h1
      replace h2 := (BW.out.cell (World.block_lt_of_cell? w _ h2)).trans h2
      replace h3 := (BW.out.cell (World.block_lt_of_cell? w _ h3)).trans h3
      replace h4 := (BW.out.cell (World.block_lt_of_cell? w _ h4)).trans h4
      simp only [Int.toNat_natCast] at h0 h1 h2 h3 h4
      have hcall := hp wr (rd_T41 l (kk : Int)) BW.out
      have hy : rd_T41 l (kk : Int) = l[kk] := by unfold rd_T41; simp [List.getD_eq_getElem?_getD, List.getElem?_eq_getElem hlt]
      generalize rd_T41 l (kk : Int) = y at h0 h1 h2 h3 h4 hcall hy
      have HY := Aside0.mk hy
      clear hy hp
      cases hq : p y with
      | true =>
        rw [hq] at hcall
        go_wp2_with (go_at_fn g; refine hcall.mono ?_; rintro e w' ⟨rfl, hb'⟩)
        go_ret
        refine ⟨?_, hb'⟩
        rw [ppIdx_hit p l kk hlt (by rw [← HY.out]; exact hq) AA.out]
        rfl
      | false =>
        rw [hq] at hcall
        go_wp2_with (go_at_fn g; refine hcall.mono ?_; rintro e w' ⟨rfl, hb'⟩)
        go_roundg (l.length - (kk + 1))
        case measure => omega
        case rel =>
          refine ⟨kk + 1, by omega, by omega, by go_num, ⟨hb'⟩, ⟨fun j h hj => ?_⟩⟩
          by_cases e : j = kk
          · subst e
            rw [← HY.out]; exact hq
          · exact AA.out j h (by omega)
    · have hltz : ¬ (kk : Int) < (l.length : Int) := by omega
      have hk : kk = l.length := by omega
      subst hk
      go_wp2
      go_ret
      refine ⟨?_, BW.out⟩
      rw [ppIdx_miss p l (fun j hj => AA.out j hj hj)]
      rfl
set_option maxHeartbeats 2000000 in
set_option maxRecDepth 100000 in
theorem cntf_cellm (p : S41 → Bool) (g : Nat) (fb : Array Value) (eg : ∀ args w, (callFunc g args).run Tryd.prog w = .ok (.enter g args) w) (A : Option Addr) (c : Nat) (l : List S41) (w : World)
    (hr : Kd.C k41 w A l.length l) (hc : l.length ≤ c)
    (hp : ∀ (W : World) (x : S41), Below w.heap.size w W → Calls Tryd.prog g (fb ++ #[.agg #[.int .i64 x.f0, .int .i64 x.f1, .int .i64 x.f2, .int .i64 x.f3, .int .i64 x.f4]]) W fun e W' => e = .returned (.bool (p x)) ∧ Below w.heap.size w W') :
    Calls Tryd.prog 27 #[.slice A l.length c, .func (.func g) fb #[]] w fun e w' => e = .returned (.bool (decide (0 ≤ ppIdx p l))) ∧ Below w.heap.size w w' := by
  have HR := Aside0.mk hr
  have HC := Aside0.mk hc
  have HP := Aside0.mk hp
  clear hr hc hp
  go_enter Tryd.func27, Tryd.ntmps27
  go_wp2_with (go_at_call 20; (with_reducible refine (idxf_cellm p g fb eg A c l _ HR.out HC.out HP.out).mono ?_); rintro e w' ⟨rfl, hb⟩)
  go_ret
  exact ⟨rfl, hb⟩
/-- The two cells have a slot in common, as the program asks it. -/
def ppMeetB (a b : S41) : Bool := (impl_GrdCell_meets.f a.f0 a.f1 a.f2 a.f3 a.f4 b.f0 b.f1 b.f2 b.f3 b.f4).getD false
theorem ppMeet_some (a b : S41) : impl_GrdCell_meets.f a.f0 a.f1 a.f2 a.f3 a.f4 b.f0 b.f1 b.f2 b.f3 b.f4 = some (ppMeetB a b) := by
  unfold ppMeetB impl_GrdCell_meets.f
  (repeat' split) <;> rfl
def impl_ccells.f (k : Nat) (l : List S41) (a0 a1 a2 a3 a4 : Int) : Option Bool := some (decide (0 ≤ ppIdx (fun x => ppMeetB ⟨a0, a1, a2, a3, a4⟩ x) l))
theorem impl_ccells.mono : ∀ l a0 a1 a2 a3 a4 k, LeO (impl_ccells.f k l a0 a1 a2 a3 a4) (impl_ccells.f (k + 1) l a0 a1 a2 a3 a4) := fun _ _ _ _ _ _ _ => LeO.refl _
theorem impl_ccells.calls (k : Nat) (A : Option Addr) (c : Nat) (l : List S41) (a0 a1 a2 a3 a4 : Int) (r : Bool) (w : World) (hr : Kd.C k41 w A l.length l) (hc : l.length ≤ c) (h : impl_ccells.f k l a0 a1 a2 a3 a4 = some r) :
    Calls Tryd.prog 27 #[.slice A l.length c, .func (.func 28) #[.agg #[.int .i64 a0, .int .i64 a1, .int .i64 a2, .int .i64 a3, .int .i64 a4]] #[]] w fun e w' => e = .returned (.bool r) ∧ Below w.heap.size w w' := by
  obtain rfl := Option.some.inj h
  exact cntf_cellm (fun x => ppMeetB ⟨a0, a1, a2, a3, a4⟩ x) 28 _ (enters_of Tryd.func28 (by kernel_rfl) rfl) A c l w hr hc (fun W x hb => (impl_GrdCell_meets.calls _ _ _ _ _ _ _ _ _ _ _ _ (ppMeet_some ⟨a0, a1, a2, a3, a4⟩ x)).mono fun e W' ⟨he, hb'⟩ => ⟨he, below_then hb hb.size hb'⟩)
mutual
def impl_GrdOk.j0 : Nat → Bool → Int → Int → List (S41) → Option (Bool)
  | 0, _, _, _, _ => none
  | k + 1, x20, x300000, x300001, x300002 => if x20 = true then (some false) else (impl_GrdOk.l0 k x300002 (x300002.length : Int) 0 x300000 x300001 x300002)
def impl_GrdOk.l0 : Nat → List (S41) → Int → Int → Int → Int → List (S41) → Option (Bool)
  | 0, _, _, _, _, _, _ => none
  | k + 1, x22, x23, x24, x300000, x300001, x300002 => if x24 < x23 then (if 0 ≤ x24 then (if x24 < (x22.length : Int) then ((impl_in.f ((rd_T41 x22 x24).f0) 0 (wrap64 (x300000 - 1))).bind fun t304 => (if t304 = true then ((impl_in.f ((rd_T41 x22 x24).f2) 1 (wrap64 (x300000 - ((rd_T41 x22 x24).f0)))).bind fun t305 => (if t305 = true then ((impl_in.f ((rd_T41 x22 x24).f1) 0 (wrap64 (x300001 - 1))).bind fun t306 => (if t306 = true then ((impl_in.f ((rd_T41 x22 x24).f3) 1 (wrap64 (x300001 - ((rd_T41 x22 x24).f1)))).bind fun t307 => (impl_GrdOk.j2 k x24 x22 x23 x24 (!t307) x300000 x300001 x300002 ((rd_T41 x22 x24).f0) ((rd_T41 x22 x24).f1) ((rd_T41 x22 x24).f2) ((rd_T41 x22 x24).f3) ((rd_T41 x22 x24).f4))) else (impl_GrdOk.j2 k x24 x22 x23 x24 true x300000 x300001 x300002 ((rd_T41 x22 x24).f0) ((rd_T41 x22 x24).f1) ((rd_T41 x22 x24).f2) ((rd_T41 x22 x24).f3) ((rd_T41 x22 x24).f4)))) else (impl_GrdOk.j2 k x24 x22 x23 x24 true x300000 x300001 x300002 ((rd_T41 x22 x24).f0) ((rd_T41 x22 x24).f1) ((rd_T41 x22 x24).f2) ((rd_T41 x22 x24).f3) ((rd_T41 x22 x24).f4)))) else (impl_GrdOk.j2 k x24 x22 x23 x24 true x300000 x300001 x300002 ((rd_T41 x22 x24).f0) ((rd_T41 x22 x24).f1) ((rd_T41 x22 x24).f2) ((rd_T41 x22 x24).f3) ((rd_T41 x22 x24).f4)))) else (none)) else (none)) else (some true)
def impl_GrdOk.j2 : Nat → Int → List (S41) → Int → Int → Bool → Int → Int → List (S41) → Int → Int → Int → Int → Int → Option (Bool)
  | 0, _, _, _, _, _, _, _, _, _, _, _, _, _ => none
  | k + 1, x3, x22, x23, x24, x66, x300000, x300001, x300002, x304000, x304001, x304002, x304003, x304004 => if x66 = true then (some false) else ((impl_in.f x304004 0 4).bind fun t308 => (if t308 = true then (if 0 ≤ x3 then (if x3 ≤ (x300002.length : Int) then ((impl_ccells.f k (x300002.take (x3 : Int).toNat) x304000 x304001 x304002 x304003 x304004).bind fun t313 => (if t313 = true then (some false) else (impl_GrdOk.l0 k x22 x23 (wrap64 (x24 + 1)) x300000 x300001 x300002))) else (none)) else (none)) else (some false)))
end
def impl_GrdOk.f (k : Nat) (a0_0 : Int) (a0_1 : Int) (l0_2 : List (S41)) : Option (Bool) := (impl_in.f a0_0 1 8).bind fun t300 => (if t300 = true then ((impl_in.f a0_1 1 94).bind fun t301 => (if t301 = true then (impl_GrdOk.j0 k (decide ((l0_2.length : Int) > 40)) a0_0 a0_1 l0_2) else (impl_GrdOk.j0 k true a0_0 a0_1 l0_2))) else (impl_GrdOk.j0 k true a0_0 a0_1 l0_2))
theorem impl_GrdOk.mono_l : ∀ k, (∀ y0 y1 y2 y3, LeO (impl_GrdOk.j0 k y0 y1 y2 y3) (impl_GrdOk.j0 (k + 1) y0 y1 y2 y3)) ∧ (∀ y0 y1 y2 y3 y4 y5, LeO (impl_GrdOk.l0 k y0 y1 y2 y3 y4 y5) (impl_GrdOk.l0 (k + 1) y0 y1 y2 y3 y4 y5)) ∧ (∀ y0 y1 y2 y3 y4 y5 y6 y7 y8 y9 y10 y11 y12, LeO (impl_GrdOk.j2 k y0 y1 y2 y3 y4 y5 y6 y7 y8 y9 y10 y11 y12) (impl_GrdOk.j2 (k + 1) y0 y1 y2 y3 y4 y5 y6 y7 y8 y9 y10 y11 y12))
  | 0 => ⟨fun _ _ _ _ r h => by simp [impl_GrdOk.j0] at h, fun _ _ _ _ _ _ r h => by simp [impl_GrdOk.l0] at h, fun _ _ _ _ _ _ _ _ _ _ _ _ _ r h => by simp [impl_GrdOk.j2] at h⟩
  | k + 1 => by
    obtain ⟨ih0, ih1, ih2⟩ := impl_GrdOk.mono_l k
    refine ⟨?_, ?_, ?_⟩
    · intro y0 y1 y2 y3
      unfold impl_GrdOk.j0
      repeat' first
      | (with_reducible exact ih0 _ _ _ _)
      | (with_reducible exact ih1 _ _ _ _ _ _)
      | (with_reducible exact ih2 _ _ _ _ _ _ _ _ _ _ _ _ _)
      | (with_reducible exact impl_ccells.mono _ _ _ _ _ _ _)
      | (with_reducible exact LeO.refl _)
      | (with_reducible exact LeO.none _)
      | (with_reducible refine LeO.ite ?_ ?_)
      | (with_reducible refine LeO.bind ?_ (fun _ => ?_))
      | exact ih0 _ _ _ _
      | exact ih1 _ _ _ _ _ _
      | exact ih2 _ _ _ _ _ _ _ _ _ _ _ _ _
      | exact impl_ccells.mono _ _ _ _ _ _ _
      | exact LeO.none _
      | refine LeO.ite ?_ ?_
      | refine LeO.bind ?_ (fun _ => ?_)
    · intro y0 y1 y2 y3 y4 y5
      unfold impl_GrdOk.l0
      repeat' first
      | (with_reducible exact ih0 _ _ _ _)
      | (with_reducible exact ih1 _ _ _ _ _ _)
      | (with_reducible exact ih2 _ _ _ _ _ _ _ _ _ _ _ _ _)
      | (with_reducible exact impl_ccells.mono _ _ _ _ _ _ _)
      | (with_reducible exact LeO.refl _)
      | (with_reducible exact LeO.none _)
      | (with_reducible refine LeO.ite ?_ ?_)
      | (with_reducible refine LeO.bind ?_ (fun _ => ?_))
      | exact ih0 _ _ _ _
      | exact ih1 _ _ _ _ _ _
      | exact ih2 _ _ _ _ _ _ _ _ _ _ _ _ _
      | exact impl_ccells.mono _ _ _ _ _ _ _
      | exact LeO.none _
      | refine LeO.ite ?_ ?_
      | refine LeO.bind ?_ (fun _ => ?_)
    · intro y0 y1 y2 y3 y4 y5 y6 y7 y8 y9 y10 y11 y12
      unfold impl_GrdOk.j2
      repeat' first
      | (with_reducible exact ih0 _ _ _ _)
      | (with_reducible exact ih1 _ _ _ _ _ _)
      | (with_reducible exact ih2 _ _ _ _ _ _ _ _ _ _ _ _ _)
      | (with_reducible exact impl_ccells.mono _ _ _ _ _ _ _)
      | (with_reducible exact LeO.refl _)
      | (with_reducible exact LeO.none _)
      | (with_reducible refine LeO.ite ?_ ?_)
      | (with_reducible refine LeO.bind ?_ (fun _ => ?_))
      | exact ih0 _ _ _ _
      | exact ih1 _ _ _ _ _ _
      | exact ih2 _ _ _ _ _ _ _ _ _ _ _ _ _
      | exact impl_ccells.mono _ _ _ _ _ _ _
      | exact LeO.none _
      | refine LeO.ite ?_ ?_
      | refine LeO.bind ?_ (fun _ => ?_)
theorem impl_GrdOk.mono : ∀ a0 a1 a2 k, LeO (impl_GrdOk.f k a0 a1 a2) (impl_GrdOk.f (k + 1) a0 a1 a2) := by
  intro a0 a1 a2 k
  obtain ⟨ih0, ih1, ih2⟩ := impl_GrdOk.mono_l k
  unfold impl_GrdOk.f
  repeat' first
      | (with_reducible exact ih0 _ _ _ _)
      | (with_reducible exact ih1 _ _ _ _ _ _)
      | (with_reducible exact ih2 _ _ _ _ _ _ _ _ _ _ _ _ _)
      | (with_reducible exact impl_ccells.mono _ _ _ _ _ _ _)
      | (with_reducible exact LeO.refl _)
      | (with_reducible exact LeO.none _)
      | (with_reducible refine LeO.ite ?_ ?_)
      | (with_reducible refine LeO.bind ?_ (fun _ => ?_))
      | exact ih0 _ _ _ _
      | exact ih1 _ _ _ _ _ _
      | exact ih2 _ _ _ _ _ _ _ _ _ _ _ _ _
      | exact impl_ccells.mono _ _ _ _ _ _ _
      | exact LeO.none _
      | refine LeO.ite ?_ ?_
      | refine LeO.bind ?_ (fun _ => ?_)
def impl_GrdOk.T8 : Bool × List (List Nat × List Nat) := (true, [([], []), ([0], [0]), ([1], [1]), ([2], [2]), ([3, 2], [3]), ([4], [4]), ([5, 4], [4, 5]), ([4], [4]), ([6, 7, 4], [4, 6, 7]), ([4], [4]), ([9, 4], [4, 9]), ([8, 10, 4, 4], [4, 8, 10]), ([4, 11], [4, 11])])
def impl_GrdOk.B8 : List Nat := [0, 1, 3, 7, 15, 31, 63, 31, 255, 31, 543, 2047, 4095]
theorem impl_GrdOk.tab8 : rtab .any (opsOf Tryd.f14 8) = impl_GrdOk.T8 := by kernel_rfl
theorem impl_GrdOk.bits8 : waitsOk impl_GrdOk.T8.2 impl_GrdOk.B8 = true := by kernel_rfl
theorem impl_GrdOk.step {k : Nat} {i a b : Int} {l : List S41} {r : Bool} (hi : i < (l.length : Int)) (h : impl_GrdOk.l0 (k + 1) l (l.length : Int) i a b l = some r) :
    0 ≤ i ∧ ∃ x, x = rd_T41 l i ∧
    ((r = false ∧ (Aside0 (impl_in.f x.f0 0 (wrap64 (a - 1)) = some false) ∨ (Aside0 (impl_in.f x.f0 0 (wrap64 (a - 1)) = some true) ∧ Aside0 (impl_in.f x.f2 1 (wrap64 (a - x.f0)) = some false)) ∨
      (Aside0 (impl_in.f x.f0 0 (wrap64 (a - 1)) = some true) ∧ Aside0 (impl_in.f x.f2 1 (wrap64 (a - x.f0)) = some true) ∧ Aside0 (impl_in.f x.f1 0 (wrap64 (b - 1)) = some false)) ∨
      (Aside0 (impl_in.f x.f0 0 (wrap64 (a - 1)) = some true) ∧ Aside0 (impl_in.f x.f2 1 (wrap64 (a - x.f0)) = some true) ∧ Aside0 (impl_in.f x.f1 0 (wrap64 (b - 1)) = some true) ∧ Aside0 (impl_in.f x.f3 1 (wrap64 (b - x.f1)) = some false)))) ∨
    (Aside0 (impl_in.f x.f0 0 (wrap64 (a - 1)) = some true) ∧ Aside0 (impl_in.f x.f2 1 (wrap64 (a - x.f0)) = some true) ∧ Aside0 (impl_in.f x.f1 0 (wrap64 (b - 1)) = some true) ∧ Aside0 (impl_in.f x.f3 1 (wrap64 (b - x.f1)) = some true) ∧
      ((r = false ∧ Aside0 (impl_in.f x.f4 0 4 = some false)) ∨ (Aside0 (impl_in.f x.f4 0 4 = some true) ∧ ∃ q t, q < k ∧ Aside0 (impl_ccells.f q (l.take i.toNat) x.f0 x.f1 x.f2 x.f3 x.f4 = some t) ∧ ((t = true ∧ r = false) ∨ (t = false ∧ Aside0 (impl_GrdOk.l0 q l (l.length : Int) (wrap64 (i + 1)) a b l = some r))))))) := by
  have bad : ∀ y0 y1 y2 y3 y4, impl_GrdOk.j2 k i l (l.length : Int) i true a b l y0 y1 y2 y3 y4 = some r → r = false := by
    intro _ _ _ _ _ h
    cases k with
    | zero => unfold impl_GrdOk.j2 at h; cases h
    | succ k =>
      simp only [impl_GrdOk.j2, if_true] at h
      exact (Option.some.inj h).symm
  simp only [impl_GrdOk.l0] at h
  rw [if_pos hi] at h
  split at h
  · rename_i h0
    refine ⟨h0, _, rfl, ?_⟩
    first | rw [if_pos hi, Option.bind_eq_some_iff] at h | rw [Option.bind_eq_some_iff] at h
    obtain ⟨t1, h1, h⟩ := h
    cases t1
    · exact .inl ⟨bad _ _ _ _ _ h, .inl ⟨h1⟩⟩
    · rw [if_pos rfl, Option.bind_eq_some_iff] at h
      obtain ⟨t2, h2, h⟩ := h
      cases t2
      · exact .inl ⟨bad _ _ _ _ _ h, .inr (.inl ⟨⟨h1⟩, ⟨h2⟩⟩)⟩
      · rw [if_pos rfl, Option.bind_eq_some_iff] at h
        obtain ⟨t3, h3, h⟩ := h
        cases t3
        · exact .inl ⟨bad _ _ _ _ _ h, .inr (.inr (.inl ⟨⟨h1⟩, ⟨h2⟩, ⟨h3⟩⟩))⟩
        · rw [if_pos rfl, Option.bind_eq_some_iff] at h
          obtain ⟨t4, h4, h⟩ := h
          cases t4
          · exact .inl ⟨bad _ _ _ _ _ h, .inr (.inr (.inr ⟨⟨h1⟩, ⟨h2⟩, ⟨h3⟩, ⟨h4⟩⟩))⟩
          · refine .inr ⟨⟨h1⟩, ⟨h2⟩, ⟨h3⟩, ⟨h4⟩, ?_⟩
            cases k with
            | zero => unfold impl_GrdOk.j2 at h; cases h
            | succ k =>
              simp only [impl_GrdOk.j2, Bool.not_true, Bool.false_eq_true, if_false] at h
              rw [Option.bind_eq_some_iff] at h
              obtain ⟨t5, h5, h⟩ := h
              cases t5
              · exact .inl ⟨(Option.some.inj h).symm, ⟨h5⟩⟩
              · rw [if_pos rfl, if_pos h0, if_pos (Int.le_of_lt hi), Option.bind_eq_some_iff] at h
                obtain ⟨t6, h6, h⟩ := h
                refine .inr ⟨⟨h5⟩, k, t6, Nat.lt_succ_self _, ⟨h6⟩, ?_⟩
                cases t6
                · exact .inr ⟨rfl, ⟨h⟩⟩
                · exact .inl ⟨rfl, (Option.some.inj h).symm⟩
  · cases h
theorem impl_GrdOk.parts {k : Nat} {a b : Int} {l : List S41} {r : Bool} (h : impl_GrdOk.f k a b l = some r) :
    (r = false ∧ (Aside0 (impl_in.f a 1 8 = some false) ∨ (Aside0 (impl_in.f a 1 8 = some true) ∧ Aside0 (impl_in.f b 1 94 = some false)) ∨ (Aside0 (impl_in.f a 1 8 = some true) ∧ Aside0 (impl_in.f b 1 94 = some true) ∧ 40 < (l.length : Int)))) ∨
    (Aside0 (impl_in.f a 1 8 = some true) ∧ Aside0 (impl_in.f b 1 94 = some true) ∧ (l.length : Int) ≤ 40 ∧ ∃ q, Aside0 (impl_GrdOk.l0 q l (l.length : Int) 0 a b l = some r)) := by
  have bad : impl_GrdOk.j0 k true a b l = some r → r = false := by
    intro h
    cases k with
    | zero => unfold impl_GrdOk.j0 at h; cases h
    | succ k =>
      simp only [impl_GrdOk.j0, if_true] at h
      exact (Option.some.inj h).symm
  unfold impl_GrdOk.f at h
  rw [Option.bind_eq_some_iff] at h
  obtain ⟨t1, h1, h⟩ := h
  cases t1
  · exact .inl ⟨bad h, .inl ⟨h1⟩⟩
  · rw [if_pos rfl, Option.bind_eq_some_iff] at h
    obtain ⟨t2, h2, h⟩ := h
    cases t2
    · exact .inl ⟨bad h, .inr (.inl ⟨⟨h1⟩, ⟨h2⟩⟩)⟩
    · rw [if_pos rfl] at h
      by_cases hl : (l.length : Int) > 40
      · rw [decide_eq_true hl] at h
        exact .inl ⟨bad h, .inr (.inr ⟨⟨h1⟩, ⟨h2⟩, hl⟩)⟩
      · rw [decide_eq_false hl] at h
        refine .inr ⟨⟨h1⟩, ⟨h2⟩, by omega, ?_⟩
        cases k with
        | zero => unfold impl_GrdOk.j0 at h; cases h
        | succ k =>
          simp only [impl_GrdOk.j0, Bool.false_eq_true, if_false] at h
          exact ⟨k, ⟨h⟩⟩
theorem gk_cells (A : Option Addr) (n c : Nat) (l : List S41) (x0 x1 x2 x3 x4 : Int) (t : Bool) (W : World) (hr : Kd.C k41 W A l.length l) (hn : n ≤ l.length) (hc : l.length ≤ c) {q : Nat} (h : impl_ccells.f q (l.take n) x0 x1 x2 x3 x4 = some t) :
    Calls Tryd.prog 27 #[.slice A n c, .func (.func 28) #[.agg #[.int .i64 x0, .int .i64 x1, .int .i64 x2, .int .i64 x3, .int .i64 x4]] #[]] W fun e w' => e = .returned (.bool t) ∧ Below W.heap.size W w' := by
  have hl : (l.take n).length = n := by rw [List.length_take]; omega
  have := impl_ccells.calls q A c (l.take n) x0 x1 x2 x3 x4 t W (Kd.C_take hr hn) (by omega) h
  rwa [hl] at this
set_option maxHeartbeats 4000000 in
set_option maxRecDepth 100000 in
theorem impl_GrdOk.calls (k : Nat) (a0_0 : Int) (a0_1 : Int) (A0_2 : Option Addr) (c0_2 : Nat) (l0_2 : List S41) (r : Bool) (w : World) (hr0_2 : Kd.C k41 w A0_2 l0_2.length l0_2) (hc0_2 : l0_2.length ≤ c0_2) (h : impl_GrdOk.f k a0_0 a0_1 l0_2 = some r) :
    Calls Tryd.prog 14 #[.agg #[.int .i64 a0_0, .int .i64 a0_1, .slice A0_2 l0_2.length c0_2]] w fun e w' => e = .returned (.bool r) ∧ Below w.heap.size w w' := by
  have HR := Aside0.mk hr0_2
  have HC := Aside0.mk hc0_2
  have hbig := hr0_2.2.1
  clear hr0_2 hc0_2
  have hu1 := Tryd.underlying25
  have hu2 := Tryd.underlying41
  rcases impl_GrdOk.parts h with ⟨rfl, A1 | ⟨A1, A2⟩ | ⟨A1, A2, hl⟩⟩ | ⟨A1, A2, hl, q, AL⟩
  iterate 3
    · clear h
      go_enter Tryd.func14, Tryd.ntmps14
      go_wp2_with (go_at_call 26; (first | (with_reducible refine (impl_in.calls _ _ _ _ _ A1.out).mono ?_) | (with_reducible refine (impl_in.calls _ _ _ _ _ A2.out).mono ?_)); rintro e W' ⟨rfl, ⟨nd, rfl⟩⟩)
      go_ret
      exact ⟨rfl, by repeat (with_reducible first | exact Below.refl _ _ | apply below_alloc | apply pw_below_drewN | apply below_drew1)⟩
  clear h
  go_enter Tryd.func14, Tryd.ntmps14
  go_wp2_with (go_at_call 26; (first | (with_reducible refine (impl_in.calls _ _ _ _ _ A1.out).mono ?_) | (with_reducible refine (impl_in.calls _ _ _ _ _ A2.out).mono ?_)); rintro e W' ⟨rfl, ⟨nd, rfl⟩⟩)
  go_loopg [24] q (fun gg s24 wr => ∃ (q' : Nat) (i : Int), q' ≤ gg ∧ s24 = .int .i64 i ∧ Aside0 (impl_GrdOk.l0 q' l0_2 (l0_2.length : Int) i a0_0 a0_1 l0_2 = some r) ∧ Aside0 (wr.heap[w.heap.size]? = some (.cells #[.int .i64 a0_0, .int .i64 a0_1, .slice A0_2 l0_2.length c0_2] 25 (0, 0))) ∧ Aside0 (Below w.heap.size w wr))
  case atStart => exact ⟨q, 0, Nat.le_refl _, rfl, AL, ⟨by (with_reducible repeat (first | refine blk_drewN ?_ _ | refine blk_drew ?_)); exact blk_new w _⟩, ⟨by repeat (with_reducible first | exact Below.refl _ _ | apply below_alloc | apply pw_below_drewN | apply below_drew1)⟩⟩
  case round =>
    obtain ⟨q', i, hq, rfl, HL, HG, HB⟩ := hrel
    cases q' with
    | zero => exact absurd HL.out (by simp [impl_GrdOk.l0])
    | succ q' =>
      by_cases hlt : i < (l0_2.length : Int)
      · obtain ⟨h0, x, hx, hs⟩ := impl_GrdOk.step hlt HL.out
        obtain ⟨ad, hA, p0, p1, p2, p3, p4⟩ := at_T41 (Kd.C_below HR.out HB.out) i h0 hlt
        rw [← hx] at p0 p1 p2 p3 p4
        have hz : (0 : Int) ≤ (l0_2.length : Int) := by omega
        have hle : i ≤ (l0_2.length : Int) := by omega
        have hcap : (l0_2.length : Int) ≤ (c0_2 : Int) := by have := HC.out; omega
        have HX := Aside0.mk hx
        clear hx HL AL
        subst hA
        obtain ⟨n, rfl⟩ : ∃ n : Nat, i = n := ⟨i.toNat, by omega⟩
        rw [Int.toNat_natCast] at hs p0 p1 p2 p3 p4
        have HNL : Aside0 (n ≤ l0_2.length) := ⟨by omega⟩
        have g0 : wr.cell? ⟨w.heap.size, 0, none⟩ = some (.int .i64 a0_0) := (blk_cell HG.out 0).trans rfl
        have g1 : wr.cell? ⟨w.heap.size, 1, none⟩ = some (.int .i64 a0_1) := (blk_cell HG.out 1).trans rfl
        have n0 := alloc_cell HG.out
        have HN := Aside0.mk (blk_new wr (.cells (gcA x.f0 x.f1 x.f2 x.f3 x.f4) 41))
        replace HG := Aside0.mk (blk_alloc HG.out (.cells (gcA x.f0 x.f1 x.f2 x.f3 x.f4) 41))
        replace HB := Aside0.mk (below_alloc HB.out (.cells (gcA x.f0 x.f1 x.f2 x.f3 x.f4) 41))
        rcases hs with ⟨rfl, B1 | ⟨B1, B2⟩ | ⟨B1, B2, B3⟩ | ⟨B1, B2, B3, B4⟩⟩ | ⟨B1, B2, B3, B4, ⟨rfl, B5⟩ | ⟨B5, q2, t, hq2, B6, ⟨rfl, rfl⟩ | ⟨rfl, AL⟩⟩⟩
        iterate 4
          · go_wp2_with (go_at_call 26; (first | (with_reducible refine (impl_in.calls _ _ _ _ _ B1.out).mono ?_) | (with_reducible refine (impl_in.calls _ _ _ _ _ B2.out).mono ?_) | (with_reducible refine (impl_in.calls _ _ _ _ _ B3.out).mono ?_) | (with_reducible refine (impl_in.calls _ _ _ _ _ B4.out).mono ?_)); rintro e W' ⟨rfl, ⟨nd, rfl⟩⟩)
            go_ret
            exact ⟨rfl, by (repeat (with_reducible first | apply pw_below_drewN | apply below_drew1)); exact HB.out⟩
        iterate 2
          · go_wp2_with (go_at_call 26; (first | (with_reducible refine (impl_in.calls _ _ _ _ _ B1.out).mono ?_) | (with_reducible refine (impl_in.calls _ _ _ _ _ B2.out).mono ?_) | (with_reducible refine (impl_in.calls _ _ _ _ _ B3.out).mono ?_) | (with_reducible refine (impl_in.calls _ _ _ _ _ B4.out).mono ?_)); rintro e W' ⟨rfl, ⟨nd, rfl⟩⟩)
            refine wp_letter (fun W0 => W0.heap[w.heap.size]? = some (.cells #[.int .i64 a0_0, .int .i64 a0_1, .slice (some ad) l0_2.length c0_2] 25 (0, 0)) ∧ W0.heap[wr.heap.size]? = some (.cells (gcA x.f0 x.f1 x.f2 x.f3 x.f4) 41 (0, 0)) ∧ Below w.heap.size w W0) ⟨HG.out, HN.out, pw_below_drewN HB.out _⟩ ?_
            clear HG HN HB p0 p1 p2 p3 p4 g0 g1 n0
            intro W0 hW
            have HG := Aside0.mk hW.1
            have HN := Aside0.mk hW.2.1
            have HB := Aside0.mk hW.2.2
            clear hW
            obtain ⟨c0, c1, c2, c3, c4⟩ := gcA_cells HN.out
            have xc0 := Ext.cell c0
            have xc1 := Ext.cell c1
            have xc2 := Ext.cell c2
            have xc3 := Ext.cell c3
            have xc4 := Ext.cell c4
            have xg0 := Ext.cell ((blk_cell HG.out 0).trans rfl : _ = some (.int .i64 a0_0))
            have xg1 := Ext.cell ((blk_cell HG.out 1).trans rfl : _ = some (.int .i64 a0_1))
            have xg2 := Ext.cell ((blk_cell HG.out 2).trans rfl : _ = some (.slice (some ad) l0_2.length c0_2))
            clear c0 c1 c2 c3 c4
            refine region_ext (by kernel_rfl) (by kernel_rfl) ?_
            repeat (go_big_quiet_step (first | (go_at_call 26; first | exact Calls.ext0 (impl_in.calls _ _ _ _ _ B1.out) | exact Calls.ext0 (impl_in.calls _ _ _ _ _ B2.out) | exact Calls.ext0 (impl_in.calls _ _ _ _ _ B3.out) | exact Calls.ext0 (impl_in.calls _ _ _ _ _ B4.out) | exact Calls.ext0 (impl_in.calls _ _ _ _ _ B5.out)) | (go_at_call 27; exact Calls.ext (gk_cells _ _ _ _ _ _ _ _ _ _ _ (Kd.C_below HR.out (below_step HB.out (Ext.below _))) HNL.out HC.out B6.out))))
            refine wpQuiet_nil ?_
            rintro _ ⟨⟨W3, hb3⟩, rfl⟩
            clear xc0 xc1 xc2 xc3 xc4 xg0 xg1 xg2
            replace HG := Aside0.mk (blk_below HG.out hb3)
            replace HN := Aside0.mk (blk_below HN.out hb3)
            replace HB := Aside0.mk (below_step HB.out hb3)
            clear hb3
            go_wp2
            go_ret
            exact ⟨rfl, HB.out⟩
        go_wp2_with (go_at_call 26; (first | (with_reducible refine (impl_in.calls _ _ _ _ _ B1.out).mono ?_) | (with_reducible refine (impl_in.calls _ _ _ _ _ B2.out).mono ?_) | (with_reducible refine (impl_in.calls _ _ _ _ _ B3.out).mono ?_) | (with_reducible refine (impl_in.calls _ _ _ _ _ B4.out).mono ?_)); rintro e W' ⟨rfl, ⟨nd, rfl⟩⟩)
        refine wp_letter (fun W0 => W0.heap[w.heap.size]? = some (.cells #[.int .i64 a0_0, .int .i64 a0_1, .slice (some ad) l0_2.length c0_2] 25 (0, 0)) ∧ W0.heap[wr.heap.size]? = some (.cells (gcA x.f0 x.f1 x.f2 x.f3 x.f4) 41 (0, 0)) ∧ Below w.heap.size w W0) ⟨HG.out, HN.out, pw_below_drewN HB.out _⟩ ?_
        clear HG HN HB p0 p1 p2 p3 p4 g0 g1 n0
        intro W0 hW
        have HG := Aside0.mk hW.1
        have HN := Aside0.mk hW.2.1
        have HB := Aside0.mk hW.2.2
        clear hW
        obtain ⟨c0, c1, c2, c3, c4⟩ := gcA_cells HN.out
        have xc0 := Ext.cell c0
        have xc1 := Ext.cell c1
        have xc2 := Ext.cell c2
        have xc3 := Ext.cell c3
        have xc4 := Ext.cell c4
        have xg0 := Ext.cell ((blk_cell HG.out 0).trans rfl : _ = some (.int .i64 a0_0))
        have xg1 := Ext.cell ((blk_cell HG.out 1).trans rfl : _ = some (.int .i64 a0_1))
        have xg2 := Ext.cell ((blk_cell HG.out 2).trans rfl : _ = some (.slice (some ad) l0_2.length c0_2))
        clear c0 c1 c2 c3 c4
        refine region_ext (by kernel_rfl) (by kernel_rfl) ?_
        repeat (go_big_quiet_step (first | (go_at_call 26; first | exact Calls.ext0 (impl_in.calls _ _ _ _ _ B1.out) | exact Calls.ext0 (impl_in.calls _ _ _ _ _ B2.out) | exact Calls.ext0 (impl_in.calls _ _ _ _ _ B3.out) | exact Calls.ext0 (impl_in.calls _ _ _ _ _ B4.out) | exact Calls.ext0 (impl_in.calls _ _ _ _ _ B5.out)) | (go_at_call 27; exact Calls.ext (gk_cells _ _ _ _ _ _ _ _ _ _ _ (Kd.C_below HR.out (below_step HB.out (Ext.below _))) HNL.out HC.out B6.out))))
        refine wpQuiet_nil ?_
        rintro _ ⟨⟨W3, hb3⟩, rfl⟩
        clear xc0 xc1 xc2 xc3 xc4 xg0 xg1 xg2
        replace HG := Aside0.mk (blk_below HG.out hb3)
        replace HN := Aside0.mk (blk_below HN.out hb3)
        replace HB := Aside0.mk (below_step HB.out hb3)
        clear hb3
        go_wp2
        go_roundg q2
        case measure => omega
        case rel => exact ⟨q2, (n : Int) + 1, Nat.le_refl _, rfl, ⟨by rw [show ((n : Int) + 1) = wrap64 ((n : Int) + 1) by unfold wrap64; omega]; exact AL.out⟩, HG, HB⟩
      · have hl := HL.out
        simp only [impl_GrdOk.l0] at hl
        rw [if_neg hlt] at hl
        obtain rfl := Option.some.inj hl
        clear hl HL
        go_wp2
        go_ret
        exact ⟨rfl, HB.out⟩

/-! ### bits_Mul32: function 39 -/
def bits_Mul32.f (a0 : Int) (a1 : Int) : Option (Int × Int) := some (((IntKind.u64.wrap ((IntKind.u64.wrap (a0)) * (IntKind.u64.wrap (a1)))) / 4294967296) % 4294967296, (IntKind.u64.wrap ((IntKind.u64.wrap (a0)) * (IntKind.u64.wrap (a1)))) % 4294967296)
set_option maxHeartbeats 8000000 in
set_option maxRecDepth 100000 in
theorem bits_Mul32.calls (a0 : Int) (a1 : Int) (r1 : Int) (r2 : Int) (w : World) (h : bits_Mul32.f a0 a1 = some (r1, r2)) :
    Calls Tryd.prog 39 #[.int .u32 a0, .int .u32 a1] w fun e w' => e = .returned (.tuple #[.int .u32 r1, .int .u32 r2]) ∧ Drawn0 w w' := by
  have H : (some (((IntKind.u64.wrap ((IntKind.u64.wrap (a0)) * (IntKind.u64.wrap (a1)))) / 4294967296) % 4294967296, (IntKind.u64.wrap ((IntKind.u64.wrap (a0)) * (IntKind.u64.wrap (a1)))) % 4294967296)) = some (r1, r2) := h
  clear h
  simp only [Option.some.injEq, Prod.mk.injEq] at H
  obtain ⟨rfl, rfl⟩ := H
  go_enter Tryd.func39, Tryd.ntmps39
  go_wp2
  go_ret2
  exact ⟨by first | rfl | (simp [IntKind.wrap_i64, wrap64]; done) | (simp; done) | (simp [*]; done), by repeat (first | exact Drawn0.refl _ | apply Drawn0.step)⟩

/-! ### bits_Mul64: function 40 -/
def bits_Mul64.f (a0 : Int) (a1 : Int) : Option (Int × Int) := some (IntKind.u64.wrap ((IntKind.u64.wrap ((IntKind.u64.wrap ((a0 / 4294967296) * (a1 / 4294967296))) + ((IntKind.u64.wrap ((IntKind.u64.wrap ((a0 / 4294967296) * (Go.bits .and .u64 a1 4294967295))) + ((IntKind.u64.wrap ((Go.bits .and .u64 a0 4294967295) * (Go.bits .and .u64 a1 4294967295))) / 4294967296))) / 4294967296))) + ((IntKind.u64.wrap ((Go.bits .and .u64 (IntKind.u64.wrap ((IntKind.u64.wrap ((a0 / 4294967296) * (Go.bits .and .u64 a1 4294967295))) + ((IntKind.u64.wrap ((Go.bits .and .u64 a0 4294967295) * (Go.bits .and .u64 a1 4294967295))) / 4294967296))) 4294967295) + (IntKind.u64.wrap ((Go.bits .and .u64 a0 4294967295) * (a1 / 4294967296))))) / 4294967296)), IntKind.u64.wrap (a0 * a1))
set_option maxHeartbeats 8000000 in
set_option maxRecDepth 100000 in
theorem bits_Mul64.calls (a0 : Int) (a1 : Int) (r1 : Int) (r2 : Int) (w : World) (h : bits_Mul64.f a0 a1 = some (r1, r2)) :
    Calls Tryd.prog 40 #[.int .u64 a0, .int .u64 a1] w fun e w' => e = .returned (.tuple #[.int .u64 r1, .int .u64 r2]) ∧ Drawn0 w w' := by
  have H : (some (IntKind.u64.wrap ((IntKind.u64.wrap ((IntKind.u64.wrap ((a0 / 4294967296) * (a1 / 4294967296))) + ((IntKind.u64.wrap ((IntKind.u64.wrap ((a0 / 4294967296) * (Go.bits .and .u64 a1 4294967295))) + ((IntKind.u64.wrap ((Go.bits .and .u64 a0 4294967295) * (Go.bits .and .u64 a1 4294967295))) / 4294967296))) / 4294967296))) + ((IntKind.u64.wrap ((Go.bits .and .u64 (IntKind.u64.wrap ((IntKind.u64.wrap ((a0 / 4294967296) * (Go.bits .and .u64 a1 4294967295))) + ((IntKind.u64.wrap ((Go.bits .and .u64 a0 4294967295) * (Go.bits .and .u64 a1 4294967295))) / 4294967296))) 4294967295) + (IntKind.u64.wrap ((Go.bits .and .u64 a0 4294967295) * (a1 / 4294967296))))) / 4294967296)), IntKind.u64.wrap (a0 * a1))) = some (r1, r2) := h
  clear h
  simp only [Option.some.injEq, Prod.mk.injEq] at H
  obtain ⟨rfl, rfl⟩ := H
  go_enter Tryd.func40, Tryd.ntmps40
  go_wp2
  go_ret2
  exact ⟨by first | rfl | (simp [IntKind.wrap_i64, wrap64]; done) | (simp; done) | (simp [*]; done), by repeat (first | exact Drawn0.refl _ | apply Drawn0.step)⟩

/-! ### bits_Mul: function 29 -/
def bits_Mul.f (a0 : Int) (a1 : Int) : Option (Int × Int) := (bits_Mul64.f a0 a1).bind fun bt314 => (some (bt314.1, bt314.2))
set_option maxHeartbeats 8000000 in
set_option maxRecDepth 100000 in
theorem bits_Mul.calls (a0 : Int) (a1 : Int) (r1 : Int) (r2 : Int) (w : World) (h : bits_Mul.f a0 a1 = some (r1, r2)) :
    Calls Tryd.prog 29 #[.int .u64 a0, .int .u64 a1] w fun e w' => e = .returned (.tuple #[.int .u64 r1, .int .u64 r2]) ∧ Drawn0 w w' := by
  have H : ((bits_Mul64.f a0 a1).bind fun bt314 => (some (bt314.1, bt314.2))) = some (r1, r2) := h
  clear h
  replace H := Option.bind_eq_some_iff.mp H
  obtain ⟨⟨t314, t315⟩, A30, H⟩ := H
  replace H : (some (t314, t315)) = some (r1, r2) := H
  have A3 := Aside0.mk A30
  clear A30
  simp only [Option.some.injEq, Prod.mk.injEq] at H
  obtain ⟨rfl, rfl⟩ := H
  go_enter Tryd.func29, Tryd.ntmps29
  go_wp2_with (first | ((with_reducible refine gate_callee (f := 40) rfl ?_); refine goesL_ (some 25) rfl rfl Tryd.func40 (by kernel_rfl) rfl #[.int .u64 a0, .int .u64 a1] rfl (by (try simp only [List.map_toArray, List.map_cons, List.map_nil]); first | done | rfl | (simp only [List.length_drop, List.length_take]; rfl)) ?_; (with_reducible refine (bits_Mul64.calls a0 a1 t314 t315 _ A3.out).mono ?_); rintro e w' ⟨rfl, ⟨nd, rfl⟩⟩; refine ⟨_, rfl, ?_⟩))
  go_ret2
  exact ⟨by first | rfl | (simp [IntKind.wrap_i64, wrap64]; done) | (simp; done) | (simp [*]; done), by repeat (first | exact Drawn0.refl _ | apply Drawn0.step)⟩


end Go.Proofs.YtalnklnfiopaoadDoor.Q
