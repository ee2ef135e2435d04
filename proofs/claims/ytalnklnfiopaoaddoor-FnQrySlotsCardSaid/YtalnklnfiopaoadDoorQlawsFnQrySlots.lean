-- Told by a program of this session (uprint.py, ulay.py).
import Derived.Test.YtalnklnfiopaoadDoorQ0
import Derived.Test.YtalnklnfiopaoadDoorQspecDrawQrySlots
import Derived.Test.YtalnklnfiopaoadDoorQbytesRepeat
import Derived.Test.YtalnklnfiopaoadDoorQspecQrySlots
namespace Go.Proofs.YtalnklnfiopaoadDoor.Q
open Go.RowKit Go.Proofs.YtalnklnfiopaoadDoorW.PrintWords Go.Proofs.YtalnklnfiopaoadDoorW.PrintLast Go.Proofs.YtalnklnfiopaoadDoorW.PrintMore
attribute [local go_sem] max2_int min2_int max_two min_two max_three min_three max_four min_four
set_option linter.unusedVariables false
set_option linter.unusedSimpArgs false

/-! ### laws_FnQrySlots: function 3 -/
mutual
def laws_FnQrySlots.l0 : Nat → List ByteArray → Int → Int → Int → Int → List (S41) → Option (Bool)
  | 0, _, _, _, _, _, _ => none
  | k + 1, x4, x5, x6, x365000, x365001, x365002 => if x6 < (x4.length : Int) then (if 0 ≤ x6 then (if ((rdOf ByteArray.empty x4 x6).size : Int) = x365001 then (laws_FnQrySlots.l1 k x4 x5 x6 0 x365000 x365001 x365002) else (some false)) else (none)) else (if (x4.length : Int) = x365000 then ((impl_GrdEmpty.f k x365000 x365001 x365002).bind fun t374 => (some (x5 == t374))) else (some false))
def laws_FnQrySlots.l1 : Nat → List ByteArray → Int → Int → Int → Int → Int → List (S41) → Option (Bool)
  | 0, _, _, _, _, _, _, _ => none
  | k + 1, x4, x5, x6, x7, x365000, x365001, x365002 => if x7 < x365001 then (if 0 ≤ x6 then (if x6 < (x4.length : Int) then (if 0 ≤ x7 then (if x7 < ((rdOf ByteArray.empty x4 x6).size : Int) then (if (bt (rdOf ByteArray.empty x4 x6) x7) = 46 then ((impl_GrdAt.f k x365000 x365001 x365002 x6 x7).bind fun t378 => (if (((bt (rdOf ByteArray.empty x4 x6) x7) == 46) != (decide (t378 < 0))) = true then (some false) else (laws_FnQrySlots.l1 k x4 (wrap64 (x5 + 1)) x6 (wrap64 (x7 + 1)) x365000 x365001 x365002))) else ((impl_GrdAt.f k x365000 x365001 x365002 x6 x7).bind fun t380 => (if (((bt (rdOf ByteArray.empty x4 x6) x7) == 46) != (decide (t380 < 0))) = true then (some false) else (laws_FnQrySlots.l1 k x4 x5 x6 (wrap64 (x7 + 1)) x365000 x365001 x365002)))) else (none)) else (none)) else (none)) else (none)) else (laws_FnQrySlots.l0 k x4 x5 (wrap64 (x6 + 1)) x365000 x365001 x365002)
end
def laws_FnQrySlots.f (k : Nat) (l0 : List Int) : Option (Bool) := if (l0.length : Int) > 1048576 then (some true) else ((spec_DrawQrySlots.f k l0).bind fun bt359 => ((impl_QrySlots.f k bt359.1 bt359.2.1 bt359.2.2).bind fun t365 => ((spec_QrySlots.f k bt359.1 bt359.2.1 bt359.2.2).bind fun t368 => ((laws_pwTexts.f k t365 t368).bind fun t371 => (if t371 = true then ((spec_GrdOk.f k bt359.1 bt359.2.1 bt359.2.2).bind fun t372 => (if t372 = true then (laws_FnQrySlots.l0 k t365 0 0 bt359.1 bt359.2.1 bt359.2.2) else (if (t365.length : Int) = 0 then ((laws_pwOk.f).bind fun t373 => (some t373)) else (some false)))) else (some false))))))
theorem laws_FnQrySlots.mono_l : ∀ k, (∀ y0 y1 y2 y3 y4 y5, LeO (laws_FnQrySlots.l0 k y0 y1 y2 y3 y4 y5) (laws_FnQrySlots.l0 (k + 1) y0 y1 y2 y3 y4 y5)) ∧ (∀ y0 y1 y2 y3 y4 y5 y6, LeO (laws_FnQrySlots.l1 k y0 y1 y2 y3 y4 y5 y6) (laws_FnQrySlots.l1 (k + 1) y0 y1 y2 y3 y4 y5 y6))
  | 0 => ⟨fun _ _ _ _ _ _ r h => by simp [laws_FnQrySlots.l0] at h, fun _ _ _ _ _ _ _ r h => by simp [laws_FnQrySlots.l1] at h⟩
  | k + 1 => by
    obtain ⟨ih0, ih1⟩ := laws_FnQrySlots.mono_l k
    refine ⟨?_, ?_⟩
    · intro y0 y1 y2 y3 y4 y5
      unfold laws_FnQrySlots.l0
      repeat' first
      | (with_reducible exact ih0 _ _ _ _ _ _)
      | (with_reducible exact ih1 _ _ _ _ _ _ _)
      | (with_reducible exact impl_GrdAt.mono _ _ _ _ _ _)
      | (with_reducible exact impl_GrdEmpty.mono _ _ _ _)
      | (with_reducible exact impl_QrySlots.mono _ _ _ _)
      | (with_reducible exact laws_pwTexts.mono _ _ _)
      | (with_reducible exact spec_DrawQrySlots.mono _ _)
      | (with_reducible exact spec_GrdOk.mono _ _ _ _)
      | (with_reducible exact spec_QrySlots.mono _ _ _ _)
      | (with_reducible exact LeO.refl _)
      | (with_reducible exact LeO.none _)
      | (with_reducible refine LeO.ite ?_ ?_)
      | (with_reducible refine LeO.bind ?_ (fun _ => ?_))
      | exact ih0 _ _ _ _ _ _
      | exact ih1 _ _ _ _ _ _ _
      | exact impl_GrdAt.mono _ _ _ _ _ _
      | exact impl_GrdEmpty.mono _ _ _ _
      | exact impl_QrySlots.mono _ _ _ _
      | exact laws_pwTexts.mono _ _ _
      | exact spec_DrawQrySlots.mono _ _
      | exact spec_GrdOk.mono _ _ _ _
      | exact spec_QrySlots.mono _ _ _ _
      | exact LeO.none _
      | refine LeO.ite ?_ ?_
      | refine LeO.bind ?_ (fun _ => ?_)
    · intro y0 y1 y2 y3 y4 y5 y6
      unfold laws_FnQrySlots.l1
      repeat' first
      | (with_reducible exact ih0 _ _ _ _ _ _)
      | (with_reducible exact ih1 _ _ _ _ _ _ _)
      | (with_reducible exact impl_GrdAt.mono _ _ _ _ _ _)
      | (with_reducible exact impl_GrdEmpty.mono _ _ _ _)
      | (with_reducible exact impl_QrySlots.mono _ _ _ _)
      | (with_reducible exact laws_pwTexts.mono _ _ _)
      | (with_reducible exact spec_DrawQrySlots.mono _ _)
      | (with_reducible exact spec_GrdOk.mono _ _ _ _)
      | (with_reducible exact spec_QrySlots.mono _ _ _ _)
      | (with_reducible exact LeO.refl _)
      | (with_reducible exact LeO.none _)
      | (with_reducible refine LeO.ite ?_ ?_)
      | (with_reducible refine LeO.bind ?_ (fun _ => ?_))
      | exact ih0 _ _ _ _ _ _
      | exact ih1 _ _ _ _ _ _ _
      | exact impl_GrdAt.mono _ _ _ _ _ _
      | exact impl_GrdEmpty.mono _ _ _ _
      | exact impl_QrySlots.mono _ _ _ _
      | exact laws_pwTexts.mono _ _ _
      | exact spec_DrawQrySlots.mono _ _
      | exact spec_GrdOk.mono _ _ _ _
      | exact spec_QrySlots.mono _ _ _ _
      | exact LeO.none _
      | refine LeO.ite ?_ ?_
      | refine LeO.bind ?_ (fun _ => ?_)
theorem laws_FnQrySlots.mono : ∀ a0 k, LeO (laws_FnQrySlots.f k a0) (laws_FnQrySlots.f (k + 1) a0) := by
  intro a0 k
  obtain ⟨ih0, ih1⟩ := laws_FnQrySlots.mono_l k
  unfold laws_FnQrySlots.f
  repeat' first
      | (with_reducible exact ih0 _ _ _ _ _ _)
      | (with_reducible exact ih1 _ _ _ _ _ _ _)
      | (with_reducible exact impl_GrdAt.mono _ _ _ _ _ _)
      | (with_reducible exact impl_GrdEmpty.mono _ _ _ _)
      | (with_reducible exact impl_QrySlots.mono _ _ _ _)
      | (with_reducible exact laws_pwTexts.mono _ _ _)
      | (with_reducible exact spec_DrawQrySlots.mono _ _)
      | (with_reducible exact spec_GrdOk.mono _ _ _ _)
      | (with_reducible exact spec_QrySlots.mono _ _ _ _)
      | (with_reducible exact LeO.refl _)
      | (with_reducible exact LeO.none _)
      | (with_reducible refine LeO.ite ?_ ?_)
      | (with_reducible refine LeO.bind ?_ (fun _ => ?_))
      | exact ih0 _ _ _ _ _ _
      | exact ih1 _ _ _ _ _ _ _
      | exact impl_GrdAt.mono _ _ _ _ _ _
      | exact impl_GrdEmpty.mono _ _ _ _
      | exact impl_QrySlots.mono _ _ _ _
      | exact laws_pwTexts.mono _ _ _
      | exact spec_DrawQrySlots.mono _ _
      | exact spec_GrdOk.mono _ _ _ _
      | exact spec_QrySlots.mono _ _ _ _
      | exact LeO.none _
      | refine LeO.ite ?_ ?_
      | refine LeO.bind ?_ (fun _ => ?_)
def laws_FnQrySlots.T13 : Bool × List (List Nat × List Nat) := (true, [([], []), ([], []), ([0, 1], [0, 1]), ([2], [2]), ([3], [3]), ([], []), ([5], [5]), ([4, 6], [4, 6])])
def laws_FnQrySlots.B13 : List Nat := [0, 0, 3, 7, 15, 0, 32, 127]
theorem laws_FnQrySlots.tab13 : rtab .any (opsOf Tryd.f3 13) = laws_FnQrySlots.T13 := by kernel_rfl
theorem laws_FnQrySlots.bits13 : waitsOk laws_FnQrySlots.T13.2 laws_FnQrySlots.B13 = true := by kernel_rfl
def laws_FnQrySlots.T20 : Bool × List (List Nat × List Nat) := (true, [([], []), ([], []), ([0, 1], [0, 1]), ([2], [2]), ([], []), ([3, 4], [3, 4]), ([5], [5]), ([], []), ([], []), ([], []), ([7, 8, 9], [7, 8, 9]), ([10], [10]), ([6, 11], [6, 11])])
def laws_FnQrySlots.B20 : List Nat := [0, 0, 3, 7, 0, 31, 63, 0, 0, 0, 896, 1920, 4095]
theorem laws_FnQrySlots.tab20 : rtab .any (opsOf Tryd.f3 20) = laws_FnQrySlots.T20 := by kernel_rfl
theorem laws_FnQrySlots.bits20 : waitsOk laws_FnQrySlots.T20.2 laws_FnQrySlots.B20 = true := by kernel_rfl
set_option maxHeartbeats 8000000 in
set_option maxRecDepth 100000 in
theorem laws_FnQrySlots.calls (k : Nat) (A0 : Option Addr) (c0 : Nat) (l0 : List Int) (r : Bool) (w : World) (hr0 : Kd.C (Kd.int .u8) w A0 l0.length l0) (hc0 : l0.length ≤ c0) (hM : Txt.MLen w) (h : laws_FnQrySlots.f k l0 = some r) :
    Calls Tryd.prog 3 #[.slice A0 l0.length c0] w fun e w' => e = .returned (.bool r) ∧ Below w.heap.size w w' := by
  have HM := Aside0.mk hM
  clear hM
  have hu25 := Tryd.underlying25
  have HR0 := Aside0.mk hr0
  have HC0 := Aside0.mk hc0
  clear hr0 hc0
  have HB := Aside0.mk (Below.refl w.heap.size w)
  have H : (if (l0.length : Int) > 1048576 then (some true) else ((spec_DrawQrySlots.f k l0).bind fun bt359 => ((impl_QrySlots.f k bt359.1 bt359.2.1 bt359.2.2).bind fun t365 => ((spec_QrySlots.f k bt359.1 bt359.2.1 bt359.2.2).bind fun t368 => ((laws_pwTexts.f k t365 t368).bind fun t371 => (if t371 = true then ((spec_GrdOk.f k bt359.1 bt359.2.1 bt359.2.2).bind fun t372 => (if t372 = true then (laws_FnQrySlots.l0 k t365 0 0 bt359.1 bt359.2.1 bt359.2.2) else (if (t365.length : Int) = 0 then ((laws_pwOk.f).bind fun t373 => (some t373)) else (some false)))) else (some false))))))) = some r := h
  clear h
  by_cases c2 : (l0.length : Int) > 1048576
  · rw [if_pos c2] at H
    have c2b0 : decide (1048576 < (l0.length : Int)) = true := decide_eq_true c2
    have c2b1 : decide (1048576 < l0.length) = true := decide_eq_true (by omega)
    clear c2
    obtain rfl := Option.some.inj H
    go_enter Tryd.func3, Tryd.ntmps3
    go_wp2
    go_ret
    exact ⟨by first | rfl | (simp [IntKind.wrap_i64, wrap64]; done) | (simp [errW_none, errW_some] <;> rfl) | (simp [*, errW_none, errW_some] <;> rfl), by repeat (first | (with_reducible first | exact HB.out | apply below_alloc | apply pw_below_drewN | apply below_drew1) | exact HB.out)⟩
  · rw [if_neg c2] at H
    have c2b0 : decide (1048576 < (l0.length : Int)) = false := decide_eq_false c2
    have c2b1 : decide (1048576 < l0.length) = false := decide_eq_false (by omega)
    clear c2
    replace H := Option.bind_eq_some_iff.mp H
    obtain ⟨⟨t359, t360, t361⟩, A30, H⟩ := H
    replace H : ((impl_QrySlots.f k t359 t360 t361).bind fun t365 => ((spec_QrySlots.f k t359 t360 t361).bind fun t368 => ((laws_pwTexts.f k t365 t368).bind fun t371 => (if t371 = true then ((spec_GrdOk.f k t359 t360 t361).bind fun t372 => (if t372 = true then (laws_FnQrySlots.l0 k t365 0 0 t359 t360 t361) else (if (t365.length : Int) = 0 then ((laws_pwOk.f).bind fun t373 => (some t373)) else (some false)))) else (some false))))) = some r := H
    have A3 := Aside0.mk A30
    clear A30
    replace H := Option.bind_eq_some_iff.mp H
    obtain ⟨t365, A40, H⟩ := H
    replace H : ((spec_QrySlots.f k t359 t360 t361).bind fun t368 => ((laws_pwTexts.f k t365 t368).bind fun t371 => (if t371 = true then ((spec_GrdOk.f k t359 t360 t361).bind fun t372 => (if t372 = true then (laws_FnQrySlots.l0 k t365 0 0 t359 t360 t361) else (if (t365.length : Int) = 0 then ((laws_pwOk.f).bind fun t373 => (some t373)) else (some false)))) else (some false)))) = some r := H
    have A4 := Aside0.mk A40
    clear A40
    replace H := Option.bind_eq_some_iff.mp H
    obtain ⟨t368, A50, H⟩ := H
    replace H : ((laws_pwTexts.f k t365 t368).bind fun t371 => (if t371 = true then ((spec_GrdOk.f k t359 t360 t361).bind fun t372 => (if t372 = true then (laws_FnQrySlots.l0 k t365 0 0 t359 t360 t361) else (if (t365.length : Int) = 0 then ((laws_pwOk.f).bind fun t373 => (some t373)) else (some false)))) else (some false))) = some r := H
    have A5 := Aside0.mk A50
    clear A50
    replace H := Option.bind_eq_some_iff.mp H
    obtain ⟨t371, A60, H⟩ := H
    replace H : (if t371 = true then ((spec_GrdOk.f k t359 t360 t361).bind fun t372 => (if t372 = true then (laws_FnQrySlots.l0 k t365 0 0 t359 t360 t361) else (if (t365.length : Int) = 0 then ((laws_pwOk.f).bind fun t373 => (some t373)) else (some false)))) else (some false)) = some r := H
    have A6 := Aside0.mk A60
    clear A60
    by_cases c7 : t371 = true
    · subst c7
      have H1 : ((spec_GrdOk.f k t359 t360 t361).bind fun t372 => (if t372 = true then (laws_FnQrySlots.l0 k t365 0 0 t359 t360 t361) else (if (t365.length : Int) = 0 then ((laws_pwOk.f).bind fun t373 => (some t373)) else (some false)))) = some r := by rw [if_pos rfl] at H; exact H
      clear H
      have H := H1
      clear H1
      replace H := Option.bind_eq_some_iff.mp H
      obtain ⟨t372, A80, H⟩ := H
      replace H : (if t372 = true then (laws_FnQrySlots.l0 k t365 0 0 t359 t360 t361) else (if (t365.length : Int) = 0 then ((laws_pwOk.f).bind fun t373 => (some t373)) else (some false))) = some r := H
      have A8 := Aside0.mk A80
      clear A80
      by_cases c9 : t372 = true
      · subst c9
        have H1 : (laws_FnQrySlots.l0 k t365 0 0 t359 t360 t361) = some r := by rw [if_pos rfl] at H; exact H
        clear H
        have H := H1
        clear H1
        have H' := Aside0.mk H
        clear H
        go_enter Tryd.func3, Tryd.ntmps3
        go_wp2_with (first | ((with_reducible refine gate_callee (f := 4) rfl ?_); refine goesL_ (some 12) rfl rfl Tryd.func4 (by kernel_rfl) rfl #[.slice A0 l0.length c0] rfl (by (try simp only [List.map_toArray, List.map_cons, List.map_nil]); first | done | rfl | (simp only [List.length_drop, List.length_take]; rfl)) ?_; (with_reducible refine (spec_DrawQrySlots.calls k _ _ l0 t359 t360 t361 _ ?side1 ?side2 A3.out).mono ?_); (case side1 => repeat (first | exact HR0.out | (with_reducible refine Kd.C_alloc ?_ _) | (with_reducible refine Kd.C_drewN ?_ _) | (with_reducible refine Kd.C_drew ?_))); (case side2 => exact HC0.out); rintro e w10 ⟨v362, rfl, ho0, hb⟩; refine ⟨_, rfl, ?_⟩; have n0_ := Aside0.mk (Kd.R_lower ho0 (below_size (by repeat (first | (with_reducible first | exact HB.out | apply below_alloc | apply pw_below_drewN | apply below_drew1) | exact HB.out)))); have n1_ := Aside0.mk (below_step (by repeat (first | (with_reducible first | exact HB.out | apply below_alloc | apply pw_below_drewN | apply below_drew1) | exact HB.out)) hb); clear HB; have HO363 := n0_; have HB := n1_; clear n0_ n1_; (try clear hb); (try clear hb2); (try clear hk); (try clear hi); (try clear ho0)) | ((with_reducible refine gate_dst (N := 3) rfl ?_); refine box_event ?hg (N := 3) ?hd (cs := #[.int .i64 0, .int .i64 0, .slice none 0 0]) (t := 25) ?hr ?_; (case hd => rfl); (case hg => rfl); (case hr => first | (go_simp; done) | (go_simp; rfl)); intro gb364 hg w11 hbox hb; have n0_ := Aside0.mk (Kd.R_below (by (with_reducible repeat (first | apply Kd.R_alloc | apply Kd.R_drewN | apply Kd.R_drew)); exact HO363.out) hb); have n1_ := Aside0.mk (below_step (by repeat (first | (with_reducible first | exact HB.out | apply below_alloc | apply pw_below_drewN | apply below_drew1) | exact HB.out)) hb); have n2_ := Aside0.mk (hbox); have n3_ := Aside0.mk ((by rw [hg]; exact (below_size (by repeat (first | (with_reducible first | exact HB.out | apply below_alloc | apply pw_below_drewN | apply below_drew1) | exact HB.out))) : w.heap.size ≤ gb364)); have n4_ := Aside0.mk ((by rw [hg]; exact (below_size (by repeat (first | (with_reducible first | exact HB.out | apply below_alloc | apply pw_below_drewN | apply below_drew1) | exact HB.out))) : w.heap.size ≤ gb364)); clear HO363; clear HB; have HO363 := n0_; have HB := n1_; have BK364 := n2_; have GW364 := n3_; have GE364 := n4_; clear n0_ n1_ n2_ n3_ n4_; clear hb hbox hg; have hcz12_0 : w11.cell? ⟨gb364, 0, none⟩ = some (.int .i64 0) := (blk_cell BK364.out 0).trans rfl; have hcz12_1 : w11.cell? ⟨gb364, 1, none⟩ = some (.int .i64 0) := (blk_cell BK364.out 1).trans rfl; have hcz12_2 : w11.cell? ⟨gb364, 2, none⟩ = some (.slice none 0 0) := (blk_cell BK364.out 2).trans rfl; have hfz12_0 := blk_frozen BK364.out 0; have hfz12_1 := blk_frozen BK364.out 1; have hfz12_2 := blk_frozen BK364.out 2; obtain ⟨Ao13, co13, eo13⟩ := Kd.R_slice HO363.out; subst eo13) | ((with_reducible refine gate_callee (f := 5) rfl ?_); refine goesL_ (some 14) rfl rfl Tryd.func5 (by kernel_rfl) rfl #[.agg #[.int .i64 t359, .int .i64 t360, .slice Ao13 t361.length co13]] rfl (by (try simp only [List.map_toArray, List.map_cons, List.map_nil]); first | done | rfl | (simp only [List.length_drop, List.length_take]; rfl)) ?_; (with_reducible refine (impl_QrySlots.calls k t359 t360 _ _ t361 t365 _ ?side1 ?side2 A4.out).mono ?_); (case side1 => refine (Kd.R_reads' (e := 41) (base := w.heap.size) (ok := fun k_ => True) (n := t361.length) (c := co13) ?_).2.2; exact (by (with_reducible repeat (first | apply Kd.R_alloc | apply Kd.R_drewN | apply Kd.R_drew)); exact (Kd.R_mono (Kd.R_far (p := ⟨gb364, 2, none⟩) (Kd.R_far (p := ⟨gb364, 1, none⟩) (Kd.R_far (p := ⟨gb364, 0, none⟩) (Kd.R_types HO363.out BK364.out (by decide)) (fun _ hk => hk.2) (.int .i64 t359)) (fun _ hk => hk.2) (.int .i64 t360)) (fun _ hk => hk.2) (.slice Ao13 t361.length co13)) (fun _ h_ => h_.1)))); (case side2 => exact (Kd.R_reads' HO363.out).2.1); rintro e w14 ⟨v366, rfl, ho0, hb⟩; refine ⟨_, rfl, ?_⟩; have n0_ := Aside0.mk (Kd.R_below (by (with_reducible repeat (first | apply Kd.R_alloc | apply Kd.R_drewN | apply Kd.R_drew)); exact (Kd.R_mono (Kd.R_far (p := ⟨gb364, 2, none⟩) (Kd.R_far (p := ⟨gb364, 1, none⟩) (Kd.R_far (p := ⟨gb364, 0, none⟩) (Kd.R_types HO363.out BK364.out (by decide)) (fun _ hk => hk.2) (.int .i64 t359)) (fun _ hk => hk.2) (.int .i64 t360)) (fun _ hk => hk.2) (.slice Ao13 t361.length co13)) (fun _ h_ => h_.1))) hb); have n1_ := Aside0.mk (Kd.R_lower ho0 (below_size (by repeat (first | (with_reducible first | exact HB.out | apply below_alloc | apply pw_below_drewN | apply below_drew1 | refine below_set ?_ GE364.out) | exact HB.out)))); have n2_ := Aside0.mk (blk_below (g := gb364) (o := .cells #[.int .i64 t359, .int .i64 t360, .slice Ao13 t361.length co13] 25 (0, 0)) (by (with_reducible repeat (first | refine blk_drewN ?_ _ | refine blk_drew ?_ | refine blk_alloc ?_ _)); refine blk_put (cs := #[.int .i64 t359, .int .i64 t360, .slice none 0 0]) ?_ 2 _ rfl; (with_reducible repeat (first | refine blk_drewN ?_ _ | refine blk_drew ?_ | refine blk_alloc ?_ _)); refine blk_put (cs := #[.int .i64 t359, .int .i64 0, .slice none 0 0]) ?_ 1 _ rfl; (with_reducible repeat (first | refine blk_drewN ?_ _ | refine blk_drew ?_ | refine blk_alloc ?_ _)); refine blk_put (cs := #[.int .i64 0, .int .i64 0, .slice none 0 0]) ?_ 0 _ rfl; (with_reducible repeat (first | refine blk_drewN ?_ _ | refine blk_drew ?_ | refine blk_alloc ?_ _)); exact BK364.out) hb); have n3_ := Aside0.mk (below_step (by repeat (first | (with_reducible first | exact HB.out | apply below_alloc | apply pw_below_drewN | apply below_drew1 | refine below_set ?_ GE364.out) | exact HB.out)) hb); clear HO363; clear BK364; clear HB; have HO363 := n0_; have HO367 := n1_; have BK364 := n2_; have HB := n3_; clear n0_ n1_ n2_ n3_; (try clear hb); (try clear hb2); (try clear hk); (try clear hi); (try clear ho0); have hcz15_0 : w14.cell? ⟨gb364, 0, none⟩ = some (.int .i64 t359) := (blk_cell BK364.out 0).trans rfl; have hcz15_1 : w14.cell? ⟨gb364, 1, none⟩ = some (.int .i64 t360) := (blk_cell BK364.out 1).trans rfl; have hcz15_2 : w14.cell? ⟨gb364, 2, none⟩ = some (.slice Ao13 t361.length co13) := (blk_cell BK364.out 2).trans rfl; have hfz15_0 := blk_frozen BK364.out 0; have hfz15_1 := blk_frozen BK364.out 1; have hfz15_2 := blk_frozen BK364.out 2) | ((with_reducible refine gate_callee (f := 7) rfl ?_); refine goesL_ (some 17) rfl rfl Tryd.func7 (by kernel_rfl) rfl #[.agg #[.int .i64 t359, .int .i64 t360, .slice Ao13 t361.length co13]] rfl (by (try simp only [List.map_toArray, List.map_cons, List.map_nil]); first | done | rfl | (simp only [List.length_drop, List.length_take]; rfl)) ?_; (with_reducible refine (spec_QrySlots.calls k t359 t360 _ _ t361 t368 _ ?side1 ?side2 A5.out).mono ?_); (case side1 => repeat (first | exact (Kd.R_reads' HO363.out).2.2 | (with_reducible refine Kd.C_alloc ?_ _) | (with_reducible refine Kd.C_drewN ?_ _) | (with_reducible refine Kd.C_drew ?_))); (case side2 => exact (Kd.R_reads' HO363.out).2.1); rintro e w16 ⟨v369, rfl, ho0, hb⟩; refine ⟨_, rfl, ?_⟩; have n0_ := Aside0.mk (Kd.R_below (by (with_reducible repeat (first | apply Kd.R_alloc | apply Kd.R_drewN | apply Kd.R_drew)); exact HO363.out) hb); have n1_ := Aside0.mk (Kd.R_elder' (by (with_reducible repeat (first | apply Kd.R_alloc | apply Kd.R_drewN | apply Kd.R_drew)); exact HO367.out) (Kd.R_base ho0) hb); have n2_ := Aside0.mk (Kd.R_lower (Kd.R_new' ho0 (Kd.R_lt (by (with_reducible repeat (first | apply Kd.R_alloc | apply Kd.R_drewN | apply Kd.R_drew)); exact HO367.out))) (below_size (by repeat (first | (with_reducible first | exact HB.out | apply below_alloc | apply pw_below_drewN | apply below_drew1 | refine below_set ?_ GE364.out) | exact HB.out)))); have n3_ := Aside0.mk (blk_below (g := gb364) (o := .cells #[.int .i64 t359, .int .i64 t360, .slice Ao13 t361.length co13] 25 (0, 0)) (by (with_reducible repeat (first | refine blk_drewN ?_ _ | refine blk_drew ?_ | refine blk_alloc ?_ _)); exact BK364.out) hb); have n4_ := Aside0.mk (below_step (by repeat (first | (with_reducible first | exact HB.out | apply below_alloc | apply pw_below_drewN | apply below_drew1 | refine below_set ?_ GE364.out) | exact HB.out)) hb); clear HO363; clear HO367; clear BK364; clear HB; have HO363 := n0_; have HO367 := n1_; have HO370 := n2_; have BK364 := n3_; have HB := n4_; clear n0_ n1_ n2_ n3_ n4_; (try clear hb); (try clear hb2); (try clear hk); (try clear hi); (try clear ho0); obtain ⟨Ao17, co17, eo17⟩ := Kd.R_slice HO367.out; subst eo17; obtain ⟨Ao18, co18, eo18⟩ := Kd.R_slice HO370.out; subst eo18) | ((with_reducible refine gate_callee (f := 6) rfl ?_); refine goesL_ (some 18) rfl rfl Tryd.func6 (by kernel_rfl) rfl #[.slice Ao17 t365.length co17, .slice Ao18 t368.length co18] rfl (by (try simp only [List.map_toArray, List.map_cons, List.map_nil]); first | done | rfl | (simp only [List.length_drop, List.length_take]; rfl)) ?_; (with_reducible refine (laws_pwTexts.calls k _ _ t365 _ _ t368 true _ ?side1 ?side2 ?side3 ?side4 A6.out).mono ?_); (case side1 => repeat (first | exact (Kd.R_reads' HO367.out).2.2 | (with_reducible refine Kd.C_alloc ?_ _) | (with_reducible refine Kd.C_drewN ?_ _) | (with_reducible refine Kd.C_drew ?_))); (case side2 => exact (Kd.R_reads' HO367.out).2.1); (case side3 => repeat (first | exact (Kd.R_reads' HO370.out).2.2 | (with_reducible refine Kd.C_alloc ?_ _) | (with_reducible refine Kd.C_drewN ?_ _) | (with_reducible refine Kd.C_drew ?_))); (case side4 => exact (Kd.R_reads' HO370.out).2.1); rintro e w' ⟨rfl, ⟨nd, rfl⟩⟩; refine ⟨_, rfl, ?_⟩; have hcz19_0 : w16.cell? ⟨gb364, 0, none⟩ = some (.int .i64 t359) := (blk_cell BK364.out 0).trans rfl; have hcz19_1 : w16.cell? ⟨gb364, 1, none⟩ = some (.int .i64 t360) := (blk_cell BK364.out 1).trans rfl; have hcz19_2 : w16.cell? ⟨gb364, 2, none⟩ = some (.slice Ao13 t361.length co13) := (blk_cell BK364.out 2).trans rfl; have hfz19_0 := blk_frozen BK364.out 0; have hfz19_1 := blk_frozen BK364.out 1; have hfz19_2 := blk_frozen BK364.out 2) | ((with_reducible refine gate_callee (f := 8) rfl ?_); refine goesL_ (some 21) rfl rfl Tryd.func8 (by kernel_rfl) rfl #[.agg #[.int .i64 t359, .int .i64 t360, .slice Ao13 t361.length co13]] rfl (by (try simp only [List.map_toArray, List.map_cons, List.map_nil]); first | done | rfl | (simp only [List.length_drop, List.length_take]; rfl)) ?_; (with_reducible refine (spec_GrdOk.calls k t359 t360 _ _ t361 true _ ?side1 ?side2 A8.out).mono ?_); (case side1 => repeat (first | exact (Kd.R_reads' HO363.out).2.2 | (with_reducible refine Kd.C_alloc ?_ _) | (with_reducible refine Kd.C_drewN ?_ _) | (with_reducible refine Kd.C_drew ?_))); (case side2 => exact (Kd.R_reads' HO363.out).2.1); rintro e w20 ⟨rfl, hb⟩; refine ⟨_, rfl, ?_⟩; have n0_ := Aside0.mk (Kd.R_below (by (with_reducible repeat (first | apply Kd.R_alloc | apply Kd.R_drewN | apply Kd.R_drew)); exact HO363.out) hb); have n1_ := Aside0.mk (Kd.R_below (by (with_reducible repeat (first | apply Kd.R_alloc | apply Kd.R_drewN | apply Kd.R_drew)); exact HO367.out) hb); have n2_ := Aside0.mk (Kd.R_below (by (with_reducible repeat (first | apply Kd.R_alloc | apply Kd.R_drewN | apply Kd.R_drew)); exact HO370.out) hb); have n3_ := Aside0.mk (blk_below (g := gb364) (o := .cells #[.int .i64 t359, .int .i64 t360, .slice Ao13 t361.length co13] 25 (0, 0)) (by (with_reducible repeat (first | refine blk_drewN ?_ _ | refine blk_drew ?_ | refine blk_alloc ?_ _)); exact BK364.out) hb); have n4_ := Aside0.mk (below_step (by repeat (first | (with_reducible first | exact HB.out | apply below_alloc | apply pw_below_drewN | apply below_drew1 | refine below_set ?_ GE364.out) | exact HB.out)) hb); clear HO363; clear HO367; clear HO370; clear BK364; clear HB; have HO363 := n0_; have HO367 := n1_; have HO370 := n2_; have BK364 := n3_; have HB := n4_; clear n0_ n1_ n2_ n3_ n4_; (try clear hb); (try clear hb2); (try clear hk); (try clear hi)))
        go_loopg [5, 6] k (fun kq v5 v6 w' => ∃ (x5_1 : Int) (x6_1 : Int), v5 = .int .i64 x5_1 ∧ v6 = .int .i64 x6_1 ∧ Aside0 (laws_FnQrySlots.l0 kq t365 x5_1 x6_1 t359 t360 t361 = some r) ∧ Aside0 (kq ≤ k) ∧ Aside0 (Kd.R Kd.string 9 w' w.heap.size (fun _ => True) (.slice Ao17 t365.length co17) t365) ∧ Aside0 (Kd.R k41 41 w' w.heap.size (fun _ => True) (.slice Ao13 t361.length co13) t361) ∧ Aside0 (w'.heap[gb364]? = some (.cells #[.int .i64 t359, .int .i64 t360, (.slice Ao13 t361.length co13)] 25 (0, 0))) ∧ Aside0 (Below w.heap.size w w'))
        case atStart => exact ⟨(0), (0), (by first | rfl | (simp; done) | (simp [*]; done)), (by first | rfl | (simp; done) | (simp [*]; done)), H', ⟨Nat.le_refl _⟩, ⟨by (with_reducible repeat (first | apply Kd.R_alloc | apply Kd.R_drewN | apply Kd.R_drew)); exact Kd.R_mono HO367.out (fun _ hk => trivial)⟩, ⟨by (with_reducible repeat (first | apply Kd.R_alloc | apply Kd.R_drewN | apply Kd.R_drew)); exact HO363.out⟩, ⟨by (with_reducible repeat (first | refine blk_drewN ?_ _ | refine blk_drew ?_ | refine blk_alloc ?_ _)); exact BK364.out⟩, ⟨by repeat (first | (with_reducible first | exact HB.out | apply below_alloc | apply pw_below_drewN | apply below_drew1 | refine below_set ?_ GE364.out) | exact HB.out)⟩⟩
        case round =>
          clear H'
          try clear c2
          try clear c2b0
          try clear c2b1
          try clear p2
          try clear c3
          try clear c4
          try clear c5
          try clear c6
          try clear c7
          try clear c8
          try clear c9
          try clear hcz12_0
          try clear hcz12_1
          try clear hcz12_2
          try clear hcz15_0
          try clear hcz15_1
          try clear hcz15_2
          try clear hcz19_0
          try clear hcz19_1
          try clear hcz19_2
          try clear hfz12_0
          try clear hfz12_1
          try clear hfz12_2
          try clear hfz15_0
          try clear hfz15_1
          try clear hfz15_2
          try clear hfz19_0
          try clear hfz19_1
          try clear hfz19_2
          obtain ⟨x5_1, x6_1, rfl, rfl, HA, HK1, HO_4, HO_365002, BK364, HB⟩ := hrel
          cases gk with
          | zero => exact absurd HA.out (by simp [laws_FnQrySlots.l0])
          | succ k1 =>
            have H := HA.out
            clear HA
            simp only [laws_FnQrySlots.l0] at H
            by_cases c21 : x6_1 < (t365.length : Int)
            · rw [if_pos c21] at H
              have c21b0 : decide (x6_1 < (t365.length : Int)) = true := decide_eq_true c21
              clear c21
              by_cases c22 : 0 ≤ x6_1
              · rw [if_pos c22] at H
                have c22b0 : decide (0 ≤ x6_1) = true := decide_eq_true c22
                clear c22
                by_cases c23 : ((rdOf ByteArray.empty t365 x6_1).size : Int) = t360
                · rw [if_pos c23] at H
                  have c23b0 : (((rdOf ByteArray.empty t365 x6_1).size : Int) == t360) = true := beq_iff_eq.mpr c23
                  have c23b1 : (((rdOf ByteArray.empty t365 x6_1).size : Int) != t360) = false := bne_eq_false_iff_eq.mpr c23
                  clear c23
                  have H' := Aside0.mk H
                  clear H
                  try go_wp2
                  have n0_ := Aside0.mk (Kd.R_drew HO_4.out)
                  have n1_ := Aside0.mk (Kd.R_drew HO_365002.out)
                  have n2_ := Aside0.mk (blk_drew BK364.out)
                  have n3_ := Aside0.mk (below_drew1 HB.out)
                  clear HO_4
                  clear HO_365002
                  clear BK364
                  clear HB
                  have HO_4 := n0_
                  have HO_365002 := n1_
                  have BK364 := n2_
                  have HB := n3_
                  clear n0_ n1_ n2_ n3_
                  have p375 : 0 ≤ (x6_1 : Int) := of_decide_eq_true (by first | (with_reducible assumption) | assumption)
                  have q375 : x6_1 < (t365.length : Int) := of_decide_eq_true (by first | (with_reducible assumption) | assumption)
                  obtain ⟨ad375, e375, hx375_0⟩ := Kd.at_string (Kd.R_reads' HO_4.out).2.2 x6_1 p375 q375
                  cases e375
                  replace p375 := eq_true p375
                  replace q375 := eq_true q375
                  refine start_ (n := 8) (S := fun w' => w'.cell? ⟨gb364, 0, none⟩ = some (.int .i64 t359) ∧ w'.cell? ⟨gb364, 1, none⟩ = some (.int .i64 t360) ∧ w'.cell? ⟨gb364, 2, none⟩ = some (.slice Ao13 t361.length co13) ∧ w'.cell? (ad375.add (x6_1).toNat) = some (.string (rdOf ByteArray.empty t365 x6_1))) (ds := []) #[false, false, false, false, false, false, false, false] (by kernel_rfl) rfl rfl ⟨(blk_cell BK364.out 0).trans rfl, (blk_cell BK364.out 1).trans rfl, (blk_cell BK364.out 2).trans rfl, hx375_0⟩ (fun hHeld => ?_); refine with_tabW laws_FnQrySlots.tab13 laws_FnQrySlots.bits13 (fun HT_ HW_ => ?_)
                  generalize wr.drew = w24 at HO_4 HO_365002 BK364 HB hx375_0 hHeld ⊢
                  refine pure_ (i := 0) (N := some 35) (v := ?_) (a' := ?_) #[true, false, false, false, false, false, false, false] rfl rfl (any_of HT_.out (by kernel_rfl)) (fun _ _ _ h => h) (Or.inl ⟨by rfl, ?_⟩) ?_ ?_
                  rotate_left
                  · intro w'
                    go_simp
                    with_reducible rfl
                  rotate_left
                  · simp only [Act.put, List.setIfInBounds_toArray, List.set_cons_zero, List.set_cons_succ, i64_w, i32_w]
                    rfl
                  refine pure_ (i := 1) (N := some 36) (v := ?_) (a' := ?_) #[true, true, false, false, false, false, false, false] rfl rfl (any_of HT_.out (by kernel_rfl)) (fun _ _ _ h => h) (Or.inl ⟨by rfl, ?_⟩) ?_ ?_
                  rotate_left
                  · intro w'
                    go_simp
                    with_reducible rfl
                  rotate_left
                  · simp only [Act.put, List.setIfInBounds_toArray, List.set_cons_zero, List.set_cons_succ, i64_w, i32_w]
                    rfl
                  refine pure_ (i := 2) (N := some 37) (v := ?_) (a' := ?_) #[true, true, true, false, false, false, false, false] rfl rfl (any_of HT_.out (by kernel_rfl)) (fun _ _ _ h => h) (Or.inl ⟨by rfl, ?_⟩) ?_ ?_
                  rotate_left
                  · intro w'
                    go_simp
                    with_reducible rfl
                  rotate_left
                  · simp only [Act.put, List.setIfInBounds_toArray, List.set_cons_zero, List.set_cons_succ, i64_w, i32_w]
                    rfl
                  refine pure_ (i := 5) (N := some 40) (v := ?_) (a' := ?_) #[true, true, true, false, false, true, false, false] rfl rfl (any_of HT_.out (by kernel_rfl)) (fun _ _ _ h => h) (Or.inl ⟨by rfl, ?_⟩) ?_ ?_
                  rotate_left
                  · intro w'
                    go_simp
                    with_reducible rfl
                  rotate_left
                  · simp only [Act.put, List.setIfInBounds_toArray, List.set_cons_zero, List.set_cons_succ, i64_w, i32_w]
                    rfl
                  refine take_ (i := 3) (N := some 38) (v := ?_) (a' := ?_) #[true, true, true, true, false, true, false, false] rfl rfl (take_ofW HT_.out HW_.out (by kernel_rfl)) (fun _ _ _ h => h) (Or.inl ⟨by rfl, ?_⟩) hHeld ?_ ?_
                  rotate_left
                  · rintro w' ⟨s0, s1, s2, s3⟩
                    go_simp
                    with_reducible rfl
                  rotate_left
                  · simp only [Act.put, List.setIfInBounds_toArray, List.set_cons_zero, List.set_cons_succ, i64_w, i32_w]
                    rfl
                  refine pure_ (i := 4) (N := some 39) (v := ?_) (a' := ?_) #[true, true, true, true, true, true, false, false] rfl rfl (any_of HT_.out (by kernel_rfl)) (fun _ _ _ h => h) (Or.inl ⟨by rfl, ?_⟩) ?_ ?_
                  rotate_left
                  · intro w'
                    go_simp
                    with_reducible rfl
                  rotate_left
                  · simp only [Act.put, List.setIfInBounds_toArray, List.set_cons_zero, List.set_cons_succ, i64_w, i32_w]
                    rfl
                  refine take_ (i := 6) (N := some 41) (v := ?_) (a' := ?_) #[true, true, true, true, true, true, true, false] rfl rfl (take_ofW HT_.out HW_.out (by kernel_rfl)) (fun _ _ _ h => h) (Or.inl ⟨by rfl, ?_⟩) hHeld ?_ ?_
                  rotate_left
                  · rintro w' ⟨s0, s1, s2, s3⟩
                    go_simp
                    with_reducible rfl
                  rotate_left
                  · simp only [Act.put, List.setIfInBounds_toArray, List.set_cons_zero, List.set_cons_succ, i64_w, i32_w]
                    rfl
                  refine pure_ (i := 7) (N := some 42) (v := ?_) (a' := ?_) #[true, true, true, true, true, true, true, true] rfl rfl (any_of HT_.out (by kernel_rfl)) (fun _ _ _ h => h) (Or.inl ⟨by rfl, ?_⟩) ?_ ?_
                  rotate_left
                  · intro w'
                    go_simp
                    with_reducible rfl
                  rotate_left
                  · simp only [Act.put, List.setIfInBounds_toArray, List.set_cons_zero, List.set_cons_succ, i64_w, i32_w]
                    rfl
                  refine done_ (done_of HT_.out (by kernel_rfl)) ?_
                  try go_wp2
                  go_loopg [5, 7] k1 (fun kq v5 v7 w' => ∃ (x5_2 : Int) (x7_2 : Int), v5 = .int .i64 x5_2 ∧ v7 = .int .i64 x7_2 ∧ Aside0 (laws_FnQrySlots.l1 kq t365 x5_2 x6_1 x7_2 t359 t360 t361 = some r) ∧ Aside0 (kq ≤ k1) ∧ Aside0 (Kd.R Kd.string 9 w' w.heap.size (fun _ => True) (.slice (some ad375) t365.length co17) t365) ∧ Aside0 (Kd.R k41 41 w' w.heap.size (fun _ => True) (.slice Ao13 t361.length co13) t361) ∧ Aside0 (w'.heap[gb364]? = some (.cells #[.int .i64 t359, .int .i64 t360, (.slice Ao13 t361.length co13)] 25 (0, 0))) ∧ Aside0 (Below w.heap.size w w'))
                  case atStart => exact ⟨(x5_1), (0), (by first | rfl | (simp; done) | (simp [*]; done)), (by first | rfl | (simp; done) | (simp [*]; done)), H', ⟨Nat.le_refl _⟩, ⟨by (with_reducible repeat (first | apply Kd.R_alloc | apply Kd.R_drewN | apply Kd.R_drew)); exact HO_4.out⟩, ⟨by (with_reducible repeat (first | apply Kd.R_alloc | apply Kd.R_drewN | apply Kd.R_drew)); exact HO_365002.out⟩, ⟨by (with_reducible repeat (first | refine blk_drewN ?_ _ | refine blk_drew ?_ | refine blk_alloc ?_ _)); exact BK364.out⟩, ⟨by repeat (first | (with_reducible first | exact HB.out | apply below_alloc | apply pw_below_drewN | apply below_drew1 | refine below_set ?_ GE364.out) | exact HB.out)⟩⟩
                  case round =>
                    clear H'
                    try clear c2
                    try clear c2b0
                    try clear c2b1
                    try clear p2
                    try clear c3
                    try clear p3
                    try clear q3
                    try clear hx3
                    try clear c4
                    try clear c5
                    try clear c6
                    try clear c7
                    try clear c8
                    try clear c9
                    try clear c21
                    try clear c21b0
                    try clear c22
                    try clear c22b0
                    try clear c23
                    try clear c23b0
                    try clear c23b1
                    try clear hcz12_0
                    try clear hcz12_1
                    try clear hcz12_2
                    try clear hcz15_0
                    try clear hcz15_1
                    try clear hcz15_2
                    try clear hcz19_0
                    try clear hcz19_1
                    try clear hcz19_2
                    try clear hfz12_0
                    try clear hfz12_1
                    try clear hfz12_2
                    try clear hfz15_0
                    try clear hfz15_1
                    try clear hfz15_2
                    try clear hfz19_0
                    try clear hfz19_1
                    try clear hfz19_2
                    try clear hx375_0
                    try clear p2
                    try clear p375
                    try clear q375
                    obtain ⟨x5_2, x7_2, rfl, rfl, HA, HK2, HO_4, HO_365002, BK364, HB⟩ := hrel
                    cases gk with
                    | zero => exact absurd HA.out (by simp [laws_FnQrySlots.l1])
                    | succ k2 =>
                      have H := HA.out
                      clear HA
                      simp only [laws_FnQrySlots.l1] at H
                      by_cases c25 : x7_2 < t360
                      · rw [if_pos c25] at H
                        have c25b0 : decide (x7_2 < t360) = true := decide_eq_true c25
                        clear c25
                        by_cases c26 : 0 ≤ x6_1
                        · rw [if_pos c26] at H
                          have c26b0 : decide (0 ≤ x6_1) = true := decide_eq_true c26
                          clear c26
                          by_cases c27 : x6_1 < (t365.length : Int)
                          · rw [if_pos c27] at H
                            have c27b0 : decide (x6_1 < (t365.length : Int)) = true := decide_eq_true c27
                            clear c27
                            by_cases c28 : 0 ≤ x7_2
                            · rw [if_pos c28] at H
                              have c28b0 : decide (0 ≤ x7_2) = true := decide_eq_true c28
                              clear c28
                              by_cases c29 : x7_2 < ((rdOf ByteArray.empty t365 x6_1).size : Int)
                              · rw [if_pos c29] at H
                                have c29b0 : decide (x7_2 < ((rdOf ByteArray.empty t365 x6_1).size : Int)) = true := decide_eq_true c29
                                clear c29
                                by_cases c31 : (bt (rdOf ByteArray.empty t365 x6_1) x7_2) = 46
                                · rw [if_pos c31] at H
                                  have c31b0 : ((bt (rdOf ByteArray.empty t365 x6_1) x7_2) == 46) = true := beq_iff_eq.mpr c31
                                  have c31b1 : ((bt (rdOf ByteArray.empty t365 x6_1) x7_2) != 46) = false := bne_eq_false_iff_eq.mpr c31
                                  clear c31
                                  replace H := Option.bind_eq_some_iff.mp H
                                  obtain ⟨t378, A330, H⟩ := H
                                  replace H : (if (((bt (rdOf ByteArray.empty t365 x6_1) x7_2) == 46) != (decide (t378 < 0))) = true then (some false) else (laws_FnQrySlots.l1 k2 t365 (wrap64 (x5_2 + 1)) x6_1 (wrap64 (x7_2 + 1)) t359 t360 t361)) = some r := H
                                  have A33 := Aside0.mk A330
                                  clear A330
                                  by_cases c34 : (((bt (rdOf ByteArray.empty t365 x6_1) x7_2) == 46) != (decide (t378 < 0))) = true
                                  · rw [if_pos c34] at H
                                    have c34b0 : (((bt (rdOf ByteArray.empty t365 x6_1) x7_2) == 46) != (decide (t378 < 0))) = true := c34
                                    clear c34
                                    obtain rfl := Option.some.inj H
                                    have c34d : decide (t378 < 0) = false := by have q_ := c34b0; rw [c31b0] at q_; revert q_; cases decide (t378 < 0) <;> simp
                                    (try (have c34b1 : decide (((bt (rdOf ByteArray.empty t365 x6_1) x7_2) == 46) = (decide (t378 < 0))) = false := by simpa using c34))
                                    (try (have c34b2 : (((bt (rdOf ByteArray.empty t365 x6_1) x7_2) == 46) == (decide (t378 < 0))) = false := by simpa using c34))
                                    (try (have c34b3 : ¬ (((bt (rdOf ByteArray.empty t365 x6_1) x7_2) == 46) = (decide (t378 < 0))) := by simpa using c34))
                                    have hczm0_0 : wr.cell? ⟨gb364, 0, none⟩ = some (.int .i64 t359) := (blk_cell BK364.out 0).trans rfl
                                    have hczm0_1 : wr.cell? ⟨gb364, 1, none⟩ = some (.int .i64 t360) := (blk_cell BK364.out 1).trans rfl
                                    have hczm0_2 : wr.cell? ⟨gb364, 2, none⟩ = some (.slice Ao13 t361.length co13) := (blk_cell BK364.out 2).trans rfl
                                    have hfzm0_0 := blk_frozen BK364.out 0
                                    have hfzm0_1 := blk_frozen BK364.out 1
                                    have hfzm0_2 := blk_frozen BK364.out 2
                                    have pm0 : 0 ≤ (x6_1 : Int) := of_decide_eq_true (by first | (with_reducible assumption) | assumption)
                                    have qm0 : x6_1 < (t365.length : Int) := of_decide_eq_true (by first | (with_reducible assumption) | assumption)
                                    obtain ⟨adm0, em0, hxm0_0⟩ := Kd.at_string (Kd.R_reads' HO_4.out).2.2 x6_1 pm0 qm0
                                    obtain rfl : ad375 = adm0 := (by injection em0)
                                    replace pm0 := eq_true pm0
                                    replace qm0 := eq_true qm0
                                    have pm1 : 0 ≤ (x7_2 : Int) := of_decide_eq_true (by first | (with_reducible assumption) | assumption)
                                    have qm1 : x7_2 < ((rdOf ByteArray.empty t365 x6_1).size : Int) := of_decide_eq_true (by first | (with_reducible assumption) | assumption)
                                    have hxm1 := bt_at (rdOf ByteArray.empty t365 x6_1) x7_2
                                    replace pm1 := eq_true pm1
                                    replace qm1 := eq_true qm1
                                    try go_wp2
                                    have n0_ := Aside0.mk (Kd.R_drew HO_4.out)
                                    have n1_ := Aside0.mk (Kd.R_drew HO_365002.out)
                                    have n2_ := Aside0.mk (blk_drew BK364.out)
                                    have n3_ := Aside0.mk (below_drew1 HB.out)
                                    clear HO_4
                                    clear HO_365002
                                    clear BK364
                                    clear HB
                                    have HO_4 := n0_
                                    have HO_365002 := n1_
                                    have BK364 := n2_
                                    have HB := n3_
                                    clear n0_ n1_ n2_ n3_
                                    have pm2 : 0 ≤ (x6_1 : Int) := of_decide_eq_true (by first | (with_reducible assumption) | assumption)
                                    have qm2 : x6_1 < (t365.length : Int) := of_decide_eq_true (by first | (with_reducible assumption) | assumption)
                                    obtain ⟨adm1, em1, hxm2_0⟩ := Kd.at_string (Kd.R_reads' HO_4.out).2.2 x6_1 pm2 qm2
                                    obtain rfl : ad375 = adm1 := (by injection em1)
                                    replace pm2 := eq_true pm2
                                    replace qm2 := eq_true qm2
                                    have pm3 : 0 ≤ (x7_2 : Int) := of_decide_eq_true (by first | (with_reducible assumption) | assumption)
                                    have qm3 : x7_2 < ((rdOf ByteArray.empty t365 x6_1).size : Int) := of_decide_eq_true (by first | (with_reducible assumption) | assumption)
                                    have hxm3 := bt_at (rdOf ByteArray.empty t365 x6_1) x7_2
                                    replace pm3 := eq_true pm3
                                    replace qm3 := eq_true qm3
                                    refine start_ (n := 13) (S := fun w' => w'.cell? ⟨gb364, 0, none⟩ = some (.int .i64 t359) ∧ w'.cell? ⟨gb364, 1, none⟩ = some (.int .i64 t360) ∧ w'.cell? ⟨gb364, 2, none⟩ = some (.slice Ao13 t361.length co13) ∧ w'.cell? (ad375.add (x6_1).toNat) = some (.string (rdOf ByteArray.empty t365 x6_1))) (ds := []) #[false, false, false, false, false, false, false, false, false, false, false, false, false] (by kernel_rfl) rfl rfl ⟨(blk_cell BK364.out 0).trans rfl, (blk_cell BK364.out 1).trans rfl, (blk_cell BK364.out 2).trans rfl, hxm2_0⟩ (fun hHeld => ?_); refine with_tabW laws_FnQrySlots.tab20 laws_FnQrySlots.bits20 (fun HT_ HW_ => ?_)
                                    generalize wr.drew = wm0 at HO_4 HO_365002 BK364 HB hxm2_0 hHeld ⊢
                                    refine pure_ (i := 0) (N := some 58) (v := ?_) (a' := ?_) #[true, false, false, false, false, false, false, false, false, false, false, false, false] rfl rfl (any_of HT_.out (by kernel_rfl)) (fun _ _ _ h => h) (Or.inl ⟨by rfl, ?_⟩) ?_ ?_
                                    rotate_left
                                    · intro w'
                                      go_simp
                                      with_reducible rfl
                                    rotate_left
                                    · simp only [Act.put, List.setIfInBounds_toArray, List.set_cons_zero, List.set_cons_succ, i64_w, i32_w]
                                      rfl
                                    refine pure_ (i := 1) (N := some 59) (v := ?_) (a' := ?_) #[true, true, false, false, false, false, false, false, false, false, false, false, false] rfl rfl (any_of HT_.out (by kernel_rfl)) (fun _ _ _ h => h) (Or.inl ⟨by rfl, ?_⟩) ?_ ?_
                                    rotate_left
                                    · intro w'
                                      go_simp
                                      with_reducible rfl
                                    rotate_left
                                    · simp only [Act.put, List.setIfInBounds_toArray, List.set_cons_zero, List.set_cons_succ, i64_w, i32_w]
                                      rfl
                                    refine pure_ (i := 2) (N := some 60) (v := ?_) (a' := ?_) #[true, true, true, false, false, false, false, false, false, false, false, false, false] rfl rfl (any_of HT_.out (by kernel_rfl)) (fun _ _ _ h => h) (Or.inl ⟨by rfl, ?_⟩) ?_ ?_
                                    rotate_left
                                    · intro w'
                                      go_simp
                                      with_reducible rfl
                                    rotate_left
                                    · simp only [Act.put, List.setIfInBounds_toArray, List.set_cons_zero, List.set_cons_succ, i64_w, i32_w]
                                      rfl
                                    refine pure_ (i := 4) (N := some 62) (v := ?_) (a' := ?_) #[true, true, true, false, true, false, false, false, false, false, false, false, false] rfl rfl (any_of HT_.out (by kernel_rfl)) (fun _ _ _ h => h) (Or.inl ⟨by rfl, ?_⟩) ?_ ?_
                                    rotate_left
                                    · intro w'
                                      go_simp
                                      with_reducible rfl
                                    rotate_left
                                    · simp only [Act.put, List.setIfInBounds_toArray, List.set_cons_zero, List.set_cons_succ, i64_w, i32_w]
                                      rfl
                                    refine pure_ (i := 8) (N := some 66) (v := ?_) (a' := ?_) #[true, true, true, false, true, false, false, false, true, false, false, false, false] rfl rfl (any_of HT_.out (by kernel_rfl)) (fun _ _ _ h => h) (Or.inl ⟨by rfl, ?_⟩) ?_ ?_
                                    rotate_left
                                    · intro w'
                                      go_simp
                                      with_reducible rfl
                                    rotate_left
                                    · simp only [Act.put, List.setIfInBounds_toArray, List.set_cons_zero, List.set_cons_succ, i64_w, i32_w]
                                      rfl
                                    refine pure_ (i := 9) (N := some 67) (v := ?_) (a' := ?_) #[true, true, true, false, true, false, false, false, true, true, false, false, false] rfl rfl (any_of HT_.out (by kernel_rfl)) (fun _ _ _ h => h) (Or.inl ⟨by rfl, ?_⟩) ?_ ?_
                                    rotate_left
                                    · intro w'
                                      go_simp
                                      with_reducible rfl
                                    rotate_left
                                    · simp only [Act.put, List.setIfInBounds_toArray, List.set_cons_zero, List.set_cons_succ, i64_w, i32_w]
                                      rfl
                                    refine take_ (i := 3) (N := some 61) (v := ?_) (a' := ?_) #[true, true, true, true, true, false, false, false, true, true, false, false, false] rfl rfl (take_ofW HT_.out HW_.out (by kernel_rfl)) (fun _ _ _ h => h) (Or.inl ⟨by rfl, ?_⟩) hHeld ?_ ?_
                                    rotate_left
                                    · rintro w' ⟨s0, s1, s2, s3⟩
                                      go_simp
                                      with_reducible rfl
                                    rotate_left
                                    · simp only [Act.put, List.setIfInBounds_toArray, List.set_cons_zero, List.set_cons_succ, i64_w, i32_w]
                                      rfl
                                    refine take_ (i := 5) (N := some 63) (v := ?_) (a' := ?_) #[true, true, true, true, true, true, false, false, true, true, false, false, false] rfl rfl (take_ofW HT_.out HW_.out (by kernel_rfl)) (fun _ _ _ h => h) (Or.inl ⟨by rfl, ?_⟩) hHeld ?_ ?_
                                    rotate_left
                                    · rintro w' ⟨s0, s1, s2, s3⟩
                                      go_simp
                                      with_reducible rfl
                                    rotate_left
                                    · simp only [Act.put, List.setIfInBounds_toArray, List.set_cons_zero, List.set_cons_succ, i64_w, i32_w]
                                      rfl
                                    refine pure_ (i := 6) (N := some 64) (v := ?_) (a' := ?_) #[true, true, true, true, true, true, true, false, true, true, false, false, false] rfl rfl (any_of HT_.out (by kernel_rfl)) (fun _ _ _ h => h) (Or.inl ⟨by rfl, ?_⟩) ?_ ?_
                                    rotate_left
                                    · intro w'
                                      go_simp
                                      with_reducible rfl
                                    rotate_left
                                    · simp only [Act.put, List.setIfInBounds_toArray, List.set_cons_zero, List.set_cons_succ, i64_w, i32_w]
                                      rfl
                                    refine take_ (i := 7) (N := some 65) (v := ?_) (a' := ?_) #[true, true, true, true, true, true, true, true, true, true, false, false, false] rfl rfl (take_ofW HT_.out HW_.out (by kernel_rfl)) (fun _ _ _ h => h) (Or.inl ⟨by rfl, ?_⟩) hHeld ?_ ?_
                                    rotate_left
                                    · rintro w' ⟨s0, s1, s2, s3⟩
                                      go_simp
                                      with_reducible rfl
                                    rotate_left
                                    · simp only [Act.put, List.setIfInBounds_toArray, List.set_cons_zero, List.set_cons_succ, i64_w, i32_w]
                                      rfl
                                    refine one_ (i := 10) (N := some 68) #[true, true, true, true, true, true, true, true, true, true, true, false, false] rfl rfl (one_of HT_.out (by kernel_rfl)) (by decide) (fun K hK => ?_)
                                    refine goes_ Tryd.func10 (by kernel_rfl) rfl #[.agg #[.int .i64 t359, .int .i64 t360, .slice Ao13 t361.length co13], .int .i64 x6_1, .int .i64 x7_2] (by rfl) rfl rfl (by (try simp only [List.map_toArray, List.map_cons, List.map_nil]); first | done | rfl | (simp only [List.length_drop, List.length_take]; rfl)) ?_
                                    with_reducible refine (impl_GrdAt.calls k2 t359 t360 _ _ t361 x6_1 x7_2 t378 _ ?side1 ?side2 A33.out).mono ?_
                                    (case side1 => repeat (first | exact (Kd.R_reads' HO_365002.out).2.2 | (with_reducible refine Kd.C_alloc ?_ _) | (with_reducible refine Kd.C_drewN ?_ _) | (with_reducible refine Kd.C_drew ?_)))
                                    (case side2 => exact (Kd.R_reads' HO_365002.out).2.1)
                                    rintro e wm1 ⟨rfl, hb⟩
                                    have HS3_ := (hb.cell (World.block_lt_of_cell? _ _ (hHeld.2.2.2))).trans (hHeld.2.2.2)
                                    refine ⟨_, rfl, ?_⟩
                                    have n0_ := Aside0.mk (Kd.R_below (by (with_reducible repeat (first | apply Kd.R_alloc | apply Kd.R_drewN | apply Kd.R_drew)); exact HO_4.out) hb)
                                    have n1_ := Aside0.mk (Kd.R_below (by (with_reducible repeat (first | apply Kd.R_alloc | apply Kd.R_drewN | apply Kd.R_drew)); exact HO_365002.out) hb)
                                    have n2_ := Aside0.mk (blk_below (g := gb364) (o := .cells #[.int .i64 t359, .int .i64 t360, .slice Ao13 t361.length co13] 25 (0, 0)) (by (with_reducible repeat (first | refine blk_drewN ?_ _ | refine blk_drew ?_ | refine blk_alloc ?_ _)); exact BK364.out) hb)
                                    have n3_ := Aside0.mk (below_step (by repeat (first | (with_reducible first | exact HB.out | apply below_alloc | apply pw_below_drewN | apply below_drew1 | refine below_set ?_ GE364.out) | exact HB.out)) hb)
                                    clear HO_4
                                    clear HO_365002
                                    clear BK364
                                    clear HB
                                    have HO_4 := n0_
                                    have HO_365002 := n1_
                                    have BK364 := n2_
                                    have HB := n3_
                                    clear n0_ n1_ n2_ n3_
                                    (try clear hb)
                                    (try clear hb2)
                                    (try clear hk)
                                    (try clear hi)
                                    refine hK.out _ _ ⟨(blk_cell BK364.out 0).trans rfl, (blk_cell BK364.out 1).trans rfl, (blk_cell BK364.out 2).trans rfl, HS3_⟩ (fun hHeld => ?_)
                                    clear hK K
                                    refine norm_ (a' := ?_) ?_ ?_
                                    rotate_left
                                    · show Act.put _ (some 68) _ = _
                                      simp only [Act.put, List.setIfInBounds_toArray, List.set_cons_zero, List.set_cons_succ, i64_w, i32_w]
                                      rfl
                                    refine pure_ (i := 11) (N := some 69) (v := ?_) (a' := ?_) #[true, true, true, true, true, true, true, true, true, true, true, true, false] rfl rfl (any_of HT_.out (by kernel_rfl)) (fun _ _ _ h => h) (Or.inl ⟨by rfl, ?_⟩) ?_ ?_
                                    rotate_left
                                    · intro w'
                                      go_simp
                                      with_reducible rfl
                                    rotate_left
                                    · simp only [Act.put, List.setIfInBounds_toArray, List.set_cons_zero, List.set_cons_succ, i64_w, i32_w]
                                      rfl
                                    refine pure_ (i := 12) (N := some 70) (v := ?_) (a' := ?_) #[true, true, true, true, true, true, true, true, true, true, true, true, true] rfl rfl (any_of HT_.out (by kernel_rfl)) (fun _ _ _ h => h) (Or.inl ⟨by rfl, ?_⟩) ?_ ?_
                                    rotate_left
                                    · intro w'
                                      go_simp
                                      with_reducible rfl
                                    rotate_left
                                    · simp only [Act.put, List.setIfInBounds_toArray, List.set_cons_zero, List.set_cons_succ, i64_w, i32_w]
                                      rfl
                                    refine done_ (done_of HT_.out (by kernel_rfl)) ?_
                                    try go_wp2
                                    all_goals (go_ret; exact ⟨by first | rfl | (simp [IntKind.wrap_i64, wrap64]; done) | (simp [errW_none, errW_some] <;> rfl) | (simp [*, errW_none, errW_some] <;> rfl), by repeat (first | (with_reducible first | exact HB.out | apply below_alloc | apply pw_below_drewN | apply below_drew1 | refine below_set ?_ GE364.out) | exact HB.out)⟩)
                                  · rw [if_neg c34] at H
                                    have c34b0 : (((bt (rdOf ByteArray.empty t365 x6_1) x7_2) == 46) != (decide (t378 < 0))) = false := by simpa using c34
                                    clear c34
                                    have H' := Aside0.mk H
                                    clear H
                                    have c34d : decide (t378 < 0) = true := by have q_ := c34b0; rw [c31b0] at q_; revert q_; cases decide (t378 < 0) <;> simp
                                    (try (have c34b1 : decide (((bt (rdOf ByteArray.empty t365 x6_1) x7_2) == 46) = (decide (t378 < 0))) = true := by simpa using c34))
                                    (try (have c34b2 : (((bt (rdOf ByteArray.empty t365 x6_1) x7_2) == 46) == (decide (t378 < 0))) = true := by simpa using c34))
                                    have hczm0_0 : wr.cell? ⟨gb364, 0, none⟩ = some (.int .i64 t359) := (blk_cell BK364.out 0).trans rfl
                                    have hczm0_1 : wr.cell? ⟨gb364, 1, none⟩ = some (.int .i64 t360) := (blk_cell BK364.out 1).trans rfl
                                    have hczm0_2 : wr.cell? ⟨gb364, 2, none⟩ = some (.slice Ao13 t361.length co13) := (blk_cell BK364.out 2).trans rfl
                                    have hfzm0_0 := blk_frozen BK364.out 0
                                    have hfzm0_1 := blk_frozen BK364.out 1
                                    have hfzm0_2 := blk_frozen BK364.out 2
                                    have pm0 : 0 ≤ (x6_1 : Int) := of_decide_eq_true (by first | (with_reducible assumption) | assumption)
                                    have qm0 : x6_1 < (t365.length : Int) := of_decide_eq_true (by first | (with_reducible assumption) | assumption)
                                    obtain ⟨adm0, em0, hxm0_0⟩ := Kd.at_string (Kd.R_reads' HO_4.out).2.2 x6_1 pm0 qm0
                                    obtain rfl : ad375 = adm0 := (by injection em0)
                                    replace pm0 := eq_true pm0
                                    replace qm0 := eq_true qm0
                                    have pm1 : 0 ≤ (x7_2 : Int) := of_decide_eq_true (by first | (with_reducible assumption) | assumption)
                                    have qm1 : x7_2 < ((rdOf ByteArray.empty t365 x6_1).size : Int) := of_decide_eq_true (by first | (with_reducible assumption) | assumption)
                                    have hxm1 := bt_at (rdOf ByteArray.empty t365 x6_1) x7_2
                                    replace pm1 := eq_true pm1
                                    replace qm1 := eq_true qm1
                                    try go_wp2
                                    have n0_ := Aside0.mk (Kd.R_drew HO_4.out)
                                    have n1_ := Aside0.mk (Kd.R_drew HO_365002.out)
                                    have n2_ := Aside0.mk (blk_drew BK364.out)
                                    have n3_ := Aside0.mk (below_drew1 HB.out)
                                    clear HO_4
                                    clear HO_365002
                                    clear BK364
                                    clear HB
                                    have HO_4 := n0_
                                    have HO_365002 := n1_
                                    have BK364 := n2_
                                    have HB := n3_
                                    clear n0_ n1_ n2_ n3_
                                    have pm2 : 0 ≤ (x6_1 : Int) := of_decide_eq_true (by first | (with_reducible assumption) | assumption)
                                    have qm2 : x6_1 < (t365.length : Int) := of_decide_eq_true (by first | (with_reducible assumption) | assumption)
                                    obtain ⟨adm1, em1, hxm2_0⟩ := Kd.at_string (Kd.R_reads' HO_4.out).2.2 x6_1 pm2 qm2
                                    obtain rfl : ad375 = adm1 := (by injection em1)
                                    replace pm2 := eq_true pm2
                                    replace qm2 := eq_true qm2
                                    have pm3 : 0 ≤ (x7_2 : Int) := of_decide_eq_true (by first | (with_reducible assumption) | assumption)
                                    have qm3 : x7_2 < ((rdOf ByteArray.empty t365 x6_1).size : Int) := of_decide_eq_true (by first | (with_reducible assumption) | assumption)
                                    have hxm3 := bt_at (rdOf ByteArray.empty t365 x6_1) x7_2
                                    replace pm3 := eq_true pm3
                                    replace qm3 := eq_true qm3
                                    refine start_ (n := 13) (S := fun w' => w'.cell? ⟨gb364, 0, none⟩ = some (.int .i64 t359) ∧ w'.cell? ⟨gb364, 1, none⟩ = some (.int .i64 t360) ∧ w'.cell? ⟨gb364, 2, none⟩ = some (.slice Ao13 t361.length co13) ∧ w'.cell? (ad375.add (x6_1).toNat) = some (.string (rdOf ByteArray.empty t365 x6_1))) (ds := []) #[false, false, false, false, false, false, false, false, false, false, false, false, false] (by kernel_rfl) rfl rfl ⟨(blk_cell BK364.out 0).trans rfl, (blk_cell BK364.out 1).trans rfl, (blk_cell BK364.out 2).trans rfl, hxm2_0⟩ (fun hHeld => ?_); refine with_tabW laws_FnQrySlots.tab20 laws_FnQrySlots.bits20 (fun HT_ HW_ => ?_)
                                    generalize wr.drew = wm0 at HO_4 HO_365002 BK364 HB hxm2_0 hHeld ⊢
                                    refine pure_ (i := 0) (N := some 58) (v := ?_) (a' := ?_) #[true, false, false, false, false, false, false, false, false, false, false, false, false] rfl rfl (any_of HT_.out (by kernel_rfl)) (fun _ _ _ h => h) (Or.inl ⟨by rfl, ?_⟩) ?_ ?_
                                    rotate_left
                                    · intro w'
                                      go_simp
                                      with_reducible rfl
                                    rotate_left
                                    · simp only [Act.put, List.setIfInBounds_toArray, List.set_cons_zero, List.set_cons_succ, i64_w, i32_w]
                                      rfl
                                    refine pure_ (i := 1) (N := some 59) (v := ?_) (a' := ?_) #[true, true, false, false, false, false, false, false, false, false, false, false, false] rfl rfl (any_of HT_.out (by kernel_rfl)) (fun _ _ _ h => h) (Or.inl ⟨by rfl, ?_⟩) ?_ ?_
                                    rotate_left
                                    · intro w'
                                      go_simp
                                      with_reducible rfl
                                    rotate_left
                                    · simp only [Act.put, List.setIfInBounds_toArray, List.set_cons_zero, List.set_cons_succ, i64_w, i32_w]
                                      rfl
                                    refine pure_ (i := 2) (N := some 60) (v := ?_) (a' := ?_) #[true, true, true, false, false, false, false, false, false, false, false, false, false] rfl rfl (any_of HT_.out (by kernel_rfl)) (fun _ _ _ h => h) (Or.inl ⟨by rfl, ?_⟩) ?_ ?_
                                    rotate_left
                                    · intro w'
                                      go_simp
                                      with_reducible rfl
                                    rotate_left
                                    · simp only [Act.put, List.setIfInBounds_toArray, List.set_cons_zero, List.set_cons_succ, i64_w, i32_w]
                                      rfl
                                    refine pure_ (i := 4) (N := some 62) (v := ?_) (a' := ?_) #[true, true, true, false, true, false, false, false, false, false, false, false, false] rfl rfl (any_of HT_.out (by kernel_rfl)) (fun _ _ _ h => h) (Or.inl ⟨by rfl, ?_⟩) ?_ ?_
                                    rotate_left
                                    · intro w'
                                      go_simp
                                      with_reducible rfl
                                    rotate_left
                                    · simp only [Act.put, List.setIfInBounds_toArray, List.set_cons_zero, List.set_cons_succ, i64_w, i32_w]
                                      rfl
                                    refine pure_ (i := 8) (N := some 66) (v := ?_) (a' := ?_) #[true, true, true, false, true, false, false, false, true, false, false, false, false] rfl rfl (any_of HT_.out (by kernel_rfl)) (fun _ _ _ h => h) (Or.inl ⟨by rfl, ?_⟩) ?_ ?_
                                    rotate_left
                                    · intro w'
                                      go_simp
                                      with_reducible rfl
                                    rotate_left
                                    · simp only [Act.put, List.setIfInBounds_toArray, List.set_cons_zero, List.set_cons_succ, i64_w, i32_w]
                                      rfl
                                    refine pure_ (i := 9) (N := some 67) (v := ?_) (a' := ?_) #[true, true, true, false, true, false, false, false, true, true, false, false, false] rfl rfl (any_of HT_.out (by kernel_rfl)) (fun _ _ _ h => h) (Or.inl ⟨by rfl, ?_⟩) ?_ ?_
                                    rotate_left
                                    · intro w'
                                      go_simp
                                      with_reducible rfl
                                    rotate_left
                                    · simp only [Act.put, List.setIfInBounds_toArray, List.set_cons_zero, List.set_cons_succ, i64_w, i32_w]
                                      rfl
                                    refine take_ (i := 3) (N := some 61) (v := ?_) (a' := ?_) #[true, true, true, true, true, false, false, false, true, true, false, false, false] rfl rfl (take_ofW HT_.out HW_.out (by kernel_rfl)) (fun _ _ _ h => h) (Or.inl ⟨by rfl, ?_⟩) hHeld ?_ ?_
                                    rotate_left
                                    · rintro w' ⟨s0, s1, s2, s3⟩
                                      go_simp
                                      with_reducible rfl
                                    rotate_left
                                    · simp only [Act.put, List.setIfInBounds_toArray, List.set_cons_zero, List.set_cons_succ, i64_w, i32_w]
                                      rfl
                                    refine take_ (i := 5) (N := some 63) (v := ?_) (a' := ?_) #[true, true, true, true, true, true, false, false, true, true, false, false, false] rfl rfl (take_ofW HT_.out HW_.out (by kernel_rfl)) (fun _ _ _ h => h) (Or.inl ⟨by rfl, ?_⟩) hHeld ?_ ?_
                                    rotate_left
                                    · rintro w' ⟨s0, s1, s2, s3⟩
                                      go_simp
                                      with_reducible rfl
                                    rotate_left
                                    · simp only [Act.put, List.setIfInBounds_toArray, List.set_cons_zero, List.set_cons_succ, i64_w, i32_w]
                                      rfl
                                    refine pure_ (i := 6) (N := some 64) (v := ?_) (a' := ?_) #[true, true, true, true, true, true, true, false, true, true, false, false, false] rfl rfl (any_of HT_.out (by kernel_rfl)) (fun _ _ _ h => h) (Or.inl ⟨by rfl, ?_⟩) ?_ ?_
                                    rotate_left
                                    · intro w'
                                      go_simp
                                      with_reducible rfl
                                    rotate_left
                                    · simp only [Act.put, List.setIfInBounds_toArray, List.set_cons_zero, List.set_cons_succ, i64_w, i32_w]
                                      rfl
                                    refine take_ (i := 7) (N := some 65) (v := ?_) (a' := ?_) #[true, true, true, true, true, true, true, true, true, true, false, false, false] rfl rfl (take_ofW HT_.out HW_.out (by kernel_rfl)) (fun _ _ _ h => h) (Or.inl ⟨by rfl, ?_⟩) hHeld ?_ ?_
                                    rotate_left
                                    · rintro w' ⟨s0, s1, s2, s3⟩
                                      go_simp
                                      with_reducible rfl
                                    rotate_left
                                    · simp only [Act.put, List.setIfInBounds_toArray, List.set_cons_zero, List.set_cons_succ, i64_w, i32_w]
                                      rfl
                                    refine one_ (i := 10) (N := some 68) #[true, true, true, true, true, true, true, true, true, true, true, false, false] rfl rfl (one_of HT_.out (by kernel_rfl)) (by decide) (fun K hK => ?_)
                                    refine goes_ Tryd.func10 (by kernel_rfl) rfl #[.agg #[.int .i64 t359, .int .i64 t360, .slice Ao13 t361.length co13], .int .i64 x6_1, .int .i64 x7_2] (by rfl) rfl rfl (by (try simp only [List.map_toArray, List.map_cons, List.map_nil]); first | done | rfl | (simp only [List.length_drop, List.length_take]; rfl)) ?_
                                    with_reducible refine (impl_GrdAt.calls k2 t359 t360 _ _ t361 x6_1 x7_2 t378 _ ?side1 ?side2 A33.out).mono ?_
                                    (case side1 => repeat (first | exact (Kd.R_reads' HO_365002.out).2.2 | (with_reducible refine Kd.C_alloc ?_ _) | (with_reducible refine Kd.C_drewN ?_ _) | (with_reducible refine Kd.C_drew ?_)))
                                    (case side2 => exact (Kd.R_reads' HO_365002.out).2.1)
                                    rintro e wm1 ⟨rfl, hb⟩
                                    have HS3_ := (hb.cell (World.block_lt_of_cell? _ _ (hHeld.2.2.2))).trans (hHeld.2.2.2)
                                    refine ⟨_, rfl, ?_⟩
                                    have n0_ := Aside0.mk (Kd.R_below (by (with_reducible repeat (first | apply Kd.R_alloc | apply Kd.R_drewN | apply Kd.R_drew)); exact HO_4.out) hb)
                                    have n1_ := Aside0.mk (Kd.R_below (by (with_reducible repeat (first | apply Kd.R_alloc | apply Kd.R_drewN | apply Kd.R_drew)); exact HO_365002.out) hb)
                                    have n2_ := Aside0.mk (blk_below (g := gb364) (o := .cells #[.int .i64 t359, .int .i64 t360, .slice Ao13 t361.length co13] 25 (0, 0)) (by (with_reducible repeat (first | refine blk_drewN ?_ _ | refine blk_drew ?_ | refine blk_alloc ?_ _)); exact BK364.out) hb)
                                    have n3_ := Aside0.mk (below_step (by repeat (first | (with_reducible first | exact HB.out | apply below_alloc | apply pw_below_drewN | apply below_drew1 | refine below_set ?_ GE364.out) | exact HB.out)) hb)
                                    clear HO_4
                                    clear HO_365002
                                    clear BK364
                                    clear HB
                                    have HO_4 := n0_
                                    have HO_365002 := n1_
                                    have BK364 := n2_
                                    have HB := n3_
                                    clear n0_ n1_ n2_ n3_
                                    (try clear hb)
                                    (try clear hb2)
                                    (try clear hk)
                                    (try clear hi)
                                    refine hK.out _ _ ⟨(blk_cell BK364.out 0).trans rfl, (blk_cell BK364.out 1).trans rfl, (blk_cell BK364.out 2).trans rfl, HS3_⟩ (fun hHeld => ?_)
                                    clear hK K
                                    refine norm_ (a' := ?_) ?_ ?_
                                    rotate_left
                                    · show Act.put _ (some 68) _ = _
                                      simp only [Act.put, List.setIfInBounds_toArray, List.set_cons_zero, List.set_cons_succ, i64_w, i32_w]
                                      rfl
                                    refine pure_ (i := 11) (N := some 69) (v := ?_) (a' := ?_) #[true, true, true, true, true, true, true, true, true, true, true, true, false] rfl rfl (any_of HT_.out (by kernel_rfl)) (fun _ _ _ h => h) (Or.inl ⟨by rfl, ?_⟩) ?_ ?_
                                    rotate_left
                                    · intro w'
                                      go_simp
                                      with_reducible rfl
                                    rotate_left
                                    · simp only [Act.put, List.setIfInBounds_toArray, List.set_cons_zero, List.set_cons_succ, i64_w, i32_w]
                                      rfl
                                    refine pure_ (i := 12) (N := some 70) (v := ?_) (a' := ?_) #[true, true, true, true, true, true, true, true, true, true, true, true, true] rfl rfl (any_of HT_.out (by kernel_rfl)) (fun _ _ _ h => h) (Or.inl ⟨by rfl, ?_⟩) ?_ ?_
                                    rotate_left
                                    · intro w'
                                      go_simp
                                      with_reducible rfl
                                    rotate_left
                                    · simp only [Act.put, List.setIfInBounds_toArray, List.set_cons_zero, List.set_cons_succ, i64_w, i32_w]
                                      rfl
                                    refine done_ (done_of HT_.out (by kernel_rfl)) ?_
                                    try go_wp2
                                    go_roundg k2
                                    case measure => have := HK1.out; have := HK2.out; omega
                                    case rel => exact ⟨(wrap64 (x5_2 + 1)), (wrap64 (x7_2 + 1)), (by first | rfl | (simp; done) | (simp [*]; done)), (by first | rfl | (simp; done) | (simp [*]; done)), H', ⟨by have := HK1.out; have := HK2.out; omega⟩, ⟨by (with_reducible repeat (first | apply Kd.R_alloc | apply Kd.R_drewN | apply Kd.R_drew)); exact HO_4.out⟩, ⟨by (with_reducible repeat (first | apply Kd.R_alloc | apply Kd.R_drewN | apply Kd.R_drew)); exact HO_365002.out⟩, ⟨by (with_reducible repeat (first | refine blk_drewN ?_ _ | refine blk_drew ?_ | refine blk_alloc ?_ _)); exact BK364.out⟩, ⟨by repeat (first | (with_reducible first | exact HB.out | apply below_alloc | apply pw_below_drewN | apply below_drew1 | refine below_set ?_ GE364.out) | exact HB.out)⟩⟩
                                · rw [if_neg c31] at H
                                  have c31b0 : ((bt (rdOf ByteArray.empty t365 x6_1) x7_2) == 46) = false := beq_eq_false_iff_ne.mpr c31
                                  have c31b1 : ((bt (rdOf ByteArray.empty t365 x6_1) x7_2) != 46) = true := bne_iff_ne.mpr c31
                                  replace H := Option.bind_eq_some_iff.mp H
                                  obtain ⟨t380, A420, H⟩ := H
                                  replace H : (if (((bt (rdOf ByteArray.empty t365 x6_1) x7_2) == 46) != (decide (t380 < 0))) = true then (some false) else (laws_FnQrySlots.l1 k2 t365 x5_2 x6_1 (wrap64 (x7_2 + 1)) t359 t360 t361)) = some r := H
                                  have A42 := Aside0.mk A420
                                  clear A420
                                  by_cases c43 : (((bt (rdOf ByteArray.empty t365 x6_1) x7_2) == 46) != (decide (t380 < 0))) = true
                                  · rw [if_pos c43] at H
                                    have c43b0 : (((bt (rdOf ByteArray.empty t365 x6_1) x7_2) == 46) != (decide (t380 < 0))) = true := c43
                                    clear c43
                                    obtain rfl := Option.some.inj H
                                    have c43d : decide (t380 < 0) = true := by have q_ := c43b0; rw [c31b0] at q_; revert q_; cases decide (t380 < 0) <;> simp
                                    (try (have c43b1 : decide (((bt (rdOf ByteArray.empty t365 x6_1) x7_2) == 46) = (decide (t380 < 0))) = false := by simpa using c43))
                                    (try (have c43b2 : (((bt (rdOf ByteArray.empty t365 x6_1) x7_2) == 46) == (decide (t380 < 0))) = false := by simpa using c43))
                                    (try (have c43b3 : ¬ (((bt (rdOf ByteArray.empty t365 x6_1) x7_2) == 46) = (decide (t380 < 0))) := by simpa using c43))
                                    have hczm0_0 : wr.cell? ⟨gb364, 0, none⟩ = some (.int .i64 t359) := (blk_cell BK364.out 0).trans rfl
                                    have hczm0_1 : wr.cell? ⟨gb364, 1, none⟩ = some (.int .i64 t360) := (blk_cell BK364.out 1).trans rfl
                                    have hczm0_2 : wr.cell? ⟨gb364, 2, none⟩ = some (.slice Ao13 t361.length co13) := (blk_cell BK364.out 2).trans rfl
                                    have hfzm0_0 := blk_frozen BK364.out 0
                                    have hfzm0_1 := blk_frozen BK364.out 1
                                    have hfzm0_2 := blk_frozen BK364.out 2
                                    have pm0 : 0 ≤ (x6_1 : Int) := of_decide_eq_true (by first | (with_reducible assumption) | assumption)
                                    have qm0 : x6_1 < (t365.length : Int) := of_decide_eq_true (by first | (with_reducible assumption) | assumption)
                                    obtain ⟨adm0, em0, hxm0_0⟩ := Kd.at_string (Kd.R_reads' HO_4.out).2.2 x6_1 pm0 qm0
                                    obtain rfl : ad375 = adm0 := (by injection em0)
                                    replace pm0 := eq_true pm0
                                    replace qm0 := eq_true qm0
                                    have pm1 : 0 ≤ (x7_2 : Int) := of_decide_eq_true (by first | (with_reducible assumption) | assumption)
                                    have qm1 : x7_2 < ((rdOf ByteArray.empty t365 x6_1).size : Int) := of_decide_eq_true (by first | (with_reducible assumption) | assumption)
                                    have hxm1 := bt_at (rdOf ByteArray.empty t365 x6_1) x7_2
                                    replace pm1 := eq_true pm1
                                    replace qm1 := eq_true qm1
                                    try go_wp2
                                    have n0_ := Aside0.mk (Kd.R_drew HO_4.out)
                                    have n1_ := Aside0.mk (Kd.R_drew HO_365002.out)
                                    have n2_ := Aside0.mk (blk_drew BK364.out)
                                    have n3_ := Aside0.mk (below_drew1 HB.out)
                                    clear HO_4
                                    clear HO_365002
                                    clear BK364
                                    clear HB
                                    have HO_4 := n0_
                                    have HO_365002 := n1_
                                    have BK364 := n2_
                                    have HB := n3_
                                    clear n0_ n1_ n2_ n3_
                                    have pm2 : 0 ≤ (x6_1 : Int) := of_decide_eq_true (by first | (with_reducible assumption) | assumption)
                                    have qm2 : x6_1 < (t365.length : Int) := of_decide_eq_true (by first | (with_reducible assumption) | assumption)
                                    obtain ⟨adm1, em1, hxm2_0⟩ := Kd.at_string (Kd.R_reads' HO_4.out).2.2 x6_1 pm2 qm2
                                    obtain rfl : ad375 = adm1 := (by injection em1)
                                    replace pm2 := eq_true pm2
                                    replace qm2 := eq_true qm2
                                    have pm3 : 0 ≤ (x7_2 : Int) := of_decide_eq_true (by first | (with_reducible assumption) | assumption)
                                    have qm3 : x7_2 < ((rdOf ByteArray.empty t365 x6_1).size : Int) := of_decide_eq_true (by first | (with_reducible assumption) | assumption)
                                    have hxm3 := bt_at (rdOf ByteArray.empty t365 x6_1) x7_2
                                    replace pm3 := eq_true pm3
                                    replace qm3 := eq_true qm3
                                    refine start_ (n := 13) (S := fun w' => w'.cell? ⟨gb364, 0, none⟩ = some (.int .i64 t359) ∧ w'.cell? ⟨gb364, 1, none⟩ = some (.int .i64 t360) ∧ w'.cell? ⟨gb364, 2, none⟩ = some (.slice Ao13 t361.length co13) ∧ w'.cell? (ad375.add (x6_1).toNat) = some (.string (rdOf ByteArray.empty t365 x6_1))) (ds := []) #[false, false, false, false, false, false, false, false, false, false, false, false, false] (by kernel_rfl) rfl rfl ⟨(blk_cell BK364.out 0).trans rfl, (blk_cell BK364.out 1).trans rfl, (blk_cell BK364.out 2).trans rfl, hxm2_0⟩ (fun hHeld => ?_); refine with_tabW laws_FnQrySlots.tab20 laws_FnQrySlots.bits20 (fun HT_ HW_ => ?_)
                                    generalize wr.drew = wm0 at HO_4 HO_365002 BK364 HB hxm2_0 hHeld ⊢
                                    refine pure_ (i := 0) (N := some 58) (v := ?_) (a' := ?_) #[true, false, false, false, false, false, false, false, false, false, false, false, false] rfl rfl (any_of HT_.out (by kernel_rfl)) (fun _ _ _ h => h) (Or.inl ⟨by rfl, ?_⟩) ?_ ?_
                                    rotate_left
                                    · intro w'
                                      go_simp
                                      with_reducible rfl
                                    rotate_left
                                    · simp only [Act.put, List.setIfInBounds_toArray, List.set_cons_zero, List.set_cons_succ, i64_w, i32_w]
                                      rfl
                                    refine pure_ (i := 1) (N := some 59) (v := ?_) (a' := ?_) #[true, true, false, false, false, false, false, false, false, false, false, false, false] rfl rfl (any_of HT_.out (by kernel_rfl)) (fun _ _ _ h => h) (Or.inl ⟨by rfl, ?_⟩) ?_ ?_
                                    rotate_left
                                    · intro w'
                                      go_simp
                                      with_reducible rfl
                                    rotate_left
                                    · simp only [Act.put, List.setIfInBounds_toArray, List.set_cons_zero, List.set_cons_succ, i64_w, i32_w]
                                      rfl
                                    refine pure_ (i := 2) (N := some 60) (v := ?_) (a' := ?_) #[true, true, true, false, false, false, false, false, false, false, false, false, false] rfl rfl (any_of HT_.out (by kernel_rfl)) (fun _ _ _ h => h) (Or.inl ⟨by rfl, ?_⟩) ?_ ?_
                                    rotate_left
                                    · intro w'
                                      go_simp
                                      with_reducible rfl
                                    rotate_left
                                    · simp only [Act.put, List.setIfInBounds_toArray, List.set_cons_zero, List.set_cons_succ, i64_w, i32_w]
                                      rfl
                                    refine pure_ (i := 4) (N := some 62) (v := ?_) (a' := ?_) #[true, true, true, false, true, false, false, false, false, false, false, false, false] rfl rfl (any_of HT_.out (by kernel_rfl)) (fun _ _ _ h => h) (Or.inl ⟨by rfl, ?_⟩) ?_ ?_
                                    rotate_left
                                    · intro w'
                                      go_simp
                                      with_reducible rfl
                                    rotate_left
                                    · simp only [Act.put, List.setIfInBounds_toArray, List.set_cons_zero, List.set_cons_succ, i64_w, i32_w]
                                      rfl
                                    refine pure_ (i := 8) (N := some 66) (v := ?_) (a' := ?_) #[true, true, true, false, true, false, false, false, true, false, false, false, false] rfl rfl (any_of HT_.out (by kernel_rfl)) (fun _ _ _ h => h) (Or.inl ⟨by rfl, ?_⟩) ?_ ?_
                                    rotate_left
                                    · intro w'
                                      go_simp
                                      with_reducible rfl
                                    rotate_left
                                    · simp only [Act.put, List.setIfInBounds_toArray, List.set_cons_zero, List.set_cons_succ, i64_w, i32_w]
                                      rfl
                                    refine pure_ (i := 9) (N := some 67) (v := ?_) (a' := ?_) #[true, true, true, false, true, false, false, false, true, true, false, false, false] rfl rfl (any_of HT_.out (by kernel_rfl)) (fun _ _ _ h => h) (Or.inl ⟨by rfl, ?_⟩) ?_ ?_
                                    rotate_left
                                    · intro w'
                                      go_simp
                                      with_reducible rfl
                                    rotate_left
                                    · simp only [Act.put, List.setIfInBounds_toArray, List.set_cons_zero, List.set_cons_succ, i64_w, i32_w]
                                      rfl
                                    refine take_ (i := 3) (N := some 61) (v := ?_) (a' := ?_) #[true, true, true, true, true, false, false, false, true, true, false, false, false] rfl rfl (take_ofW HT_.out HW_.out (by kernel_rfl)) (fun _ _ _ h => h) (Or.inl ⟨by rfl, ?_⟩) hHeld ?_ ?_
                                    rotate_left
                                    · rintro w' ⟨s0, s1, s2, s3⟩
                                      go_simp
                                      with_reducible rfl
                                    rotate_left
                                    · simp only [Act.put, List.setIfInBounds_toArray, List.set_cons_zero, List.set_cons_succ, i64_w, i32_w]
                                      rfl
                                    refine take_ (i := 5) (N := some 63) (v := ?_) (a' := ?_) #[true, true, true, true, true, true, false, false, true, true, false, false, false] rfl rfl (take_ofW HT_.out HW_.out (by kernel_rfl)) (fun _ _ _ h => h) (Or.inl ⟨by rfl, ?_⟩) hHeld ?_ ?_
                                    rotate_left
                                    · rintro w' ⟨s0, s1, s2, s3⟩
                                      go_simp
                                      with_reducible rfl
                                    rotate_left
                                    · simp only [Act.put, List.setIfInBounds_toArray, List.set_cons_zero, List.set_cons_succ, i64_w, i32_w]
                                      rfl
                                    refine pure_ (i := 6) (N := some 64) (v := ?_) (a' := ?_) #[true, true, true, true, true, true, true, false, true, true, false, false, false] rfl rfl (any_of HT_.out (by kernel_rfl)) (fun _ _ _ h => h) (Or.inl ⟨by rfl, ?_⟩) ?_ ?_
                                    rotate_left
                                    · intro w'
                                      go_simp
                                      with_reducible rfl
                                    rotate_left
                                    · simp only [Act.put, List.setIfInBounds_toArray, List.set_cons_zero, List.set_cons_succ, i64_w, i32_w]
                                      rfl
                                    refine take_ (i := 7) (N := some 65) (v := ?_) (a' := ?_) #[true, true, true, true, true, true, true, true, true, true, false, false, false] rfl rfl (take_ofW HT_.out HW_.out (by kernel_rfl)) (fun _ _ _ h => h) (Or.inl ⟨by rfl, ?_⟩) hHeld ?_ ?_
                                    rotate_left
                                    · rintro w' ⟨s0, s1, s2, s3⟩
                                      go_simp
                                      with_reducible rfl
                                    rotate_left
                                    · simp only [Act.put, List.setIfInBounds_toArray, List.set_cons_zero, List.set_cons_succ, i64_w, i32_w]
                                      rfl
                                    refine one_ (i := 10) (N := some 68) #[true, true, true, true, true, true, true, true, true, true, true, false, false] rfl rfl (one_of HT_.out (by kernel_rfl)) (by decide) (fun K hK => ?_)
                                    refine goes_ Tryd.func10 (by kernel_rfl) rfl #[.agg #[.int .i64 t359, .int .i64 t360, .slice Ao13 t361.length co13], .int .i64 x6_1, .int .i64 x7_2] (by rfl) rfl rfl (by (try simp only [List.map_toArray, List.map_cons, List.map_nil]); first | done | rfl | (simp only [List.length_drop, List.length_take]; rfl)) ?_
                                    with_reducible refine (impl_GrdAt.calls k2 t359 t360 _ _ t361 x6_1 x7_2 t380 _ ?side1 ?side2 A42.out).mono ?_
                                    (case side1 => repeat (first | exact (Kd.R_reads' HO_365002.out).2.2 | (with_reducible refine Kd.C_alloc ?_ _) | (with_reducible refine Kd.C_drewN ?_ _) | (with_reducible refine Kd.C_drew ?_)))
                                    (case side2 => exact (Kd.R_reads' HO_365002.out).2.1)
                                    rintro e wm1 ⟨rfl, hb⟩
                                    have HS3_ := (hb.cell (World.block_lt_of_cell? _ _ (hHeld.2.2.2))).trans (hHeld.2.2.2)
                                    refine ⟨_, rfl, ?_⟩
                                    have n0_ := Aside0.mk (Kd.R_below (by (with_reducible repeat (first | apply Kd.R_alloc | apply Kd.R_drewN | apply Kd.R_drew)); exact HO_4.out) hb)
                                    have n1_ := Aside0.mk (Kd.R_below (by (with_reducible repeat (first | apply Kd.R_alloc | apply Kd.R_drewN | apply Kd.R_drew)); exact HO_365002.out) hb)
                                    have n2_ := Aside0.mk (blk_below (g := gb364) (o := .cells #[.int .i64 t359, .int .i64 t360, .slice Ao13 t361.length co13] 25 (0, 0)) (by (with_reducible repeat (first | refine blk_drewN ?_ _ | refine blk_drew ?_ | refine blk_alloc ?_ _)); exact BK364.out) hb)
                                    have n3_ := Aside0.mk (below_step (by repeat (first | (with_reducible first | exact HB.out | apply below_alloc | apply pw_below_drewN | apply below_drew1 | refine below_set ?_ GE364.out) | exact HB.out)) hb)
                                    clear HO_4
                                    clear HO_365002
                                    clear BK364
                                    clear HB
                                    have HO_4 := n0_
                                    have HO_365002 := n1_
                                    have BK364 := n2_
                                    have HB := n3_
                                    clear n0_ n1_ n2_ n3_
                                    (try clear hb)
                                    (try clear hb2)
                                    (try clear hk)
                                    (try clear hi)
                                    refine hK.out _ _ ⟨(blk_cell BK364.out 0).trans rfl, (blk_cell BK364.out 1).trans rfl, (blk_cell BK364.out 2).trans rfl, HS3_⟩ (fun hHeld => ?_)
                                    clear hK K
                                    refine norm_ (a' := ?_) ?_ ?_
                                    rotate_left
                                    · show Act.put _ (some 68) _ = _
                                      simp only [Act.put, List.setIfInBounds_toArray, List.set_cons_zero, List.set_cons_succ, i64_w, i32_w]
                                      rfl
                                    refine pure_ (i := 11) (N := some 69) (v := ?_) (a' := ?_) #[true, true, true, true, true, true, true, true, true, true, true, true, false] rfl rfl (any_of HT_.out (by kernel_rfl)) (fun _ _ _ h => h) (Or.inl ⟨by rfl, ?_⟩) ?_ ?_
                                    rotate_left
                                    · intro w'
                                      go_simp
                                      with_reducible rfl
                                    rotate_left
                                    · simp only [Act.put, List.setIfInBounds_toArray, List.set_cons_zero, List.set_cons_succ, i64_w, i32_w]
                                      rfl
                                    refine pure_ (i := 12) (N := some 70) (v := ?_) (a' := ?_) #[true, true, true, true, true, true, true, true, true, true, true, true, true] rfl rfl (any_of HT_.out (by kernel_rfl)) (fun _ _ _ h => h) (Or.inl ⟨by rfl, ?_⟩) ?_ ?_
                                    rotate_left
                                    · intro w'
                                      go_simp
                                      with_reducible rfl
                                    rotate_left
                                    · simp only [Act.put, List.setIfInBounds_toArray, List.set_cons_zero, List.set_cons_succ, i64_w, i32_w]
                                      rfl
                                    refine done_ (done_of HT_.out (by kernel_rfl)) ?_
                                    try go_wp2
                                    all_goals (go_ret; exact ⟨by first | rfl | (simp [IntKind.wrap_i64, wrap64]; done) | (simp [errW_none, errW_some] <;> rfl) | (simp [*, errW_none, errW_some] <;> rfl), by repeat (first | (with_reducible first | exact HB.out | apply below_alloc | apply pw_below_drewN | apply below_drew1 | refine below_set ?_ GE364.out) | exact HB.out)⟩)
                                  · rw [if_neg c43] at H
                                    have c43b0 : (((bt (rdOf ByteArray.empty t365 x6_1) x7_2) == 46) != (decide (t380 < 0))) = false := by simpa using c43
                                    clear c43
                                    have H' := Aside0.mk H
                                    clear H
                                    have c43d : decide (t380 < 0) = false := by have q_ := c43b0; rw [c31b0] at q_; revert q_; cases decide (t380 < 0) <;> simp
                                    (try (have c43b1 : decide (((bt (rdOf ByteArray.empty t365 x6_1) x7_2) == 46) = (decide (t380 < 0))) = true := by simpa using c43))
                                    (try (have c43b2 : (((bt (rdOf ByteArray.empty t365 x6_1) x7_2) == 46) == (decide (t380 < 0))) = true := by simpa using c43))
                                    have hczm0_0 : wr.cell? ⟨gb364, 0, none⟩ = some (.int .i64 t359) := (blk_cell BK364.out 0).trans rfl
                                    have hczm0_1 : wr.cell? ⟨gb364, 1, none⟩ = some (.int .i64 t360) := (blk_cell BK364.out 1).trans rfl
                                    have hczm0_2 : wr.cell? ⟨gb364, 2, none⟩ = some (.slice Ao13 t361.length co13) := (blk_cell BK364.out 2).trans rfl
                                    have hfzm0_0 := blk_frozen BK364.out 0
                                    have hfzm0_1 := blk_frozen BK364.out 1
                                    have hfzm0_2 := blk_frozen BK364.out 2
                                    have pm0 : 0 ≤ (x6_1 : Int) := of_decide_eq_true (by first | (with_reducible assumption) | assumption)
                                    have qm0 : x6_1 < (t365.length : Int) := of_decide_eq_true (by first | (with_reducible assumption) | assumption)
                                    obtain ⟨adm0, em0, hxm0_0⟩ := Kd.at_string (Kd.R_reads' HO_4.out).2.2 x6_1 pm0 qm0
                                    obtain rfl : ad375 = adm0 := (by injection em0)
                                    replace pm0 := eq_true pm0
                                    replace qm0 := eq_true qm0
                                    have pm1 : 0 ≤ (x7_2 : Int) := of_decide_eq_true (by first | (with_reducible assumption) | assumption)
                                    have qm1 : x7_2 < ((rdOf ByteArray.empty t365 x6_1).size : Int) := of_decide_eq_true (by first | (with_reducible assumption) | assumption)
                                    have hxm1 := bt_at (rdOf ByteArray.empty t365 x6_1) x7_2
                                    replace pm1 := eq_true pm1
                                    replace qm1 := eq_true qm1
                                    try go_wp2
                                    have n0_ := Aside0.mk (Kd.R_drew HO_4.out)
                                    have n1_ := Aside0.mk (Kd.R_drew HO_365002.out)
                                    have n2_ := Aside0.mk (blk_drew BK364.out)
                                    have n3_ := Aside0.mk (below_drew1 HB.out)
                                    clear HO_4
                                    clear HO_365002
                                    clear BK364
                                    clear HB
                                    have HO_4 := n0_
                                    have HO_365002 := n1_
                                    have BK364 := n2_
                                    have HB := n3_
                                    clear n0_ n1_ n2_ n3_
                                    have pm2 : 0 ≤ (x6_1 : Int) := of_decide_eq_true (by first | (with_reducible assumption) | assumption)
                                    have qm2 : x6_1 < (t365.length : Int) := of_decide_eq_true (by first | (with_reducible assumption) | assumption)
                                    obtain ⟨adm1, em1, hxm2_0⟩ := Kd.at_string (Kd.R_reads' HO_4.out).2.2 x6_1 pm2 qm2
                                    obtain rfl : ad375 = adm1 := (by injection em1)
                                    replace pm2 := eq_true pm2
                                    replace qm2 := eq_true qm2
                                    have pm3 : 0 ≤ (x7_2 : Int) := of_decide_eq_true (by first | (with_reducible assumption) | assumption)
                                    have qm3 : x7_2 < ((rdOf ByteArray.empty t365 x6_1).size : Int) := of_decide_eq_true (by first | (with_reducible assumption) | assumption)
                                    have hxm3 := bt_at (rdOf ByteArray.empty t365 x6_1) x7_2
                                    replace pm3 := eq_true pm3
                                    replace qm3 := eq_true qm3
                                    refine start_ (n := 13) (S := fun w' => w'.cell? ⟨gb364, 0, none⟩ = some (.int .i64 t359) ∧ w'.cell? ⟨gb364, 1, none⟩ = some (.int .i64 t360) ∧ w'.cell? ⟨gb364, 2, none⟩ = some (.slice Ao13 t361.length co13) ∧ w'.cell? (ad375.add (x6_1).toNat) = some (.string (rdOf ByteArray.empty t365 x6_1))) (ds := []) #[false, false, false, false, false, false, false, false, false, false, false, false, false] (by kernel_rfl) rfl rfl ⟨(blk_cell BK364.out 0).trans rfl, (blk_cell BK364.out 1).trans rfl, (blk_cell BK364.out 2).trans rfl, hxm2_0⟩ (fun hHeld => ?_); refine with_tabW laws_FnQrySlots.tab20 laws_FnQrySlots.bits20 (fun HT_ HW_ => ?_)
                                    generalize wr.drew = wm0 at HO_4 HO_365002 BK364 HB hxm2_0 hHeld ⊢
                                    refine pure_ (i := 0) (N := some 58) (v := ?_) (a' := ?_) #[true, false, false, false, false, false, false, false, false, false, false, false, false] rfl rfl (any_of HT_.out (by kernel_rfl)) (fun _ _ _ h => h) (Or.inl ⟨by rfl, ?_⟩) ?_ ?_
                                    rotate_left
                                    · intro w'
                                      go_simp
                                      with_reducible rfl
                                    rotate_left
                                    · simp only [Act.put, List.setIfInBounds_toArray, List.set_cons_zero, List.set_cons_succ, i64_w, i32_w]
                                      rfl
                                    refine pure_ (i := 1) (N := some 59) (v := ?_) (a' := ?_) #[true, true, false, false, false, false, false, false, false, false, false, false, false] rfl rfl (any_of HT_.out (by kernel_rfl)) (fun _ _ _ h => h) (Or.inl ⟨by rfl, ?_⟩) ?_ ?_
                                    rotate_left
                                    · intro w'
                                      go_simp
                                      with_reducible rfl
                                    rotate_left
                                    · simp only [Act.put, List.setIfInBounds_toArray, List.set_cons_zero, List.set_cons_succ, i64_w, i32_w]
                                      rfl
                                    refine pure_ (i := 2) (N := some 60) (v := ?_) (a' := ?_) #[true, true, true, false, false, false, false, false, false, false, false, false, false] rfl rfl (any_of HT_.out (by kernel_rfl)) (fun _ _ _ h => h) (Or.inl ⟨by rfl, ?_⟩) ?_ ?_
                                    rotate_left
                                    · intro w'
                                      go_simp
                                      with_reducible rfl
                                    rotate_left
                                    · simp only [Act.put, List.setIfInBounds_toArray, List.set_cons_zero, List.set_cons_succ, i64_w, i32_w]
                                      rfl
                                    refine pure_ (i := 4) (N := some 62) (v := ?_) (a' := ?_) #[true, true, true, false, true, false, false, false, false, false, false, false, false] rfl rfl (any_of HT_.out (by kernel_rfl)) (fun _ _ _ h => h) (Or.inl ⟨by rfl, ?_⟩) ?_ ?_
                                    rotate_left
                                    · intro w'
                                      go_simp
                                      with_reducible rfl
                                    rotate_left
                                    · simp only [Act.put, List.setIfInBounds_toArray, List.set_cons_zero, List.set_cons_succ, i64_w, i32_w]
                                      rfl
                                    refine pure_ (i := 8) (N := some 66) (v := ?_) (a' := ?_) #[true, true, true, false, true, false, false, false, true, false, false, false, false] rfl rfl (any_of HT_.out (by kernel_rfl)) (fun _ _ _ h => h) (Or.inl ⟨by rfl, ?_⟩) ?_ ?_
                                    rotate_left
                                    · intro w'
                                      go_simp
                                      with_reducible rfl
                                    rotate_left
                                    · simp only [Act.put, List.setIfInBounds_toArray, List.set_cons_zero, List.set_cons_succ, i64_w, i32_w]
                                      rfl
                                    refine pure_ (i := 9) (N := some 67) (v := ?_) (a' := ?_) #[true, true, true, false, true, false, false, false, true, true, false, false, false] rfl rfl (any_of HT_.out (by kernel_rfl)) (fun _ _ _ h => h) (Or.inl ⟨by rfl, ?_⟩) ?_ ?_
                                    rotate_left
                                    · intro w'
                                      go_simp
                                      with_reducible rfl
                                    rotate_left
                                    · simp only [Act.put, List.setIfInBounds_toArray, List.set_cons_zero, List.set_cons_succ, i64_w, i32_w]
                                      rfl
                                    refine take_ (i := 3) (N := some 61) (v := ?_) (a' := ?_) #[true, true, true, true, true, false, false, false, true, true, false, false, false] rfl rfl (take_ofW HT_.out HW_.out (by kernel_rfl)) (fun _ _ _ h => h) (Or.inl ⟨by rfl, ?_⟩) hHeld ?_ ?_
                                    rotate_left
                                    · rintro w' ⟨s0, s1, s2, s3⟩
                                      go_simp
                                      with_reducible rfl
                                    rotate_left
                                    · simp only [Act.put, List.setIfInBounds_toArray, List.set_cons_zero, List.set_cons_succ, i64_w, i32_w]
                                      rfl
                                    refine take_ (i := 5) (N := some 63) (v := ?_) (a' := ?_) #[true, true, true, true, true, true, false, false, true, true, false, false, false] rfl rfl (take_ofW HT_.out HW_.out (by kernel_rfl)) (fun _ _ _ h => h) (Or.inl ⟨by rfl, ?_⟩) hHeld ?_ ?_
                                    rotate_left
                                    · rintro w' ⟨s0, s1, s2, s3⟩
                                      go_simp
                                      with_reducible rfl
                                    rotate_left
                                    · simp only [Act.put, List.setIfInBounds_toArray, List.set_cons_zero, List.set_cons_succ, i64_w, i32_w]
                                      rfl
                                    refine pure_ (i := 6) (N := some 64) (v := ?_) (a' := ?_) #[true, true, true, true, true, true, true, false, true, true, false, false, false] rfl rfl (any_of HT_.out (by kernel_rfl)) (fun _ _ _ h => h) (Or.inl ⟨by rfl, ?_⟩) ?_ ?_
                                    rotate_left
                                    · intro w'
                                      go_simp
                                      with_reducible rfl
                                    rotate_left
                                    · simp only [Act.put, List.setIfInBounds_toArray, List.set_cons_zero, List.set_cons_succ, i64_w, i32_w]
                                      rfl
                                    refine take_ (i := 7) (N := some 65) (v := ?_) (a' := ?_) #[true, true, true, true, true, true, true, true, true, true, false, false, false] rfl rfl (take_ofW HT_.out HW_.out (by kernel_rfl)) (fun _ _ _ h => h) (Or.inl ⟨by rfl, ?_⟩) hHeld ?_ ?_
                                    rotate_left
                                    · rintro w' ⟨s0, s1, s2, s3⟩
                                      go_simp
                                      with_reducible rfl
                                    rotate_left
                                    · simp only [Act.put, List.setIfInBounds_toArray, List.set_cons_zero, List.set_cons_succ, i64_w, i32_w]
                                      rfl
                                    refine one_ (i := 10) (N := some 68) #[true, true, true, true, true, true, true, true, true, true, true, false, false] rfl rfl (one_of HT_.out (by kernel_rfl)) (by decide) (fun K hK => ?_)
                                    refine goes_ Tryd.func10 (by kernel_rfl) rfl #[.agg #[.int .i64 t359, .int .i64 t360, .slice Ao13 t361.length co13], .int .i64 x6_1, .int .i64 x7_2] (by rfl) rfl rfl (by (try simp only [List.map_toArray, List.map_cons, List.map_nil]); first | done | rfl | (simp only [List.length_drop, List.length_take]; rfl)) ?_
                                    with_reducible refine (impl_GrdAt.calls k2 t359 t360 _ _ t361 x6_1 x7_2 t380 _ ?side1 ?side2 A42.out).mono ?_
                                    (case side1 => repeat (first | exact (Kd.R_reads' HO_365002.out).2.2 | (with_reducible refine Kd.C_alloc ?_ _) | (with_reducible refine Kd.C_drewN ?_ _) | (with_reducible refine Kd.C_drew ?_)))
                                    (case side2 => exact (Kd.R_reads' HO_365002.out).2.1)
                                    rintro e wm1 ⟨rfl, hb⟩
                                    have HS3_ := (hb.cell (World.block_lt_of_cell? _ _ (hHeld.2.2.2))).trans (hHeld.2.2.2)
                                    refine ⟨_, rfl, ?_⟩
                                    have n0_ := Aside0.mk (Kd.R_below (by (with_reducible repeat (first | apply Kd.R_alloc | apply Kd.R_drewN | apply Kd.R_drew)); exact HO_4.out) hb)
                                    have n1_ := Aside0.mk (Kd.R_below (by (with_reducible repeat (first | apply Kd.R_alloc | apply Kd.R_drewN | apply Kd.R_drew)); exact HO_365002.out) hb)
                                    have n2_ := Aside0.mk (blk_below (g := gb364) (o := .cells #[.int .i64 t359, .int .i64 t360, .slice Ao13 t361.length co13] 25 (0, 0)) (by (with_reducible repeat (first | refine blk_drewN ?_ _ | refine blk_drew ?_ | refine blk_alloc ?_ _)); exact BK364.out) hb)
                                    have n3_ := Aside0.mk (below_step (by repeat (first | (with_reducible first | exact HB.out | apply below_alloc | apply pw_below_drewN | apply below_drew1 | refine below_set ?_ GE364.out) | exact HB.out)) hb)
                                    clear HO_4
                                    clear HO_365002
                                    clear BK364
                                    clear HB
                                    have HO_4 := n0_
                                    have HO_365002 := n1_
                                    have BK364 := n2_
                                    have HB := n3_
                                    clear n0_ n1_ n2_ n3_
                                    (try clear hb)
                                    (try clear hb2)
                                    (try clear hk)
                                    (try clear hi)
                                    refine hK.out _ _ ⟨(blk_cell BK364.out 0).trans rfl, (blk_cell BK364.out 1).trans rfl, (blk_cell BK364.out 2).trans rfl, HS3_⟩ (fun hHeld => ?_)
                                    clear hK K
                                    refine norm_ (a' := ?_) ?_ ?_
                                    rotate_left
                                    · show Act.put _ (some 68) _ = _
                                      simp only [Act.put, List.setIfInBounds_toArray, List.set_cons_zero, List.set_cons_succ, i64_w, i32_w]
                                      rfl
                                    refine pure_ (i := 11) (N := some 69) (v := ?_) (a' := ?_) #[true, true, true, true, true, true, true, true, true, true, true, true, false] rfl rfl (any_of HT_.out (by kernel_rfl)) (fun _ _ _ h => h) (Or.inl ⟨by rfl, ?_⟩) ?_ ?_
                                    rotate_left
                                    · intro w'
                                      go_simp
                                      with_reducible rfl
                                    rotate_left
                                    · simp only [Act.put, List.setIfInBounds_toArray, List.set_cons_zero, List.set_cons_succ, i64_w, i32_w]
                                      rfl
                                    refine pure_ (i := 12) (N := some 70) (v := ?_) (a' := ?_) #[true, true, true, true, true, true, true, true, true, true, true, true, true] rfl rfl (any_of HT_.out (by kernel_rfl)) (fun _ _ _ h => h) (Or.inl ⟨by rfl, ?_⟩) ?_ ?_
                                    rotate_left
                                    · intro w'
                                      go_simp
                                      with_reducible rfl
                                    rotate_left
                                    · simp only [Act.put, List.setIfInBounds_toArray, List.set_cons_zero, List.set_cons_succ, i64_w, i32_w]
                                      rfl
                                    refine done_ (done_of HT_.out (by kernel_rfl)) ?_
                                    try go_wp2
                                    go_roundg k2
                                    case measure => have := HK1.out; have := HK2.out; omega
                                    case rel => exact ⟨(x5_2), (wrap64 (x7_2 + 1)), (by first | rfl | (simp; done) | (simp [*]; done)), (by first | rfl | (simp; done) | (simp [*]; done)), H', ⟨by have := HK1.out; have := HK2.out; omega⟩, ⟨by (with_reducible repeat (first | apply Kd.R_alloc | apply Kd.R_drewN | apply Kd.R_drew)); exact HO_4.out⟩, ⟨by (with_reducible repeat (first | apply Kd.R_alloc | apply Kd.R_drewN | apply Kd.R_drew)); exact HO_365002.out⟩, ⟨by (with_reducible repeat (first | refine blk_drewN ?_ _ | refine blk_drew ?_ | refine blk_alloc ?_ _)); exact BK364.out⟩, ⟨by repeat (first | (with_reducible first | exact HB.out | apply below_alloc | apply pw_below_drewN | apply below_drew1 | refine below_set ?_ GE364.out) | exact HB.out)⟩⟩
                              · rw [if_neg c29] at H
                                exact absurd H (by simp)
                            · rw [if_neg c28] at H
                              exact absurd H (by simp)
                          · rw [if_neg c27] at H
                            exact absurd H (by simp)
                        · rw [if_neg c26] at H
                          exact absurd H (by simp)
                      · rw [if_neg c25] at H
                        have c25b0 : decide (x7_2 < t360) = false := decide_eq_false c25
                        clear c25
                        have H' := Aside0.mk H
                        clear H
                        have hczm0_0 : wr.cell? ⟨gb364, 0, none⟩ = some (.int .i64 t359) := (blk_cell BK364.out 0).trans rfl
                        have hczm0_1 : wr.cell? ⟨gb364, 1, none⟩ = some (.int .i64 t360) := (blk_cell BK364.out 1).trans rfl
                        have hczm0_2 : wr.cell? ⟨gb364, 2, none⟩ = some (.slice Ao13 t361.length co13) := (blk_cell BK364.out 2).trans rfl
                        have hfzm0_0 := blk_frozen BK364.out 0
                        have hfzm0_1 := blk_frozen BK364.out 1
                        have hfzm0_2 := blk_frozen BK364.out 2
                        go_wp2
                        go_roundg k2
                        case measure => have := HK1.out; have := HK2.out; omega
                        case rel => exact ⟨(x5_2), (wrap64 (x6_1 + 1)), (by first | rfl | (simp; done) | (simp [*]; done)), (by first | rfl | (simp; done) | (simp [*]; done)), H', ⟨by have := HK1.out; have := HK2.out; omega⟩, ⟨by (with_reducible repeat (first | apply Kd.R_alloc | apply Kd.R_drewN | apply Kd.R_drew)); exact HO_4.out⟩, ⟨by (with_reducible repeat (first | apply Kd.R_alloc | apply Kd.R_drewN | apply Kd.R_drew)); exact HO_365002.out⟩, ⟨by (with_reducible repeat (first | refine blk_drewN ?_ _ | refine blk_drew ?_ | refine blk_alloc ?_ _)); exact BK364.out⟩, ⟨by repeat (first | (with_reducible first | exact HB.out | apply below_alloc | apply pw_below_drewN | apply below_drew1 | refine below_set ?_ GE364.out) | exact HB.out)⟩⟩
                · rw [if_neg c23] at H
                  have c23b0 : (((rdOf ByteArray.empty t365 x6_1).size : Int) == t360) = false := beq_eq_false_iff_ne.mpr c23
                  have c23b1 : (((rdOf ByteArray.empty t365 x6_1).size : Int) != t360) = true := bne_iff_ne.mpr c23
                  obtain rfl := Option.some.inj H
                  try go_wp2
                  have n0_ := Aside0.mk (Kd.R_drew HO_4.out)
                  have n1_ := Aside0.mk (Kd.R_drew HO_365002.out)
                  have n2_ := Aside0.mk (blk_drew BK364.out)
                  have n3_ := Aside0.mk (below_drew1 HB.out)
                  clear HO_4
                  clear HO_365002
                  clear BK364
                  clear HB
                  have HO_4 := n0_
                  have HO_365002 := n1_
                  have BK364 := n2_
                  have HB := n3_
                  clear n0_ n1_ n2_ n3_
                  have pm0 : 0 ≤ (x6_1 : Int) := of_decide_eq_true (by first | (with_reducible assumption) | assumption)
                  have qm0 : x6_1 < (t365.length : Int) := of_decide_eq_true (by first | (with_reducible assumption) | assumption)
                  obtain ⟨adm0, em0, hxm0_0⟩ := Kd.at_string (Kd.R_reads' HO_4.out).2.2 x6_1 pm0 qm0
                  cases em0
                  replace pm0 := eq_true pm0
                  replace qm0 := eq_true qm0
                  refine start_ (n := 8) (S := fun w' => w'.cell? ⟨gb364, 0, none⟩ = some (.int .i64 t359) ∧ w'.cell? ⟨gb364, 1, none⟩ = some (.int .i64 t360) ∧ w'.cell? ⟨gb364, 2, none⟩ = some (.slice Ao13 t361.length co13) ∧ w'.cell? (adm0.add (x6_1).toNat) = some (.string (rdOf ByteArray.empty t365 x6_1))) (ds := []) #[false, false, false, false, false, false, false, false] (by kernel_rfl) rfl rfl ⟨(blk_cell BK364.out 0).trans rfl, (blk_cell BK364.out 1).trans rfl, (blk_cell BK364.out 2).trans rfl, hxm0_0⟩ (fun hHeld => ?_); refine with_tabW laws_FnQrySlots.tab13 laws_FnQrySlots.bits13 (fun HT_ HW_ => ?_)
                  generalize wr.drew = wm0 at HO_4 HO_365002 BK364 HB hxm0_0 hHeld ⊢
                  refine pure_ (i := 0) (N := some 35) (v := ?_) (a' := ?_) #[true, false, false, false, false, false, false, false] rfl rfl (any_of HT_.out (by kernel_rfl)) (fun _ _ _ h => h) (Or.inl ⟨by rfl, ?_⟩) ?_ ?_
                  rotate_left
                  · intro w'
                    go_simp
                    with_reducible rfl
                  rotate_left
                  · simp only [Act.put, List.setIfInBounds_toArray, List.set_cons_zero, List.set_cons_succ, i64_w, i32_w]
                    rfl
                  refine pure_ (i := 1) (N := some 36) (v := ?_) (a' := ?_) #[true, true, false, false, false, false, false, false] rfl rfl (any_of HT_.out (by kernel_rfl)) (fun _ _ _ h => h) (Or.inl ⟨by rfl, ?_⟩) ?_ ?_
                  rotate_left
                  · intro w'
                    go_simp
                    with_reducible rfl
                  rotate_left
                  · simp only [Act.put, List.setIfInBounds_toArray, List.set_cons_zero, List.set_cons_succ, i64_w, i32_w]
                    rfl
                  refine pure_ (i := 2) (N := some 37) (v := ?_) (a' := ?_) #[true, true, true, false, false, false, false, false] rfl rfl (any_of HT_.out (by kernel_rfl)) (fun _ _ _ h => h) (Or.inl ⟨by rfl, ?_⟩) ?_ ?_
                  rotate_left
                  · intro w'
                    go_simp
                    with_reducible rfl
                  rotate_left
                  · simp only [Act.put, List.setIfInBounds_toArray, List.set_cons_zero, List.set_cons_succ, i64_w, i32_w]
                    rfl
                  refine pure_ (i := 5) (N := some 40) (v := ?_) (a' := ?_) #[true, true, true, false, false, true, false, false] rfl rfl (any_of HT_.out (by kernel_rfl)) (fun _ _ _ h => h) (Or.inl ⟨by rfl, ?_⟩) ?_ ?_
                  rotate_left
                  · intro w'
                    go_simp
                    with_reducible rfl
                  rotate_left
                  · simp only [Act.put, List.setIfInBounds_toArray, List.set_cons_zero, List.set_cons_succ, i64_w, i32_w]
                    rfl
                  refine take_ (i := 3) (N := some 38) (v := ?_) (a' := ?_) #[true, true, true, true, false, true, false, false] rfl rfl (take_ofW HT_.out HW_.out (by kernel_rfl)) (fun _ _ _ h => h) (Or.inl ⟨by rfl, ?_⟩) hHeld ?_ ?_
                  rotate_left
                  · rintro w' ⟨sm0, sm1, sm2, sm3⟩
                    go_simp
                    with_reducible rfl
                  rotate_left
                  · simp only [Act.put, List.setIfInBounds_toArray, List.set_cons_zero, List.set_cons_succ, i64_w, i32_w]
                    rfl
                  refine pure_ (i := 4) (N := some 39) (v := ?_) (a' := ?_) #[true, true, true, true, true, true, false, false] rfl rfl (any_of HT_.out (by kernel_rfl)) (fun _ _ _ h => h) (Or.inl ⟨by rfl, ?_⟩) ?_ ?_
                  rotate_left
                  · intro w'
                    go_simp
                    with_reducible rfl
                  rotate_left
                  · simp only [Act.put, List.setIfInBounds_toArray, List.set_cons_zero, List.set_cons_succ, i64_w, i32_w]
                    rfl
                  refine take_ (i := 6) (N := some 41) (v := ?_) (a' := ?_) #[true, true, true, true, true, true, true, false] rfl rfl (take_ofW HT_.out HW_.out (by kernel_rfl)) (fun _ _ _ h => h) (Or.inl ⟨by rfl, ?_⟩) hHeld ?_ ?_
                  rotate_left
                  · rintro w' ⟨sm0, sm1, sm2, sm3⟩
                    go_simp
                    with_reducible rfl
                  rotate_left
                  · simp only [Act.put, List.setIfInBounds_toArray, List.set_cons_zero, List.set_cons_succ, i64_w, i32_w]
                    rfl
                  refine pure_ (i := 7) (N := some 42) (v := ?_) (a' := ?_) #[true, true, true, true, true, true, true, true] rfl rfl (any_of HT_.out (by kernel_rfl)) (fun _ _ _ h => h) (Or.inl ⟨by rfl, ?_⟩) ?_ ?_
                  rotate_left
                  · intro w'
                    go_simp
                    with_reducible rfl
                  rotate_left
                  · simp only [Act.put, List.setIfInBounds_toArray, List.set_cons_zero, List.set_cons_succ, i64_w, i32_w]
                    rfl
                  refine done_ (done_of HT_.out (by kernel_rfl)) ?_
                  try go_wp2
                  all_goals (go_ret; exact ⟨by first | rfl | (simp [IntKind.wrap_i64, wrap64]; done) | (simp [errW_none, errW_some] <;> rfl) | (simp [*, errW_none, errW_some] <;> rfl), by repeat (first | (with_reducible first | exact HB.out | apply below_alloc | apply pw_below_drewN | apply below_drew1 | refine below_set ?_ GE364.out) | exact HB.out)⟩)
              · rw [if_neg c22] at H
                exact absurd H (by simp)
            · rw [if_neg c21] at H
              have c21b0 : decide (x6_1 < (t365.length : Int)) = false := decide_eq_false c21
              clear c21
              by_cases c52 : (t365.length : Int) = t359
              · rw [if_pos c52] at H
                have c52b0 : ((t365.length : Int) == t359) = true := beq_iff_eq.mpr c52
                have c52b1 : ((t365.length : Int) != t359) = false := bne_eq_false_iff_eq.mpr c52
                clear c52
                replace H := Option.bind_eq_some_iff.mp H
                obtain ⟨t374, A530, H⟩ := H
                replace H : (some (x5_1 == t374)) = some r := H
                have A53 := Aside0.mk A530
                clear A530
                obtain rfl := Option.some.inj H
                have hczm0_0 : wr.cell? ⟨gb364, 0, none⟩ = some (.int .i64 t359) := (blk_cell BK364.out 0).trans rfl
                have hczm0_1 : wr.cell? ⟨gb364, 1, none⟩ = some (.int .i64 t360) := (blk_cell BK364.out 1).trans rfl
                have hczm0_2 : wr.cell? ⟨gb364, 2, none⟩ = some (.slice Ao13 t361.length co13) := (blk_cell BK364.out 2).trans rfl
                have hfzm0_0 := blk_frozen BK364.out 0
                have hfzm0_1 := blk_frozen BK364.out 1
                have hfzm0_2 := blk_frozen BK364.out 2
                go_wp2_with (first | (go_at_call 11; (with_reducible refine (impl_GrdEmpty.calls k1 t359 t360 _ _ t361 t374 _ ?side1 ?side2 A53.out).mono ?_); (case side1 => repeat (first | exact (Kd.R_reads' HO_365002.out).2.2 | (with_reducible refine Kd.C_alloc ?_ _) | (with_reducible refine Kd.C_drewN ?_ _) | (with_reducible refine Kd.C_drew ?_))); (case side2 => exact (Kd.R_reads' HO_365002.out).2.1); rintro e wm0 ⟨rfl, hb⟩; have n0_ := Aside0.mk (Kd.R_below (by (with_reducible repeat (first | apply Kd.R_alloc | apply Kd.R_drewN | apply Kd.R_drew)); exact HO_4.out) hb); have n1_ := Aside0.mk (Kd.R_below (by (with_reducible repeat (first | apply Kd.R_alloc | apply Kd.R_drewN | apply Kd.R_drew)); exact HO_365002.out) hb); have n2_ := Aside0.mk (blk_below (g := gb364) (o := .cells #[.int .i64 t359, .int .i64 t360, .slice Ao13 t361.length co13] 25 (0, 0)) (by (with_reducible repeat (first | refine blk_drewN ?_ _ | refine blk_drew ?_ | refine blk_alloc ?_ _)); exact BK364.out) hb); have n3_ := Aside0.mk (below_step (by repeat (first | (with_reducible first | exact HB.out | apply below_alloc | apply pw_below_drewN | apply below_drew1 | refine below_set ?_ GE364.out) | exact HB.out)) hb); clear HO_4; clear HO_365002; clear BK364; clear HB; have HO_4 := n0_; have HO_365002 := n1_; have BK364 := n2_; have HB := n3_; clear n0_ n1_ n2_ n3_; (try clear hb); (try clear hb2); (try clear hk); (try clear hi)))
                go_ret
                exact ⟨by first | rfl | (simp [IntKind.wrap_i64, wrap64]; done) | (simp [errW_none, errW_some] <;> rfl) | (simp [*, errW_none, errW_some] <;> rfl), by repeat (first | (with_reducible first | exact HB.out | apply below_alloc | apply pw_below_drewN | apply below_drew1 | refine below_set ?_ GE364.out) | exact HB.out)⟩
              · rw [if_neg c52] at H
                have c52b0 : ((t365.length : Int) == t359) = false := beq_eq_false_iff_ne.mpr c52
                have c52b1 : ((t365.length : Int) != t359) = true := bne_iff_ne.mpr c52
                obtain rfl := Option.some.inj H
                have hczm0_0 : wr.cell? ⟨gb364, 0, none⟩ = some (.int .i64 t359) := (blk_cell BK364.out 0).trans rfl
                have hczm0_1 : wr.cell? ⟨gb364, 1, none⟩ = some (.int .i64 t360) := (blk_cell BK364.out 1).trans rfl
                have hczm0_2 : wr.cell? ⟨gb364, 2, none⟩ = some (.slice Ao13 t361.length co13) := (blk_cell BK364.out 2).trans rfl
                have hfzm0_0 := blk_frozen BK364.out 0
                have hfzm0_1 := blk_frozen BK364.out 1
                have hfzm0_2 := blk_frozen BK364.out 2
                go_wp2
                go_ret
                exact ⟨by first | rfl | (simp [IntKind.wrap_i64, wrap64]; done) | (simp [errW_none, errW_some] <;> rfl) | (simp [*, errW_none, errW_some] <;> rfl), by repeat (first | (with_reducible first | exact HB.out | apply below_alloc | apply pw_below_drewN | apply below_drew1 | refine below_set ?_ GE364.out) | exact HB.out)⟩
      · replace c9 := Bool.eq_false_iff.mpr c9
        subst c9
        have H1 : (if (t365.length : Int) = 0 then ((laws_pwOk.f).bind fun t373 => (some t373)) else (some false)) = some r := by rw [if_neg (show ¬ (false = true) by decide)] at H; exact H
        clear H
        have H := H1
        clear H1
        by_cases c57 : (t365.length : Int) = 0
        · rw [if_pos c57] at H
          have c57b0 : ((t365.length : Int) == 0) = true := beq_iff_eq.mpr c57
          have c57b1 : ((t365.length : Int) != 0) = false := bne_eq_false_iff_eq.mpr c57
          clear c57
          replace H := Option.bind_eq_some_iff.mp H
          obtain ⟨t373, A580, H⟩ := H
          replace H : (some t373) = some r := H
          have A58 := Aside0.mk A580
          clear A580
          obtain rfl := Option.some.inj H
          go_enter Tryd.func3, Tryd.ntmps3
          go_wp2_with (first | ((with_reducible refine gate_callee (f := 4) rfl ?_); refine goesL_ (some 12) rfl rfl Tryd.func4 (by kernel_rfl) rfl #[.slice A0 l0.length c0] rfl (by (try simp only [List.map_toArray, List.map_cons, List.map_nil]); first | done | rfl | (simp only [List.length_drop, List.length_take]; rfl)) ?_; (with_reducible refine (spec_DrawQrySlots.calls k _ _ l0 t359 t360 t361 _ ?sidem0 ?sidem1 A3.out).mono ?_); (case sidem0 => repeat (first | exact HR0.out | (with_reducible refine Kd.C_alloc ?_ _) | (with_reducible refine Kd.C_drewN ?_ _) | (with_reducible refine Kd.C_drew ?_))); (case sidem1 => exact HC0.out); rintro e wm0 ⟨vm0, rfl, hom0, hb⟩; refine ⟨_, rfl, ?_⟩; have n0_ := Aside0.mk (Kd.R_lower hom0 (below_size (by repeat (first | (with_reducible first | exact HB.out | apply below_alloc | apply pw_below_drewN | apply below_drew1) | exact HB.out)))); have n1_ := Aside0.mk (below_step (by repeat (first | (with_reducible first | exact HB.out | apply below_alloc | apply pw_below_drewN | apply below_drew1) | exact HB.out)) hb); clear HB; have HOm0 := n0_; have HB := n1_; clear n0_ n1_; (try clear hb); (try clear hbm0); (try clear hk); (try clear hi); (try clear hom0)) | ((with_reducible refine gate_dst (N := 3) rfl ?_); refine box_event ?hg (N := 3) ?hd (cs := #[.int .i64 0, .int .i64 0, .slice none 0 0]) (t := 25) ?hr ?_; (case hd => rfl); (case hg => rfl); (case hr => first | (go_simp; done) | (go_simp; rfl)); intro gbm0 hg wm1 hbox hb; have n0_ := Aside0.mk (Kd.R_below (by (with_reducible repeat (first | apply Kd.R_alloc | apply Kd.R_drewN | apply Kd.R_drew)); exact HOm0.out) hb); have n1_ := Aside0.mk (below_step (by repeat (first | (with_reducible first | exact HB.out | apply below_alloc | apply pw_below_drewN | apply below_drew1) | exact HB.out)) hb); have n2_ := Aside0.mk (hbox); have n3_ := Aside0.mk ((by rw [hg]; exact (below_size (by repeat (first | (with_reducible first | exact HB.out | apply below_alloc | apply pw_below_drewN | apply below_drew1) | exact HB.out))) : w.heap.size ≤ gbm0)); have n4_ := Aside0.mk ((by rw [hg]; exact (below_size (by repeat (first | (with_reducible first | exact HB.out | apply below_alloc | apply pw_below_drewN | apply below_drew1) | exact HB.out))) : w.heap.size ≤ gbm0)); clear HOm0; clear HB; have HOm0 := n0_; have HB := n1_; have BKm0 := n2_; have GWm0 := n3_; have GEm0 := n4_; clear n0_ n1_ n2_ n3_ n4_; clear hb hbox hg; have hczm0_0 : wm1.cell? ⟨gbm0, 0, none⟩ = some (.int .i64 0) := (blk_cell BKm0.out 0).trans rfl; have hczm0_1 : wm1.cell? ⟨gbm0, 1, none⟩ = some (.int .i64 0) := (blk_cell BKm0.out 1).trans rfl; have hczm0_2 : wm1.cell? ⟨gbm0, 2, none⟩ = some (.slice none 0 0) := (blk_cell BKm0.out 2).trans rfl; have hfzm0_0 := blk_frozen BKm0.out 0; have hfzm0_1 := blk_frozen BKm0.out 1; have hfzm0_2 := blk_frozen BKm0.out 2; obtain ⟨Aom0, com0, eom0⟩ := Kd.R_slice HOm0.out; subst eom0) | ((with_reducible refine gate_callee (f := 5) rfl ?_); refine goesL_ (some 14) rfl rfl Tryd.func5 (by kernel_rfl) rfl #[.agg #[.int .i64 t359, .int .i64 t360, .slice Aom0 t361.length com0]] rfl (by (try simp only [List.map_toArray, List.map_cons, List.map_nil]); first | done | rfl | (simp only [List.length_drop, List.length_take]; rfl)) ?_; (with_reducible refine (impl_QrySlots.calls k t359 t360 _ _ t361 t365 _ ?sidem0 ?sidem1 A4.out).mono ?_); (case sidem0 => refine (Kd.R_reads' (e := 41) (base := w.heap.size) (ok := fun k_ => True) (n := t361.length) (c := com0) ?_).2.2; exact (by (with_reducible repeat (first | apply Kd.R_alloc | apply Kd.R_drewN | apply Kd.R_drew)); exact (Kd.R_mono (Kd.R_far (p := ⟨gbm0, 2, none⟩) (Kd.R_far (p := ⟨gbm0, 1, none⟩) (Kd.R_far (p := ⟨gbm0, 0, none⟩) (Kd.R_types HOm0.out BKm0.out (by decide)) (fun _ hk => hk.2) (.int .i64 t359)) (fun _ hk => hk.2) (.int .i64 t360)) (fun _ hk => hk.2) (.slice Aom0 t361.length com0)) (fun _ h_ => h_.1)))); (case sidem1 => exact (Kd.R_reads' HOm0.out).2.1); rintro e wm2 ⟨vm1, rfl, hom0, hb⟩; refine ⟨_, rfl, ?_⟩; have n0_ := Aside0.mk (Kd.R_below (by (with_reducible repeat (first | apply Kd.R_alloc | apply Kd.R_drewN | apply Kd.R_drew)); exact (Kd.R_mono (Kd.R_far (p := ⟨gbm0, 2, none⟩) (Kd.R_far (p := ⟨gbm0, 1, none⟩) (Kd.R_far (p := ⟨gbm0, 0, none⟩) (Kd.R_types HOm0.out BKm0.out (by decide)) (fun _ hk => hk.2) (.int .i64 t359)) (fun _ hk => hk.2) (.int .i64 t360)) (fun _ hk => hk.2) (.slice Aom0 t361.length com0)) (fun _ h_ => h_.1))) hb); have n1_ := Aside0.mk (Kd.R_lower hom0 (below_size (by repeat (first | (with_reducible first | exact HB.out | apply below_alloc | apply pw_below_drewN | apply below_drew1 | refine below_set ?_ GEm0.out) | exact HB.out)))); have n2_ := Aside0.mk (blk_below (g := gbm0) (o := .cells #[.int .i64 t359, .int .i64 t360, .slice Aom0 t361.length com0] 25 (0, 0)) (by (with_reducible repeat (first | refine blk_drewN ?_ _ | refine blk_drew ?_ | refine blk_alloc ?_ _)); refine blk_put (cs := #[.int .i64 t359, .int .i64 t360, .slice none 0 0]) ?_ 2 _ rfl; (with_reducible repeat (first | refine blk_drewN ?_ _ | refine blk_drew ?_ | refine blk_alloc ?_ _)); refine blk_put (cs := #[.int .i64 t359, .int .i64 0, .slice none 0 0]) ?_ 1 _ rfl; (with_reducible repeat (first | refine blk_drewN ?_ _ | refine blk_drew ?_ | refine blk_alloc ?_ _)); refine blk_put (cs := #[.int .i64 0, .int .i64 0, .slice none 0 0]) ?_ 0 _ rfl; (with_reducible repeat (first | refine blk_drewN ?_ _ | refine blk_drew ?_ | refine blk_alloc ?_ _)); exact BKm0.out) hb); have n3_ := Aside0.mk (below_step (by repeat (first | (with_reducible first | exact HB.out | apply below_alloc | apply pw_below_drewN | apply below_drew1 | refine below_set ?_ GEm0.out) | exact HB.out)) hb); clear HOm0; clear BKm0; clear HB; have HOm0 := n0_; have HOm1 := n1_; have BKm0 := n2_; have HB := n3_; clear n0_ n1_ n2_ n3_; (try clear hb); (try clear hbm0); (try clear hk); (try clear hi); (try clear hom0); have hczm1_0 : wm2.cell? ⟨gbm0, 0, none⟩ = some (.int .i64 t359) := (blk_cell BKm0.out 0).trans rfl; have hczm1_1 : wm2.cell? ⟨gbm0, 1, none⟩ = some (.int .i64 t360) := (blk_cell BKm0.out 1).trans rfl; have hczm1_2 : wm2.cell? ⟨gbm0, 2, none⟩ = some (.slice Aom0 t361.length com0) := (blk_cell BKm0.out 2).trans rfl; have hfzm1_0 := blk_frozen BKm0.out 0; have hfzm1_1 := blk_frozen BKm0.out 1; have hfzm1_2 := blk_frozen BKm0.out 2) | ((with_reducible refine gate_callee (f := 7) rfl ?_); refine goesL_ (some 17) rfl rfl Tryd.func7 (by kernel_rfl) rfl #[.agg #[.int .i64 t359, .int .i64 t360, .slice Aom0 t361.length com0]] rfl (by (try simp only [List.map_toArray, List.map_cons, List.map_nil]); first | done | rfl | (simp only [List.length_drop, List.length_take]; rfl)) ?_; (with_reducible refine (spec_QrySlots.calls k t359 t360 _ _ t361 t368 _ ?sidem0 ?sidem1 A5.out).mono ?_); (case sidem0 => repeat (first | exact (Kd.R_reads' HOm0.out).2.2 | (with_reducible refine Kd.C_alloc ?_ _) | (with_reducible refine Kd.C_drewN ?_ _) | (with_reducible refine Kd.C_drew ?_))); (case sidem1 => exact (Kd.R_reads' HOm0.out).2.1); rintro e wm3 ⟨vm2, rfl, hom0, hb⟩; refine ⟨_, rfl, ?_⟩; have n0_ := Aside0.mk (Kd.R_below (by (with_reducible repeat (first | apply Kd.R_alloc | apply Kd.R_drewN | apply Kd.R_drew)); exact HOm0.out) hb); have n1_ := Aside0.mk (Kd.R_elder' (by (with_reducible repeat (first | apply Kd.R_alloc | apply Kd.R_drewN | apply Kd.R_drew)); exact HOm1.out) (Kd.R_base hom0) hb); have n2_ := Aside0.mk (Kd.R_lower (Kd.R_new' hom0 (Kd.R_lt (by (with_reducible repeat (first | apply Kd.R_alloc | apply Kd.R_drewN | apply Kd.R_drew)); exact HOm1.out))) (below_size (by repeat (first | (with_reducible first | exact HB.out | apply below_alloc | apply pw_below_drewN | apply below_drew1 | refine below_set ?_ GEm0.out) | exact HB.out)))); have n3_ := Aside0.mk (blk_below (g := gbm0) (o := .cells #[.int .i64 t359, .int .i64 t360, .slice Aom0 t361.length com0] 25 (0, 0)) (by (with_reducible repeat (first | refine blk_drewN ?_ _ | refine blk_drew ?_ | refine blk_alloc ?_ _)); exact BKm0.out) hb); have n4_ := Aside0.mk (below_step (by repeat (first | (with_reducible first | exact HB.out | apply below_alloc | apply pw_below_drewN | apply below_drew1 | refine below_set ?_ GEm0.out) | exact HB.out)) hb); clear HOm0; clear HOm1; clear BKm0; clear HB; have HOm0 := n0_; have HOm1 := n1_; have HOm2 := n2_; have BKm0 := n3_; have HB := n4_; clear n0_ n1_ n2_ n3_ n4_; (try clear hb); (try clear hbm0); (try clear hk); (try clear hi); (try clear hom0); obtain ⟨Aom1, com1, eom1⟩ := Kd.R_slice HOm1.out; subst eom1; obtain ⟨Aom2, com2, eom2⟩ := Kd.R_slice HOm2.out; subst eom2) | ((with_reducible refine gate_callee (f := 6) rfl ?_); refine goesL_ (some 18) rfl rfl Tryd.func6 (by kernel_rfl) rfl #[.slice Aom1 t365.length com1, .slice Aom2 t368.length com2] rfl (by (try simp only [List.map_toArray, List.map_cons, List.map_nil]); first | done | rfl | (simp only [List.length_drop, List.length_take]; rfl)) ?_; (with_reducible refine (laws_pwTexts.calls k _ _ t365 _ _ t368 true _ ?sidem0 ?sidem1 ?sidem2 ?sidem3 A6.out).mono ?_); (case sidem0 => repeat (first | exact (Kd.R_reads' HOm1.out).2.2 | (with_reducible refine Kd.C_alloc ?_ _) | (with_reducible refine Kd.C_drewN ?_ _) | (with_reducible refine Kd.C_drew ?_))); (case sidem1 => exact (Kd.R_reads' HOm1.out).2.1); (case sidem2 => repeat (first | exact (Kd.R_reads' HOm2.out).2.2 | (with_reducible refine Kd.C_alloc ?_ _) | (with_reducible refine Kd.C_drewN ?_ _) | (with_reducible refine Kd.C_drew ?_))); (case sidem3 => exact (Kd.R_reads' HOm2.out).2.1); rintro e w' ⟨rfl, ⟨nd, rfl⟩⟩; refine ⟨_, rfl, ?_⟩; have hczm2_0 : wm3.cell? ⟨gbm0, 0, none⟩ = some (.int .i64 t359) := (blk_cell BKm0.out 0).trans rfl; have hczm2_1 : wm3.cell? ⟨gbm0, 1, none⟩ = some (.int .i64 t360) := (blk_cell BKm0.out 1).trans rfl; have hczm2_2 : wm3.cell? ⟨gbm0, 2, none⟩ = some (.slice Aom0 t361.length com0) := (blk_cell BKm0.out 2).trans rfl; have hfzm2_0 := blk_frozen BKm0.out 0; have hfzm2_1 := blk_frozen BKm0.out 1; have hfzm2_2 := blk_frozen BKm0.out 2) | ((with_reducible refine gate_callee (f := 8) rfl ?_); refine goesL_ (some 21) rfl rfl Tryd.func8 (by kernel_rfl) rfl #[.agg #[.int .i64 t359, .int .i64 t360, .slice Aom0 t361.length com0]] rfl (by (try simp only [List.map_toArray, List.map_cons, List.map_nil]); first | done | rfl | (simp only [List.length_drop, List.length_take]; rfl)) ?_; (with_reducible refine (spec_GrdOk.calls k t359 t360 _ _ t361 false _ ?sidem0 ?sidem1 A8.out).mono ?_); (case sidem0 => repeat (first | exact (Kd.R_reads' HOm0.out).2.2 | (with_reducible refine Kd.C_alloc ?_ _) | (with_reducible refine Kd.C_drewN ?_ _) | (with_reducible refine Kd.C_drew ?_))); (case sidem1 => exact (Kd.R_reads' HOm0.out).2.1); rintro e wm4 ⟨rfl, hb⟩; refine ⟨_, rfl, ?_⟩; have n0_ := Aside0.mk (Kd.R_below (by (with_reducible repeat (first | apply Kd.R_alloc | apply Kd.R_drewN | apply Kd.R_drew)); exact HOm0.out) hb); have n1_ := Aside0.mk (Kd.R_below (by (with_reducible repeat (first | apply Kd.R_alloc | apply Kd.R_drewN | apply Kd.R_drew)); exact HOm1.out) hb); have n2_ := Aside0.mk (Kd.R_below (by (with_reducible repeat (first | apply Kd.R_alloc | apply Kd.R_drewN | apply Kd.R_drew)); exact HOm2.out) hb); have n3_ := Aside0.mk (blk_below (g := gbm0) (o := .cells #[.int .i64 t359, .int .i64 t360, .slice Aom0 t361.length com0] 25 (0, 0)) (by (with_reducible repeat (first | refine blk_drewN ?_ _ | refine blk_drew ?_ | refine blk_alloc ?_ _)); exact BKm0.out) hb); have n4_ := Aside0.mk (below_step (by repeat (first | (with_reducible first | exact HB.out | apply below_alloc | apply pw_below_drewN | apply below_drew1 | refine below_set ?_ GEm0.out) | exact HB.out)) hb); clear HOm0; clear HOm1; clear HOm2; clear BKm0; clear HB; have HOm0 := n0_; have HOm1 := n1_; have HOm2 := n2_; have BKm0 := n3_; have HB := n4_; clear n0_ n1_ n2_ n3_ n4_; (try clear hb); (try clear hbm0); (try clear hk); (try clear hi)) | (go_at_call 9; (with_reducible refine (laws_pwOk.calls  t373 _ ?sideM A58.out).mono ?_); (case sideM => repeat (first | exact HM.out | exact (Txt.MLen_below HM.out HB.out) | (with_reducible refine Txt.MLen_alloc ?_ _) | (with_reducible refine Txt.MLen_drewN ?_ _) | (with_reducible refine Txt.MLen_drew ?_))); rintro e wm5 ⟨rfl, hb⟩; have n0_ := Aside0.mk (Kd.R_below (by (with_reducible repeat (first | apply Kd.R_alloc | apply Kd.R_drewN | apply Kd.R_drew)); exact HOm0.out) hb); have n1_ := Aside0.mk (Kd.R_below (by (with_reducible repeat (first | apply Kd.R_alloc | apply Kd.R_drewN | apply Kd.R_drew)); exact HOm1.out) hb); have n2_ := Aside0.mk (Kd.R_below (by (with_reducible repeat (first | apply Kd.R_alloc | apply Kd.R_drewN | apply Kd.R_drew)); exact HOm2.out) hb); have n3_ := Aside0.mk (blk_below (g := gbm0) (o := .cells #[.int .i64 t359, .int .i64 t360, .slice Aom0 t361.length com0] 25 (0, 0)) (by (with_reducible repeat (first | refine blk_drewN ?_ _ | refine blk_drew ?_ | refine blk_alloc ?_ _)); exact BKm0.out) hb); have n4_ := Aside0.mk (below_step (by repeat (first | (with_reducible first | exact HB.out | apply below_alloc | apply pw_below_drewN | apply below_drew1 | refine below_set ?_ GEm0.out) | exact HB.out)) hb); clear HOm0; clear HOm1; clear HOm2; clear BKm0; clear HB; have HOm0 := n0_; have HOm1 := n1_; have HOm2 := n2_; have BKm0 := n3_; have HB := n4_; clear n0_ n1_ n2_ n3_ n4_; (try clear hb); (try clear hbm0); (try clear hk); (try clear hi)))
          go_ret
          exact ⟨by first | rfl | (simp [IntKind.wrap_i64, wrap64]; done) | (simp [errW_none, errW_some] <;> rfl) | (simp [*, errW_none, errW_some] <;> rfl), by repeat (first | (with_reducible first | exact HB.out | apply below_alloc | apply pw_below_drewN | apply below_drew1 | refine below_set ?_ GEm0.out) | exact HB.out)⟩
        · rw [if_neg c57] at H
          have c57b0 : ((t365.length : Int) == 0) = false := beq_eq_false_iff_ne.mpr c57
          have c57b1 : ((t365.length : Int) != 0) = true := bne_iff_ne.mpr c57
          have c57b2 : ¬ (t365 = []) := fun h_ => c57 (by rw [h_]; rfl)
          obtain rfl := Option.some.inj H
          go_enter Tryd.func3, Tryd.ntmps3
          go_wp2_with (first | ((with_reducible refine gate_callee (f := 4) rfl ?_); refine goesL_ (some 12) rfl rfl Tryd.func4 (by kernel_rfl) rfl #[.slice A0 l0.length c0] rfl (by (try simp only [List.map_toArray, List.map_cons, List.map_nil]); first | done | rfl | (simp only [List.length_drop, List.length_take]; rfl)) ?_; (with_reducible refine (spec_DrawQrySlots.calls k _ _ l0 t359 t360 t361 _ ?sidem0 ?sidem1 A3.out).mono ?_); (case sidem0 => repeat (first | exact HR0.out | (with_reducible refine Kd.C_alloc ?_ _) | (with_reducible refine Kd.C_drewN ?_ _) | (with_reducible refine Kd.C_drew ?_))); (case sidem1 => exact HC0.out); rintro e wm0 ⟨vm0, rfl, hom0, hb⟩; refine ⟨_, rfl, ?_⟩; have n0_ := Aside0.mk (Kd.R_lower hom0 (below_size (by repeat (first | (with_reducible first | exact HB.out | apply below_alloc | apply pw_below_drewN | apply below_drew1) | exact HB.out)))); have n1_ := Aside0.mk (below_step (by repeat (first | (with_reducible first | exact HB.out | apply below_alloc | apply pw_below_drewN | apply below_drew1) | exact HB.out)) hb); clear HB; have HOm0 := n0_; have HB := n1_; clear n0_ n1_; (try clear hb); (try clear hbm0); (try clear hk); (try clear hi); (try clear hom0)) | ((with_reducible refine gate_dst (N := 3) rfl ?_); refine box_event ?hg (N := 3) ?hd (cs := #[.int .i64 0, .int .i64 0, .slice none 0 0]) (t := 25) ?hr ?_; (case hd => rfl); (case hg => rfl); (case hr => first | (go_simp; done) | (go_simp; rfl)); intro gbm0 hg wm1 hbox hb; have n0_ := Aside0.mk (Kd.R_below (by (with_reducible repeat (first | apply Kd.R_alloc | apply Kd.R_drewN | apply Kd.R_drew)); exact HOm0.out) hb); have n1_ := Aside0.mk (below_step (by repeat (first | (with_reducible first | exact HB.out | apply below_alloc | apply pw_below_drewN | apply below_drew1) | exact HB.out)) hb); have n2_ := Aside0.mk (hbox); have n3_ := Aside0.mk ((by rw [hg]; exact (below_size (by repeat (first | (with_reducible first | exact HB.out | apply below_alloc | apply pw_below_drewN | apply below_drew1) | exact HB.out))) : w.heap.size ≤ gbm0)); have n4_ := Aside0.mk ((by rw [hg]; exact (below_size (by repeat (first | (with_reducible first | exact HB.out | apply below_alloc | apply pw_below_drewN | apply below_drew1) | exact HB.out))) : w.heap.size ≤ gbm0)); clear HOm0; clear HB; have HOm0 := n0_; have HB := n1_; have BKm0 := n2_; have GWm0 := n3_; have GEm0 := n4_; clear n0_ n1_ n2_ n3_ n4_; clear hb hbox hg; have hczm0_0 : wm1.cell? ⟨gbm0, 0, none⟩ = some (.int .i64 0) := (blk_cell BKm0.out 0).trans rfl; have hczm0_1 : wm1.cell? ⟨gbm0, 1, none⟩ = some (.int .i64 0) := (blk_cell BKm0.out 1).trans rfl; have hczm0_2 : wm1.cell? ⟨gbm0, 2, none⟩ = some (.slice none 0 0) := (blk_cell BKm0.out 2).trans rfl; have hfzm0_0 := blk_frozen BKm0.out 0; have hfzm0_1 := blk_frozen BKm0.out 1; have hfzm0_2 := blk_frozen BKm0.out 2; obtain ⟨Aom0, com0, eom0⟩ := Kd.R_slice HOm0.out; subst eom0) | ((with_reducible refine gate_callee (f := 5) rfl ?_); refine goesL_ (some 14) rfl rfl Tryd.func5 (by kernel_rfl) rfl #[.agg #[.int .i64 t359, .int .i64 t360, .slice Aom0 t361.length com0]] rfl (by (try simp only [List.map_toArray, List.map_cons, List.map_nil]); first | done | rfl | (simp only [List.length_drop, List.length_take]; rfl)) ?_; (with_reducible refine (impl_QrySlots.calls k t359 t360 _ _ t361 t365 _ ?sidem0 ?sidem1 A4.out).mono ?_); (case sidem0 => refine (Kd.R_reads' (e := 41) (base := w.heap.size) (ok := fun k_ => True) (n := t361.length) (c := com0) ?_).2.2; exact (by (with_reducible repeat (first | apply Kd.R_alloc | apply Kd.R_drewN | apply Kd.R_drew)); exact (Kd.R_mono (Kd.R_far (p := ⟨gbm0, 2, none⟩) (Kd.R_far (p := ⟨gbm0, 1, none⟩) (Kd.R_far (p := ⟨gbm0, 0, none⟩) (Kd.R_types HOm0.out BKm0.out (by decide)) (fun _ hk => hk.2) (.int .i64 t359)) (fun _ hk => hk.2) (.int .i64 t360)) (fun _ hk => hk.2) (.slice Aom0 t361.length com0)) (fun _ h_ => h_.1)))); (case sidem1 => exact (Kd.R_reads' HOm0.out).2.1); rintro e wm2 ⟨vm1, rfl, hom0, hb⟩; refine ⟨_, rfl, ?_⟩; have n0_ := Aside0.mk (Kd.R_below (by (with_reducible repeat (first | apply Kd.R_alloc | apply Kd.R_drewN | apply Kd.R_drew)); exact (Kd.R_mono (Kd.R_far (p := ⟨gbm0, 2, none⟩) (Kd.R_far (p := ⟨gbm0, 1, none⟩) (Kd.R_far (p := ⟨gbm0, 0, none⟩) (Kd.R_types HOm0.out BKm0.out (by decide)) (fun _ hk => hk.2) (.int .i64 t359)) (fun _ hk => hk.2) (.int .i64 t360)) (fun _ hk => hk.2) (.slice Aom0 t361.length com0)) (fun _ h_ => h_.1))) hb); have n1_ := Aside0.mk (Kd.R_lower hom0 (below_size (by repeat (first | (with_reducible first | exact HB.out | apply below_alloc | apply pw_below_drewN | apply below_drew1 | refine below_set ?_ GEm0.out) | exact HB.out)))); have n2_ := Aside0.mk (blk_below (g := gbm0) (o := .cells #[.int .i64 t359, .int .i64 t360, .slice Aom0 t361.length com0] 25 (0, 0)) (by (with_reducible repeat (first | refine blk_drewN ?_ _ | refine blk_drew ?_ | refine blk_alloc ?_ _)); refine blk_put (cs := #[.int .i64 t359, .int .i64 t360, .slice none 0 0]) ?_ 2 _ rfl; (with_reducible repeat (first | refine blk_drewN ?_ _ | refine blk_drew ?_ | refine blk_alloc ?_ _)); refine blk_put (cs := #[.int .i64 t359, .int .i64 0, .slice none 0 0]) ?_ 1 _ rfl; (with_reducible repeat (first | refine blk_drewN ?_ _ | refine blk_drew ?_ | refine blk_alloc ?_ _)); refine blk_put (cs := #[.int .i64 0, .int .i64 0, .slice none 0 0]) ?_ 0 _ rfl; (with_reducible repeat (first | refine blk_drewN ?_ _ | refine blk_drew ?_ | refine blk_alloc ?_ _)); exact BKm0.out) hb); have n3_ := Aside0.mk (below_step (by repeat (first | (with_reducible first | exact HB.out | apply below_alloc | apply pw_below_drewN | apply below_drew1 | refine below_set ?_ GEm0.out) | exact HB.out)) hb); clear HOm0; clear BKm0; clear HB; have HOm0 := n0_; have HOm1 := n1_; have BKm0 := n2_; have HB := n3_; clear n0_ n1_ n2_ n3_; (try clear hb); (try clear hbm0); (try clear hk); (try clear hi); (try clear hom0); have hczm1_0 : wm2.cell? ⟨gbm0, 0, none⟩ = some (.int .i64 t359) := (blk_cell BKm0.out 0).trans rfl; have hczm1_1 : wm2.cell? ⟨gbm0, 1, none⟩ = some (.int .i64 t360) := (blk_cell BKm0.out 1).trans rfl; have hczm1_2 : wm2.cell? ⟨gbm0, 2, none⟩ = some (.slice Aom0 t361.length com0) := (blk_cell BKm0.out 2).trans rfl; have hfzm1_0 := blk_frozen BKm0.out 0; have hfzm1_1 := blk_frozen BKm0.out 1; have hfzm1_2 := blk_frozen BKm0.out 2) | ((with_reducible refine gate_callee (f := 7) rfl ?_); refine goesL_ (some 17) rfl rfl Tryd.func7 (by kernel_rfl) rfl #[.agg #[.int .i64 t359, .int .i64 t360, .slice Aom0 t361.length com0]] rfl (by (try simp only [List.map_toArray, List.map_cons, List.map_nil]); first | done | rfl | (simp only [List.length_drop, List.length_take]; rfl)) ?_; (with_reducible refine (spec_QrySlots.calls k t359 t360 _ _ t361 t368 _ ?sidem0 ?sidem1 A5.out).mono ?_); (case sidem0 => repeat (first | exact (Kd.R_reads' HOm0.out).2.2 | (with_reducible refine Kd.C_alloc ?_ _) | (with_reducible refine Kd.C_drewN ?_ _) | (with_reducible refine Kd.C_drew ?_))); (case sidem1 => exact (Kd.R_reads' HOm0.out).2.1); rintro e wm3 ⟨vm2, rfl, hom0, hb⟩; refine ⟨_, rfl, ?_⟩; have n0_ := Aside0.mk (Kd.R_below (by (with_reducible repeat (first | apply Kd.R_alloc | apply Kd.R_drewN | apply Kd.R_drew)); exact HOm0.out) hb); have n1_ := Aside0.mk (Kd.R_elder' (by (with_reducible repeat (first | apply Kd.R_alloc | apply Kd.R_drewN | apply Kd.R_drew)); exact HOm1.out) (Kd.R_base hom0) hb); have n2_ := Aside0.mk (Kd.R_lower (Kd.R_new' hom0 (Kd.R_lt (by (with_reducible repeat (first | apply Kd.R_alloc | apply Kd.R_drewN | apply Kd.R_drew)); exact HOm1.out))) (below_size (by repeat (first | (with_reducible first | exact HB.out | apply below_alloc | apply pw_below_drewN | apply below_drew1 | refine below_set ?_ GEm0.out) | exact HB.out)))); have n3_ := Aside0.mk (blk_below (g := gbm0) (o := .cells #[.int .i64 t359, .int .i64 t360, .slice Aom0 t361.length com0] 25 (0, 0)) (by (with_reducible repeat (first | refine blk_drewN ?_ _ | refine blk_drew ?_ | refine blk_alloc ?_ _)); exact BKm0.out) hb); have n4_ := Aside0.mk (below_step (by repeat (first | (with_reducible first | exact HB.out | apply below_alloc | apply pw_below_drewN | apply below_drew1 | refine below_set ?_ GEm0.out) | exact HB.out)) hb); clear HOm0; clear HOm1; clear BKm0; clear HB; have HOm0 := n0_; have HOm1 := n1_; have HOm2 := n2_; have BKm0 := n3_; have HB := n4_; clear n0_ n1_ n2_ n3_ n4_; (try clear hb); (try clear hbm0); (try clear hk); (try clear hi); (try clear hom0); obtain ⟨Aom1, com1, eom1⟩ := Kd.R_slice HOm1.out; subst eom1; obtain ⟨Aom2, com2, eom2⟩ := Kd.R_slice HOm2.out; subst eom2) | ((with_reducible refine gate_callee (f := 6) rfl ?_); refine goesL_ (some 18) rfl rfl Tryd.func6 (by kernel_rfl) rfl #[.slice Aom1 t365.length com1, .slice Aom2 t368.length com2] rfl (by (try simp only [List.map_toArray, List.map_cons, List.map_nil]); first | done | rfl | (simp only [List.length_drop, List.length_take]; rfl)) ?_; (with_reducible refine (laws_pwTexts.calls k _ _ t365 _ _ t368 true _ ?sidem0 ?sidem1 ?sidem2 ?sidem3 A6.out).mono ?_); (case sidem0 => repeat (first | exact (Kd.R_reads' HOm1.out).2.2 | (with_reducible refine Kd.C_alloc ?_ _) | (with_reducible refine Kd.C_drewN ?_ _) | (with_reducible refine Kd.C_drew ?_))); (case sidem1 => exact (Kd.R_reads' HOm1.out).2.1); (case sidem2 => repeat (first | exact (Kd.R_reads' HOm2.out).2.2 | (with_reducible refine Kd.C_alloc ?_ _) | (with_reducible refine Kd.C_drewN ?_ _) | (with_reducible refine Kd.C_drew ?_))); (case sidem3 => exact (Kd.R_reads' HOm2.out).2.1); rintro e w' ⟨rfl, ⟨nd, rfl⟩⟩; refine ⟨_, rfl, ?_⟩; have hczm2_0 : wm3.cell? ⟨gbm0, 0, none⟩ = some (.int .i64 t359) := (blk_cell BKm0.out 0).trans rfl; have hczm2_1 : wm3.cell? ⟨gbm0, 1, none⟩ = some (.int .i64 t360) := (blk_cell BKm0.out 1).trans rfl; have hczm2_2 : wm3.cell? ⟨gbm0, 2, none⟩ = some (.slice Aom0 t361.length com0) := (blk_cell BKm0.out 2).trans rfl; have hfzm2_0 := blk_frozen BKm0.out 0; have hfzm2_1 := blk_frozen BKm0.out 1; have hfzm2_2 := blk_frozen BKm0.out 2) | ((with_reducible refine gate_callee (f := 8) rfl ?_); refine goesL_ (some 21) rfl rfl Tryd.func8 (by kernel_rfl) rfl #[.agg #[.int .i64 t359, .int .i64 t360, .slice Aom0 t361.length com0]] rfl (by (try simp only [List.map_toArray, List.map_cons, List.map_nil]); first | done | rfl | (simp only [List.length_drop, List.length_take]; rfl)) ?_; (with_reducible refine (spec_GrdOk.calls k t359 t360 _ _ t361 false _ ?sidem0 ?sidem1 A8.out).mono ?_); (case sidem0 => repeat (first | exact (Kd.R_reads' HOm0.out).2.2 | (with_reducible refine Kd.C_alloc ?_ _) | (with_reducible refine Kd.C_drewN ?_ _) | (with_reducible refine Kd.C_drew ?_))); (case sidem1 => exact (Kd.R_reads' HOm0.out).2.1); rintro e wm4 ⟨rfl, hb⟩; refine ⟨_, rfl, ?_⟩; have n0_ := Aside0.mk (Kd.R_below (by (with_reducible repeat (first | apply Kd.R_alloc | apply Kd.R_drewN | apply Kd.R_drew)); exact HOm0.out) hb); have n1_ := Aside0.mk (Kd.R_below (by (with_reducible repeat (first | apply Kd.R_alloc | apply Kd.R_drewN | apply Kd.R_drew)); exact HOm1.out) hb); have n2_ := Aside0.mk (Kd.R_below (by (with_reducible repeat (first | apply Kd.R_alloc | apply Kd.R_drewN | apply Kd.R_drew)); exact HOm2.out) hb); have n3_ := Aside0.mk (blk_below (g := gbm0) (o := .cells #[.int .i64 t359, .int .i64 t360, .slice Aom0 t361.length com0] 25 (0, 0)) (by (with_reducible repeat (first | refine blk_drewN ?_ _ | refine blk_drew ?_ | refine blk_alloc ?_ _)); exact BKm0.out) hb); have n4_ := Aside0.mk (below_step (by repeat (first | (with_reducible first | exact HB.out | apply below_alloc | apply pw_below_drewN | apply below_drew1 | refine below_set ?_ GEm0.out) | exact HB.out)) hb); clear HOm0; clear HOm1; clear HOm2; clear BKm0; clear HB; have HOm0 := n0_; have HOm1 := n1_; have HOm2 := n2_; have BKm0 := n3_; have HB := n4_; clear n0_ n1_ n2_ n3_ n4_; (try clear hb); (try clear hbm0); (try clear hk); (try clear hi)))
          go_ret
          exact ⟨by first | rfl | (simp [IntKind.wrap_i64, wrap64]; done) | (simp [errW_none, errW_some] <;> rfl) | (simp [*, errW_none, errW_some] <;> rfl), by repeat (first | (with_reducible first | exact HB.out | apply below_alloc | apply pw_below_drewN | apply below_drew1 | refine below_set ?_ GEm0.out) | exact HB.out)⟩
    · replace c7 := Bool.eq_false_iff.mpr c7
      subst c7
      have H1 : (some false) = some r := by rw [if_neg (show ¬ (false = true) by decide)] at H; exact H
      clear H
      have H := H1
      clear H1
      obtain rfl := Option.some.inj H
      go_enter Tryd.func3, Tryd.ntmps3
      go_wp2_with (first | ((with_reducible refine gate_callee (f := 4) rfl ?_); refine goesL_ (some 12) rfl rfl Tryd.func4 (by kernel_rfl) rfl #[.slice A0 l0.length c0] rfl (by (try simp only [List.map_toArray, List.map_cons, List.map_nil]); first | done | rfl | (simp only [List.length_drop, List.length_take]; rfl)) ?_; (with_reducible refine (spec_DrawQrySlots.calls k _ _ l0 t359 t360 t361 _ ?sidem0 ?sidem1 A3.out).mono ?_); (case sidem0 => repeat (first | exact HR0.out | (with_reducible refine Kd.C_alloc ?_ _) | (with_reducible refine Kd.C_drewN ?_ _) | (with_reducible refine Kd.C_drew ?_))); (case sidem1 => exact HC0.out); rintro e wm0 ⟨vm0, rfl, hom0, hb⟩; refine ⟨_, rfl, ?_⟩; have n0_ := Aside0.mk (Kd.R_lower hom0 (below_size (by repeat (first | (with_reducible first | exact HB.out | apply below_alloc | apply pw_below_drewN | apply below_drew1) | exact HB.out)))); have n1_ := Aside0.mk (below_step (by repeat (first | (with_reducible first | exact HB.out | apply below_alloc | apply pw_below_drewN | apply below_drew1) | exact HB.out)) hb); clear HB; have HOm0 := n0_; have HB := n1_; clear n0_ n1_; (try clear hb); (try clear hbm0); (try clear hk); (try clear hi); (try clear hom0)) | ((with_reducible refine gate_dst (N := 3) rfl ?_); refine box_event ?hg (N := 3) ?hd (cs := #[.int .i64 0, .int .i64 0, .slice none 0 0]) (t := 25) ?hr ?_; (case hd => rfl); (case hg => rfl); (case hr => first | (go_simp; done) | (go_simp; rfl)); intro gbm0 hg wm1 hbox hb; have n0_ := Aside0.mk (Kd.R_below (by (with_reducible repeat (first | apply Kd.R_alloc | apply Kd.R_drewN | apply Kd.R_drew)); exact HOm0.out) hb); have n1_ := Aside0.mk (below_step (by repeat (first | (with_reducible first | exact HB.out | apply below_alloc | apply pw_below_drewN | apply below_drew1) | exact HB.out)) hb); have n2_ := Aside0.mk (hbox); have n3_ := Aside0.mk ((by rw [hg]; exact (below_size (by repeat (first | (with_reducible first | exact HB.out | apply below_alloc | apply pw_below_drewN | apply below_drew1) | exact HB.out))) : w.heap.size ≤ gbm0)); have n4_ := Aside0.mk ((by rw [hg]; exact (below_size (by repeat (first | (with_reducible first | exact HB.out | apply below_alloc | apply pw_below_drewN | apply below_drew1) | exact HB.out))) : w.heap.size ≤ gbm0)); clear HOm0; clear HB; have HOm0 := n0_; have HB := n1_; have BKm0 := n2_; have GWm0 := n3_; have GEm0 := n4_; clear n0_ n1_ n2_ n3_ n4_; clear hb hbox hg; have hczm0_0 : wm1.cell? ⟨gbm0, 0, none⟩ = some (.int .i64 0) := (blk_cell BKm0.out 0).trans rfl; have hczm0_1 : wm1.cell? ⟨gbm0, 1, none⟩ = some (.int .i64 0) := (blk_cell BKm0.out 1).trans rfl; have hczm0_2 : wm1.cell? ⟨gbm0, 2, none⟩ = some (.slice none 0 0) := (blk_cell BKm0.out 2).trans rfl; have hfzm0_0 := blk_frozen BKm0.out 0; have hfzm0_1 := blk_frozen BKm0.out 1; have hfzm0_2 := blk_frozen BKm0.out 2; obtain ⟨Aom0, com0, eom0⟩ := Kd.R_slice HOm0.out; subst eom0) | ((with_reducible refine gate_callee (f := 5) rfl ?_); refine goesL_ (some 14) rfl rfl Tryd.func5 (by kernel_rfl) rfl #[.agg #[.int .i64 t359, .int .i64 t360, .slice Aom0 t361.length com0]] rfl (by (try simp only [List.map_toArray, List.map_cons, List.map_nil]); first | done | rfl | (simp only [List.length_drop, List.length_take]; rfl)) ?_; (with_reducible refine (impl_QrySlots.calls k t359 t360 _ _ t361 t365 _ ?sidem0 ?sidem1 A4.out).mono ?_); (case sidem0 => refine (Kd.R_reads' (e := 41) (base := w.heap.size) (ok := fun k_ => True) (n := t361.length) (c := com0) ?_).2.2; exact (by (with_reducible repeat (first | apply Kd.R_alloc | apply Kd.R_drewN | apply Kd.R_drew)); exact (Kd.R_mono (Kd.R_far (p := ⟨gbm0, 2, none⟩) (Kd.R_far (p := ⟨gbm0, 1, none⟩) (Kd.R_far (p := ⟨gbm0, 0, none⟩) (Kd.R_types HOm0.out BKm0.out (by decide)) (fun _ hk => hk.2) (.int .i64 t359)) (fun _ hk => hk.2) (.int .i64 t360)) (fun _ hk => hk.2) (.slice Aom0 t361.length com0)) (fun _ h_ => h_.1)))); (case sidem1 => exact (Kd.R_reads' HOm0.out).2.1); rintro e wm2 ⟨vm1, rfl, hom0, hb⟩; refine ⟨_, rfl, ?_⟩; have n0_ := Aside0.mk (Kd.R_below (by (with_reducible repeat (first | apply Kd.R_alloc | apply Kd.R_drewN | apply Kd.R_drew)); exact (Kd.R_mono (Kd.R_far (p := ⟨gbm0, 2, none⟩) (Kd.R_far (p := ⟨gbm0, 1, none⟩) (Kd.R_far (p := ⟨gbm0, 0, none⟩) (Kd.R_types HOm0.out BKm0.out (by decide)) (fun _ hk => hk.2) (.int .i64 t359)) (fun _ hk => hk.2) (.int .i64 t360)) (fun _ hk => hk.2) (.slice Aom0 t361.length com0)) (fun _ h_ => h_.1))) hb); have n1_ := Aside0.mk (Kd.R_lower hom0 (below_size (by repeat (first | (with_reducible first | exact HB.out | apply below_alloc | apply pw_below_drewN | apply below_drew1 | refine below_set ?_ GEm0.out) | exact HB.out)))); have n2_ := Aside0.mk (blk_below (g := gbm0) (o := .cells #[.int .i64 t359, .int .i64 t360, .slice Aom0 t361.length com0] 25 (0, 0)) (by (with_reducible repeat (first | refine blk_drewN ?_ _ | refine blk_drew ?_ | refine blk_alloc ?_ _)); refine blk_put (cs := #[.int .i64 t359, .int .i64 t360, .slice none 0 0]) ?_ 2 _ rfl; (with_reducible repeat (first | refine blk_drewN ?_ _ | refine blk_drew ?_ | refine blk_alloc ?_ _)); refine blk_put (cs := #[.int .i64 t359, .int .i64 0, .slice none 0 0]) ?_ 1 _ rfl; (with_reducible repeat (first | refine blk_drewN ?_ _ | refine blk_drew ?_ | refine blk_alloc ?_ _)); refine blk_put (cs := #[.int .i64 0, .int .i64 0, .slice none 0 0]) ?_ 0 _ rfl; (with_reducible repeat (first | refine blk_drewN ?_ _ | refine blk_drew ?_ | refine blk_alloc ?_ _)); exact BKm0.out) hb); have n3_ := Aside0.mk (below_step (by repeat (first | (with_reducible first | exact HB.out | apply below_alloc | apply pw_below_drewN | apply below_drew1 | refine below_set ?_ GEm0.out) | exact HB.out)) hb); clear HOm0; clear BKm0; clear HB; have HOm0 := n0_; have HOm1 := n1_; have BKm0 := n2_; have HB := n3_; clear n0_ n1_ n2_ n3_; (try clear hb); (try clear hbm0); (try clear hk); (try clear hi); (try clear hom0); have hczm1_0 : wm2.cell? ⟨gbm0, 0, none⟩ = some (.int .i64 t359) := (blk_cell BKm0.out 0).trans rfl; have hczm1_1 : wm2.cell? ⟨gbm0, 1, none⟩ = some (.int .i64 t360) := (blk_cell BKm0.out 1).trans rfl; have hczm1_2 : wm2.cell? ⟨gbm0, 2, none⟩ = some (.slice Aom0 t361.length com0) := (blk_cell BKm0.out 2).trans rfl; have hfzm1_0 := blk_frozen BKm0.out 0; have hfzm1_1 := blk_frozen BKm0.out 1; have hfzm1_2 := blk_frozen BKm0.out 2) | ((with_reducible refine gate_callee (f := 7) rfl ?_); refine goesL_ (some 17) rfl rfl Tryd.func7 (by kernel_rfl) rfl #[.agg #[.int .i64 t359, .int .i64 t360, .slice Aom0 t361.length com0]] rfl (by (try simp only [List.map_toArray, List.map_cons, List.map_nil]); first | done | rfl | (simp only [List.length_drop, List.length_take]; rfl)) ?_; (with_reducible refine (spec_QrySlots.calls k t359 t360 _ _ t361 t368 _ ?sidem0 ?sidem1 A5.out).mono ?_); (case sidem0 => repeat (first | exact (Kd.R_reads' HOm0.out).2.2 | (with_reducible refine Kd.C_alloc ?_ _) | (with_reducible refine Kd.C_drewN ?_ _) | (with_reducible refine Kd.C_drew ?_))); (case sidem1 => exact (Kd.R_reads' HOm0.out).2.1); rintro e wm3 ⟨vm2, rfl, hom0, hb⟩; refine ⟨_, rfl, ?_⟩; have n0_ := Aside0.mk (Kd.R_below (by (with_reducible repeat (first | apply Kd.R_alloc | apply Kd.R_drewN | apply Kd.R_drew)); exact HOm0.out) hb); have n1_ := Aside0.mk (Kd.R_elder' (by (with_reducible repeat (first | apply Kd.R_alloc | apply Kd.R_drewN | apply Kd.R_drew)); exact HOm1.out) (Kd.R_base hom0) hb); have n2_ := Aside0.mk (Kd.R_lower (Kd.R_new' hom0 (Kd.R_lt (by (with_reducible repeat (first | apply Kd.R_alloc | apply Kd.R_drewN | apply Kd.R_drew)); exact HOm1.out))) (below_size (by repeat (first | (with_reducible first | exact HB.out | apply below_alloc | apply pw_below_drewN | apply below_drew1 | refine below_set ?_ GEm0.out) | exact HB.out)))); have n3_ := Aside0.mk (blk_below (g := gbm0) (o := .cells #[.int .i64 t359, .int .i64 t360, .slice Aom0 t361.length com0] 25 (0, 0)) (by (with_reducible repeat (first | refine blk_drewN ?_ _ | refine blk_drew ?_ | refine blk_alloc ?_ _)); exact BKm0.out) hb); have n4_ := Aside0.mk (below_step (by repeat (first | (with_reducible first | exact HB.out | apply below_alloc | apply pw_below_drewN | apply below_drew1 | refine below_set ?_ GEm0.out) | exact HB.out)) hb); clear HOm0; clear HOm1; clear BKm0; clear HB; have HOm0 := n0_; have HOm1 := n1_; have HOm2 := n2_; have BKm0 := n3_; have HB := n4_; clear n0_ n1_ n2_ n3_ n4_; (try clear hb); (try clear hbm0); (try clear hk); (try clear hi); (try clear hom0); obtain ⟨Aom1, com1, eom1⟩ := Kd.R_slice HOm1.out; subst eom1; obtain ⟨Aom2, com2, eom2⟩ := Kd.R_slice HOm2.out; subst eom2) | ((with_reducible refine gate_callee (f := 6) rfl ?_); refine goesL_ (some 18) rfl rfl Tryd.func6 (by kernel_rfl) rfl #[.slice Aom1 t365.length com1, .slice Aom2 t368.length com2] rfl (by (try simp only [List.map_toArray, List.map_cons, List.map_nil]); first | done | rfl | (simp only [List.length_drop, List.length_take]; rfl)) ?_; (with_reducible refine (laws_pwTexts.calls k _ _ t365 _ _ t368 false _ ?sidem0 ?sidem1 ?sidem2 ?sidem3 A6.out).mono ?_); (case sidem0 => repeat (first | exact (Kd.R_reads' HOm1.out).2.2 | (with_reducible refine Kd.C_alloc ?_ _) | (with_reducible refine Kd.C_drewN ?_ _) | (with_reducible refine Kd.C_drew ?_))); (case sidem1 => exact (Kd.R_reads' HOm1.out).2.1); (case sidem2 => repeat (first | exact (Kd.R_reads' HOm2.out).2.2 | (with_reducible refine Kd.C_alloc ?_ _) | (with_reducible refine Kd.C_drewN ?_ _) | (with_reducible refine Kd.C_drew ?_))); (case sidem3 => exact (Kd.R_reads' HOm2.out).2.1); rintro e w' ⟨rfl, ⟨nd, rfl⟩⟩; refine ⟨_, rfl, ?_⟩))
      go_ret
      exact ⟨by first | rfl | (simp [IntKind.wrap_i64, wrap64]; done) | (simp [errW_none, errW_some] <;> rfl) | (simp [*, errW_none, errW_some] <;> rfl), by repeat (first | (with_reducible first | exact HB.out | apply below_alloc | apply pw_below_drewN | apply below_drew1 | refine below_set ?_ GEm0.out) | exact HB.out)⟩

/-- THE ONE PURE STATEMENT of laws_FnQrySlots: yours. -/
def laws_FnQrySlots.Pure : Prop := ∀ (l0 : List Int), l0.length ≤ maxLen → l0.length * 1 ≤ 140737488351232 → (∀ x ∈ l0, (Lit.int .u8 x).wf = true) → ∃ k, laws_FnQrySlots.f k l0 = some true

end Go.Proofs.YtalnklnfiopaoadDoor.Q
