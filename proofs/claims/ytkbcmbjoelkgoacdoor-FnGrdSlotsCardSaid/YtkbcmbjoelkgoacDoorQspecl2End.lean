-- Told by a program of this session (uprint.py, ulay.py).
import Derived.Test.YtkbcmbjoelkgoacDoorQ0
import Derived.Test.YtkbcmbjoelkgoacDoorReg
import Derived.Test.YtkbcmbjoelkgoacDoorQimplGrdCellmeets
import Derived.Test.YtkbcmbjoelkgoacDoorQspecl20AnyTable
namespace Go.Proofs.YtkbcmbjoelkgoacDoor.Q
open Go.RowKit Go.Proofs.YtkbcmbjoelkgoacDoorW.PrintWords Go.Proofs.YtkbcmbjoelkgoacDoorW.PrintLast Go.Proofs.YtkbcmbjoelkgoacDoorW.PrintMore Go.Proofs.YtkbcmbjoelkgoacDoor.Reg Go.Proofs.YtkbcmbjoelkgoacDoor.Box
attribute [local go_sem] max2_int min2_int max_two min_two max_three min_three max_four min_four
set_option linter.unusedVariables false
set_option linter.unusedSimpArgs false

/-! ### spec_l2End: function 40 -/
def spec_l2End.f (l0_0 : List (S58)) (a0_1 : Int) (a0_2 : Int) (l0_3 : List (S44)) (a0_4 : Int) (a1 : Int) : Option (Int) := (spec_l2Part.f l0_0 a0_1 a0_2 l0_3 a0_4 a1).bind fun t251 => (if t251 = 0 then (some a0_1) else (if t251 = 1 then (some (wrap64 ((l0_3.length : Int) - a0_2))) else (some (l0_3.length : Int))))
set_option maxHeartbeats 8000000 in
set_option maxRecDepth 100000 in
theorem spec_l2End.calls (A0_0 : Option Addr) (c0_0 : Nat) (l0_0 : List (S58)) (a0_1 : Int) (a0_2 : Int) (A0_3 : Option Addr) (c0_3 : Nat) (l0_3 : List (S44)) (a0_4 : Int) (a1 : Int) (r : Int) (w : World) (hr0_0 : Kd.C k58 w A0_0 l0_0.length l0_0) (hc0_0 : l0_0.length ≤ c0_0) (hr0_3 : Kd.C k44 w A0_3 l0_3.length l0_3) (hc0_3 : l0_3.length ≤ c0_3) (h : spec_l2End.f l0_0 a0_1 a0_2 l0_3 a0_4 a1 = some r) :
    Calls Tryd.prog 40 #[.agg #[.slice A0_0 l0_0.length c0_0, .int .i64 a0_1, .int .i64 a0_2, .slice A0_3 l0_3.length c0_3, .int .i64 a0_4], .int .i64 a1] w fun e w' => e = .returned (.int .i64 r) ∧ Below w.heap.size w w' := by
  have hu26 := Tryd.underlying26
  have HR0_0 := Aside0.mk hr0_0
  have HC0_0 := Aside0.mk hc0_0
  clear hr0_0 hc0_0
  have HR0_3 := Aside0.mk hr0_3
  have HC0_3 := Aside0.mk hc0_3
  clear hr0_3 hc0_3
  have HB := Aside0.mk (Below.refl w.heap.size w)
  have H : ((spec_l2Part.f l0_0 a0_1 a0_2 l0_3 a0_4 a1).bind fun t251 => (if t251 = 0 then (some a0_1) else (if t251 = 1 then (some (wrap64 ((l0_3.length : Int) - a0_2))) else (some (l0_3.length : Int))))) = some r := h
  clear h
  replace H := Option.bind_eq_some_iff.mp H
  obtain ⟨t251, A30, H⟩ := H
  replace H : (if t251 = 0 then (some a0_1) else (if t251 = 1 then (some (wrap64 ((l0_3.length : Int) - a0_2))) else (some (l0_3.length : Int)))) = some r := H
  have A3 := Aside0.mk A30
  clear A30
  by_cases c4 : t251 = 0
  · rw [if_pos c4] at H
    have c4b0 : (t251 == 0) = true := beq_iff_eq.mpr c4
    have c4b1 : (t251 != 0) = false := bne_eq_false_iff_eq.mpr c4
    clear c4
    obtain rfl := Option.some.inj H
    go_enter Tryd.func40, Tryd.ntmps40
    go_wp2_with (first | ((with_reducible refine gate_dst (N := 2) rfl ?_); refine box_event ?hg (N := 2) ?hd (cs := #[.slice A0_0 l0_0.length c0_0, .int .i64 a0_1, .int .i64 a0_2, .slice A0_3 l0_3.length c0_3, .int .i64 a0_4]) (t := 26) ?hr ?_; (case hd => rfl); (case hg => rfl); (case hr => first | (go_simp; done) | (go_simp; rfl)); intro gb250 hg w5 hbox hb; have n0_ := Aside0.mk (below_step (by repeat (first | (with_reducible first | exact HB.out | apply below_alloc | apply pw_below_drewN | apply below_drew1) | exact HB.out)) hb); have n1_ := Aside0.mk (hbox); have n2_ := Aside0.mk ((by rw [hg]; exact (below_size (by repeat (first | (with_reducible first | exact HB.out | apply below_alloc | apply pw_below_drewN | apply below_drew1) | exact HB.out))) : w.heap.size ≤ gb250)); have n3_ := Aside0.mk ((by rw [hg]; exact (below_size (by repeat (first | (with_reducible first | exact HB.out | apply below_alloc | apply pw_below_drewN | apply below_drew1) | exact HB.out))) : w.heap.size ≤ gb250)); clear HB; have HB := n0_; have BK250 := n1_; have GW250 := n2_; have GE250 := n3_; clear n0_ n1_ n2_ n3_; clear hb hbox hg; have hcz6_0 : w5.cell? ⟨gb250, 0, none⟩ = some (.slice A0_0 l0_0.length c0_0) := (blk_cell BK250.out 0).trans rfl; have hcz6_1 : w5.cell? ⟨gb250, 1, none⟩ = some (.int .i64 a0_1) := (blk_cell BK250.out 1).trans rfl; have hcz6_2 : w5.cell? ⟨gb250, 2, none⟩ = some (.int .i64 a0_2) := (blk_cell BK250.out 2).trans rfl; have hcz6_3 : w5.cell? ⟨gb250, 3, none⟩ = some (.slice A0_3 l0_3.length c0_3) := (blk_cell BK250.out 3).trans rfl; have hcz6_4 : w5.cell? ⟨gb250, 4, none⟩ = some (.int .i64 a0_4) := (blk_cell BK250.out 4).trans rfl; have hfz6_0 := blk_frozen BK250.out 0; have hfz6_1 := blk_frozen BK250.out 1; have hfz6_2 := blk_frozen BK250.out 2; have hfz6_3 := blk_frozen BK250.out 3; have hfz6_4 := blk_frozen BK250.out 4) | ((with_reducible refine gate_callee (f := 54) rfl ?_); refine goesL_ (some 7) rfl rfl Tryd.func54 (by kernel_rfl) rfl #[.agg #[.slice A0_0 l0_0.length c0_0, .int .i64 a0_1, .int .i64 a0_2, .slice A0_3 l0_3.length c0_3, .int .i64 a0_4], .int .i64 a1] rfl (by (try simp only [List.map_toArray, List.map_cons, List.map_nil]); first | done | rfl | (simp only [List.length_drop, List.length_take]; rfl)) ?_; (with_reducible refine (spec_l2Part.calls _ _ l0_0 a0_1 a0_2 _ _ l0_3 a0_4 a1 t251 _ ?side1 ?side2 ?side3 ?side4 A3.out).mono ?_); (case side1 => repeat (first | exact HR0_0.out | exact (Kd.C_below HR0_0.out HB.out) | (with_reducible refine Kd.C_alloc ?_ _) | (with_reducible refine Kd.C_drewN ?_ _) | (with_reducible refine Kd.C_drew ?_))); (case side2 => exact HC0_0.out); (case side3 => repeat (first | exact HR0_3.out | exact (Kd.C_below HR0_3.out HB.out) | (with_reducible refine Kd.C_alloc ?_ _) | (with_reducible refine Kd.C_drewN ?_ _) | (with_reducible refine Kd.C_drew ?_))); (case side4 => exact HC0_3.out); rintro e w7 ⟨rfl, hb⟩; refine ⟨_, rfl, ?_⟩; have n0_ := Aside0.mk (blk_below (g := gb250) (o := .cells #[.slice A0_0 l0_0.length c0_0, .int .i64 a0_1, .int .i64 a0_2, .slice A0_3 l0_3.length c0_3, .int .i64 a0_4] 26 (0, 0)) (by (with_reducible repeat (first | refine blk_drewN ?_ _ | refine blk_drew ?_ | refine blk_alloc ?_ _)); exact BK250.out) hb); have n1_ := Aside0.mk (below_step (by repeat (first | (with_reducible first | exact HB.out | apply below_alloc | apply pw_below_drewN | apply below_drew1 | refine below_set ?_ GE250.out) | exact HB.out)) hb); clear BK250; clear HB; have BK250 := n0_; have HB := n1_; clear n0_ n1_; (try clear hb); (try clear hb2); (try clear hk); (try clear hi); have hcz8_0 : w7.cell? ⟨gb250, 0, none⟩ = some (.slice A0_0 l0_0.length c0_0) := (blk_cell BK250.out 0).trans rfl; have hcz8_1 : w7.cell? ⟨gb250, 1, none⟩ = some (.int .i64 a0_1) := (blk_cell BK250.out 1).trans rfl; have hcz8_2 : w7.cell? ⟨gb250, 2, none⟩ = some (.int .i64 a0_2) := (blk_cell BK250.out 2).trans rfl; have hcz8_3 : w7.cell? ⟨gb250, 3, none⟩ = some (.slice A0_3 l0_3.length c0_3) := (blk_cell BK250.out 3).trans rfl; have hcz8_4 : w7.cell? ⟨gb250, 4, none⟩ = some (.int .i64 a0_4) := (blk_cell BK250.out 4).trans rfl; have hfz8_0 := blk_frozen BK250.out 0; have hfz8_1 := blk_frozen BK250.out 1; have hfz8_2 := blk_frozen BK250.out 2; have hfz8_3 := blk_frozen BK250.out 3; have hfz8_4 := blk_frozen BK250.out 4))
    go_ret
    exact ⟨by first | rfl | (simp [IntKind.wrap_i64, wrap64]; done) | (simp [errW_none, errW_some] <;> rfl) | (simp [*, errW_none, errW_some] <;> rfl), by repeat (first | (with_reducible first | exact HB.out | apply below_alloc | apply pw_below_drewN | apply below_drew1 | refine below_set ?_ GE250.out) | exact HB.out)⟩
  · rw [if_neg c4] at H
    have c4b0 : (t251 == 0) = false := beq_eq_false_iff_ne.mpr c4
    have c4b1 : (t251 != 0) = true := bne_iff_ne.mpr c4
    by_cases c9 : t251 = 1
    · rw [if_pos c9] at H
      have c9b0 : (t251 == 1) = true := beq_iff_eq.mpr c9
      have c9b1 : (t251 != 1) = false := bne_eq_false_iff_eq.mpr c9
      clear c9
      obtain rfl := Option.some.inj H
      go_enter Tryd.func40, Tryd.ntmps40
      go_wp2_with (first | ((with_reducible refine gate_dst (N := 2) rfl ?_); refine box_event ?hg (N := 2) ?hd (cs := #[.slice A0_0 l0_0.length c0_0, .int .i64 a0_1, .int .i64 a0_2, .slice A0_3 l0_3.length c0_3, .int .i64 a0_4]) (t := 26) ?hr ?_; (case hd => rfl); (case hg => rfl); (case hr => first | (go_simp; done) | (go_simp; rfl)); intro gb250 hg w10 hbox hb; have n0_ := Aside0.mk (below_step (by repeat (first | (with_reducible first | exact HB.out | apply below_alloc | apply pw_below_drewN | apply below_drew1) | exact HB.out)) hb); have n1_ := Aside0.mk (hbox); have n2_ := Aside0.mk ((by rw [hg]; exact (below_size (by repeat (first | (with_reducible first | exact HB.out | apply below_alloc | apply pw_below_drewN | apply below_drew1) | exact HB.out))) : w.heap.size ≤ gb250)); have n3_ := Aside0.mk ((by rw [hg]; exact (below_size (by repeat (first | (with_reducible first | exact HB.out | apply below_alloc | apply pw_below_drewN | apply below_drew1) | exact HB.out))) : w.heap.size ≤ gb250)); clear HB; have HB := n0_; have BK250 := n1_; have GW250 := n2_; have GE250 := n3_; clear n0_ n1_ n2_ n3_; clear hb hbox hg; have hcz11_0 : w10.cell? ⟨gb250, 0, none⟩ = some (.slice A0_0 l0_0.length c0_0) := (blk_cell BK250.out 0).trans rfl; have hcz11_1 : w10.cell? ⟨gb250, 1, none⟩ = some (.int .i64 a0_1) := (blk_cell BK250.out 1).trans rfl; have hcz11_2 : w10.cell? ⟨gb250, 2, none⟩ = some (.int .i64 a0_2) := (blk_cell BK250.out 2).trans rfl; have hcz11_3 : w10.cell? ⟨gb250, 3, none⟩ = some (.slice A0_3 l0_3.length c0_3) := (blk_cell BK250.out 3).trans rfl; have hcz11_4 : w10.cell? ⟨gb250, 4, none⟩ = some (.int .i64 a0_4) := (blk_cell BK250.out 4).trans rfl; have hfz11_0 := blk_frozen BK250.out 0; have hfz11_1 := blk_frozen BK250.out 1; have hfz11_2 := blk_frozen BK250.out 2; have hfz11_3 := blk_frozen BK250.out 3; have hfz11_4 := blk_frozen BK250.out 4) | ((with_reducible refine gate_callee (f := 54) rfl ?_); refine goesL_ (some 7) rfl rfl Tryd.func54 (by kernel_rfl) rfl #[.agg #[.slice A0_0 l0_0.length c0_0, .int .i64 a0_1, .int .i64 a0_2, .slice A0_3 l0_3.length c0_3, .int .i64 a0_4], .int .i64 a1] rfl (by (try simp only [List.map_toArray, List.map_cons, List.map_nil]); first | done | rfl | (simp only [List.length_drop, List.length_take]; rfl)) ?_; (with_reducible refine (spec_l2Part.calls _ _ l0_0 a0_1 a0_2 _ _ l0_3 a0_4 a1 t251 _ ?side1 ?side2 ?side3 ?side4 A3.out).mono ?_); (case side1 => repeat (first | exact HR0_0.out | exact (Kd.C_below HR0_0.out HB.out) | (with_reducible refine Kd.C_alloc ?_ _) | (with_reducible refine Kd.C_drewN ?_ _) | (with_reducible refine Kd.C_drew ?_))); (case side2 => exact HC0_0.out); (case side3 => repeat (first | exact HR0_3.out | exact (Kd.C_below HR0_3.out HB.out) | (with_reducible refine Kd.C_alloc ?_ _) | (with_reducible refine Kd.C_drewN ?_ _) | (with_reducible refine Kd.C_drew ?_))); (case side4 => exact HC0_3.out); rintro e w12 ⟨rfl, hb⟩; refine ⟨_, rfl, ?_⟩; have n0_ := Aside0.mk (blk_below (g := gb250) (o := .cells #[.slice A0_0 l0_0.length c0_0, .int .i64 a0_1, .int .i64 a0_2, .slice A0_3 l0_3.length c0_3, .int .i64 a0_4] 26 (0, 0)) (by (with_reducible repeat (first | refine blk_drewN ?_ _ | refine blk_drew ?_ | refine blk_alloc ?_ _)); exact BK250.out) hb); have n1_ := Aside0.mk (below_step (by repeat (first | (with_reducible first | exact HB.out | apply below_alloc | apply pw_below_drewN | apply below_drew1 | refine below_set ?_ GE250.out) | exact HB.out)) hb); clear BK250; clear HB; have BK250 := n0_; have HB := n1_; clear n0_ n1_; (try clear hb); (try clear hb2); (try clear hk); (try clear hi); have hcz13_0 : w12.cell? ⟨gb250, 0, none⟩ = some (.slice A0_0 l0_0.length c0_0) := (blk_cell BK250.out 0).trans rfl; have hcz13_1 : w12.cell? ⟨gb250, 1, none⟩ = some (.int .i64 a0_1) := (blk_cell BK250.out 1).trans rfl; have hcz13_2 : w12.cell? ⟨gb250, 2, none⟩ = some (.int .i64 a0_2) := (blk_cell BK250.out 2).trans rfl; have hcz13_3 : w12.cell? ⟨gb250, 3, none⟩ = some (.slice A0_3 l0_3.length c0_3) := (blk_cell BK250.out 3).trans rfl; have hcz13_4 : w12.cell? ⟨gb250, 4, none⟩ = some (.int .i64 a0_4) := (blk_cell BK250.out 4).trans rfl; have hfz13_0 := blk_frozen BK250.out 0; have hfz13_1 := blk_frozen BK250.out 1; have hfz13_2 := blk_frozen BK250.out 2; have hfz13_3 := blk_frozen BK250.out 3; have hfz13_4 := blk_frozen BK250.out 4))
      go_ret
      exact ⟨by first | rfl | (simp [IntKind.wrap_i64, wrap64]; done) | (simp [errW_none, errW_some] <;> rfl) | (simp [*, errW_none, errW_some] <;> rfl), by repeat (first | (with_reducible first | exact HB.out | apply below_alloc | apply pw_below_drewN | apply below_drew1 | refine below_set ?_ GE250.out) | exact HB.out)⟩
    · rw [if_neg c9] at H
      have c9b0 : (t251 == 1) = false := beq_eq_false_iff_ne.mpr c9
      have c9b1 : (t251 != 1) = true := bne_iff_ne.mpr c9
      obtain rfl := Option.some.inj H
      go_enter Tryd.func40, Tryd.ntmps40
      go_wp2_with (first | ((with_reducible refine gate_dst (N := 2) rfl ?_); refine box_event ?hg (N := 2) ?hd (cs := #[.slice A0_0 l0_0.length c0_0, .int .i64 a0_1, .int .i64 a0_2, .slice A0_3 l0_3.length c0_3, .int .i64 a0_4]) (t := 26) ?hr ?_; (case hd => rfl); (case hg => rfl); (case hr => first | (go_simp; done) | (go_simp; rfl)); intro gb250 hg w14 hbox hb; have n0_ := Aside0.mk (below_step (by repeat (first | (with_reducible first | exact HB.out | apply below_alloc | apply pw_below_drewN | apply below_drew1) | exact HB.out)) hb); have n1_ := Aside0.mk (hbox); have n2_ := Aside0.mk ((by rw [hg]; exact (below_size (by repeat (first | (with_reducible first | exact HB.out | apply below_alloc | apply pw_below_drewN | apply below_drew1) | exact HB.out))) : w.heap.size ≤ gb250)); have n3_ := Aside0.mk ((by rw [hg]; exact (below_size (by repeat (first | (with_reducible first | exact HB.out | apply below_alloc | apply pw_below_drewN | apply below_drew1) | exact HB.out))) : w.heap.size ≤ gb250)); clear HB; have HB := n0_; have BK250 := n1_; have GW250 := n2_; have GE250 := n3_; clear n0_ n1_ n2_ n3_; clear hb hbox hg; have hcz15_0 : w14.cell? ⟨gb250, 0, none⟩ = some (.slice A0_0 l0_0.length c0_0) := (blk_cell BK250.out 0).trans rfl; have hcz15_1 : w14.cell? ⟨gb250, 1, none⟩ = some (.int .i64 a0_1) := (blk_cell BK250.out 1).trans rfl; have hcz15_2 : w14.cell? ⟨gb250, 2, none⟩ = some (.int .i64 a0_2) := (blk_cell BK250.out 2).trans rfl; have hcz15_3 : w14.cell? ⟨gb250, 3, none⟩ = some (.slice A0_3 l0_3.length c0_3) := (blk_cell BK250.out 3).trans rfl; have hcz15_4 : w14.cell? ⟨gb250, 4, none⟩ = some (.int .i64 a0_4) := (blk_cell BK250.out 4).trans rfl; have hfz15_0 := blk_frozen BK250.out 0; have hfz15_1 := blk_frozen BK250.out 1; have hfz15_2 := blk_frozen BK250.out 2; have hfz15_3 := blk_frozen BK250.out 3; have hfz15_4 := blk_frozen BK250.out 4) | ((with_reducible refine gate_callee (f := 54) rfl ?_); refine goesL_ (some 7) rfl rfl Tryd.func54 (by kernel_rfl) rfl #[.agg #[.slice A0_0 l0_0.length c0_0, .int .i64 a0_1, .int .i64 a0_2, .slice A0_3 l0_3.length c0_3, .int .i64 a0_4], .int .i64 a1] rfl (by (try simp only [List.map_toArray, List.map_cons, List.map_nil]); first | done | rfl | (simp only [List.length_drop, List.length_take]; rfl)) ?_; (with_reducible refine (spec_l2Part.calls _ _ l0_0 a0_1 a0_2 _ _ l0_3 a0_4 a1 t251 _ ?side1 ?side2 ?side3 ?side4 A3.out).mono ?_); (case side1 => repeat (first | exact HR0_0.out | exact (Kd.C_below HR0_0.out HB.out) | (with_reducible refine Kd.C_alloc ?_ _) | (with_reducible refine Kd.C_drewN ?_ _) | (with_reducible refine Kd.C_drew ?_))); (case side2 => exact HC0_0.out); (case side3 => repeat (first | exact HR0_3.out | exact (Kd.C_below HR0_3.out HB.out) | (with_reducible refine Kd.C_alloc ?_ _) | (with_reducible refine Kd.C_drewN ?_ _) | (with_reducible refine Kd.C_drew ?_))); (case side4 => exact HC0_3.out); rintro e w16 ⟨rfl, hb⟩; refine ⟨_, rfl, ?_⟩; have n0_ := Aside0.mk (blk_below (g := gb250) (o := .cells #[.slice A0_0 l0_0.length c0_0, .int .i64 a0_1, .int .i64 a0_2, .slice A0_3 l0_3.length c0_3, .int .i64 a0_4] 26 (0, 0)) (by (with_reducible repeat (first | refine blk_drewN ?_ _ | refine blk_drew ?_ | refine blk_alloc ?_ _)); exact BK250.out) hb); have n1_ := Aside0.mk (below_step (by repeat (first | (with_reducible first | exact HB.out | apply below_alloc | apply pw_below_drewN | apply below_drew1 | refine below_set ?_ GE250.out) | exact HB.out)) hb); clear BK250; clear HB; have BK250 := n0_; have HB := n1_; clear n0_ n1_; (try clear hb); (try clear hb2); (try clear hk); (try clear hi); have hcz17_0 : w16.cell? ⟨gb250, 0, none⟩ = some (.slice A0_0 l0_0.length c0_0) := (blk_cell BK250.out 0).trans rfl; have hcz17_1 : w16.cell? ⟨gb250, 1, none⟩ = some (.int .i64 a0_1) := (blk_cell BK250.out 1).trans rfl; have hcz17_2 : w16.cell? ⟨gb250, 2, none⟩ = some (.int .i64 a0_2) := (blk_cell BK250.out 2).trans rfl; have hcz17_3 : w16.cell? ⟨gb250, 3, none⟩ = some (.slice A0_3 l0_3.length c0_3) := (blk_cell BK250.out 3).trans rfl; have hcz17_4 : w16.cell? ⟨gb250, 4, none⟩ = some (.int .i64 a0_4) := (blk_cell BK250.out 4).trans rfl; have hfz17_0 := blk_frozen BK250.out 0; have hfz17_1 := blk_frozen BK250.out 1; have hfz17_2 := blk_frozen BK250.out 2; have hfz17_3 := blk_frozen BK250.out 3; have hfz17_4 := blk_frozen BK250.out 4))
      go_ret
      exact ⟨by first | rfl | (simp [IntKind.wrap_i64, wrap64]; done) | (simp [errW_none, errW_some] <;> rfl) | (simp [*, errW_none, errW_some] <;> rfl), by repeat (first | (with_reducible first | exact HB.out | apply below_alloc | apply pw_below_drewN | apply below_drew1 | refine below_set ?_ GE250.out) | exact HB.out)⟩

/-! ### spec_l3Meets: function 55 (by hand) -/
def spec_l3Meets.f (a0_0 : Int) (a0_1 : Int) (a0_2 : Int) (a0_3 : Int) (a0_4 : Int) (a1_0 : Int) (a1_1 : Int) (a1_2 : Int) (a1_3 : Int) (a1_4 : Int) : Option (Bool) := if a0_0 < (wrap64 (a1_0 + a1_2)) then (if a1_0 < (wrap64 (a0_0 + a0_2)) then (if a0_1 < (wrap64 (a1_1 + a1_3)) then (some (decide (a1_1 < (wrap64 (a0_1 + a0_3))))) else (some false)) else (some false)) else (some false)
theorem spec_l3Meets.part {c : Prop} [Decidable c] {f : Option Bool} {r : Bool} (h : (if c then f else some false) = some r) : (decide c = false ∧ r = false) ∨ (decide c = true ∧ f = some r) := by
  by_cases hc : c
  · rw [if_pos hc] at h
    exact .inr ⟨decide_eq_true hc, h⟩
  · rw [if_neg hc] at h
    exact .inl ⟨decide_eq_false hc, (Option.some.inj h).symm⟩
set_option maxHeartbeats 4000000 in
set_option maxRecDepth 100000 in
theorem spec_l3Meets.calls (a0_0 : Int) (a0_1 : Int) (a0_2 : Int) (a0_3 : Int) (a0_4 : Int) (a1_0 : Int) (a1_1 : Int) (a1_2 : Int) (a1_3 : Int) (a1_4 : Int) (r : Bool) (w : World) (h : spec_l3Meets.f a0_0 a0_1 a0_2 a0_3 a0_4 a1_0 a1_1 a1_2 a1_3 a1_4 = some r) :
    Calls Tryd.prog 55 #[.agg #[.int .i64 a0_0, .int .i64 a0_1, .int .i64 a0_2, .int .i64 a0_3, .int .i64 a0_4], .agg #[.int .i64 a1_0, .int .i64 a1_1, .int .i64 a1_2, .int .i64 a1_3, .int .i64 a1_4]] w fun e w' => e = .returned (.bool r) ∧ Below w.heap.size w w' := by
  have hu1 := Tryd.underlying37
  unfold spec_l3Meets.f at h
  obtain ⟨d1, rfl⟩ | ⟨d1, h⟩ := spec_l3Meets.part h
  rotate_left
  obtain ⟨d2, rfl⟩ | ⟨d2, h⟩ := spec_l3Meets.part h
  rotate_left
  obtain ⟨d3, rfl⟩ | ⟨d3, h⟩ := spec_l3Meets.part h
  rotate_left
  obtain rfl := Option.some.inj h
  all_goals
    clear h
    go_enter Tryd.func55, Tryd.ntmps55
    go_wp2
    go_ret
    exact ⟨by first | rfl | (simp [IntKind.wrap_i64, wrap64]; done), by repeat (with_reducible first | exact Below.refl _ _ | apply below_alloc | apply pw_below_drewN | apply below_drew1)⟩

/-! ### spec_l3Free: function 41 -/
def spec_l3Free.l0 : Nat → List (S37) → Int → Int → Int → Int → Int → Int → Option (Bool)
  | 0, _, _, _, _, _, _, _ => none
  | k + 1, x0, x5, x255000, x255001, x255002, x255003, x255004 => if x5 < (x0.length : Int) then (if 0 ≤ x5 then ((spec_l3Meets.f ((rd_T37 x0 x5).f0) ((rd_T37 x0 x5).f1) ((rd_T37 x0 x5).f2) ((rd_T37 x0 x5).f3) ((rd_T37 x0 x5).f4) x255000 x255001 x255002 x255003 x255004).bind fun t256 => (if t256 = true then (some false) else (spec_l3Free.l0 k x0 (wrap64 (x5 + 1)) x255000 x255001 x255002 x255003 x255004))) else (none)) else (some true)
def spec_l3Free.f (k : Nat) (l0 : List (S37)) (a1_0 : Int) (a1_1 : Int) (a1_2 : Int) (a1_3 : Int) (a1_4 : Int) : Option (Bool) := spec_l3Free.l0 k l0 0 a1_0 a1_1 a1_2 a1_3 a1_4
theorem spec_l3Free.mono_l : ∀ k, (∀ y0 y1 y2 y3 y4 y5 y6, LeO (spec_l3Free.l0 k y0 y1 y2 y3 y4 y5 y6) (spec_l3Free.l0 (k + 1) y0 y1 y2 y3 y4 y5 y6))
  | 0 => fun _ _ _ _ _ _ _ r h => by simp [spec_l3Free.l0] at h
  | k + 1 => by
    have ih0 := spec_l3Free.mono_l k
    · intro y0 y1 y2 y3 y4 y5 y6
      unfold spec_l3Free.l0
      repeat' first
      | (with_reducible exact ih0 _ _ _ _ _ _ _)
      | (with_reducible exact LeO.refl _)
      | (with_reducible exact LeO.none _)
      | (with_reducible refine LeO.ite ?_ ?_)
      | (with_reducible refine LeO.bind ?_ (fun _ => ?_))
      | exact ih0 _ _ _ _ _ _ _
      | exact LeO.none _
      | refine LeO.ite ?_ ?_
      | refine LeO.bind ?_ (fun _ => ?_)
theorem spec_l3Free.mono : ∀ a0 a1 a2 a3 a4 a5 k, LeO (spec_l3Free.f k a0 a1 a2 a3 a4 a5) (spec_l3Free.f (k + 1) a0 a1 a2 a3 a4 a5) := by
  intro a0 a1 a2 a3 a4 a5 k
  have ih0 := spec_l3Free.mono_l k
  unfold spec_l3Free.f
  repeat' first
      | (with_reducible exact ih0 _ _ _ _ _ _ _)
      | (with_reducible exact LeO.refl _)
      | (with_reducible exact LeO.none _)
      | (with_reducible refine LeO.ite ?_ ?_)
      | (with_reducible refine LeO.bind ?_ (fun _ => ?_))
      | exact ih0 _ _ _ _ _ _ _
      | exact LeO.none _
      | refine LeO.ite ?_ ?_
      | refine LeO.bind ?_ (fun _ => ?_)
set_option maxHeartbeats 8000000 in
set_option maxRecDepth 100000 in
theorem spec_l3Free.calls (k : Nat) (A0 : Option Addr) (c0 : Nat) (l0 : List (S37)) (a1_0 : Int) (a1_1 : Int) (a1_2 : Int) (a1_3 : Int) (a1_4 : Int) (r : Bool) (w : World) (hr0 : Kd.C k37 w A0 l0.length l0) (hc0 : l0.length ≤ c0) (h : spec_l3Free.f k l0 a1_0 a1_1 a1_2 a1_3 a1_4 = some r) :
    Calls Tryd.prog 41 #[.slice A0 l0.length c0, .agg #[.int .i64 a1_0, .int .i64 a1_1, .int .i64 a1_2, .int .i64 a1_3, .int .i64 a1_4]] w fun e w' => e = .returned (.bool r) ∧ Below w.heap.size w w' := by
  have hu37 := Tryd.underlying37
  have HR0 := Aside0.mk hr0
  have HC0 := Aside0.mk hc0
  clear hr0 hc0
  have HB := Aside0.mk (Below.refl w.heap.size w)
  have H : (spec_l3Free.l0 k l0 0 a1_0 a1_1 a1_2 a1_3 a1_4) = some r := h
  clear h
  have H' := Aside0.mk H
  clear H
  go_enter Tryd.func41, Tryd.ntmps41
  go_wp2_with (first | ((with_reducible refine gate_dst (N := 3) rfl ?_); refine box_event ?hg (N := 3) ?hd (cs := #[.int .i64 a1_0, .int .i64 a1_1, .int .i64 a1_2, .int .i64 a1_3, .int .i64 a1_4]) (t := 37) ?hr ?_; (case hd => rfl); (case hg => rfl); (case hr => first | (go_simp; done) | (go_simp; rfl)); intro gb254 hg w3 hbox hb; have n0_ := Aside0.mk (below_step (by repeat (first | (with_reducible first | exact HB.out | apply below_alloc | apply pw_below_drewN | apply below_drew1) | exact HB.out)) hb); have n1_ := Aside0.mk (hbox); have n2_ := Aside0.mk ((by rw [hg]; exact (below_size (by repeat (first | (with_reducible first | exact HB.out | apply below_alloc | apply pw_below_drewN | apply below_drew1) | exact HB.out))) : w.heap.size ≤ gb254)); have n3_ := Aside0.mk ((by rw [hg]; exact (below_size (by repeat (first | (with_reducible first | exact HB.out | apply below_alloc | apply pw_below_drewN | apply below_drew1) | exact HB.out))) : w.heap.size ≤ gb254)); clear HB; have HB := n0_; have BK254 := n1_; have GW254 := n2_; have GE254 := n3_; clear n0_ n1_ n2_ n3_; clear hb hbox hg))
  go_loopg [5] k (fun kq v5 w' => ∃ (x5_1 : Int), v5 = .int .i64 x5_1 ∧ Aside0 (spec_l3Free.l0 kq l0 x5_1 a1_0 a1_1 a1_2 a1_3 a1_4 = some r) ∧ Aside0 (kq ≤ k) ∧ Aside0 (w'.heap[gb254]? = some (.cells #[.int .i64 a1_0, .int .i64 a1_1, .int .i64 a1_2, .int .i64 a1_3, .int .i64 a1_4] 37 (0, 0))) ∧ Aside0 (Below w.heap.size w w'))
  case atStart => exact ⟨(0), (by first | rfl | (simp; done) | (simp [*]; done)), H', ⟨Nat.le_refl _⟩, ⟨by (with_reducible repeat (first | refine blk_drewN ?_ _ | refine blk_drew ?_ | refine blk_alloc ?_ _)); exact BK254.out⟩, ⟨by repeat (first | (with_reducible first | exact HB.out | apply below_alloc | apply pw_below_drewN | apply below_drew1 | refine below_set ?_ GE254.out) | exact HB.out)⟩⟩
  case round =>
    clear H'
    try clear p2
    obtain ⟨x5_1, rfl, HA, HK1, BK254, HB⟩ := hrel
    cases gk with
    | zero => exact absurd HA.out (by simp [spec_l3Free.l0])
    | succ k1 =>
      have H := HA.out
      clear HA
      simp only [spec_l3Free.l0] at H
      by_cases c4 : x5_1 < (l0.length : Int)
      · rw [if_pos c4] at H
        have c4b0 : decide (x5_1 < (l0.length : Int)) = true := decide_eq_true c4
        clear c4
        by_cases c5 : 0 ≤ x5_1
        · rw [if_pos c5] at H
          have c5b0 : decide (0 ≤ x5_1) = true := decide_eq_true c5
          clear c5
          replace H := Option.bind_eq_some_iff.mp H
          obtain ⟨t256, A60, H⟩ := H
          replace H : (if t256 = true then (some false) else (spec_l3Free.l0 k1 l0 (wrap64 (x5_1 + 1)) a1_0 a1_1 a1_2 a1_3 a1_4)) = some r := H
          have A6 := Aside0.mk A60
          clear A60
          by_cases c7 : t256 = true
          · subst c7
            have H1 : (some false) = some r := by rw [if_pos rfl] at H; exact H
            clear H
            have H := H1
            clear H1
            obtain rfl := Option.some.inj H
            try go_wp2
            have n0_ := Aside0.mk (blk_drew BK254.out)
            have n1_ := Aside0.mk (below_drew1 HB.out)
            clear BK254
            clear HB
            have BK254 := n0_
            have HB := n1_
            clear n0_ n1_
            have p255 : 0 ≤ (x5_1 : Int) := of_decide_eq_true (by first | (with_reducible assumption) | assumption)
            have q255 : x5_1 < (l0.length : Int) := of_decide_eq_true (by first | (with_reducible assumption) | assumption)
            obtain ⟨ad255, e255, hx255_0, hx255_1, hx255_2, hx255_3, hx255_4⟩ := at_T37 HR0.out x5_1 p255 q255
            have hw255_4 := hx255_4
            have hw255_3 := hx255_3
            have hw255_2 := hx255_2
            have hw255_1 := hx255_1
            have hw255_0 := hx255_0
            cases e255
            replace hx255_0 := (HB.out.cell (World.block_lt_of_cell? w _ hx255_0)).trans hx255_0
            replace hx255_1 := (HB.out.cell (World.block_lt_of_cell? w _ hx255_1)).trans hx255_1
            replace hx255_2 := (HB.out.cell (World.block_lt_of_cell? w _ hx255_2)).trans hx255_2
            replace hx255_3 := (HB.out.cell (World.block_lt_of_cell? w _ hx255_3)).trans hx255_3
            replace hx255_4 := (HB.out.cell (World.block_lt_of_cell? w _ hx255_4)).trans hx255_4
            replace p255 := eq_true p255
            replace q255 := eq_true q255
            refine start_ (n := 6) (S := fun w' => w'.cell? ⟨gb254, 0, none⟩ = some (.int .i64 a1_0) ∧ w'.cell? ⟨gb254, 1, none⟩ = some (.int .i64 a1_1) ∧ w'.cell? ⟨gb254, 2, none⟩ = some (.int .i64 a1_2) ∧ w'.cell? ⟨gb254, 3, none⟩ = some (.int .i64 a1_3) ∧ w'.cell? ⟨gb254, 4, none⟩ = some (.int .i64 a1_4) ∧ w'.cell? (ad255.add ((x5_1).toNat * 5)) = some (.int .i64 ((rd_T37 l0 x5_1).f0)) ∧ w'.cell? ⟨(ad255.add ((x5_1).toNat * 5)).block, (ad255.add ((x5_1).toNat * 5)).off + 1, none⟩ = some (.int .i64 ((rd_T37 l0 x5_1).f1)) ∧ w'.cell? ⟨(ad255.add ((x5_1).toNat * 5)).block, (ad255.add ((x5_1).toNat * 5)).off + 2, none⟩ = some (.int .i64 ((rd_T37 l0 x5_1).f2)) ∧ w'.cell? ⟨(ad255.add ((x5_1).toNat * 5)).block, (ad255.add ((x5_1).toNat * 5)).off + 3, none⟩ = some (.int .i64 ((rd_T37 l0 x5_1).f3)) ∧ w'.cell? ⟨(ad255.add ((x5_1).toNat * 5)).block, (ad255.add ((x5_1).toNat * 5)).off + 4, none⟩ = some (.int .i64 ((rd_T37 l0 x5_1).f4))) (ds := []) #[false, false, false, false, false, false] (by kernel_rfl) rfl rfl ⟨(blk_cell BK254.out 0).trans rfl, (blk_cell BK254.out 1).trans rfl, (blk_cell BK254.out 2).trans rfl, (blk_cell BK254.out 3).trans rfl, (blk_cell BK254.out 4).trans rfl, ((HB.out.cell (World.block_lt_of_cell? w _ hw255_0)).trans hw255_0), ((HB.out.cell (World.block_lt_of_cell? w _ hw255_1)).trans hw255_1), ((HB.out.cell (World.block_lt_of_cell? w _ hw255_2)).trans hw255_2), ((HB.out.cell (World.block_lt_of_cell? w _ hw255_3)).trans hw255_3), ((HB.out.cell (World.block_lt_of_cell? w _ hw255_4)).trans hw255_4)⟩ (fun hHeld => ?_)
            generalize wr.drew = w8 at BK254 HB hx255_0 hx255_1 hx255_2 hx255_3 hx255_4 hHeld ⊢
            refine pure_ (i := 0) (N := some 12) (v := ?_) (a' := ?_) #[true, false, false, false, false, false] rfl rfl (by kernel_rfl) (fun _ _ _ h => h) (Or.inl ⟨by rfl, ?_⟩) ?_ ?_
            rotate_left
            · intro w'
              go_simp
              with_reducible rfl
            rotate_left
            · simp only [Act.put, List.setIfInBounds_toArray, List.set_cons_zero, List.set_cons_succ, i64_w, i32_w]
              rfl
            refine pure_ (i := 1) (N := some 13) (v := ?_) (a' := ?_) #[true, true, false, false, false, false] rfl rfl (by kernel_rfl) (fun _ _ _ h => h) (Or.inl ⟨by rfl, ?_⟩) ?_ ?_
            rotate_left
            · intro w'
              go_simp
              with_reducible rfl
            rotate_left
            · simp only [Act.put, List.setIfInBounds_toArray, List.set_cons_zero, List.set_cons_succ, i64_w, i32_w]
              rfl
            refine pure_ (i := 2) (N := some 14) (v := ?_) (a' := ?_) #[true, true, true, false, false, false] rfl rfl (by kernel_rfl) (fun _ _ _ h => h) (Or.inl ⟨by rfl, ?_⟩) ?_ ?_
            rotate_left
            · intro w'
              go_simp
              with_reducible rfl
            rotate_left
            · simp only [Act.put, List.setIfInBounds_toArray, List.set_cons_zero, List.set_cons_succ, i64_w, i32_w]
              rfl
            refine take_ (i := 3) (N := some 15) (v := ?_) (a' := ?_) #[true, true, true, true, false, false] rfl rfl (by kernel_rfl) (fun _ _ _ h => h) (Or.inl ⟨by rfl, ?_⟩) hHeld ?_ ?_
            rotate_left
            · rintro w' ⟨s0, s1, s2, s3, s4, s5, s6, s7, s8, s9⟩
              go_simp
              with_reducible rfl
            rotate_left
            · simp only [Act.put, List.setIfInBounds_toArray, List.set_cons_zero, List.set_cons_succ, i64_w, i32_w]
              rfl
            refine take_ (i := 4) (N := some 16) (v := ?_) (a' := ?_) #[true, true, true, true, true, false] rfl rfl (by kernel_rfl) (fun _ _ _ h => h) (Or.inl ⟨by rfl, ?_⟩) hHeld ?_ ?_
            rotate_left
            · rintro w' ⟨s0, s1, s2, s3, s4, s5, s6, s7, s8, s9⟩
              go_simp
              with_reducible rfl
            rotate_left
            · simp only [Act.put, List.setIfInBounds_toArray, List.set_cons_zero, List.set_cons_succ, i64_w, i32_w]
              rfl
            refine one_ (i := 5) (N := some 17) #[true, true, true, true, true, true] rfl rfl (by kernel_rfl) (by decide) (fun K hK => ?_)
            refine goes_ Tryd.func55 (by kernel_rfl) rfl #[.agg #[.int .i64 ((rd_T37 l0 x5_1).f0), .int .i64 ((rd_T37 l0 x5_1).f1), .int .i64 ((rd_T37 l0 x5_1).f2), .int .i64 ((rd_T37 l0 x5_1).f3), .int .i64 ((rd_T37 l0 x5_1).f4)], .agg #[.int .i64 a1_0, .int .i64 a1_1, .int .i64 a1_2, .int .i64 a1_3, .int .i64 a1_4]] (by rfl) rfl rfl (by (try simp only [List.map_toArray, List.map_cons, List.map_nil]); first | done | rfl | (simp only [List.length_drop, List.length_take]; rfl)) ?_
            with_reducible refine (spec_l3Meets.calls ((rd_T37 l0 x5_1).f0) ((rd_T37 l0 x5_1).f1) ((rd_T37 l0 x5_1).f2) ((rd_T37 l0 x5_1).f3) ((rd_T37 l0 x5_1).f4) a1_0 a1_1 a1_2 a1_3 a1_4 true _ A6.out).mono ?_
            rintro e w9 ⟨rfl, hb⟩
            refine ⟨_, rfl, ?_⟩
            have n0_ := Aside0.mk (blk_below (g := gb254) (o := .cells #[.int .i64 a1_0, .int .i64 a1_1, .int .i64 a1_2, .int .i64 a1_3, .int .i64 a1_4] 37 (0, 0)) (by (with_reducible repeat (first | refine blk_drewN ?_ _ | refine blk_drew ?_ | refine blk_alloc ?_ _)); exact BK254.out) hb)
            have n1_ := Aside0.mk (below_step (by repeat (first | (with_reducible first | exact HB.out | apply below_alloc | apply pw_below_drewN | apply below_drew1 | refine below_set ?_ GE254.out) | exact HB.out)) hb)
            clear BK254
            clear HB
            have BK254 := n0_
            have HB := n1_
            clear n0_ n1_
            (try clear hb)
            (try clear hb2)
            (try clear hk)
            (try clear hi)
            refine hK.out _ _ ⟨(blk_cell BK254.out 0).trans rfl, (blk_cell BK254.out 1).trans rfl, (blk_cell BK254.out 2).trans rfl, (blk_cell BK254.out 3).trans rfl, (blk_cell BK254.out 4).trans rfl, ((HB.out.cell (World.block_lt_of_cell? w _ hw255_0)).trans hw255_0), ((HB.out.cell (World.block_lt_of_cell? w _ hw255_1)).trans hw255_1), ((HB.out.cell (World.block_lt_of_cell? w _ hw255_2)).trans hw255_2), ((HB.out.cell (World.block_lt_of_cell? w _ hw255_3)).trans hw255_3), ((HB.out.cell (World.block_lt_of_cell? w _ hw255_4)).trans hw255_4)⟩ (fun hHeld => ?_)
            clear hK K
            refine norm_ (a' := ?_) ?_ ?_
            rotate_left
            · show Act.put _ (some 17) _ = _
              simp only [Act.put, List.setIfInBounds_toArray, List.set_cons_zero, List.set_cons_succ, i64_w, i32_w]
              rfl
            refine done_ (by kernel_rfl) ?_
            try go_wp2
            all_goals (go_ret; exact ⟨by first | rfl | (simp [IntKind.wrap_i64, wrap64]; done) | (simp [errW_none, errW_some] <;> rfl) | (simp [*, errW_none, errW_some] <;> rfl), by repeat (first | (with_reducible first | exact HB.out | apply below_alloc | apply pw_below_drewN | apply below_drew1 | refine below_set ?_ GE254.out) | exact HB.out)⟩)
          · replace c7 := Bool.eq_false_iff.mpr c7
            subst c7
            have H1 : (spec_l3Free.l0 k1 l0 (wrap64 (x5_1 + 1)) a1_0 a1_1 a1_2 a1_3 a1_4) = some r := by rw [if_neg (show ¬ (false = true) by decide)] at H; exact H
            clear H
            have H := H1
            clear H1
            have H' := Aside0.mk H
            clear H
            try go_wp2
            have n0_ := Aside0.mk (blk_drew BK254.out)
            have n1_ := Aside0.mk (below_drew1 HB.out)
            clear BK254
            clear HB
            have BK254 := n0_
            have HB := n1_
            clear n0_ n1_
            have p255 : 0 ≤ (x5_1 : Int) := of_decide_eq_true (by first | (with_reducible assumption) | assumption)
            have q255 : x5_1 < (l0.length : Int) := of_decide_eq_true (by first | (with_reducible assumption) | assumption)
            obtain ⟨ad255, e255, hx255_0, hx255_1, hx255_2, hx255_3, hx255_4⟩ := at_T37 HR0.out x5_1 p255 q255
            have hw255_4 := hx255_4
            have hw255_3 := hx255_3
            have hw255_2 := hx255_2
            have hw255_1 := hx255_1
            have hw255_0 := hx255_0
            cases e255
            replace hx255_0 := (HB.out.cell (World.block_lt_of_cell? w _ hx255_0)).trans hx255_0
            replace hx255_1 := (HB.out.cell (World.block_lt_of_cell? w _ hx255_1)).trans hx255_1
            replace hx255_2 := (HB.out.cell (World.block_lt_of_cell? w _ hx255_2)).trans hx255_2
            replace hx255_3 := (HB.out.cell (World.block_lt_of_cell? w _ hx255_3)).trans hx255_3
            replace hx255_4 := (HB.out.cell (World.block_lt_of_cell? w _ hx255_4)).trans hx255_4
            replace p255 := eq_true p255
            replace q255 := eq_true q255
            refine start_ (n := 6) (S := fun w' => w'.cell? ⟨gb254, 0, none⟩ = some (.int .i64 a1_0) ∧ w'.cell? ⟨gb254, 1, none⟩ = some (.int .i64 a1_1) ∧ w'.cell? ⟨gb254, 2, none⟩ = some (.int .i64 a1_2) ∧ w'.cell? ⟨gb254, 3, none⟩ = some (.int .i64 a1_3) ∧ w'.cell? ⟨gb254, 4, none⟩ = some (.int .i64 a1_4) ∧ w'.cell? (ad255.add ((x5_1).toNat * 5)) = some (.int .i64 ((rd_T37 l0 x5_1).f0)) ∧ w'.cell? ⟨(ad255.add ((x5_1).toNat * 5)).block, (ad255.add ((x5_1).toNat * 5)).off + 1, none⟩ = some (.int .i64 ((rd_T37 l0 x5_1).f1)) ∧ w'.cell? ⟨(ad255.add ((x5_1).toNat * 5)).block, (ad255.add ((x5_1).toNat * 5)).off + 2, none⟩ = some (.int .i64 ((rd_T37 l0 x5_1).f2)) ∧ w'.cell? ⟨(ad255.add ((x5_1).toNat * 5)).block, (ad255.add ((x5_1).toNat * 5)).off + 3, none⟩ = some (.int .i64 ((rd_T37 l0 x5_1).f3)) ∧ w'.cell? ⟨(ad255.add ((x5_1).toNat * 5)).block, (ad255.add ((x5_1).toNat * 5)).off + 4, none⟩ = some (.int .i64 ((rd_T37 l0 x5_1).f4))) (ds := []) #[false, false, false, false, false, false] (by kernel_rfl) rfl rfl ⟨(blk_cell BK254.out 0).trans rfl, (blk_cell BK254.out 1).trans rfl, (blk_cell BK254.out 2).trans rfl, (blk_cell BK254.out 3).trans rfl, (blk_cell BK254.out 4).trans rfl, ((HB.out.cell (World.block_lt_of_cell? w _ hw255_0)).trans hw255_0), ((HB.out.cell (World.block_lt_of_cell? w _ hw255_1)).trans hw255_1), ((HB.out.cell (World.block_lt_of_cell? w _ hw255_2)).trans hw255_2), ((HB.out.cell (World.block_lt_of_cell? w _ hw255_3)).trans hw255_3), ((HB.out.cell (World.block_lt_of_cell? w _ hw255_4)).trans hw255_4)⟩ (fun hHeld => ?_)
            generalize wr.drew = w10 at BK254 HB hx255_0 hx255_1 hx255_2 hx255_3 hx255_4 hHeld ⊢
            refine pure_ (i := 0) (N := some 12) (v := ?_) (a' := ?_) #[true, false, false, false, false, false] rfl rfl (by kernel_rfl) (fun _ _ _ h => h) (Or.inl ⟨by rfl, ?_⟩) ?_ ?_
            rotate_left
            · intro w'
              go_simp
              with_reducible rfl
            rotate_left
            · simp only [Act.put, List.setIfInBounds_toArray, List.set_cons_zero, List.set_cons_succ, i64_w, i32_w]
              rfl
            refine pure_ (i := 1) (N := some 13) (v := ?_) (a' := ?_) #[true, true, false, false, false, false] rfl rfl (by kernel_rfl) (fun _ _ _ h => h) (Or.inl ⟨by rfl, ?_⟩) ?_ ?_
            rotate_left
            · intro w'
              go_simp
              with_reducible rfl
            rotate_left
            · simp only [Act.put, List.setIfInBounds_toArray, List.set_cons_zero, List.set_cons_succ, i64_w, i32_w]
              rfl
            refine pure_ (i := 2) (N := some 14) (v := ?_) (a' := ?_) #[true, true, true, false, false, false] rfl rfl (by kernel_rfl) (fun _ _ _ h => h) (Or.inl ⟨by rfl, ?_⟩) ?_ ?_
            rotate_left
            · intro w'
              go_simp
              with_reducible rfl
            rotate_left
            · simp only [Act.put, List.setIfInBounds_toArray, List.set_cons_zero, List.set_cons_succ, i64_w, i32_w]
              rfl
            refine take_ (i := 3) (N := some 15) (v := ?_) (a' := ?_) #[true, true, true, true, false, false] rfl rfl (by kernel_rfl) (fun _ _ _ h => h) (Or.inl ⟨by rfl, ?_⟩) hHeld ?_ ?_
            rotate_left
            · rintro w' ⟨s0, s1, s2, s3, s4, s5, s6, s7, s8, s9⟩
              go_simp
              with_reducible rfl
            rotate_left
            · simp only [Act.put, List.setIfInBounds_toArray, List.set_cons_zero, List.set_cons_succ, i64_w, i32_w]
              rfl
            refine take_ (i := 4) (N := some 16) (v := ?_) (a' := ?_) #[true, true, true, true, true, false] rfl rfl (by kernel_rfl) (fun _ _ _ h => h) (Or.inl ⟨by rfl, ?_⟩) hHeld ?_ ?_
            rotate_left
            · rintro w' ⟨s0, s1, s2, s3, s4, s5, s6, s7, s8, s9⟩
              go_simp
              with_reducible rfl
            rotate_left
            · simp only [Act.put, List.setIfInBounds_toArray, List.set_cons_zero, List.set_cons_succ, i64_w, i32_w]
              rfl
            refine one_ (i := 5) (N := some 17) #[true, true, true, true, true, true] rfl rfl (by kernel_rfl) (by decide) (fun K hK => ?_)
            refine goes_ Tryd.func55 (by kernel_rfl) rfl #[.agg #[.int .i64 ((rd_T37 l0 x5_1).f0), .int .i64 ((rd_T37 l0 x5_1).f1), .int .i64 ((rd_T37 l0 x5_1).f2), .int .i64 ((rd_T37 l0 x5_1).f3), .int .i64 ((rd_T37 l0 x5_1).f4)], .agg #[.int .i64 a1_0, .int .i64 a1_1, .int .i64 a1_2, .int .i64 a1_3, .int .i64 a1_4]] (by rfl) rfl rfl (by (try simp only [List.map_toArray, List.map_cons, List.map_nil]); first | done | rfl | (simp only [List.length_drop, List.length_take]; rfl)) ?_
            with_reducible refine (spec_l3Meets.calls ((rd_T37 l0 x5_1).f0) ((rd_T37 l0 x5_1).f1) ((rd_T37 l0 x5_1).f2) ((rd_T37 l0 x5_1).f3) ((rd_T37 l0 x5_1).f4) a1_0 a1_1 a1_2 a1_3 a1_4 false _ A6.out).mono ?_
            rintro e w11 ⟨rfl, hb⟩
            refine ⟨_, rfl, ?_⟩
            have n0_ := Aside0.mk (blk_below (g := gb254) (o := .cells #[.int .i64 a1_0, .int .i64 a1_1, .int .i64 a1_2, .int .i64 a1_3, .int .i64 a1_4] 37 (0, 0)) (by (with_reducible repeat (first | refine blk_drewN ?_ _ | refine blk_drew ?_ | refine blk_alloc ?_ _)); exact BK254.out) hb)
            have n1_ := Aside0.mk (below_step (by repeat (first | (with_reducible first | exact HB.out | apply below_alloc | apply pw_below_drewN | apply below_drew1 | refine below_set ?_ GE254.out) | exact HB.out)) hb)
            clear BK254
            clear HB
            have BK254 := n0_
            have HB := n1_
            clear n0_ n1_
            (try clear hb)
            (try clear hb2)
            (try clear hk)
            (try clear hi)
            refine hK.out _ _ ⟨(blk_cell BK254.out 0).trans rfl, (blk_cell BK254.out 1).trans rfl, (blk_cell BK254.out 2).trans rfl, (blk_cell BK254.out 3).trans rfl, (blk_cell BK254.out 4).trans rfl, ((HB.out.cell (World.block_lt_of_cell? w _ hw255_0)).trans hw255_0), ((HB.out.cell (World.block_lt_of_cell? w _ hw255_1)).trans hw255_1), ((HB.out.cell (World.block_lt_of_cell? w _ hw255_2)).trans hw255_2), ((HB.out.cell (World.block_lt_of_cell? w _ hw255_3)).trans hw255_3), ((HB.out.cell (World.block_lt_of_cell? w _ hw255_4)).trans hw255_4)⟩ (fun hHeld => ?_)
            clear hK K
            refine norm_ (a' := ?_) ?_ ?_
            rotate_left
            · show Act.put _ (some 17) _ = _
              simp only [Act.put, List.setIfInBounds_toArray, List.set_cons_zero, List.set_cons_succ, i64_w, i32_w]
              rfl
            refine done_ (by kernel_rfl) ?_
            try go_wp2
            go_roundg k1
            case measure => have := HK1.out; omega
            case rel => exact ⟨(wrap64 (x5_1 + 1)), (by first | rfl | (simp; done) | (simp [*]; done)), H', ⟨by have := HK1.out; omega⟩, ⟨by (with_reducible repeat (first | refine blk_drewN ?_ _ | refine blk_drew ?_ | refine blk_alloc ?_ _)); exact BK254.out⟩, ⟨by repeat (first | (with_reducible first | exact HB.out | apply below_alloc | apply pw_below_drewN | apply below_drew1 | refine below_set ?_ GE254.out) | exact HB.out)⟩⟩
        · rw [if_neg c5] at H
          exact absurd H (by simp)
      · rw [if_neg c4] at H
        have c4b0 : decide (x5_1 < (l0.length : Int)) = false := decide_eq_false c4
        clear c4
        obtain rfl := Option.some.inj H
        go_wp2
        go_ret
        exact ⟨by first | rfl | (simp [IntKind.wrap_i64, wrap64]; done) | (simp [errW_none, errW_some] <;> rfl) | (simp [*, errW_none, errW_some] <;> rfl), by repeat (first | (with_reducible first | exact HB.out | apply below_alloc | apply pw_below_drewN | apply below_drew1 | refine below_set ?_ GE254.out) | exact HB.out)⟩

/-! ### spec_l3Of: function 19 (by hand) -/
/-- Where a cell comes to lie: the first column that is free. -/
def spec_l3Of.fit (k : Nat) (ds : List S37) : Nat → S37 → Option S37
  | 0, t => some t
  | n + 1, t => (spec_l3Free.f k ds t.f0 t.f1 t.f2 t.f3 t.f4).bind fun b => if b = true then some t else spec_l3Of.fit k ds n { t with f1 := t.f1 + 1 }
def spec_l3Of.cs (k : Nat) (l0 : List S58) (hd ft : Int) (l3 : List S44) (gp : Int) (r : List S41) (i : Nat) : Nat → Nat → Int → List S37 → Option (Int × List S37)
  | 0, _, wd, ds => some (wd, ds)
  | m + 1, j, wd, ds => (spec_l2End.f l0 hd ft l3 gp i).bind fun e => (spec_l3Of.fit k ds 90 ⟨i, 0, if wrap64 ((i : Int) + (rd_T41 r j).f2) > e then wrap64 (e - i) else (rd_T41 r j).f2, (rd_T41 r j).f1, j⟩).bind fun t =>
    (spec_l1Max.f wd (wrap64 (t.f1 + t.f3))).bind fun wd' => if ds.length < 3518437208883 then spec_l3Of.cs k l0 hd ft l3 gp r i m (j + 1) wd' (ds ++ [t]) else none
def spec_l3Of.rs (k : Nat) (l0 : List S58) (hd ft : Int) (l3 : List S44) (gp : Int) : Nat → Nat → Int → List S37 → Option (Int × List S37)
  | 0, _, wd, ds => some (wd, ds)
  | n + 1, i, wd, ds => (spec_l3Of.cs k l0 hd ft l3 gp (rd_T44 l3 i).f0 i (rd_T44 l3 i).f0.length 0 wd ds).bind fun a => spec_l3Of.rs k l0 hd ft l3 gp n (i + 1) a.1 a.2
def spec_l3Of.f (k : Nat) (l0_0 : List S58) (a0_1 : Int) (a0_2 : Int) (l0_3 : List S44) (a0_4 : Int) : Option (Int × Int × List S37) := (spec_l1Max.f 1 (l0_0.length : Int)).bind fun t => (spec_l3Of.rs k l0_0 a0_1 a0_2 l0_3 a0_4 l0_3.length 0 t []).bind fun a => some ((l0_3.length : Int), a.1, a.2)
theorem spec_l3Of.mono_f (k : Nat) (ds : List S37) : ∀ n t, LeO (spec_l3Of.fit k ds n t) (spec_l3Of.fit (k + 1) ds n t)
  | 0, _ => LeO.refl _
  | n + 1, t => by
    unfold spec_l3Of.fit
    exact LeO.bind (spec_l3Free.mono _ _ _ _ _ _ _) fun _ => LeO.ite (LeO.refl _) (spec_l3Of.mono_f k ds n _)
theorem spec_l3Of.mono_c (k : Nat) (l0 : List S58) (hd ft : Int) (l3 : List S44) (gp : Int) (r : List S41) (i : Nat) : ∀ m j wd ds, LeO (spec_l3Of.cs k l0 hd ft l3 gp r i m j wd ds) (spec_l3Of.cs (k + 1) l0 hd ft l3 gp r i m j wd ds)
  | 0, _, _, _ => LeO.refl _
  | m + 1, j, wd, ds => by
    unfold spec_l3Of.cs
    exact LeO.bind (LeO.refl _) fun _ => LeO.bind (spec_l3Of.mono_f _ _ _ _) fun _ => LeO.bind (LeO.refl _) fun _ => LeO.ite (spec_l3Of.mono_c k l0 hd ft l3 gp r i m _ _ _) (LeO.none _)
theorem spec_l3Of.mono_r (k : Nat) (l0 : List S58) (hd ft : Int) (l3 : List S44) (gp : Int) : ∀ n i wd ds, LeO (spec_l3Of.rs k l0 hd ft l3 gp n i wd ds) (spec_l3Of.rs (k + 1) l0 hd ft l3 gp n i wd ds)
  | 0, _, _, _ => LeO.refl _
  | n + 1, i, wd, ds => by
    unfold spec_l3Of.rs
    exact LeO.bind (spec_l3Of.mono_c _ _ _ _ _ _ _ _ _ _ _ _) fun _ => spec_l3Of.mono_r k l0 hd ft l3 gp n _ _ _
theorem spec_l3Of.mono : ∀ a0 a1 a2 a3 a4 k, LeO (spec_l3Of.f k a0 a1 a2 a3 a4) (spec_l3Of.f (k + 1) a0 a1 a2 a3 a4) := fun _ _ _ _ _ k => by
  unfold spec_l3Of.f
  exact LeO.bind (LeO.refl _) fun _ => LeO.bind (spec_l3Of.mono_r _ _ _ _ _ _ _ _ _ _) fun _ => LeO.refl _
def spec_l3Of.T1 : Bool × List (List Nat × List Nat) := (true, [([], []), ([0], [0]), ([1], [1]), ([], []), ([3], [3]), ([4], [4]), ([5], [5]), ([2, 6], [2, 6]), ([], []), ([8, 7, 6, 0, 1, 2, 3, 4, 5, 6, 7, 8], [7, 8])])
def spec_l3Of.B1 : List Nat := [0, 1, 3, 0, 8, 24, 56, 127, 0, 511]
def spec_l3Of.L1 : List (Nat × Tmp) := [(0, 8), (1, 9), (2, 10), (3, 11), (4, 12), (5, 13), (6, 14), (7, 15), (8, 3)]
def spec_l3Of.O1 : List Nat := [0, 1, 2, 3, 4, 5, 6, 7, 8, 9]
theorem spec_l3Of.tab1 : rtab .any (opsOf Tryd.f19 1) = spec_l3Of.T1 := by kernel_rfl
theorem spec_l3Of.bits1 : waitsOk spec_l3Of.T1.2 spec_l3Of.B1 = true := by kernel_rfl
theorem spec_l3Of.base1 : baseOk spec_l3Of.T1.2 spec_l3Of.O1 = true := by kernel_rfl
theorem spec_l3Of.lof1 : (lof spec_l3Of.T1.2.length spec_l3Of.O1 (fun _ => false) == List.replicate spec_l3Of.T1.2.length false && spec_l3Of.O1.length == spec_l3Of.T1.2.length) = true := by kernel_rfl
theorem spec_l3Of.ents1 : chkL (opsOf Tryd.f19 1) spec_l3Of.O1 spec_l3Of.L1 = true := by kernel_rfl
theorem spec_l3Of.last1 : lastOk spec_l3Of.B1 spec_l3Of.O1 9 = true := by kernel_rfl
def spec_l3Of.T10 : Bool × List (List Nat × List Nat) := (true, [([], []), ([], []), ([1], [1]), ([0, 2], [0, 2]), ([], []), ([], []), ([4, 5], [4, 5]), ([3, 6], [3, 6])])
def spec_l3Of.B10 : List Nat := [0, 0, 2, 7, 0, 0, 48, 127]
def spec_l3Of.L10 : List (Nat × Tmp) := [(0, 50), (1, 51), (2, 52), (3, 53), (4, 54), (5, 55), (6, 56), (7, 57)]
def spec_l3Of.O10 : List Nat := [0, 1, 2, 3, 4, 5, 6, 7]
theorem spec_l3Of.tab10 : rtab .any (opsOf Tryd.f19 10) = spec_l3Of.T10 := by kernel_rfl
theorem spec_l3Of.bits10 : waitsOk spec_l3Of.T10.2 spec_l3Of.B10 = true := by kernel_rfl
theorem spec_l3Of.base10 : baseOk spec_l3Of.T10.2 spec_l3Of.O10 = true := by kernel_rfl
theorem spec_l3Of.lof10 : (lof spec_l3Of.T10.2.length spec_l3Of.O10 (fun _ => false) == List.replicate spec_l3Of.T10.2.length false && spec_l3Of.O10.length == spec_l3Of.T10.2.length) = true := by kernel_rfl
theorem spec_l3Of.ents10 : chkL (opsOf Tryd.f19 10) spec_l3Of.O10 spec_l3Of.L10 = true := by kernel_rfl
theorem spec_l3Of.last10 : lastOk spec_l3Of.B10 spec_l3Of.O10 7 = true := by kernel_rfl
def spec_l3Of.F1 : Nat → Option (Nat → Value)
  | 8 => some (fun C => .pointer (some ⟨C, 0, none⟩))
  | _ => none
def spec_l3Of.V1 (N : Nat) (v0 v3 : Value) (n0 n3 : Nat) (t : Int) : Nat → Value
  | 0 => .pointer (some ⟨N, 3, none⟩)
  | 1 => v3
  | 2 => .int .i64 n3
  | 3 => .pointer (some ⟨N, 0, none⟩)
  | 4 => v0
  | 5 => .int .i64 n0
  | 6 => .int .i64 t
  | _ => .agg #[.int .i64 n3, .int .i64 t, .slice none 0 0]
def spec_l3Of.V10 (vt : Value) (ob : Nat) (i f2 e : Int) (bq : Bool) : Nat → Value
  | 0 | 5 => .int .i64 i
  | 1 => .pointer (some ⟨ob, 2, none⟩)
  | 2 => .int .i64 f2
  | 3 => .int .i64 (wrap64 (i + f2))
  | 4 => vt
  | 6 => .int .i64 e
  | _ => .bool bq
set_option maxHeartbeats 4000000 in
set_option maxRecDepth 100000 in
theorem spec_l3Of.calls (k : Nat) (A0_0 : Option Addr) (c0_0 : Nat) (l0_0 : List (S58)) (a0_1 : Int) (a0_2 : Int) (A0_3 : Option Addr) (c0_3 : Nat) (l0_3 : List (S44)) (a0_4 : Int) (r1 : Int) (r2 : Int) (r3 : List (S37)) (w : World) (hr0_0 : Kd.C k58 w A0_0 l0_0.length l0_0) (hc0_0 : l0_0.length ≤ c0_0) (hr0_3 : Kd.C k44 w A0_3 l0_3.length l0_3) (hc0_3 : l0_3.length ≤ c0_3) (h : spec_l3Of.f k l0_0 a0_1 a0_2 l0_3 a0_4 = some (r1, r2, r3)) :
    Calls Tryd.prog 19 #[.agg #[.slice A0_0 l0_0.length c0_0, .int .i64 a0_1, .int .i64 a0_2, .slice A0_3 l0_3.length c0_3, .int .i64 a0_4]] w fun e w' => ∃ v2_ : Value, e = .returned (.agg #[.int .i64 r1, .int .i64 r2, v2_]) ∧ Kd.R k37 37 w' w.heap.size (fun _ => True) v2_ r3 ∧ Below w.heap.size w w' := by
  have HR0 := Aside0.mk hr0_0
  have HC0 := Aside0.mk hc0_0
  have HR3 := Aside0.mk hr0_3
  have HC3 := Aside0.mk hc0_3
  have HM3 := Kd.C_max hr0_3
  clear hr0_0 hc0_0 hr0_3 hc0_3
  unfold spec_l3Of.f at h
  rw [Option.bind_eq_some_iff] at h
  obtain ⟨t, h1, h⟩ := h
  have A1 := Aside0.mk h1
  clear h1
  rw [Option.bind_eq_some_iff] at h
  obtain ⟨⟨wd2, ds2⟩, h1, h⟩ := h
  have AL := Aside0.mk h1
  clear h1
  simp only [Option.some.injEq, Prod.mk.injEq] at h
  obtain ⟨rfl, rfl, rfl⟩ := h
  go_enter Tryd.func19, Tryd.ntmps19
  go_wp2
  have H1 : L3 w (l3A (.slice A0_0 l0_0.length c0_0) (.slice A0_3 l0_3.length c0_3) a0_1 a0_2 a0_4) ((w.alloc (.cells #[Value.slice A0_0 l0_0.length c0_0, .int .i64 a0_1, .int .i64 a0_2, .slice A0_3 l0_3.length c0_3, .int .i64 a0_4] 26)).alloc (.cells #[.int .i64 0, .int .i64 0, .slice none 0 0] 30)) := ⟨below_alloc (below_alloc (Below.refl _ _) _) _, blk_alloc (blk_new w _) _, by have := blk_new (w.alloc (.cells #[Value.slice A0_0 l0_0.length c0_0, .int .i64 a0_1, .int .i64 a0_2, .slice A0_3 l0_3.length c0_3, .int .i64 a0_4] 26)) (.cells #[.int .i64 0, .int .i64 0, .slice none 0 0] 30); simpa using this⟩
  obtain ⟨W1, hW1⟩ : ∃ W1, (w.alloc (.cells #[Value.slice A0_0 l0_0.length c0_0, .int .i64 a0_1, .int .i64 a0_2, .slice A0_3 l0_3.length c0_3, .int .i64 a0_4] 26)).alloc (.cells #[.int .i64 0, .int .i64 0, .slice none 0 0] 30) = W1 := ⟨_, rfl⟩
  show Code.wp Tryd.prog _ _ _ ((w.alloc (.cells #[Value.slice A0_0 l0_0.length c0_0, .int .i64 a0_1, .int .i64 a0_2, .slice A0_3 l0_3.length c0_3, .int .i64 a0_4] 26)).alloc (.cells #[.int .i64 0, .int .i64 0, .slice none 0 0] 30))
  rw [hW1] at H1 ⊢
  clear hW1
  have HQ := Aside0.mk H1
  clear H1
  have hk0 := fun W => KeepBut.refl W w.heap.size none
  refine region_envL (T := spec_l3Of.T1) (B := spec_l3Of.B1) spec_l3Of.O1 spec_l3Of.L1 9 (PhiB spec_l3Of.F1 (fun _ => .cells #[.int .i64 0, .int .i64 0, .slice none 0 0] 30 (0, 0)) (spec_l3Of.V1 w.heap.size (.slice A0_0 l0_0.length c0_0) (.slice A0_3 l0_3.length c0_3) l0_0.length l0_3.length t) (w.heap.size + 2))
    (fun _ W => L3 w (l3A (.slice A0_0 l0_0.length c0_0) (.slice A0_3 l0_3.length c0_3) a0_1 a0_2 a0_4) W) (fun W W' => KeepBut W W' w.heap.size none)
    (fun e W => L3 w (l3A (.slice A0_0 l0_0.length c0_0) (.slice A0_3 l0_3.length c0_3) a0_1 a0_2 a0_4) W ∧ ∃ C, e 8 = .pointer (some ⟨C, 0, none⟩) ∧ w.heap.size + 2 ≤ C ∧ W.heap[C]? = some (.cells (gridA l0_3.length t (.slice none 0 0)) 30 (0, 0)))
    rfl spec_l3Of.tab1 spec_l3Of.bits1 spec_l3Of.base1 spec_l3Of.lof1 spec_l3Of.ents1 spec_l3Of.last1 (PhiB.keep (by omega)) HQ.out.drew ?_ ?_ ?_
  · skip
    refine alln_cons (EStep.pure hk0 fun b E a' W ha hG hP => ?_) ?_
    · have s1 : a'.tmps[1]? = some (.pointer (some ⟨w.heap.size, 0, none⟩)) := (slot_off ha rfl).trans rfl
      exact ⟨_, .pointer (some ⟨w.heap.size, 3, none⟩), rfl, rfl, by clear ha hG hP; go_simp; try first | rfl | exact i64_w _, rfl, hG⟩
    refine alln_cons (EStep.pure hk0 fun b E a' W ha hG hP => ?_) ?_
    · have s8 : a'.tmps[8]? = some (.pointer (some ⟨w.heap.size, 3, none⟩)) := slotv ha (hP 0 rfl).1 rfl (hP 0 rfl).2
      have hc : W.cell? ⟨w.heap.size, 3, none⟩ = some (.slice A0_3 l0_3.length c0_3) := (blk_cell hG.pb 3).trans rfl
      exact ⟨_, .slice A0_3 l0_3.length c0_3, rfl, rfl, by clear ha hG hP; go_simp, rfl, hG⟩
    refine alln_cons (EStep.pure hk0 fun b E a' W ha hG hP => ?_) ?_
    · have s9 : a'.tmps[9]? = some (.slice A0_3 l0_3.length c0_3) := slotv ha (hP 1 rfl).1 rfl (hP 1 rfl).2
      exact ⟨_, .int .i64 l0_3.length, rfl, rfl, by clear ha hG hP; go_simp; try first | rfl | exact i64_w _, rfl, hG⟩
    refine alln_cons (EStep.pure hk0 fun b E a' W ha hG hP => ?_) ?_
    · have s1 : a'.tmps[1]? = some (.pointer (some ⟨w.heap.size, 0, none⟩)) := (slot_off ha rfl).trans rfl
      exact ⟨_, .pointer (some ⟨w.heap.size, 0, none⟩), rfl, rfl, by clear ha hG hP; go_simp; try first | rfl | exact i64_w _, rfl, hG⟩
    refine alln_cons (EStep.pure hk0 fun b E a' W ha hG hP => ?_) ?_
    · have s11 : a'.tmps[11]? = some (.pointer (some ⟨w.heap.size, 0, none⟩)) := slotv ha (hP 3 rfl).1 rfl (hP 3 rfl).2
      have hc : W.cell? ⟨w.heap.size, 0, none⟩ = some (.slice A0_0 l0_0.length c0_0) := (blk_cell hG.pb 0).trans rfl
      exact ⟨_, .slice A0_0 l0_0.length c0_0, rfl, rfl, by clear ha hG hP; go_simp, rfl, hG⟩
    refine alln_cons (EStep.pure hk0 fun b E a' W ha hG hP => ?_) ?_
    · have s12 : a'.tmps[12]? = some (.slice A0_0 l0_0.length c0_0) := slotv ha (hP 4 rfl).1 rfl (hP 4 rfl).2
      exact ⟨_, .int .i64 l0_0.length, rfl, rfl, by clear ha hG hP; go_simp; try first | rfl | exact i64_w _, rfl, hG⟩
    refine alln_cons (EStep.call Tryd.func39 (by kernel_rfl) rfl ⟨_, rfl, rfl, rfl⟩ fun b E a' W ha hG hP hoff hb => ⟨#[.int .i64 1, .int .i64 l0_0.length], ?_, ?_⟩) ?_
    · have s13 : a'.tmps[13]? = some (.int .i64 l0_0.length) := slotv ha (hP 5 rfl).1 rfl (hP 5 rfl).2
      clear ha hG hP hoff hb
      simp [Act.eval, Array.getD_eq_getD_getElem?, s13]
    · refine (spec_l1Max.calls 1 l0_0.length t W A1.out).mono ?_
      rintro _ W2 ⟨rfl, hd⟩
      exact ⟨_, rfl, rfl, KeepBut.of_below hd.below _ _, hG.below hd.below⟩
    refine alln_cons (EStep.pure hk0 fun b E a' W ha hG hP => ?_) ?_
    · have s10 : a'.tmps[10]? = some (.int .i64 l0_3.length) := slotv ha (hP 2 rfl).1 rfl (hP 2 rfl).2
      have s14 : a'.tmps[14]? = some (.int .i64 t) := slotv ha (hP 6 rfl).1 rfl (hP 6 rfl).2
      exact ⟨_, .agg #[.int .i64 l0_3.length, .int .i64 t, .slice none 0 0], rfl, rfl, by clear ha hG hP; go_simp; try first | rfl | exact i64_w _, rfl, hG⟩
    refine alln_cons (EStep.step fun b E a' W ha hG hP hoff hb => ?_) alln_last
    exact ⟨_, .pointer (some ⟨W.heap.size, 0, none⟩), W.alloc (.cells #[.int .i64 0, .int .i64 0, .slice none 0 0] 30), rfl, rfl, by clear ha hP hoff hb hG; go_simp; try rfl, ⟨_, rfl, hG.size, blk_new _ _⟩, keep_alloc (hk0 W) _, hG.alloc _⟩
  · intro b E a' W ha hG hP hb
    obtain ⟨C, hC1, hC2, hC3⟩ := (hP 8 rfl (by decide)).2
    have s3 : a'.tmps[3]? = some (.pointer (some ⟨C, 0, none⟩)) := slotv ha (hP 8 rfl (by decide)).1 rfl hC1
    have s15 : a'.tmps[15]? = some (.agg #[.int .i64 l0_3.length, .int .i64 t, .slice none 0 0]) := slotv ha (hP 7 rfl (by decide)).1 rfl (hP 7 rfl (by decide)).2
    have hp := Put.setRow (cs := gridA l0_3.length t (.slice none 0 0)) hC3
    exact ⟨_, rfl, fun K hK => skip_ rfl rfl (exec_put 30 _ _ rfl C 0 (by simp [Act.eval, Array.getD_eq_getD_getElem?, s3]) (.agg #[.int .i64 l0_3.length, .int .i64 t, .slice none 0 0]) (by simp only [Act.eval, Array.getD_eq_getD_getElem?, s15]; rfl) 30 _ (gridA l0_3.length t (.slice none 0 0)) hC3 (by kernel_rfl) rfl rfl rfl) (hK.out undef _ ⟨hG.put hp hC2, C, hC1, hC2, hp.blk⟩)⟩
  · intro E b W hall hF
    obtain ⟨hR, C, hC1, hC2, hBK⟩ := hF
    rw [putSel_all (fun x hx => hall x.1 (by revert x; decide))]
    simp only [spec_l3Of.L1, List.foldl, hC1, Act.put, List.setIfInBounds_toArray, List.set_cons_zero, List.set_cons_succ]
    clear hall hC1 HQ hk0
    have HQ := Aside0.mk hR
    have HG := Aside0.mk hBK
    have HGC := Aside0.mk hC2
    clear hR hBK hC2
    go_wp2
    go_loopg [4] l0_3.length (fun gg s4 wr => ∃ (n i : Nat) (wd : Int) (ds : List S37) (v : Value), n ≤ gg ∧ i + n = l0_3.length ∧ s4 = .int .i64 i ∧ Aside0 (spec_l3Of.rs k l0_0 a0_1 a0_2 l0_3 a0_4 n i wd ds = some (wd2, ds2)) ∧ Aside0 (L3 w (l3A (.slice A0_0 l0_0.length c0_0) (.slice A0_3 l0_3.length c0_3) a0_1 a0_2 a0_4) wr) ∧ Aside0 (wr.heap[C]? = some (.cells (gridA l0_3.length wd v) 30 (0, 0))) ∧ Aside0 (Kd.R k37 37 wr (w.heap.size + 2) (fun _ => True) v ds))
    case atStart => exact ⟨l0_3.length, 0, t, [], .slice none 0 0, Nat.le_refl _, by omega, rfl, AL, HQ, HG, ⟨Kd.R_nil _ _ _ _ _⟩⟩
    case round =>
      obtain ⟨n, i, wd, ds, v, hg, hin, rfl, HL, HQ1, HG1, HR1⟩ := hrel
      clear HQ HG AL
      have hc3 : wr.cell? ⟨w.heap.size, 3, none⟩ = some (.slice A0_3 l0_3.length c0_3) := (blk_cell HQ1.out.pb 3).trans rfl
      cases n with
      | zero =>
        have hl := HL.out
        unfold spec_l3Of.rs at hl
        injection Option.some.inj hl with e1 e2
        subst e1 e2
        have hlt : ¬ (i : Int) < (l0_3.length : Int) := by omega
        clear hl HL
        obtain ⟨X1, n1, c1, rfl⟩ : ∃ X1 n1 c1, v = .slice X1 n1 c1 := (Kd.R_slice HR1.out).imp fun _ h => ⟨_, h⟩
        go_wp2_with (first | (refine wpList_load_row rfl 30 _ rfl C rfl 30 (gridA l0_3.length wd (.slice X1 n1 c1)) (0, 0) _ HG1.out Tryd.underlying30 rfl (by kernel_rfl) ?_) | (refine wpList_put 30 _ _ rfl rfl (w.heap.size + 1) 0 rfl (.agg (gridA l0_3.length wd (.slice X1 n1 c1))) rfl 30 #[.int .i64 0, .int .i64 0, .slice none 0 0] (gridA l0_3.length wd (.slice X1 n1 c1)) HQ1.out.zb (by kernel_rfl) rfl rfl rfl (fun W9 hp => ?_); have HFB := Aside0.mk hp.blk; have HF := Aside0.mk (pw_below_grown HQ1.out.bl _ (Nat.le_trans (Nat.le_add_right _ 2) HQ1.out.size) hp.grown (fun k hk => by injection hk with hk; omega)); have HFR := Aside0.mk (R_put HR1.out HQ1.out.zb hp (by decide)); clear hp))
        exact bodyPost_ret (results_cell_row rfl _ _ (w.heap.size + 1) 30 (gridA l0_3.length wd (.slice X1 n1 c1)) (0, 0) _ rfl HFB.out Tryd.underlying30 rfl (by kernel_rfl)) rfl ⟨_, rfl, Kd.R_mono (Kd.R_lower HFR.out (Nat.le_add_right _ 2)) (fun _ _ => trivial), HF.out⟩
      | succ n =>
        have hl := HL.out
        unfold spec_l3Of.rs at hl
        rw [Option.bind_eq_some_iff] at hl
        obtain ⟨⟨wd1, ds1⟩, h1, hl⟩ := hl
        have AC := Aside0.mk h1
        have HL2 := Aside0.mk hl
        have hlt : (i : Int) < (l0_3.length : Int) := by omega
        clear hl h1 HL
        go_wp2
        go_loopg [5] (rd_T44 l0_3 i).f0.length (fun gg s5 wr => ∃ (m j : Nat) (wd : Int) (ds : List S37) (v : Value), m ≤ gg ∧ j + m = (rd_T44 l0_3 i).f0.length ∧ s5 = .int .i64 j ∧ Aside0 (spec_l3Of.cs k l0_0 a0_1 a0_2 l0_3 a0_4 (rd_T44 l0_3 i).f0 i m j wd ds = some (wd1, ds1)) ∧ Aside0 (L3 w (l3A (.slice A0_0 l0_0.length c0_0) (.slice A0_3 l0_3.length c0_3) a0_1 a0_2 a0_4) wr) ∧ Aside0 (wr.heap[C]? = some (.cells (gridA l0_3.length wd v) 30 (0, 0))) ∧ Aside0 (Kd.R k37 37 wr (w.heap.size + 2) (fun _ => True) v ds))
        case atStart => exact ⟨_, 0, wd, ds, v, Nat.le_refl _, by omega, rfl, AC, HQ1, HG1, HR1⟩
        case round =>
          rename_i wr0 _ _
          obtain ⟨m, j, wd, ds, v, hg2, hjm, rfl, HL, HQ, HG, HR⟩ := hrel
          clear hc3 HQ1 HG1 HR1 AC
          have hc3 : wr.cell? ⟨w.heap.size, 3, none⟩ = some (.slice A0_3 l0_3.length c0_3) := (blk_cell HQ.out.pb 3).trans rfl
          obtain ⟨ad, A1, c1, hA, hx0, hx1, hl1, hC1⟩ := at_T44 (Kd.C_below HR3.out HQ.out.bl) i (by omega) hlt
          have hmj := Kd.C_max hC1
          simp only [Int.toNat_natCast] at hx0 hx1
          subst hA
          cases m with
          | zero =>
            have hl := HL.out
            unfold spec_l3Of.cs at hl
            injection Option.some.inj hl with e1 e2
            subst e1 e2
            have hltj : ¬ (j : Int) < ((rd_T44 l0_3 i).f0.length : Int) := by omega
            clear hl HL
            go_wp2
            go_roundg n
            case measure => omega
            case rel => exact ⟨n, i + 1, wd, ds, v, Nat.le_refl _, by omega, by go_num, HL2, HQ, HG, HR⟩
          | succ m =>
            have hl := HL.out
            unfold spec_l3Of.cs at hl
            rw [Option.bind_eq_some_iff] at hl
            obtain ⟨e, h1, hl⟩ := hl
            have AE := Aside0.mk h1
            clear h1
            rw [Option.bind_eq_some_iff] at hl
            obtain ⟨t2, h1, hl⟩ := hl
            have AT := Aside0.mk h1
            clear h1
            rw [Option.bind_eq_some_iff] at hl
            obtain ⟨wd3, h1, hl⟩ := hl
            have AW := Aside0.mk h1
            clear h1
            split at hl
            · rename_i hds
              have HDS := Aside0.mk hds
              have HL4 := Aside0.mk hl
              have hltj : (j : Int) < ((rd_T44 l0_3 i).f0.length : Int) := by omega
              clear hl HL hds
              obtain ⟨ad2, hA, y0, y1, y2, y3, y4, y5, y6, y7, y8, y9, y10⟩ := at_T41 hC1 j (by omega) hltj
              simp only [Int.toNat_natCast] at y0 y1 y2 y3 y4 y5 y6 y7 y8 y9 y10
              subst hA
              obtain ⟨x, hx⟩ : ∃ x, rd_T41 (rd_T44 l0_3 i).f0 j = x := ⟨_, rfl⟩
              rw [hx] at y0 y1 y2 y3 y4 y5 y6 y7 y8 y9 y10
              rw [hx] at AT
              clear hx
              go_wp2
              have HQ2 : L3 w (l3A (.slice A0_0 l0_0.length c0_0) (.slice (some ad) l0_3.length c0_3) a0_1 a0_2 a0_4) ((wr.alloc (.cells #[.string x.f0, .int .i64 x.f1, .int .i64 x.f2, .int .i64 x.f3.f0, .int .i64 x.f3.f1, .int .i64 x.f4.f0, .int .i64 x.f4.f1, .int .i64 x.f5.f0, .int .i64 x.f5.f1, .int .i64 x.f6.f0, .int .i64 x.f6.f1] 41)).alloc (.cells (outA i 0 x.f2 x.f1 j) 37)) := (HQ.out.alloc _).alloc _
              have HG2 := blk_alloc (blk_alloc HG.out (.cells #[.string x.f0, .int .i64 x.f1, .int .i64 x.f2, .int .i64 x.f3.f0, .int .i64 x.f3.f1, .int .i64 x.f4.f0, .int .i64 x.f4.f1, .int .i64 x.f5.f0, .int .i64 x.f5.f1, .int .i64 x.f6.f0, .int .i64 x.f6.f1] 41)) (.cells (outA i 0 x.f2 x.f1 j) 37)
              have HO2 := blk_new (wr.alloc (.cells #[.string x.f0, .int .i64 x.f1, .int .i64 x.f2, .int .i64 x.f3.f0, .int .i64 x.f3.f1, .int .i64 x.f4.f0, .int .i64 x.f4.f1, .int .i64 x.f5.f0, .int .i64 x.f5.f1, .int .i64 x.f6.f0, .int .i64 x.f6.f1] 41)) (.cells (outA i 0 x.f2 x.f1 j) 37)
              have HR2 := Kd.R_mono (ok' := fun k => k < wr.heap.size + 1) (Kd.R_alloc (Kd.R_alloc (R_upto HR.out) (.cells #[.string x.f0, .int .i64 x.f1, .int .i64 x.f2, .int .i64 x.f3.f0, .int .i64 x.f3.f1, .int .i64 x.f4.f0, .int .i64 x.f4.f1, .int .i64 x.f5.f0, .int .i64 x.f5.f1, .int .i64 x.f6.f0, .int .i64 x.f6.f1] 41)) (.cells (outA i 0 x.f2 x.f1 j) 37)) (fun k hk => Nat.lt_succ_of_lt hk.2)
              have HOC0 : C < wr.heap.size + 1 := Nat.lt_succ_of_lt (blk_lt HG.out)
              rw [show (wr.alloc (.cells #[.string x.f0, .int .i64 x.f1, .int .i64 x.f2, .int .i64 x.f3.f0, .int .i64 x.f3.f1, .int .i64 x.f4.f0, .int .i64 x.f4.f1, .int .i64 x.f5.f0, .int .i64 x.f5.f1, .int .i64 x.f6.f0, .int .i64 x.f6.f1] 41)).heap.size = wr.heap.size + 1 by simp] at HO2
              obtain ⟨WA, hWA⟩ : ∃ WA, (wr.alloc (.cells #[.string x.f0, .int .i64 x.f1, .int .i64 x.f2, .int .i64 x.f3.f0, .int .i64 x.f3.f1, .int .i64 x.f4.f0, .int .i64 x.f4.f1, .int .i64 x.f5.f0, .int .i64 x.f5.f1, .int .i64 x.f6.f0, .int .i64 x.f6.f1] 41)).alloc (.cells (outA i 0 x.f2 x.f1 j) 37) = WA := ⟨_, rfl⟩
              obtain ⟨ob, hob⟩ : ∃ ob, wr.heap.size + 1 = ob := ⟨_, rfl⟩
              show Code.wp Tryd.prog _ _ _ ((wr.alloc (.cells #[.string x.f0, .int .i64 x.f1, .int .i64 x.f2, .int .i64 x.f3.f0, .int .i64 x.f3.f1, .int .i64 x.f4.f0, .int .i64 x.f4.f1, .int .i64 x.f5.f0, .int .i64 x.f5.f1, .int .i64 x.f6.f0, .int .i64 x.f6.f1] 41)).alloc (.cells (outA i 0 x.f2 x.f1 j) 37))
              rw [hWA] at HQ2 HG2 HO2 HR2 ⊢
              rw [hob] at HO2 HR2 HOC0 ⊢
              have HOC := Aside0.mk HOC0
              clear hWA hob HOC0 HQ HG HR hx0 hx1 hc3 y0 y1 y2 y3 y4 y5 y6 y7 y8 y9 y10 hC1 hl1
              obtain ⟨bq, hbq⟩ : ∃ bq, decide (wrap64 ((i : Int) + x.f2) > e) = bq := ⟨_, rfl⟩
              have hk0 := fun W => KeepBut.refl W w.heap.size none
              refine region_env (T := spec_l3Of.T10) (B := spec_l3Of.B10) spec_l3Of.O10 spec_l3Of.L10 (PhiB (fun _ => none) (fun _ => .cells #[] 0 (0, 0)) (spec_l3Of.V10 (.agg (l3A (.slice A0_0 l0_0.length c0_0) (.slice (some ad) l0_3.length c0_3) a0_1 a0_2 a0_4)) ob i x.f2 e bq) (w.heap.size + 1))
                (fun _ W => L3 w (l3A (.slice A0_0 l0_0.length c0_0) (.slice (some ad) l0_3.length c0_3) a0_1 a0_2 a0_4) W ∧ W.heap[C]? = some (.cells (gridA l0_3.length wd v) 30 (0, 0)) ∧ W.heap[ob]? = some (.cells (outA i 0 x.f2 x.f1 j) 37 (0, 0)) ∧ Kd.R k37 37 W (w.heap.size + 2) (fun k => k < ob) v ds) (fun W W' => KeepBut W W' w.heap.size none)
                rfl spec_l3Of.tab10 spec_l3Of.bits10 spec_l3Of.base10 spec_l3Of.lof10 spec_l3Of.ents10 (PhiB.keep (by omega)) ⟨HQ2.drew, HG2, HO2, Kd.R_drew HR2⟩ ?_ ?_
              · skip
                refine all_cons (EStep.pure hk0 fun b E a' W ha hG hP => ?_) ?_
                · have s4 : a'.tmps[4]? = some (.int .i64 i) := (slot_off ha rfl).trans rfl
                  exact ⟨_, .int .i64 i, rfl, rfl, by clear ha hG hP; go_simp; try first | rfl | exact i64_w _, rfl, hG⟩
                refine all_cons (EStep.pure hk0 fun b E a' W ha hG hP => ?_) ?_
                · have s7 : a'.tmps[7]? = some (.pointer (some ⟨ob, 0, none⟩)) := (slot_off ha rfl).trans rfl
                  exact ⟨_, .pointer (some ⟨ob, 2, none⟩), rfl, rfl, by clear ha hG hP; go_simp; try first | rfl | exact i64_w _, rfl, hG⟩
                refine all_cons (EStep.pure hk0 fun b E a' W ha hG hP => ?_) ?_
                · have s51 : a'.tmps[51]? = some (.pointer (some ⟨ob, 2, none⟩)) := slotv ha (hP 1 rfl).1 rfl (hP 1 rfl).2
                  have hc := (outA_cells hG.2.2.1).2.2.1
                  exact ⟨_, .int .i64 x.f2, rfl, rfl, by clear ha hG hP; go_simp, rfl, hG⟩
                refine all_cons (EStep.pure hk0 fun b E a' W ha hG hP => ?_) ?_
                · have s50 : a'.tmps[50]? = some (.int .i64 i) := slotv ha (hP 0 rfl).1 rfl (hP 0 rfl).2
                  have s52 : a'.tmps[52]? = some (.int .i64 x.f2) := slotv ha (hP 2 rfl).1 rfl (hP 2 rfl).2
                  exact ⟨_, .int .i64 (wrap64 ((i : Int) + x.f2)), rfl, rfl, by clear ha hG hP; go_simp; try first | rfl | exact i64_w _, rfl, hG⟩
                refine all_cons (EStep.pure hk0 fun b E a' W ha hG hP => ?_) ?_
                · have s1 : a'.tmps[1]? = some (.pointer (some ⟨w.heap.size, 0, none⟩)) := (slot_off ha rfl).trans rfl
                  have hc0 : W.cell? ⟨w.heap.size, 0, none⟩ = some (.slice A0_0 l0_0.length c0_0) := (blk_cell hG.1.pb 0).trans rfl
                  have hc1 : W.cell? ⟨w.heap.size, 1, none⟩ = some (.int .i64 a0_1) := (blk_cell hG.1.pb 1).trans rfl
                  have hc2 : W.cell? ⟨w.heap.size, 2, none⟩ = some (.int .i64 a0_2) := (blk_cell hG.1.pb 2).trans rfl
                  have hc3 : W.cell? ⟨w.heap.size, 3, none⟩ = some (.slice (some ad) l0_3.length c0_3) := (blk_cell hG.1.pb 3).trans rfl
                  have hc4 : W.cell? ⟨w.heap.size, 4, none⟩ = some (.int .i64 a0_4) := (blk_cell hG.1.pb 4).trans rfl
                  exact ⟨_, .agg (l3A (.slice A0_0 l0_0.length c0_0) (.slice (some ad) l0_3.length c0_3) a0_1 a0_2 a0_4), rfl, rfl, by clear ha hG hP; go_simp; try rfl, rfl, hG⟩
                refine all_cons (EStep.pure hk0 fun b E a' W ha hG hP => ?_) ?_
                · have s4 : a'.tmps[4]? = some (.int .i64 i) := (slot_off ha rfl).trans rfl
                  exact ⟨_, .int .i64 i, rfl, rfl, by clear ha hG hP; go_simp; try first | rfl | exact i64_w _, rfl, hG⟩
                refine all_cons (EStep.call Tryd.func40 (by kernel_rfl) rfl ⟨_, rfl, rfl, rfl⟩ fun b E a' W ha hG hP hoff hb => ⟨#[.agg (l3A (.slice A0_0 l0_0.length c0_0) (.slice (some ad) l0_3.length c0_3) a0_1 a0_2 a0_4), .int .i64 i], ?_, ?_⟩) ?_
                · have s54 : a'.tmps[54]? = some (.agg (l3A (.slice A0_0 l0_0.length c0_0) (.slice (some ad) l0_3.length c0_3) a0_1 a0_2 a0_4)) := slotv ha (hP 4 rfl).1 rfl (hP 4 rfl).2
                  have s55 : a'.tmps[55]? = some (.int .i64 i) := slotv ha (hP 5 rfl).1 rfl (hP 5 rfl).2
                  clear ha hG hP hoff hb
                  simp [Act.eval, Array.getD_eq_getD_getElem?, s54, s55]
                · refine (spec_l2End.calls A0_0 c0_0 l0_0 a0_1 a0_2 (some ad) c0_3 l0_3 a0_4 i e W (Kd.C_below HR0.out hG.1.bl) HC0.out (Kd.C_below HR3.out hG.1.bl) HC3.out AE.out).mono ?_
                  rintro _ W2 ⟨rfl, hd⟩
                  exact ⟨_, rfl, rfl, KeepBut.of_below hd _ _, hG.1.below hd, (hd.block _ (blk_lt hG.2.1)).trans hG.2.1, (hd.block _ (blk_lt hG.2.2.1)).trans hG.2.2.1, Kd.R_below hG.2.2.2 hd⟩
                refine all_cons (EStep.pure hk0 fun b E a' W ha hG hP => ?_) all_nil
                have s53 : a'.tmps[53]? = some (.int .i64 (wrap64 ((i : Int) + x.f2))) := slotv ha (hP 3 rfl).1 rfl (hP 3 rfl).2
                have s56 : a'.tmps[56]? = some (.int .i64 e) := slotv ha (hP 6 rfl).1 rfl (hP 6 rfl).2
                refine ⟨_, .bool bq, rfl, rfl, ?_, rfl, hG⟩
                rw [← hbq]
                clear ha hG hP hbq
                go_simp
              · intro E b W hall hF hG
                obtain ⟨h1, h2, h3, h4⟩ := hG
                have e7 : E 7 = .bool bq := hF 7 rfl
                rw [putSel_all (fun x hx => hall x.1 (by revert x; decide))]
                simp only [spec_l3Of.L10, List.foldl, e7, Act.put, List.setIfInBounds_toArray, List.set_cons_zero, List.set_cons_succ]
                obtain ⟨X, c2, rfl⟩ := Kd.R_slice h4
                have HQ := Aside0.mk h1
                have HG := Aside0.mk h2
                have HO := Aside0.mk h3
                have HR := Aside0.mk h4
                clear hall hF e7 h1 h2 h3 h4 HQ2 HG2 HO2 HR2 hk0
                cases bq
                · have hgt : ¬ wrap64 ((i : Int) + x.f2) > e := of_decide_eq_false hbq
                  rw [if_neg hgt] at AT
                  clear hgt hbq
                  try go_wp2
                  go_loopg [] 90 (fun gg wr => ∃ (n3 : Nat) (tt : S37), n3 ≤ gg ∧ n3 ≤ 90 ∧ tt.f1 = 90 - (n3 : Int) ∧ Aside0 (spec_l3Of.fit k ds n3 tt = some t2) ∧ Aside0 (L3 w (l3A (.slice A0_0 l0_0.length c0_0) (.slice (some ad) l0_3.length c0_3) a0_1 a0_2 a0_4) wr) ∧ Aside0 (wr.heap[C]? = some (.cells (gridA l0_3.length wd (.slice X ds.length c2)) 30 (0, 0))) ∧ Aside0 (wr.heap[ob]? = some (.cells (outA tt.f0 tt.f1 tt.f2 tt.f3 tt.f4) 37 (0, 0))) ∧ Aside0 (Kd.R k37 37 wr (w.heap.size + 2) (fun k => k < ob) (.slice X ds.length c2) ds))
                  case atStart => exact ⟨90, ⟨i, 0, x.f2, x.f1, j⟩, Nat.le_refl _, Nat.le_refl _, rfl, AT, HQ, HG, HO, HR⟩
                  case round =>
                    clear AT HQ HG HO HR
                    obtain ⟨n3, tt, hg3, hn9, hf1, HF, HQ, HG, HO, HR⟩ := hrel
                    have hf := HF.out
                    clear HF
                    cases n3 with
                    | zero =>
                      unfold spec_l3Of.fit at hf
                      replace hf := Option.some.inj hf
                      subst hf
                      have hnlt : ¬ tt.f1 < 90 := by omega
                      clear hf1 hg3 hn9
                      obtain ⟨o0, o1, o2, o3, o4⟩ := outA_cells HO.out
                      have q2 : wr.cell? ⟨C, 2, none⟩ = some (.slice X ds.length c2) := (blk_cell HG.out 2).trans rfl
                      go_wp2_with (first | (go_at_call 41; (with_reducible refine (spec_l3Free.calls k X c2 ds tt.f0 tt.f1 tt.f2 tt.f3 tt.f4 true _ (Kd.R_reads' HR.out).2.2 (Kd.R_reads' HR.out).2.1 AF.out).mono ?_); rintro e_ Wf ⟨rfl, hb⟩; replace HQ := Aside0.mk (HQ.out.below hb); replace HG := Aside0.mk ((hb.block _ (blk_lt HG.out)).trans HG.out); replace HO := Aside0.mk ((hb.block _ (blk_lt HO.out)).trans HO.out); replace HR := Aside0.mk (Kd.R_below HR.out hb); clear hb; clear q2 o0 o1 o2 o3 o4; obtain ⟨o0, o1, o2, o3, o4⟩ := outA_cells HO.out; have q2 : Wf.cell? ⟨C, 2, none⟩ = some (.slice X ds.length c2) := (blk_cell HG.out 2).trans rfl) | (refine wpList_load_row rfl 37 _ rfl ob rfl 37 (outA tt.f0 tt.f1 tt.f2 tt.f3 tt.f4) (0, 0) _ HO.out Tryd.underlying37 rfl (by kernel_rfl) ?_) | (refine wpList_append_R (P := Tryd.prog) k37 (w.heap.size + 2) _ _ 28 37 (.agg #[.int .i64 0, .int .i64 0, .int .i64 0, .int .i64 0, .int .i64 0]) 40 rfl rfl Tryd.underlying28 (by kernel_rfl) rfl (by decide) (by decide) (.slice X ds.length c2) ds tt [.int .i64 tt.f0, .int .i64 tt.f1, .int .i64 tt.f2, .int .i64 tt.f3, .int .i64 tt.f4] _ (fun _ => True) (fun _ => False) rfl rfl (blk_new _ _) (k37_mkM _ _ _ tt) (fun _ h => h.elim) (fun _ _ => trivial) (Kd.R_mono (Kd.R_alloc HR.out _) (fun _ _ => trivial)) (HQ.out.alloc _).size (by have := HDS.out; omega) (fun v1 w1 hR1 hg1 hat1 => ?_); replace HQ := Aside0.mk ((HQ.out.alloc _).grown hg1 (fun k hk => Kd.R_base HR.out k hk)); replace HG := Aside0.mk (blk_grown (blk_alloc HG.out _) hg1 (own_ne_of HR.out HG.out (by decide))); replace HO := Aside0.mk (blk_grown (blk_alloc HO.out _) hg1 (fun e => Nat.lt_irrefl _ (HR.out.1 ob e.symm))); obtain ⟨X2, n2, c3, rfl⟩ : ∃ X2 n2 c3, v1 = .slice X2 n2 c3 := (Kd.R_slice hR1).imp fun _ h => ⟨_, h⟩; replace HR := Aside0.mk hR1; clear hR1 hg1 hat1) | (refine wpList_put 28 _ _ rfl rfl C 2 rfl (.slice X2 n2 c3) rfl 30 (gridA l0_3.length wd (.slice X ds.length c2)) (gridA l0_3.length wd (.slice X2 n2 c3)) HG.out (by kernel_rfl) rfl rfl rfl (fun W9 hp => ?_); replace HQ := Aside0.mk (HQ.out.put hp HGC.out); replace HO := Aside0.mk (hp.keep HO.out (Nat.ne_of_gt HOC.out)); replace HR := Aside0.mk (R_put HR.out HG.out hp (by decide)); replace HG := Aside0.mk hp.blk; clear hp; clear o0 o1 o2 o3 o4; obtain ⟨o0, o1, o2, o3, o4⟩ := outA_cells HO.out; have q1 : W9.cell? ⟨C, 1, none⟩ = some (.int .i64 wd) := (blk_cell HG.out 1).trans rfl) | (go_at_call 39; (with_reducible refine (spec_l1Max.calls wd (wrap64 (tt.f1 + tt.f3)) wd3 _ AW.out).mono ?_); rintro e_ Wm ⟨rfl, hd⟩; replace HQ := Aside0.mk (HQ.out.below hd.below); replace HG := Aside0.mk ((hd.below.block _ (blk_lt HG.out)).trans HG.out); replace HR := Aside0.mk (Kd.R_below HR.out hd.below); clear hd) | (refine wpList_put 3 _ _ rfl rfl C 1 rfl (.int .i64 wd3) rfl 30 (gridA l0_3.length wd (.slice X2 n2 c3)) (gridA l0_3.length wd3 (.slice X2 n2 c3)) HG.out (by kernel_rfl) rfl rfl rfl (fun W9 hp => ?_); replace HQ := Aside0.mk (HQ.out.put hp HGC.out); replace HR := Aside0.mk (R_put HR.out HG.out hp (by decide)); replace HG := Aside0.mk hp.blk; clear hp))
                      go_roundg m
                      case measure => omega
                      case rel => exact ⟨m, j + 1, wd3, ds ++ [tt], _, Nat.le_refl _, by omega, by go_num, HL4, HQ, HG, HR⟩
                    | succ n3 =>
                      unfold spec_l3Of.fit at hf
                      rw [Option.bind_eq_some_iff] at hf
                      obtain ⟨b, h1, hf⟩ := hf
                      have AF := Aside0.mk h1
                      clear h1
                      have hlt9 : tt.f1 < 90 := by omega
                      have hge9 : 0 ≤ tt.f1 := by omega
                      have HF1 := Aside0.mk hf1
                      clear hf1
                      cases b
                      · rw [if_neg (by decide)] at hf
                        have HF2 := Aside0.mk hf
                        clear hf
                        obtain ⟨o0, o1, o2, o3, o4⟩ := outA_cells HO.out
                        have q2 : wr.cell? ⟨C, 2, none⟩ = some (.slice X ds.length c2) := (blk_cell HG.out 2).trans rfl
                        go_wp2_with (first | (go_at_call 41; (with_reducible refine (spec_l3Free.calls k X c2 ds tt.f0 tt.f1 tt.f2 tt.f3 tt.f4 false _ (Kd.R_reads' HR.out).2.2 (Kd.R_reads' HR.out).2.1 AF.out).mono ?_); rintro e_ Wf ⟨rfl, hb⟩; replace HQ := Aside0.mk (HQ.out.below hb); replace HG := Aside0.mk ((hb.block _ (blk_lt HG.out)).trans HG.out); replace HO := Aside0.mk ((hb.block _ (blk_lt HO.out)).trans HO.out); replace HR := Aside0.mk (Kd.R_below HR.out hb); clear hb; clear q2 o0 o1 o2 o3 o4; obtain ⟨o0, o1, o2, o3, o4⟩ := outA_cells HO.out; have q2 : Wf.cell? ⟨C, 2, none⟩ = some (.slice X ds.length c2) := (blk_cell HG.out 2).trans rfl) | (refine wpList_put 3 _ _ rfl rfl ob 1 rfl (.int .i64 (tt.f1 + 1)) rfl 37 (outA tt.f0 tt.f1 tt.f2 tt.f3 tt.f4) (outA tt.f0 (tt.f1 + 1) tt.f2 tt.f3 tt.f4) HO.out (by kernel_rfl) rfl rfl rfl (fun W9 hp => ?_); replace HQ := Aside0.mk (HQ.out.put hp (Nat.le_trans HGC.out (Nat.le_of_lt HOC.out))); replace HG := Aside0.mk (hp.keep HG.out (Nat.ne_of_lt HOC.out)); replace HR := Aside0.mk (R_putN HR.out hp (fun k hk => Nat.ne_of_lt hk)); replace HO := Aside0.mk hp.blk; clear hp))
                        go_roundg n3
                        case measure => omega
                        case rel => exact ⟨n3, { tt with f1 := tt.f1 + 1 }, Nat.le_refl _, by omega, by show tt.f1 + 1 = 90 - (n3 : Int); have := HF1.out; omega, HF2, HQ, HG, HO, HR⟩
                      · rw [if_pos rfl] at hf
                        replace hf := Option.some.inj hf
                        subst hf
                        clear HF1
                        obtain ⟨o0, o1, o2, o3, o4⟩ := outA_cells HO.out
                        have q2 : wr.cell? ⟨C, 2, none⟩ = some (.slice X ds.length c2) := (blk_cell HG.out 2).trans rfl
                        go_wp2_with (first | (go_at_call 41; (with_reducible refine (spec_l3Free.calls k X c2 ds tt.f0 tt.f1 tt.f2 tt.f3 tt.f4 true _ (Kd.R_reads' HR.out).2.2 (Kd.R_reads' HR.out).2.1 AF.out).mono ?_); rintro e_ Wf ⟨rfl, hb⟩; replace HQ := Aside0.mk (HQ.out.below hb); replace HG := Aside0.mk ((hb.block _ (blk_lt HG.out)).trans HG.out); replace HO := Aside0.mk ((hb.block _ (blk_lt HO.out)).trans HO.out); replace HR := Aside0.mk (Kd.R_below HR.out hb); clear hb; clear q2 o0 o1 o2 o3 o4; obtain ⟨o0, o1, o2, o3, o4⟩ := outA_cells HO.out; have q2 : Wf.cell? ⟨C, 2, none⟩ = some (.slice X ds.length c2) := (blk_cell HG.out 2).trans rfl) | (refine wpList_load_row rfl 37 _ rfl ob rfl 37 (outA tt.f0 tt.f1 tt.f2 tt.f3 tt.f4) (0, 0) _ HO.out Tryd.underlying37 rfl (by kernel_rfl) ?_) | (refine wpList_append_R (P := Tryd.prog) k37 (w.heap.size + 2) _ _ 28 37 (.agg #[.int .i64 0, .int .i64 0, .int .i64 0, .int .i64 0, .int .i64 0]) 40 rfl rfl Tryd.underlying28 (by kernel_rfl) rfl (by decide) (by decide) (.slice X ds.length c2) ds tt [.int .i64 tt.f0, .int .i64 tt.f1, .int .i64 tt.f2, .int .i64 tt.f3, .int .i64 tt.f4] _ (fun _ => True) (fun _ => False) rfl rfl (blk_new _ _) (k37_mkM _ _ _ tt) (fun _ h => h.elim) (fun _ _ => trivial) (Kd.R_mono (Kd.R_alloc HR.out _) (fun _ _ => trivial)) (HQ.out.alloc _).size (by have := HDS.out; omega) (fun v1 w1 hR1 hg1 hat1 => ?_); replace HQ := Aside0.mk ((HQ.out.alloc _).grown hg1 (fun k hk => Kd.R_base HR.out k hk)); replace HG := Aside0.mk (blk_grown (blk_alloc HG.out _) hg1 (own_ne_of HR.out HG.out (by decide))); replace HO := Aside0.mk (blk_grown (blk_alloc HO.out _) hg1 (fun e => Nat.lt_irrefl _ (HR.out.1 ob e.symm))); obtain ⟨X2, n2, c3, rfl⟩ : ∃ X2 n2 c3, v1 = .slice X2 n2 c3 := (Kd.R_slice hR1).imp fun _ h => ⟨_, h⟩; replace HR := Aside0.mk hR1; clear hR1 hg1 hat1) | (refine wpList_put 28 _ _ rfl rfl C 2 rfl (.slice X2 n2 c3) rfl 30 (gridA l0_3.length wd (.slice X ds.length c2)) (gridA l0_3.length wd (.slice X2 n2 c3)) HG.out (by kernel_rfl) rfl rfl rfl (fun W9 hp => ?_); replace HQ := Aside0.mk (HQ.out.put hp HGC.out); replace HO := Aside0.mk (hp.keep HO.out (Nat.ne_of_gt HOC.out)); replace HR := Aside0.mk (R_put HR.out HG.out hp (by decide)); replace HG := Aside0.mk hp.blk; clear hp; clear o0 o1 o2 o3 o4; obtain ⟨o0, o1, o2, o3, o4⟩ := outA_cells HO.out; have q1 : W9.cell? ⟨C, 1, none⟩ = some (.int .i64 wd) := (blk_cell HG.out 1).trans rfl) | (go_at_call 39; (with_reducible refine (spec_l1Max.calls wd (wrap64 (tt.f1 + tt.f3)) wd3 _ AW.out).mono ?_); rintro e_ Wm ⟨rfl, hd⟩; replace HQ := Aside0.mk (HQ.out.below hd.below); replace HG := Aside0.mk ((hd.below.block _ (blk_lt HG.out)).trans HG.out); replace HR := Aside0.mk (Kd.R_below HR.out hd.below); clear hd) | (refine wpList_put 3 _ _ rfl rfl C 1 rfl (.int .i64 wd3) rfl 30 (gridA l0_3.length wd (.slice X2 n2 c3)) (gridA l0_3.length wd3 (.slice X2 n2 c3)) HG.out (by kernel_rfl) rfl rfl rfl (fun W9 hp => ?_); replace HQ := Aside0.mk (HQ.out.put hp HGC.out); replace HR := Aside0.mk (R_put HR.out HG.out hp (by decide)); replace HG := Aside0.mk hp.blk; clear hp))
                        go_roundg m
                        case measure => omega
                        case rel => exact ⟨m, j + 1, wd3, ds ++ [tt], _, Nat.le_refl _, by omega, by go_num, HL4, HQ, HG, HR⟩
                · have hgt : wrap64 ((i : Int) + x.f2) > e := of_decide_eq_true hbq
                  rw [if_pos hgt] at AT
                  clear hgt hbq
                  go_wp2_with (first | (refine wpList_load_row rfl 26 _ rfl w.heap.size rfl 26 (l3A (.slice A0_0 l0_0.length c0_0) (.slice (some ad) l0_3.length c0_3) a0_1 a0_2 a0_4) (0, 0) _ HQ.out.pb Tryd.underlying26 rfl (by kernel_rfl) ?_) | (go_at_call 40; (with_reducible refine (spec_l2End.calls A0_0 c0_0 l0_0 a0_1 a0_2 (some ad) c0_3 l0_3 a0_4 i e _ (Kd.C_below HR0.out HQ.out.bl) HC0.out (Kd.C_below HR3.out HQ.out.bl) HC3.out AE.out).mono ?_); rintro e_ Wf ⟨rfl, hb⟩; replace HQ := Aside0.mk (HQ.out.below hb); replace HG := Aside0.mk ((hb.block _ (blk_lt HG.out)).trans HG.out); replace HO := Aside0.mk ((hb.block _ (blk_lt HO.out)).trans HO.out); replace HR := Aside0.mk (Kd.R_below HR.out hb); clear hb) | (refine wpList_put 3 _ _ rfl rfl ob 2 rfl (.int .i64 (wrap64 (e - i))) rfl 37 (outA i 0 x.f2 x.f1 j) (outA i 0 (wrap64 (e - i)) x.f1 j) HO.out (by kernel_rfl) rfl rfl rfl (fun W9 hp => ?_); replace HQ := Aside0.mk (HQ.out.put hp (Nat.le_trans HGC.out (Nat.le_of_lt HOC.out))); replace HG := Aside0.mk (hp.keep HG.out (Nat.ne_of_lt HOC.out)); replace HR := Aside0.mk (R_putN HR.out hp (fun k hk => Nat.ne_of_lt hk)); replace HO := Aside0.mk hp.blk; clear hp))
                  simp only [Act.put, List.setIfInBounds_toArray, List.set_cons_zero, List.set_cons_succ]
                  try go_wp2
                  go_loopg [] 90 (fun gg wr => ∃ (n3 : Nat) (tt : S37), n3 ≤ gg ∧ n3 ≤ 90 ∧ tt.f1 = 90 - (n3 : Int) ∧ Aside0 (spec_l3Of.fit k ds n3 tt = some t2) ∧ Aside0 (L3 w (l3A (.slice A0_0 l0_0.length c0_0) (.slice (some ad) l0_3.length c0_3) a0_1 a0_2 a0_4) wr) ∧ Aside0 (wr.heap[C]? = some (.cells (gridA l0_3.length wd (.slice X ds.length c2)) 30 (0, 0))) ∧ Aside0 (wr.heap[ob]? = some (.cells (outA tt.f0 tt.f1 tt.f2 tt.f3 tt.f4) 37 (0, 0))) ∧ Aside0 (Kd.R k37 37 wr (w.heap.size + 2) (fun k => k < ob) (.slice X ds.length c2) ds))
                  case atStart => exact ⟨90, ⟨i, 0, (wrap64 (e - (i : Int))), x.f1, j⟩, Nat.le_refl _, Nat.le_refl _, rfl, AT, HQ, HG, HO, HR⟩
                  case round =>
                    clear AT HQ HG HO HR
                    obtain ⟨n3, tt, hg3, hn9, hf1, HF, HQ, HG, HO, HR⟩ := hrel
                    have hf := HF.out
                    clear HF
                    cases n3 with
                    | zero =>
                      unfold spec_l3Of.fit at hf
                      replace hf := Option.some.inj hf
                      subst hf
                      have hnlt : ¬ tt.f1 < 90 := by omega
                      clear hf1 hg3 hn9
                      obtain ⟨o0, o1, o2, o3, o4⟩ := outA_cells HO.out
                      have q2 : wr.cell? ⟨C, 2, none⟩ = some (.slice X ds.length c2) := (blk_cell HG.out 2).trans rfl
                      go_wp2_with (first | (go_at_call 41; (with_reducible refine (spec_l3Free.calls k X c2 ds tt.f0 tt.f1 tt.f2 tt.f3 tt.f4 true _ (Kd.R_reads' HR.out).2.2 (Kd.R_reads' HR.out).2.1 AF.out).mono ?_); rintro e_ Wf ⟨rfl, hb⟩; replace HQ := Aside0.mk (HQ.out.below hb); replace HG := Aside0.mk ((hb.block _ (blk_lt HG.out)).trans HG.out); replace HO := Aside0.mk ((hb.block _ (blk_lt HO.out)).trans HO.out); replace HR := Aside0.mk (Kd.R_below HR.out hb); clear hb; clear q2 o0 o1 o2 o3 o4; obtain ⟨o0, o1, o2, o3, o4⟩ := outA_cells HO.out; have q2 : Wf.cell? ⟨C, 2, none⟩ = some (.slice X ds.length c2) := (blk_cell HG.out 2).trans rfl) | (refine wpList_load_row rfl 37 _ rfl ob rfl 37 (outA tt.f0 tt.f1 tt.f2 tt.f3 tt.f4) (0, 0) _ HO.out Tryd.underlying37 rfl (by kernel_rfl) ?_) | (refine wpList_append_R (P := Tryd.prog) k37 (w.heap.size + 2) _ _ 28 37 (.agg #[.int .i64 0, .int .i64 0, .int .i64 0, .int .i64 0, .int .i64 0]) 40 rfl rfl Tryd.underlying28 (by kernel_rfl) rfl (by decide) (by decide) (.slice X ds.length c2) ds tt [.int .i64 tt.f0, .int .i64 tt.f1, .int .i64 tt.f2, .int .i64 tt.f3, .int .i64 tt.f4] _ (fun _ => True) (fun _ => False) rfl rfl (blk_new _ _) (k37_mkM _ _ _ tt) (fun _ h => h.elim) (fun _ _ => trivial) (Kd.R_mono (Kd.R_alloc HR.out _) (fun _ _ => trivial)) (HQ.out.alloc _).size (by have := HDS.out; omega) (fun v1 w1 hR1 hg1 hat1 => ?_); replace HQ := Aside0.mk ((HQ.out.alloc _).grown hg1 (fun k hk => Kd.R_base HR.out k hk)); replace HG := Aside0.mk (blk_grown (blk_alloc HG.out _) hg1 (own_ne_of HR.out HG.out (by decide))); replace HO := Aside0.mk (blk_grown (blk_alloc HO.out _) hg1 (fun e => Nat.lt_irrefl _ (HR.out.1 ob e.symm))); obtain ⟨X2, n2, c3, rfl⟩ : ∃ X2 n2 c3, v1 = .slice X2 n2 c3 := (Kd.R_slice hR1).imp fun _ h => ⟨_, h⟩; replace HR := Aside0.mk hR1; clear hR1 hg1 hat1) | (refine wpList_put 28 _ _ rfl rfl C 2 rfl (.slice X2 n2 c3) rfl 30 (gridA l0_3.length wd (.slice X ds.length c2)) (gridA l0_3.length wd (.slice X2 n2 c3)) HG.out (by kernel_rfl) rfl rfl rfl (fun W9 hp => ?_); replace HQ := Aside0.mk (HQ.out.put hp HGC.out); replace HO := Aside0.mk (hp.keep HO.out (Nat.ne_of_gt HOC.out)); replace HR := Aside0.mk (R_put HR.out HG.out hp (by decide)); replace HG := Aside0.mk hp.blk; clear hp; clear o0 o1 o2 o3 o4; obtain ⟨o0, o1, o2, o3, o4⟩ := outA_cells HO.out; have q1 : W9.cell? ⟨C, 1, none⟩ = some (.int .i64 wd) := (blk_cell HG.out 1).trans rfl) | (go_at_call 39; (with_reducible refine (spec_l1Max.calls wd (wrap64 (tt.f1 + tt.f3)) wd3 _ AW.out).mono ?_); rintro e_ Wm ⟨rfl, hd⟩; replace HQ := Aside0.mk (HQ.out.below hd.below); replace HG := Aside0.mk ((hd.below.block _ (blk_lt HG.out)).trans HG.out); replace HR := Aside0.mk (Kd.R_below HR.out hd.below); clear hd) | (refine wpList_put 3 _ _ rfl rfl C 1 rfl (.int .i64 wd3) rfl 30 (gridA l0_3.length wd (.slice X2 n2 c3)) (gridA l0_3.length wd3 (.slice X2 n2 c3)) HG.out (by kernel_rfl) rfl rfl rfl (fun W9 hp => ?_); replace HQ := Aside0.mk (HQ.out.put hp HGC.out); replace HR := Aside0.mk (R_put HR.out HG.out hp (by decide)); replace HG := Aside0.mk hp.blk; clear hp))
                      go_roundg m
                      case measure => omega
                      case rel => exact ⟨m, j + 1, wd3, ds ++ [tt], _, Nat.le_refl _, by omega, by go_num, HL4, HQ, HG, HR⟩
                    | succ n3 =>
                      unfold spec_l3Of.fit at hf
                      rw [Option.bind_eq_some_iff] at hf
                      obtain ⟨b, h1, hf⟩ := hf
                      have AF := Aside0.mk h1
                      clear h1
                      have hlt9 : tt.f1 < 90 := by omega
                      have hge9 : 0 ≤ tt.f1 := by omega
                      have HF1 := Aside0.mk hf1
                      clear hf1
                      cases b
                      · rw [if_neg (by decide)] at hf
                        have HF2 := Aside0.mk hf
                        clear hf
                        obtain ⟨o0, o1, o2, o3, o4⟩ := outA_cells HO.out
                        have q2 : wr.cell? ⟨C, 2, none⟩ = some (.slice X ds.length c2) := (blk_cell HG.out 2).trans rfl
                        go_wp2_with (first | (go_at_call 41; (with_reducible refine (spec_l3Free.calls k X c2 ds tt.f0 tt.f1 tt.f2 tt.f3 tt.f4 false _ (Kd.R_reads' HR.out).2.2 (Kd.R_reads' HR.out).2.1 AF.out).mono ?_); rintro e_ Wf ⟨rfl, hb⟩; replace HQ := Aside0.mk (HQ.out.below hb); replace HG := Aside0.mk ((hb.block _ (blk_lt HG.out)).trans HG.out); replace HO := Aside0.mk ((hb.block _ (blk_lt HO.out)).trans HO.out); replace HR := Aside0.mk (Kd.R_below HR.out hb); clear hb; clear q2 o0 o1 o2 o3 o4; obtain ⟨o0, o1, o2, o3, o4⟩ := outA_cells HO.out; have q2 : Wf.cell? ⟨C, 2, none⟩ = some (.slice X ds.length c2) := (blk_cell HG.out 2).trans rfl) | (refine wpList_put 3 _ _ rfl rfl ob 1 rfl (.int .i64 (tt.f1 + 1)) rfl 37 (outA tt.f0 tt.f1 tt.f2 tt.f3 tt.f4) (outA tt.f0 (tt.f1 + 1) tt.f2 tt.f3 tt.f4) HO.out (by kernel_rfl) rfl rfl rfl (fun W9 hp => ?_); replace HQ := Aside0.mk (HQ.out.put hp (Nat.le_trans HGC.out (Nat.le_of_lt HOC.out))); replace HG := Aside0.mk (hp.keep HG.out (Nat.ne_of_lt HOC.out)); replace HR := Aside0.mk (R_putN HR.out hp (fun k hk => Nat.ne_of_lt hk)); replace HO := Aside0.mk hp.blk; clear hp))
                        go_roundg n3
                        case measure => omega
                        case rel => exact ⟨n3, { tt with f1 := tt.f1 + 1 }, Nat.le_refl _, by omega, by show tt.f1 + 1 = 90 - (n3 : Int); have := HF1.out; omega, HF2, HQ, HG, HO, HR⟩
                      · rw [if_pos rfl] at hf
                        replace hf := Option.some.inj hf
                        subst hf
                        clear HF1
                        obtain ⟨o0, o1, o2, o3, o4⟩ := outA_cells HO.out
                        have q2 : wr.cell? ⟨C, 2, none⟩ = some (.slice X ds.length c2) := (blk_cell HG.out 2).trans rfl
                        go_wp2_with (first | (go_at_call 41; (with_reducible refine (spec_l3Free.calls k X c2 ds tt.f0 tt.f1 tt.f2 tt.f3 tt.f4 true _ (Kd.R_reads' HR.out).2.2 (Kd.R_reads' HR.out).2.1 AF.out).mono ?_); rintro e_ Wf ⟨rfl, hb⟩; replace HQ := Aside0.mk (HQ.out.below hb); replace HG := Aside0.mk ((hb.block _ (blk_lt HG.out)).trans HG.out); replace HO := Aside0.mk ((hb.block _ (blk_lt HO.out)).trans HO.out); replace HR := Aside0.mk (Kd.R_below HR.out hb); clear hb; clear q2 o0 o1 o2 o3 o4; obtain ⟨o0, o1, o2, o3, o4⟩ := outA_cells HO.out; have q2 : Wf.cell? ⟨C, 2, none⟩ = some (.slice X ds.length c2) := (blk_cell HG.out 2).trans rfl) | (refine wpList_load_row rfl 37 _ rfl ob rfl 37 (outA tt.f0 tt.f1 tt.f2 tt.f3 tt.f4) (0, 0) _ HO.out Tryd.underlying37 rfl (by kernel_rfl) ?_) | (refine wpList_append_R (P := Tryd.prog) k37 (w.heap.size + 2) _ _ 28 37 (.agg #[.int .i64 0, .int .i64 0, .int .i64 0, .int .i64 0, .int .i64 0]) 40 rfl rfl Tryd.underlying28 (by kernel_rfl) rfl (by decide) (by decide) (.slice X ds.length c2) ds tt [.int .i64 tt.f0, .int .i64 tt.f1, .int .i64 tt.f2, .int .i64 tt.f3, .int .i64 tt.f4] _ (fun _ => True) (fun _ => False) rfl rfl (blk_new _ _) (k37_mkM _ _ _ tt) (fun _ h => h.elim) (fun _ _ => trivial) (Kd.R_mono (Kd.R_alloc HR.out _) (fun _ _ => trivial)) (HQ.out.alloc _).size (by have := HDS.out; omega) (fun v1 w1 hR1 hg1 hat1 => ?_); replace HQ := Aside0.mk ((HQ.out.alloc _).grown hg1 (fun k hk => Kd.R_base HR.out k hk)); replace HG := Aside0.mk (blk_grown (blk_alloc HG.out _) hg1 (own_ne_of HR.out HG.out (by decide))); replace HO := Aside0.mk (blk_grown (blk_alloc HO.out _) hg1 (fun e => Nat.lt_irrefl _ (HR.out.1 ob e.symm))); obtain ⟨X2, n2, c3, rfl⟩ : ∃ X2 n2 c3, v1 = .slice X2 n2 c3 := (Kd.R_slice hR1).imp fun _ h => ⟨_, h⟩; replace HR := Aside0.mk hR1; clear hR1 hg1 hat1) | (refine wpList_put 28 _ _ rfl rfl C 2 rfl (.slice X2 n2 c3) rfl 30 (gridA l0_3.length wd (.slice X ds.length c2)) (gridA l0_3.length wd (.slice X2 n2 c3)) HG.out (by kernel_rfl) rfl rfl rfl (fun W9 hp => ?_); replace HQ := Aside0.mk (HQ.out.put hp HGC.out); replace HO := Aside0.mk (hp.keep HO.out (Nat.ne_of_gt HOC.out)); replace HR := Aside0.mk (R_put HR.out HG.out hp (by decide)); replace HG := Aside0.mk hp.blk; clear hp; clear o0 o1 o2 o3 o4; obtain ⟨o0, o1, o2, o3, o4⟩ := outA_cells HO.out; have q1 : W9.cell? ⟨C, 1, none⟩ = some (.int .i64 wd) := (blk_cell HG.out 1).trans rfl) | (go_at_call 39; (with_reducible refine (spec_l1Max.calls wd (wrap64 (tt.f1 + tt.f3)) wd3 _ AW.out).mono ?_); rintro e_ Wm ⟨rfl, hd⟩; replace HQ := Aside0.mk (HQ.out.below hd.below); replace HG := Aside0.mk ((hd.below.block _ (blk_lt HG.out)).trans HG.out); replace HR := Aside0.mk (Kd.R_below HR.out hd.below); clear hd) | (refine wpList_put 3 _ _ rfl rfl C 1 rfl (.int .i64 wd3) rfl 30 (gridA l0_3.length wd (.slice X2 n2 c3)) (gridA l0_3.length wd3 (.slice X2 n2 c3)) HG.out (by kernel_rfl) rfl rfl rfl (fun W9 hp => ?_); replace HQ := Aside0.mk (HQ.out.put hp HGC.out); replace HR := Aside0.mk (R_put HR.out HG.out hp (by decide)); replace HG := Aside0.mk hp.blk; clear hp))
                        go_roundg m
                        case measure => omega
                        case rel => exact ⟨m, j + 1, wd3, ds ++ [tt], _, Nat.le_refl _, by omega, by go_num, HL4, HQ, HG, HR⟩
            · cases hl


end Go.Proofs.YtkbcmbjoelkgoacDoor.Q
