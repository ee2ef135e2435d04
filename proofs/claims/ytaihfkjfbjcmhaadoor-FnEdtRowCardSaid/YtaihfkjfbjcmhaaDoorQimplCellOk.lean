-- Told by a program of this session (uprint.py, ulay.py).
import Derived.Test.YtaihfkjfbjcmhaaDoorQ0
import Derived.Test.YtaihfkjfbjcmhaaDoorReg
import Derived.Test.YtaihfkjfbjcmhaaDoorQimplin
import Derived.Shelf.Abstract
namespace Go.Proofs.YtaihfkjfbjcmhaaDoor.Q
open Go.RowKit Go.Proofs.YtaihfkjfbjcmhaaDoorW.PrintWords Go.Proofs.YtaihfkjfbjcmhaaDoorW.PrintLast Go.Proofs.YtaihfkjfbjcmhaaDoorW.PrintMore Go.Proofs.YtaihfkjfbjcmhaaDoor.Reg Go.Proofs.YtaihfkjfbjcmhaaDoor.Box
attribute [local go_sem] max2_int min2_int max_two min_two max_three min_three max_four min_four
set_option linter.unusedVariables false
set_option linter.unusedSimpArgs false

/-! ### impl_CellOk: function 30 -/
def impl_CellOk.f (a0_0 : ByteArray) (a0_1 : Int) (a0_2 : Int) (a0_3 : Int) (a0_4 : Int) (a0_5 : Int) (a0_6 : Int) (a0_7 : Int) (a0_8 : Int) (a0_9 : Int) (a0_10 : Int) : Option (Bool) := (impl_TxtOk.f a0_0).bind fun t260 => (if t260 = true then ((impl_in.f a0_1 1 4).bind fun t261 => (if t261 = true then ((impl_in.f a0_2 1 4).bind fun t262 => (if t262 = true then ((impl_BrdOk.f a0_3 a0_4).bind fun t263 => (if t263 = true then ((impl_BrdOk.f a0_5 a0_6).bind fun t264 => (if t264 = true then ((impl_BrdOk.f a0_7 a0_8).bind fun t265 => (if t265 = true then ((impl_BrdOk.f a0_9 a0_10).bind fun t266 => (some t266)) else (some false))) else (some false))) else (some false))) else (some false))) else (some false))) else (some false))
set_option maxHeartbeats 8000000 in
set_option maxRecDepth 100000 in
theorem impl_CellOk.calls (a0_0 : ByteArray) (a0_1 : Int) (a0_2 : Int) (a0_3 : Int) (a0_4 : Int) (a0_5 : Int) (a0_6 : Int) (a0_7 : Int) (a0_8 : Int) (a0_9 : Int) (a0_10 : Int) (r : Bool) (w : World) (hM : Txt.MLen w) (h : impl_CellOk.f a0_0 a0_1 a0_2 a0_3 a0_4 a0_5 a0_6 a0_7 a0_8 a0_9 a0_10 = some r) :
    Calls Tryd.prog 30 #[.agg #[.string a0_0, .int .i64 a0_1, .int .i64 a0_2, .int .i64 a0_3, .int .i64 a0_4, .int .i64 a0_5, .int .i64 a0_6, .int .i64 a0_7, .int .i64 a0_8, .int .i64 a0_9, .int .i64 a0_10]] w fun e w' => e = .returned (.bool r) ∧ Below w.heap.size w w' := by
  have HM := Aside0.mk hM
  clear hM
  have hu58 := Tryd.underlying58
  have hu56 := Tryd.underlying56
  have HB := Aside0.mk (Below.refl w.heap.size w)
  have H : ((impl_TxtOk.f a0_0).bind fun t260 => (if t260 = true then ((impl_in.f a0_1 1 4).bind fun t261 => (if t261 = true then ((impl_in.f a0_2 1 4).bind fun t262 => (if t262 = true then ((impl_BrdOk.f a0_3 a0_4).bind fun t263 => (if t263 = true then ((impl_BrdOk.f a0_5 a0_6).bind fun t264 => (if t264 = true then ((impl_BrdOk.f a0_7 a0_8).bind fun t265 => (if t265 = true then ((impl_BrdOk.f a0_9 a0_10).bind fun t266 => (some t266)) else (some false))) else (some false))) else (some false))) else (some false))) else (some false))) else (some false))) = some r := h
  clear h
  replace H := Option.bind_eq_some_iff.mp H
  obtain ⟨t260, A20, H⟩ := H
  replace H : (if t260 = true then ((impl_in.f a0_1 1 4).bind fun t261 => (if t261 = true then ((impl_in.f a0_2 1 4).bind fun t262 => (if t262 = true then ((impl_BrdOk.f a0_3 a0_4).bind fun t263 => (if t263 = true then ((impl_BrdOk.f a0_5 a0_6).bind fun t264 => (if t264 = true then ((impl_BrdOk.f a0_7 a0_8).bind fun t265 => (if t265 = true then ((impl_BrdOk.f a0_9 a0_10).bind fun t266 => (some t266)) else (some false))) else (some false))) else (some false))) else (some false))) else (some false))) else (some false)) = some r := H
  have A2 := Aside0.mk A20
  clear A20
  by_cases c3 : t260 = true
  · subst c3
    have H1 : ((impl_in.f a0_1 1 4).bind fun t261 => (if t261 = true then ((impl_in.f a0_2 1 4).bind fun t262 => (if t262 = true then ((impl_BrdOk.f a0_3 a0_4).bind fun t263 => (if t263 = true then ((impl_BrdOk.f a0_5 a0_6).bind fun t264 => (if t264 = true then ((impl_BrdOk.f a0_7 a0_8).bind fun t265 => (if t265 = true then ((impl_BrdOk.f a0_9 a0_10).bind fun t266 => (some t266)) else (some false))) else (some false))) else (some false))) else (some false))) else (some false))) = some r := by rw [if_pos rfl] at H; exact H
    clear H
    have H := H1
    clear H1
    replace H := Option.bind_eq_some_iff.mp H
    obtain ⟨t261, A40, H⟩ := H
    replace H : (if t261 = true then ((impl_in.f a0_2 1 4).bind fun t262 => (if t262 = true then ((impl_BrdOk.f a0_3 a0_4).bind fun t263 => (if t263 = true then ((impl_BrdOk.f a0_5 a0_6).bind fun t264 => (if t264 = true then ((impl_BrdOk.f a0_7 a0_8).bind fun t265 => (if t265 = true then ((impl_BrdOk.f a0_9 a0_10).bind fun t266 => (some t266)) else (some false))) else (some false))) else (some false))) else (some false))) else (some false)) = some r := H
    have A4 := Aside0.mk A40
    clear A40
    by_cases c5 : t261 = true
    · subst c5
      have H1 : ((impl_in.f a0_2 1 4).bind fun t262 => (if t262 = true then ((impl_BrdOk.f a0_3 a0_4).bind fun t263 => (if t263 = true then ((impl_BrdOk.f a0_5 a0_6).bind fun t264 => (if t264 = true then ((impl_BrdOk.f a0_7 a0_8).bind fun t265 => (if t265 = true then ((impl_BrdOk.f a0_9 a0_10).bind fun t266 => (some t266)) else (some false))) else (some false))) else (some false))) else (some false))) = some r := by rw [if_pos rfl] at H; exact H
      clear H
      have H := H1
      clear H1
      replace H := Option.bind_eq_some_iff.mp H
      obtain ⟨t262, A60, H⟩ := H
      replace H : (if t262 = true then ((impl_BrdOk.f a0_3 a0_4).bind fun t263 => (if t263 = true then ((impl_BrdOk.f a0_5 a0_6).bind fun t264 => (if t264 = true then ((impl_BrdOk.f a0_7 a0_8).bind fun t265 => (if t265 = true then ((impl_BrdOk.f a0_9 a0_10).bind fun t266 => (some t266)) else (some false))) else (some false))) else (some false))) else (some false)) = some r := H
      have A6 := Aside0.mk A60
      clear A60
      by_cases c7 : t262 = true
      · subst c7
        have H1 : ((impl_BrdOk.f a0_3 a0_4).bind fun t263 => (if t263 = true then ((impl_BrdOk.f a0_5 a0_6).bind fun t264 => (if t264 = true then ((impl_BrdOk.f a0_7 a0_8).bind fun t265 => (if t265 = true then ((impl_BrdOk.f a0_9 a0_10).bind fun t266 => (some t266)) else (some false))) else (some false))) else (some false))) = some r := by rw [if_pos rfl] at H; exact H
        clear H
        have H := H1
        clear H1
        replace H := Option.bind_eq_some_iff.mp H
        obtain ⟨t263, A80, H⟩ := H
        replace H : (if t263 = true then ((impl_BrdOk.f a0_5 a0_6).bind fun t264 => (if t264 = true then ((impl_BrdOk.f a0_7 a0_8).bind fun t265 => (if t265 = true then ((impl_BrdOk.f a0_9 a0_10).bind fun t266 => (some t266)) else (some false))) else (some false))) else (some false)) = some r := H
        have A8 := Aside0.mk A80
        clear A80
        by_cases c9 : t263 = true
        · subst c9
          have H1 : ((impl_BrdOk.f a0_5 a0_6).bind fun t264 => (if t264 = true then ((impl_BrdOk.f a0_7 a0_8).bind fun t265 => (if t265 = true then ((impl_BrdOk.f a0_9 a0_10).bind fun t266 => (some t266)) else (some false))) else (some false))) = some r := by rw [if_pos rfl] at H; exact H
          clear H
          have H := H1
          clear H1
          replace H := Option.bind_eq_some_iff.mp H
          obtain ⟨t264, A100, H⟩ := H
          replace H : (if t264 = true then ((impl_BrdOk.f a0_7 a0_8).bind fun t265 => (if t265 = true then ((impl_BrdOk.f a0_9 a0_10).bind fun t266 => (some t266)) else (some false))) else (some false)) = some r := H
          have A10 := Aside0.mk A100
          clear A100
          by_cases c11 : t264 = true
          · subst c11
            have H1 : ((impl_BrdOk.f a0_7 a0_8).bind fun t265 => (if t265 = true then ((impl_BrdOk.f a0_9 a0_10).bind fun t266 => (some t266)) else (some false))) = some r := by rw [if_pos rfl] at H; exact H
            clear H
            have H := H1
            clear H1
            replace H := Option.bind_eq_some_iff.mp H
            obtain ⟨t265, A120, H⟩ := H
            replace H : (if t265 = true then ((impl_BrdOk.f a0_9 a0_10).bind fun t266 => (some t266)) else (some false)) = some r := H
            have A12 := Aside0.mk A120
            clear A120
            by_cases c13 : t265 = true
            · subst c13
              have H1 : ((impl_BrdOk.f a0_9 a0_10).bind fun t266 => (some t266)) = some r := by rw [if_pos rfl] at H; exact H
              clear H
              have H := H1
              clear H1
              replace H := Option.bind_eq_some_iff.mp H
              obtain ⟨t266, A140, H⟩ := H
              replace H : (some t266) = some r := H
              have A14 := Aside0.mk A140
              clear A140
              obtain rfl := Option.some.inj H
              go_enter Tryd.func30, Tryd.ntmps30
              go_wp2_with (first | ((with_reducible refine gate_dst (N := 1) rfl ?_); refine box_event ?hg (N := 1) ?hd (cs := #[.string a0_0, .int .i64 a0_1, .int .i64 a0_2, .int .i64 a0_3, .int .i64 a0_4, .int .i64 a0_5, .int .i64 a0_6, .int .i64 a0_7, .int .i64 a0_8, .int .i64 a0_9, .int .i64 a0_10]) (t := 58) ?hr ?_; (case hd => rfl); (case hg => rfl); (case hr => first | (go_simp; done) | (go_simp; rfl)); intro gb259 hg w15 hbox hb; have n0_ := Aside0.mk (below_step (by repeat (first | (with_reducible first | exact HB.out | apply below_alloc | apply pw_below_drewN | apply below_drew1) | exact HB.out)) hb); have n1_ := Aside0.mk (hbox); have n2_ := Aside0.mk ((by rw [hg]; exact (below_size (by repeat (first | (with_reducible first | exact HB.out | apply below_alloc | apply pw_below_drewN | apply below_drew1) | exact HB.out))) : w.heap.size ≤ gb259)); have n3_ := Aside0.mk ((by rw [hg]; exact (below_size (by repeat (first | (with_reducible first | exact HB.out | apply below_alloc | apply pw_below_drewN | apply below_drew1) | exact HB.out))) : w.heap.size ≤ gb259)); clear HB; have HB := n0_; have BK259 := n1_; have GW259 := n2_; have GE259 := n3_; clear n0_ n1_ n2_ n3_; clear hb hbox hg; have hcz16_0 : w15.cell? ⟨gb259, 0, none⟩ = some (.string a0_0) := (blk_cell BK259.out 0).trans rfl; have hcz16_1 : w15.cell? ⟨gb259, 1, none⟩ = some (.int .i64 a0_1) := (blk_cell BK259.out 1).trans rfl; have hcz16_2 : w15.cell? ⟨gb259, 2, none⟩ = some (.int .i64 a0_2) := (blk_cell BK259.out 2).trans rfl; have hcz16_3 : w15.cell? ⟨gb259, 3, none⟩ = some (.int .i64 a0_3) := (blk_cell BK259.out 3).trans rfl; have hcz16_4 : w15.cell? ⟨gb259, 4, none⟩ = some (.int .i64 a0_4) := (blk_cell BK259.out 4).trans rfl; have hcz16_5 : w15.cell? ⟨gb259, 5, none⟩ = some (.int .i64 a0_5) := (blk_cell BK259.out 5).trans rfl; have hcz16_6 : w15.cell? ⟨gb259, 6, none⟩ = some (.int .i64 a0_6) := (blk_cell BK259.out 6).trans rfl; have hcz16_7 : w15.cell? ⟨gb259, 7, none⟩ = some (.int .i64 a0_7) := (blk_cell BK259.out 7).trans rfl; have hcz16_8 : w15.cell? ⟨gb259, 8, none⟩ = some (.int .i64 a0_8) := (blk_cell BK259.out 8).trans rfl; have hcz16_9 : w15.cell? ⟨gb259, 9, none⟩ = some (.int .i64 a0_9) := (blk_cell BK259.out 9).trans rfl; have hcz16_10 : w15.cell? ⟨gb259, 10, none⟩ = some (.int .i64 a0_10) := (blk_cell BK259.out 10).trans rfl; have hfz16_0 := blk_frozen BK259.out 0; have hfz16_1 := blk_frozen BK259.out 1; have hfz16_2 := blk_frozen BK259.out 2; have hfz16_3 := blk_frozen BK259.out 3; have hfz16_4 := blk_frozen BK259.out 4; have hfz16_5 := blk_frozen BK259.out 5; have hfz16_6 := blk_frozen BK259.out 6; have hfz16_7 := blk_frozen BK259.out 7; have hfz16_8 := blk_frozen BK259.out 8; have hfz16_9 := blk_frozen BK259.out 9; have hfz16_10 := blk_frozen BK259.out 10) | ((with_reducible refine gate_callee (f := 25) rfl ?_); refine goesL_ (some 5) rfl rfl Tryd.func25 (by kernel_rfl) rfl #[.string a0_0] rfl (by (try simp only [List.map_toArray, List.map_cons, List.map_nil]); first | done | rfl | (simp only [List.length_drop, List.length_take]; rfl)) ?_; (with_reducible refine (impl_TxtOk.calls a0_0 true _ ?sideM A2.out).mono ?_); (case sideM => repeat (first | exact HM.out | exact (Txt.MLen_below HM.out HB.out) | (with_reducible refine Txt.MLen_alloc ?_ _) | (with_reducible refine Txt.MLen_drewN ?_ _) | (with_reducible refine Txt.MLen_drew ?_))); rintro e w17 ⟨rfl, hb⟩; refine ⟨_, rfl, ?_⟩; have n0_ := Aside0.mk (blk_below (g := gb259) (o := .cells #[.string a0_0, .int .i64 a0_1, .int .i64 a0_2, .int .i64 a0_3, .int .i64 a0_4, .int .i64 a0_5, .int .i64 a0_6, .int .i64 a0_7, .int .i64 a0_8, .int .i64 a0_9, .int .i64 a0_10] 58 (0, 0)) (by (with_reducible repeat (first | refine blk_drewN ?_ _ | refine blk_drew ?_ | refine blk_alloc ?_ _)); exact BK259.out) hb); have n1_ := Aside0.mk (below_step (by repeat (first | (with_reducible first | exact HB.out | apply below_alloc | apply pw_below_drewN | apply below_drew1 | refine below_set ?_ GE259.out) | exact HB.out)) hb); clear BK259; clear HB; have BK259 := n0_; have HB := n1_; clear n0_ n1_; (try clear hb); (try clear hb2); (try clear hk); (try clear hi); have hcz18_0 : w17.cell? ⟨gb259, 0, none⟩ = some (.string a0_0) := (blk_cell BK259.out 0).trans rfl; have hcz18_1 : w17.cell? ⟨gb259, 1, none⟩ = some (.int .i64 a0_1) := (blk_cell BK259.out 1).trans rfl; have hcz18_2 : w17.cell? ⟨gb259, 2, none⟩ = some (.int .i64 a0_2) := (blk_cell BK259.out 2).trans rfl; have hcz18_3 : w17.cell? ⟨gb259, 3, none⟩ = some (.int .i64 a0_3) := (blk_cell BK259.out 3).trans rfl; have hcz18_4 : w17.cell? ⟨gb259, 4, none⟩ = some (.int .i64 a0_4) := (blk_cell BK259.out 4).trans rfl; have hcz18_5 : w17.cell? ⟨gb259, 5, none⟩ = some (.int .i64 a0_5) := (blk_cell BK259.out 5).trans rfl; have hcz18_6 : w17.cell? ⟨gb259, 6, none⟩ = some (.int .i64 a0_6) := (blk_cell BK259.out 6).trans rfl; have hcz18_7 : w17.cell? ⟨gb259, 7, none⟩ = some (.int .i64 a0_7) := (blk_cell BK259.out 7).trans rfl; have hcz18_8 : w17.cell? ⟨gb259, 8, none⟩ = some (.int .i64 a0_8) := (blk_cell BK259.out 8).trans rfl; have hcz18_9 : w17.cell? ⟨gb259, 9, none⟩ = some (.int .i64 a0_9) := (blk_cell BK259.out 9).trans rfl; have hcz18_10 : w17.cell? ⟨gb259, 10, none⟩ = some (.int .i64 a0_10) := (blk_cell BK259.out 10).trans rfl; have hfz18_0 := blk_frozen BK259.out 0; have hfz18_1 := blk_frozen BK259.out 1; have hfz18_2 := blk_frozen BK259.out 2; have hfz18_3 := blk_frozen BK259.out 3; have hfz18_4 := blk_frozen BK259.out 4; have hfz18_5 := blk_frozen BK259.out 5; have hfz18_6 := blk_frozen BK259.out 6; have hfz18_7 := blk_frozen BK259.out 7; have hfz18_8 := blk_frozen BK259.out 8; have hfz18_9 := blk_frozen BK259.out 9; have hfz18_10 := blk_frozen BK259.out 10) | (go_at_call 19; (with_reducible refine (impl_in.calls a0_1 1 4 true _ A4.out).mono ?_); rintro e w' ⟨rfl, ⟨nd, rfl⟩⟩) | (go_at_call 19; (with_reducible refine (impl_in.calls a0_2 1 4 true _ A6.out).mono ?_); rintro e w' ⟨rfl, ⟨nd, rfl⟩⟩) | (go_at_call 45; (with_reducible refine (impl_BrdOk.calls a0_3 a0_4 true _ A8.out).mono ?_); rintro e w19 ⟨rfl, hb⟩; have n0_ := Aside0.mk (blk_below (g := gb259) (o := .cells #[.string a0_0, .int .i64 a0_1, .int .i64 a0_2, .int .i64 a0_3, .int .i64 a0_4, .int .i64 a0_5, .int .i64 a0_6, .int .i64 a0_7, .int .i64 a0_8, .int .i64 a0_9, .int .i64 a0_10] 58 (0, 0)) (by (with_reducible repeat (first | refine blk_drewN ?_ _ | refine blk_drew ?_ | refine blk_alloc ?_ _)); exact BK259.out) hb); have n1_ := Aside0.mk (below_step (by repeat (first | (with_reducible first | exact HB.out | apply below_alloc | apply pw_below_drewN | apply below_drew1 | refine below_set ?_ GE259.out) | exact HB.out)) hb); clear BK259; clear HB; have BK259 := n0_; have HB := n1_; clear n0_ n1_; (try clear hb); (try clear hb2); (try clear hk); (try clear hi); have hcz20_0 : w19.cell? ⟨gb259, 0, none⟩ = some (.string a0_0) := (blk_cell BK259.out 0).trans rfl; have hcz20_1 : w19.cell? ⟨gb259, 1, none⟩ = some (.int .i64 a0_1) := (blk_cell BK259.out 1).trans rfl; have hcz20_2 : w19.cell? ⟨gb259, 2, none⟩ = some (.int .i64 a0_2) := (blk_cell BK259.out 2).trans rfl; have hcz20_3 : w19.cell? ⟨gb259, 3, none⟩ = some (.int .i64 a0_3) := (blk_cell BK259.out 3).trans rfl; have hcz20_4 : w19.cell? ⟨gb259, 4, none⟩ = some (.int .i64 a0_4) := (blk_cell BK259.out 4).trans rfl; have hcz20_5 : w19.cell? ⟨gb259, 5, none⟩ = some (.int .i64 a0_5) := (blk_cell BK259.out 5).trans rfl; have hcz20_6 : w19.cell? ⟨gb259, 6, none⟩ = some (.int .i64 a0_6) := (blk_cell BK259.out 6).trans rfl; have hcz20_7 : w19.cell? ⟨gb259, 7, none⟩ = some (.int .i64 a0_7) := (blk_cell BK259.out 7).trans rfl; have hcz20_8 : w19.cell? ⟨gb259, 8, none⟩ = some (.int .i64 a0_8) := (blk_cell BK259.out 8).trans rfl; have hcz20_9 : w19.cell? ⟨gb259, 9, none⟩ = some (.int .i64 a0_9) := (blk_cell BK259.out 9).trans rfl; have hcz20_10 : w19.cell? ⟨gb259, 10, none⟩ = some (.int .i64 a0_10) := (blk_cell BK259.out 10).trans rfl; have hfz20_0 := blk_frozen BK259.out 0; have hfz20_1 := blk_frozen BK259.out 1; have hfz20_2 := blk_frozen BK259.out 2; have hfz20_3 := blk_frozen BK259.out 3; have hfz20_4 := blk_frozen BK259.out 4; have hfz20_5 := blk_frozen BK259.out 5; have hfz20_6 := blk_frozen BK259.out 6; have hfz20_7 := blk_frozen BK259.out 7; have hfz20_8 := blk_frozen BK259.out 8; have hfz20_9 := blk_frozen BK259.out 9; have hfz20_10 := blk_frozen BK259.out 10) | (go_at_call 45; (with_reducible refine (impl_BrdOk.calls a0_5 a0_6 true _ A10.out).mono ?_); rintro e w21 ⟨rfl, hb⟩; have n0_ := Aside0.mk (blk_below (g := gb259) (o := .cells #[.string a0_0, .int .i64 a0_1, .int .i64 a0_2, .int .i64 a0_3, .int .i64 a0_4, .int .i64 a0_5, .int .i64 a0_6, .int .i64 a0_7, .int .i64 a0_8, .int .i64 a0_9, .int .i64 a0_10] 58 (0, 0)) (by (with_reducible repeat (first | refine blk_drewN ?_ _ | refine blk_drew ?_ | refine blk_alloc ?_ _)); exact BK259.out) hb); have n1_ := Aside0.mk (below_step (by repeat (first | (with_reducible first | exact HB.out | apply below_alloc | apply pw_below_drewN | apply below_drew1 | refine below_set ?_ GE259.out) | exact HB.out)) hb); clear BK259; clear HB; have BK259 := n0_; have HB := n1_; clear n0_ n1_; (try clear hb); (try clear hb2); (try clear hk); (try clear hi); have hcz22_0 : w21.cell? ⟨gb259, 0, none⟩ = some (.string a0_0) := (blk_cell BK259.out 0).trans rfl; have hcz22_1 : w21.cell? ⟨gb259, 1, none⟩ = some (.int .i64 a0_1) := (blk_cell BK259.out 1).trans rfl; have hcz22_2 : w21.cell? ⟨gb259, 2, none⟩ = some (.int .i64 a0_2) := (blk_cell BK259.out 2).trans rfl; have hcz22_3 : w21.cell? ⟨gb259, 3, none⟩ = some (.int .i64 a0_3) := (blk_cell BK259.out 3).trans rfl; have hcz22_4 : w21.cell? ⟨gb259, 4, none⟩ = some (.int .i64 a0_4) := (blk_cell BK259.out 4).trans rfl; have hcz22_5 : w21.cell? ⟨gb259, 5, none⟩ = some (.int .i64 a0_5) := (blk_cell BK259.out 5).trans rfl; have hcz22_6 : w21.cell? ⟨gb259, 6, none⟩ = some (.int .i64 a0_6) := (blk_cell BK259.out 6).trans rfl; have hcz22_7 : w21.cell? ⟨gb259, 7, none⟩ = some (.int .i64 a0_7) := (blk_cell BK259.out 7).trans rfl; have hcz22_8 : w21.cell? ⟨gb259, 8, none⟩ = some (.int .i64 a0_8) := (blk_cell BK259.out 8).trans rfl; have hcz22_9 : w21.cell? ⟨gb259, 9, none⟩ = some (.int .i64 a0_9) := (blk_cell BK259.out 9).trans rfl; have hcz22_10 : w21.cell? ⟨gb259, 10, none⟩ = some (.int .i64 a0_10) := (blk_cell BK259.out 10).trans rfl; have hfz22_0 := blk_frozen BK259.out 0; have hfz22_1 := blk_frozen BK259.out 1; have hfz22_2 := blk_frozen BK259.out 2; have hfz22_3 := blk_frozen BK259.out 3; have hfz22_4 := blk_frozen BK259.out 4; have hfz22_5 := blk_frozen BK259.out 5; have hfz22_6 := blk_frozen BK259.out 6; have hfz22_7 := blk_frozen BK259.out 7; have hfz22_8 := blk_frozen BK259.out 8; have hfz22_9 := blk_frozen BK259.out 9; have hfz22_10 := blk_frozen BK259.out 10) | (go_at_call 45; (with_reducible refine (impl_BrdOk.calls a0_7 a0_8 true _ A12.out).mono ?_); rintro e w23 ⟨rfl, hb⟩; have n0_ := Aside0.mk (blk_below (g := gb259) (o := .cells #[.string a0_0, .int .i64 a0_1, .int .i64 a0_2, .int .i64 a0_3, .int .i64 a0_4, .int .i64 a0_5, .int .i64 a0_6, .int .i64 a0_7, .int .i64 a0_8, .int .i64 a0_9, .int .i64 a0_10] 58 (0, 0)) (by (with_reducible repeat (first | refine blk_drewN ?_ _ | refine blk_drew ?_ | refine blk_alloc ?_ _)); exact BK259.out) hb); have n1_ := Aside0.mk (below_step (by repeat (first | (with_reducible first | exact HB.out | apply below_alloc | apply pw_below_drewN | apply below_drew1 | refine below_set ?_ GE259.out) | exact HB.out)) hb); clear BK259; clear HB; have BK259 := n0_; have HB := n1_; clear n0_ n1_; (try clear hb); (try clear hb2); (try clear hk); (try clear hi); have hcz24_0 : w23.cell? ⟨gb259, 0, none⟩ = some (.string a0_0) := (blk_cell BK259.out 0).trans rfl; have hcz24_1 : w23.cell? ⟨gb259, 1, none⟩ = some (.int .i64 a0_1) := (blk_cell BK259.out 1).trans rfl; have hcz24_2 : w23.cell? ⟨gb259, 2, none⟩ = some (.int .i64 a0_2) := (blk_cell BK259.out 2).trans rfl; have hcz24_3 : w23.cell? ⟨gb259, 3, none⟩ = some (.int .i64 a0_3) := (blk_cell BK259.out 3).trans rfl; have hcz24_4 : w23.cell? ⟨gb259, 4, none⟩ = some (.int .i64 a0_4) := (blk_cell BK259.out 4).trans rfl; have hcz24_5 : w23.cell? ⟨gb259, 5, none⟩ = some (.int .i64 a0_5) := (blk_cell BK259.out 5).trans rfl; have hcz24_6 : w23.cell? ⟨gb259, 6, none⟩ = some (.int .i64 a0_6) := (blk_cell BK259.out 6).trans rfl; have hcz24_7 : w23.cell? ⟨gb259, 7, none⟩ = some (.int .i64 a0_7) := (blk_cell BK259.out 7).trans rfl; have hcz24_8 : w23.cell? ⟨gb259, 8, none⟩ = some (.int .i64 a0_8) := (blk_cell BK259.out 8).trans rfl; have hcz24_9 : w23.cell? ⟨gb259, 9, none⟩ = some (.int .i64 a0_9) := (blk_cell BK259.out 9).trans rfl; have hcz24_10 : w23.cell? ⟨gb259, 10, none⟩ = some (.int .i64 a0_10) := (blk_cell BK259.out 10).trans rfl; have hfz24_0 := blk_frozen BK259.out 0; have hfz24_1 := blk_frozen BK259.out 1; have hfz24_2 := blk_frozen BK259.out 2; have hfz24_3 := blk_frozen BK259.out 3; have hfz24_4 := blk_frozen BK259.out 4; have hfz24_5 := blk_frozen BK259.out 5; have hfz24_6 := blk_frozen BK259.out 6; have hfz24_7 := blk_frozen BK259.out 7; have hfz24_8 := blk_frozen BK259.out 8; have hfz24_9 := blk_frozen BK259.out 9; have hfz24_10 := blk_frozen BK259.out 10) | (go_at_call 45; (with_reducible refine (impl_BrdOk.calls a0_9 a0_10 t266 _ A14.out).mono ?_); rintro e w25 ⟨rfl, hb⟩; have n0_ := Aside0.mk (blk_below (g := gb259) (o := .cells #[.string a0_0, .int .i64 a0_1, .int .i64 a0_2, .int .i64 a0_3, .int .i64 a0_4, .int .i64 a0_5, .int .i64 a0_6, .int .i64 a0_7, .int .i64 a0_8, .int .i64 a0_9, .int .i64 a0_10] 58 (0, 0)) (by (with_reducible repeat (first | refine blk_drewN ?_ _ | refine blk_drew ?_ | refine blk_alloc ?_ _)); exact BK259.out) hb); have n1_ := Aside0.mk (below_step (by repeat (first | (with_reducible first | exact HB.out | apply below_alloc | apply pw_below_drewN | apply below_drew1 | refine below_set ?_ GE259.out) | exact HB.out)) hb); clear BK259; clear HB; have BK259 := n0_; have HB := n1_; clear n0_ n1_; (try clear hb); (try clear hb2); (try clear hk); (try clear hi)))
              go_ret
              exact ⟨by first | rfl | (simp [IntKind.wrap_i64, wrap64]; done) | (simp [errW_none, errW_some] <;> rfl) | (simp [*, errW_none, errW_some] <;> rfl), by repeat (first | (with_reducible first | exact HB.out | apply below_alloc | apply pw_below_drewN | apply below_drew1 | refine below_set ?_ GE259.out) | exact HB.out)⟩
            · replace c13 := Bool.eq_false_iff.mpr c13
              subst c13
              have H1 : (some false) = some r := by rw [if_neg (show ¬ (false = true) by decide)] at H; exact H
              clear H
              have H := H1
              clear H1
              obtain rfl := Option.some.inj H
              go_enter Tryd.func30, Tryd.ntmps30
              go_wp2_with (first | ((with_reducible refine gate_dst (N := 1) rfl ?_); refine box_event ?hg (N := 1) ?hd (cs := #[.string a0_0, .int .i64 a0_1, .int .i64 a0_2, .int .i64 a0_3, .int .i64 a0_4, .int .i64 a0_5, .int .i64 a0_6, .int .i64 a0_7, .int .i64 a0_8, .int .i64 a0_9, .int .i64 a0_10]) (t := 58) ?hr ?_; (case hd => rfl); (case hg => rfl); (case hr => first | (go_simp; done) | (go_simp; rfl)); intro gb259 hg w26 hbox hb; have n0_ := Aside0.mk (below_step (by repeat (first | (with_reducible first | exact HB.out | apply below_alloc | apply pw_below_drewN | apply below_drew1) | exact HB.out)) hb); have n1_ := Aside0.mk (hbox); have n2_ := Aside0.mk ((by rw [hg]; exact (below_size (by repeat (first | (with_reducible first | exact HB.out | apply below_alloc | apply pw_below_drewN | apply below_drew1) | exact HB.out))) : w.heap.size ≤ gb259)); have n3_ := Aside0.mk ((by rw [hg]; exact (below_size (by repeat (first | (with_reducible first | exact HB.out | apply below_alloc | apply pw_below_drewN | apply below_drew1) | exact HB.out))) : w.heap.size ≤ gb259)); clear HB; have HB := n0_; have BK259 := n1_; have GW259 := n2_; have GE259 := n3_; clear n0_ n1_ n2_ n3_; clear hb hbox hg; have hcz27_0 : w26.cell? ⟨gb259, 0, none⟩ = some (.string a0_0) := (blk_cell BK259.out 0).trans rfl; have hcz27_1 : w26.cell? ⟨gb259, 1, none⟩ = some (.int .i64 a0_1) := (blk_cell BK259.out 1).trans rfl; have hcz27_2 : w26.cell? ⟨gb259, 2, none⟩ = some (.int .i64 a0_2) := (blk_cell BK259.out 2).trans rfl; have hcz27_3 : w26.cell? ⟨gb259, 3, none⟩ = some (.int .i64 a0_3) := (blk_cell BK259.out 3).trans rfl; have hcz27_4 : w26.cell? ⟨gb259, 4, none⟩ = some (.int .i64 a0_4) := (blk_cell BK259.out 4).trans rfl; have hcz27_5 : w26.cell? ⟨gb259, 5, none⟩ = some (.int .i64 a0_5) := (blk_cell BK259.out 5).trans rfl; have hcz27_6 : w26.cell? ⟨gb259, 6, none⟩ = some (.int .i64 a0_6) := (blk_cell BK259.out 6).trans rfl; have hcz27_7 : w26.cell? ⟨gb259, 7, none⟩ = some (.int .i64 a0_7) := (blk_cell BK259.out 7).trans rfl; have hcz27_8 : w26.cell? ⟨gb259, 8, none⟩ = some (.int .i64 a0_8) := (blk_cell BK259.out 8).trans rfl; have hcz27_9 : w26.cell? ⟨gb259, 9, none⟩ = some (.int .i64 a0_9) := (blk_cell BK259.out 9).trans rfl; have hcz27_10 : w26.cell? ⟨gb259, 10, none⟩ = some (.int .i64 a0_10) := (blk_cell BK259.out 10).trans rfl; have hfz27_0 := blk_frozen BK259.out 0; have hfz27_1 := blk_frozen BK259.out 1; have hfz27_2 := blk_frozen BK259.out 2; have hfz27_3 := blk_frozen BK259.out 3; have hfz27_4 := blk_frozen BK259.out 4; have hfz27_5 := blk_frozen BK259.out 5; have hfz27_6 := blk_frozen BK259.out 6; have hfz27_7 := blk_frozen BK259.out 7; have hfz27_8 := blk_frozen BK259.out 8; have hfz27_9 := blk_frozen BK259.out 9; have hfz27_10 := blk_frozen BK259.out 10) | ((with_reducible refine gate_callee (f := 25) rfl ?_); refine goesL_ (some 5) rfl rfl Tryd.func25 (by kernel_rfl) rfl #[.string a0_0] rfl (by (try simp only [List.map_toArray, List.map_cons, List.map_nil]); first | done | rfl | (simp only [List.length_drop, List.length_take]; rfl)) ?_; (with_reducible refine (impl_TxtOk.calls a0_0 true _ ?sideM A2.out).mono ?_); (case sideM => repeat (first | exact HM.out | exact (Txt.MLen_below HM.out HB.out) | (with_reducible refine Txt.MLen_alloc ?_ _) | (with_reducible refine Txt.MLen_drewN ?_ _) | (with_reducible refine Txt.MLen_drew ?_))); rintro e w28 ⟨rfl, hb⟩; refine ⟨_, rfl, ?_⟩; have n0_ := Aside0.mk (blk_below (g := gb259) (o := .cells #[.string a0_0, .int .i64 a0_1, .int .i64 a0_2, .int .i64 a0_3, .int .i64 a0_4, .int .i64 a0_5, .int .i64 a0_6, .int .i64 a0_7, .int .i64 a0_8, .int .i64 a0_9, .int .i64 a0_10] 58 (0, 0)) (by (with_reducible repeat (first | refine blk_drewN ?_ _ | refine blk_drew ?_ | refine blk_alloc ?_ _)); exact BK259.out) hb); have n1_ := Aside0.mk (below_step (by repeat (first | (with_reducible first | exact HB.out | apply below_alloc | apply pw_below_drewN | apply below_drew1 | refine below_set ?_ GE259.out) | exact HB.out)) hb); clear BK259; clear HB; have BK259 := n0_; have HB := n1_; clear n0_ n1_; (try clear hb); (try clear hb2); (try clear hk); (try clear hi); have hcz29_0 : w28.cell? ⟨gb259, 0, none⟩ = some (.string a0_0) := (blk_cell BK259.out 0).trans rfl; have hcz29_1 : w28.cell? ⟨gb259, 1, none⟩ = some (.int .i64 a0_1) := (blk_cell BK259.out 1).trans rfl; have hcz29_2 : w28.cell? ⟨gb259, 2, none⟩ = some (.int .i64 a0_2) := (blk_cell BK259.out 2).trans rfl; have hcz29_3 : w28.cell? ⟨gb259, 3, none⟩ = some (.int .i64 a0_3) := (blk_cell BK259.out 3).trans rfl; have hcz29_4 : w28.cell? ⟨gb259, 4, none⟩ = some (.int .i64 a0_4) := (blk_cell BK259.out 4).trans rfl; have hcz29_5 : w28.cell? ⟨gb259, 5, none⟩ = some (.int .i64 a0_5) := (blk_cell BK259.out 5).trans rfl; have hcz29_6 : w28.cell? ⟨gb259, 6, none⟩ = some (.int .i64 a0_6) := (blk_cell BK259.out 6).trans rfl; have hcz29_7 : w28.cell? ⟨gb259, 7, none⟩ = some (.int .i64 a0_7) := (blk_cell BK259.out 7).trans rfl; have hcz29_8 : w28.cell? ⟨gb259, 8, none⟩ = some (.int .i64 a0_8) := (blk_cell BK259.out 8).trans rfl; have hcz29_9 : w28.cell? ⟨gb259, 9, none⟩ = some (.int .i64 a0_9) := (blk_cell BK259.out 9).trans rfl; have hcz29_10 : w28.cell? ⟨gb259, 10, none⟩ = some (.int .i64 a0_10) := (blk_cell BK259.out 10).trans rfl; have hfz29_0 := blk_frozen BK259.out 0; have hfz29_1 := blk_frozen BK259.out 1; have hfz29_2 := blk_frozen BK259.out 2; have hfz29_3 := blk_frozen BK259.out 3; have hfz29_4 := blk_frozen BK259.out 4; have hfz29_5 := blk_frozen BK259.out 5; have hfz29_6 := blk_frozen BK259.out 6; have hfz29_7 := blk_frozen BK259.out 7; have hfz29_8 := blk_frozen BK259.out 8; have hfz29_9 := blk_frozen BK259.out 9; have hfz29_10 := blk_frozen BK259.out 10) | (go_at_call 19; (with_reducible refine (impl_in.calls a0_1 1 4 true _ A4.out).mono ?_); rintro e w' ⟨rfl, ⟨nd, rfl⟩⟩) | (go_at_call 19; (with_reducible refine (impl_in.calls a0_2 1 4 true _ A6.out).mono ?_); rintro e w' ⟨rfl, ⟨nd, rfl⟩⟩) | (go_at_call 45; (with_reducible refine (impl_BrdOk.calls a0_3 a0_4 true _ A8.out).mono ?_); rintro e w30 ⟨rfl, hb⟩; have n0_ := Aside0.mk (blk_below (g := gb259) (o := .cells #[.string a0_0, .int .i64 a0_1, .int .i64 a0_2, .int .i64 a0_3, .int .i64 a0_4, .int .i64 a0_5, .int .i64 a0_6, .int .i64 a0_7, .int .i64 a0_8, .int .i64 a0_9, .int .i64 a0_10] 58 (0, 0)) (by (with_reducible repeat (first | refine blk_drewN ?_ _ | refine blk_drew ?_ | refine blk_alloc ?_ _)); exact BK259.out) hb); have n1_ := Aside0.mk (below_step (by repeat (first | (with_reducible first | exact HB.out | apply below_alloc | apply pw_below_drewN | apply below_drew1 | refine below_set ?_ GE259.out) | exact HB.out)) hb); clear BK259; clear HB; have BK259 := n0_; have HB := n1_; clear n0_ n1_; (try clear hb); (try clear hb2); (try clear hk); (try clear hi); have hcz31_0 : w30.cell? ⟨gb259, 0, none⟩ = some (.string a0_0) := (blk_cell BK259.out 0).trans rfl; have hcz31_1 : w30.cell? ⟨gb259, 1, none⟩ = some (.int .i64 a0_1) := (blk_cell BK259.out 1).trans rfl; have hcz31_2 : w30.cell? ⟨gb259, 2, none⟩ = some (.int .i64 a0_2) := (blk_cell BK259.out 2).trans rfl; have hcz31_3 : w30.cell? ⟨gb259, 3, none⟩ = some (.int .i64 a0_3) := (blk_cell BK259.out 3).trans rfl; have hcz31_4 : w30.cell? ⟨gb259, 4, none⟩ = some (.int .i64 a0_4) := (blk_cell BK259.out 4).trans rfl; have hcz31_5 : w30.cell? ⟨gb259, 5, none⟩ = some (.int .i64 a0_5) := (blk_cell BK259.out 5).trans rfl; have hcz31_6 : w30.cell? ⟨gb259, 6, none⟩ = some (.int .i64 a0_6) := (blk_cell BK259.out 6).trans rfl; have hcz31_7 : w30.cell? ⟨gb259, 7, none⟩ = some (.int .i64 a0_7) := (blk_cell BK259.out 7).trans rfl; have hcz31_8 : w30.cell? ⟨gb259, 8, none⟩ = some (.int .i64 a0_8) := (blk_cell BK259.out 8).trans rfl; have hcz31_9 : w30.cell? ⟨gb259, 9, none⟩ = some (.int .i64 a0_9) := (blk_cell BK259.out 9).trans rfl; have hcz31_10 : w30.cell? ⟨gb259, 10, none⟩ = some (.int .i64 a0_10) := (blk_cell BK259.out 10).trans rfl; have hfz31_0 := blk_frozen BK259.out 0; have hfz31_1 := blk_frozen BK259.out 1; have hfz31_2 := blk_frozen BK259.out 2; have hfz31_3 := blk_frozen BK259.out 3; have hfz31_4 := blk_frozen BK259.out 4; have hfz31_5 := blk_frozen BK259.out 5; have hfz31_6 := blk_frozen BK259.out 6; have hfz31_7 := blk_frozen BK259.out 7; have hfz31_8 := blk_frozen BK259.out 8; have hfz31_9 := blk_frozen BK259.out 9; have hfz31_10 := blk_frozen BK259.out 10) | (go_at_call 45; (with_reducible refine (impl_BrdOk.calls a0_5 a0_6 true _ A10.out).mono ?_); rintro e w32 ⟨rfl, hb⟩; have n0_ := Aside0.mk (blk_below (g := gb259) (o := .cells #[.string a0_0, .int .i64 a0_1, .int .i64 a0_2, .int .i64 a0_3, .int .i64 a0_4, .int .i64 a0_5, .int .i64 a0_6, .int .i64 a0_7, .int .i64 a0_8, .int .i64 a0_9, .int .i64 a0_10] 58 (0, 0)) (by (with_reducible repeat (first | refine blk_drewN ?_ _ | refine blk_drew ?_ | refine blk_alloc ?_ _)); exact BK259.out) hb); have n1_ := Aside0.mk (below_step (by repeat (first | (with_reducible first | exact HB.out | apply below_alloc | apply pw_below_drewN | apply below_drew1 | refine below_set ?_ GE259.out) | exact HB.out)) hb); clear BK259; clear HB; have BK259 := n0_; have HB := n1_; clear n0_ n1_; (try clear hb); (try clear hb2); (try clear hk); (try clear hi); have hcz33_0 : w32.cell? ⟨gb259, 0, none⟩ = some (.string a0_0) := (blk_cell BK259.out 0).trans rfl; have hcz33_1 : w32.cell? ⟨gb259, 1, none⟩ = some (.int .i64 a0_1) := (blk_cell BK259.out 1).trans rfl; have hcz33_2 : w32.cell? ⟨gb259, 2, none⟩ = some (.int .i64 a0_2) := (blk_cell BK259.out 2).trans rfl; have hcz33_3 : w32.cell? ⟨gb259, 3, none⟩ = some (.int .i64 a0_3) := (blk_cell BK259.out 3).trans rfl; have hcz33_4 : w32.cell? ⟨gb259, 4, none⟩ = some (.int .i64 a0_4) := (blk_cell BK259.out 4).trans rfl; have hcz33_5 : w32.cell? ⟨gb259, 5, none⟩ = some (.int .i64 a0_5) := (blk_cell BK259.out 5).trans rfl; have hcz33_6 : w32.cell? ⟨gb259, 6, none⟩ = some (.int .i64 a0_6) := (blk_cell BK259.out 6).trans rfl; have hcz33_7 : w32.cell? ⟨gb259, 7, none⟩ = some (.int .i64 a0_7) := (blk_cell BK259.out 7).trans rfl; have hcz33_8 : w32.cell? ⟨gb259, 8, none⟩ = some (.int .i64 a0_8) := (blk_cell BK259.out 8).trans rfl; have hcz33_9 : w32.cell? ⟨gb259, 9, none⟩ = some (.int .i64 a0_9) := (blk_cell BK259.out 9).trans rfl; have hcz33_10 : w32.cell? ⟨gb259, 10, none⟩ = some (.int .i64 a0_10) := (blk_cell BK259.out 10).trans rfl; have hfz33_0 := blk_frozen BK259.out 0; have hfz33_1 := blk_frozen BK259.out 1; have hfz33_2 := blk_frozen BK259.out 2; have hfz33_3 := blk_frozen BK259.out 3; have hfz33_4 := blk_frozen BK259.out 4; have hfz33_5 := blk_frozen BK259.out 5; have hfz33_6 := blk_frozen BK259.out 6; have hfz33_7 := blk_frozen BK259.out 7; have hfz33_8 := blk_frozen BK259.out 8; have hfz33_9 := blk_frozen BK259.out 9; have hfz33_10 := blk_frozen BK259.out 10) | (go_at_call 45; (with_reducible refine (impl_BrdOk.calls a0_7 a0_8 false _ A12.out).mono ?_); rintro e w34 ⟨rfl, hb⟩; have n0_ := Aside0.mk (blk_below (g := gb259) (o := .cells #[.string a0_0, .int .i64 a0_1, .int .i64 a0_2, .int .i64 a0_3, .int .i64 a0_4, .int .i64 a0_5, .int .i64 a0_6, .int .i64 a0_7, .int .i64 a0_8, .int .i64 a0_9, .int .i64 a0_10] 58 (0, 0)) (by (with_reducible repeat (first | refine blk_drewN ?_ _ | refine blk_drew ?_ | refine blk_alloc ?_ _)); exact BK259.out) hb); have n1_ := Aside0.mk (below_step (by repeat (first | (with_reducible first | exact HB.out | apply below_alloc | apply pw_below_drewN | apply below_drew1 | refine below_set ?_ GE259.out) | exact HB.out)) hb); clear BK259; clear HB; have BK259 := n0_; have HB := n1_; clear n0_ n1_; (try clear hb); (try clear hb2); (try clear hk); (try clear hi)))
              go_ret
              exact ⟨by first | rfl | (simp [IntKind.wrap_i64, wrap64]; done) | (simp [errW_none, errW_some] <;> rfl) | (simp [*, errW_none, errW_some] <;> rfl), by repeat (first | (with_reducible first | exact HB.out | apply below_alloc | apply pw_below_drewN | apply below_drew1 | refine below_set ?_ GE259.out) | exact HB.out)⟩
          · replace c11 := Bool.eq_false_iff.mpr c11
            subst c11
            have H1 : (some false) = some r := by rw [if_neg (show ¬ (false = true) by decide)] at H; exact H
            clear H
            have H := H1
            clear H1
            obtain rfl := Option.some.inj H
            go_enter Tryd.func30, Tryd.ntmps30
            go_wp2_with (first | ((with_reducible refine gate_dst (N := 1) rfl ?_); refine box_event ?hg (N := 1) ?hd (cs := #[.string a0_0, .int .i64 a0_1, .int .i64 a0_2, .int .i64 a0_3, .int .i64 a0_4, .int .i64 a0_5, .int .i64 a0_6, .int .i64 a0_7, .int .i64 a0_8, .int .i64 a0_9, .int .i64 a0_10]) (t := 58) ?hr ?_; (case hd => rfl); (case hg => rfl); (case hr => first | (go_simp; done) | (go_simp; rfl)); intro gb259 hg w35 hbox hb; have n0_ := Aside0.mk (below_step (by repeat (first | (with_reducible first | exact HB.out | apply below_alloc | apply pw_below_drewN | apply below_drew1) | exact HB.out)) hb); have n1_ := Aside0.mk (hbox); have n2_ := Aside0.mk ((by rw [hg]; exact (below_size (by repeat (first | (with_reducible first | exact HB.out | apply below_alloc | apply pw_below_drewN | apply below_drew1) | exact HB.out))) : w.heap.size ≤ gb259)); have n3_ := Aside0.mk ((by rw [hg]; exact (below_size (by repeat (first | (with_reducible first | exact HB.out | apply below_alloc | apply pw_below_drewN | apply below_drew1) | exact HB.out))) : w.heap.size ≤ gb259)); clear HB; have HB := n0_; have BK259 := n1_; have GW259 := n2_; have GE259 := n3_; clear n0_ n1_ n2_ n3_; clear hb hbox hg; have hcz36_0 : w35.cell? ⟨gb259, 0, none⟩ = some (.string a0_0) := (blk_cell BK259.out 0).trans rfl; have hcz36_1 : w35.cell? ⟨gb259, 1, none⟩ = some (.int .i64 a0_1) := (blk_cell BK259.out 1).trans rfl; have hcz36_2 : w35.cell? ⟨gb259, 2, none⟩ = some (.int .i64 a0_2) := (blk_cell BK259.out 2).trans rfl; have hcz36_3 : w35.cell? ⟨gb259, 3, none⟩ = some (.int .i64 a0_3) := (blk_cell BK259.out 3).trans rfl; have hcz36_4 : w35.cell? ⟨gb259, 4, none⟩ = some (.int .i64 a0_4) := (blk_cell BK259.out 4).trans rfl; have hcz36_5 : w35.cell? ⟨gb259, 5, none⟩ = some (.int .i64 a0_5) := (blk_cell BK259.out 5).trans rfl; have hcz36_6 : w35.cell? ⟨gb259, 6, none⟩ = some (.int .i64 a0_6) := (blk_cell BK259.out 6).trans rfl; have hcz36_7 : w35.cell? ⟨gb259, 7, none⟩ = some (.int .i64 a0_7) := (blk_cell BK259.out 7).trans rfl; have hcz36_8 : w35.cell? ⟨gb259, 8, none⟩ = some (.int .i64 a0_8) := (blk_cell BK259.out 8).trans rfl; have hcz36_9 : w35.cell? ⟨gb259, 9, none⟩ = some (.int .i64 a0_9) := (blk_cell BK259.out 9).trans rfl; have hcz36_10 : w35.cell? ⟨gb259, 10, none⟩ = some (.int .i64 a0_10) := (blk_cell BK259.out 10).trans rfl; have hfz36_0 := blk_frozen BK259.out 0; have hfz36_1 := blk_frozen BK259.out 1; have hfz36_2 := blk_frozen BK259.out 2; have hfz36_3 := blk_frozen BK259.out 3; have hfz36_4 := blk_frozen BK259.out 4; have hfz36_5 := blk_frozen BK259.out 5; have hfz36_6 := blk_frozen BK259.out 6; have hfz36_7 := blk_frozen BK259.out 7; have hfz36_8 := blk_frozen BK259.out 8; have hfz36_9 := blk_frozen BK259.out 9; have hfz36_10 := blk_frozen BK259.out 10) | ((with_reducible refine gate_callee (f := 25) rfl ?_); refine goesL_ (some 5) rfl rfl Tryd.func25 (by kernel_rfl) rfl #[.string a0_0] rfl (by (try simp only [List.map_toArray, List.map_cons, List.map_nil]); first | done | rfl | (simp only [List.length_drop, List.length_take]; rfl)) ?_; (with_reducible refine (impl_TxtOk.calls a0_0 true _ ?sideM A2.out).mono ?_); (case sideM => repeat (first | exact HM.out | exact (Txt.MLen_below HM.out HB.out) | (with_reducible refine Txt.MLen_alloc ?_ _) | (with_reducible refine Txt.MLen_drewN ?_ _) | (with_reducible refine Txt.MLen_drew ?_))); rintro e w37 ⟨rfl, hb⟩; refine ⟨_, rfl, ?_⟩; have n0_ := Aside0.mk (blk_below (g := gb259) (o := .cells #[.string a0_0, .int .i64 a0_1, .int .i64 a0_2, .int .i64 a0_3, .int .i64 a0_4, .int .i64 a0_5, .int .i64 a0_6, .int .i64 a0_7, .int .i64 a0_8, .int .i64 a0_9, .int .i64 a0_10] 58 (0, 0)) (by (with_reducible repeat (first | refine blk_drewN ?_ _ | refine blk_drew ?_ | refine blk_alloc ?_ _)); exact BK259.out) hb); have n1_ := Aside0.mk (below_step (by repeat (first | (with_reducible first | exact HB.out | apply below_alloc | apply pw_below_drewN | apply below_drew1 | refine below_set ?_ GE259.out) | exact HB.out)) hb); clear BK259; clear HB; have BK259 := n0_; have HB := n1_; clear n0_ n1_; (try clear hb); (try clear hb2); (try clear hk); (try clear hi); have hcz38_0 : w37.cell? ⟨gb259, 0, none⟩ = some (.string a0_0) := (blk_cell BK259.out 0).trans rfl; have hcz38_1 : w37.cell? ⟨gb259, 1, none⟩ = some (.int .i64 a0_1) := (blk_cell BK259.out 1).trans rfl; have hcz38_2 : w37.cell? ⟨gb259, 2, none⟩ = some (.int .i64 a0_2) := (blk_cell BK259.out 2).trans rfl; have hcz38_3 : w37.cell? ⟨gb259, 3, none⟩ = some (.int .i64 a0_3) := (blk_cell BK259.out 3).trans rfl; have hcz38_4 : w37.cell? ⟨gb259, 4, none⟩ = some (.int .i64 a0_4) := (blk_cell BK259.out 4).trans rfl; have hcz38_5 : w37.cell? ⟨gb259, 5, none⟩ = some (.int .i64 a0_5) := (blk_cell BK259.out 5).trans rfl; have hcz38_6 : w37.cell? ⟨gb259, 6, none⟩ = some (.int .i64 a0_6) := (blk_cell BK259.out 6).trans rfl; have hcz38_7 : w37.cell? ⟨gb259, 7, none⟩ = some (.int .i64 a0_7) := (blk_cell BK259.out 7).trans rfl; have hcz38_8 : w37.cell? ⟨gb259, 8, none⟩ = some (.int .i64 a0_8) := (blk_cell BK259.out 8).trans rfl; have hcz38_9 : w37.cell? ⟨gb259, 9, none⟩ = some (.int .i64 a0_9) := (blk_cell BK259.out 9).trans rfl; have hcz38_10 : w37.cell? ⟨gb259, 10, none⟩ = some (.int .i64 a0_10) := (blk_cell BK259.out 10).trans rfl; have hfz38_0 := blk_frozen BK259.out 0; have hfz38_1 := blk_frozen BK259.out 1; have hfz38_2 := blk_frozen BK259.out 2; have hfz38_3 := blk_frozen BK259.out 3; have hfz38_4 := blk_frozen BK259.out 4; have hfz38_5 := blk_frozen BK259.out 5; have hfz38_6 := blk_frozen BK259.out 6; have hfz38_7 := blk_frozen BK259.out 7; have hfz38_8 := blk_frozen BK259.out 8; have hfz38_9 := blk_frozen BK259.out 9; have hfz38_10 := blk_frozen BK259.out 10) | (go_at_call 19; (with_reducible refine (impl_in.calls a0_1 1 4 true _ A4.out).mono ?_); rintro e w' ⟨rfl, ⟨nd, rfl⟩⟩) | (go_at_call 19; (with_reducible refine (impl_in.calls a0_2 1 4 true _ A6.out).mono ?_); rintro e w' ⟨rfl, ⟨nd, rfl⟩⟩) | (go_at_call 45; (with_reducible refine (impl_BrdOk.calls a0_3 a0_4 true _ A8.out).mono ?_); rintro e w39 ⟨rfl, hb⟩; have n0_ := Aside0.mk (blk_below (g := gb259) (o := .cells #[.string a0_0, .int .i64 a0_1, .int .i64 a0_2, .int .i64 a0_3, .int .i64 a0_4, .int .i64 a0_5, .int .i64 a0_6, .int .i64 a0_7, .int .i64 a0_8, .int .i64 a0_9, .int .i64 a0_10] 58 (0, 0)) (by (with_reducible repeat (first | refine blk_drewN ?_ _ | refine blk_drew ?_ | refine blk_alloc ?_ _)); exact BK259.out) hb); have n1_ := Aside0.mk (below_step (by repeat (first | (with_reducible first | exact HB.out | apply below_alloc | apply pw_below_drewN | apply below_drew1 | refine below_set ?_ GE259.out) | exact HB.out)) hb); clear BK259; clear HB; have BK259 := n0_; have HB := n1_; clear n0_ n1_; (try clear hb); (try clear hb2); (try clear hk); (try clear hi); have hcz40_0 : w39.cell? ⟨gb259, 0, none⟩ = some (.string a0_0) := (blk_cell BK259.out 0).trans rfl; have hcz40_1 : w39.cell? ⟨gb259, 1, none⟩ = some (.int .i64 a0_1) := (blk_cell BK259.out 1).trans rfl; have hcz40_2 : w39.cell? ⟨gb259, 2, none⟩ = some (.int .i64 a0_2) := (blk_cell BK259.out 2).trans rfl; have hcz40_3 : w39.cell? ⟨gb259, 3, none⟩ = some (.int .i64 a0_3) := (blk_cell BK259.out 3).trans rfl; have hcz40_4 : w39.cell? ⟨gb259, 4, none⟩ = some (.int .i64 a0_4) := (blk_cell BK259.out 4).trans rfl; have hcz40_5 : w39.cell? ⟨gb259, 5, none⟩ = some (.int .i64 a0_5) := (blk_cell BK259.out 5).trans rfl; have hcz40_6 : w39.cell? ⟨gb259, 6, none⟩ = some (.int .i64 a0_6) := (blk_cell BK259.out 6).trans rfl; have hcz40_7 : w39.cell? ⟨gb259, 7, none⟩ = some (.int .i64 a0_7) := (blk_cell BK259.out 7).trans rfl; have hcz40_8 : w39.cell? ⟨gb259, 8, none⟩ = some (.int .i64 a0_8) := (blk_cell BK259.out 8).trans rfl; have hcz40_9 : w39.cell? ⟨gb259, 9, none⟩ = some (.int .i64 a0_9) := (blk_cell BK259.out 9).trans rfl; have hcz40_10 : w39.cell? ⟨gb259, 10, none⟩ = some (.int .i64 a0_10) := (blk_cell BK259.out 10).trans rfl; have hfz40_0 := blk_frozen BK259.out 0; have hfz40_1 := blk_frozen BK259.out 1; have hfz40_2 := blk_frozen BK259.out 2; have hfz40_3 := blk_frozen BK259.out 3; have hfz40_4 := blk_frozen BK259.out 4; have hfz40_5 := blk_frozen BK259.out 5; have hfz40_6 := blk_frozen BK259.out 6; have hfz40_7 := blk_frozen BK259.out 7; have hfz40_8 := blk_frozen BK259.out 8; have hfz40_9 := blk_frozen BK259.out 9; have hfz40_10 := blk_frozen BK259.out 10) | (go_at_call 45; (with_reducible refine (impl_BrdOk.calls a0_5 a0_6 false _ A10.out).mono ?_); rintro e w41 ⟨rfl, hb⟩; have n0_ := Aside0.mk (blk_below (g := gb259) (o := .cells #[.string a0_0, .int .i64 a0_1, .int .i64 a0_2, .int .i64 a0_3, .int .i64 a0_4, .int .i64 a0_5, .int .i64 a0_6, .int .i64 a0_7, .int .i64 a0_8, .int .i64 a0_9, .int .i64 a0_10] 58 (0, 0)) (by (with_reducible repeat (first | refine blk_drewN ?_ _ | refine blk_drew ?_ | refine blk_alloc ?_ _)); exact BK259.out) hb); have n1_ := Aside0.mk (below_step (by repeat (first | (with_reducible first | exact HB.out | apply below_alloc | apply pw_below_drewN | apply below_drew1 | refine below_set ?_ GE259.out) | exact HB.out)) hb); clear BK259; clear HB; have BK259 := n0_; have HB := n1_; clear n0_ n1_; (try clear hb); (try clear hb2); (try clear hk); (try clear hi)))
            go_ret
            exact ⟨by first | rfl | (simp [IntKind.wrap_i64, wrap64]; done) | (simp [errW_none, errW_some] <;> rfl) | (simp [*, errW_none, errW_some] <;> rfl), by repeat (first | (with_reducible first | exact HB.out | apply below_alloc | apply pw_below_drewN | apply below_drew1 | refine below_set ?_ GE259.out) | exact HB.out)⟩
        · replace c9 := Bool.eq_false_iff.mpr c9
          subst c9
          have H1 : (some false) = some r := by rw [if_neg (show ¬ (false = true) by decide)] at H; exact H
          clear H
          have H := H1
          clear H1
          obtain rfl := Option.some.inj H
          go_enter Tryd.func30, Tryd.ntmps30
          go_wp2_with (first | ((with_reducible refine gate_dst (N := 1) rfl ?_); refine box_event ?hg (N := 1) ?hd (cs := #[.string a0_0, .int .i64 a0_1, .int .i64 a0_2, .int .i64 a0_3, .int .i64 a0_4, .int .i64 a0_5, .int .i64 a0_6, .int .i64 a0_7, .int .i64 a0_8, .int .i64 a0_9, .int .i64 a0_10]) (t := 58) ?hr ?_; (case hd => rfl); (case hg => rfl); (case hr => first | (go_simp; done) | (go_simp; rfl)); intro gb259 hg w42 hbox hb; have n0_ := Aside0.mk (below_step (by repeat (first | (with_reducible first | exact HB.out | apply below_alloc | apply pw_below_drewN | apply below_drew1) | exact HB.out)) hb); have n1_ := Aside0.mk (hbox); have n2_ := Aside0.mk ((by rw [hg]; exact (below_size (by repeat (first | (with_reducible first | exact HB.out | apply below_alloc | apply pw_below_drewN | apply below_drew1) | exact HB.out))) : w.heap.size ≤ gb259)); have n3_ := Aside0.mk ((by rw [hg]; exact (below_size (by repeat (first | (with_reducible first | exact HB.out | apply below_alloc | apply pw_below_drewN | apply below_drew1) | exact HB.out))) : w.heap.size ≤ gb259)); clear HB; have HB := n0_; have BK259 := n1_; have GW259 := n2_; have GE259 := n3_; clear n0_ n1_ n2_ n3_; clear hb hbox hg; have hcz43_0 : w42.cell? ⟨gb259, 0, none⟩ = some (.string a0_0) := (blk_cell BK259.out 0).trans rfl; have hcz43_1 : w42.cell? ⟨gb259, 1, none⟩ = some (.int .i64 a0_1) := (blk_cell BK259.out 1).trans rfl; have hcz43_2 : w42.cell? ⟨gb259, 2, none⟩ = some (.int .i64 a0_2) := (blk_cell BK259.out 2).trans rfl; have hcz43_3 : w42.cell? ⟨gb259, 3, none⟩ = some (.int .i64 a0_3) := (blk_cell BK259.out 3).trans rfl; have hcz43_4 : w42.cell? ⟨gb259, 4, none⟩ = some (.int .i64 a0_4) := (blk_cell BK259.out 4).trans rfl; have hcz43_5 : w42.cell? ⟨gb259, 5, none⟩ = some (.int .i64 a0_5) := (blk_cell BK259.out 5).trans rfl; have hcz43_6 : w42.cell? ⟨gb259, 6, none⟩ = some (.int .i64 a0_6) := (blk_cell BK259.out 6).trans rfl; have hcz43_7 : w42.cell? ⟨gb259, 7, none⟩ = some (.int .i64 a0_7) := (blk_cell BK259.out 7).trans rfl; have hcz43_8 : w42.cell? ⟨gb259, 8, none⟩ = some (.int .i64 a0_8) := (blk_cell BK259.out 8).trans rfl; have hcz43_9 : w42.cell? ⟨gb259, 9, none⟩ = some (.int .i64 a0_9) := (blk_cell BK259.out 9).trans rfl; have hcz43_10 : w42.cell? ⟨gb259, 10, none⟩ = some (.int .i64 a0_10) := (blk_cell BK259.out 10).trans rfl; have hfz43_0 := blk_frozen BK259.out 0; have hfz43_1 := blk_frozen BK259.out 1; have hfz43_2 := blk_frozen BK259.out 2; have hfz43_3 := blk_frozen BK259.out 3; have hfz43_4 := blk_frozen BK259.out 4; have hfz43_5 := blk_frozen BK259.out 5; have hfz43_6 := blk_frozen BK259.out 6; have hfz43_7 := blk_frozen BK259.out 7; have hfz43_8 := blk_frozen BK259.out 8; have hfz43_9 := blk_frozen BK259.out 9; have hfz43_10 := blk_frozen BK259.out 10) | ((with_reducible refine gate_callee (f := 25) rfl ?_); refine goesL_ (some 5) rfl rfl Tryd.func25 (by kernel_rfl) rfl #[.string a0_0] rfl (by (try simp only [List.map_toArray, List.map_cons, List.map_nil]); first | done | rfl | (simp only [List.length_drop, List.length_take]; rfl)) ?_; (with_reducible refine (impl_TxtOk.calls a0_0 true _ ?sideM A2.out).mono ?_); (case sideM => repeat (first | exact HM.out | exact (Txt.MLen_below HM.out HB.out) | (with_reducible refine Txt.MLen_alloc ?_ _) | (with_reducible refine Txt.MLen_drewN ?_ _) | (with_reducible refine Txt.MLen_drew ?_))); rintro e w44 ⟨rfl, hb⟩; refine ⟨_, rfl, ?_⟩; have n0_ := Aside0.mk (blk_below (g := gb259) (o := .cells #[.string a0_0, .int .i64 a0_1, .int .i64 a0_2, .int .i64 a0_3, .int .i64 a0_4, .int .i64 a0_5, .int .i64 a0_6, .int .i64 a0_7, .int .i64 a0_8, .int .i64 a0_9, .int .i64 a0_10] 58 (0, 0)) (by (with_reducible repeat (first | refine blk_drewN ?_ _ | refine blk_drew ?_ | refine blk_alloc ?_ _)); exact BK259.out) hb); have n1_ := Aside0.mk (below_step (by repeat (first | (with_reducible first | exact HB.out | apply below_alloc | apply pw_below_drewN | apply below_drew1 | refine below_set ?_ GE259.out) | exact HB.out)) hb); clear BK259; clear HB; have BK259 := n0_; have HB := n1_; clear n0_ n1_; (try clear hb); (try clear hb2); (try clear hk); (try clear hi); have hcz45_0 : w44.cell? ⟨gb259, 0, none⟩ = some (.string a0_0) := (blk_cell BK259.out 0).trans rfl; have hcz45_1 : w44.cell? ⟨gb259, 1, none⟩ = some (.int .i64 a0_1) := (blk_cell BK259.out 1).trans rfl; have hcz45_2 : w44.cell? ⟨gb259, 2, none⟩ = some (.int .i64 a0_2) := (blk_cell BK259.out 2).trans rfl; have hcz45_3 : w44.cell? ⟨gb259, 3, none⟩ = some (.int .i64 a0_3) := (blk_cell BK259.out 3).trans rfl; have hcz45_4 : w44.cell? ⟨gb259, 4, none⟩ = some (.int .i64 a0_4) := (blk_cell BK259.out 4).trans rfl; have hcz45_5 : w44.cell? ⟨gb259, 5, none⟩ = some (.int .i64 a0_5) := (blk_cell BK259.out 5).trans rfl; have hcz45_6 : w44.cell? ⟨gb259, 6, none⟩ = some (.int .i64 a0_6) := (blk_cell BK259.out 6).trans rfl; have hcz45_7 : w44.cell? ⟨gb259, 7, none⟩ = some (.int .i64 a0_7) := (blk_cell BK259.out 7).trans rfl; have hcz45_8 : w44.cell? ⟨gb259, 8, none⟩ = some (.int .i64 a0_8) := (blk_cell BK259.out 8).trans rfl; have hcz45_9 : w44.cell? ⟨gb259, 9, none⟩ = some (.int .i64 a0_9) := (blk_cell BK259.out 9).trans rfl; have hcz45_10 : w44.cell? ⟨gb259, 10, none⟩ = some (.int .i64 a0_10) := (blk_cell BK259.out 10).trans rfl; have hfz45_0 := blk_frozen BK259.out 0; have hfz45_1 := blk_frozen BK259.out 1; have hfz45_2 := blk_frozen BK259.out 2; have hfz45_3 := blk_frozen BK259.out 3; have hfz45_4 := blk_frozen BK259.out 4; have hfz45_5 := blk_frozen BK259.out 5; have hfz45_6 := blk_frozen BK259.out 6; have hfz45_7 := blk_frozen BK259.out 7; have hfz45_8 := blk_frozen BK259.out 8; have hfz45_9 := blk_frozen BK259.out 9; have hfz45_10 := blk_frozen BK259.out 10) | (go_at_call 19; (with_reducible refine (impl_in.calls a0_1 1 4 true _ A4.out).mono ?_); rintro e w' ⟨rfl, ⟨nd, rfl⟩⟩) | (go_at_call 19; (with_reducible refine (impl_in.calls a0_2 1 4 true _ A6.out).mono ?_); rintro e w' ⟨rfl, ⟨nd, rfl⟩⟩) | (go_at_call 45; (with_reducible refine (impl_BrdOk.calls a0_3 a0_4 false _ A8.out).mono ?_); rintro e w46 ⟨rfl, hb⟩; have n0_ := Aside0.mk (blk_below (g := gb259) (o := .cells #[.string a0_0, .int .i64 a0_1, .int .i64 a0_2, .int .i64 a0_3, .int .i64 a0_4, .int .i64 a0_5, .int .i64 a0_6, .int .i64 a0_7, .int .i64 a0_8, .int .i64 a0_9, .int .i64 a0_10] 58 (0, 0)) (by (with_reducible repeat (first | refine blk_drewN ?_ _ | refine blk_drew ?_ | refine blk_alloc ?_ _)); exact BK259.out) hb); have n1_ := Aside0.mk (below_step (by repeat (first | (with_reducible first | exact HB.out | apply below_alloc | apply pw_below_drewN | apply below_drew1 | refine below_set ?_ GE259.out) | exact HB.out)) hb); clear BK259; clear HB; have BK259 := n0_; have HB := n1_; clear n0_ n1_; (try clear hb); (try clear hb2); (try clear hk); (try clear hi)))
          go_ret
          exact ⟨by first | rfl | (simp [IntKind.wrap_i64, wrap64]; done) | (simp [errW_none, errW_some] <;> rfl) | (simp [*, errW_none, errW_some] <;> rfl), by repeat (first | (with_reducible first | exact HB.out | apply below_alloc | apply pw_below_drewN | apply below_drew1 | refine below_set ?_ GE259.out) | exact HB.out)⟩
      · replace c7 := Bool.eq_false_iff.mpr c7
        subst c7
        have H1 : (some false) = some r := by rw [if_neg (show ¬ (false = true) by decide)] at H; exact H
        clear H
        have H := H1
        clear H1
        obtain rfl := Option.some.inj H
        go_enter Tryd.func30, Tryd.ntmps30
        go_wp2_with (first | ((with_reducible refine gate_dst (N := 1) rfl ?_); refine box_event ?hg (N := 1) ?hd (cs := #[.string a0_0, .int .i64 a0_1, .int .i64 a0_2, .int .i64 a0_3, .int .i64 a0_4, .int .i64 a0_5, .int .i64 a0_6, .int .i64 a0_7, .int .i64 a0_8, .int .i64 a0_9, .int .i64 a0_10]) (t := 58) ?hr ?_; (case hd => rfl); (case hg => rfl); (case hr => first | (go_simp; done) | (go_simp; rfl)); intro gb259 hg w47 hbox hb; have n0_ := Aside0.mk (below_step (by repeat (first | (with_reducible first | exact HB.out | apply below_alloc | apply pw_below_drewN | apply below_drew1) | exact HB.out)) hb); have n1_ := Aside0.mk (hbox); have n2_ := Aside0.mk ((by rw [hg]; exact (below_size (by repeat (first | (with_reducible first | exact HB.out | apply below_alloc | apply pw_below_drewN | apply below_drew1) | exact HB.out))) : w.heap.size ≤ gb259)); have n3_ := Aside0.mk ((by rw [hg]; exact (below_size (by repeat (first | (with_reducible first | exact HB.out | apply below_alloc | apply pw_below_drewN | apply below_drew1) | exact HB.out))) : w.heap.size ≤ gb259)); clear HB; have HB := n0_; have BK259 := n1_; have GW259 := n2_; have GE259 := n3_; clear n0_ n1_ n2_ n3_; clear hb hbox hg; have hcz48_0 : w47.cell? ⟨gb259, 0, none⟩ = some (.string a0_0) := (blk_cell BK259.out 0).trans rfl; have hcz48_1 : w47.cell? ⟨gb259, 1, none⟩ = some (.int .i64 a0_1) := (blk_cell BK259.out 1).trans rfl; have hcz48_2 : w47.cell? ⟨gb259, 2, none⟩ = some (.int .i64 a0_2) := (blk_cell BK259.out 2).trans rfl; have hcz48_3 : w47.cell? ⟨gb259, 3, none⟩ = some (.int .i64 a0_3) := (blk_cell BK259.out 3).trans rfl; have hcz48_4 : w47.cell? ⟨gb259, 4, none⟩ = some (.int .i64 a0_4) := (blk_cell BK259.out 4).trans rfl; have hcz48_5 : w47.cell? ⟨gb259, 5, none⟩ = some (.int .i64 a0_5) := (blk_cell BK259.out 5).trans rfl; have hcz48_6 : w47.cell? ⟨gb259, 6, none⟩ = some (.int .i64 a0_6) := (blk_cell BK259.out 6).trans rfl; have hcz48_7 : w47.cell? ⟨gb259, 7, none⟩ = some (.int .i64 a0_7) := (blk_cell BK259.out 7).trans rfl; have hcz48_8 : w47.cell? ⟨gb259, 8, none⟩ = some (.int .i64 a0_8) := (blk_cell BK259.out 8).trans rfl; have hcz48_9 : w47.cell? ⟨gb259, 9, none⟩ = some (.int .i64 a0_9) := (blk_cell BK259.out 9).trans rfl; have hcz48_10 : w47.cell? ⟨gb259, 10, none⟩ = some (.int .i64 a0_10) := (blk_cell BK259.out 10).trans rfl; have hfz48_0 := blk_frozen BK259.out 0; have hfz48_1 := blk_frozen BK259.out 1; have hfz48_2 := blk_frozen BK259.out 2; have hfz48_3 := blk_frozen BK259.out 3; have hfz48_4 := blk_frozen BK259.out 4; have hfz48_5 := blk_frozen BK259.out 5; have hfz48_6 := blk_frozen BK259.out 6; have hfz48_7 := blk_frozen BK259.out 7; have hfz48_8 := blk_frozen BK259.out 8; have hfz48_9 := blk_frozen BK259.out 9; have hfz48_10 := blk_frozen BK259.out 10) | ((with_reducible refine gate_callee (f := 25) rfl ?_); refine goesL_ (some 5) rfl rfl Tryd.func25 (by kernel_rfl) rfl #[.string a0_0] rfl (by (try simp only [List.map_toArray, List.map_cons, List.map_nil]); first | done | rfl | (simp only [List.length_drop, List.length_take]; rfl)) ?_; (with_reducible refine (impl_TxtOk.calls a0_0 true _ ?sideM A2.out).mono ?_); (case sideM => repeat (first | exact HM.out | exact (Txt.MLen_below HM.out HB.out) | (with_reducible refine Txt.MLen_alloc ?_ _) | (with_reducible refine Txt.MLen_drewN ?_ _) | (with_reducible refine Txt.MLen_drew ?_))); rintro e w49 ⟨rfl, hb⟩; refine ⟨_, rfl, ?_⟩; have n0_ := Aside0.mk (blk_below (g := gb259) (o := .cells #[.string a0_0, .int .i64 a0_1, .int .i64 a0_2, .int .i64 a0_3, .int .i64 a0_4, .int .i64 a0_5, .int .i64 a0_6, .int .i64 a0_7, .int .i64 a0_8, .int .i64 a0_9, .int .i64 a0_10] 58 (0, 0)) (by (with_reducible repeat (first | refine blk_drewN ?_ _ | refine blk_drew ?_ | refine blk_alloc ?_ _)); exact BK259.out) hb); have n1_ := Aside0.mk (below_step (by repeat (first | (with_reducible first | exact HB.out | apply below_alloc | apply pw_below_drewN | apply below_drew1 | refine below_set ?_ GE259.out) | exact HB.out)) hb); clear BK259; clear HB; have BK259 := n0_; have HB := n1_; clear n0_ n1_; (try clear hb); (try clear hb2); (try clear hk); (try clear hi); have hcz50_0 : w49.cell? ⟨gb259, 0, none⟩ = some (.string a0_0) := (blk_cell BK259.out 0).trans rfl; have hcz50_1 : w49.cell? ⟨gb259, 1, none⟩ = some (.int .i64 a0_1) := (blk_cell BK259.out 1).trans rfl; have hcz50_2 : w49.cell? ⟨gb259, 2, none⟩ = some (.int .i64 a0_2) := (blk_cell BK259.out 2).trans rfl; have hcz50_3 : w49.cell? ⟨gb259, 3, none⟩ = some (.int .i64 a0_3) := (blk_cell BK259.out 3).trans rfl; have hcz50_4 : w49.cell? ⟨gb259, 4, none⟩ = some (.int .i64 a0_4) := (blk_cell BK259.out 4).trans rfl; have hcz50_5 : w49.cell? ⟨gb259, 5, none⟩ = some (.int .i64 a0_5) := (blk_cell BK259.out 5).trans rfl; have hcz50_6 : w49.cell? ⟨gb259, 6, none⟩ = some (.int .i64 a0_6) := (blk_cell BK259.out 6).trans rfl; have hcz50_7 : w49.cell? ⟨gb259, 7, none⟩ = some (.int .i64 a0_7) := (blk_cell BK259.out 7).trans rfl; have hcz50_8 : w49.cell? ⟨gb259, 8, none⟩ = some (.int .i64 a0_8) := (blk_cell BK259.out 8).trans rfl; have hcz50_9 : w49.cell? ⟨gb259, 9, none⟩ = some (.int .i64 a0_9) := (blk_cell BK259.out 9).trans rfl; have hcz50_10 : w49.cell? ⟨gb259, 10, none⟩ = some (.int .i64 a0_10) := (blk_cell BK259.out 10).trans rfl; have hfz50_0 := blk_frozen BK259.out 0; have hfz50_1 := blk_frozen BK259.out 1; have hfz50_2 := blk_frozen BK259.out 2; have hfz50_3 := blk_frozen BK259.out 3; have hfz50_4 := blk_frozen BK259.out 4; have hfz50_5 := blk_frozen BK259.out 5; have hfz50_6 := blk_frozen BK259.out 6; have hfz50_7 := blk_frozen BK259.out 7; have hfz50_8 := blk_frozen BK259.out 8; have hfz50_9 := blk_frozen BK259.out 9; have hfz50_10 := blk_frozen BK259.out 10) | (go_at_call 19; (with_reducible refine (impl_in.calls a0_1 1 4 true _ A4.out).mono ?_); rintro e w' ⟨rfl, ⟨nd, rfl⟩⟩) | (go_at_call 19; (with_reducible refine (impl_in.calls a0_2 1 4 false _ A6.out).mono ?_); rintro e w' ⟨rfl, ⟨nd, rfl⟩⟩))
        go_ret
        exact ⟨by first | rfl | (simp [IntKind.wrap_i64, wrap64]; done) | (simp [errW_none, errW_some] <;> rfl) | (simp [*, errW_none, errW_some] <;> rfl), by repeat (first | (with_reducible first | exact HB.out | apply below_alloc | apply pw_below_drewN | apply below_drew1 | refine below_set ?_ GE259.out) | exact HB.out)⟩
    · replace c5 := Bool.eq_false_iff.mpr c5
      subst c5
      have H1 : (some false) = some r := by rw [if_neg (show ¬ (false = true) by decide)] at H; exact H
      clear H
      have H := H1
      clear H1
      obtain rfl := Option.some.inj H
      go_enter Tryd.func30, Tryd.ntmps30
      go_wp2_with (first | ((with_reducible refine gate_dst (N := 1) rfl ?_); refine box_event ?hg (N := 1) ?hd (cs := #[.string a0_0, .int .i64 a0_1, .int .i64 a0_2, .int .i64 a0_3, .int .i64 a0_4, .int .i64 a0_5, .int .i64 a0_6, .int .i64 a0_7, .int .i64 a0_8, .int .i64 a0_9, .int .i64 a0_10]) (t := 58) ?hr ?_; (case hd => rfl); (case hg => rfl); (case hr => first | (go_simp; done) | (go_simp; rfl)); intro gb259 hg w51 hbox hb; have n0_ := Aside0.mk (below_step (by repeat (first | (with_reducible first | exact HB.out | apply below_alloc | apply pw_below_drewN | apply below_drew1) | exact HB.out)) hb); have n1_ := Aside0.mk (hbox); have n2_ := Aside0.mk ((by rw [hg]; exact (below_size (by repeat (first | (with_reducible first | exact HB.out | apply below_alloc | apply pw_below_drewN | apply below_drew1) | exact HB.out))) : w.heap.size ≤ gb259)); have n3_ := Aside0.mk ((by rw [hg]; exact (below_size (by repeat (first | (with_reducible first | exact HB.out | apply below_alloc | apply pw_below_drewN | apply below_drew1) | exact HB.out))) : w.heap.size ≤ gb259)); clear HB; have HB := n0_; have BK259 := n1_; have GW259 := n2_; have GE259 := n3_; clear n0_ n1_ n2_ n3_; clear hb hbox hg; have hcz52_0 : w51.cell? ⟨gb259, 0, none⟩ = some (.string a0_0) := (blk_cell BK259.out 0).trans rfl; have hcz52_1 : w51.cell? ⟨gb259, 1, none⟩ = some (.int .i64 a0_1) := (blk_cell BK259.out 1).trans rfl; have hcz52_2 : w51.cell? ⟨gb259, 2, none⟩ = some (.int .i64 a0_2) := (blk_cell BK259.out 2).trans rfl; have hcz52_3 : w51.cell? ⟨gb259, 3, none⟩ = some (.int .i64 a0_3) := (blk_cell BK259.out 3).trans rfl; have hcz52_4 : w51.cell? ⟨gb259, 4, none⟩ = some (.int .i64 a0_4) := (blk_cell BK259.out 4).trans rfl; have hcz52_5 : w51.cell? ⟨gb259, 5, none⟩ = some (.int .i64 a0_5) := (blk_cell BK259.out 5).trans rfl; have hcz52_6 : w51.cell? ⟨gb259, 6, none⟩ = some (.int .i64 a0_6) := (blk_cell BK259.out 6).trans rfl; have hcz52_7 : w51.cell? ⟨gb259, 7, none⟩ = some (.int .i64 a0_7) := (blk_cell BK259.out 7).trans rfl; have hcz52_8 : w51.cell? ⟨gb259, 8, none⟩ = some (.int .i64 a0_8) := (blk_cell BK259.out 8).trans rfl; have hcz52_9 : w51.cell? ⟨gb259, 9, none⟩ = some (.int .i64 a0_9) := (blk_cell BK259.out 9).trans rfl; have hcz52_10 : w51.cell? ⟨gb259, 10, none⟩ = some (.int .i64 a0_10) := (blk_cell BK259.out 10).trans rfl; have hfz52_0 := blk_frozen BK259.out 0; have hfz52_1 := blk_frozen BK259.out 1; have hfz52_2 := blk_frozen BK259.out 2; have hfz52_3 := blk_frozen BK259.out 3; have hfz52_4 := blk_frozen BK259.out 4; have hfz52_5 := blk_frozen BK259.out 5; have hfz52_6 := blk_frozen BK259.out 6; have hfz52_7 := blk_frozen BK259.out 7; have hfz52_8 := blk_frozen BK259.out 8; have hfz52_9 := blk_frozen BK259.out 9; have hfz52_10 := blk_frozen BK259.out 10) | ((with_reducible refine gate_callee (f := 25) rfl ?_); refine goesL_ (some 5) rfl rfl Tryd.func25 (by kernel_rfl) rfl #[.string a0_0] rfl (by (try simp only [List.map_toArray, List.map_cons, List.map_nil]); first | done | rfl | (simp only [List.length_drop, List.length_take]; rfl)) ?_; (with_reducible refine (impl_TxtOk.calls a0_0 true _ ?sideM A2.out).mono ?_); (case sideM => repeat (first | exact HM.out | exact (Txt.MLen_below HM.out HB.out) | (with_reducible refine Txt.MLen_alloc ?_ _) | (with_reducible refine Txt.MLen_drewN ?_ _) | (with_reducible refine Txt.MLen_drew ?_))); rintro e w53 ⟨rfl, hb⟩; refine ⟨_, rfl, ?_⟩; have n0_ := Aside0.mk (blk_below (g := gb259) (o := .cells #[.string a0_0, .int .i64 a0_1, .int .i64 a0_2, .int .i64 a0_3, .int .i64 a0_4, .int .i64 a0_5, .int .i64 a0_6, .int .i64 a0_7, .int .i64 a0_8, .int .i64 a0_9, .int .i64 a0_10] 58 (0, 0)) (by (with_reducible repeat (first | refine blk_drewN ?_ _ | refine blk_drew ?_ | refine blk_alloc ?_ _)); exact BK259.out) hb); have n1_ := Aside0.mk (below_step (by repeat (first | (with_reducible first | exact HB.out | apply below_alloc | apply pw_below_drewN | apply below_drew1 | refine below_set ?_ GE259.out) | exact HB.out)) hb); clear BK259; clear HB; have BK259 := n0_; have HB := n1_; clear n0_ n1_; (try clear hb); (try clear hb2); (try clear hk); (try clear hi); have hcz54_0 : w53.cell? ⟨gb259, 0, none⟩ = some (.string a0_0) := (blk_cell BK259.out 0).trans rfl; have hcz54_1 : w53.cell? ⟨gb259, 1, none⟩ = some (.int .i64 a0_1) := (blk_cell BK259.out 1).trans rfl; have hcz54_2 : w53.cell? ⟨gb259, 2, none⟩ = some (.int .i64 a0_2) := (blk_cell BK259.out 2).trans rfl; have hcz54_3 : w53.cell? ⟨gb259, 3, none⟩ = some (.int .i64 a0_3) := (blk_cell BK259.out 3).trans rfl; have hcz54_4 : w53.cell? ⟨gb259, 4, none⟩ = some (.int .i64 a0_4) := (blk_cell BK259.out 4).trans rfl; have hcz54_5 : w53.cell? ⟨gb259, 5, none⟩ = some (.int .i64 a0_5) := (blk_cell BK259.out 5).trans rfl; have hcz54_6 : w53.cell? ⟨gb259, 6, none⟩ = some (.int .i64 a0_6) := (blk_cell BK259.out 6).trans rfl; have hcz54_7 : w53.cell? ⟨gb259, 7, none⟩ = some (.int .i64 a0_7) := (blk_cell BK259.out 7).trans rfl; have hcz54_8 : w53.cell? ⟨gb259, 8, none⟩ = some (.int .i64 a0_8) := (blk_cell BK259.out 8).trans rfl; have hcz54_9 : w53.cell? ⟨gb259, 9, none⟩ = some (.int .i64 a0_9) := (blk_cell BK259.out 9).trans rfl; have hcz54_10 : w53.cell? ⟨gb259, 10, none⟩ = some (.int .i64 a0_10) := (blk_cell BK259.out 10).trans rfl; have hfz54_0 := blk_frozen BK259.out 0; have hfz54_1 := blk_frozen BK259.out 1; have hfz54_2 := blk_frozen BK259.out 2; have hfz54_3 := blk_frozen BK259.out 3; have hfz54_4 := blk_frozen BK259.out 4; have hfz54_5 := blk_frozen BK259.out 5; have hfz54_6 := blk_frozen BK259.out 6; have hfz54_7 := blk_frozen BK259.out 7; have hfz54_8 := blk_frozen BK259.out 8; have hfz54_9 := blk_frozen BK259.out 9; have hfz54_10 := blk_frozen BK259.out 10) | (go_at_call 19; (with_reducible refine (impl_in.calls a0_1 1 4 false _ A4.out).mono ?_); rintro e w' ⟨rfl, ⟨nd, rfl⟩⟩))
      go_ret
      exact ⟨by first | rfl | (simp [IntKind.wrap_i64, wrap64]; done) | (simp [errW_none, errW_some] <;> rfl) | (simp [*, errW_none, errW_some] <;> rfl), by repeat (first | (with_reducible first | exact HB.out | apply below_alloc | apply pw_below_drewN | apply below_drew1 | refine below_set ?_ GE259.out) | exact HB.out)⟩
  · replace c3 := Bool.eq_false_iff.mpr c3
    subst c3
    have H1 : (some false) = some r := by rw [if_neg (show ¬ (false = true) by decide)] at H; exact H
    clear H
    have H := H1
    clear H1
    obtain rfl := Option.some.inj H
    go_enter Tryd.func30, Tryd.ntmps30
    go_wp2_with (first | ((with_reducible refine gate_dst (N := 1) rfl ?_); refine box_event ?hg (N := 1) ?hd (cs := #[.string a0_0, .int .i64 a0_1, .int .i64 a0_2, .int .i64 a0_3, .int .i64 a0_4, .int .i64 a0_5, .int .i64 a0_6, .int .i64 a0_7, .int .i64 a0_8, .int .i64 a0_9, .int .i64 a0_10]) (t := 58) ?hr ?_; (case hd => rfl); (case hg => rfl); (case hr => first | (go_simp; done) | (go_simp; rfl)); intro gb259 hg w55 hbox hb; have n0_ := Aside0.mk (below_step (by repeat (first | (with_reducible first | exact HB.out | apply below_alloc | apply pw_below_drewN | apply below_drew1) | exact HB.out)) hb); have n1_ := Aside0.mk (hbox); have n2_ := Aside0.mk ((by rw [hg]; exact (below_size (by repeat (first | (with_reducible first | exact HB.out | apply below_alloc | apply pw_below_drewN | apply below_drew1) | exact HB.out))) : w.heap.size ≤ gb259)); have n3_ := Aside0.mk ((by rw [hg]; exact (below_size (by repeat (first | (with_reducible first | exact HB.out | apply below_alloc | apply pw_below_drewN | apply below_drew1) | exact HB.out))) : w.heap.size ≤ gb259)); clear HB; have HB := n0_; have BK259 := n1_; have GW259 := n2_; have GE259 := n3_; clear n0_ n1_ n2_ n3_; clear hb hbox hg; have hcz56_0 : w55.cell? ⟨gb259, 0, none⟩ = some (.string a0_0) := (blk_cell BK259.out 0).trans rfl; have hcz56_1 : w55.cell? ⟨gb259, 1, none⟩ = some (.int .i64 a0_1) := (blk_cell BK259.out 1).trans rfl; have hcz56_2 : w55.cell? ⟨gb259, 2, none⟩ = some (.int .i64 a0_2) := (blk_cell BK259.out 2).trans rfl; have hcz56_3 : w55.cell? ⟨gb259, 3, none⟩ = some (.int .i64 a0_3) := (blk_cell BK259.out 3).trans rfl; have hcz56_4 : w55.cell? ⟨gb259, 4, none⟩ = some (.int .i64 a0_4) := (blk_cell BK259.out 4).trans rfl; have hcz56_5 : w55.cell? ⟨gb259, 5, none⟩ = some (.int .i64 a0_5) := (blk_cell BK259.out 5).trans rfl; have hcz56_6 : w55.cell? ⟨gb259, 6, none⟩ = some (.int .i64 a0_6) := (blk_cell BK259.out 6).trans rfl; have hcz56_7 : w55.cell? ⟨gb259, 7, none⟩ = some (.int .i64 a0_7) := (blk_cell BK259.out 7).trans rfl; have hcz56_8 : w55.cell? ⟨gb259, 8, none⟩ = some (.int .i64 a0_8) := (blk_cell BK259.out 8).trans rfl; have hcz56_9 : w55.cell? ⟨gb259, 9, none⟩ = some (.int .i64 a0_9) := (blk_cell BK259.out 9).trans rfl; have hcz56_10 : w55.cell? ⟨gb259, 10, none⟩ = some (.int .i64 a0_10) := (blk_cell BK259.out 10).trans rfl; have hfz56_0 := blk_frozen BK259.out 0; have hfz56_1 := blk_frozen BK259.out 1; have hfz56_2 := blk_frozen BK259.out 2; have hfz56_3 := blk_frozen BK259.out 3; have hfz56_4 := blk_frozen BK259.out 4; have hfz56_5 := blk_frozen BK259.out 5; have hfz56_6 := blk_frozen BK259.out 6; have hfz56_7 := blk_frozen BK259.out 7; have hfz56_8 := blk_frozen BK259.out 8; have hfz56_9 := blk_frozen BK259.out 9; have hfz56_10 := blk_frozen BK259.out 10) | ((with_reducible refine gate_callee (f := 25) rfl ?_); refine goesL_ (some 5) rfl rfl Tryd.func25 (by kernel_rfl) rfl #[.string a0_0] rfl (by (try simp only [List.map_toArray, List.map_cons, List.map_nil]); first | done | rfl | (simp only [List.length_drop, List.length_take]; rfl)) ?_; (with_reducible refine (impl_TxtOk.calls a0_0 false _ ?sideM A2.out).mono ?_); (case sideM => repeat (first | exact HM.out | exact (Txt.MLen_below HM.out HB.out) | (with_reducible refine Txt.MLen_alloc ?_ _) | (with_reducible refine Txt.MLen_drewN ?_ _) | (with_reducible refine Txt.MLen_drew ?_))); rintro e w57 ⟨rfl, hb⟩; refine ⟨_, rfl, ?_⟩; have n0_ := Aside0.mk (blk_below (g := gb259) (o := .cells #[.string a0_0, .int .i64 a0_1, .int .i64 a0_2, .int .i64 a0_3, .int .i64 a0_4, .int .i64 a0_5, .int .i64 a0_6, .int .i64 a0_7, .int .i64 a0_8, .int .i64 a0_9, .int .i64 a0_10] 58 (0, 0)) (by (with_reducible repeat (first | refine blk_drewN ?_ _ | refine blk_drew ?_ | refine blk_alloc ?_ _)); exact BK259.out) hb); have n1_ := Aside0.mk (below_step (by repeat (first | (with_reducible first | exact HB.out | apply below_alloc | apply pw_below_drewN | apply below_drew1 | refine below_set ?_ GE259.out) | exact HB.out)) hb); clear BK259; clear HB; have BK259 := n0_; have HB := n1_; clear n0_ n1_; (try clear hb); (try clear hb2); (try clear hk); (try clear hi)))
    go_ret
    exact ⟨by first | rfl | (simp [IntKind.wrap_i64, wrap64]; done) | (simp [errW_none, errW_some] <;> rfl) | (simp [*, errW_none, errW_some] <;> rfl), by repeat (first | (with_reducible first | exact HB.out | apply below_alloc | apply pw_below_drewN | apply below_drew1 | refine below_set ?_ GE259.out) | exact HB.out)⟩

/-! ### impl_TblOk: function 11 (by hand) -/
-- imports: Derived.Shelf.Abstract
set_option maxHeartbeats 2000000 in
set_option maxRecDepth 100000 in
/-- slices.IndexFunc, whatever the function asks. -/
theorem idxf_col (p : S52 → Bool) (g : Nat) (lb : Array Value) (eg : ∀ args w, (callFunc g args).run Tryd.prog w = .ok (.enter g args) w) (A : Option Addr) (c : Nat) (l : List S52) (w : World)
    (hr : Kd.C k52 w A l.length l) (hc : l.length ≤ c)
    (hp : ∀ (W : World) (x : S52), x ∈ l → Below w.heap.size w W → Calls Tryd.prog g (#[.agg #[.int .i64 x.f0, .int .i64 x.f1]] ++ lb) W fun e W' => e = .returned (.bool (p x)) ∧ Below w.heap.size w W') :
    Calls Tryd.prog 44 #[.slice A l.length c, .func (.func g) #[] lb] w fun e w' => e = .returned (.int .i64 (ppIdx p l)) ∧ Below w.heap.size w w' := by
  have hbig := hr.2.1
  have hu := Tryd.underlying52
  have HR := Aside0.mk hr
  clear hr
  go_enter Tryd.func44, Tryd.ntmps44
  go_wp2
  go_loopg [5, 8] l.length (fun gg _ s8 wr => ∃ kk : Nat, kk ≤ l.length ∧ l.length - kk ≤ gg ∧ s8 = .int .i64 kk ∧ Aside0 (Below w.heap.size w wr) ∧ Aside0 (∀ j (h : j < l.length), j < kk → p l[j] = false))
  case atStart => exact ⟨0, Nat.zero_le _, by omega, rfl, ⟨Below.refl _ w⟩, ⟨fun j _ hj => absurd hj (Nat.not_lt_zero _)⟩⟩
  case round =>
    obtain ⟨kk, hkk, hg, rfl, BW, AA⟩ := hrel
    by_cases hlt : kk < l.length
    · have hltz : (kk : Int) < (l.length : Int) := by omega
      obtain ⟨ad, e0, h0, h1⟩ := at_T52 HR.out (kk : Int) (by omega) hltz
      cases e0
      replace h0 := (BW.out.cell (World.block_lt_of_cell? w _ h0)).trans h0
      replace h1 := (BW.out.cell (World.block_lt_of_cell? w _ h1)).trans h1
      simp only [Int.toNat_natCast] at h0 h1
      have hy : rd_T52 l (kk : Int) = l[kk] := by unfold rd_T52; simp [List.getD_eq_getElem?_getD, List.getElem?_eq_getElem hlt]
      have hcall := hp wr (rd_T52 l (kk : Int)) (by rw [hy]; exact List.getElem_mem _) BW.out
      generalize rd_T52 l (kk : Int) = y at h0 h1 hcall hy
      have HY := Aside0.mk hy
      clear hy hp
      cases hq : p y with
      | true =>
        rw [hq] at hcall
        go_wp2_with (go_at_fn g; refine hcall.mono ?_; rintro e w' ⟨rfl, hb'⟩)
        go_ret
        refine ⟨?_, hb'⟩
        rw [ppIdx_hit p l kk hlt (by rw [← HY.out]; exact hq) AA.out]
        rfl
      | false =>
        rw [hq] at hcall
        go_wp2_with (go_at_fn g; refine hcall.mono ?_; rintro e w' ⟨rfl, hb'⟩)
        go_roundg (l.length - (kk + 1))
        case measure => omega
        case rel =>
          refine ⟨kk + 1, by omega, by omega, by go_num, ⟨hb'⟩, ⟨fun j h hj => ?_⟩⟩
          by_cases e : j = kk
          · subst e
            rw [← HY.out]; exact hq
          · exact AA.out j h (by omega)
    · have hltz : ¬ (kk : Int) < (l.length : Int) := by omega
      have hk : kk = l.length := by omega
      subst hk
      go_wp2
      go_ret
      refine ⟨?_, BW.out⟩
      rw [ppIdx_miss p l (fun j hj => AA.out j hj hj)]
      rfl
set_option maxHeartbeats 2000000 in
set_option maxRecDepth 100000 in
theorem cntf_col (p : S52 → Bool) (g : Nat) (lb : Array Value) (eg : ∀ args w, (callFunc g args).run Tryd.prog w = .ok (.enter g args) w) (A : Option Addr) (c : Nat) (l : List S52) (w : World)
    (hr : Kd.C k52 w A l.length l) (hc : l.length ≤ c)
    (hp : ∀ (W : World) (x : S52), x ∈ l → Below w.heap.size w W → Calls Tryd.prog g (#[.agg #[.int .i64 x.f0, .int .i64 x.f1]] ++ lb) W fun e W' => e = .returned (.bool (p x)) ∧ Below w.heap.size w W') :
    Calls Tryd.prog 26 #[.slice A l.length c, .func (.func g) #[] lb] w fun e w' => e = .returned (.bool (decide (0 ≤ ppIdx p l))) ∧ Below w.heap.size w w' := by
  have HR := Aside0.mk hr
  have HC := Aside0.mk hc
  have HP := Aside0.mk hp
  clear hr hc hp
  go_enter Tryd.func26, Tryd.ntmps26
  go_wp2_with (go_at_call 44; (with_reducible refine (idxf_col p g lb eg A c l _ HR.out HC.out HP.out).mono ?_); rintro e w' ⟨rfl, hb⟩)
  go_ret
  exact ⟨rfl, hb⟩
set_option maxHeartbeats 2000000 in
set_option maxRecDepth 100000 in
/-- slices.IndexFunc, whatever the function asks. -/
theorem idxf_cell (p : S58 → Bool) (g : Nat) (lb : Array Value) (eg : ∀ args w, (callFunc g args).run Tryd.prog w = .ok (.enter g args) w) (A : Option Addr) (c : Nat) (l : List S58) (w : World)
    (hr : Kd.C k58 w A l.length l) (hc : l.length ≤ c)
    (hp : ∀ (W : World) (x : S58), x ∈ l → Below w.heap.size w W → Calls Tryd.prog g (#[.agg #[.string x.f0, .int .i64 x.f1, .int .i64 x.f2, .int .i64 x.f3.f0, .int .i64 x.f3.f1, .int .i64 x.f4.f0, .int .i64 x.f4.f1, .int .i64 x.f5.f0, .int .i64 x.f5.f1, .int .i64 x.f6.f0, .int .i64 x.f6.f1]] ++ lb) W fun e W' => e = .returned (.bool (p x)) ∧ Below w.heap.size w W') :
    Calls Tryd.prog 47 #[.slice A l.length c, .func (.func g) #[] lb] w fun e w' => e = .returned (.int .i64 (ppIdx p l)) ∧ Below w.heap.size w w' := by
  have hbig := hr.2.1
  have hu := Tryd.underlying58
  have HR := Aside0.mk hr
  clear hr
  go_enter Tryd.func47, Tryd.ntmps47
  go_wp2
  go_loopg [5, 8] l.length (fun gg _ s8 wr => ∃ kk : Nat, kk ≤ l.length ∧ l.length - kk ≤ gg ∧ s8 = .int .i64 kk ∧ Aside0 (Below w.heap.size w wr) ∧ Aside0 (∀ j (h : j < l.length), j < kk → p l[j] = false))
  case atStart => exact ⟨0, Nat.zero_le _, by omega, rfl, ⟨Below.refl _ w⟩, ⟨fun j _ hj => absurd hj (Nat.not_lt_zero _)⟩⟩
  case round =>
    obtain ⟨kk, hkk, hg, rfl, BW, AA⟩ := hrel
    by_cases hlt : kk < l.length
    · have hltz : (kk : Int) < (l.length : Int) := by omega
      obtain ⟨ad, e0, h0, h1, h2, h3, h4, h5, h6, h7, h8, h9, h10⟩ := at_T58 HR.out (kk : Int) (by omega) hltz
      cases e0
      replace h0 := (BW.out.cell (World.block_lt_of_cell? w _ h0)).trans h0
      replace h1 := (BW.out.cell (World.block_lt_of_cell? w _ h1)).trans h1
      replace h2 := (BW.out.cell (World.block_lt_of_cell? w _ h2)).trans h2
      replace h3 := (BW.out.cell (World.block_lt_of_cell? w _ h3)).trans h3
      replace h4 := (BW.out.cell (World.block_lt_of_cell? w _ h4)).trans h4
      replace h5 := (BW.out.cell (World.block_lt_of_cell? w _ h5)).trans h5
      replace h6 := (BW.out.cell (World.block_lt_of_cell? w _ h6)).trans h6
      replace h7 := (BW.out.cell (World.block_lt_of_cell? w _ h7)).trans h7
      replace h8 := (BW.out.cell (World.block_lt_of_cell? w _ h8)).trans h8
      replace h9 := (BW.out.cell (World.block_lt_of_cell? w _ h9)).trans h9
      replace h10 := (BW.out.cell (World.block_lt_of_cell? w _ h10)).trans h10
      simp only [Int.toNat_natCast] at h0 h1 h2 h3 h4 h5 h6 h7 h8 h9 h10
      have hy : rd_T58 l (kk : Int) = l[kk] := by unfold rd_T58; simp [List.getD_eq_getElem?_getD, List.getElem?_eq_getElem hlt]
      have hcall := hp wr (rd_T58 l (kk : Int)) (by rw [hy]; exact List.getElem_mem _) BW.out
      generalize rd_T58 l (kk : Int) = y at h0 h1 h2 h3 h4 h5 h6 h7 h8 h9 h10 hcall hy
      have HY := Aside0.mk hy
      clear hy hp
      cases hq : p y with
      | true =>
        rw [hq] at hcall
        go_wp2_with (go_at_fn g; refine hcall.mono ?_; rintro e w' ⟨rfl, hb'⟩)
        go_ret
        refine ⟨?_, hb'⟩
        rw [ppIdx_hit p l kk hlt (by rw [← HY.out]; exact hq) AA.out]
        rfl
      | false =>
        rw [hq] at hcall
        go_wp2_with (go_at_fn g; refine hcall.mono ?_; rintro e w' ⟨rfl, hb'⟩)
        go_roundg (l.length - (kk + 1))
        case measure => omega
        case rel =>
          refine ⟨kk + 1, by omega, by omega, by go_num, ⟨hb'⟩, ⟨fun j h hj => ?_⟩⟩
          by_cases e : j = kk
          · subst e
            rw [← HY.out]; exact hq
          · exact AA.out j h (by omega)
    · have hltz : ¬ (kk : Int) < (l.length : Int) := by omega
      have hk : kk = l.length := by omega
      subst hk
      go_wp2
      go_ret
      refine ⟨?_, BW.out⟩
      rw [ppIdx_miss p l (fun j hj => AA.out j hj hj)]
      rfl
set_option maxHeartbeats 2000000 in
set_option maxRecDepth 100000 in
theorem cntf_cell (p : S58 → Bool) (g : Nat) (lb : Array Value) (eg : ∀ args w, (callFunc g args).run Tryd.prog w = .ok (.enter g args) w) (A : Option Addr) (c : Nat) (l : List S58) (w : World)
    (hr : Kd.C k58 w A l.length l) (hc : l.length ≤ c)
    (hp : ∀ (W : World) (x : S58), x ∈ l → Below w.heap.size w W → Calls Tryd.prog g (#[.agg #[.string x.f0, .int .i64 x.f1, .int .i64 x.f2, .int .i64 x.f3.f0, .int .i64 x.f3.f1, .int .i64 x.f4.f0, .int .i64 x.f4.f1, .int .i64 x.f5.f0, .int .i64 x.f5.f1, .int .i64 x.f6.f0, .int .i64 x.f6.f1]] ++ lb) W fun e W' => e = .returned (.bool (p x)) ∧ Below w.heap.size w W') :
    Calls Tryd.prog 33 #[.slice A l.length c, .func (.func g) #[] lb] w fun e w' => e = .returned (.bool (decide (0 ≤ ppIdx p l))) ∧ Below w.heap.size w w' := by
  have HR := Aside0.mk hr
  have HC := Aside0.mk hc
  have HP := Aside0.mk hp
  clear hr hc hp
  go_enter Tryd.func33, Tryd.ntmps33
  go_wp2_with (go_at_call 47; (with_reducible refine (idxf_cell p g lb eg A c l _ HR.out HC.out HP.out).mono ?_); rintro e w' ⟨rfl, hb⟩)
  go_ret
  exact ⟨rfl, hb⟩
set_option maxHeartbeats 2000000 in
set_option maxRecDepth 100000 in
/-- slices.IndexFunc, whatever the function asks. -/
theorem idxf_row (p : S37 → Bool) (g : Nat) (lb : Array Value) (eg : ∀ args w, (callFunc g args).run Tryd.prog w = .ok (.enter g args) w) (A : Option Addr) (c : Nat) (l : List S37) (w : World)
    (hr : Kd.C k37 w A l.length l) (hc : l.length ≤ c)
    (hp : ∀ (W : World) (x : S37) (Ax : Option Addr) (cx : Nat), x ∈ l → Below w.heap.size w W → Kd.C k58 W Ax x.f0.length x.f0 → x.f0.length ≤ cx → Calls Tryd.prog g (#[.agg #[.slice Ax x.f0.length cx, .bool x.f1]] ++ lb) W fun e W' => e = .returned (.bool (p x)) ∧ Below w.heap.size w W') :
    Calls Tryd.prog 46 #[.slice A l.length c, .func (.func g) #[] lb] w fun e w' => e = .returned (.int .i64 (ppIdx p l)) ∧ Below w.heap.size w w' := by
  have hbig := hr.2.1
  have hu := Tryd.underlying37
  have HR := Aside0.mk hr
  clear hr
  go_enter Tryd.func46, Tryd.ntmps46
  go_wp2
  go_loopg [5, 8] l.length (fun gg _ s8 wr => ∃ kk : Nat, kk ≤ l.length ∧ l.length - kk ≤ gg ∧ s8 = .int .i64 kk ∧ Aside0 (Below w.heap.size w wr) ∧ Aside0 (∀ j (h : j < l.length), j < kk → p l[j] = false))
  case atStart => exact ⟨0, Nat.zero_le _, by omega, rfl, ⟨Below.refl _ w⟩, ⟨fun j _ hj => absurd hj (Nat.not_lt_zero _)⟩⟩
  case round =>
    obtain ⟨kk, hkk, hg, rfl, BW, AA⟩ := hrel
    by_cases hlt : kk < l.length
    · have hltz : (kk : Int) < (l.length : Int) := by omega
      obtain ⟨ad, Ax, cx, e0, h0, h1, hl0, hi0⟩ := at_T37 HR.out (kk : Int) (by omega) hltz
      cases e0
      replace h0 := (BW.out.cell (World.block_lt_of_cell? w _ h0)).trans h0
      replace h1 := (BW.out.cell (World.block_lt_of_cell? w _ h1)).trans h1
      simp only [Int.toNat_natCast] at h0 h1
      have hy : rd_T37 l (kk : Int) = l[kk] := by unfold rd_T37; simp [List.getD_eq_getElem?_getD, List.getElem?_eq_getElem hlt]
      have hcall := hp wr (rd_T37 l (kk : Int)) Ax cx (by rw [hy]; exact List.getElem_mem _) BW.out (Kd.C_below hi0 BW.out) hl0
      clear hl0 hi0
      generalize rd_T37 l (kk : Int) = y at h0 h1 hcall hy
      have HY := Aside0.mk hy
      clear hy hp
      cases hq : p y with
      | true =>
        rw [hq] at hcall
        go_wp2_with (go_at_fn g; refine hcall.mono ?_; rintro e w' ⟨rfl, hb'⟩)
        go_ret
        refine ⟨?_, hb'⟩
        rw [ppIdx_hit p l kk hlt (by rw [← HY.out]; exact hq) AA.out]
        rfl
      | false =>
        rw [hq] at hcall
        go_wp2_with (go_at_fn g; refine hcall.mono ?_; rintro e w' ⟨rfl, hb'⟩)
        go_roundg (l.length - (kk + 1))
        case measure => omega
        case rel =>
          refine ⟨kk + 1, by omega, by omega, by go_num, ⟨hb'⟩, ⟨fun j h hj => ?_⟩⟩
          by_cases e : j = kk
          · subst e
            rw [← HY.out]; exact hq
          · exact AA.out j h (by omega)
    · have hltz : ¬ (kk : Int) < (l.length : Int) := by omega
      have hk : kk = l.length := by omega
      subst hk
      go_wp2
      go_ret
      refine ⟨?_, BW.out⟩
      rw [ppIdx_miss p l (fun j hj => AA.out j hj hj)]
      rfl
set_option maxHeartbeats 2000000 in
set_option maxRecDepth 100000 in
theorem cntf_row (p : S37 → Bool) (g : Nat) (lb : Array Value) (eg : ∀ args w, (callFunc g args).run Tryd.prog w = .ok (.enter g args) w) (A : Option Addr) (c : Nat) (l : List S37) (w : World)
    (hr : Kd.C k37 w A l.length l) (hc : l.length ≤ c)
    (hp : ∀ (W : World) (x : S37) (Ax : Option Addr) (cx : Nat), x ∈ l → Below w.heap.size w W → Kd.C k58 W Ax x.f0.length x.f0 → x.f0.length ≤ cx → Calls Tryd.prog g (#[.agg #[.slice Ax x.f0.length cx, .bool x.f1]] ++ lb) W fun e W' => e = .returned (.bool (p x)) ∧ Below w.heap.size w W') :
    Calls Tryd.prog 31 #[.slice A l.length c, .func (.func g) #[] lb] w fun e w' => e = .returned (.bool (decide (0 ≤ ppIdx p l))) ∧ Below w.heap.size w w' := by
  have HR := Aside0.mk hr
  have HC := Aside0.mk hc
  have HP := Aside0.mk hp
  clear hr hc hp
  go_enter Tryd.func31, Tryd.ntmps31
  go_wp2_with (go_at_call 46; (with_reducible refine (idxf_row p g lb eg A c l _ HR.out HC.out HP.out).mono ?_); rintro e w' ⟨rfl, hb⟩)
  go_ret
  exact ⟨rfl, hb⟩
/-- Whether a column is ok. -/
def impl_TblOk.colB (x : S52) : Bool := (impl_TblCol_ok.f x.f0 x.f1).getD false
/-- Whether a cell is ok. -/
def impl_TblOk.cellB (x : S58) : Bool := (impl_CellOk.f x.f0 x.f1 x.f2 x.f3.f0 x.f3.f1 x.f4.f0 x.f4.f1 x.f5.f0 x.f5.f1 x.f6.f0 x.f6.f1).getD false
/-- Whether a row is wrong. -/
def impl_TblOk.rowW (x : S37) : Bool := decide (5 < (x.f0.length : Int)) || decide (0 ≤ ppIdx (fun c => !impl_TblOk.cellB c) x.f0)
/-- No text of a row is too long to be told. -/
def impl_TblOk.fits (l : List S37) : Bool := l.all fun r => r.f0.all fun c => decide (c.f0.size < 4294967281)
def impl_TblOk.f (_ : Nat) (l0_0 : List S52) (a0_1 : Int) (a0_2 : Int) (l0_3 : List S37) (a0_4 : Int) : Option Bool :=
  if impl_TblOk.fits l0_3 = true then ((impl_in.f (l0_3.length : Int) 1 8).bind fun b => if b = true then (if (l0_0.length : Int) ≤ 8 then ((impl_in.f a0_4 0 3).bind fun b => if b = true then ((impl_in.f a0_1 0 (l0_3.length : Int)).bind fun b => if b = true then ((impl_in.f a0_2 0 (wrap64 ((l0_3.length : Int) - a0_1))).bind fun b => if b = true then (if ¬ 0 ≤ ppIdx (fun c => !impl_TblOk.colB c) l0_0 then some (!decide (0 ≤ ppIdx impl_TblOk.rowW l0_3)) else some false) else some false) else some false) else some false) else some false) else some false) else none
theorem impl_TblOk.inSome (a b c : Int) : ∃ r, impl_in.f a b c = some r := by
  unfold impl_in.f
  split <;> exact ⟨_, rfl⟩
theorem impl_TblOk.colE (x : S52) : impl_TblCol_ok.f x.f0 x.f1 = some (impl_TblOk.colB x) := by
  obtain ⟨b, h⟩ : ∃ b, impl_TblCol_ok.f x.f0 x.f1 = some b := by
    unfold impl_TblCol_ok.f
    obtain ⟨b1, h1⟩ := impl_TblOk.inSome x.f1 0 60
    obtain ⟨b2, h2⟩ := impl_TblOk.inSome x.f1 1 100
    rw [h1, h2]
    simp only [Option.bind_some]
    repeat' split
    all_goals exact ⟨_, rfl⟩
  unfold impl_TblOk.colB
  rw [h]
  rfl
theorem impl_TblOk.brdSome (a b : Int) : ∃ r, impl_BrdOk.f a b = some r := by
  obtain ⟨b1, h1⟩ := impl_TblOk.inSome a 1 3
  obtain ⟨b2, h2⟩ := impl_TblOk.inSome b 1 3
  unfold impl_BrdOk.f impl_BrdLine_drawn.f
  rw [h1, h2]
  simp only [Option.bind_some]
  repeat' split
  all_goals exact ⟨_, rfl⟩
theorem impl_TblOk.cellE (x : S58) (hs : x.f0.size < 4294967281) : impl_CellOk.f x.f0 x.f1 x.f2 x.f3.f0 x.f3.f1 x.f4.f0 x.f4.f1 x.f5.f0 x.f5.f1 x.f6.f0 x.f6.f1 = some (impl_TblOk.cellB x) := by
  obtain ⟨b, h⟩ : ∃ b, impl_CellOk.f x.f0 x.f1 x.f2 x.f3.f0 x.f3.f1 x.f4.f0 x.f4.f1 x.f5.f0 x.f5.f1 x.f6.f0 x.f6.f1 = some b := by
    unfold impl_CellOk.f impl_TxtOk.f
    obtain ⟨b1, h1⟩ := impl_TblOk.inSome x.f1 1 4
    obtain ⟨b2, h2⟩ := impl_TblOk.inSome x.f2 1 4
    obtain ⟨b3, h3⟩ := impl_TblOk.brdSome x.f3.f0 x.f3.f1
    obtain ⟨b4, h4⟩ := impl_TblOk.brdSome x.f4.f0 x.f4.f1
    obtain ⟨b5, h5⟩ := impl_TblOk.brdSome x.f5.f0 x.f5.f1
    obtain ⟨b6, h6⟩ := impl_TblOk.brdSome x.f6.f0 x.f6.f1
    rw [h1, h2, h3, h4, h5, h6, if_pos hs]
    simp only [Option.bind_some]
    repeat' split
    all_goals exact ⟨_, rfl⟩
  unfold impl_TblOk.cellB
  rw [h]
  rfl
set_option maxHeartbeats 2000000 in
set_option maxRecDepth 100000 in
theorem clo_TblOk1 (x : S52) (w : World) :
    Calls Tryd.prog 27 (#[.agg #[.int .i64 x.f0, .int .i64 x.f1]] ++ #[]) w fun e w' => e = .returned (.bool (!impl_TblOk.colB x)) ∧ Below w.heap.size w w' := by
  have hu := Tryd.underlying52
  have A1 := Aside0.mk (impl_TblOk.colE x)
  go_enter Tryd.func27, Tryd.ntmps27
  go_wp2_with (go_at_call 28; (with_reducible refine (impl_TblCol_ok.calls x.f0 x.f1 _ _ A1.out).mono ?_); rintro e W ⟨rfl, hb⟩; have HB := Aside0.mk (below_step (below_alloc (Below.refl w.heap.size w) _) hb); clear hb)
  go_ret
  exact ⟨rfl, HB.out⟩
set_option maxHeartbeats 2000000 in
set_option maxRecDepth 100000 in
theorem clo_TblOk2 (x : S58) (hs : x.f0.size < 4294967281) (w : World) (hM : Txt.MLen w) :
    Calls Tryd.prog 29 (#[.agg #[.string x.f0, .int .i64 x.f1, .int .i64 x.f2, .int .i64 x.f3.f0, .int .i64 x.f3.f1, .int .i64 x.f4.f0, .int .i64 x.f4.f1, .int .i64 x.f5.f0, .int .i64 x.f5.f1, .int .i64 x.f6.f0, .int .i64 x.f6.f1]] ++ #[]) w fun e w' => e = .returned (.bool (!impl_TblOk.cellB x)) ∧ Below w.heap.size w w' := by
  have hu := Tryd.underlying58
  have A1 := Aside0.mk (impl_TblOk.cellE x hs)
  have HM := Aside0.mk hM
  clear hM
  go_enter Tryd.func29, Tryd.ntmps29
  go_wp2_with (go_at_call 30; (with_reducible refine (impl_CellOk.calls _ _ _ _ _ _ _ _ _ _ _ _ _ (Txt.MLen_alloc HM.out _) A1.out).mono ?_); rintro e W ⟨rfl, hb⟩; have HB := Aside0.mk (below_step (below_alloc (Below.refl w.heap.size w) _) hb); clear hb)
  go_ret
  exact ⟨rfl, HB.out⟩
set_option maxHeartbeats 2000000 in
set_option maxRecDepth 100000 in
theorem clo_TblOk3 (A : Option Addr) (c : Nat) (x : S37) (hs : ∀ y ∈ x.f0, y.f0.size < 4294967281) (b1 : Nat) (w : World) (hM : Txt.MLen w) (hr : Kd.C k58 w A x.f0.length x.f0) (hc : x.f0.length ≤ c) (h1 : w.cell? ⟨b1, 0, none⟩ = some (.func (.func 29) #[] #[])) :
    Calls Tryd.prog 32 (#[.agg #[.slice A x.f0.length c, .bool x.f1]] ++ #[.pointer (some ⟨b1, 0, none⟩)]) w fun e w' => e = .returned (.bool (impl_TblOk.rowW x)) ∧ Below w.heap.size w w' := by
  have hu := Tryd.underlying37
  have HM := Aside0.mk hM
  have HR := Aside0.mk hr
  have HC := Aside0.mk hc
  have hb1 := World.block_lt_of_cell? w _ h1
  have hbig := hr.2.1
  clear hM hr hc
  have eg : ∀ args w, (callFunc 29 args).run Tryd.prog w = .ok (.enter 29 args) w := enters_of Tryd.func29 (by kernel_rfl) rfl
  have HP : Aside0 (∀ (W0 : World), Below w.heap.size w W0 → ∀ (W : World) (y : S58), y ∈ x.f0 → Below W0.heap.size W0 W → Calls Tryd.prog 29 (#[.agg #[.string y.f0, .int .i64 y.f1, .int .i64 y.f2, .int .i64 y.f3.f0, .int .i64 y.f3.f1, .int .i64 y.f4.f0, .int .i64 y.f4.f1, .int .i64 y.f5.f0, .int .i64 y.f5.f1, .int .i64 y.f6.f0, .int .i64 y.f6.f1]] ++ #[]) W fun e W' => e = .returned (.bool ((fun c => !impl_TblOk.cellB c) y)) ∧ Below W0.heap.size W0 W') := ⟨fun W0 h0 W y hy hb => (clo_TblOk2 y (hs y hy) W (Txt.MLen_below (Txt.MLen_below HM.out h0) hb)).mono fun e W' ⟨he, hb'⟩ => ⟨he, below_then hb hb.size hb'⟩⟩
  clear hs
  obtain ⟨b, hb⟩ : ∃ b, impl_TblOk.rowW x = b := ⟨_, rfl⟩
  rw [hb]
  unfold impl_TblOk.rowW at hb
  by_cases h5 : 5 < (x.f0.length : Int)
  · have d1 : decide (5 < (x.f0.length : Int)) = true := decide_eq_true h5
    have d2 : decide (5 < x.f0.length) = true := decide_eq_true (by omega)
    rw [d1, Bool.true_or] at hb
    subst hb
    go_enter Tryd.func32, Tryd.ntmps32
    go_wp2
    go_ret
    exact ⟨rfl, below_alloc (Below.refl _ _) _⟩
  · have d1 : decide (5 < (x.f0.length : Int)) = false := decide_eq_false h5
    have d2 : decide (5 < x.f0.length) = false := decide_eq_false (by omega)
    rw [d1, Bool.false_or] at hb
    subst hb
    go_enter Tryd.func32, Tryd.ntmps32
    go_wp2_with (go_at_call 33; (with_reducible refine (cntf_cell (fun c => !impl_TblOk.cellB c) 29 #[] eg A c x.f0 _ (Kd.C_alloc HR.out _) HC.out (HP.out _ (below_alloc (Below.refl _ _) _))).mono ?_); rintro e W ⟨rfl, hb⟩; have HB := Aside0.mk (below_step (below_alloc (Below.refl w.heap.size w) _) hb); clear hb)
    go_ret
    exact ⟨rfl, HB.out⟩
theorem impl_TblOk.allocCell {W : World} {C : Nat} {o : Obj} (h : W.heap[C]? = some o) : ∀ (o' : Obj) (i : Nat), (W.alloc o').cell? ⟨C, i, none⟩ = W.cell? ⟨C, i, none⟩ := fun o' i => (below_alloc (Below.refl _ W) o').cell (p := ⟨C, i, none⟩) (blk_lt h)
theorem impl_TblOk.part {o f : Option Bool} {r : Bool} (h : (o.bind fun t => if t = true then f else some false) = some r) : ∃ b, Aside0 (o = some b) ∧ ((b = false ∧ r = false) ∨ (b = true ∧ f = some r)) := by
  obtain ⟨b, h1, h⟩ := Option.bind_eq_some_iff.1 h
  refine ⟨b, ⟨h1⟩, ?_⟩
  cases b
  · exact .inl ⟨rfl, (Option.some.inj h).symm⟩
  · exact .inr ⟨rfl, h⟩
theorem impl_TblOk.part2 {c : Prop} [Decidable c] {f : Option Bool} {r : Bool} (h : (if c then f else some false) = some r) : (¬ c ∧ r = false) ∨ (c ∧ f = some r) := by
  by_cases hc : c
  · rw [if_pos hc] at h
    exact .inr ⟨hc, h⟩
  · rw [if_neg hc] at h
    exact .inl ⟨hc, (Option.some.inj h).symm⟩
theorem impl_TblOk.fitsE {l : List S37} (h : impl_TblOk.fits l = true) : ∀ x ∈ l, ∀ y ∈ x.f0, y.f0.size < 4294967281 := by
  unfold impl_TblOk.fits at h
  simpa using h
theorem impl_TblOk.mono : ∀ a0 a1 a2 a3 a4 k, LeO (impl_TblOk.f k a0 a1 a2 a3 a4) (impl_TblOk.f (k + 1) a0 a1 a2 a3 a4) := fun _ _ _ _ _ _ => LeO.refl _
set_option maxHeartbeats 4000000 in
set_option maxRecDepth 100000 in
theorem impl_TblOk.calls (k : Nat) (A0_0 : Option Addr) (c0_0 : Nat) (l0_0 : List (S52)) (a0_1 : Int) (a0_2 : Int) (A0_3 : Option Addr) (c0_3 : Nat) (l0_3 : List (S37)) (a0_4 : Int) (r : Bool) (w : World) (hr0_0 : Kd.C k52 w A0_0 l0_0.length l0_0) (hc0_0 : l0_0.length ≤ c0_0) (hr0_3 : Kd.C k37 w A0_3 l0_3.length l0_3) (hc0_3 : l0_3.length ≤ c0_3) (hM : Txt.MLen w) (h : impl_TblOk.f k l0_0 a0_1 a0_2 l0_3 a0_4 = some r) :
    Calls Tryd.prog 11 #[.agg #[.slice A0_0 l0_0.length c0_0, .int .i64 a0_1, .int .i64 a0_2, .slice A0_3 l0_3.length c0_3, .int .i64 a0_4]] w fun e w' => e = .returned (.bool r) ∧ Below w.heap.size w w' := by
  have hu1 := Tryd.underlying26
  have HM := Aside0.mk hM
  have HR0 := Aside0.mk hr0_0
  have HC0 := Aside0.mk hc0_0
  have HR3 := Aside0.mk hr0_3
  have HC3 := Aside0.mk hc0_3
  clear hM hr0_0 hc0_0 hr0_3 hc0_3
  have HB := Aside0.mk (Below.refl w.heap.size w)
  unfold impl_TblOk.f at h
  by_cases hfit : impl_TblOk.fits l0_3 = true
  rotate_left
  · rw [if_neg hfit] at h
    cases h
  rw [if_pos hfit] at h
  have HF := Aside0.mk (impl_TblOk.fitsE hfit)
  clear hfit
  have eg1 : ∀ args w, (callFunc 27 args).run Tryd.prog w = .ok (.enter 27 args) w := enters_of Tryd.func27 (by kernel_rfl) rfl
  have eg3 : ∀ args w, (callFunc 32 args).run Tryd.prog w = .ok (.enter 32 args) w := enters_of Tryd.func32 (by kernel_rfl) rfl
  have HPC : Aside0 (∀ (W0 W : World) (y : S52), y ∈ l0_0 → Below W0.heap.size W0 W → Calls Tryd.prog 27 (#[.agg #[.int .i64 y.f0, .int .i64 y.f1]] ++ #[]) W fun e W' => e = .returned (.bool ((fun c => !impl_TblOk.colB c) y)) ∧ Below W0.heap.size W0 W') := ⟨fun W0 W y _ hb => (clo_TblOk1 y W).mono fun e W' ⟨he, hb'⟩ => ⟨he, below_then hb hb.size hb'⟩⟩
  have HPR : Aside0 (∀ (W0 : World) (b1 : Nat), W0.cell? ⟨b1, 0, none⟩ = some (.func (.func 29) #[] #[]) → Below w.heap.size w W0 → ∀ (W : World) (y : S37) (Ax : Option Addr) (cx : Nat), y ∈ l0_3 → Below W0.heap.size W0 W → Kd.C k58 W Ax y.f0.length y.f0 → y.f0.length ≤ cx → Calls Tryd.prog 32 (#[.agg #[.slice Ax y.f0.length cx, .bool y.f1]] ++ #[.pointer (some ⟨b1, 0, none⟩)]) W fun e W' => e = .returned (.bool (impl_TblOk.rowW y)) ∧ Below W0.heap.size W0 W') := ⟨fun W0 b1 h1 h0 W y Ax cx hy hb hi hl => (clo_TblOk3 Ax cx y (HF.out y hy) b1 W (Txt.MLen_below (Txt.MLen_below HM.out h0) hb) hi hl ((hb.cell (World.block_lt_of_cell? W0 _ h1)).trans h1)).mono fun e W' ⟨he, hb'⟩ => ⟨he, below_then hb hb.size hb'⟩⟩
  have e1 : IntKind.i64.wrap ((l0_3.length : Int) - a0_1) = wrap64 ((l0_3.length : Int) - a0_1) := by simp [IntKind.wrap_i64, wrap64]
  obtain ⟨b1, A1, ⟨rfl, rfl⟩ | ⟨rfl, h⟩⟩ := impl_TblOk.part h
  rotate_left
  obtain ⟨hn, rfl⟩ | ⟨hn, h⟩ := impl_TblOk.part2 h
  have d1 : decide (8 < (l0_0.length : Int)) = true := decide_eq_true (by omega)
  have d2 : decide (8 < l0_0.length) = true := decide_eq_true (by omega)
  rotate_left
  have d1 : decide (8 < (l0_0.length : Int)) = false := decide_eq_false (by omega)
  have d2 : decide (8 < l0_0.length) = false := decide_eq_false (by omega)
  obtain ⟨b2, A2, ⟨rfl, rfl⟩ | ⟨rfl, h⟩⟩ := impl_TblOk.part h
  rotate_left
  obtain ⟨b3, A3, ⟨rfl, rfl⟩ | ⟨rfl, h⟩⟩ := impl_TblOk.part h
  rotate_left
  obtain ⟨b4, A4, ⟨rfl, rfl⟩ | ⟨rfl, h⟩⟩ := impl_TblOk.part h
  rotate_left
  obtain ⟨hp, rfl⟩ | ⟨hp, h⟩ := impl_TblOk.part2 h
  have d3 : decide (0 ≤ ppIdx (fun c => !impl_TblOk.colB c) l0_0) = true := decide_eq_true (Classical.not_not.1 hp)
  rotate_left
  have d3 : decide (0 ≤ ppIdx (fun c => !impl_TblOk.colB c) l0_0) = false := decide_eq_false hp
  obtain rfl := Option.some.inj h
  all_goals
    clear h
    go_enter Tryd.func11, Tryd.ntmps11
    go_wp2_with (first | (go_at_call 19; (first | (with_reducible refine (impl_in.calls _ _ _ _ _ A1.out).mono ?_) | (with_reducible refine (impl_in.calls _ _ _ _ _ A2.out).mono ?_) | (with_reducible refine (impl_in.calls _ _ _ _ _ A3.out).mono ?_) | (with_reducible refine (impl_in.calls _ _ _ _ _ A4.out).mono ?_)); rintro e W' ⟨rfl, ⟨nd, rfl⟩⟩) | (go_at_call 26; (with_reducible refine (cntf_col (fun c => !impl_TblOk.colB c) 27 #[] eg1 A0_0 c0_0 l0_0 _ ?hr HC0.out (HPC.out _)).mono ?_); (case hr => repeat (first | exact HR0.out | (with_reducible refine Kd.C_alloc ?_ _) | (with_reducible refine Kd.C_drewN ?_ _) | (with_reducible refine Kd.C_drew ?_))); rintro e W1 ⟨rfl, hb⟩; have HG : Aside0 (W1.heap[w.heap.size]? = some (.cells #[.slice A0_0 l0_0.length c0_0, .int .i64 a0_1, .int .i64 a0_2, .slice A0_3 l0_3.length c0_3, .int .i64 a0_4] 26 (0, 0))) := ⟨blk_below (by (with_reducible repeat (first | refine blk_drewN ?_ _ | refine blk_drew ?_)); exact blk_new w _) hb⟩; have n1 : Aside0 (Below w.heap.size w W1) := ⟨below_step (by (repeat (with_reducible first | exact Below.refl _ _ | exact HB.out | apply below_alloc | apply pw_below_drewN | apply below_drew1))) hb⟩; clear HB hb; have HB := n1; clear n1; have q3 : W1.cell? ⟨w.heap.size, 3, none⟩ = some (.slice A0_3 l0_3.length c0_3) := (blk_cell HG.out 3).trans rfl; have n3 := impl_TblOk.allocCell HG.out) | (go_at_call 31; (with_reducible refine (cntf_row impl_TblOk.rowW 32 #[.pointer (some ⟨W1.heap.size, 0, none⟩)] eg3 A0_3 c0_3 l0_3 _ (Kd.C_below HR3.out HB.out) HC3.out (HPR.out _ W1.heap.size ?h1 HB.out)).mono ?_); (case h1 => exact (blk_cell HN.out 0).trans rfl); rintro e W2 ⟨rfl, hb2⟩; have n1 : Aside0 (Below w.heap.size w W2) := ⟨below_step HB.out hb2⟩; clear HB hb2; have HB := n1; clear n1) | (show wpList _ _ _ _ _ (World.alloc W1 _); with_reducible refine wpList_put _ _ _ rfl rfl W1.heap.size 0 rfl (.func (.func 29) #[] #[]) rfl _ #[.nilFunc] #[.func (.func 29) #[] #[]] (blk_new W1 _) (by kernel_rfl) rfl rfl rfl (fun W9 hp => ?_); have n1 : Aside0 (Below w.heap.size w W9) := ⟨hp.below (below_alloc HB.out _) HB.out.size⟩; have n2 := Aside0.mk (hp.keep (blk_alloc HG.out _) (by have := blk_lt HG.out; omega)); have HN := Aside0.mk hp.blk; clear HB HG hp q3 n3; have HB := n1; have HG := n2; clear n1 n2; have q3 : W9.cell? ⟨w.heap.size, 3, none⟩ = some (.slice A0_3 l0_3.length c0_3) := (blk_cell HG.out 3).trans rfl))
    go_ret
    exact ⟨rfl, by (repeat (with_reducible first | exact Below.refl _ _ | exact HB.out | apply below_alloc | apply pw_below_drewN | apply below_drew1))⟩

/-! ### impl_TblCell: function 51 (by hand) -/
set_option maxHeartbeats 2000000 in
set_option maxRecDepth 100000 in
/-- slices.Clone: the same members in a block of its own. -/
theorem clone_cell (A : Option Addr) (c : Nat) (l : List S58) (w : World) (hr : Kd.C k58 w A l.length l) (hl : l.length < 1466015503701) :
    Calls Tryd.prog 51 #[.slice A l.length c] w fun e w' => ∃ v, e = .returned v ∧ Kd.R k58 58 w' w.heap.size (fun _ => True) v l ∧ Below w.heap.size w w' := by
  have HR := Aside0.mk hr
  have hu := Tryd.underlying35
  cases A with
  | none =>
    have hz : l.length = 0 := by
      rcases Nat.eq_zero_or_pos l.length with h | h
      · exact h
      · obtain ⟨ad, e, _⟩ := hr.2.2 h
        cases e
    have hl0 : l = [] := List.length_eq_zero_iff.1 hz
    subst hl0
    clear hr hz
    have hq : (binOp .eql 35 (.slice none 0 c) (.slice none 0 0)).run Tryd.prog w = .ok (.bool true) w := nil_eq hu _ _ _
    go_enter Tryd.func51, Tryd.ntmps51
    go_wp2
    go_ret
    exact ⟨_, rfl, Kd.R_nil _ _ _ _ _, Below.refl _ _⟩
  | some ad =>
    clear hr
    have hq : (binOp .eql 35 (.slice (some ad) l.length c) (.slice none 0 0)).run Tryd.prog w = .ok (.bool false) w := nil_ne hu _ _ _ _
    go_enter Tryd.func51, Tryd.ntmps51
    go_wp2_with (first | (refine wpList_step (Kd.R_lit_step (w0 := w) k58 w.heap.size 58 ?hg (N := 5) ?hd (xs := ([] : List S58)) (inner := []) (ok := fun _ => True) (okp := fun _ => True) ?hr ?hp (fun _ hk => hk) trivial (Below.refl _ _) (Nat.le_refl _) (by simp) ?_); (case hd => rfl); (case hg => rfl); (case hr => first | (go_simp; done) | (go_simp; rfl)); (case hp => exact (Reps.none _ _)); intro v1 w1 ho1 hb1 hg1 hn1; have HO1 := Aside0.mk ho1; have HB1 := Aside0.mk hb1; clear ho1 hb1 hg1 hn1) | (refine wpList_step (Kd.R_append_rows_step k58 (w0 := w) w.heap.size (by rfl) (.tmp 5) (.tmp 6) 35 58 (.agg #[(.string ⟨#[]⟩), (.int .i64 0), (.int .i64 0), (.int .i64 0), (.int .i64 0), (.int .i64 0), (.int .i64 0), (.int .i64 0), (.int .i64 0), (.int .i64 0), (.int .i64 0)]) 96 rfl Tryd.underlying35 (by kernel_rfl) rfl (by decide) (by decide) v1 [] l (some ad) l.length c (fun _ => True) (fun _ => False) rfl rfl HO1.out (Kd.C_below HR.out HB1.out) (fun _ _ h => h) (fun _ h => h.elim) (fun _ _ => trivial) HB1.out HB1.out.size (by simp only [List.length_nil]; omega) ?_); intro v2 w2 ho2 hb2 hg2 hat2))
    go_ret
    exact ⟨_, rfl, ho2, hb2⟩
def impl_TblCell.f (l0 : List S58) : Option (List S58) := if l0.length < 1466015503701 then some l0 else none
theorem impl_TblCell.calls (A0 : Option Addr) (c0 : Nat) (l0 : List (S58)) (r : List (S58)) (w : World) (hr0 : Kd.C k58 w A0 l0.length l0) (hc0 : l0.length ≤ c0) (h : impl_TblCell.f l0 = some r) :
    Calls Tryd.prog 51 #[.slice A0 l0.length c0] w fun e w' => ∃ v0_ : Value, e = .returned (v0_) ∧ Kd.R k58 58 w' w.heap.size (fun _ => True) v0_ r ∧ Below w.heap.size w w' := by
  unfold impl_TblCell.f at h
  split at h
  · obtain rfl := Option.some.inj h
    exact clone_cell A0 c0 l0 w hr0 (by assumption)
  · cases h

/-! ### impl_TblCol: function 52 (by hand) -/
set_option maxHeartbeats 2000000 in
set_option maxRecDepth 100000 in
/-- slices.Clone: the same members in a block of its own. -/
theorem clone_col (A : Option Addr) (c : Nat) (l : List S52) (w : World) (hr : Kd.C k52 w A l.length l) (hl : l.length < 8796093022208) :
    Calls Tryd.prog 52 #[.slice A l.length c] w fun e w' => ∃ v, e = .returned v ∧ Kd.R k52 52 w' w.heap.size (fun _ => True) v l ∧ Below w.heap.size w w' := by
  have HR := Aside0.mk hr
  have hu := Tryd.underlying23
  cases A with
  | none =>
    have hz : l.length = 0 := by
      rcases Nat.eq_zero_or_pos l.length with h | h
      · exact h
      · obtain ⟨ad, e, _⟩ := hr.2.2 h
        cases e
    have hl0 : l = [] := List.length_eq_zero_iff.1 hz
    subst hl0
    clear hr hz
    have hq : (binOp .eql 23 (.slice none 0 c) (.slice none 0 0)).run Tryd.prog w = .ok (.bool true) w := nil_eq hu _ _ _
    go_enter Tryd.func52, Tryd.ntmps52
    go_wp2
    go_ret
    exact ⟨_, rfl, Kd.R_nil _ _ _ _ _, Below.refl _ _⟩
  | some ad =>
    clear hr
    have hq : (binOp .eql 23 (.slice (some ad) l.length c) (.slice none 0 0)).run Tryd.prog w = .ok (.bool false) w := nil_ne hu _ _ _ _
    go_enter Tryd.func52, Tryd.ntmps52
    go_wp2_with (first | (refine wpList_step (Kd.R_lit_step (w0 := w) k52 w.heap.size 52 ?hg (N := 5) ?hd (xs := ([] : List S52)) (inner := []) (ok := fun _ => True) (okp := fun _ => True) ?hr ?hp (fun _ hk => hk) trivial (Below.refl _ _) (Nat.le_refl _) (by simp) ?_); (case hd => rfl); (case hg => rfl); (case hr => first | (go_simp; done) | (go_simp; rfl)); (case hp => exact (Reps.none _ _)); intro v1 w1 ho1 hb1 hg1 hn1; have HO1 := Aside0.mk ho1; have HB1 := Aside0.mk hb1; clear ho1 hb1 hg1 hn1) | (refine wpList_step (Kd.R_append_rows_step k52 (w0 := w) w.heap.size (by rfl) (.tmp 5) (.tmp 6) 23 52 (.agg #[(.int .i64 0), (.int .i64 0)]) 16 rfl Tryd.underlying23 (by kernel_rfl) rfl (by decide) (by decide) v1 [] l (some ad) l.length c (fun _ => True) (fun _ => False) rfl rfl HO1.out (Kd.C_below HR.out HB1.out) (fun _ _ h => h) (fun _ h => h.elim) (fun _ _ => trivial) HB1.out HB1.out.size (by simp only [List.length_nil]; omega) ?_); intro v2 w2 ho2 hb2 hg2 hat2))
    go_ret
    exact ⟨_, rfl, ho2, hb2⟩
def impl_TblCol.f (l0 : List S52) : Option (List S52) := if l0.length < 8796093022208 then some l0 else none
theorem impl_TblCol.calls (A0 : Option Addr) (c0 : Nat) (l0 : List (S52)) (r : List (S52)) (w : World) (hr0 : Kd.C k52 w A0 l0.length l0) (hc0 : l0.length ≤ c0) (h : impl_TblCol.f l0 = some r) :
    Calls Tryd.prog 52 #[.slice A0 l0.length c0] w fun e w' => ∃ v0_ : Value, e = .returned (v0_) ∧ Kd.R k52 52 w' w.heap.size (fun _ => True) v0_ r ∧ Below w.heap.size w w' := by
  unfold impl_TblCol.f at h
  split at h
  · obtain rfl := Option.some.inj h
    exact clone_col A0 c0 l0 w hr0 (by assumption)
  · cases h


end Go.Proofs.YtaihfkjfbjcmhaaDoor.Q
