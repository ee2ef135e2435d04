-- Told by a program of this session (myprint.py).
import Derived.Test.YtfcacpbblkahdaaDoorPFnBrdBestx5
namespace Go.Proofs.YtfcacpbblkahdaaDoor.PFnBrdBest
open Go.RowKit Go.Proofs.YtfcacpbblkahdaaDoorW.PrintWords Go.Proofs.YtfcacpbblkahdaaDoorW.PrintLast Go.Proofs.YtfcacpbblkahdaaDoorW.PrintMore
attribute [local go_sem] max2_int min2_int max_two min_two max_three min_three max_four min_four
set_option linter.unusedVariables false
set_option linter.unusedSimpArgs false

/-! ### laws_FnBrdBest: function 4 -/
mutual
def laws_FnBrdBest.l0 : Nat → List (S36) → Int → Int → Int → Int → Int → Option (Bool)
  | 0, _, _, _, _, _, _ => none
  | k + 1, x3, x5, x6, x177000, x177001, x177002 => if x6 < (x3.length : Int) then (if 0 ≤ x6 then ((impl_BrdBeats.f k ((rd_T36 x3 x6).f0.f0) ((rd_T36 x3 x6).f0.f1) x177000 x177001).bind fun t182 => (if t182 = true then (some false) else (if x5 < 0 then (if ((((rd_T36 x3 x6).f0.f0) == x177000 && (((rd_T36 x3 x6).f0.f1) == x177001)) && (((rd_T36 x3 x6).f1) == x177002)) = true then (laws_FnBrdBest.l0 k x3 x6 (wrap64 (x6 + 1)) x177000 x177001 x177002) else (laws_FnBrdBest.l0 k x3 x5 (wrap64 (x6 + 1)) x177000 x177001 x177002)) else (laws_FnBrdBest.l0 k x3 x5 (wrap64 (x6 + 1)) x177000 x177001 x177002)))) else (none)) else (laws_FnBrdBest.l1 k x3 x5 0 x177000 x177001 x177002)
def laws_FnBrdBest.l1 : Nat → List (S36) → Int → Int → Int → Int → Int → Option (Bool)
  | 0, _, _, _, _, _, _ => none
  | k + 1, x3, x5, x7, x177000, x177001, x177002 => if x7 < x5 then (if 0 ≤ x7 then (if x7 < (x3.length : Int) then ((impl_BrdBeats.f k x177000 x177001 ((rd_T36 x3 x7).f0.f0) ((rd_T36 x3 x7).f0.f1)).bind fun t185 => (if t185 = true then (laws_FnBrdBest.l1 k x3 x5 (wrap64 (x7 + 1)) x177000 x177001 x177002) else (some false))) else (none)) else (none)) else (if x5 ≥ 0 then ((laws_pwOk.f).bind fun t186 => (some t186)) else (some false))
end
def laws_FnBrdBest.f (k : Nat) (l0 : List Int) : Option (Bool) := if (l0.length : Int) > 1048576 then (some true) else ((spec_DrawBrdBest.f k l0).bind fun t170 => ((impl_BrdBest.f k t170).bind fun bt173 => ((spec_BrdBest.f k t170).bind fun bt177 => (if ((!(bt173.1 == bt177.1) || (!(bt173.2.1 == bt177.2.1))) || (!(bt173.2.2 == bt177.2.2))) = true then (some false) else (if (t170.length : Int) = 0 then (if ((bt173.1 == 0 && (bt173.2.1 == 0)) && (bt173.2.2 == (-1))) = true then ((laws_pwOk.f).bind fun t180 => (some t180)) else (some false)) else (laws_FnBrdBest.l0 k t170 (-1) 0 bt173.1 bt173.2.1 bt173.2.2))))))
theorem laws_FnBrdBest.mono_l : ∀ k, (∀ y0 y1 y2 y3 y4 y5, LeO (laws_FnBrdBest.l0 k y0 y1 y2 y3 y4 y5) (laws_FnBrdBest.l0 (k + 1) y0 y1 y2 y3 y4 y5)) ∧ (∀ y0 y1 y2 y3 y4 y5, LeO (laws_FnBrdBest.l1 k y0 y1 y2 y3 y4 y5) (laws_FnBrdBest.l1 (k + 1) y0 y1 y2 y3 y4 y5))
  | 0 => ⟨fun _ _ _ _ _ _ r h => by simp [laws_FnBrdBest.l0] at h, fun _ _ _ _ _ _ r h => by simp [laws_FnBrdBest.l1] at h⟩
  | k + 1 => by
    obtain ⟨ih0, ih1⟩ := laws_FnBrdBest.mono_l k
    refine ⟨?_, ?_⟩
    · intro y0 y1 y2 y3 y4 y5
      unfold laws_FnBrdBest.l0
      repeat' first
      | (with_reducible exact ih0 _ _ _ _ _ _)
      | (with_reducible exact ih1 _ _ _ _ _ _)
      | (with_reducible exact impl_BrdBeats.mono _ _ _ _ _)
      | (with_reducible exact impl_BrdBest.mono _ _)
      | (with_reducible exact spec_BrdBest.mono _ _)
      | (with_reducible exact spec_DrawBrdBest.mono _ _)
      | (with_reducible exact LeO.refl _)
      | (with_reducible exact LeO.none _)
      | (with_reducible refine LeO.ite ?_ ?_)
      | (with_reducible refine LeO.bind ?_ (fun _ => ?_))
      | exact ih0 _ _ _ _ _ _
      | exact ih1 _ _ _ _ _ _
      | exact impl_BrdBeats.mono _ _ _ _ _
      | exact impl_BrdBest.mono _ _
      | exact spec_BrdBest.mono _ _
      | exact spec_DrawBrdBest.mono _ _
      | exact LeO.none _
      | refine LeO.ite ?_ ?_
      | refine LeO.bind ?_ (fun _ => ?_)
    · intro y0 y1 y2 y3 y4 y5
      unfold laws_FnBrdBest.l1
      repeat' first
      | (with_reducible exact ih0 _ _ _ _ _ _)
      | (with_reducible exact ih1 _ _ _ _ _ _)
      | (with_reducible exact impl_BrdBeats.mono _ _ _ _ _)
      | (with_reducible exact impl_BrdBest.mono _ _)
      | (with_reducible exact spec_BrdBest.mono _ _)
      | (with_reducible exact spec_DrawBrdBest.mono _ _)
      | (with_reducible exact LeO.refl _)
      | (with_reducible exact LeO.none _)
      | (with_reducible refine LeO.ite ?_ ?_)
      | (with_reducible refine LeO.bind ?_ (fun _ => ?_))
      | exact ih0 _ _ _ _ _ _
      | exact ih1 _ _ _ _ _ _
      | exact impl_BrdBeats.mono _ _ _ _ _
      | exact impl_BrdBest.mono _ _
      | exact spec_BrdBest.mono _ _
      | exact spec_DrawBrdBest.mono _ _
      | exact LeO.none _
      | refine LeO.ite ?_ ?_
      | refine LeO.bind ?_ (fun _ => ?_)
theorem laws_FnBrdBest.mono : ∀ a0 k, LeO (laws_FnBrdBest.f k a0) (laws_FnBrdBest.f (k + 1) a0) := by
  intro a0 k
  obtain ⟨ih0, ih1⟩ := laws_FnBrdBest.mono_l k
  unfold laws_FnBrdBest.f
  repeat' first
      | (with_reducible exact ih0 _ _ _ _ _ _)
      | (with_reducible exact ih1 _ _ _ _ _ _)
      | (with_reducible exact impl_BrdBeats.mono _ _ _ _ _)
      | (with_reducible exact impl_BrdBest.mono _ _)
      | (with_reducible exact spec_BrdBest.mono _ _)
      | (with_reducible exact spec_DrawBrdBest.mono _ _)
      | (with_reducible exact LeO.refl _)
      | (with_reducible exact LeO.none _)
      | (with_reducible refine LeO.ite ?_ ?_)
      | (with_reducible refine LeO.bind ?_ (fun _ => ?_))
      | exact ih0 _ _ _ _ _ _
      | exact ih1 _ _ _ _ _ _
      | exact impl_BrdBeats.mono _ _ _ _ _
      | exact impl_BrdBest.mono _ _
      | exact spec_BrdBest.mono _ _
      | exact spec_DrawBrdBest.mono _ _
      | exact LeO.none _
      | refine LeO.ite ?_ ?_
      | refine LeO.bind ?_ (fun _ => ?_)
def laws_FnBrdBest.T13 : Bool × List (List Nat × List Nat) := (true, [([], []), ([], []), ([0, 1], [0, 1]), ([2], [2]), ([3], [3]), ([], []), ([5], [5]), ([4, 6], [4, 6])])
def laws_FnBrdBest.B13 : List Nat := [0, 0, 3, 7, 15, 0, 32, 127]
theorem laws_FnBrdBest.tab13 : rtab .any (opsOf Tryd.f4 13) = laws_FnBrdBest.T13 := by kernel_rfl
theorem laws_FnBrdBest.bits13 : waitsOk laws_FnBrdBest.T13.2 laws_FnBrdBest.B13 = true := by kernel_rfl
def laws_FnBrdBest.T15 : Bool × List (List Nat × List Nat) := (true, [([], []), ([0], [0]), ([1], [1]), ([2], [2]), ([2], [2]), ([3, 4, 2], [2, 3, 4]), ([5, 2], [2, 5]), ([2], [2]), ([6, 7, 2], [2, 6, 7]), ([2, 8], [2, 8])])
def laws_FnBrdBest.B15 : List Nat := [0, 1, 3, 7, 7, 31, 63, 7, 255, 511]
theorem laws_FnBrdBest.tab15 : rtab .any (opsOf Tryd.f4 15) = laws_FnBrdBest.T15 := by kernel_rfl
theorem laws_FnBrdBest.bits15 : waitsOk laws_FnBrdBest.T15.2 laws_FnBrdBest.B15 = true := by kernel_rfl
def laws_FnBrdBest.T20 : Bool × List (List Nat × List Nat) := (true, [([], []), ([0], [0]), ([], []), ([], []), ([2, 3], [2, 3]), ([4], [4]), ([5], [5]), ([1, 6], [1, 6]), ([7], [7])])
def laws_FnBrdBest.B20 : List Nat := [0, 1, 0, 0, 12, 28, 60, 127, 255]
theorem laws_FnBrdBest.tab20 : rtab .any (opsOf Tryd.f4 20) = laws_FnBrdBest.T20 := by kernel_rfl
theorem laws_FnBrdBest.bits20 : waitsOk laws_FnBrdBest.T20.2 laws_FnBrdBest.B20 = true := by kernel_rfl
set_option maxHeartbeats 8000000 in
set_option maxRecDepth 100000 in
theorem laws_FnBrdBest.calls (k : Nat) (A0 : Option Addr) (c0 : Nat) (l0 : List Int) (r : Bool) (w : World) (hr0 : Kd.C (Kd.int .u8) w A0 l0.length l0) (hc0 : l0.length ≤ c0) (hM : Txt.MLen w) (h : laws_FnBrdBest.f k l0 = some r) :
    Calls Tryd.prog 4 #[.slice A0 l0.length c0] w fun e w' => e = .returned (.bool r) ∧ Below w.heap.size w w' := by
  have HM := Aside0.mk hM
  clear hM
  have hu36 := Tryd.underlying36
  have hu34 := Tryd.underlying34
  have HR0 := Aside0.mk hr0
  have HC0 := Aside0.mk hc0
  clear hr0 hc0
  have HB := Aside0.mk (Below.refl w.heap.size w)
  have H : (if (l0.length : Int) > 1048576 then (some true) else ((spec_DrawBrdBest.f k l0).bind fun t170 => ((impl_BrdBest.f k t170).bind fun bt173 => ((spec_BrdBest.f k t170).bind fun bt177 => (if ((!(bt173.1 == bt177.1) || (!(bt173.2.1 == bt177.2.1))) || (!(bt173.2.2 == bt177.2.2))) = true then (some false) else (if (t170.length : Int) = 0 then (if ((bt173.1 == 0 && (bt173.2.1 == 0)) && (bt173.2.2 == (-1))) = true then ((laws_pwOk.f).bind fun t180 => (some t180)) else (some false)) else (laws_FnBrdBest.l0 k t170 (-1) 0 bt173.1 bt173.2.1 bt173.2.2))))))) = some r := h
  clear h
  by_cases c2 : (l0.length : Int) > 1048576
  · rw [if_pos c2] at H
    have c2b0 : decide (1048576 < (l0.length : Int)) = true := decide_eq_true c2
    have c2b1 : decide (1048576 < l0.length) = true := decide_eq_true (by omega)
    clear c2
    obtain rfl := Option.some.inj H
    go_enter Tryd.func4, Tryd.ntmps4
    go_wp2
    go_ret
    exact ⟨by first | rfl | (simp [IntKind.wrap_i64, wrap64]; done) | (simp [errW_none, errW_some] <;> rfl) | (simp [*, errW_none, errW_some] <;> rfl), by repeat (first | (with_reducible first | exact HB.out | apply below_alloc | apply pw_below_drewN | apply below_drew1) | exact HB.out)⟩
  · rw [if_neg c2] at H
    have c2b0 : decide (1048576 < (l0.length : Int)) = false := decide_eq_false c2
    have c2b1 : decide (1048576 < l0.length) = false := decide_eq_false (by omega)
    clear c2
    replace H := Option.bind_eq_some_iff.mp H
    obtain ⟨t170, A30, H⟩ := H
    replace H : ((impl_BrdBest.f k t170).bind fun bt173 => ((spec_BrdBest.f k t170).bind fun bt177 => (if ((!(bt173.1 == bt177.1) || (!(bt173.2.1 == bt177.2.1))) || (!(bt173.2.2 == bt177.2.2))) = true then (some false) else (if (t170.length : Int) = 0 then (if ((bt173.1 == 0 && (bt173.2.1 == 0)) && (bt173.2.2 == (-1))) = true then ((laws_pwOk.f).bind fun t180 => (some t180)) else (some false)) else (laws_FnBrdBest.l0 k t170 (-1) 0 bt173.1 bt173.2.1 bt173.2.2))))) = some r := H
    have A3 := Aside0.mk A30
    clear A30
    replace H := Option.bind_eq_some_iff.mp H
    obtain ⟨⟨t173, t174, t175⟩, A40, H⟩ := H
    replace H : ((spec_BrdBest.f k t170).bind fun bt177 => (if ((!(t173 == bt177.1) || (!(t174 == bt177.2.1))) || (!(t175 == bt177.2.2))) = true then (some false) else (if (t170.length : Int) = 0 then (if ((t173 == 0 && (t174 == 0)) && (t175 == (-1))) = true then ((laws_pwOk.f).bind fun t180 => (some t180)) else (some false)) else (laws_FnBrdBest.l0 k t170 (-1) 0 t173 t174 t175)))) = some r := H
    have A4 := Aside0.mk A40
    clear A40
    replace H := Option.bind_eq_some_iff.mp H
    obtain ⟨⟨t177, t178, t179⟩, A50, H⟩ := H
    replace H : (if ((!(t173 == t177) || (!(t174 == t178))) || (!(t175 == t179))) = true then (some false) else (if (t170.length : Int) = 0 then (if ((t173 == 0 && (t174 == 0)) && (t175 == (-1))) = true then ((laws_pwOk.f).bind fun t180 => (some t180)) else (some false)) else (laws_FnBrdBest.l0 k t170 (-1) 0 t173 t174 t175))) = some r := H
    have A5 := Aside0.mk A50
    clear A50
    by_cases c6 : ((!(t173 == t177) || (!(t174 == t178))) || (!(t175 == t179))) = true
    · rw [if_pos c6] at H
      have c6b0 : ((!(t173 == t177) || (!(t174 == t178))) || (!(t175 == t179))) = true := c6
      clear c6
      obtain rfl := Option.some.inj H
      go_enter Tryd.func4, Tryd.ntmps4
      try go_wp2_with (first | ((with_reducible refine gate_callee (f := 12) rfl ?_); refine goesL_ (some 12) rfl rfl Tryd.func12 (by kernel_rfl) rfl #[.slice A0 l0.length c0] rfl (by (try simp only [List.map_toArray, List.map_cons, List.map_nil]); first | done | rfl | (simp only [List.length_drop, List.length_take]; rfl)) ?_; (with_reducible refine (spec_DrawBrdBest.calls k _ _ l0 t170 _ ?side1 ?side2 A3.out).mono ?_); (case side1 => repeat (first | exact HR0.out | (with_reducible refine Kd.C_alloc ?_ _) | (with_reducible refine Kd.C_drewN ?_ _) | (with_reducible refine Kd.C_drew ?_))); (case side2 => exact HC0.out); rintro e w7 ⟨v171, rfl, ho0, hb⟩; refine ⟨_, rfl, ?_⟩; have n0_ := Aside0.mk (Kd.R_lower ho0 (below_size (by repeat (first | (with_reducible first | exact HB.out | apply below_alloc | apply pw_below_drewN | apply below_drew1) | exact HB.out)))); have n1_ := Aside0.mk (below_step (by repeat (first | (with_reducible first | exact HB.out | apply below_alloc | apply pw_below_drewN | apply below_drew1) | exact HB.out)) hb); clear HB; have HO172 := n0_; have HB := n1_; clear n0_ n1_; (try clear hb); (try clear hb2); (try clear hk); (try clear hi); (try clear ho0); obtain ⟨Ao8, co8, eo8⟩ := Kd.R_slice HO172.out; subst eo8) | ((with_reducible refine gate_callee (f := 13) rfl ?_); refine goesL_ (some 14) rfl rfl Tryd.func13 (by kernel_rfl) rfl #[.slice Ao8 t170.length co8] rfl (by (try simp only [List.map_toArray, List.map_cons, List.map_nil]); first | done | rfl | (simp only [List.length_drop, List.length_take]; rfl)) ?_; (with_reducible refine (impl_BrdBest.calls k _ _ t170 t173 t174 t175 _ ?side1 ?side2 A4.out).mono ?_); (case side1 => repeat (first | exact (Kd.R_reads' HO172.out).2.2 | (with_reducible refine Kd.C_alloc ?_ _) | (with_reducible refine Kd.C_drewN ?_ _) | (with_reducible refine Kd.C_drew ?_))); (case side2 => exact (Kd.R_reads' HO172.out).2.1); rintro e w9 ⟨rfl, hb⟩; refine ⟨_, rfl, ?_⟩; have n0_ := Aside0.mk (Kd.R_below (by (with_reducible repeat (first | apply Kd.R_alloc | apply Kd.R_drewN | apply Kd.R_drew)); exact HO172.out) hb); have n1_ := Aside0.mk (below_step (by repeat (first | (with_reducible first | exact HB.out | apply below_alloc | apply pw_below_drewN | apply below_drew1) | exact HB.out)) hb); clear HO172; clear HB; have HO172 := n0_; have HB := n1_; clear n0_ n1_; (try clear hb); (try clear hb2); (try clear hk); (try clear hi)) | ((with_reducible refine gate_dst (N := 4) rfl ?_); refine box_event ?hg (N := 4) ?hd (cs := #[.int .i64 0, .int .i64 0, .int .i64 0]) (t := 36) ?hr ?_; (case hd => rfl); (case hg => rfl); (case hr => first | (go_simp; done) | (go_simp; rfl)); intro gb176 hg w10 hbox hb; have n0_ := Aside0.mk (Kd.R_below (Kd.R_elderB (by (with_reducible repeat (first | apply Kd.R_alloc | apply Kd.R_drewN | apply Kd.R_drew)); exact HO172.out) gb176 (Nat.le_of_eq hg.symm)) hb); have n1_ := Aside0.mk (below_step (by repeat (first | (with_reducible first | exact HB.out | apply below_alloc | apply pw_below_drewN | apply below_drew1) | exact HB.out)) hb); have n2_ := Aside0.mk (hbox); have n3_ := Aside0.mk ((by rw [hg]; exact (below_size (by repeat (first | (with_reducible first | exact HB.out | apply below_alloc | apply pw_below_drewN | apply below_drew1) | exact HB.out))) : w.heap.size ≤ gb176)); have n4_ := Aside0.mk ((by rw [hg]; exact (below_size (by repeat (first | (with_reducible first | exact HB.out | apply below_alloc | apply pw_below_drewN | apply below_drew1) | exact HB.out))) : w.heap.size ≤ gb176)); clear HO172; clear HB; have HO172 := n0_; have HB := n1_; have BK176 := n2_; have GW176 := n3_; have GE176 := n4_; clear n0_ n1_ n2_ n3_ n4_; clear hb hbox hg; have hcz11_0 : w10.cell? ⟨gb176, 0, none⟩ = some (.int .i64 0) := (blk_cell BK176.out 0).trans rfl; have hcz11_1 : w10.cell? ⟨gb176, 1, none⟩ = some (.int .i64 0) := (blk_cell BK176.out 1).trans rfl; have hcz11_2 : w10.cell? ⟨gb176, 2, none⟩ = some (.int .i64 0) := (blk_cell BK176.out 2).trans rfl; have hfz11_0 := blk_frozen BK176.out 0; have hfz11_1 := blk_frozen BK176.out 1; have hfz11_2 := blk_frozen BK176.out 2))
      have n0_ : Aside0 (Kd.R k36 36 (((w10.setCell ⟨gb176, 0, none⟩ (.int .i64 t173)).setCell ⟨gb176, 1, none⟩ (.int .i64 t174)).setCell ⟨gb176, 2, none⟩ (.int .i64 t175)) w.heap.size (fun k_ => k_ ≠ gb176) (.slice Ao8 t170.length co8) t170) := ⟨by (with_reducible repeat (first | apply Kd.R_alloc | apply Kd.R_drewN | apply Kd.R_drew)); exact Kd.R_mono (Kd.R_far (p := ⟨gb176, 2, none⟩) (Kd.R_far (p := ⟨gb176, 1, none⟩) (Kd.R_far (p := ⟨gb176, 0, none⟩) (Kd.R_mono HO172.out (fun k_ hk => (⟨hk, hk.2⟩ : _ ∧ k_ ≠ gb176))) (fun _ hk => hk.2) (.int .i64 t173)) (fun _ hk => hk.2) (.int .i64 t174)) (fun _ hk => hk.2) (.int .i64 t175)) (fun _ hk => hk.1.2)⟩
      have n1_ : Aside0 ((((w10.setCell ⟨gb176, 0, none⟩ (.int .i64 t173)).setCell ⟨gb176, 1, none⟩ (.int .i64 t174)).setCell ⟨gb176, 2, none⟩ (.int .i64 t175)).heap[gb176]? = some (.cells #[.int .i64 t173, .int .i64 t174, .int .i64 t175] 36 (0, 0))) := ⟨by (with_reducible repeat (first | refine blk_drewN ?_ _ | refine blk_drew ?_ | refine blk_alloc ?_ _)); refine blk_put (cs := #[.int .i64 t173, .int .i64 t174, .int .i64 0]) ?_ 2 _ rfl; (with_reducible repeat (first | refine blk_drewN ?_ _ | refine blk_drew ?_ | refine blk_alloc ?_ _)); refine blk_put (cs := #[.int .i64 t173, .int .i64 0, .int .i64 0]) ?_ 1 _ rfl; (with_reducible repeat (first | refine blk_drewN ?_ _ | refine blk_drew ?_ | refine blk_alloc ?_ _)); refine blk_put (cs := #[.int .i64 0, .int .i64 0, .int .i64 0]) ?_ 0 _ rfl; (with_reducible repeat (first | refine blk_drewN ?_ _ | refine blk_drew ?_ | refine blk_alloc ?_ _)); exact BK176.out⟩
      have n2_ : Aside0 (Below w.heap.size w (((w10.setCell ⟨gb176, 0, none⟩ (.int .i64 t173)).setCell ⟨gb176, 1, none⟩ (.int .i64 t174)).setCell ⟨gb176, 2, none⟩ (.int .i64 t175))) := ⟨by repeat (first | (with_reducible first | exact HB.out | apply below_alloc | apply pw_below_drewN | apply below_drew1 | refine below_set ?_ GE176.out) | exact HB.out)⟩
      (try clear HO172)
      (try clear BK176)
      (try clear HB)
      generalize (((w10.setCell ⟨gb176, 0, none⟩ (.int .i64 t173)).setCell ⟨gb176, 1, none⟩ (.int .i64 t174)).setCell ⟨gb176, 2, none⟩ (.int .i64 t175)) = w12 at n0_ n1_ n2_ ⊢
      have HO172 := n0_
      have BK176 := n1_
      have HB := n2_
      clear n0_ n1_ n2_
      have n0_ := Aside0.mk (Kd.R_drew HO172.out)
      have n1_ := Aside0.mk (blk_drew BK176.out)
      have n2_ := Aside0.mk (below_drew1 HB.out)
      clear HO172
      clear BK176
      clear HB
      have HO172 := n0_
      have BK176 := n1_
      have HB := n2_
      clear n0_ n1_ n2_
      refine start_ (n := 4) (S := fun w' => w'.cell? ⟨gb176, 0, none⟩ = some (.int .i64 t173) ∧ w'.cell? ⟨gb176, 1, none⟩ = some (.int .i64 t174) ∧ w'.cell? ⟨gb176, 2, none⟩ = some (.int .i64 t175)) (ds := []) #[false, false, false, false] (by kernel_rfl) rfl rfl ⟨(blk_cell BK176.out 0).trans rfl, (blk_cell BK176.out 1).trans rfl, (blk_cell BK176.out 2).trans rfl⟩ (fun hHeld => ?_)
      generalize w12.drew = w13 at HO172 BK176 HB hHeld ⊢
      refine pure_ (i := 1) (N := some 16) (v := ?_) (a' := ?_) #[false, true, false, false] rfl rfl (by kernel_rfl) (fun _ _ _ h => h) (Or.inl ⟨by rfl, ?_⟩) ?_ ?_
      rotate_left
      · intro w'
        go_simp
        first | with_reducible rfl | (show _ = Result.ok (Next.value (Value.bool true)) w'; (repeat' split) <;> first | rfl | (exfalso; simp [*] at c6b0; done) | (exfalso; simp_all; done)) | (show _ = Result.ok (Next.value (Value.bool false)) w'; (repeat' split) <;> first | rfl | (exfalso; simp [*] at c6b0; done) | (exfalso; simp_all; done))
      rotate_left
      · simp only [Act.put, List.setIfInBounds_toArray, List.set_cons_zero, List.set_cons_succ, i64_w, i32_w]
        rfl
      refine take_ (i := 0) (N := some 15) (v := ?_) (a' := ?_) #[true, true, false, false] rfl rfl (by kernel_rfl) (fun _ _ _ h => h) (Or.inl ⟨by rfl, ?_⟩) hHeld ?_ ?_
      rotate_left
      · rintro w' ⟨s0, s1, s2⟩
        go_simp
        first | with_reducible rfl | (show _ = Result.ok (Next.value (Value.bool true)) w'; (repeat' split) <;> first | rfl | (exfalso; simp [*] at c6b0; done) | (exfalso; simp_all; done)) | (show _ = Result.ok (Next.value (Value.bool false)) w'; (repeat' split) <;> first | rfl | (exfalso; simp [*] at c6b0; done) | (exfalso; simp_all; done))
      rotate_left
      · simp only [Act.put, List.setIfInBounds_toArray, List.set_cons_zero, List.set_cons_succ, i64_w, i32_w]
        rfl
      refine one_ (i := 2) (N := some 17) #[true, true, true, false] rfl rfl (by kernel_rfl) (by decide) (fun K hK => ?_)
      refine goes_ Tryd.func14 (by kernel_rfl) rfl #[.slice Ao8 t170.length co8] (by rfl) rfl rfl (by (try simp only [List.map_toArray, List.map_cons, List.map_nil]); first | done | rfl | (simp only [List.length_drop, List.length_take]; rfl)) ?_
      with_reducible refine (spec_BrdBest.calls k _ _ t170 t177 t178 t179 _ ?side1 ?side2 A5.out).mono ?_
      (case side1 => repeat (first | exact (Kd.R_reads' HO172.out).2.2 | (with_reducible refine Kd.C_alloc ?_ _) | (with_reducible refine Kd.C_drewN ?_ _) | (with_reducible refine Kd.C_drew ?_)))
      (case side2 => exact (Kd.R_reads' HO172.out).2.1)
      rintro e w14 ⟨rfl, hb⟩
      refine ⟨_, rfl, ?_⟩
      have n0_ := Aside0.mk (Kd.R_below (by (with_reducible repeat (first | apply Kd.R_alloc | apply Kd.R_drewN | apply Kd.R_drew)); exact HO172.out) hb)
      have n1_ := Aside0.mk (blk_below (g := gb176) (o := .cells #[.int .i64 t173, .int .i64 t174, .int .i64 t175] 36 (0, 0)) (by (with_reducible repeat (first | refine blk_drewN ?_ _ | refine blk_drew ?_ | refine blk_alloc ?_ _)); exact BK176.out) hb)
      have n2_ := Aside0.mk (below_step (by repeat (first | (with_reducible first | exact HB.out | apply below_alloc | apply pw_below_drewN | apply below_drew1 | refine below_set ?_ GE176.out) | exact HB.out)) hb)
      clear HO172
      clear BK176
      clear HB
      have HO172 := n0_
      have BK176 := n1_
      have HB := n2_
      clear n0_ n1_ n2_
      (try clear hb)
      (try clear hb2)
      (try clear hk)
      (try clear hi)
      refine hK.out _ _ ⟨(blk_cell BK176.out 0).trans rfl, (blk_cell BK176.out 1).trans rfl, (blk_cell BK176.out 2).trans rfl⟩ (fun hHeld => ?_)
      clear hK K
      refine norm_ (a' := ?_) ?_ ?_
      rotate_left
      · show Act.put _ (some 17) _ = _
        simp only [Act.put, List.setIfInBounds_toArray, List.set_cons_zero, List.set_cons_succ, i64_w, i32_w]
        rfl
      refine pure_ (i := 3) (N := some 18) (v := ?_) (a' := ?_) #[true, true, true, true] rfl rfl (by kernel_rfl) (fun _ _ _ h => h) (Or.inl ⟨by rfl, ?_⟩) ?_ ?_
      rotate_left
      · intro w'
        go_simp
        first | with_reducible rfl | (show _ = Result.ok (Next.value (Value.bool true)) w'; (repeat' split) <;> first | rfl | (exfalso; simp [*] at c6b0; done) | (exfalso; simp_all; done)) | (show _ = Result.ok (Next.value (Value.bool false)) w'; (repeat' split) <;> first | rfl | (exfalso; simp [*] at c6b0; done) | (exfalso; simp_all; done))
      rotate_left
      · simp only [Act.put, List.setIfInBounds_toArray, List.set_cons_zero, List.set_cons_succ, i64_w, i32_w]
        rfl
      refine done_ (by kernel_rfl) ?_
      try go_wp2
      all_goals (first | (exfalso; simp [*] at c6b0; done) | (go_ret; exact ⟨by first | rfl | (simp [IntKind.wrap_i64, wrap64]; done) | (simp [errW_none, errW_some] <;> rfl) | (simp [*, errW_none, errW_some] <;> rfl), by repeat (first | (with_reducible first | exact HB.out | apply below_alloc | apply pw_below_drewN | apply below_drew1 | refine below_set ?_ GE176.out) | exact HB.out)⟩))
    · rw [if_neg c6] at H
      have c6b0 : ((!(t173 == t177) || (!(t174 == t178))) || (!(t175 == t179))) = false := by simpa using c6
      clear c6
      by_cases c15 : (t170.length : Int) = 0
      · rw [if_pos c15] at H
        have c15b0 : ((t170.length : Int) == 0) = true := beq_iff_eq.mpr c15
        have c15b1 : ((t170.length : Int) != 0) = false := bne_eq_false_iff_eq.mpr c15
        clear c15
        by_cases c16 : ((t173 == 0 && (t174 == 0)) && (t175 == (-1))) = true
        · rw [if_pos c16] at H
          have c16b0 : ((t173 == 0 && (t174 == 0)) && (t175 == (-1))) = true := c16
          clear c16
          replace H := Option.bind_eq_some_iff.mp H
          obtain ⟨t180, A170, H⟩ := H
          replace H : (some t180) = some r := H
          have A17 := Aside0.mk A170
          clear A170
          obtain rfl := Option.some.inj H
          go_enter Tryd.func4, Tryd.ntmps4
          try go_wp2_with (first | ((with_reducible refine gate_callee (f := 12) rfl ?_); refine goesL_ (some 12) rfl rfl Tryd.func12 (by kernel_rfl) rfl #[.slice A0 l0.length c0] rfl (by (try simp only [List.map_toArray, List.map_cons, List.map_nil]); first | done | rfl | (simp only [List.length_drop, List.length_take]; rfl)) ?_; (with_reducible refine (spec_DrawBrdBest.calls k _ _ l0 t170 _ ?side1 ?side2 A3.out).mono ?_); (case side1 => repeat (first | exact HR0.out | (with_reducible refine Kd.C_alloc ?_ _) | (with_reducible refine Kd.C_drewN ?_ _) | (with_reducible refine Kd.C_drew ?_))); (case side2 => exact HC0.out); rintro e w18 ⟨v171, rfl, ho0, hb⟩; refine ⟨_, rfl, ?_⟩; have n0_ := Aside0.mk (Kd.R_lower ho0 (below_size (by repeat (first | (with_reducible first | exact HB.out | apply below_alloc | apply pw_below_drewN | apply below_drew1) | exact HB.out)))); have n1_ := Aside0.mk (below_step (by repeat (first | (with_reducible first | exact HB.out | apply below_alloc | apply pw_below_drewN | apply below_drew1) | exact HB.out)) hb); clear HB; have HO172 := n0_; have HB := n1_; clear n0_ n1_; (try clear hb); (try clear hb2); (try clear hk); (try clear hi); (try clear ho0); obtain ⟨Ao19, co19, eo19⟩ := Kd.R_slice HO172.out; subst eo19) | ((with_reducible refine gate_callee (f := 13) rfl ?_); refine goesL_ (some 14) rfl rfl Tryd.func13 (by kernel_rfl) rfl #[.slice Ao19 t170.length co19] rfl (by (try simp only [List.map_toArray, List.map_cons, List.map_nil]); first | done | rfl | (simp only [List.length_drop, List.length_take]; rfl)) ?_; (with_reducible refine (impl_BrdBest.calls k _ _ t170 t173 t174 t175 _ ?side1 ?side2 A4.out).mono ?_); (case side1 => repeat (first | exact (Kd.R_reads' HO172.out).2.2 | (with_reducible refine Kd.C_alloc ?_ _) | (with_reducible refine Kd.C_drewN ?_ _) | (with_reducible refine Kd.C_drew ?_))); (case side2 => exact (Kd.R_reads' HO172.out).2.1); rintro e w20 ⟨rfl, hb⟩; refine ⟨_, rfl, ?_⟩; have n0_ := Aside0.mk (Kd.R_below (by (with_reducible repeat (first | apply Kd.R_alloc | apply Kd.R_drewN | apply Kd.R_drew)); exact HO172.out) hb); have n1_ := Aside0.mk (below_step (by repeat (first | (with_reducible first | exact HB.out | apply below_alloc | apply pw_below_drewN | apply below_drew1) | exact HB.out)) hb); clear HO172; clear HB; have HO172 := n0_; have HB := n1_; clear n0_ n1_; (try clear hb); (try clear hb2); (try clear hk); (try clear hi)) | ((with_reducible refine gate_dst (N := 4) rfl ?_); refine box_event ?hg (N := 4) ?hd (cs := #[.int .i64 0, .int .i64 0, .int .i64 0]) (t := 36) ?hr ?_; (case hd => rfl); (case hg => rfl); (case hr => first | (go_simp; done) | (go_simp; rfl)); intro gb176 hg w21 hbox hb; have n0_ := Aside0.mk (Kd.R_below (Kd.R_elderB (by (with_reducible repeat (first | apply Kd.R_alloc | apply Kd.R_drewN | apply Kd.R_drew)); exact HO172.out) gb176 (Nat.le_of_eq hg.symm)) hb); have n1_ := Aside0.mk (below_step (by repeat (first | (with_reducible first | exact HB.out | apply below_alloc | apply pw_below_drewN | apply below_drew1) | exact HB.out)) hb); have n2_ := Aside0.mk (hbox); have n3_ := Aside0.mk ((by rw [hg]; exact (below_size (by repeat (first | (with_reducible first | exact HB.out | apply below_alloc | apply pw_below_drewN | apply below_drew1) | exact HB.out))) : w.heap.size ≤ gb176)); have n4_ := Aside0.mk ((by rw [hg]; exact (below_size (by repeat (first | (with_reducible first | exact HB.out | apply below_alloc | apply pw_below_drewN | apply below_drew1) | exact HB.out))) : w.heap.size ≤ gb176)); clear HO172; clear HB; have HO172 := n0_; have HB := n1_; have BK176 := n2_; have GW176 := n3_; have GE176 := n4_; clear n0_ n1_ n2_ n3_ n4_; clear hb hbox hg; have hcz22_0 : w21.cell? ⟨gb176, 0, none⟩ = some (.int .i64 0) := (blk_cell BK176.out 0).trans rfl; have hcz22_1 : w21.cell? ⟨gb176, 1, none⟩ = some (.int .i64 0) := (blk_cell BK176.out 1).trans rfl; have hcz22_2 : w21.cell? ⟨gb176, 2, none⟩ = some (.int .i64 0) := (blk_cell BK176.out 2).trans rfl; have hfz22_0 := blk_frozen BK176.out 0; have hfz22_1 := blk_frozen BK176.out 1; have hfz22_2 := blk_frozen BK176.out 2))
          have n0_ : Aside0 (Kd.R k36 36 (((w21.setCell ⟨gb176, 0, none⟩ (.int .i64 t173)).setCell ⟨gb176, 1, none⟩ (.int .i64 t174)).setCell ⟨gb176, 2, none⟩ (.int .i64 t175)) w.heap.size (fun k_ => k_ ≠ gb176) (.slice Ao19 t170.length co19) t170) := ⟨by (with_reducible repeat (first | apply Kd.R_alloc | apply Kd.R_drewN | apply Kd.R_drew)); exact Kd.R_mono (Kd.R_far (p := ⟨gb176, 2, none⟩) (Kd.R_far (p := ⟨gb176, 1, none⟩) (Kd.R_far (p := ⟨gb176, 0, none⟩) (Kd.R_mono HO172.out (fun k_ hk => (⟨hk, hk.2⟩ : _ ∧ k_ ≠ gb176))) (fun _ hk => hk.2) (.int .i64 t173)) (fun _ hk => hk.2) (.int .i64 t174)) (fun _ hk => hk.2) (.int .i64 t175)) (fun _ hk => hk.1.2)⟩
          have n1_ : Aside0 ((((w21.setCell ⟨gb176, 0, none⟩ (.int .i64 t173)).setCell ⟨gb176, 1, none⟩ (.int .i64 t174)).setCell ⟨gb176, 2, none⟩ (.int .i64 t175)).heap[gb176]? = some (.cells #[.int .i64 t173, .int .i64 t174, .int .i64 t175] 36 (0, 0))) := ⟨by (with_reducible repeat (first | refine blk_drewN ?_ _ | refine blk_drew ?_ | refine blk_alloc ?_ _)); refine blk_put (cs := #[.int .i64 t173, .int .i64 t174, .int .i64 0]) ?_ 2 _ rfl; (with_reducible repeat (first | refine blk_drewN ?_ _ | refine blk_drew ?_ | refine blk_alloc ?_ _)); refine blk_put (cs := #[.int .i64 t173, .int .i64 0, .int .i64 0]) ?_ 1 _ rfl; (with_reducible repeat (first | refine blk_drewN ?_ _ | refine blk_drew ?_ | refine blk_alloc ?_ _)); refine blk_put (cs := #[.int .i64 0, .int .i64 0, .int .i64 0]) ?_ 0 _ rfl; (with_reducible repeat (first | refine blk_drewN ?_ _ | refine blk_drew ?_ | refine blk_alloc ?_ _)); exact BK176.out⟩
          have n2_ : Aside0 (Below w.heap.size w (((w21.setCell ⟨gb176, 0, none⟩ (.int .i64 t173)).setCell ⟨gb176, 1, none⟩ (.int .i64 t174)).setCell ⟨gb176, 2, none⟩ (.int .i64 t175))) := ⟨by repeat (first | (with_reducible first | exact HB.out | apply below_alloc | apply pw_below_drewN | apply below_drew1 | refine below_set ?_ GE176.out) | exact HB.out)⟩
          (try clear HO172)
          (try clear BK176)
          (try clear HB)
          generalize (((w21.setCell ⟨gb176, 0, none⟩ (.int .i64 t173)).setCell ⟨gb176, 1, none⟩ (.int .i64 t174)).setCell ⟨gb176, 2, none⟩ (.int .i64 t175)) = w23 at n0_ n1_ n2_ ⊢
          have HO172 := n0_
          have BK176 := n1_
          have HB := n2_
          clear n0_ n1_ n2_
          have n0_ := Aside0.mk (Kd.R_drew HO172.out)
          have n1_ := Aside0.mk (blk_drew BK176.out)
          have n2_ := Aside0.mk (below_drew1 HB.out)
          clear HO172
          clear BK176
          clear HB
          have HO172 := n0_
          have BK176 := n1_
          have HB := n2_
          clear n0_ n1_ n2_
          refine start_ (n := 4) (S := fun w' => w'.cell? ⟨gb176, 0, none⟩ = some (.int .i64 t173) ∧ w'.cell? ⟨gb176, 1, none⟩ = some (.int .i64 t174) ∧ w'.cell? ⟨gb176, 2, none⟩ = some (.int .i64 t175)) (ds := []) #[false, false, false, false] (by kernel_rfl) rfl rfl ⟨(blk_cell BK176.out 0).trans rfl, (blk_cell BK176.out 1).trans rfl, (blk_cell BK176.out 2).trans rfl⟩ (fun hHeld => ?_)
          generalize w23.drew = w24 at HO172 BK176 HB hHeld ⊢
          refine pure_ (i := 1) (N := some 16) (v := ?_) (a' := ?_) #[false, true, false, false] rfl rfl (by kernel_rfl) (fun _ _ _ h => h) (Or.inl ⟨by rfl, ?_⟩) ?_ ?_
          rotate_left
          · intro w'
            go_simp
            first | with_reducible rfl | (show _ = Result.ok (Next.value (Value.bool true)) w'; (repeat' split) <;> first | rfl | (exfalso; simp [*] at c16b0; done) | (exfalso; simp_all; done)) | (show _ = Result.ok (Next.value (Value.bool false)) w'; (repeat' split) <;> first | rfl | (exfalso; simp [*] at c16b0; done) | (exfalso; simp_all; done))
          rotate_left
          · simp only [Act.put, List.setIfInBounds_toArray, List.set_cons_zero, List.set_cons_succ, i64_w, i32_w]
            rfl
          refine take_ (i := 0) (N := some 15) (v := ?_) (a' := ?_) #[true, true, false, false] rfl rfl (by kernel_rfl) (fun _ _ _ h => h) (Or.inl ⟨by rfl, ?_⟩) hHeld ?_ ?_
          rotate_left
          · rintro w' ⟨s0, s1, s2⟩
            go_simp
            first | with_reducible rfl | (show _ = Result.ok (Next.value (Value.bool true)) w'; (repeat' split) <;> first | rfl | (exfalso; simp [*] at c16b0; done) | (exfalso; simp_all; done)) | (show _ = Result.ok (Next.value (Value.bool false)) w'; (repeat' split) <;> first | rfl | (exfalso; simp [*] at c16b0; done) | (exfalso; simp_all; done))
          rotate_left
          · simp only [Act.put, List.setIfInBounds_toArray, List.set_cons_zero, List.set_cons_succ, i64_w, i32_w]
            rfl
          refine one_ (i := 2) (N := some 17) #[true, true, true, false] rfl rfl (by kernel_rfl) (by decide) (fun K hK => ?_)
          refine goes_ Tryd.func14 (by kernel_rfl) rfl #[.slice Ao19 t170.length co19] (by rfl) rfl rfl (by (try simp only [List.map_toArray, List.map_cons, List.map_nil]); first | done | rfl | (simp only [List.length_drop, List.length_take]; rfl)) ?_
          with_reducible refine (spec_BrdBest.calls k _ _ t170 t177 t178 t179 _ ?side1 ?side2 A5.out).mono ?_
          (case side1 => repeat (first | exact (Kd.R_reads' HO172.out).2.2 | (with_reducible refine Kd.C_alloc ?_ _) | (with_reducible refine Kd.C_drewN ?_ _) | (with_reducible refine Kd.C_drew ?_)))
          (case side2 => exact (Kd.R_reads' HO172.out).2.1)
          rintro e w25 ⟨rfl, hb⟩
          refine ⟨_, rfl, ?_⟩
          have n0_ := Aside0.mk (Kd.R_below (by (with_reducible repeat (first | apply Kd.R_alloc | apply Kd.R_drewN | apply Kd.R_drew)); exact HO172.out) hb)
          have n1_ := Aside0.mk (blk_below (g := gb176) (o := .cells #[.int .i64 t173, .int .i64 t174, .int .i64 t175] 36 (0, 0)) (by (with_reducible repeat (first | refine blk_drewN ?_ _ | refine blk_drew ?_ | refine blk_alloc ?_ _)); exact BK176.out) hb)
          have n2_ := Aside0.mk (below_step (by repeat (first | (with_reducible first | exact HB.out | apply below_alloc | apply pw_below_drewN | apply below_drew1 | refine below_set ?_ GE176.out) | exact HB.out)) hb)
          clear HO172
          clear BK176
          clear HB
          have HO172 := n0_
          have BK176 := n1_
          have HB := n2_
          clear n0_ n1_ n2_
          (try clear hb)
          (try clear hb2)
          (try clear hk)
          (try clear hi)
          refine hK.out _ _ ⟨(blk_cell BK176.out 0).trans rfl, (blk_cell BK176.out 1).trans rfl, (blk_cell BK176.out 2).trans rfl⟩ (fun hHeld => ?_)
          clear hK K
          refine norm_ (a' := ?_) ?_ ?_
          rotate_left
          · show Act.put _ (some 17) _ = _
            simp only [Act.put, List.setIfInBounds_toArray, List.set_cons_zero, List.set_cons_succ, i64_w, i32_w]
            rfl
          refine pure_ (i := 3) (N := some 18) (v := ?_) (a' := ?_) #[true, true, true, true] rfl rfl (by kernel_rfl) (fun _ _ _ h => h) (Or.inl ⟨by rfl, ?_⟩) ?_ ?_
          rotate_left
          · intro w'
            go_simp
            first | with_reducible rfl | (show _ = Result.ok (Next.value (Value.bool true)) w'; (repeat' split) <;> first | rfl | (exfalso; simp [*] at c16b0; done) | (exfalso; simp_all; done)) | (show _ = Result.ok (Next.value (Value.bool false)) w'; (repeat' split) <;> first | rfl | (exfalso; simp [*] at c16b0; done) | (exfalso; simp_all; done))
          rotate_left
          · simp only [Act.put, List.setIfInBounds_toArray, List.set_cons_zero, List.set_cons_succ, i64_w, i32_w]
            rfl
          refine done_ (by kernel_rfl) ?_
          have hcz26_0 : w25.cell? ⟨gb176, 0, none⟩ = some (.int .i64 t173) := (blk_cell BK176.out 0).trans rfl
          have hcz26_1 : w25.cell? ⟨gb176, 1, none⟩ = some (.int .i64 t174) := (blk_cell BK176.out 1).trans rfl
          have hcz26_2 : w25.cell? ⟨gb176, 2, none⟩ = some (.int .i64 t175) := (blk_cell BK176.out 2).trans rfl
          have hfz26_0 := blk_frozen BK176.out 0
          have hfz26_1 := blk_frozen BK176.out 1
          have hfz26_2 := blk_frozen BK176.out 2
          try go_wp2_with (first | (go_at_call 11; (with_reducible refine (laws_pwOk.calls  t180 _ ?sideM A17.out).mono ?_); (case sideM => repeat (first | exact HM.out | exact (Txt.MLen_below HM.out HB.out) | (with_reducible refine Txt.MLen_alloc ?_ _) | (with_reducible refine Txt.MLen_drewN ?_ _) | (with_reducible refine Txt.MLen_drew ?_))); rintro e w27 ⟨rfl, hb⟩; have n0_ := Aside0.mk (Kd.R_below (by (with_reducible repeat (first | apply Kd.R_alloc | apply Kd.R_drewN | apply Kd.R_drew)); exact HO172.out) hb); have n1_ := Aside0.mk (blk_below (g := gb176) (o := .cells #[.int .i64 t173, .int .i64 t174, .int .i64 t175] 36 (0, 0)) (by (with_reducible repeat (first | refine blk_drewN ?_ _ | refine blk_drew ?_ | refine blk_alloc ?_ _)); exact BK176.out) hb); have n2_ := Aside0.mk (below_step (by repeat (first | (with_reducible first | exact HB.out | apply below_alloc | apply pw_below_drewN | apply below_drew1 | refine below_set ?_ GE176.out) | exact HB.out)) hb); clear HO172; clear BK176; clear HB; have HO172 := n0_; have BK176 := n1_; have HB := n2_; clear n0_ n1_ n2_; (try clear hb); (try clear hb2); (try clear hk); (try clear hi)))
          all_goals (first | (exfalso; simp [*] at c16b0; done) | (go_ret; exact ⟨by first | rfl | (simp [IntKind.wrap_i64, wrap64]; done) | (simp [errW_none, errW_some] <;> rfl) | (simp [*, errW_none, errW_some] <;> rfl), by repeat (first | (with_reducible first | exact HB.out | apply below_alloc | apply pw_below_drewN | apply below_drew1 | refine below_set ?_ GE176.out) | exact HB.out)⟩))
        · rw [if_neg c16] at H
          have c16b0 : ((t173 == 0 && (t174 == 0)) && (t175 == (-1))) = false := by simpa using c16
          clear c16
          obtain rfl := Option.some.inj H
          go_enter Tryd.func4, Tryd.ntmps4
          try go_wp2_with (first | ((with_reducible refine gate_callee (f := 12) rfl ?_); refine goesL_ (some 12) rfl rfl Tryd.func12 (by kernel_rfl) rfl #[.slice A0 l0.length c0] rfl (by (try simp only [List.map_toArray, List.map_cons, List.map_nil]); first | done | rfl | (simp only [List.length_drop, List.length_take]; rfl)) ?_; (with_reducible refine (spec_DrawBrdBest.calls k _ _ l0 t170 _ ?side1 ?side2 A3.out).mono ?_); (case side1 => repeat (first | exact HR0.out | (with_reducible refine Kd.C_alloc ?_ _) | (with_reducible refine Kd.C_drewN ?_ _) | (with_reducible refine Kd.C_drew ?_))); (case side2 => exact HC0.out); rintro e w28 ⟨v171, rfl, ho0, hb⟩; refine ⟨_, rfl, ?_⟩; have n0_ := Aside0.mk (Kd.R_lower ho0 (below_size (by repeat (first | (with_reducible first | exact HB.out | apply below_alloc | apply pw_below_drewN | apply below_drew1) | exact HB.out)))); have n1_ := Aside0.mk (below_step (by repeat (first | (with_reducible first | exact HB.out | apply below_alloc | apply pw_below_drewN | apply below_drew1) | exact HB.out)) hb); clear HB; have HO172 := n0_; have HB := n1_; clear n0_ n1_; (try clear hb); (try clear hb2); (try clear hk); (try clear hi); (try clear ho0); obtain ⟨Ao29, co29, eo29⟩ := Kd.R_slice HO172.out; subst eo29) | ((with_reducible refine gate_callee (f := 13) rfl ?_); refine goesL_ (some 14) rfl rfl Tryd.func13 (by kernel_rfl) rfl #[.slice Ao29 t170.length co29] rfl (by (try simp only [List.map_toArray, List.map_cons, List.map_nil]); first | done | rfl | (simp only [List.length_drop, List.length_take]; rfl)) ?_; (with_reducible refine (impl_BrdBest.calls k _ _ t170 t173 t174 t175 _ ?side1 ?side2 A4.out).mono ?_); (case side1 => repeat (first | exact (Kd.R_reads' HO172.out).2.2 | (with_reducible refine Kd.C_alloc ?_ _) | (with_reducible refine Kd.C_drewN ?_ _) | (with_reducible refine Kd.C_drew ?_))); (case side2 => exact (Kd.R_reads' HO172.out).2.1); rintro e w30 ⟨rfl, hb⟩; refine ⟨_, rfl, ?_⟩; have n0_ := Aside0.mk (Kd.R_below (by (with_reducible repeat (first | apply Kd.R_alloc | apply Kd.R_drewN | apply Kd.R_drew)); exact HO172.out) hb); have n1_ := Aside0.mk (below_step (by repeat (first | (with_reducible first | exact HB.out | apply below_alloc | apply pw_below_drewN | apply below_drew1) | exact HB.out)) hb); clear HO172; clear HB; have HO172 := n0_; have HB := n1_; clear n0_ n1_; (try clear hb); (try clear hb2); (try clear hk); (try clear hi)) | ((with_reducible refine gate_dst (N := 4) rfl ?_); refine box_event ?hg (N := 4) ?hd (cs := #[.int .i64 0, .int .i64 0, .int .i64 0]) (t := 36) ?hr ?_; (case hd => rfl); (case hg => rfl); (case hr => first | (go_simp; done) | (go_simp; rfl)); intro gb176 hg w31 hbox hb; have n0_ := Aside0.mk (Kd.R_below (Kd.R_elderB (by (with_reducible repeat (first | apply Kd.R_alloc | apply Kd.R_drewN | apply Kd.R_drew)); exact HO172.out) gb176 (Nat.le_of_eq hg.symm)) hb); have n1_ := Aside0.mk (below_step (by repeat (first | (with_reducible first | exact HB.out | apply below_alloc | apply pw_below_drewN | apply below_drew1) | exact HB.out)) hb); have n2_ := Aside0.mk (hbox); have n3_ := Aside0.mk ((by rw [hg]; exact (below_size (by repeat (first | (with_reducible first | exact HB.out | apply below_alloc | apply pw_below_drewN | apply below_drew1) | exact HB.out))) : w.heap.size ≤ gb176)); have n4_ := Aside0.mk ((by rw [hg]; exact (below_size (by repeat (first | (with_reducible first | exact HB.out | apply below_alloc | apply pw_below_drewN | apply below_drew1) | exact HB.out))) : w.heap.size ≤ gb176)); clear HO172; clear HB; have HO172 := n0_; have HB := n1_; have BK176 := n2_; have GW176 := n3_; have GE176 := n4_; clear n0_ n1_ n2_ n3_ n4_; clear hb hbox hg; have hcz32_0 : w31.cell? ⟨gb176, 0, none⟩ = some (.int .i64 0) := (blk_cell BK176.out 0).trans rfl; have hcz32_1 : w31.cell? ⟨gb176, 1, none⟩ = some (.int .i64 0) := (blk_cell BK176.out 1).trans rfl; have hcz32_2 : w31.cell? ⟨gb176, 2, none⟩ = some (.int .i64 0) := (blk_cell BK176.out 2).trans rfl; have hfz32_0 := blk_frozen BK176.out 0; have hfz32_1 := blk_frozen BK176.out 1; have hfz32_2 := blk_frozen BK176.out 2))
          have n0_ : Aside0 (Kd.R k36 36 (((w31.setCell ⟨gb176, 0, none⟩ (.int .i64 t173)).setCell ⟨gb176, 1, none⟩ (.int .i64 t174)).setCell ⟨gb176, 2, none⟩ (.int .i64 t175)) w.heap.size (fun k_ => k_ ≠ gb176) (.slice Ao29 t170.length co29) t170) := ⟨by (with_reducible repeat (first | apply Kd.R_alloc | apply Kd.R_drewN | apply Kd.R_drew)); exact Kd.R_mono (Kd.R_far (p := ⟨gb176, 2, none⟩) (Kd.R_far (p := ⟨gb176, 1, none⟩) (Kd.R_far (p := ⟨gb176, 0, none⟩) (Kd.R_mono HO172.out (fun k_ hk => (⟨hk, hk.2⟩ : _ ∧ k_ ≠ gb176))) (fun _ hk => hk.2) (.int .i64 t173)) (fun _ hk => hk.2) (.int .i64 t174)) (fun _ hk => hk.2) (.int .i64 t175)) (fun _ hk => hk.1.2)⟩
          have n1_ : Aside0 ((((w31.setCell ⟨gb176, 0, none⟩ (.int .i64 t173)).setCell ⟨gb176, 1, none⟩ (.int .i64 t174)).setCell ⟨gb176, 2, none⟩ (.int .i64 t175)).heap[gb176]? = some (.cells #[.int .i64 t173, .int .i64 t174, .int .i64 t175] 36 (0, 0))) := ⟨by (with_reducible repeat (first | refine blk_drewN ?_ _ | refine blk_drew ?_ | refine blk_alloc ?_ _)); refine blk_put (cs := #[.int .i64 t173, .int .i64 t174, .int .i64 0]) ?_ 2 _ rfl; (with_reducible repeat (first | refine blk_drewN ?_ _ | refine blk_drew ?_ | refine blk_alloc ?_ _)); refine blk_put (cs := #[.int .i64 t173, .int .i64 0, .int .i64 0]) ?_ 1 _ rfl; (with_reducible repeat (first | refine blk_drewN ?_ _ | refine blk_drew ?_ | refine blk_alloc ?_ _)); refine blk_put (cs := #[.int .i64 0, .int .i64 0, .int .i64 0]) ?_ 0 _ rfl; (with_reducible repeat (first | refine blk_drewN ?_ _ | refine blk_drew ?_ | refine blk_alloc ?_ _)); exact BK176.out⟩
          have n2_ : Aside0 (Below w.heap.size w (((w31.setCell ⟨gb176, 0, none⟩ (.int .i64 t173)).setCell ⟨gb176, 1, none⟩ (.int .i64 t174)).setCell ⟨gb176, 2, none⟩ (.int .i64 t175))) := ⟨by repeat (first | (with_reducible first | exact HB.out | apply below_alloc | apply pw_below_drewN | apply below_drew1 | refine below_set ?_ GE176.out) | exact HB.out)⟩
          (try clear HO172)
          (try clear BK176)
          (try clear HB)
          generalize (((w31.setCell ⟨gb176, 0, none⟩ (.int .i64 t173)).setCell ⟨gb176, 1, none⟩ (.int .i64 t174)).setCell ⟨gb176, 2, none⟩ (.int .i64 t175)) = w33 at n0_ n1_ n2_ ⊢
          have HO172 := n0_
          have BK176 := n1_
          have HB := n2_
          clear n0_ n1_ n2_
          have n0_ := Aside0.mk (Kd.R_drew HO172.out)
          have n1_ := Aside0.mk (blk_drew BK176.out)
          have n2_ := Aside0.mk (below_drew1 HB.out)
          clear HO172
          clear BK176
          clear HB
          have HO172 := n0_
          have BK176 := n1_
          have HB := n2_
          clear n0_ n1_ n2_
          refine start_ (n := 4) (S := fun w' => w'.cell? ⟨gb176, 0, none⟩ = some (.int .i64 t173) ∧ w'.cell? ⟨gb176, 1, none⟩ = some (.int .i64 t174) ∧ w'.cell? ⟨gb176, 2, none⟩ = some (.int .i64 t175)) (ds := []) #[false, false, false, false] (by kernel_rfl) rfl rfl ⟨(blk_cell BK176.out 0).trans rfl, (blk_cell BK176.out 1).trans rfl, (blk_cell BK176.out 2).trans rfl⟩ (fun hHeld => ?_)
          generalize w33.drew = w34 at HO172 BK176 HB hHeld ⊢
          refine pure_ (i := 1) (N := some 16) (v := ?_) (a' := ?_) #[false, true, false, false] rfl rfl (by kernel_rfl) (fun _ _ _ h => h) (Or.inl ⟨by rfl, ?_⟩) ?_ ?_
          rotate_left
          · intro w'
            go_simp
            first | with_reducible rfl | (show _ = Result.ok (Next.value (Value.bool true)) w'; (repeat' split) <;> first | rfl | (exfalso; simp [*] at c16b0; done) | (exfalso; simp_all; done)) | (show _ = Result.ok (Next.value (Value.bool false)) w'; (repeat' split) <;> first | rfl | (exfalso; simp [*] at c16b0; done) | (exfalso; simp_all; done))
          rotate_left
          · simp only [Act.put, List.setIfInBounds_toArray, List.set_cons_zero, List.set_cons_succ, i64_w, i32_w]
            rfl
          refine take_ (i := 0) (N := some 15) (v := ?_) (a' := ?_) #[true, true, false, false] rfl rfl (by kernel_rfl) (fun _ _ _ h => h) (Or.inl ⟨by rfl, ?_⟩) hHeld ?_ ?_
          rotate_left
          · rintro w' ⟨s0, s1, s2⟩
            go_simp
            first | with_reducible rfl | (show _ = Result.ok (Next.value (Value.bool true)) w'; (repeat' split) <;> first | rfl | (exfalso; simp [*] at c16b0; done) | (exfalso; simp_all; done)) | (show _ = Result.ok (Next.value (Value.bool false)) w'; (repeat' split) <;> first | rfl | (exfalso; simp [*] at c16b0; done) | (exfalso; simp_all; done))
          rotate_left
          · simp only [Act.put, List.setIfInBounds_toArray, List.set_cons_zero, List.set_cons_succ, i64_w, i32_w]
            rfl
          refine one_ (i := 2) (N := some 17) #[true, true, true, false] rfl rfl (by kernel_rfl) (by decide) (fun K hK => ?_)
          refine goes_ Tryd.func14 (by kernel_rfl) rfl #[.slice Ao29 t170.length co29] (by rfl) rfl rfl (by (try simp only [List.map_toArray, List.map_cons, List.map_nil]); first | done | rfl | (simp only [List.length_drop, List.length_take]; rfl)) ?_
          with_reducible refine (spec_BrdBest.calls k _ _ t170 t177 t178 t179 _ ?side1 ?side2 A5.out).mono ?_
          (case side1 => repeat (first | exact (Kd.R_reads' HO172.out).2.2 | (with_reducible refine Kd.C_alloc ?_ _) | (with_reducible refine Kd.C_drewN ?_ _) | (with_reducible refine Kd.C_drew ?_)))
          (case side2 => exact (Kd.R_reads' HO172.out).2.1)
          rintro e w35 ⟨rfl, hb⟩
          refine ⟨_, rfl, ?_⟩
          have n0_ := Aside0.mk (Kd.R_below (by (with_reducible repeat (first | apply Kd.R_alloc | apply Kd.R_drewN | apply Kd.R_drew)); exact HO172.out) hb)
          have n1_ := Aside0.mk (blk_below (g := gb176) (o := .cells #[.int .i64 t173, .int .i64 t174, .int .i64 t175] 36 (0, 0)) (by (with_reducible repeat (first | refine blk_drewN ?_ _ | refine blk_drew ?_ | refine blk_alloc ?_ _)); exact BK176.out) hb)
          have n2_ := Aside0.mk (below_step (by repeat (first | (with_reducible first | exact HB.out | apply below_alloc | apply pw_below_drewN | apply below_drew1 | refine below_set ?_ GE176.out) | exact HB.out)) hb)
          clear HO172
          clear BK176
          clear HB
          have HO172 := n0_
          have BK176 := n1_
          have HB := n2_
          clear n0_ n1_ n2_
          (try clear hb)
          (try clear hb2)
          (try clear hk)
          (try clear hi)
          refine hK.out _ _ ⟨(blk_cell BK176.out 0).trans rfl, (blk_cell BK176.out 1).trans rfl, (blk_cell BK176.out 2).trans rfl⟩ (fun hHeld => ?_)
          clear hK K
          refine norm_ (a' := ?_) ?_ ?_
          rotate_left
          · show Act.put _ (some 17) _ = _
            simp only [Act.put, List.setIfInBounds_toArray, List.set_cons_zero, List.set_cons_succ, i64_w, i32_w]
            rfl
          refine pure_ (i := 3) (N := some 18) (v := ?_) (a' := ?_) #[true, true, true, true] rfl rfl (by kernel_rfl) (fun _ _ _ h => h) (Or.inl ⟨by rfl, ?_⟩) ?_ ?_
          rotate_left
          · intro w'
            go_simp
            first | with_reducible rfl | (show _ = Result.ok (Next.value (Value.bool true)) w'; (repeat' split) <;> first | rfl | (exfalso; simp [*] at c16b0; done) | (exfalso; simp_all; done)) | (show _ = Result.ok (Next.value (Value.bool false)) w'; (repeat' split) <;> first | rfl | (exfalso; simp [*] at c16b0; done) | (exfalso; simp_all; done))
          rotate_left
          · simp only [Act.put, List.setIfInBounds_toArray, List.set_cons_zero, List.set_cons_succ, i64_w, i32_w]
            rfl
          refine done_ (by kernel_rfl) ?_
          have hcz36_0 : w35.cell? ⟨gb176, 0, none⟩ = some (.int .i64 t173) := (blk_cell BK176.out 0).trans rfl
          have hcz36_1 : w35.cell? ⟨gb176, 1, none⟩ = some (.int .i64 t174) := (blk_cell BK176.out 1).trans rfl
          have hcz36_2 : w35.cell? ⟨gb176, 2, none⟩ = some (.int .i64 t175) := (blk_cell BK176.out 2).trans rfl
          have hfz36_0 := blk_frozen BK176.out 0
          have hfz36_1 := blk_frozen BK176.out 1
          have hfz36_2 := blk_frozen BK176.out 2
          try go_wp2
          all_goals (first | (exfalso; simp [*] at c16b0; done) | (go_ret; exact ⟨by first | rfl | (simp [IntKind.wrap_i64, wrap64]; done) | (simp [errW_none, errW_some] <;> rfl) | (simp [*, errW_none, errW_some] <;> rfl), by repeat (first | (with_reducible first | exact HB.out | apply below_alloc | apply pw_below_drewN | apply below_drew1 | refine below_set ?_ GE176.out) | exact HB.out)⟩))
      · rw [if_neg c15] at H
        have c15b0 : ((t170.length : Int) == 0) = false := beq_eq_false_iff_ne.mpr c15
        have c15b1 : ((t170.length : Int) != 0) = true := bne_iff_ne.mpr c15
        have c15b2 : ¬ (t170 = []) := fun h_ => c15 (by rw [h_]; rfl)
        have H' := Aside0.mk H
        clear H
        go_enter Tryd.func4, Tryd.ntmps4
        try go_wp2_with (first | ((with_reducible refine gate_callee (f := 12) rfl ?_); refine goesL_ (some 12) rfl rfl Tryd.func12 (by kernel_rfl) rfl #[.slice A0 l0.length c0] rfl (by (try simp only [List.map_toArray, List.map_cons, List.map_nil]); first | done | rfl | (simp only [List.length_drop, List.length_take]; rfl)) ?_; (with_reducible refine (spec_DrawBrdBest.calls k _ _ l0 t170 _ ?side1 ?side2 A3.out).mono ?_); (case side1 => repeat (first | exact HR0.out | (with_reducible refine Kd.C_alloc ?_ _) | (with_reducible refine Kd.C_drewN ?_ _) | (with_reducible refine Kd.C_drew ?_))); (case side2 => exact HC0.out); rintro e w37 ⟨v171, rfl, ho0, hb⟩; refine ⟨_, rfl, ?_⟩; have n0_ := Aside0.mk (Kd.R_lower ho0 (below_size (by repeat (first | (with_reducible first | exact HB.out | apply below_alloc | apply pw_below_drewN | apply below_drew1) | exact HB.out)))); have n1_ := Aside0.mk (below_step (by repeat (first | (with_reducible first | exact HB.out | apply below_alloc | apply pw_below_drewN | apply below_drew1) | exact HB.out)) hb); clear HB; have HO172 := n0_; have HB := n1_; clear n0_ n1_; (try clear hb); (try clear hb2); (try clear hk); (try clear hi); (try clear ho0); obtain ⟨Ao38, co38, eo38⟩ := Kd.R_slice HO172.out; subst eo38) | ((with_reducible refine gate_callee (f := 13) rfl ?_); refine goesL_ (some 14) rfl rfl Tryd.func13 (by kernel_rfl) rfl #[.slice Ao38 t170.length co38] rfl (by (try simp only [List.map_toArray, List.map_cons, List.map_nil]); first | done | rfl | (simp only [List.length_drop, List.length_take]; rfl)) ?_; (with_reducible refine (impl_BrdBest.calls k _ _ t170 t173 t174 t175 _ ?side1 ?side2 A4.out).mono ?_); (case side1 => repeat (first | exact (Kd.R_reads' HO172.out).2.2 | (with_reducible refine Kd.C_alloc ?_ _) | (with_reducible refine Kd.C_drewN ?_ _) | (with_reducible refine Kd.C_drew ?_))); (case side2 => exact (Kd.R_reads' HO172.out).2.1); rintro e w39 ⟨rfl, hb⟩; refine ⟨_, rfl, ?_⟩; have n0_ := Aside0.mk (Kd.R_below (by (with_reducible repeat (first | apply Kd.R_alloc | apply Kd.R_drewN | apply Kd.R_drew)); exact HO172.out) hb); have n1_ := Aside0.mk (below_step (by repeat (first | (with_reducible first | exact HB.out | apply below_alloc | apply pw_below_drewN | apply below_drew1) | exact HB.out)) hb); clear HO172; clear HB; have HO172 := n0_; have HB := n1_; clear n0_ n1_; (try clear hb); (try clear hb2); (try clear hk); (try clear hi)) | ((with_reducible refine gate_dst (N := 4) rfl ?_); refine box_event ?hg (N := 4) ?hd (cs := #[.int .i64 0, .int .i64 0, .int .i64 0]) (t := 36) ?hr ?_; (case hd => rfl); (case hg => rfl); (case hr => first | (go_simp; done) | (go_simp; rfl)); intro gb176 hg w40 hbox hb; have n0_ := Aside0.mk (Kd.R_below (Kd.R_elderB (by (with_reducible repeat (first | apply Kd.R_alloc | apply Kd.R_drewN | apply Kd.R_drew)); exact HO172.out) gb176 (Nat.le_of_eq hg.symm)) hb); have n1_ := Aside0.mk (below_step (by repeat (first | (with_reducible first | exact HB.out | apply below_alloc | apply pw_below_drewN | apply below_drew1) | exact HB.out)) hb); have n2_ := Aside0.mk (hbox); have n3_ := Aside0.mk ((by rw [hg]; exact (below_size (by repeat (first | (with_reducible first | exact HB.out | apply below_alloc | apply pw_below_drewN | apply below_drew1) | exact HB.out))) : w.heap.size ≤ gb176)); have n4_ := Aside0.mk ((by rw [hg]; exact (below_size (by repeat (first | (with_reducible first | exact HB.out | apply below_alloc | apply pw_below_drewN | apply below_drew1) | exact HB.out))) : w.heap.size ≤ gb176)); clear HO172; clear HB; have HO172 := n0_; have HB := n1_; have BK176 := n2_; have GW176 := n3_; have GE176 := n4_; clear n0_ n1_ n2_ n3_ n4_; clear hb hbox hg; have hcz41_0 : w40.cell? ⟨gb176, 0, none⟩ = some (.int .i64 0) := (blk_cell BK176.out 0).trans rfl; have hcz41_1 : w40.cell? ⟨gb176, 1, none⟩ = some (.int .i64 0) := (blk_cell BK176.out 1).trans rfl; have hcz41_2 : w40.cell? ⟨gb176, 2, none⟩ = some (.int .i64 0) := (blk_cell BK176.out 2).trans rfl; have hfz41_0 := blk_frozen BK176.out 0; have hfz41_1 := blk_frozen BK176.out 1; have hfz41_2 := blk_frozen BK176.out 2))
        have n0_ : Aside0 (Kd.R k36 36 (((w40.setCell ⟨gb176, 0, none⟩ (.int .i64 t173)).setCell ⟨gb176, 1, none⟩ (.int .i64 t174)).setCell ⟨gb176, 2, none⟩ (.int .i64 t175)) w.heap.size (fun k_ => k_ ≠ gb176) (.slice Ao38 t170.length co38) t170) := ⟨by (with_reducible repeat (first | apply Kd.R_alloc | apply Kd.R_drewN | apply Kd.R_drew)); exact Kd.R_mono (Kd.R_far (p := ⟨gb176, 2, none⟩) (Kd.R_far (p := ⟨gb176, 1, none⟩) (Kd.R_far (p := ⟨gb176, 0, none⟩) (Kd.R_mono HO172.out (fun k_ hk => (⟨hk, hk.2⟩ : _ ∧ k_ ≠ gb176))) (fun _ hk => hk.2) (.int .i64 t173)) (fun _ hk => hk.2) (.int .i64 t174)) (fun _ hk => hk.2) (.int .i64 t175)) (fun _ hk => hk.1.2)⟩
        have n1_ : Aside0 ((((w40.setCell ⟨gb176, 0, none⟩ (.int .i64 t173)).setCell ⟨gb176, 1, none⟩ (.int .i64 t174)).setCell ⟨gb176, 2, none⟩ (.int .i64 t175)).heap[gb176]? = some (.cells #[.int .i64 t173, .int .i64 t174, .int .i64 t175] 36 (0, 0))) := ⟨by (with_reducible repeat (first | refine blk_drewN ?_ _ | refine blk_drew ?_ | refine blk_alloc ?_ _)); refine blk_put (cs := #[.int .i64 t173, .int .i64 t174, .int .i64 0]) ?_ 2 _ rfl; (with_reducible repeat (first | refine blk_drewN ?_ _ | refine blk_drew ?_ | refine blk_alloc ?_ _)); refine blk_put (cs := #[.int .i64 t173, .int .i64 0, .int .i64 0]) ?_ 1 _ rfl; (with_reducible repeat (first | refine blk_drewN ?_ _ | refine blk_drew ?_ | refine blk_alloc ?_ _)); refine blk_put (cs := #[.int .i64 0, .int .i64 0, .int .i64 0]) ?_ 0 _ rfl; (with_reducible repeat (first | refine blk_drewN ?_ _ | refine blk_drew ?_ | refine blk_alloc ?_ _)); exact BK176.out⟩
        have n2_ : Aside0 (Below w.heap.size w (((w40.setCell ⟨gb176, 0, none⟩ (.int .i64 t173)).setCell ⟨gb176, 1, none⟩ (.int .i64 t174)).setCell ⟨gb176, 2, none⟩ (.int .i64 t175))) := ⟨by repeat (first | (with_reducible first | exact HB.out | apply below_alloc | apply pw_below_drewN | apply below_drew1 | refine below_set ?_ GE176.out) | exact HB.out)⟩
        (try clear HO172)
        (try clear BK176)
        (try clear HB)
        generalize (((w40.setCell ⟨gb176, 0, none⟩ (.int .i64 t173)).setCell ⟨gb176, 1, none⟩ (.int .i64 t174)).setCell ⟨gb176, 2, none⟩ (.int .i64 t175)) = w42 at n0_ n1_ n2_ ⊢
        have HO172 := n0_
        have BK176 := n1_
        have HB := n2_
        clear n0_ n1_ n2_
        have n0_ := Aside0.mk (Kd.R_drew HO172.out)
        have n1_ := Aside0.mk (blk_drew BK176.out)
        have n2_ := Aside0.mk (below_drew1 HB.out)
        clear HO172
        clear BK176
        clear HB
        have HO172 := n0_
        have BK176 := n1_
        have HB := n2_
        clear n0_ n1_ n2_
        refine start_ (n := 4) (S := fun w' => w'.cell? ⟨gb176, 0, none⟩ = some (.int .i64 t173) ∧ w'.cell? ⟨gb176, 1, none⟩ = some (.int .i64 t174) ∧ w'.cell? ⟨gb176, 2, none⟩ = some (.int .i64 t175)) (ds := []) #[false, false, false, false] (by kernel_rfl) rfl rfl ⟨(blk_cell BK176.out 0).trans rfl, (blk_cell BK176.out 1).trans rfl, (blk_cell BK176.out 2).trans rfl⟩ (fun hHeld => ?_)
        generalize w42.drew = w43 at HO172 BK176 HB hHeld ⊢
        refine pure_ (i := 1) (N := some 16) (v := ?_) (a' := ?_) #[false, true, false, false] rfl rfl (by kernel_rfl) (fun _ _ _ h => h) (Or.inl ⟨by rfl, ?_⟩) ?_ ?_
        rotate_left
        · intro w'
          go_simp
          first | with_reducible rfl | (show _ = Result.ok (Next.value (Value.bool true)) w'; (repeat' split) <;> first | rfl | (exfalso; simp [*] at c16b0; done) | (exfalso; simp_all; done)) | (show _ = Result.ok (Next.value (Value.bool false)) w'; (repeat' split) <;> first | rfl | (exfalso; simp [*] at c16b0; done) | (exfalso; simp_all; done))
        rotate_left
        · simp only [Act.put, List.setIfInBounds_toArray, List.set_cons_zero, List.set_cons_succ, i64_w, i32_w]
          rfl
        refine take_ (i := 0) (N := some 15) (v := ?_) (a' := ?_) #[true, true, false, false] rfl rfl (by kernel_rfl) (fun _ _ _ h => h) (Or.inl ⟨by rfl, ?_⟩) hHeld ?_ ?_
        rotate_left
        · rintro w' ⟨s0, s1, s2⟩
          go_simp
          first | with_reducible rfl | (show _ = Result.ok (Next.value (Value.bool true)) w'; (repeat' split) <;> first | rfl | (exfalso; simp [*] at c16b0; done) | (exfalso; simp_all; done)) | (show _ = Result.ok (Next.value (Value.bool false)) w'; (repeat' split) <;> first | rfl | (exfalso; simp [*] at c16b0; done) | (exfalso; simp_all; done))
        rotate_left
        · simp only [Act.put, List.setIfInBounds_toArray, List.set_cons_zero, List.set_cons_succ, i64_w, i32_w]
          rfl
        refine one_ (i := 2) (N := some 17) #[true, true, true, false] rfl rfl (by kernel_rfl) (by decide) (fun K hK => ?_)
        refine goes_ Tryd.func14 (by kernel_rfl) rfl #[.slice Ao38 t170.length co38] (by rfl) rfl rfl (by (try simp only [List.map_toArray, List.map_cons, List.map_nil]); first | done | rfl | (simp only [List.length_drop, List.length_take]; rfl)) ?_
        with_reducible refine (spec_BrdBest.calls k _ _ t170 t177 t178 t179 _ ?side1 ?side2 A5.out).mono ?_
        (case side1 => repeat (first | exact (Kd.R_reads' HO172.out).2.2 | (with_reducible refine Kd.C_alloc ?_ _) | (with_reducible refine Kd.C_drewN ?_ _) | (with_reducible refine Kd.C_drew ?_)))
        (case side2 => exact (Kd.R_reads' HO172.out).2.1)
        rintro e w44 ⟨rfl, hb⟩
        refine ⟨_, rfl, ?_⟩
        have n0_ := Aside0.mk (Kd.R_below (by (with_reducible repeat (first | apply Kd.R_alloc | apply Kd.R_drewN | apply Kd.R_drew)); exact HO172.out) hb)
        have n1_ := Aside0.mk (blk_below (g := gb176) (o := .cells #[.int .i64 t173, .int .i64 t174, .int .i64 t175] 36 (0, 0)) (by (with_reducible repeat (first | refine blk_drewN ?_ _ | refine blk_drew ?_ | refine blk_alloc ?_ _)); exact BK176.out) hb)
        have n2_ := Aside0.mk (below_step (by repeat (first | (with_reducible first | exact HB.out | apply below_alloc | apply pw_below_drewN | apply below_drew1 | refine below_set ?_ GE176.out) | exact HB.out)) hb)
        clear HO172
        clear BK176
        clear HB
        have HO172 := n0_
        have BK176 := n1_
        have HB := n2_
        clear n0_ n1_ n2_
        (try clear hb)
        (try clear hb2)
        (try clear hk)
        (try clear hi)
        refine hK.out _ _ ⟨(blk_cell BK176.out 0).trans rfl, (blk_cell BK176.out 1).trans rfl, (blk_cell BK176.out 2).trans rfl⟩ (fun hHeld => ?_)
        clear hK K
        refine norm_ (a' := ?_) ?_ ?_
        rotate_left
        · show Act.put _ (some 17) _ = _
          simp only [Act.put, List.setIfInBounds_toArray, List.set_cons_zero, List.set_cons_succ, i64_w, i32_w]
          rfl
        refine pure_ (i := 3) (N := some 18) (v := ?_) (a' := ?_) #[true, true, true, true] rfl rfl (by kernel_rfl) (fun _ _ _ h => h) (Or.inl ⟨by rfl, ?_⟩) ?_ ?_
        rotate_left
        · intro w'
          go_simp
          first | with_reducible rfl | (show _ = Result.ok (Next.value (Value.bool true)) w'; (repeat' split) <;> first | rfl | (exfalso; simp [*] at c16b0; done) | (exfalso; simp_all; done)) | (show _ = Result.ok (Next.value (Value.bool false)) w'; (repeat' split) <;> first | rfl | (exfalso; simp [*] at c16b0; done) | (exfalso; simp_all; done))
        rotate_left
        · simp only [Act.put, List.setIfInBounds_toArray, List.set_cons_zero, List.set_cons_succ, i64_w, i32_w]
          rfl
        refine done_ (by kernel_rfl) ?_
        try go_wp2
        go_loopg [5, 6] k (fun kq v5 v6 w' => ∃ (x5_1 : Int) (x6_1 : Int), v5 = .int .i64 x5_1 ∧ v6 = .int .i64 x6_1 ∧ Aside0 (laws_FnBrdBest.l0 kq t170 x5_1 x6_1 t173 t174 t175 = some r) ∧ Aside0 (kq ≤ k) ∧ Aside0 (Kd.R k36 36 w' w.heap.size (fun k_ => k_ ≠ gb176) (.slice Ao38 t170.length co38) t170) ∧ Aside0 (w'.heap[gb176]? = some (.cells #[.int .i64 t173, .int .i64 t174, .int .i64 t175] 36 (0, 0))) ∧ Aside0 (Below w.heap.size w w'))
        case atStart => exact ⟨((-1)), (0), (by first | rfl | (simp; done) | (simp [*]; done)), (by first | rfl | (simp; done) | (simp [*]; done)), H', ⟨Nat.le_refl _⟩, ⟨by (with_reducible repeat (first | apply Kd.R_alloc | apply Kd.R_drewN | apply Kd.R_drew)); exact HO172.out⟩, ⟨by (with_reducible repeat (first | refine blk_drewN ?_ _ | refine blk_drew ?_ | refine blk_alloc ?_ _)); exact BK176.out⟩, ⟨by repeat (first | (with_reducible first | exact HB.out | apply below_alloc | apply pw_below_drewN | apply below_drew1 | refine below_set ?_ GE176.out) | exact HB.out)⟩⟩
        case round =>
          clear H'
          try clear c1
          try clear c2
          try clear c2b0
          try clear c2b1
          try clear p2
          try clear c4
          try clear c6
          try clear c6b0
          try clear c12
          try clear c13
          try clear c14
          try clear c15
          try clear c15b0
          try clear c15b1
          try clear c15b2
          try clear c16
          try clear c16b0
          try clear hcz11_0
          try clear hcz11_1
          try clear hcz11_2
          try clear hcz22_0
          try clear hcz22_1
          try clear hcz22_2
          try clear hcz26_0
          try clear hcz26_1
          try clear hcz26_2
          try clear hcz32_0
          try clear hcz32_1
          try clear hcz32_2
          try clear hcz36_0
          try clear hcz36_1
          try clear hcz36_2
          try clear hcz41_0
          try clear hcz41_1
          try clear hcz41_2
          try clear hfz11_0
          try clear hfz11_1
          try clear hfz11_2
          try clear hfz22_0
          try clear hfz22_1
          try clear hfz22_2
          try clear hfz26_0
          try clear hfz26_1
          try clear hfz26_2
          try clear hfz32_0
          try clear hfz32_1
          try clear hfz32_2
          try clear hfz36_0
          try clear hfz36_1
          try clear hfz36_2
          try clear hfz41_0
          try clear hfz41_1
          try clear hfz41_2
          obtain ⟨x5_1, x6_1, rfl, rfl, HA, HK1, HO_3, BK176, HB⟩ := hrel
          cases gk with
          | zero => exact absurd HA.out (by simp [laws_FnBrdBest.l0])
          | succ k1 =>
            have H := HA.out
            clear HA
            simp only [laws_FnBrdBest.l0] at H
            by_cases c45 : x6_1 < (t170.length : Int)
            · rw [if_pos c45] at H
              have c45b0 : decide (x6_1 < (t170.length : Int)) = true := decide_eq_true c45
              clear c45
              by_cases c46 : 0 ≤ x6_1
              · rw [if_pos c46] at H
                have c46b0 : decide (0 ≤ x6_1) = true := decide_eq_true c46
                clear c46
                replace H := Option.bind_eq_some_iff.mp H
                obtain ⟨t182, A470, H⟩ := H
                replace H : (if t182 = true then (some false) else (if x5_1 < 0 then (if ((((rd_T36 t170 x6_1).f0.f0) == t173 && (((rd_T36 t170 x6_1).f0.f1) == t174)) && (((rd_T36 t170 x6_1).f1) == t175)) = true then (laws_FnBrdBest.l0 k1 t170 x6_1 (wrap64 (x6_1 + 1)) t173 t174 t175) else (laws_FnBrdBest.l0 k1 t170 x5_1 (wrap64 (x6_1 + 1)) t173 t174 t175)) else (laws_FnBrdBest.l0 k1 t170 x5_1 (wrap64 (x6_1 + 1)) t173 t174 t175))) = some r := H
                have A47 := Aside0.mk A470
                clear A470
                by_cases c48 : t182 = true
                · subst c48
                  have H1 : (some false) = some r := by rw [if_pos rfl] at H; exact H
                  clear H
                  have H := H1
                  clear H1
                  obtain rfl := Option.some.inj H
                  try go_wp2
                  have n0_ := Aside0.mk (Kd.R_drew HO_3.out)
                  have n1_ := Aside0.mk (blk_drew BK176.out)
                  have n2_ := Aside0.mk (below_drew1 HB.out)
                  clear HO_3
                  clear BK176
                  clear HB
                  have HO_3 := n0_
                  have BK176 := n1_
                  have HB := n2_
                  clear n0_ n1_ n2_
                  have p181 : 0 ≤ (x6_1 : Int) := of_decide_eq_true (by first | (with_reducible assumption) | assumption)
                  have q181 : x6_1 < (t170.length : Int) := of_decide_eq_true (by first | (with_reducible assumption) | assumption)
                  obtain ⟨ad181, e181, hx181_0, hx181_1, hx181_2⟩ := at_T36 (Kd.R_reads' HO_3.out).2.2 x6_1 p181 q181
                  cases e181
                  replace p181 := eq_true p181
                  replace q181 := eq_true q181
                  refine start_ (n := 8) (S := fun w' => w'.cell? ⟨gb176, 0, none⟩ = some (.int .i64 t173) ∧ w'.cell? ⟨gb176, 1, none⟩ = some (.int .i64 t174) ∧ w'.cell? ⟨gb176, 2, none⟩ = some (.int .i64 t175) ∧ w'.cell? (ad181.add ((x6_1).toNat * 3)) = some (.int .i64 ((rd_T36 t170 x6_1).f0.f0)) ∧ w'.cell? ⟨(ad181.add ((x6_1).toNat * 3)).block, (ad181.add ((x6_1).toNat * 3)).off + 1, none⟩ = some (.int .i64 ((rd_T36 t170 x6_1).f0.f1)) ∧ w'.cell? ⟨(ad181.add ((x6_1).toNat * 3)).block, (ad181.add ((x6_1).toNat * 3)).off + 2, none⟩ = some (.int .i64 ((rd_T36 t170 x6_1).f1))) (ds := []) #[false, false, false, false, false, false, false, false] (by kernel_rfl) rfl rfl ⟨(blk_cell BK176.out 0).trans rfl, (blk_cell BK176.out 1).trans rfl, (blk_cell BK176.out 2).trans rfl, hx181_0, hx181_1, hx181_2⟩ (fun hHeld => ?_); refine with_tabW laws_FnBrdBest.tab13 laws_FnBrdBest.bits13 (fun HT_ HW_ => ?_)
                  generalize wr.drew = w49 at HO_3 BK176 HB hx181_0 hx181_1 hx181_2 hHeld ⊢
                  refine pure_ (i := 0) (N := some 34) (v := ?_) (a' := ?_) #[true, false, false, false, false, false, false, false] rfl rfl (any_of HT_.out (by kernel_rfl)) (fun _ _ _ h => h) (Or.inl ⟨by rfl, ?_⟩) ?_ ?_
                  rotate_left
                  · intro w'
                    go_simp
                    first | with_reducible rfl | (show _ = Result.ok (Next.value (Value.bool true)) w'; (repeat' split) <;> first | rfl | (exfalso; simp [*] at c16b0; done) | (exfalso; simp_all; done)) | (show _ = Result.ok (Next.value (Value.bool false)) w'; (repeat' split) <;> first | rfl | (exfalso; simp [*] at c16b0; done) | (exfalso; simp_all; done))
                  rotate_left
                  · simp only [Act.put, List.setIfInBounds_toArray, List.set_cons_zero, List.set_cons_succ, i64_w, i32_w]
                    rfl
                  refine pure_ (i := 1) (N := some 35) (v := ?_) (a' := ?_) #[true, true, false, false, false, false, false, false] rfl rfl (any_of HT_.out (by kernel_rfl)) (fun _ _ _ h => h) (Or.inl ⟨by rfl, ?_⟩) ?_ ?_
                  rotate_left
                  · intro w'
                    go_simp
                    first | with_reducible rfl | (show _ = Result.ok (Next.value (Value.bool true)) w'; (repeat' split) <;> first | rfl | (exfalso; simp [*] at c16b0; done) | (exfalso; simp_all; done)) | (show _ = Result.ok (Next.value (Value.bool false)) w'; (repeat' split) <;> first | rfl | (exfalso; simp [*] at c16b0; done) | (exfalso; simp_all; done))
                  rotate_left
                  · simp only [Act.put, List.setIfInBounds_toArray, List.set_cons_zero, List.set_cons_succ, i64_w, i32_w]
                    rfl
                  refine pure_ (i := 2) (N := some 36) (v := ?_) (a' := ?_) #[true, true, true, false, false, false, false, false] rfl rfl (any_of HT_.out (by kernel_rfl)) (fun _ _ _ h => h) (Or.inl ⟨by rfl, ?_⟩) ?_ ?_
                  rotate_left
                  · intro w'
                    go_simp
                    first | with_reducible rfl | (show _ = Result.ok (Next.value (Value.bool true)) w'; (repeat' split) <;> first | rfl | (exfalso; simp [*] at c16b0; done) | (exfalso; simp_all; done)) | (show _ = Result.ok (Next.value (Value.bool false)) w'; (repeat' split) <;> first | rfl | (exfalso; simp [*] at c16b0; done) | (exfalso; simp_all; done))
                  rotate_left
                  · simp only [Act.put, List.setIfInBounds_toArray, List.set_cons_zero, List.set_cons_succ, i64_w, i32_w]
                    rfl
                  refine pure_ (i := 3) (N := some 37) (v := ?_) (a' := ?_) #[true, true, true, true, false, false, false, false] rfl rfl (any_of HT_.out (by kernel_rfl)) (fun _ _ _ h => h) (Or.inl ⟨by rfl, ?_⟩) ?_ ?_
                  rotate_left
                  · intro w'
                    go_simp
                    first | with_reducible rfl | (show _ = Result.ok (Next.value (Value.bool true)) w'; (repeat' split) <;> first | rfl | (exfalso; simp [*] at c16b0; done) | (exfalso; simp_all; done)) | (show _ = Result.ok (Next.value (Value.bool false)) w'; (repeat' split) <;> first | rfl | (exfalso; simp [*] at c16b0; done) | (exfalso; simp_all; done))
                  rotate_left
                  · simp only [Act.put, List.setIfInBounds_toArray, List.set_cons_zero, List.set_cons_succ, i64_w, i32_w]
                    rfl
                  refine pure_ (i := 5) (N := some 39) (v := ?_) (a' := ?_) #[true, true, true, true, false, true, false, false] rfl rfl (any_of HT_.out (by kernel_rfl)) (fun _ _ _ h => h) (Or.inl ⟨by rfl, ?_⟩) ?_ ?_
                  rotate_left
                  · intro w'
                    go_simp
                    first | with_reducible rfl | (show _ = Result.ok (Next.value (Value.bool true)) w'; (repeat' split) <;> first | rfl | (exfalso; simp [*] at c16b0; done) | (exfalso; simp_all; done)) | (show _ = Result.ok (Next.value (Value.bool false)) w'; (repeat' split) <;> first | rfl | (exfalso; simp [*] at c16b0; done) | (exfalso; simp_all; done))
                  rotate_left
                  · simp only [Act.put, List.setIfInBounds_toArray, List.set_cons_zero, List.set_cons_succ, i64_w, i32_w]
                    rfl
                  refine take_ (i := 4) (N := some 38) (v := ?_) (a' := ?_) #[true, true, true, true, true, true, false, false] rfl rfl (take_ofW HT_.out HW_.out (by kernel_rfl)) (fun _ _ _ h => h) (Or.inl ⟨by rfl, ?_⟩) hHeld ?_ ?_
                  rotate_left
                  · rintro w' ⟨s0, s1, s2, s3, s4, s5⟩
                    go_simp
                    first | with_reducible rfl | (show _ = Result.ok (Next.value (Value.bool true)) w'; (repeat' split) <;> first | rfl | (exfalso; simp [*] at c16b0; done) | (exfalso; simp_all; done)) | (show _ = Result.ok (Next.value (Value.bool false)) w'; (repeat' split) <;> first | rfl | (exfalso; simp [*] at c16b0; done) | (exfalso; simp_all; done))
                  rotate_left
                  · simp only [Act.put, List.setIfInBounds_toArray, List.set_cons_zero, List.set_cons_succ, i64_w, i32_w]
                    rfl
                  refine take_ (i := 6) (N := some 40) (v := ?_) (a' := ?_) #[true, true, true, true, true, true, true, false] rfl rfl (take_ofW HT_.out HW_.out (by kernel_rfl)) (fun _ _ _ h => h) (Or.inl ⟨by rfl, ?_⟩) hHeld ?_ ?_
                  rotate_left
                  · rintro w' ⟨s0, s1, s2, s3, s4, s5⟩
                    go_simp
                    first | with_reducible rfl | (show _ = Result.ok (Next.value (Value.bool true)) w'; (repeat' split) <;> first | rfl | (exfalso; simp [*] at c16b0; done) | (exfalso; simp_all; done)) | (show _ = Result.ok (Next.value (Value.bool false)) w'; (repeat' split) <;> first | rfl | (exfalso; simp [*] at c16b0; done) | (exfalso; simp_all; done))
                  rotate_left
                  · simp only [Act.put, List.setIfInBounds_toArray, List.set_cons_zero, List.set_cons_succ, i64_w, i32_w]
                    rfl
                  refine one_ (i := 7) (N := some 41) #[true, true, true, true, true, true, true, true] rfl rfl (one_of HT_.out (by kernel_rfl)) (by decide) (fun K hK => ?_)
                  refine goes_ Tryd.func15 (by kernel_rfl) rfl #[.agg #[.int .i64 ((rd_T36 t170 x6_1).f0.f0), .int .i64 ((rd_T36 t170 x6_1).f0.f1)], .agg #[.int .i64 t173, .int .i64 t174]] (by rfl) rfl rfl (by (try simp only [List.map_toArray, List.map_cons, List.map_nil]); first | done | rfl | (simp only [List.length_drop, List.length_take]; rfl)) ?_
                  with_reducible refine (impl_BrdBeats.calls k1 ((rd_T36 t170 x6_1).f0.f0) ((rd_T36 t170 x6_1).f0.f1) t173 t174 true _ A47.out).mono ?_
                  rintro e w50 ⟨rfl, hb⟩
                  have HS3_ := (hb.cell (World.block_lt_of_cell? _ _ (hHeld.2.2.2.1))).trans (hHeld.2.2.2.1)
                  have HS4_ := (hb.cell (World.block_lt_of_cell? _ _ (hHeld.2.2.2.2.1))).trans (hHeld.2.2.2.2.1)
                  have HS5_ := (hb.cell (World.block_lt_of_cell? _ _ (hHeld.2.2.2.2.2))).trans (hHeld.2.2.2.2.2)
                  refine ⟨_, rfl, ?_⟩
                  have n0_ := Aside0.mk (Kd.R_below (by (with_reducible repeat (first | apply Kd.R_alloc | apply Kd.R_drewN | apply Kd.R_drew)); exact HO_3.out) hb)
                  have n1_ := Aside0.mk (blk_below (g := gb176) (o := .cells #[.int .i64 t173, .int .i64 t174, .int .i64 t175] 36 (0, 0)) (by (with_reducible repeat (first | refine blk_drewN ?_ _ | refine blk_drew ?_ | refine blk_alloc ?_ _)); exact BK176.out) hb)
                  have n2_ := Aside0.mk (below_step (by repeat (first | (with_reducible first | exact HB.out | apply below_alloc | apply pw_below_drewN | apply below_drew1 | refine below_set ?_ GE176.out) | exact HB.out)) hb)
                  clear HO_3
                  clear BK176
                  clear HB
                  have HO_3 := n0_
                  have BK176 := n1_
                  have HB := n2_
                  clear n0_ n1_ n2_
                  (try clear hb)
                  (try clear hb2)
                  (try clear hk)
                  (try clear hi)
                  refine hK.out _ _ ⟨(blk_cell BK176.out 0).trans rfl, (blk_cell BK176.out 1).trans rfl, (blk_cell BK176.out 2).trans rfl, HS3_, HS4_, HS5_⟩ (fun hHeld => ?_)
                  clear hK K
                  refine norm_ (a' := ?_) ?_ ?_
                  rotate_left
                  · show Act.put _ (some 41) _ = _
                    simp only [Act.put, List.setIfInBounds_toArray, List.set_cons_zero, List.set_cons_succ, i64_w, i32_w]
                    rfl
                  refine done_ (done_of HT_.out (by kernel_rfl)) ?_
                  try go_wp2
                  all_goals (first | (exfalso; simp [*] at c16b0; done) | (go_ret; exact ⟨by first | rfl | (simp [IntKind.wrap_i64, wrap64]; done) | (simp [errW_none, errW_some] <;> rfl) | (simp [*, errW_none, errW_some] <;> rfl), by repeat (first | (with_reducible first | exact HB.out | apply below_alloc | apply pw_below_drewN | apply below_drew1 | refine below_set ?_ GE176.out) | exact HB.out)⟩))
                · replace c48 := Bool.eq_false_iff.mpr c48
                  subst c48
                  have H1 : (if x5_1 < 0 then (if ((((rd_T36 t170 x6_1).f0.f0) == t173 && (((rd_T36 t170 x6_1).f0.f1) == t174)) && (((rd_T36 t170 x6_1).f1) == t175)) = true then (laws_FnBrdBest.l0 k1 t170 x6_1 (wrap64 (x6_1 + 1)) t173 t174 t175) else (laws_FnBrdBest.l0 k1 t170 x5_1 (wrap64 (x6_1 + 1)) t173 t174 t175)) else (laws_FnBrdBest.l0 k1 t170 x5_1 (wrap64 (x6_1 + 1)) t173 t174 t175)) = some r := by rw [if_neg (show ¬ (false = true) by decide)] at H; exact H
                  clear H
                  have H := H1
                  clear H1
                  by_cases c51 : x5_1 < 0
                  · rw [if_pos c51] at H
                    have c51b0 : decide (x5_1 < 0) = true := decide_eq_true c51
                    clear c51
                    by_cases c52 : ((((rd_T36 t170 x6_1).f0.f0) == t173 && (((rd_T36 t170 x6_1).f0.f1) == t174)) && (((rd_T36 t170 x6_1).f1) == t175)) = true
                    · rw [if_pos c52] at H
                      have c52b0 : ((((rd_T36 t170 x6_1).f0.f0) == t173 && (((rd_T36 t170 x6_1).f0.f1) == t174)) && (((rd_T36 t170 x6_1).f1) == t175)) = true := c52
                      clear c52
                      have H' := Aside0.mk H
                      clear H
                      try go_wp2
                      have n0_ := Aside0.mk (Kd.R_drew HO_3.out)
                      have n1_ := Aside0.mk (blk_drew BK176.out)
                      have n2_ := Aside0.mk (below_drew1 HB.out)
                      clear HO_3
                      clear BK176
                      clear HB
                      have HO_3 := n0_
                      have BK176 := n1_
                      have HB := n2_
                      clear n0_ n1_ n2_
                      have p181 : 0 ≤ (x6_1 : Int) := of_decide_eq_true (by first | (with_reducible assumption) | assumption)
                      have q181 : x6_1 < (t170.length : Int) := of_decide_eq_true (by first | (with_reducible assumption) | assumption)
                      obtain ⟨ad181, e181, hx181_0, hx181_1, hx181_2⟩ := at_T36 (Kd.R_reads' HO_3.out).2.2 x6_1 p181 q181
                      cases e181
                      replace p181 := eq_true p181
                      replace q181 := eq_true q181
                      refine start_ (n := 8) (S := fun w' => w'.cell? ⟨gb176, 0, none⟩ = some (.int .i64 t173) ∧ w'.cell? ⟨gb176, 1, none⟩ = some (.int .i64 t174) ∧ w'.cell? ⟨gb176, 2, none⟩ = some (.int .i64 t175) ∧ w'.cell? (ad181.add ((x6_1).toNat * 3)) = some (.int .i64 ((rd_T36 t170 x6_1).f0.f0)) ∧ w'.cell? ⟨(ad181.add ((x6_1).toNat * 3)).block, (ad181.add ((x6_1).toNat * 3)).off + 1, none⟩ = some (.int .i64 ((rd_T36 t170 x6_1).f0.f1)) ∧ w'.cell? ⟨(ad181.add ((x6_1).toNat * 3)).block, (ad181.add ((x6_1).toNat * 3)).off + 2, none⟩ = some (.int .i64 ((rd_T36 t170 x6_1).f1))) (ds := []) #[false, false, false, false, false, false, false, false] (by kernel_rfl) rfl rfl ⟨(blk_cell BK176.out 0).trans rfl, (blk_cell BK176.out 1).trans rfl, (blk_cell BK176.out 2).trans rfl, hx181_0, hx181_1, hx181_2⟩ (fun hHeld => ?_); refine with_tabW laws_FnBrdBest.tab13 laws_FnBrdBest.bits13 (fun HT_ HW_ => ?_)
                      generalize wr.drew = w53 at HO_3 BK176 HB hx181_0 hx181_1 hx181_2 hHeld ⊢
                      refine pure_ (i := 0) (N := some 34) (v := ?_) (a' := ?_) #[true, false, false, false, false, false, false, false] rfl rfl (any_of HT_.out (by kernel_rfl)) (fun _ _ _ h => h) (Or.inl ⟨by rfl, ?_⟩) ?_ ?_
                      rotate_left
                      · intro w'
                        go_simp
                        first | with_reducible rfl | (show _ = Result.ok (Next.value (Value.bool true)) w'; (repeat' split) <;> first | rfl | (exfalso; simp [*] at c52b0; done) | (exfalso; simp_all; done)) | (show _ = Result.ok (Next.value (Value.bool false)) w'; (repeat' split) <;> first | rfl | (exfalso; simp [*] at c52b0; done) | (exfalso; simp_all; done))
                      rotate_left
                      · simp only [Act.put, List.setIfInBounds_toArray, List.set_cons_zero, List.set_cons_succ, i64_w, i32_w]
                        rfl
                      refine pure_ (i := 1) (N := some 35) (v := ?_) (a' := ?_) #[true, true, false, false, false, false, false, false] rfl rfl (any_of HT_.out (by kernel_rfl)) (fun _ _ _ h => h) (Or.inl ⟨by rfl, ?_⟩) ?_ ?_
                      rotate_left
                      · intro w'
                        go_simp
                        first | with_reducible rfl | (show _ = Result.ok (Next.value (Value.bool true)) w'; (repeat' split) <;> first | rfl | (exfalso; simp [*] at c52b0; done) | (exfalso; simp_all; done)) | (show _ = Result.ok (Next.value (Value.bool false)) w'; (repeat' split) <;> first | rfl | (exfalso; simp [*] at c52b0; done) | (exfalso; simp_all; done))
                      rotate_left
                      · simp only [Act.put, List.setIfInBounds_toArray, List.set_cons_zero, List.set_cons_succ, i64_w, i32_w]
                        rfl
                      refine pure_ (i := 2) (N := some 36) (v := ?_) (a' := ?_) #[true, true, true, false, false, false, false, false] rfl rfl (any_of HT_.out (by kernel_rfl)) (fun _ _ _ h => h) (Or.inl ⟨by rfl, ?_⟩) ?_ ?_
                      rotate_left
                      · intro w'
                        go_simp
                        first | with_reducible rfl | (show _ = Result.ok (Next.value (Value.bool true)) w'; (repeat' split) <;> first | rfl | (exfalso; simp [*] at c52b0; done) | (exfalso; simp_all; done)) | (show _ = Result.ok (Next.value (Value.bool false)) w'; (repeat' split) <;> first | rfl | (exfalso; simp [*] at c52b0; done) | (exfalso; simp_all; done))
                      rotate_left
                      · simp only [Act.put, List.setIfInBounds_toArray, List.set_cons_zero, List.set_cons_succ, i64_w, i32_w]
                        rfl
                      refine pure_ (i := 3) (N := some 37) (v := ?_) (a' := ?_) #[true, true, true, true, false, false, false, false] rfl rfl (any_of HT_.out (by kernel_rfl)) (fun _ _ _ h => h) (Or.inl ⟨by rfl, ?_⟩) ?_ ?_
                      rotate_left
                      · intro w'
                        go_simp
                        first | with_reducible rfl | (show _ = Result.ok (Next.value (Value.bool true)) w'; (repeat' split) <;> first | rfl | (exfalso; simp [*] at c52b0; done) | (exfalso; simp_all; done)) | (show _ = Result.ok (Next.value (Value.bool false)) w'; (repeat' split) <;> first | rfl | (exfalso; simp [*] at c52b0; done) | (exfalso; simp_all; done))
                      rotate_left
                      · simp only [Act.put, List.setIfInBounds_toArray, List.set_cons_zero, List.set_cons_succ, i64_w, i32_w]
                        rfl
                      refine pure_ (i := 5) (N := some 39) (v := ?_) (a' := ?_) #[true, true, true, true, false, true, false, false] rfl rfl (any_of HT_.out (by kernel_rfl)) (fun _ _ _ h => h) (Or.inl ⟨by rfl, ?_⟩) ?_ ?_
                      rotate_left
                      · intro w'
                        go_simp
                        first | with_reducible rfl | (show _ = Result.ok (Next.value (Value.bool true)) w'; (repeat' split) <;> first | rfl | (exfalso; simp [*] at c52b0; done) | (exfalso; simp_all; done)) | (show _ = Result.ok (Next.value (Value.bool false)) w'; (repeat' split) <;> first | rfl | (exfalso; simp [*] at c52b0; done) | (exfalso; simp_all; done))
                      rotate_left
                      · simp only [Act.put, List.setIfInBounds_toArray, List.set_cons_zero, List.set_cons_succ, i64_w, i32_w]
                        rfl
                      refine take_ (i := 4) (N := some 38) (v := ?_) (a' := ?_) #[true, true, true, true, true, true, false, false] rfl rfl (take_ofW HT_.out HW_.out (by kernel_rfl)) (fun _ _ _ h => h) (Or.inl ⟨by rfl, ?_⟩) hHeld ?_ ?_
                      rotate_left
                      · rintro w' ⟨s0, s1, s2, s3, s4, s5⟩
                        go_simp
                        first | with_reducible rfl | (show _ = Result.ok (Next.value (Value.bool true)) w'; (repeat' split) <;> first | rfl | (exfalso; simp [*] at c52b0; done) | (exfalso; simp_all; done)) | (show _ = Result.ok (Next.value (Value.bool false)) w'; (repeat' split) <;> first | rfl | (exfalso; simp [*] at c52b0; done) | (exfalso; simp_all; done))
                      rotate_left
                      · simp only [Act.put, List.setIfInBounds_toArray, List.set_cons_zero, List.set_cons_succ, i64_w, i32_w]
                        rfl
                      refine take_ (i := 6) (N := some 40) (v := ?_) (a' := ?_) #[true, true, true, true, true, true, true, false] rfl rfl (take_ofW HT_.out HW_.out (by kernel_rfl)) (fun _ _ _ h => h) (Or.inl ⟨by rfl, ?_⟩) hHeld ?_ ?_
                      rotate_left
                      · rintro w' ⟨s0, s1, s2, s3, s4, s5⟩
                        go_simp
                        first | with_reducible rfl | (show _ = Result.ok (Next.value (Value.bool true)) w'; (repeat' split) <;> first | rfl | (exfalso; simp [*] at c52b0; done) | (exfalso; simp_all; done)) | (show _ = Result.ok (Next.value (Value.bool false)) w'; (repeat' split) <;> first | rfl | (exfalso; simp [*] at c52b0; done) | (exfalso; simp_all; done))
                      rotate_left
                      · simp only [Act.put, List.setIfInBounds_toArray, List.set_cons_zero, List.set_cons_succ, i64_w, i32_w]
                        rfl
                      refine one_ (i := 7) (N := some 41) #[true, true, true, true, true, true, true, true] rfl rfl (one_of HT_.out (by kernel_rfl)) (by decide) (fun K hK => ?_)
                      refine goes_ Tryd.func15 (by kernel_rfl) rfl #[.agg #[.int .i64 ((rd_T36 t170 x6_1).f0.f0), .int .i64 ((rd_T36 t170 x6_1).f0.f1)], .agg #[.int .i64 t173, .int .i64 t174]] (by rfl) rfl rfl (by (try simp only [List.map_toArray, List.map_cons, List.map_nil]); first | done | rfl | (simp only [List.length_drop, List.length_take]; rfl)) ?_
                      with_reducible refine (impl_BrdBeats.calls k1 ((rd_T36 t170 x6_1).f0.f0) ((rd_T36 t170 x6_1).f0.f1) t173 t174 false _ A47.out).mono ?_
                      rintro e w54 ⟨rfl, hb⟩
                      have HS3_ := (hb.cell (World.block_lt_of_cell? _ _ (hHeld.2.2.2.1))).trans (hHeld.2.2.2.1)
                      have HS4_ := (hb.cell (World.block_lt_of_cell? _ _ (hHeld.2.2.2.2.1))).trans (hHeld.2.2.2.2.1)
                      have HS5_ := (hb.cell (World.block_lt_of_cell? _ _ (hHeld.2.2.2.2.2))).trans (hHeld.2.2.2.2.2)
                      refine ⟨_, rfl, ?_⟩
                      have n0_ := Aside0.mk (Kd.R_below (by (with_reducible repeat (first | apply Kd.R_alloc | apply Kd.R_drewN | apply Kd.R_drew)); exact HO_3.out) hb)
                      have n1_ := Aside0.mk (blk_below (g := gb176) (o := .cells #[.int .i64 t173, .int .i64 t174, .int .i64 t175] 36 (0, 0)) (by (with_reducible repeat (first | refine blk_drewN ?_ _ | refine blk_drew ?_ | refine blk_alloc ?_ _)); exact BK176.out) hb)
                      have n2_ := Aside0.mk (below_step (by repeat (first | (with_reducible first | exact HB.out | apply below_alloc | apply pw_below_drewN | apply below_drew1 | refine below_set ?_ GE176.out) | exact HB.out)) hb)
                      clear HO_3
                      clear BK176
                      clear HB
                      have HO_3 := n0_
                      have BK176 := n1_
                      have HB := n2_
                      clear n0_ n1_ n2_
                      (try clear hb)
                      (try clear hb2)
                      (try clear hk)
                      (try clear hi)
                      refine hK.out _ _ ⟨(blk_cell BK176.out 0).trans rfl, (blk_cell BK176.out 1).trans rfl, (blk_cell BK176.out 2).trans rfl, HS3_, HS4_, HS5_⟩ (fun hHeld => ?_)
                      clear hK K
                      refine norm_ (a' := ?_) ?_ ?_
                      rotate_left
                      · show Act.put _ (some 41) _ = _
                        simp only [Act.put, List.setIfInBounds_toArray, List.set_cons_zero, List.set_cons_succ, i64_w, i32_w]
                        rfl
                      refine done_ (done_of HT_.out (by kernel_rfl)) ?_
                      try go_wp2
                      have n0_ := Aside0.mk (Kd.R_drew HO_3.out)
                      have n1_ := Aside0.mk (blk_drew BK176.out)
                      have n2_ := Aside0.mk (below_drew1 HB.out)
                      clear HO_3
                      clear BK176
                      clear HB
                      have HO_3 := n0_
                      have BK176 := n1_
                      have HB := n2_
                      clear n0_ n1_ n2_
                      have p183 : 0 ≤ (x6_1 : Int) := of_decide_eq_true (by first | (with_reducible assumption) | assumption)
                      have q183 : x6_1 < (t170.length : Int) := of_decide_eq_true (by first | (with_reducible assumption) | assumption)
                      obtain ⟨ad183, e183, hx183_0, hx183_1, hx183_2⟩ := at_T36 (Kd.R_reads' HO_3.out).2.2 x6_1 p183 q183
                      obtain rfl : ad181 = ad183 := (by injection e183)
                      replace p183 := eq_true p183
                      replace q183 := eq_true q183
                      refine start_ (n := 10) (S := fun w' => w'.cell? ⟨gb176, 0, none⟩ = some (.int .i64 t173) ∧ w'.cell? ⟨gb176, 1, none⟩ = some (.int .i64 t174) ∧ w'.cell? ⟨gb176, 2, none⟩ = some (.int .i64 t175) ∧ w'.cell? (ad181.add ((x6_1).toNat * 3)) = some (.int .i64 ((rd_T36 t170 x6_1).f0.f0)) ∧ w'.cell? ⟨(ad181.add ((x6_1).toNat * 3)).block, (ad181.add ((x6_1).toNat * 3)).off + 1, none⟩ = some (.int .i64 ((rd_T36 t170 x6_1).f0.f1)) ∧ w'.cell? ⟨(ad181.add ((x6_1).toNat * 3)).block, (ad181.add ((x6_1).toNat * 3)).off + 2, none⟩ = some (.int .i64 ((rd_T36 t170 x6_1).f1))) (ds := []) #[false, false, false, false, false, false, false, false, false, false] (by kernel_rfl) rfl rfl ⟨(blk_cell BK176.out 0).trans rfl, (blk_cell BK176.out 1).trans rfl, (blk_cell BK176.out 2).trans rfl, hx183_0, hx183_1, hx183_2⟩ (fun hHeld => ?_); refine with_tabW laws_FnBrdBest.tab15 laws_FnBrdBest.bits15 (fun HT_ HW_ => ?_)
                      generalize w54.drew = w55 at HO_3 BK176 HB hx183_0 hx183_1 hx183_2 hHeld ⊢
                      refine pure_ (i := 0) (N := some 42) (v := ?_) (a' := ?_) #[true, false, false, false, false, false, false, false, false, false] rfl rfl (any_of HT_.out (by kernel_rfl)) (fun _ _ _ h => h) (Or.inl ⟨by rfl, ?_⟩) ?_ ?_
                      rotate_left
                      · intro w'
                        go_simp
                        first | with_reducible rfl | (show _ = Result.ok (Next.value (Value.bool true)) w'; (repeat' split) <;> first | rfl | (exfalso; simp [*] at c52b0; done) | (exfalso; simp_all; done)) | (show _ = Result.ok (Next.value (Value.bool false)) w'; (repeat' split) <;> first | rfl | (exfalso; simp [*] at c52b0; done) | (exfalso; simp_all; done))
                      rotate_left
                      · simp only [Act.put, List.setIfInBounds_toArray, List.set_cons_zero, List.set_cons_succ, i64_w, i32_w]
                        rfl
                      refine pure_ (i := 1) (N := some 43) (v := ?_) (a' := ?_) #[true, true, false, false, false, false, false, false, false, false] rfl rfl (any_of HT_.out (by kernel_rfl)) (fun _ _ _ h => h) (Or.inl ⟨by rfl, ?_⟩) ?_ ?_
                      rotate_left
                      · intro w'
                        go_simp
                        first | with_reducible rfl | (show _ = Result.ok (Next.value (Value.bool true)) w'; (repeat' split) <;> first | rfl | (exfalso; simp [*] at c52b0; done) | (exfalso; simp_all; done)) | (show _ = Result.ok (Next.value (Value.bool false)) w'; (repeat' split) <;> first | rfl | (exfalso; simp [*] at c52b0; done) | (exfalso; simp_all; done))
                      rotate_left
                      · simp only [Act.put, List.setIfInBounds_toArray, List.set_cons_zero, List.set_cons_succ, i64_w, i32_w]
                        rfl
                      refine pure_ (i := 2) (N := some 44) (v := ?_) (a' := ?_) #[true, true, true, false, false, false, false, false, false, false] rfl rfl (any_of HT_.out (by kernel_rfl)) (fun _ _ _ h => h) (Or.inl ⟨by rfl, ?_⟩) ?_ ?_
                      rotate_left
                      · intro w'
                        go_simp
                        first | with_reducible rfl | (show _ = Result.ok (Next.value (Value.bool true)) w'; (repeat' split) <;> first | rfl | (exfalso; simp [*] at c52b0; done) | (exfalso; simp_all; done)) | (show _ = Result.ok (Next.value (Value.bool false)) w'; (repeat' split) <;> first | rfl | (exfalso; simp [*] at c52b0; done) | (exfalso; simp_all; done))
                      rotate_left
                      · simp only [Act.put, List.setIfInBounds_toArray, List.set_cons_zero, List.set_cons_succ, i64_w, i32_w]
                        rfl
                      refine pure_ (i := 3) (N := some 45) (v := ?_) (a' := ?_) #[true, true, true, true, false, false, false, false, false, false] rfl rfl (any_of HT_.out (by kernel_rfl)) (fun _ _ _ h => h) (Or.inl ⟨by rfl, ?_⟩) ?_ ?_
                      rotate_left
                      · intro w'
                        go_simp
                        first | with_reducible rfl | (show _ = Result.ok (Next.value (Value.bool true)) w'; (repeat' split) <;> first | rfl | (exfalso; simp [*] at c52b0; done) | (exfalso; simp_all; done)) | (show _ = Result.ok (Next.value (Value.bool false)) w'; (repeat' split) <;> first | rfl | (exfalso; simp [*] at c52b0; done) | (exfalso; simp_all; done))
                      rotate_left
                      · simp only [Act.put, List.setIfInBounds_toArray, List.set_cons_zero, List.set_cons_succ, i64_w, i32_w]
                        rfl
                      refine pure_ (i := 4) (N := some 46) (v := ?_) (a' := ?_) #[true, true, true, true, true, false, false, false, false, false] rfl rfl (any_of HT_.out (by kernel_rfl)) (fun _ _ _ h => h) (Or.inl ⟨by rfl, ?_⟩) ?_ ?_
                      rotate_left
                      · intro w'
                        go_simp
                        first | with_reducible rfl | (show _ = Result.ok (Next.value (Value.bool true)) w'; (repeat' split) <;> first | rfl | (exfalso; simp [*] at c52b0; done) | (exfalso; simp_all; done)) | (show _ = Result.ok (Next.value (Value.bool false)) w'; (repeat' split) <;> first | rfl | (exfalso; simp [*] at c52b0; done) | (exfalso; simp_all; done))
                      rotate_left
                      · simp only [Act.put, List.setIfInBounds_toArray, List.set_cons_zero, List.set_cons_succ, i64_w, i32_w]
                        rfl
                      refine pure_ (i := 5) (N := some 47) (v := ?_) (a' := ?_) #[true, true, true, true, true, true, false, false, false, false] rfl rfl (any_of HT_.out (by kernel_rfl)) (fun _ _ _ h => h) (Or.inl ⟨by rfl, ?_⟩) ?_ ?_
                      rotate_left
                      · intro w'
                        go_simp
                        first | with_reducible rfl | (show _ = Result.ok (Next.value (Value.bool true)) w'; (repeat' split) <;> first | rfl | (exfalso; simp [*] at c52b0; done) | (exfalso; simp_all; done)) | (show _ = Result.ok (Next.value (Value.bool false)) w'; (repeat' split) <;> first | rfl | (exfalso; simp [*] at c52b0; done) | (exfalso; simp_all; done))
                      rotate_left
                      · simp only [Act.put, List.setIfInBounds_toArray, List.set_cons_zero, List.set_cons_succ, i64_w, i32_w]
                        rfl
                      refine take_ (i := 6) (N := some 48) (v := ?_) (a' := ?_) #[true, true, true, true, true, true, true, false, false, false] rfl rfl (take_ofW HT_.out HW_.out (by kernel_rfl)) (fun _ _ _ h => h) (Or.inl ⟨by rfl, ?_⟩) hHeld ?_ ?_
                      rotate_left
                      · rintro w' ⟨s0, s1, s2, s3, s4, s5⟩
                        go_simp
                        first | with_reducible rfl | (show _ = Result.ok (Next.value (Value.bool true)) w'; (repeat' split) <;> first | rfl | (exfalso; simp [*] at c52b0; done) | (exfalso; simp_all; done)) | (show _ = Result.ok (Next.value (Value.bool false)) w'; (repeat' split) <;> first | rfl | (exfalso; simp [*] at c52b0; done) | (exfalso; simp_all; done))
                      rotate_left
                      · simp only [Act.put, List.setIfInBounds_toArray, List.set_cons_zero, List.set_cons_succ, i64_w, i32_w]
                        rfl
                      refine take_ (i := 7) (N := some 49) (v := ?_) (a' := ?_) #[true, true, true, true, true, true, true, true, false, false] rfl rfl (take_ofW HT_.out HW_.out (by kernel_rfl)) (fun _ _ _ h => h) (Or.inl ⟨by rfl, ?_⟩) hHeld ?_ ?_
                      rotate_left
                      · rintro w' ⟨s0, s1, s2, s3, s4, s5⟩
                        go_simp
                        first | with_reducible rfl | (show _ = Result.ok (Next.value (Value.bool true)) w'; (repeat' split) <;> first | rfl | (exfalso; simp [*] at c52b0; done) | (exfalso; simp_all; done)) | (show _ = Result.ok (Next.value (Value.bool false)) w'; (repeat' split) <;> first | rfl | (exfalso; simp [*] at c52b0; done) | (exfalso; simp_all; done))
                      rotate_left
                      · simp only [Act.put, List.setIfInBounds_toArray, List.set_cons_zero, List.set_cons_succ, i64_w, i32_w]
                        rfl
                      refine pure_ (i := 8) (N := some 50) (v := ?_) (a' := ?_) #[true, true, true, true, true, true, true, true, true, false] rfl rfl (any_of HT_.out (by kernel_rfl)) (fun _ _ _ h => h) (Or.inl ⟨by rfl, ?_⟩) ?_ ?_
                      rotate_left
                      · intro w'
                        go_simp
                        first | with_reducible rfl | (show _ = Result.ok (Next.value (Value.bool true)) w'; (repeat' split) <;> first | rfl | (exfalso; simp [*] at c52b0; done) | (exfalso; simp_all; done)) | (show _ = Result.ok (Next.value (Value.bool false)) w'; (repeat' split) <;> first | rfl | (exfalso; simp [*] at c52b0; done) | (exfalso; simp_all; done))
                      rotate_left
                      · simp only [Act.put, List.setIfInBounds_toArray, List.set_cons_zero, List.set_cons_succ, i64_w, i32_w]
                        rfl
                      refine pure_ (i := 9) (N := some 51) (v := ?_) (a' := ?_) #[true, true, true, true, true, true, true, true, true, true] rfl rfl (any_of HT_.out (by kernel_rfl)) (fun _ _ _ h => h) (Or.inl ⟨by rfl, ?_⟩) ?_ ?_
                      rotate_left
                      · intro w'
                        go_simp
                        first | with_reducible rfl | (show _ = Result.ok (Next.value (Value.bool true)) w'; (repeat' split) <;> first | rfl | (exfalso; simp [*] at c52b0; done) | (exfalso; simp_all; done)) | (show _ = Result.ok (Next.value (Value.bool false)) w'; (repeat' split) <;> first | rfl | (exfalso; simp [*] at c52b0; done) | (exfalso; simp_all; done))
                      rotate_left
                      · simp only [Act.put, List.setIfInBounds_toArray, List.set_cons_zero, List.set_cons_succ, i64_w, i32_w]
                        rfl
                      refine done_ (done_of HT_.out (by kernel_rfl)) ?_
                      try go_wp2
                      go_roundg k1
                      case measure => have := HK1.out; omega
                      case rel => exact ⟨(x6_1), (wrap64 (x6_1 + 1)), (by first | rfl | (simp; done) | (simp [*]; done)), (by first | rfl | (simp; done) | (simp [*]; done)), H', ⟨by have := HK1.out; omega⟩, ⟨by (with_reducible repeat (first | apply Kd.R_alloc | apply Kd.R_drewN | apply Kd.R_drew)); exact HO_3.out⟩, ⟨by (with_reducible repeat (first | refine blk_drewN ?_ _ | refine blk_drew ?_ | refine blk_alloc ?_ _)); exact BK176.out⟩, ⟨by repeat (first | (with_reducible first | exact HB.out | apply below_alloc | apply pw_below_drewN | apply below_drew1 | refine below_set ?_ GE176.out) | exact HB.out)⟩⟩
                    · rw [if_neg c52] at H
                      have c52b0 : ((((rd_T36 t170 x6_1).f0.f0) == t173 && (((rd_T36 t170 x6_1).f0.f1) == t174)) && (((rd_T36 t170 x6_1).f1) == t175)) = false := by simpa using c52
                      clear c52
                      have H' := Aside0.mk H
                      clear H
                      try go_wp2
                      have n0_ := Aside0.mk (Kd.R_drew HO_3.out)
                      have n1_ := Aside0.mk (blk_drew BK176.out)
                      have n2_ := Aside0.mk (below_drew1 HB.out)
                      clear HO_3
                      clear BK176
                      clear HB
                      have HO_3 := n0_
                      have BK176 := n1_
                      have HB := n2_
                      clear n0_ n1_ n2_
                      have p181 : 0 ≤ (x6_1 : Int) := of_decide_eq_true (by first | (with_reducible assumption) | assumption)
                      have q181 : x6_1 < (t170.length : Int) := of_decide_eq_true (by first | (with_reducible assumption) | assumption)
                      obtain ⟨ad181, e181, hx181_0, hx181_1, hx181_2⟩ := at_T36 (Kd.R_reads' HO_3.out).2.2 x6_1 p181 q181
                      cases e181
                      replace p181 := eq_true p181
                      replace q181 := eq_true q181
                      refine start_ (n := 8) (S := fun w' => w'.cell? ⟨gb176, 0, none⟩ = some (.int .i64 t173) ∧ w'.cell? ⟨gb176, 1, none⟩ = some (.int .i64 t174) ∧ w'.cell? ⟨gb176, 2, none⟩ = some (.int .i64 t175) ∧ w'.cell? (ad181.add ((x6_1).toNat * 3)) = some (.int .i64 ((rd_T36 t170 x6_1).f0.f0)) ∧ w'.cell? ⟨(ad181.add ((x6_1).toNat * 3)).block, (ad181.add ((x6_1).toNat * 3)).off + 1, none⟩ = some (.int .i64 ((rd_T36 t170 x6_1).f0.f1)) ∧ w'.cell? ⟨(ad181.add ((x6_1).toNat * 3)).block, (ad181.add ((x6_1).toNat * 3)).off + 2, none⟩ = some (.int .i64 ((rd_T36 t170 x6_1).f1))) (ds := []) #[false, false, false, false, false, false, false, false] (by kernel_rfl) rfl rfl ⟨(blk_cell BK176.out 0).trans rfl, (blk_cell BK176.out 1).trans rfl, (blk_cell BK176.out 2).trans rfl, hx181_0, hx181_1, hx181_2⟩ (fun hHeld => ?_); refine with_tabW laws_FnBrdBest.tab13 laws_FnBrdBest.bits13 (fun HT_ HW_ => ?_)
                      generalize wr.drew = w56 at HO_3 BK176 HB hx181_0 hx181_1 hx181_2 hHeld ⊢
                      refine pure_ (i := 0) (N := some 34) (v := ?_) (a' := ?_) #[true, false, false, false, false, false, false, false] rfl rfl (any_of HT_.out (by kernel_rfl)) (fun _ _ _ h => h) (Or.inl ⟨by rfl, ?_⟩) ?_ ?_
                      rotate_left
                      · intro w'
                        go_simp
                        first | with_reducible rfl | (show _ = Result.ok (Next.value (Value.bool true)) w'; (repeat' split) <;> first | rfl | (exfalso; simp [*] at c52b0; done) | (exfalso; simp_all; done)) | (show _ = Result.ok (Next.value (Value.bool false)) w'; (repeat' split) <;> first | rfl | (exfalso; simp [*] at c52b0; done) | (exfalso; simp_all; done))
                      rotate_left
                      · simp only [Act.put, List.setIfInBounds_toArray, List.set_cons_zero, List.set_cons_succ, i64_w, i32_w]
                        rfl
                      refine pure_ (i := 1) (N := some 35) (v := ?_) (a' := ?_) #[true, true, false, false, false, false, false, false] rfl rfl (any_of HT_.out (by kernel_rfl)) (fun _ _ _ h => h) (Or.inl ⟨by rfl, ?_⟩) ?_ ?_
                      rotate_left
                      · intro w'
                        go_simp
                        first | with_reducible rfl | (show _ = Result.ok (Next.value (Value.bool true)) w'; (repeat' split) <;> first | rfl | (exfalso; simp [*] at c52b0; done) | (exfalso; simp_all; done)) | (show _ = Result.ok (Next.value (Value.bool false)) w'; (repeat' split) <;> first | rfl | (exfalso; simp [*] at c52b0; done) | (exfalso; simp_all; done))
                      rotate_left
                      · simp only [Act.put, List.setIfInBounds_toArray, List.set_cons_zero, List.set_cons_succ, i64_w, i32_w]
                        rfl
                      refine pure_ (i := 2) (N := some 36) (v := ?_) (a' := ?_) #[true, true, true, false, false, false, false, false] rfl rfl (any_of HT_.out (by kernel_rfl)) (fun _ _ _ h => h) (Or.inl ⟨by rfl, ?_⟩) ?_ ?_
                      rotate_left
                      · intro w'
                        go_simp
                        first | with_reducible rfl | (show _ = Result.ok (Next.value (Value.bool true)) w'; (repeat' split) <;> first | rfl | (exfalso; simp [*] at c52b0; done) | (exfalso; simp_all; done)) | (show _ = Result.ok (Next.value (Value.bool false)) w'; (repeat' split) <;> first | rfl | (exfalso; simp [*] at c52b0; done) | (exfalso; simp_all; done))
                      rotate_left
                      · simp only [Act.put, List.setIfInBounds_toArray, List.set_cons_zero, List.set_cons_succ, i64_w, i32_w]
                        rfl
                      refine pure_ (i := 3) (N := some 37) (v := ?_) (a' := ?_) #[true, true, true, true, false, false, false, false] rfl rfl (any_of HT_.out (by kernel_rfl)) (fun _ _ _ h => h) (Or.inl ⟨by rfl, ?_⟩) ?_ ?_
                      rotate_left
                      · intro w'
                        go_simp
                        first | with_reducible rfl | (show _ = Result.ok (Next.value (Value.bool true)) w'; (repeat' split) <;> first | rfl | (exfalso; simp [*] at c52b0; done) | (exfalso; simp_all; done)) | (show _ = Result.ok (Next.value (Value.bool false)) w'; (repeat' split) <;> first | rfl | (exfalso; simp [*] at c52b0; done) | (exfalso; simp_all; done))
                      rotate_left
                      · simp only [Act.put, List.setIfInBounds_toArray, List.set_cons_zero, List.set_cons_succ, i64_w, i32_w]
                        rfl
                      refine pure_ (i := 5) (N := some 39) (v := ?_) (a' := ?_) #[true, true, true, true, false, true, false, false] rfl rfl (any_of HT_.out (by kernel_rfl)) (fun _ _ _ h => h) (Or.inl ⟨by rfl, ?_⟩) ?_ ?_
                      rotate_left
                      · intro w'
                        go_simp
                        first | with_reducible rfl | (show _ = Result.ok (Next.value (Value.bool true)) w'; (repeat' split) <;> first | rfl | (exfalso; simp [*] at c52b0; done) | (exfalso; simp_all; done)) | (show _ = Result.ok (Next.value (Value.bool false)) w'; (repeat' split) <;> first | rfl | (exfalso; simp [*] at c52b0; done) | (exfalso; simp_all; done))
                      rotate_left
                      · simp only [Act.put, List.setIfInBounds_toArray, List.set_cons_zero, List.set_cons_succ, i64_w, i32_w]
                        rfl
                      refine take_ (i := 4) (N := some 38) (v := ?_) (a' := ?_) #[true, true, true, true, true, true, false, false] rfl rfl (take_ofW HT_.out HW_.out (by kernel_rfl)) (fun _ _ _ h => h) (Or.inl ⟨by rfl, ?_⟩) hHeld ?_ ?_
                      rotate_left
                      · rintro w' ⟨s0, s1, s2, s3, s4, s5⟩
                        go_simp
                        first | with_reducible rfl | (show _ = Result.ok (Next.value (Value.bool true)) w'; (repeat' split) <;> first | rfl | (exfalso; simp [*] at c52b0; done) | (exfalso; simp_all; done)) | (show _ = Result.ok (Next.value (Value.bool false)) w'; (repeat' split) <;> first | rfl | (exfalso; simp [*] at c52b0; done) | (exfalso; simp_all; done))
                      rotate_left
                      · simp only [Act.put, List.setIfInBounds_toArray, List.set_cons_zero, List.set_cons_succ, i64_w, i32_w]
                        rfl
                      refine take_ (i := 6) (N := some 40) (v := ?_) (a' := ?_) #[true, true, true, true, true, true, true, false] rfl rfl (take_ofW HT_.out HW_.out (by kernel_rfl)) (fun _ _ _ h => h) (Or.inl ⟨by rfl, ?_⟩) hHeld ?_ ?_
                      rotate_left
                      · rintro w' ⟨s0, s1, s2, s3, s4, s5⟩
                        go_simp
                        first | with_reducible rfl | (show _ = Result.ok (Next.value (Value.bool true)) w'; (repeat' split) <;> first | rfl | (exfalso; simp [*] at c52b0; done) | (exfalso; simp_all; done)) | (show _ = Result.ok (Next.value (Value.bool false)) w'; (repeat' split) <;> first | rfl | (exfalso; simp [*] at c52b0; done) | (exfalso; simp_all; done))
                      rotate_left
                      · simp only [Act.put, List.setIfInBounds_toArray, List.set_cons_zero, List.set_cons_succ, i64_w, i32_w]
                        rfl
                      refine one_ (i := 7) (N := some 41) #[true, true, true, true, true, true, true, true] rfl rfl (one_of HT_.out (by kernel_rfl)) (by decide) (fun K hK => ?_)
                      refine goes_ Tryd.func15 (by kernel_rfl) rfl #[.agg #[.int .i64 ((rd_T36 t170 x6_1).f0.f0), .int .i64 ((rd_T36 t170 x6_1).f0.f1)], .agg #[.int .i64 t173, .int .i64 t174]] (by rfl) rfl rfl (by (try simp only [List.map_toArray, List.map_cons, List.map_nil]); first | done | rfl | (simp only [List.length_drop, List.length_take]; rfl)) ?_
                      with_reducible refine (impl_BrdBeats.calls k1 ((rd_T36 t170 x6_1).f0.f0) ((rd_T36 t170 x6_1).f0.f1) t173 t174 false _ A47.out).mono ?_
                      rintro e w57 ⟨rfl, hb⟩
                      have HS3_ := (hb.cell (World.block_lt_of_cell? _ _ (hHeld.2.2.2.1))).trans (hHeld.2.2.2.1)
                      have HS4_ := (hb.cell (World.block_lt_of_cell? _ _ (hHeld.2.2.2.2.1))).trans (hHeld.2.2.2.2.1)
                      have HS5_ := (hb.cell (World.block_lt_of_cell? _ _ (hHeld.2.2.2.2.2))).trans (hHeld.2.2.2.2.2)
                      refine ⟨_, rfl, ?_⟩
                      have n0_ := Aside0.mk (Kd.R_below (by (with_reducible repeat (first | apply Kd.R_alloc | apply Kd.R_drewN | apply Kd.R_drew)); exact HO_3.out) hb)
                      have n1_ := Aside0.mk (blk_below (g := gb176) (o := .cells #[.int .i64 t173, .int .i64 t174, .int .i64 t175] 36 (0, 0)) (by (with_reducible repeat (first | refine blk_drewN ?_ _ | refine blk_drew ?_ | refine blk_alloc ?_ _)); exact BK176.out) hb)
                      have n2_ := Aside0.mk (below_step (by repeat (first | (with_reducible first | exact HB.out | apply below_alloc | apply pw_below_drewN | apply below_drew1 | refine below_set ?_ GE176.out) | exact HB.out)) hb)
                      clear HO_3
                      clear BK176
                      clear HB
                      have HO_3 := n0_
                      have BK176 := n1_
                      have HB := n2_
                      clear n0_ n1_ n2_
                      (try clear hb)
                      (try clear hb2)
                      (try clear hk)
                      (try clear hi)
                      refine hK.out _ _ ⟨(blk_cell BK176.out 0).trans rfl, (blk_cell BK176.out 1).trans rfl, (blk_cell BK176.out 2).trans rfl, HS3_, HS4_, HS5_⟩ (fun hHeld => ?_)
                      clear hK K
                      refine norm_ (a' := ?_) ?_ ?_
                      rotate_left
                      · show Act.put _ (some 41) _ = _
                        simp only [Act.put, List.setIfInBounds_toArray, List.set_cons_zero, List.set_cons_succ, i64_w, i32_w]
                        rfl
                      refine done_ (done_of HT_.out (by kernel_rfl)) ?_
                      try go_wp2
                      have n0_ := Aside0.mk (Kd.R_drew HO_3.out)
                      have n1_ := Aside0.mk (blk_drew BK176.out)
                      have n2_ := Aside0.mk (below_drew1 HB.out)
                      clear HO_3
                      clear BK176
                      clear HB
                      have HO_3 := n0_
                      have BK176 := n1_
                      have HB := n2_
                      clear n0_ n1_ n2_
                      have p183 : 0 ≤ (x6_1 : Int) := of_decide_eq_true (by first | (with_reducible assumption) | assumption)
                      have q183 : x6_1 < (t170.length : Int) := of_decide_eq_true (by first | (with_reducible assumption) | assumption)
                      obtain ⟨ad183, e183, hx183_0, hx183_1, hx183_2⟩ := at_T36 (Kd.R_reads' HO_3.out).2.2 x6_1 p183 q183
                      obtain rfl : ad181 = ad183 := (by injection e183)
                      replace p183 := eq_true p183
                      replace q183 := eq_true q183
                      refine start_ (n := 10) (S := fun w' => w'.cell? ⟨gb176, 0, none⟩ = some (.int .i64 t173) ∧ w'.cell? ⟨gb176, 1, none⟩ = some (.int .i64 t174) ∧ w'.cell? ⟨gb176, 2, none⟩ = some (.int .i64 t175) ∧ w'.cell? (ad181.add ((x6_1).toNat * 3)) = some (.int .i64 ((rd_T36 t170 x6_1).f0.f0)) ∧ w'.cell? ⟨(ad181.add ((x6_1).toNat * 3)).block, (ad181.add ((x6_1).toNat * 3)).off + 1, none⟩ = some (.int .i64 ((rd_T36 t170 x6_1).f0.f1)) ∧ w'.cell? ⟨(ad181.add ((x6_1).toNat * 3)).block, (ad181.add ((x6_1).toNat * 3)).off + 2, none⟩ = some (.int .i64 ((rd_T36 t170 x6_1).f1))) (ds := []) #[false, false, false, false, false, false, false, false, false, false] (by kernel_rfl) rfl rfl ⟨(blk_cell BK176.out 0).trans rfl, (blk_cell BK176.out 1).trans rfl, (blk_cell BK176.out 2).trans rfl, hx183_0, hx183_1, hx183_2⟩ (fun hHeld => ?_); refine with_tabW laws_FnBrdBest.tab15 laws_FnBrdBest.bits15 (fun HT_ HW_ => ?_)
                      generalize w57.drew = w58 at HO_3 BK176 HB hx183_0 hx183_1 hx183_2 hHeld ⊢
                      refine pure_ (i := 0) (N := some 42) (v := ?_) (a' := ?_) #[true, false, false, false, false, false, false, false, false, false] rfl rfl (any_of HT_.out (by kernel_rfl)) (fun _ _ _ h => h) (Or.inl ⟨by rfl, ?_⟩) ?_ ?_
                      rotate_left
                      · intro w'
                        go_simp
                        first | with_reducible rfl | (show _ = Result.ok (Next.value (Value.bool true)) w'; (repeat' split) <;> first | rfl | (exfalso; simp [*] at c52b0; done) | (exfalso; simp_all; done)) | (show _ = Result.ok (Next.value (Value.bool false)) w'; (repeat' split) <;> first | rfl | (exfalso; simp [*] at c52b0; done) | (exfalso; simp_all; done))
                      rotate_left
                      · simp only [Act.put, List.setIfInBounds_toArray, List.set_cons_zero, List.set_cons_succ, i64_w, i32_w]
                        rfl
                      refine pure_ (i := 1) (N := some 43) (v := ?_) (a' := ?_) #[true, true, false, false, false, false, false, false, false, false] rfl rfl (any_of HT_.out (by kernel_rfl)) (fun _ _ _ h => h) (Or.inl ⟨by rfl, ?_⟩) ?_ ?_
                      rotate_left
                      · intro w'
                        go_simp
                        first | with_reducible rfl | (show _ = Result.ok (Next.value (Value.bool true)) w'; (repeat' split) <;> first | rfl | (exfalso; simp [*] at c52b0; done) | (exfalso; simp_all; done)) | (show _ = Result.ok (Next.value (Value.bool false)) w'; (repeat' split) <;> first | rfl | (exfalso; simp [*] at c52b0; done) | (exfalso; simp_all; done))
                      rotate_left
                      · simp only [Act.put, List.setIfInBounds_toArray, List.set_cons_zero, List.set_cons_succ, i64_w, i32_w]
                        rfl
                      refine pure_ (i := 2) (N := some 44) (v := ?_) (a' := ?_) #[true, true, true, false, false, false, false, false, false, false] rfl rfl (any_of HT_.out (by kernel_rfl)) (fun _ _ _ h => h) (Or.inl ⟨by rfl, ?_⟩) ?_ ?_
                      rotate_left
                      · intro w'
                        go_simp
                        first | with_reducible rfl | (show _ = Result.ok (Next.value (Value.bool true)) w'; (repeat' split) <;> first | rfl | (exfalso; simp [*] at c52b0; done) | (exfalso; simp_all; done)) | (show _ = Result.ok (Next.value (Value.bool false)) w'; (repeat' split) <;> first | rfl | (exfalso; simp [*] at c52b0; done) | (exfalso; simp_all; done))
                      rotate_left
                      · simp only [Act.put, List.setIfInBounds_toArray, List.set_cons_zero, List.set_cons_succ, i64_w, i32_w]
                        rfl
                      refine pure_ (i := 3) (N := some 45) (v := ?_) (a' := ?_) #[true, true, true, true, false, false, false, false, false, false] rfl rfl (any_of HT_.out (by kernel_rfl)) (fun _ _ _ h => h) (Or.inl ⟨by rfl, ?_⟩) ?_ ?_
                      rotate_left
                      · intro w'
                        go_simp
                        first | with_reducible rfl | (show _ = Result.ok (Next.value (Value.bool true)) w'; (repeat' split) <;> first | rfl | (exfalso; simp [*] at c52b0; done) | (exfalso; simp_all; done)) | (show _ = Result.ok (Next.value (Value.bool false)) w'; (repeat' split) <;> first | rfl | (exfalso; simp [*] at c52b0; done) | (exfalso; simp_all; done))
                      rotate_left
                      · simp only [Act.put, List.setIfInBounds_toArray, List.set_cons_zero, List.set_cons_succ, i64_w, i32_w]
                        rfl
                      refine pure_ (i := 4) (N := some 46) (v := ?_) (a' := ?_) #[true, true, true, true, true, false, false, false, false, false] rfl rfl (any_of HT_.out (by kernel_rfl)) (fun _ _ _ h => h) (Or.inl ⟨by rfl, ?_⟩) ?_ ?_
                      rotate_left
                      · intro w'
                        go_simp
                        first | with_reducible rfl | (show _ = Result.ok (Next.value (Value.bool true)) w'; (repeat' split) <;> first | rfl | (exfalso; simp [*] at c52b0; done) | (exfalso; simp_all; done)) | (show _ = Result.ok (Next.value (Value.bool false)) w'; (repeat' split) <;> first | rfl | (exfalso; simp [*] at c52b0; done) | (exfalso; simp_all; done))
                      rotate_left
                      · simp only [Act.put, List.setIfInBounds_toArray, List.set_cons_zero, List.set_cons_succ, i64_w, i32_w]
                        rfl
                      refine pure_ (i := 5) (N := some 47) (v := ?_) (a' := ?_) #[true, true, true, true, true, true, false, false, false, false] rfl rfl (any_of HT_.out (by kernel_rfl)) (fun _ _ _ h => h) (Or.inl ⟨by rfl, ?_⟩) ?_ ?_
                      rotate_left
                      · intro w'
                        go_simp
                        first | with_reducible rfl | (show _ = Result.ok (Next.value (Value.bool true)) w'; (repeat' split) <;> first | rfl | (exfalso; simp [*] at c52b0; done) | (exfalso; simp_all; done)) | (show _ = Result.ok (Next.value (Value.bool false)) w'; (repeat' split) <;> first | rfl | (exfalso; simp [*] at c52b0; done) | (exfalso; simp_all; done))
                      rotate_left
                      · simp only [Act.put, List.setIfInBounds_toArray, List.set_cons_zero, List.set_cons_succ, i64_w, i32_w]
                        rfl
                      refine take_ (i := 6) (N := some 48) (v := ?_) (a' := ?_) #[true, true, true, true, true, true, true, false, false, false] rfl rfl (take_ofW HT_.out HW_.out (by kernel_rfl)) (fun _ _ _ h => h) (Or.inl ⟨by rfl, ?_⟩) hHeld ?_ ?_
                      rotate_left
                      · rintro w' ⟨s0, s1, s2, s3, s4, s5⟩
                        go_simp
                        first | with_reducible rfl | (show _ = Result.ok (Next.value (Value.bool true)) w'; (repeat' split) <;> first | rfl | (exfalso; simp [*] at c52b0; done) | (exfalso; simp_all; done)) | (show _ = Result.ok (Next.value (Value.bool false)) w'; (repeat' split) <;> first | rfl | (exfalso; simp [*] at c52b0; done) | (exfalso; simp_all; done))
                      rotate_left
                      · simp only [Act.put, List.setIfInBounds_toArray, List.set_cons_zero, List.set_cons_succ, i64_w, i32_w]
                        rfl
                      refine take_ (i := 7) (N := some 49) (v := ?_) (a' := ?_) #[true, true, true, true, true, true, true, true, false, false] rfl rfl (take_ofW HT_.out HW_.out (by kernel_rfl)) (fun _ _ _ h => h) (Or.inl ⟨by rfl, ?_⟩) hHeld ?_ ?_
                      rotate_left
                      · rintro w' ⟨s0, s1, s2, s3, s4, s5⟩
                        go_simp
                        first | with_reducible rfl | (show _ = Result.ok (Next.value (Value.bool true)) w'; (repeat' split) <;> first | rfl | (exfalso; simp [*] at c52b0; done) | (exfalso; simp_all; done)) | (show _ = Result.ok (Next.value (Value.bool false)) w'; (repeat' split) <;> first | rfl | (exfalso; simp [*] at c52b0; done) | (exfalso; simp_all; done))
                      rotate_left
                      · simp only [Act.put, List.setIfInBounds_toArray, List.set_cons_zero, List.set_cons_succ, i64_w, i32_w]
                        rfl
                      refine pure_ (i := 8) (N := some 50) (v := ?_) (a' := ?_) #[true, true, true, true, true, true, true, true, true, false] rfl rfl (any_of HT_.out (by kernel_rfl)) (fun _ _ _ h => h) (Or.inl ⟨by rfl, ?_⟩) ?_ ?_
                      rotate_left
                      · intro w'
                        go_simp
                        first | with_reducible rfl | (show _ = Result.ok (Next.value (Value.bool true)) w'; (repeat' split) <;> first | rfl | (exfalso; simp [*] at c52b0; done) | (exfalso; simp_all; done)) | (show _ = Result.ok (Next.value (Value.bool false)) w'; (repeat' split) <;> first | rfl | (exfalso; simp [*] at c52b0; done) | (exfalso; simp_all; done))
                      rotate_left
                      · simp only [Act.put, List.setIfInBounds_toArray, List.set_cons_zero, List.set_cons_succ, i64_w, i32_w]
                        rfl
                      refine pure_ (i := 9) (N := some 51) (v := ?_) (a' := ?_) #[true, true, true, true, true, true, true, true, true, true] rfl rfl (any_of HT_.out (by kernel_rfl)) (fun _ _ _ h => h) (Or.inl ⟨by rfl, ?_⟩) ?_ ?_
                      rotate_left
                      · intro w'
                        go_simp
                        first | with_reducible rfl | (show _ = Result.ok (Next.value (Value.bool true)) w'; (repeat' split) <;> first | rfl | (exfalso; simp [*] at c52b0; done) | (exfalso; simp_all; done)) | (show _ = Result.ok (Next.value (Value.bool false)) w'; (repeat' split) <;> first | rfl | (exfalso; simp [*] at c52b0; done) | (exfalso; simp_all; done))
                      rotate_left
                      · simp only [Act.put, List.setIfInBounds_toArray, List.set_cons_zero, List.set_cons_succ, i64_w, i32_w]
                        rfl
                      refine done_ (done_of HT_.out (by kernel_rfl)) ?_
                      try go_wp2
                      go_roundg k1
                      case measure => have := HK1.out; omega
                      case rel => exact ⟨(x5_1), (wrap64 (x6_1 + 1)), (by first | rfl | (simp; done) | (simp [*]; done)), (by first | rfl | (simp; done) | (simp [*]; done)), H', ⟨by have := HK1.out; omega⟩, ⟨by (with_reducible repeat (first | apply Kd.R_alloc | apply Kd.R_drewN | apply Kd.R_drew)); exact HO_3.out⟩, ⟨by (with_reducible repeat (first | refine blk_drewN ?_ _ | refine blk_drew ?_ | refine blk_alloc ?_ _)); exact BK176.out⟩, ⟨by repeat (first | (with_reducible first | exact HB.out | apply below_alloc | apply pw_below_drewN | apply below_drew1 | refine below_set ?_ GE176.out) | exact HB.out)⟩⟩
                  · rw [if_neg c51] at H
                    have c51b0 : decide (x5_1 < 0) = false := decide_eq_false c51
                    clear c51
                    have H' := Aside0.mk H
                    clear H
                    try go_wp2
                    have n0_ := Aside0.mk (Kd.R_drew HO_3.out)
                    have n1_ := Aside0.mk (blk_drew BK176.out)
                    have n2_ := Aside0.mk (below_drew1 HB.out)
                    clear HO_3
                    clear BK176
                    clear HB
                    have HO_3 := n0_
                    have BK176 := n1_
                    have HB := n2_
                    clear n0_ n1_ n2_
                    have p181 : 0 ≤ (x6_1 : Int) := of_decide_eq_true (by first | (with_reducible assumption) | assumption)
                    have q181 : x6_1 < (t170.length : Int) := of_decide_eq_true (by first | (with_reducible assumption) | assumption)
                    obtain ⟨ad181, e181, hx181_0, hx181_1, hx181_2⟩ := at_T36 (Kd.R_reads' HO_3.out).2.2 x6_1 p181 q181
                    cases e181
                    replace p181 := eq_true p181
                    replace q181 := eq_true q181
                    refine start_ (n := 8) (S := fun w' => w'.cell? ⟨gb176, 0, none⟩ = some (.int .i64 t173) ∧ w'.cell? ⟨gb176, 1, none⟩ = some (.int .i64 t174) ∧ w'.cell? ⟨gb176, 2, none⟩ = some (.int .i64 t175) ∧ w'.cell? (ad181.add ((x6_1).toNat * 3)) = some (.int .i64 ((rd_T36 t170 x6_1).f0.f0)) ∧ w'.cell? ⟨(ad181.add ((x6_1).toNat * 3)).block, (ad181.add ((x6_1).toNat * 3)).off + 1, none⟩ = some (.int .i64 ((rd_T36 t170 x6_1).f0.f1)) ∧ w'.cell? ⟨(ad181.add ((x6_1).toNat * 3)).block, (ad181.add ((x6_1).toNat * 3)).off + 2, none⟩ = some (.int .i64 ((rd_T36 t170 x6_1).f1))) (ds := []) #[false, false, false, false, false, false, false, false] (by kernel_rfl) rfl rfl ⟨(blk_cell BK176.out 0).trans rfl, (blk_cell BK176.out 1).trans rfl, (blk_cell BK176.out 2).trans rfl, hx181_0, hx181_1, hx181_2⟩ (fun hHeld => ?_); refine with_tabW laws_FnBrdBest.tab13 laws_FnBrdBest.bits13 (fun HT_ HW_ => ?_)
                    generalize wr.drew = w59 at HO_3 BK176 HB hx181_0 hx181_1 hx181_2 hHeld ⊢
                    refine pure_ (i := 0) (N := some 34) (v := ?_) (a' := ?_) #[true, false, false, false, false, false, false, false] rfl rfl (any_of HT_.out (by kernel_rfl)) (fun _ _ _ h => h) (Or.inl ⟨by rfl, ?_⟩) ?_ ?_
                    rotate_left
                    · intro w'
                      go_simp
                      first | with_reducible rfl | (show _ = Result.ok (Next.value (Value.bool true)) w'; (repeat' split) <;> first | rfl | (exfalso; simp [*] at c52b0; done) | (exfalso; simp_all; done)) | (show _ = Result.ok (Next.value (Value.bool false)) w'; (repeat' split) <;> first | rfl | (exfalso; simp [*] at c52b0; done) | (exfalso; simp_all; done))
                    rotate_left
                    · simp only [Act.put, List.setIfInBounds_toArray, List.set_cons_zero, List.set_cons_succ, i64_w, i32_w]
                      rfl
                    refine pure_ (i := 1) (N := some 35) (v := ?_) (a' := ?_) #[true, true, false, false, false, false, false, false] rfl rfl (any_of HT_.out (by kernel_rfl)) (fun _ _ _ h => h) (Or.inl ⟨by rfl, ?_⟩) ?_ ?_
                    rotate_left
                    · intro w'
                      go_simp
                      first | with_reducible rfl | (show _ = Result.ok (Next.value (Value.bool true)) w'; (repeat' split) <;> first | rfl | (exfalso; simp [*] at c52b0; done) | (exfalso; simp_all; done)) | (show _ = Result.ok (Next.value (Value.bool false)) w'; (repeat' split) <;> first | rfl | (exfalso; simp [*] at c52b0; done) | (exfalso; simp_all; done))
                    rotate_left
                    · simp only [Act.put, List.setIfInBounds_toArray, List.set_cons_zero, List.set_cons_succ, i64_w, i32_w]
                      rfl
                    refine pure_ (i := 2) (N := some 36) (v := ?_) (a' := ?_) #[true, true, true, false, false, false, false, false] rfl rfl (any_of HT_.out (by kernel_rfl)) (fun _ _ _ h => h) (Or.inl ⟨by rfl, ?_⟩) ?_ ?_
                    rotate_left
                    · intro w'
                      go_simp
                      first | with_reducible rfl | (show _ = Result.ok (Next.value (Value.bool true)) w'; (repeat' split) <;> first | rfl | (exfalso; simp [*] at c52b0; done) | (exfalso; simp_all; done)) | (show _ = Result.ok (Next.value (Value.bool false)) w'; (repeat' split) <;> first | rfl | (exfalso; simp [*] at c52b0; done) | (exfalso; simp_all; done))
                    rotate_left
                    · simp only [Act.put, List.setIfInBounds_toArray, List.set_cons_zero, List.set_cons_succ, i64_w, i32_w]
                      rfl
                    refine pure_ (i := 3) (N := some 37) (v := ?_) (a' := ?_) #[true, true, true, true, false, false, false, false] rfl rfl (any_of HT_.out (by kernel_rfl)) (fun _ _ _ h => h) (Or.inl ⟨by rfl, ?_⟩) ?_ ?_
                    rotate_left
                    · intro w'
                      go_simp
                      first | with_reducible rfl | (show _ = Result.ok (Next.value (Value.bool true)) w'; (repeat' split) <;> first | rfl | (exfalso; simp [*] at c52b0; done) | (exfalso; simp_all; done)) | (show _ = Result.ok (Next.value (Value.bool false)) w'; (repeat' split) <;> first | rfl | (exfalso; simp [*] at c52b0; done) | (exfalso; simp_all; done))
                    rotate_left
                    · simp only [Act.put, List.setIfInBounds_toArray, List.set_cons_zero, List.set_cons_succ, i64_w, i32_w]
                      rfl
                    refine pure_ (i := 5) (N := some 39) (v := ?_) (a' := ?_) #[true, true, true, true, false, true, false, false] rfl rfl (any_of HT_.out (by kernel_rfl)) (fun _ _ _ h => h) (Or.inl ⟨by rfl, ?_⟩) ?_ ?_
                    rotate_left
                    · intro w'
                      go_simp
                      first | with_reducible rfl | (show _ = Result.ok (Next.value (Value.bool true)) w'; (repeat' split) <;> first | rfl | (exfalso; simp [*] at c52b0; done) | (exfalso; simp_all; done)) | (show _ = Result.ok (Next.value (Value.bool false)) w'; (repeat' split) <;> first | rfl | (exfalso; simp [*] at c52b0; done) | (exfalso; simp_all; done))
                    rotate_left
                    · simp only [Act.put, List.setIfInBounds_toArray, List.set_cons_zero, List.set_cons_succ, i64_w, i32_w]
                      rfl
                    refine take_ (i := 4) (N := some 38) (v := ?_) (a' := ?_) #[true, true, true, true, true, true, false, false] rfl rfl (take_ofW HT_.out HW_.out (by kernel_rfl)) (fun _ _ _ h => h) (Or.inl ⟨by rfl, ?_⟩) hHeld ?_ ?_
                    rotate_left
                    · rintro w' ⟨s0, s1, s2, s3, s4, s5⟩
                      go_simp
                      first | with_reducible rfl | (show _ = Result.ok (Next.value (Value.bool true)) w'; (repeat' split) <;> first | rfl | (exfalso; simp [*] at c52b0; done) | (exfalso; simp_all; done)) | (show _ = Result.ok (Next.value (Value.bool false)) w'; (repeat' split) <;> first | rfl | (exfalso; simp [*] at c52b0; done) | (exfalso; simp_all; done))
                    rotate_left
                    · simp only [Act.put, List.setIfInBounds_toArray, List.set_cons_zero, List.set_cons_succ, i64_w, i32_w]
                      rfl
                    refine take_ (i := 6) (N := some 40) (v := ?_) (a' := ?_) #[true, true, true, true, true, true, true, false] rfl rfl (take_ofW HT_.out HW_.out (by kernel_rfl)) (fun _ _ _ h => h) (Or.inl ⟨by rfl, ?_⟩) hHeld ?_ ?_
                    rotate_left
                    · rintro w' ⟨s0, s1, s2, s3, s4, s5⟩
                      go_simp
                      first | with_reducible rfl | (show _ = Result.ok (Next.value (Value.bool true)) w'; (repeat' split) <;> first | rfl | (exfalso; simp [*] at c52b0; done) | (exfalso; simp_all; done)) | (show _ = Result.ok (Next.value (Value.bool false)) w'; (repeat' split) <;> first | rfl | (exfalso; simp [*] at c52b0; done) | (exfalso; simp_all; done))
                    rotate_left
                    · simp only [Act.put, List.setIfInBounds_toArray, List.set_cons_zero, List.set_cons_succ, i64_w, i32_w]
                      rfl
                    refine one_ (i := 7) (N := some 41) #[true, true, true, true, true, true, true, true] rfl rfl (one_of HT_.out (by kernel_rfl)) (by decide) (fun K hK => ?_)
                    refine goes_ Tryd.func15 (by kernel_rfl) rfl #[.agg #[.int .i64 ((rd_T36 t170 x6_1).f0.f0), .int .i64 ((rd_T36 t170 x6_1).f0.f1)], .agg #[.int .i64 t173, .int .i64 t174]] (by rfl) rfl rfl (by (try simp only [List.map_toArray, List.map_cons, List.map_nil]); first | done | rfl | (simp only [List.length_drop, List.length_take]; rfl)) ?_
                    with_reducible refine (impl_BrdBeats.calls k1 ((rd_T36 t170 x6_1).f0.f0) ((rd_T36 t170 x6_1).f0.f1) t173 t174 false _ A47.out).mono ?_
                    rintro e w60 ⟨rfl, hb⟩
                    have HS3_ := (hb.cell (World.block_lt_of_cell? _ _ (hHeld.2.2.2.1))).trans (hHeld.2.2.2.1)
                    have HS4_ := (hb.cell (World.block_lt_of_cell? _ _ (hHeld.2.2.2.2.1))).trans (hHeld.2.2.2.2.1)
                    have HS5_ := (hb.cell (World.block_lt_of_cell? _ _ (hHeld.2.2.2.2.2))).trans (hHeld.2.2.2.2.2)
                    refine ⟨_, rfl, ?_⟩
                    have n0_ := Aside0.mk (Kd.R_below (by (with_reducible repeat (first | apply Kd.R_alloc | apply Kd.R_drewN | apply Kd.R_drew)); exact HO_3.out) hb)
                    have n1_ := Aside0.mk (blk_below (g := gb176) (o := .cells #[.int .i64 t173, .int .i64 t174, .int .i64 t175] 36 (0, 0)) (by (with_reducible repeat (first | refine blk_drewN ?_ _ | refine blk_drew ?_ | refine blk_alloc ?_ _)); exact BK176.out) hb)
                    have n2_ := Aside0.mk (below_step (by repeat (first | (with_reducible first | exact HB.out | apply below_alloc | apply pw_below_drewN | apply below_drew1 | refine below_set ?_ GE176.out) | exact HB.out)) hb)
                    clear HO_3
                    clear BK176
                    clear HB
                    have HO_3 := n0_
                    have BK176 := n1_
                    have HB := n2_
                    clear n0_ n1_ n2_
                    (try clear hb)
                    (try clear hb2)
                    (try clear hk)
                    (try clear hi)
                    refine hK.out _ _ ⟨(blk_cell BK176.out 0).trans rfl, (blk_cell BK176.out 1).trans rfl, (blk_cell BK176.out 2).trans rfl, HS3_, HS4_, HS5_⟩ (fun hHeld => ?_)
                    clear hK K
                    refine norm_ (a' := ?_) ?_ ?_
                    rotate_left
                    · show Act.put _ (some 41) _ = _
                      simp only [Act.put, List.setIfInBounds_toArray, List.set_cons_zero, List.set_cons_succ, i64_w, i32_w]
                      rfl
                    refine done_ (done_of HT_.out (by kernel_rfl)) ?_
                    try go_wp2
                    have n0_ := Aside0.mk (Kd.R_drew HO_3.out)
                    have n1_ := Aside0.mk (blk_drew BK176.out)
                    have n2_ := Aside0.mk (below_drew1 HB.out)
                    clear HO_3
                    clear BK176
                    clear HB
                    have HO_3 := n0_
                    have BK176 := n1_
                    have HB := n2_
                    clear n0_ n1_ n2_
                    refine start_ (n := 10) (S := fun w' => True) (ds := []) #[false, false, false, false, false, false, false, false, false, false] (by kernel_rfl) rfl rfl trivial (fun hHeld => ?_); refine with_tabW laws_FnBrdBest.tab15 laws_FnBrdBest.bits15 (fun HT_ HW_ => ?_)
                    generalize w60.drew = w61 at HO_3 BK176 HB hHeld ⊢
                    refine pure_ (i := 0) (N := some 42) (v := ?_) (a' := ?_) #[true, false, false, false, false, false, false, false, false, false] rfl rfl (any_of HT_.out (by kernel_rfl)) (fun _ _ _ h => h) (Or.inl ⟨by rfl, ?_⟩) ?_ ?_
                    rotate_left
                    · intro w'
                      go_simp
                      first | with_reducible rfl | (show _ = Result.ok (Next.value (Value.bool true)) w'; (repeat' split) <;> first | rfl | (exfalso; simp [*] at c52b0; done) | (exfalso; simp_all; done)) | (show _ = Result.ok (Next.value (Value.bool false)) w'; (repeat' split) <;> first | rfl | (exfalso; simp [*] at c52b0; done) | (exfalso; simp_all; done))
                    rotate_left
                    · simp only [Act.put, List.setIfInBounds_toArray, List.set_cons_zero, List.set_cons_succ, i64_w, i32_w]
                      rfl
                    refine pure_ (i := 1) (N := some 43) (v := ?_) (a' := ?_) #[true, true, false, false, false, false, false, false, false, false] rfl rfl (any_of HT_.out (by kernel_rfl)) (fun _ _ _ h => h) (Or.inl ⟨by rfl, ?_⟩) ?_ ?_
                    rotate_left
                    · intro w'
                      go_simp
                      first | with_reducible rfl | (show _ = Result.ok (Next.value (Value.bool true)) w'; (repeat' split) <;> first | rfl | (exfalso; simp [*] at c52b0; done) | (exfalso; simp_all; done)) | (show _ = Result.ok (Next.value (Value.bool false)) w'; (repeat' split) <;> first | rfl | (exfalso; simp [*] at c52b0; done) | (exfalso; simp_all; done))
                    rotate_left
                    · simp only [Act.put, List.setIfInBounds_toArray, List.set_cons_zero, List.set_cons_succ, i64_w, i32_w]
                      rfl
                    refine pure_ (i := 2) (N := some 44) (v := ?_) (a' := ?_) #[true, true, true, false, false, false, false, false, false, false] rfl rfl (any_of HT_.out (by kernel_rfl)) (fun _ _ _ h => h) (Or.inl ⟨by rfl, ?_⟩) ?_ ?_
                    rotate_left
                    · intro w'
                      go_simp
                      first | with_reducible rfl | (show _ = Result.ok (Next.value (Value.bool true)) w'; (repeat' split) <;> first | rfl | (exfalso; simp [*] at c52b0; done) | (exfalso; simp_all; done)) | (show _ = Result.ok (Next.value (Value.bool false)) w'; (repeat' split) <;> first | rfl | (exfalso; simp [*] at c52b0; done) | (exfalso; simp_all; done))
                    rotate_left
                    · simp only [Act.put, List.setIfInBounds_toArray, List.set_cons_zero, List.set_cons_succ, i64_w, i32_w]
                      rfl
                    refine pure_ (i := 3) (N := some 45) (v := undef) (a' := ?_) #[true, true, true, true, false, false, false, false, false, false] rfl rfl (any_of HT_.out (by kernel_rfl)) (fun _ _ _ h => h) (Or.inr ⟨by rfl, rfl⟩) ?_ ?_
                    rotate_left
                    · simp only [Act.put, List.setIfInBounds_toArray, List.set_cons_zero, List.set_cons_succ, i64_w, i32_w]
                      rfl
                    refine pure_ (i := 4) (N := some 46) (v := undef) (a' := ?_) #[true, true, true, true, true, false, false, false, false, false] rfl rfl (any_of HT_.out (by kernel_rfl)) (fun _ _ _ h => h) (Or.inr ⟨by rfl, rfl⟩) ?_ ?_
                    rotate_left
                    · simp only [Act.put, List.setIfInBounds_toArray, List.set_cons_zero, List.set_cons_succ, i64_w, i32_w]
                      rfl
                    refine pure_ (i := 5) (N := some 47) (v := undef) (a' := ?_) #[true, true, true, true, true, true, false, false, false, false] rfl rfl (any_of HT_.out (by kernel_rfl)) (fun _ _ _ h => h) (Or.inr ⟨by rfl, rfl⟩) ?_ ?_
                    rotate_left
                    · simp only [Act.put, List.setIfInBounds_toArray, List.set_cons_zero, List.set_cons_succ, i64_w, i32_w]
                      rfl
                    refine pure_ (i := 6) (N := some 48) (v := undef) (a' := ?_) #[true, true, true, true, true, true, true, false, false, false] rfl rfl (any_of HT_.out (by kernel_rfl)) (fun _ _ _ h => h) (Or.inr ⟨by rfl, rfl⟩) ?_ ?_
                    rotate_left
                    · simp only [Act.put, List.setIfInBounds_toArray, List.set_cons_zero, List.set_cons_succ, i64_w, i32_w]
                      rfl
                    refine pure_ (i := 7) (N := some 49) (v := undef) (a' := ?_) #[true, true, true, true, true, true, true, true, false, false] rfl rfl (any_of HT_.out (by kernel_rfl)) (fun _ _ _ h => h) (Or.inr ⟨by rfl, rfl⟩) ?_ ?_
                    rotate_left
                    · simp only [Act.put, List.setIfInBounds_toArray, List.set_cons_zero, List.set_cons_succ, i64_w, i32_w]
                      rfl
                    refine pure_ (i := 8) (N := some 50) (v := undef) (a' := ?_) #[true, true, true, true, true, true, true, true, true, false] rfl rfl (any_of HT_.out (by kernel_rfl)) (fun _ _ _ h => h) (Or.inr ⟨by rfl, rfl⟩) ?_ ?_
                    rotate_left
                    · simp only [Act.put, List.setIfInBounds_toArray, List.set_cons_zero, List.set_cons_succ, i64_w, i32_w]
                      rfl
                    refine pure_ (i := 9) (N := some 51) (v := ?_) (a' := ?_) #[true, true, true, true, true, true, true, true, true, true] rfl rfl (any_of HT_.out (by kernel_rfl)) (fun _ _ _ h => h) (Or.inl ⟨by rfl, ?_⟩) ?_ ?_
                    rotate_left
                    · intro w'
                      go_simp
                      first | with_reducible rfl | (show _ = Result.ok (Next.value (Value.bool true)) w'; (repeat' split) <;> first | rfl | (exfalso; simp [*] at c52b0; done) | (exfalso; simp_all; done)) | (show _ = Result.ok (Next.value (Value.bool false)) w'; (repeat' split) <;> first | rfl | (exfalso; simp [*] at c52b0; done) | (exfalso; simp_all; done))
                    rotate_left
                    · simp only [Act.put, List.setIfInBounds_toArray, List.set_cons_zero, List.set_cons_succ, i64_w, i32_w]
                      rfl
                    refine done_ (done_of HT_.out (by kernel_rfl)) ?_
                    try go_wp2
                    go_roundg k1
                    case measure => have := HK1.out; omega
                    case rel => exact ⟨(x5_1), (wrap64 (x6_1 + 1)), (by first | rfl | (simp; done) | (simp [*]; done)), (by first | rfl | (simp; done) | (simp [*]; done)), H', ⟨by have := HK1.out; omega⟩, ⟨by (with_reducible repeat (first | apply Kd.R_alloc | apply Kd.R_drewN | apply Kd.R_drew)); exact HO_3.out⟩, ⟨by (with_reducible repeat (first | refine blk_drewN ?_ _ | refine blk_drew ?_ | refine blk_alloc ?_ _)); exact BK176.out⟩, ⟨by repeat (first | (with_reducible first | exact HB.out | apply below_alloc | apply pw_below_drewN | apply below_drew1 | refine below_set ?_ GE176.out) | exact HB.out)⟩⟩
              · rw [if_neg c46] at H
                exact absurd H (by simp)
            · rw [if_neg c45] at H
              have c45b0 : decide (x6_1 < (t170.length : Int)) = false := decide_eq_false c45
              clear c45
              have H' := Aside0.mk H
              clear H
              go_wp2
              go_loopg [7] k1 (fun kq v7 w' => ∃ (x7_2 : Int), v7 = .int .i64 x7_2 ∧ Aside0 (laws_FnBrdBest.l1 kq t170 x5_1 x7_2 t173 t174 t175 = some r) ∧ Aside0 (kq ≤ k1) ∧ Aside0 (Kd.R k36 36 w' w.heap.size (fun k_ => k_ ≠ gb176) (.slice Ao38 t170.length co38) t170) ∧ Aside0 (w'.heap[gb176]? = some (.cells #[.int .i64 t173, .int .i64 t174, .int .i64 t175] 36 (0, 0))) ∧ Aside0 (Below w.heap.size w w'))
              case atStart => exact ⟨(0), (by first | rfl | (simp; done) | (simp [*]; done)), H', ⟨Nat.le_refl _⟩, ⟨by (with_reducible repeat (first | apply Kd.R_alloc | apply Kd.R_drewN | apply Kd.R_drew)); exact HO_3.out⟩, ⟨by (with_reducible repeat (first | refine blk_drewN ?_ _ | refine blk_drew ?_ | refine blk_alloc ?_ _)); exact BK176.out⟩, ⟨by repeat (first | (with_reducible first | exact HB.out | apply below_alloc | apply pw_below_drewN | apply below_drew1 | refine below_set ?_ GE176.out) | exact HB.out)⟩⟩
              case round =>
                clear H'
                try clear c1
                try clear p1
                try clear q1
                try clear hx1
                try clear p2
                try clear c4
                try clear c5
                try clear p6
                try clear c15
                try clear p18
                try clear q18
                try clear hx18
                try clear c45
                try clear c45b0
                try clear c46
                try clear c51
                try clear c51b0
                try clear c52
                try clear c52b0
                try clear hx181_0
                try clear hx181_1
                try clear hx181_2
                try clear hx183_0
                try clear hx183_1
                try clear hx183_2
                try clear p181
                try clear p183
                try clear q181
                try clear q183
                obtain ⟨x7_2, rfl, HA, HK2, HO_3, BK176, HB⟩ := hrel
                cases gk with
                | zero => exact absurd HA.out (by simp [laws_FnBrdBest.l1])
                | succ k2 =>
                  have H := HA.out
                  clear HA
                  simp only [laws_FnBrdBest.l1] at H
                  by_cases c62 : x7_2 < x5_1
                  · rw [if_pos c62] at H
                    have c62b0 : decide (x7_2 < x5_1) = true := decide_eq_true c62
                    clear c62
                    by_cases c63 : 0 ≤ x7_2
                    · rw [if_pos c63] at H
                      have c63b0 : decide (0 ≤ x7_2) = true := decide_eq_true c63
                      clear c63
                      by_cases c64 : x7_2 < (t170.length : Int)
                      · rw [if_pos c64] at H
                        have c64b0 : decide (x7_2 < (t170.length : Int)) = true := decide_eq_true c64
                        clear c64
                        replace H := Option.bind_eq_some_iff.mp H
                        obtain ⟨t185, A650, H⟩ := H
                        replace H : (if t185 = true then (laws_FnBrdBest.l1 k2 t170 x5_1 (wrap64 (x7_2 + 1)) t173 t174 t175) else (some false)) = some r := H
                        have A65 := Aside0.mk A650
                        clear A650
                        by_cases c66 : t185 = true
                        · subst c66
                          have H1 : (laws_FnBrdBest.l1 k2 t170 x5_1 (wrap64 (x7_2 + 1)) t173 t174 t175) = some r := by rw [if_pos rfl] at H; exact H
                          clear H
                          have H := H1
                          clear H1
                          have H' := Aside0.mk H
                          clear H
                          try go_wp2
                          have n0_ := Aside0.mk (Kd.R_drew HO_3.out)
                          have n1_ := Aside0.mk (blk_drew BK176.out)
                          have n2_ := Aside0.mk (below_drew1 HB.out)
                          clear HO_3
                          clear BK176
                          clear HB
                          have HO_3 := n0_
                          have BK176 := n1_
                          have HB := n2_
                          clear n0_ n1_ n2_
                          have p184 : 0 ≤ (x7_2 : Int) := of_decide_eq_true (by first | (with_reducible assumption) | assumption)
                          have q184 : x7_2 < (t170.length : Int) := of_decide_eq_true (by first | (with_reducible assumption) | assumption)
                          obtain ⟨ad184, e184, hx184_0, hx184_1, hx184_2⟩ := at_T36 (Kd.R_reads' HO_3.out).2.2 x7_2 p184 q184
                          cases e184
                          replace p184 := eq_true p184
                          replace q184 := eq_true q184
                          refine start_ (n := 9) (S := fun w' => w'.cell? ⟨gb176, 0, none⟩ = some (.int .i64 t173) ∧ w'.cell? ⟨gb176, 1, none⟩ = some (.int .i64 t174) ∧ w'.cell? ⟨gb176, 2, none⟩ = some (.int .i64 t175) ∧ w'.cell? (ad184.add ((x7_2).toNat * 3)) = some (.int .i64 ((rd_T36 t170 x7_2).f0.f0)) ∧ w'.cell? ⟨(ad184.add ((x7_2).toNat * 3)).block, (ad184.add ((x7_2).toNat * 3)).off + 1, none⟩ = some (.int .i64 ((rd_T36 t170 x7_2).f0.f1)) ∧ w'.cell? ⟨(ad184.add ((x7_2).toNat * 3)).block, (ad184.add ((x7_2).toNat * 3)).off + 2, none⟩ = some (.int .i64 ((rd_T36 t170 x7_2).f1))) (ds := []) #[false, false, false, false, false, false, false, false, false] (by kernel_rfl) rfl rfl ⟨(blk_cell BK176.out 0).trans rfl, (blk_cell BK176.out 1).trans rfl, (blk_cell BK176.out 2).trans rfl, hx184_0, hx184_1, hx184_2⟩ (fun hHeld => ?_); refine with_tabW laws_FnBrdBest.tab20 laws_FnBrdBest.bits20 (fun HT_ HW_ => ?_)
                          generalize wr.drew = w67 at HO_3 BK176 HB hx184_0 hx184_1 hx184_2 hHeld ⊢
                          refine pure_ (i := 0) (N := some 58) (v := ?_) (a' := ?_) #[true, false, false, false, false, false, false, false, false] rfl rfl (any_of HT_.out (by kernel_rfl)) (fun _ _ _ h => h) (Or.inl ⟨by rfl, ?_⟩) ?_ ?_
                          rotate_left
                          · intro w'
                            go_simp
                            first | with_reducible rfl | (show _ = Result.ok (Next.value (Value.bool true)) w'; (repeat' split) <;> first | rfl | (exfalso; simp [*] at c52b0; done) | (exfalso; simp_all; done)) | (show _ = Result.ok (Next.value (Value.bool false)) w'; (repeat' split) <;> first | rfl | (exfalso; simp [*] at c52b0; done) | (exfalso; simp_all; done))
                          rotate_left
                          · simp only [Act.put, List.setIfInBounds_toArray, List.set_cons_zero, List.set_cons_succ, i64_w, i32_w]
                            rfl
                          refine pure_ (i := 2) (N := some 60) (v := ?_) (a' := ?_) #[true, false, true, false, false, false, false, false, false] rfl rfl (any_of HT_.out (by kernel_rfl)) (fun _ _ _ h => h) (Or.inl ⟨by rfl, ?_⟩) ?_ ?_
                          rotate_left
                          · intro w'
                            go_simp
                            first | with_reducible rfl | (show _ = Result.ok (Next.value (Value.bool true)) w'; (repeat' split) <;> first | rfl | (exfalso; simp [*] at c52b0; done) | (exfalso; simp_all; done)) | (show _ = Result.ok (Next.value (Value.bool false)) w'; (repeat' split) <;> first | rfl | (exfalso; simp [*] at c52b0; done) | (exfalso; simp_all; done))
                          rotate_left
                          · simp only [Act.put, List.setIfInBounds_toArray, List.set_cons_zero, List.set_cons_succ, i64_w, i32_w]
                            rfl
                          refine pure_ (i := 3) (N := some 61) (v := ?_) (a' := ?_) #[true, false, true, true, false, false, false, false, false] rfl rfl (any_of HT_.out (by kernel_rfl)) (fun _ _ _ h => h) (Or.inl ⟨by rfl, ?_⟩) ?_ ?_
                          rotate_left
                          · intro w'
                            go_simp
                            first | with_reducible rfl | (show _ = Result.ok (Next.value (Value.bool true)) w'; (repeat' split) <;> first | rfl | (exfalso; simp [*] at c52b0; done) | (exfalso; simp_all; done)) | (show _ = Result.ok (Next.value (Value.bool false)) w'; (repeat' split) <;> first | rfl | (exfalso; simp [*] at c52b0; done) | (exfalso; simp_all; done))
                          rotate_left
                          · simp only [Act.put, List.setIfInBounds_toArray, List.set_cons_zero, List.set_cons_succ, i64_w, i32_w]
                            rfl
                          refine pure_ (i := 4) (N := some 62) (v := ?_) (a' := ?_) #[true, false, true, true, true, false, false, false, false] rfl rfl (any_of HT_.out (by kernel_rfl)) (fun _ _ _ h => h) (Or.inl ⟨by rfl, ?_⟩) ?_ ?_
                          rotate_left
                          · intro w'
                            go_simp
                            first | with_reducible rfl | (show _ = Result.ok (Next.value (Value.bool true)) w'; (repeat' split) <;> first | rfl | (exfalso; simp [*] at c52b0; done) | (exfalso; simp_all; done)) | (show _ = Result.ok (Next.value (Value.bool false)) w'; (repeat' split) <;> first | rfl | (exfalso; simp [*] at c52b0; done) | (exfalso; simp_all; done))
                          rotate_left
                          · simp only [Act.put, List.setIfInBounds_toArray, List.set_cons_zero, List.set_cons_succ, i64_w, i32_w]
                            rfl
                          refine pure_ (i := 5) (N := some 63) (v := ?_) (a' := ?_) #[true, false, true, true, true, true, false, false, false] rfl rfl (any_of HT_.out (by kernel_rfl)) (fun _ _ _ h => h) (Or.inl ⟨by rfl, ?_⟩) ?_ ?_
                          rotate_left
                          · intro w'
                            go_simp
                            first | with_reducible rfl | (show _ = Result.ok (Next.value (Value.bool true)) w'; (repeat' split) <;> first | rfl | (exfalso; simp [*] at c52b0; done) | (exfalso; simp_all; done)) | (show _ = Result.ok (Next.value (Value.bool false)) w'; (repeat' split) <;> first | rfl | (exfalso; simp [*] at c52b0; done) | (exfalso; simp_all; done))
                          rotate_left
                          · simp only [Act.put, List.setIfInBounds_toArray, List.set_cons_zero, List.set_cons_succ, i64_w, i32_w]
                            rfl
                          refine take_ (i := 1) (N := some 59) (v := ?_) (a' := ?_) #[true, true, true, true, true, true, false, false, false] rfl rfl (take_ofW HT_.out HW_.out (by kernel_rfl)) (fun _ _ _ h => h) (Or.inl ⟨by rfl, ?_⟩) hHeld ?_ ?_
                          rotate_left
                          · rintro w' ⟨s0, s1, s2, s3, s4, s5⟩
                            go_simp
                            first | with_reducible rfl | (show _ = Result.ok (Next.value (Value.bool true)) w'; (repeat' split) <;> first | rfl | (exfalso; simp [*] at c52b0; done) | (exfalso; simp_all; done)) | (show _ = Result.ok (Next.value (Value.bool false)) w'; (repeat' split) <;> first | rfl | (exfalso; simp [*] at c52b0; done) | (exfalso; simp_all; done))
                          rotate_left
                          · simp only [Act.put, List.setIfInBounds_toArray, List.set_cons_zero, List.set_cons_succ, i64_w, i32_w]
                            rfl
                          refine take_ (i := 6) (N := some 64) (v := ?_) (a' := ?_) #[true, true, true, true, true, true, true, false, false] rfl rfl (take_ofW HT_.out HW_.out (by kernel_rfl)) (fun _ _ _ h => h) (Or.inl ⟨by rfl, ?_⟩) hHeld ?_ ?_
                          rotate_left
                          · rintro w' ⟨s0, s1, s2, s3, s4, s5⟩
                            go_simp
                            first | with_reducible rfl | (show _ = Result.ok (Next.value (Value.bool true)) w'; (repeat' split) <;> first | rfl | (exfalso; simp [*] at c52b0; done) | (exfalso; simp_all; done)) | (show _ = Result.ok (Next.value (Value.bool false)) w'; (repeat' split) <;> first | rfl | (exfalso; simp [*] at c52b0; done) | (exfalso; simp_all; done))
                          rotate_left
                          · simp only [Act.put, List.setIfInBounds_toArray, List.set_cons_zero, List.set_cons_succ, i64_w, i32_w]
                            rfl
                          refine one_ (i := 7) (N := some 65) #[true, true, true, true, true, true, true, true, false] rfl rfl (one_of HT_.out (by kernel_rfl)) (by decide) (fun K hK => ?_)
                          refine goes_ Tryd.func15 (by kernel_rfl) rfl #[.agg #[.int .i64 t173, .int .i64 t174], .agg #[.int .i64 ((rd_T36 t170 x7_2).f0.f0), .int .i64 ((rd_T36 t170 x7_2).f0.f1)]] (by rfl) rfl rfl (by (try simp only [List.map_toArray, List.map_cons, List.map_nil]); first | done | rfl | (simp only [List.length_drop, List.length_take]; rfl)) ?_
                          with_reducible refine (impl_BrdBeats.calls k2 t173 t174 ((rd_T36 t170 x7_2).f0.f0) ((rd_T36 t170 x7_2).f0.f1) true _ A65.out).mono ?_
                          rintro e w68 ⟨rfl, hb⟩
                          have HS3_ := (hb.cell (World.block_lt_of_cell? _ _ (hHeld.2.2.2.1))).trans (hHeld.2.2.2.1)
                          have HS4_ := (hb.cell (World.block_lt_of_cell? _ _ (hHeld.2.2.2.2.1))).trans (hHeld.2.2.2.2.1)
                          have HS5_ := (hb.cell (World.block_lt_of_cell? _ _ (hHeld.2.2.2.2.2))).trans (hHeld.2.2.2.2.2)
                          refine ⟨_, rfl, ?_⟩
                          have n0_ := Aside0.mk (Kd.R_below (by (with_reducible repeat (first | apply Kd.R_alloc | apply Kd.R_drewN | apply Kd.R_drew)); exact HO_3.out) hb)
                          have n1_ := Aside0.mk (blk_below (g := gb176) (o := .cells #[.int .i64 t173, .int .i64 t174, .int .i64 t175] 36 (0, 0)) (by (with_reducible repeat (first | refine blk_drewN ?_ _ | refine blk_drew ?_ | refine blk_alloc ?_ _)); exact BK176.out) hb)
                          have n2_ := Aside0.mk (below_step (by repeat (first | (with_reducible first | exact HB.out | apply below_alloc | apply pw_below_drewN | apply below_drew1 | refine below_set ?_ GE176.out) | exact HB.out)) hb)
                          clear HO_3
                          clear BK176
                          clear HB
                          have HO_3 := n0_
                          have BK176 := n1_
                          have HB := n2_
                          clear n0_ n1_ n2_
                          (try clear hb)
                          (try clear hb2)
                          (try clear hk)
                          (try clear hi)
                          refine hK.out _ _ ⟨(blk_cell BK176.out 0).trans rfl, (blk_cell BK176.out 1).trans rfl, (blk_cell BK176.out 2).trans rfl, HS3_, HS4_, HS5_⟩ (fun hHeld => ?_)
                          clear hK K
                          refine norm_ (a' := ?_) ?_ ?_
                          rotate_left
                          · show Act.put _ (some 65) _ = _
                            simp only [Act.put, List.setIfInBounds_toArray, List.set_cons_zero, List.set_cons_succ, i64_w, i32_w]
                            rfl
                          refine pure_ (i := 8) (N := some 66) (v := ?_) (a' := ?_) #[true, true, true, true, true, true, true, true, true] rfl rfl (any_of HT_.out (by kernel_rfl)) (fun _ _ _ h => h) (Or.inl ⟨by rfl, ?_⟩) ?_ ?_
                          rotate_left
                          · intro w'
                            go_simp
                            first | with_reducible rfl | (show _ = Result.ok (Next.value (Value.bool true)) w'; (repeat' split) <;> first | rfl | (exfalso; simp [*] at c52b0; done) | (exfalso; simp_all; done)) | (show _ = Result.ok (Next.value (Value.bool false)) w'; (repeat' split) <;> first | rfl | (exfalso; simp [*] at c52b0; done) | (exfalso; simp_all; done))
                          rotate_left
                          · simp only [Act.put, List.setIfInBounds_toArray, List.set_cons_zero, List.set_cons_succ, i64_w, i32_w]
                            rfl
                          refine done_ (done_of HT_.out (by kernel_rfl)) ?_
                          try go_wp2
                          go_roundg k2
                          case measure => have := HK1.out; have := HK2.out; omega
                          case rel => exact ⟨(wrap64 (x7_2 + 1)), (by first | rfl | (simp; done) | (simp [*]; done)), H', ⟨by have := HK1.out; have := HK2.out; omega⟩, ⟨by (with_reducible repeat (first | apply Kd.R_alloc | apply Kd.R_drewN | apply Kd.R_drew)); exact HO_3.out⟩, ⟨by (with_reducible repeat (first | refine blk_drewN ?_ _ | refine blk_drew ?_ | refine blk_alloc ?_ _)); exact BK176.out⟩, ⟨by repeat (first | (with_reducible first | exact HB.out | apply below_alloc | apply pw_below_drewN | apply below_drew1 | refine below_set ?_ GE176.out) | exact HB.out)⟩⟩
                        · replace c66 := Bool.eq_false_iff.mpr c66
                          subst c66
                          have H1 : (some false) = some r := by rw [if_neg (show ¬ (false = true) by decide)] at H; exact H
                          clear H
                          have H := H1
                          clear H1
                          obtain rfl := Option.some.inj H
                          try go_wp2
                          have n0_ := Aside0.mk (Kd.R_drew HO_3.out)
                          have n1_ := Aside0.mk (blk_drew BK176.out)
                          have n2_ := Aside0.mk (below_drew1 HB.out)
                          clear HO_3
                          clear BK176
                          clear HB
                          have HO_3 := n0_
                          have BK176 := n1_
                          have HB := n2_
                          clear n0_ n1_ n2_
                          have p184 : 0 ≤ (x7_2 : Int) := of_decide_eq_true (by first | (with_reducible assumption) | assumption)
                          have q184 : x7_2 < (t170.length : Int) := of_decide_eq_true (by first | (with_reducible assumption) | assumption)
                          obtain ⟨ad184, e184, hx184_0, hx184_1, hx184_2⟩ := at_T36 (Kd.R_reads' HO_3.out).2.2 x7_2 p184 q184
                          cases e184
                          replace p184 := eq_true p184
                          replace q184 := eq_true q184
                          refine start_ (n := 9) (S := fun w' => w'.cell? ⟨gb176, 0, none⟩ = some (.int .i64 t173) ∧ w'.cell? ⟨gb176, 1, none⟩ = some (.int .i64 t174) ∧ w'.cell? ⟨gb176, 2, none⟩ = some (.int .i64 t175) ∧ w'.cell? (ad184.add ((x7_2).toNat * 3)) = some (.int .i64 ((rd_T36 t170 x7_2).f0.f0)) ∧ w'.cell? ⟨(ad184.add ((x7_2).toNat * 3)).block, (ad184.add ((x7_2).toNat * 3)).off + 1, none⟩ = some (.int .i64 ((rd_T36 t170 x7_2).f0.f1)) ∧ w'.cell? ⟨(ad184.add ((x7_2).toNat * 3)).block, (ad184.add ((x7_2).toNat * 3)).off + 2, none⟩ = some (.int .i64 ((rd_T36 t170 x7_2).f1))) (ds := []) #[false, false, false, false, false, false, false, false, false] (by kernel_rfl) rfl rfl ⟨(blk_cell BK176.out 0).trans rfl, (blk_cell BK176.out 1).trans rfl, (blk_cell BK176.out 2).trans rfl, hx184_0, hx184_1, hx184_2⟩ (fun hHeld => ?_); refine with_tabW laws_FnBrdBest.tab20 laws_FnBrdBest.bits20 (fun HT_ HW_ => ?_)
                          generalize wr.drew = w69 at HO_3 BK176 HB hx184_0 hx184_1 hx184_2 hHeld ⊢
                          refine pure_ (i := 0) (N := some 58) (v := ?_) (a' := ?_) #[true, false, false, false, false, false, false, false, false] rfl rfl (any_of HT_.out (by kernel_rfl)) (fun _ _ _ h => h) (Or.inl ⟨by rfl, ?_⟩) ?_ ?_
                          rotate_left
                          · intro w'
                            go_simp
                            first | with_reducible rfl | (show _ = Result.ok (Next.value (Value.bool true)) w'; (repeat' split) <;> first | rfl | (exfalso; simp [*] at c52b0; done) | (exfalso; simp_all; done)) | (show _ = Result.ok (Next.value (Value.bool false)) w'; (repeat' split) <;> first | rfl | (exfalso; simp [*] at c52b0; done) | (exfalso; simp_all; done))
                          rotate_left
                          · simp only [Act.put, List.setIfInBounds_toArray, List.set_cons_zero, List.set_cons_succ, i64_w, i32_w]
                            rfl
                          refine pure_ (i := 2) (N := some 60) (v := ?_) (a' := ?_) #[true, false, true, false, false, false, false, false, false] rfl rfl (any_of HT_.out (by kernel_rfl)) (fun _ _ _ h => h) (Or.inl ⟨by rfl, ?_⟩) ?_ ?_
                          rotate_left
                          · intro w'
                            go_simp
                            first | with_reducible rfl | (show _ = Result.ok (Next.value (Value.bool true)) w'; (repeat' split) <;> first | rfl | (exfalso; simp [*] at c52b0; done) | (exfalso; simp_all; done)) | (show _ = Result.ok (Next.value (Value.bool false)) w'; (repeat' split) <;> first | rfl | (exfalso; simp [*] at c52b0; done) | (exfalso; simp_all; done))
                          rotate_left
                          · simp only [Act.put, List.setIfInBounds_toArray, List.set_cons_zero, List.set_cons_succ, i64_w, i32_w]
                            rfl
                          refine pure_ (i := 3) (N := some 61) (v := ?_) (a' := ?_) #[true, false, true, true, false, false, false, false, false] rfl rfl (any_of HT_.out (by kernel_rfl)) (fun _ _ _ h => h) (Or.inl ⟨by rfl, ?_⟩) ?_ ?_
                          rotate_left
                          · intro w'
                            go_simp
                            first | with_reducible rfl | (show _ = Result.ok (Next.value (Value.bool true)) w'; (repeat' split) <;> first | rfl | (exfalso; simp [*] at c52b0; done) | (exfalso; simp_all; done)) | (show _ = Result.ok (Next.value (Value.bool false)) w'; (repeat' split) <;> first | rfl | (exfalso; simp [*] at c52b0; done) | (exfalso; simp_all; done))
                          rotate_left
                          · simp only [Act.put, List.setIfInBounds_toArray, List.set_cons_zero, List.set_cons_succ, i64_w, i32_w]
                            rfl
                          refine pure_ (i := 4) (N := some 62) (v := ?_) (a' := ?_) #[true, false, true, true, true, false, false, false, false] rfl rfl (any_of HT_.out (by kernel_rfl)) (fun _ _ _ h => h) (Or.inl ⟨by rfl, ?_⟩) ?_ ?_
                          rotate_left
                          · intro w'
                            go_simp
                            first | with_reducible rfl | (show _ = Result.ok (Next.value (Value.bool true)) w'; (repeat' split) <;> first | rfl | (exfalso; simp [*] at c52b0; done) | (exfalso; simp_all; done)) | (show _ = Result.ok (Next.value (Value.bool false)) w'; (repeat' split) <;> first | rfl | (exfalso; simp [*] at c52b0; done) | (exfalso; simp_all; done))
                          rotate_left
                          · simp only [Act.put, List.setIfInBounds_toArray, List.set_cons_zero, List.set_cons_succ, i64_w, i32_w]
                            rfl
                          refine pure_ (i := 5) (N := some 63) (v := ?_) (a' := ?_) #[true, false, true, true, true, true, false, false, false] rfl rfl (any_of HT_.out (by kernel_rfl)) (fun _ _ _ h => h) (Or.inl ⟨by rfl, ?_⟩) ?_ ?_
                          rotate_left
                          · intro w'
                            go_simp
                            first | with_reducible rfl | (show _ = Result.ok (Next.value (Value.bool true)) w'; (repeat' split) <;> first | rfl | (exfalso; simp [*] at c52b0; done) | (exfalso; simp_all; done)) | (show _ = Result.ok (Next.value (Value.bool false)) w'; (repeat' split) <;> first | rfl | (exfalso; simp [*] at c52b0; done) | (exfalso; simp_all; done))
                          rotate_left
                          · simp only [Act.put, List.setIfInBounds_toArray, List.set_cons_zero, List.set_cons_succ, i64_w, i32_w]
                            rfl
                          refine take_ (i := 1) (N := some 59) (v := ?_) (a' := ?_) #[true, true, true, true, true, true, false, false, false] rfl rfl (take_ofW HT_.out HW_.out (by kernel_rfl)) (fun _ _ _ h => h) (Or.inl ⟨by rfl, ?_⟩) hHeld ?_ ?_
                          rotate_left
                          · rintro w' ⟨s0, s1, s2, s3, s4, s5⟩
                            go_simp
                            first | with_reducible rfl | (show _ = Result.ok (Next.value (Value.bool true)) w'; (repeat' split) <;> first | rfl | (exfalso; simp [*] at c52b0; done) | (exfalso; simp_all; done)) | (show _ = Result.ok (Next.value (Value.bool false)) w'; (repeat' split) <;> first | rfl | (exfalso; simp [*] at c52b0; done) | (exfalso; simp_all; done))
                          rotate_left
                          · simp only [Act.put, List.setIfInBounds_toArray, List.set_cons_zero, List.set_cons_succ, i64_w, i32_w]
                            rfl
                          refine take_ (i := 6) (N := some 64) (v := ?_) (a' := ?_) #[true, true, true, true, true, true, true, false, false] rfl rfl (take_ofW HT_.out HW_.out (by kernel_rfl)) (fun _ _ _ h => h) (Or.inl ⟨by rfl, ?_⟩) hHeld ?_ ?_
                          rotate_left
                          · rintro w' ⟨s0, s1, s2, s3, s4, s5⟩
                            go_simp
                            first | with_reducible rfl | (show _ = Result.ok (Next.value (Value.bool true)) w'; (repeat' split) <;> first | rfl | (exfalso; simp [*] at c52b0; done) | (exfalso; simp_all; done)) | (show _ = Result.ok (Next.value (Value.bool false)) w'; (repeat' split) <;> first | rfl | (exfalso; simp [*] at c52b0; done) | (exfalso; simp_all; done))
                          rotate_left
                          · simp only [Act.put, List.setIfInBounds_toArray, List.set_cons_zero, List.set_cons_succ, i64_w, i32_w]
                            rfl
                          refine one_ (i := 7) (N := some 65) #[true, true, true, true, true, true, true, true, false] rfl rfl (one_of HT_.out (by kernel_rfl)) (by decide) (fun K hK => ?_)
                          refine goes_ Tryd.func15 (by kernel_rfl) rfl #[.agg #[.int .i64 t173, .int .i64 t174], .agg #[.int .i64 ((rd_T36 t170 x7_2).f0.f0), .int .i64 ((rd_T36 t170 x7_2).f0.f1)]] (by rfl) rfl rfl (by (try simp only [List.map_toArray, List.map_cons, List.map_nil]); first | done | rfl | (simp only [List.length_drop, List.length_take]; rfl)) ?_
                          with_reducible refine (impl_BrdBeats.calls k2 t173 t174 ((rd_T36 t170 x7_2).f0.f0) ((rd_T36 t170 x7_2).f0.f1) false _ A65.out).mono ?_
                          rintro e w70 ⟨rfl, hb⟩
                          have HS3_ := (hb.cell (World.block_lt_of_cell? _ _ (hHeld.2.2.2.1))).trans (hHeld.2.2.2.1)
                          have HS4_ := (hb.cell (World.block_lt_of_cell? _ _ (hHeld.2.2.2.2.1))).trans (hHeld.2.2.2.2.1)
                          have HS5_ := (hb.cell (World.block_lt_of_cell? _ _ (hHeld.2.2.2.2.2))).trans (hHeld.2.2.2.2.2)
                          refine ⟨_, rfl, ?_⟩
                          have n0_ := Aside0.mk (Kd.R_below (by (with_reducible repeat (first | apply Kd.R_alloc | apply Kd.R_drewN | apply Kd.R_drew)); exact HO_3.out) hb)
                          have n1_ := Aside0.mk (blk_below (g := gb176) (o := .cells #[.int .i64 t173, .int .i64 t174, .int .i64 t175] 36 (0, 0)) (by (with_reducible repeat (first | refine blk_drewN ?_ _ | refine blk_drew ?_ | refine blk_alloc ?_ _)); exact BK176.out) hb)
                          have n2_ := Aside0.mk (below_step (by repeat (first | (with_reducible first | exact HB.out | apply below_alloc | apply pw_below_drewN | apply below_drew1 | refine below_set ?_ GE176.out) | exact HB.out)) hb)
                          clear HO_3
                          clear BK176
                          clear HB
                          have HO_3 := n0_
                          have BK176 := n1_
                          have HB := n2_
                          clear n0_ n1_ n2_
                          (try clear hb)
                          (try clear hb2)
                          (try clear hk)
                          (try clear hi)
                          refine hK.out _ _ ⟨(blk_cell BK176.out 0).trans rfl, (blk_cell BK176.out 1).trans rfl, (blk_cell BK176.out 2).trans rfl, HS3_, HS4_, HS5_⟩ (fun hHeld => ?_)
                          clear hK K
                          refine norm_ (a' := ?_) ?_ ?_
                          rotate_left
                          · show Act.put _ (some 65) _ = _
                            simp only [Act.put, List.setIfInBounds_toArray, List.set_cons_zero, List.set_cons_succ, i64_w, i32_w]
                            rfl
                          refine pure_ (i := 8) (N := some 66) (v := ?_) (a' := ?_) #[true, true, true, true, true, true, true, true, true] rfl rfl (any_of HT_.out (by kernel_rfl)) (fun _ _ _ h => h) (Or.inl ⟨by rfl, ?_⟩) ?_ ?_
                          rotate_left
                          · intro w'
                            go_simp
                            first | with_reducible rfl | (show _ = Result.ok (Next.value (Value.bool true)) w'; (repeat' split) <;> first | rfl | (exfalso; simp [*] at c52b0; done) | (exfalso; simp_all; done)) | (show _ = Result.ok (Next.value (Value.bool false)) w'; (repeat' split) <;> first | rfl | (exfalso; simp [*] at c52b0; done) | (exfalso; simp_all; done))
                          rotate_left
                          · simp only [Act.put, List.setIfInBounds_toArray, List.set_cons_zero, List.set_cons_succ, i64_w, i32_w]
                            rfl
                          refine done_ (done_of HT_.out (by kernel_rfl)) ?_
                          try go_wp2
                          all_goals (first | (exfalso; simp [*] at c52b0; done) | (go_ret; exact ⟨by first | rfl | (simp [IntKind.wrap_i64, wrap64]; done) | (simp [errW_none, errW_some] <;> rfl) | (simp [*, errW_none, errW_some] <;> rfl), by repeat (first | (with_reducible first | exact HB.out | apply below_alloc | apply pw_below_drewN | apply below_drew1 | refine below_set ?_ GE176.out) | exact HB.out)⟩))
                      · rw [if_neg c64] at H
                        exact absurd H (by simp)
                    · rw [if_neg c63] at H
                      exact absurd H (by simp)
                  · rw [if_neg c62] at H
                    have c62b0 : decide (x7_2 < x5_1) = false := decide_eq_false c62
                    clear c62
                    by_cases c71 : x5_1 ≥ 0
                    · rw [if_pos c71] at H
                      have c71b0 : decide (0 ≤ x5_1) = true := decide_eq_true c71
                      clear c71
                      replace H := Option.bind_eq_some_iff.mp H
                      obtain ⟨t186, A720, H⟩ := H
                      replace H : (some t186) = some r := H
                      have A72 := Aside0.mk A720
                      clear A720
                      obtain rfl := Option.some.inj H
                      go_wp2_with (first | (go_at_call 11; (with_reducible refine (laws_pwOk.calls  t186 _ ?sideM A72.out).mono ?_); (case sideM => repeat (first | exact HM.out | exact (Txt.MLen_below HM.out HB.out) | (with_reducible refine Txt.MLen_alloc ?_ _) | (with_reducible refine Txt.MLen_drewN ?_ _) | (with_reducible refine Txt.MLen_drew ?_))); rintro e w73 ⟨rfl, hb⟩; have n0_ := Aside0.mk (Kd.R_below (by (with_reducible repeat (first | apply Kd.R_alloc | apply Kd.R_drewN | apply Kd.R_drew)); exact HO_3.out) hb); have n1_ := Aside0.mk (blk_below (g := gb176) (o := .cells #[.int .i64 t173, .int .i64 t174, .int .i64 t175] 36 (0, 0)) (by (with_reducible repeat (first | refine blk_drewN ?_ _ | refine blk_drew ?_ | refine blk_alloc ?_ _)); exact BK176.out) hb); have n2_ := Aside0.mk (below_step (by repeat (first | (with_reducible first | exact HB.out | apply below_alloc | apply pw_below_drewN | apply below_drew1 | refine below_set ?_ GE176.out) | exact HB.out)) hb); clear HO_3; clear BK176; clear HB; have HO_3 := n0_; have BK176 := n1_; have HB := n2_; clear n0_ n1_ n2_; (try clear hb); (try clear hb2); (try clear hk); (try clear hi)))
                      all_goals (first | (exfalso; simp [*] at c52b0; done) | (go_ret; exact ⟨by first | rfl | (simp [IntKind.wrap_i64, wrap64]; done) | (simp [errW_none, errW_some] <;> rfl) | (simp [*, errW_none, errW_some] <;> rfl), by repeat (first | (with_reducible first | exact HB.out | apply below_alloc | apply pw_below_drewN | apply below_drew1 | refine below_set ?_ GE176.out) | exact HB.out)⟩))
                    · rw [if_neg c71] at H
                      have c71b0 : decide (0 ≤ x5_1) = false := decide_eq_false c71
                      clear c71
                      obtain rfl := Option.some.inj H
                      go_wp2
                      all_goals (first | (exfalso; simp [*] at c52b0; done) | (go_ret; exact ⟨by first | rfl | (simp [IntKind.wrap_i64, wrap64]; done) | (simp [errW_none, errW_some] <;> rfl) | (simp [*, errW_none, errW_some] <;> rfl), by repeat (first | (with_reducible first | exact HB.out | apply below_alloc | apply pw_below_drewN | apply below_drew1 | refine below_set ?_ GE176.out) | exact HB.out)⟩))

/-- THE ONE PURE STATEMENT of laws_FnBrdBest: yours. -/
def laws_FnBrdBest.Pure : Prop := ∀ (l0 : List Int), l0.length ≤ maxLen → l0.length * 1 ≤ 140737488351232 → (∀ x ∈ l0, (Lit.int .u8 x).wf = true) → ∃ k, laws_FnBrdBest.f k l0 = some true

end Go.Proofs.YtfcacpbblkahdaaDoor.PFnBrdBest
