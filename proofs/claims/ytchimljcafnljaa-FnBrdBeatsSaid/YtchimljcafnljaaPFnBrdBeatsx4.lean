-- PRINTED BY print.sh 35421559b90ae4d0a3588c463048766b98c2df88dd9212a6774a882060cdf62d: not written by this session
import Derived.Test.YtchimljcafnljaaPFnBrdBeatsx0
import Derived.Test.YtchimljcafnljaaPFnBrdBeatsx1
import Derived.Test.YtchimljcafnljaaPFnBrdBeatsx2
import Derived.Test.YtchimljcafnljaaPFnBrdBeatsx3
namespace Go.Proofs.Ytchimljcafnljaa.PFnBrdBeats
open Go.RowKit Go.Proofs.YtchimljcafnljaaW.PrintWords Go.Proofs.YtchimljcafnljaaW.PrintLast Go.Proofs.YtchimljcafnljaaW.PrintMore
attribute [local go_sem] max2_int min2_int max_two min_two max_three min_three max_four min_four   -- for this text's walks alone
set_option linter.unusedVariables false
set_option linter.unusedSimpArgs false

attribute [local go_sem high] eqA31
/-! ### laws_FnBrdBeats: function 13 -/
mutual
def laws_FnBrdBeats.j0 : Nat → List Int → List Int → Bool → Option (Bool)
  | 0, _, _, _ => none
  | k + 1, x0, x1, x16 => if x16 = true then (some true) else ((spec_DrawBrdBeats.f k x0).bind fun bt151 => ((spec_DrawBrdBeats.f k x1).bind fun bt157 => ((impl_BrdBeats.f k bt151.1 bt151.2.1 bt151.2.2.1 bt151.2.2.2).bind fun t163 => ((spec_BrdBeats.f k bt151.1 bt151.2.1 bt151.2.2.1 bt151.2.2.2).bind fun t164 => (if (t163 != t164) = true then (laws_FnBrdBeats.j1 k true bt151.1 bt151.2.1 bt151.2.2.1 bt151.2.2.2 bt157.1 bt157.2.1) else ((impl_BrdBeats.f k bt151.2.2.1 bt151.2.2.2 bt151.1 bt151.2.1).bind fun t165 => ((spec_BrdBeats.f k bt151.2.2.1 bt151.2.2.2 bt151.1 bt151.2.1).bind fun t166 => (if (t165 != t166) = true then (laws_FnBrdBeats.j1 k true bt151.1 bt151.2.1 bt151.2.2.1 bt151.2.2.2 bt157.1 bt157.2.1) else ((impl_BrdBeats.f k bt151.1 bt151.2.1 bt151.1 bt151.2.1).bind fun t167 => (laws_FnBrdBeats.j1 k t167 bt151.1 bt151.2.1 bt151.2.2.1 bt151.2.2.2 bt157.1 bt157.2.1))))))))))
def laws_FnBrdBeats.j1 : Nat → Bool → Int → Int → Int → Int → Int → Int → Option (Bool)
  | 0, _, _, _, _, _, _, _ => none
  | k + 1, x47, x156000, x156001, x157000, x157001, x162000, x162001 => if x47 = true then (some false) else ((impl_BrdBeats.f k x156000 x156001 x157000 x157001).bind fun t168 => (if t168 = true then ((impl_BrdBeats.f k x157000 x157001 x156000 x156001).bind fun t169 => (if t169 = true then (laws_FnBrdBeats.j2 k true x156000 x156001 x157000 x157001) else ((impl_BrdBeats.f k x156000 x156001 x157000 x157001).bind fun t170 => (if t170 = true then ((impl_BrdBeats.f k x157000 x157001 x162000 x162001).bind fun t171 => (if t171 = true then ((impl_BrdBeats.f k x156000 x156001 x162000 x162001).bind fun t172 => (laws_FnBrdBeats.j2 k (!t172) x156000 x156001 x157000 x157001)) else (laws_FnBrdBeats.j2 k false x156000 x156001 x157000 x157001))) else (laws_FnBrdBeats.j2 k false x156000 x156001 x157000 x157001))))) else ((impl_BrdBeats.f k x156000 x156001 x157000 x157001).bind fun t173 => (if t173 = true then ((impl_BrdBeats.f k x157000 x157001 x162000 x162001).bind fun t174 => (if t174 = true then ((impl_BrdBeats.f k x156000 x156001 x162000 x162001).bind fun t175 => (laws_FnBrdBeats.j2 k (!t175) x156000 x156001 x157000 x157001)) else (laws_FnBrdBeats.j2 k false x156000 x156001 x157000 x157001))) else (laws_FnBrdBeats.j2 k false x156000 x156001 x157000 x157001)))))
def laws_FnBrdBeats.j2 : Nat → Bool → Int → Int → Int → Int → Option (Bool)
  | 0, _, _, _, _, _ => none
  | k + 1, x71, x156000, x156001, x157000, x157001 => if x71 = true then (some false) else ((spec_BrdOk.f k x156000 x156001).bind fun t176 => (if t176 = true then ((spec_BrdOk.f k x157000 x157001).bind fun t177 => (if t177 = true then (if (!(x156000 == x157000) || (!(x156001 == x157001))) = true then ((impl_BrdBeats.f k x156000 x156001 x157000 x157001).bind fun t178 => (if t178 = true then ((impl_BrdBeats.f k 4 0 3 3).bind fun t179 => (some t179)) else ((impl_BrdBeats.f k x157000 x157001 x156000 x156001).bind fun t180 => (if t180 = true then ((impl_BrdBeats.f k 4 0 3 3).bind fun t181 => (some t181)) else (some false))))) else ((impl_BrdBeats.f k 4 0 3 3).bind fun t182 => (some t182))) else ((impl_BrdBeats.f k 4 0 3 3).bind fun t183 => (some t183)))) else ((impl_BrdBeats.f k 4 0 3 3).bind fun t184 => (some t184))))
end
def laws_FnBrdBeats.f (k : Nat) (l0 : List Int) (l1 : List Int) : Option (Bool) := if (l0.length : Int) > 1048576 then (laws_FnBrdBeats.j0 k l0 l1 true) else (laws_FnBrdBeats.j0 k l0 l1 (decide ((l1.length : Int) > 1048576)))
theorem laws_FnBrdBeats.mono_l : ∀ k, (∀ y0 y1 y2, LeO (laws_FnBrdBeats.j0 k y0 y1 y2) (laws_FnBrdBeats.j0 (k + 1) y0 y1 y2)) ∧ (∀ y0 y1 y2 y3 y4 y5 y6, LeO (laws_FnBrdBeats.j1 k y0 y1 y2 y3 y4 y5 y6) (laws_FnBrdBeats.j1 (k + 1) y0 y1 y2 y3 y4 y5 y6)) ∧ (∀ y0 y1 y2 y3 y4, LeO (laws_FnBrdBeats.j2 k y0 y1 y2 y3 y4) (laws_FnBrdBeats.j2 (k + 1) y0 y1 y2 y3 y4))
  | 0 => ⟨fun _ _ _ r h => by simp [laws_FnBrdBeats.j0] at h, fun _ _ _ _ _ _ _ r h => by simp [laws_FnBrdBeats.j1] at h, fun _ _ _ _ _ r h => by simp [laws_FnBrdBeats.j2] at h⟩
  | k + 1 => by
    obtain ⟨ih0, ih1, ih2⟩ := laws_FnBrdBeats.mono_l k
    refine ⟨?_, ?_, ?_⟩
    · intro y0 y1 y2
      unfold laws_FnBrdBeats.j0
      repeat' first
      | (with_reducible exact ih0 _ _ _)
      | (with_reducible exact ih1 _ _ _ _ _ _ _)
      | (with_reducible exact ih2 _ _ _ _ _)
      | (with_reducible exact impl_BrdBeats.mono _ _ _ _ _)
      | (with_reducible exact spec_BrdBeats.mono _ _ _ _ _)
      | (with_reducible exact spec_BrdOk.mono _ _ _)
      | (with_reducible exact spec_DrawBrdBeats.mono _ _)
      | (with_reducible exact LeO.refl _)
      | (with_reducible exact LeO.none _)
      | (with_reducible refine LeO.ite ?_ ?_)
      | (with_reducible refine LeO.bind ?_ (fun _ => ?_))
      | exact ih0 _ _ _
      | exact ih1 _ _ _ _ _ _ _
      | exact ih2 _ _ _ _ _
      | exact impl_BrdBeats.mono _ _ _ _ _
      | exact spec_BrdBeats.mono _ _ _ _ _
      | exact spec_BrdOk.mono _ _ _
      | exact spec_DrawBrdBeats.mono _ _
      | exact LeO.none _
      | refine LeO.ite ?_ ?_
      | refine LeO.bind ?_ (fun _ => ?_)
    · intro y0 y1 y2 y3 y4 y5 y6
      unfold laws_FnBrdBeats.j1
      repeat' first
      | (with_reducible exact ih0 _ _ _)
      | (with_reducible exact ih1 _ _ _ _ _ _ _)
      | (with_reducible exact ih2 _ _ _ _ _)
      | (with_reducible exact impl_BrdBeats.mono _ _ _ _ _)
      | (with_reducible exact spec_BrdBeats.mono _ _ _ _ _)
      | (with_reducible exact spec_BrdOk.mono _ _ _)
      | (with_reducible exact spec_DrawBrdBeats.mono _ _)
      | (with_reducible exact LeO.refl _)
      | (with_reducible exact LeO.none _)
      | (with_reducible refine LeO.ite ?_ ?_)
      | (with_reducible refine LeO.bind ?_ (fun _ => ?_))
      | exact ih0 _ _ _
      | exact ih1 _ _ _ _ _ _ _
      | exact ih2 _ _ _ _ _
      | exact impl_BrdBeats.mono _ _ _ _ _
      | exact spec_BrdBeats.mono _ _ _ _ _
      | exact spec_BrdOk.mono _ _ _
      | exact spec_DrawBrdBeats.mono _ _
      | exact LeO.none _
      | refine LeO.ite ?_ ?_
      | refine LeO.bind ?_ (fun _ => ?_)
    · intro y0 y1 y2 y3 y4
      unfold laws_FnBrdBeats.j2
      repeat' first
      | (with_reducible exact ih0 _ _ _)
      | (with_reducible exact ih1 _ _ _ _ _ _ _)
      | (with_reducible exact ih2 _ _ _ _ _)
      | (with_reducible exact impl_BrdBeats.mono _ _ _ _ _)
      | (with_reducible exact spec_BrdBeats.mono _ _ _ _ _)
      | (with_reducible exact spec_BrdOk.mono _ _ _)
      | (with_reducible exact spec_DrawBrdBeats.mono _ _)
      | (with_reducible exact LeO.refl _)
      | (with_reducible exact LeO.none _)
      | (with_reducible refine LeO.ite ?_ ?_)
      | (with_reducible refine LeO.bind ?_ (fun _ => ?_))
      | exact ih0 _ _ _
      | exact ih1 _ _ _ _ _ _ _
      | exact ih2 _ _ _ _ _
      | exact impl_BrdBeats.mono _ _ _ _ _
      | exact spec_BrdBeats.mono _ _ _ _ _
      | exact spec_BrdOk.mono _ _ _
      | exact spec_DrawBrdBeats.mono _ _
      | exact LeO.none _
      | refine LeO.ite ?_ ?_
      | refine LeO.bind ?_ (fun _ => ?_)
theorem laws_FnBrdBeats.mono : ∀ a0 a1 k, LeO (laws_FnBrdBeats.f k a0 a1) (laws_FnBrdBeats.f (k + 1) a0 a1) := by
  intro a0 a1 k
  obtain ⟨ih0, ih1, ih2⟩ := laws_FnBrdBeats.mono_l k
  unfold laws_FnBrdBeats.f
  repeat' first
      | (with_reducible exact ih0 _ _ _)
      | (with_reducible exact ih1 _ _ _ _ _ _ _)
      | (with_reducible exact ih2 _ _ _ _ _)
      | (with_reducible exact impl_BrdBeats.mono _ _ _ _ _)
      | (with_reducible exact spec_BrdBeats.mono _ _ _ _ _)
      | (with_reducible exact spec_BrdOk.mono _ _ _)
      | (with_reducible exact spec_DrawBrdBeats.mono _ _)
      | (with_reducible exact LeO.refl _)
      | (with_reducible exact LeO.none _)
      | (with_reducible refine LeO.ite ?_ ?_)
      | (with_reducible refine LeO.bind ?_ (fun _ => ?_))
      | exact ih0 _ _ _
      | exact ih1 _ _ _ _ _ _ _
      | exact ih2 _ _ _ _ _
      | exact impl_BrdBeats.mono _ _ _ _ _
      | exact spec_BrdBeats.mono _ _ _ _ _
      | exact spec_BrdOk.mono _ _ _
      | exact spec_DrawBrdBeats.mono _ _
      | exact LeO.none _
      | refine LeO.ite ?_ ?_
      | refine LeO.bind ?_ (fun _ => ?_)
def laws_FnBrdBeats.T5 : Bool × List (List Nat × List Nat) := (true, [([], []), ([], []), ([0, 1], [0, 1]), ([], []), ([], []), ([3, 4, 2], [3, 4]), ([2, 5], [2, 5]), ([6, 5], [6]), ([7], [7]), ([7], [7]), ([8, 9, 7, 7], [7, 8, 9]), ([7], [7]), ([7], [7]), ([11, 12, 10, 7], [7, 11, 12]), ([10, 13, 7], [7, 10, 13]), ([7, 14], [7, 14]), ([15, 13], [15]), ([16], [16]), ([16], [16]), ([17, 18, 16, 16], [16, 17, 18]), ([16, 19], [16, 19])])
def laws_FnBrdBeats.B5 : List Nat := [0, 0, 3, 0, 0, 31, 63, 127, 255, 255, 1023, 255, 255, 8191, 16383, 32767, 65535, 131071, 131071, 524287, 1048575]
theorem laws_FnBrdBeats.tab5 : rtab .any (opsOf Try.f13 5) = laws_FnBrdBeats.T5 := by kernel_rfl
theorem laws_FnBrdBeats.bits5 : waitsOk laws_FnBrdBeats.T5.2 laws_FnBrdBeats.B5 = true := by kernel_rfl
set_option maxHeartbeats 8000000 in
set_option maxRecDepth 100000 in
theorem laws_FnBrdBeats.calls (k : Nat) (A0 : Option Addr) (c0 : Nat) (l0 : List Int) (A1 : Option Addr) (c1 : Nat) (l1 : List Int) (r : Bool) (w : World) (hr0 : Kd.C (Kd.int .u8) w A0 l0.length l0) (hc0 : l0.length ≤ c0) (hr1 : Kd.C (Kd.int .u8) w A1 l1.length l1) (hc1 : l1.length ≤ c1) (h : laws_FnBrdBeats.f k l0 l1 = some r) :
    Calls Try.prog 13 #[.slice A0 l0.length c0, .slice A1 l1.length c1] w fun e w' => e = .returned (.bool r) ∧ Below w.heap.size w w' := by
  have hu31 := Try.underlying31
  have HR0 := Aside0.mk hr0
  have HC0 := Aside0.mk hc0
  clear hr0 hc0
  have HR1 := Aside0.mk hr1
  have HC1 := Aside0.mk hc1
  clear hr1 hc1
  have HB := Aside0.mk (Below.refl w.heap.size w)
  have H : (if (l0.length : Int) > 1048576 then (laws_FnBrdBeats.j0 k l0 l1 true) else (laws_FnBrdBeats.j0 k l0 l1 (decide ((l1.length : Int) > 1048576)))) = some r := h
  clear h
  have HC3 := Aside0.mk H
  clear H
  go_enter Try.func13, Try.ntmps13
  go_upto_region 1 with (fail)
  go_cut [16] (fun v16 wc => ∃ (kq : Nat) (x16_2 : Bool), v16 = .bool x16_2 ∧ Aside0 (laws_FnBrdBeats.j0 kq l0 l1 x16_2 = some r) ∧ Aside0 (kq ≤ k) ∧ Aside0 (Below w.heap.size w wc))
  case first =>
    have H := HC3.out
    clear HC3
    by_cases c4 : (l0.length : Int) > 1048576
    · rw [if_pos c4] at H
      have c4b0 : decide (1048576 < (l0.length : Int)) = true := decide_eq_true c4
      have c4b1 : decide (1048576 < l0.length) = true := decide_eq_true (by omega)
      clear c4
      (first | rw [c4b0] | (simp only [i64_w, i32_w]; rw [c4b0]) | skip)
      have H' := Aside0.mk H
      clear H
      go_wp2
      go_meet
      case rel => exact ⟨_, (true), (by first | rfl | (simp; done) | (simp [*]; done)), H', ⟨by first | omega | exact Nat.le_refl _⟩, ⟨by repeat (first | (with_reducible first | exact HB.out | apply below_alloc | apply pw_below_drewN | apply below_drew1) | exact HB.out)⟩⟩
    · rw [if_neg c4] at H
      have c4b0 : decide (1048576 < (l0.length : Int)) = false := decide_eq_false c4
      have c4b1 : decide (1048576 < l0.length) = false := decide_eq_false (by omega)
      clear c4
      (first | rw [c4b0] | (simp only [i64_w, i32_w]; rw [c4b0]) | skip)
      have H' := Aside0.mk H
      clear H
      go_wp2
      go_meet
      case rel => exact ⟨_, (decide ((l1.length : Int) > 1048576)), (by first | rfl | (simp; done) | (simp [*]; done)), H', ⟨by first | omega | exact Nat.le_refl _⟩, ⟨by repeat (first | (with_reducible first | exact HB.out | apply below_alloc | apply pw_below_drewN | apply below_drew1) | exact HB.out)⟩⟩
  case rest =>
    clear HC3
    try clear c1
    try clear p2
    try clear c4
    try clear c4b0
    try clear c4b1
    obtain ⟨kq, x16_2, rfl, HA, HJ2, HB⟩ := hcut
    cases kq with
    | zero => exact absurd HA.out (by simp [laws_FnBrdBeats.j0])
    | succ kj2 =>
      have H := HA.out
      clear HA
      simp only [laws_FnBrdBeats.j0] at H
      by_cases c5 : x16_2 = true
      · subst c5
        have H1 : (some true) = some r := by rw [if_pos rfl] at H; exact H
        clear H
        have H := H1
        clear H1
        obtain rfl := Option.some.inj H
        go_wp2
        go_ret
        exact ⟨by first | rfl | (simp [errW_none, errW_some] <;> rfl) | (simp [*, errW_none, errW_some] <;> rfl), by repeat (first | (with_reducible first | exact HB.out | apply below_alloc | apply pw_below_drewN | apply below_drew1) | exact HB.out)⟩
      · replace c5 := Bool.eq_false_iff.mpr c5
        subst c5
        have H1 : ((spec_DrawBrdBeats.f kj2 l0).bind fun bt151 => ((spec_DrawBrdBeats.f kj2 l1).bind fun bt157 => ((impl_BrdBeats.f kj2 bt151.1 bt151.2.1 bt151.2.2.1 bt151.2.2.2).bind fun t163 => ((spec_BrdBeats.f kj2 bt151.1 bt151.2.1 bt151.2.2.1 bt151.2.2.2).bind fun t164 => (if (t163 != t164) = true then (laws_FnBrdBeats.j1 kj2 true bt151.1 bt151.2.1 bt151.2.2.1 bt151.2.2.2 bt157.1 bt157.2.1) else ((impl_BrdBeats.f kj2 bt151.2.2.1 bt151.2.2.2 bt151.1 bt151.2.1).bind fun t165 => ((spec_BrdBeats.f kj2 bt151.2.2.1 bt151.2.2.2 bt151.1 bt151.2.1).bind fun t166 => (if (t165 != t166) = true then (laws_FnBrdBeats.j1 kj2 true bt151.1 bt151.2.1 bt151.2.2.1 bt151.2.2.2 bt157.1 bt157.2.1) else ((impl_BrdBeats.f kj2 bt151.1 bt151.2.1 bt151.1 bt151.2.1).bind fun t167 => (laws_FnBrdBeats.j1 kj2 t167 bt151.1 bt151.2.1 bt151.2.2.1 bt151.2.2.2 bt157.1 bt157.2.1)))))))))) = some r := by rw [if_neg (show ¬ (false = true) by decide)] at H; exact H
        clear H
        have H := H1
        clear H1
        replace H := Option.bind_eq_some_iff.mp H
        obtain ⟨⟨t151, t152, t153, t154⟩, A60, H⟩ := H
        replace H : ((spec_DrawBrdBeats.f kj2 l1).bind fun bt157 => ((impl_BrdBeats.f kj2 t151 t152 t153 t154).bind fun t163 => ((spec_BrdBeats.f kj2 t151 t152 t153 t154).bind fun t164 => (if (t163 != t164) = true then (laws_FnBrdBeats.j1 kj2 true t151 t152 t153 t154 bt157.1 bt157.2.1) else ((impl_BrdBeats.f kj2 t153 t154 t151 t152).bind fun t165 => ((spec_BrdBeats.f kj2 t153 t154 t151 t152).bind fun t166 => (if (t165 != t166) = true then (laws_FnBrdBeats.j1 kj2 true t151 t152 t153 t154 bt157.1 bt157.2.1) else ((impl_BrdBeats.f kj2 t151 t152 t151 t152).bind fun t167 => (laws_FnBrdBeats.j1 kj2 t167 t151 t152 t153 t154 bt157.1 bt157.2.1))))))))) = some r := H
        have A6 := Aside0.mk A60
        clear A60
        replace H := Option.bind_eq_some_iff.mp H
        obtain ⟨⟨t157, t158, t159, t160⟩, A70, H⟩ := H
        replace H : ((impl_BrdBeats.f kj2 t151 t152 t153 t154).bind fun t163 => ((spec_BrdBeats.f kj2 t151 t152 t153 t154).bind fun t164 => (if (t163 != t164) = true then (laws_FnBrdBeats.j1 kj2 true t151 t152 t153 t154 t157 t158) else ((impl_BrdBeats.f kj2 t153 t154 t151 t152).bind fun t165 => ((spec_BrdBeats.f kj2 t153 t154 t151 t152).bind fun t166 => (if (t165 != t166) = true then (laws_FnBrdBeats.j1 kj2 true t151 t152 t153 t154 t157 t158) else ((impl_BrdBeats.f kj2 t151 t152 t151 t152).bind fun t167 => (laws_FnBrdBeats.j1 kj2 t167 t151 t152 t153 t154 t157 t158)))))))) = some r := H
        have A7 := Aside0.mk A70
        clear A70
        have HC8 := Aside0.mk H
        clear H
        go_upto_region 5 with (first | ((with_reducible refine gate_callee (f := 41) rfl ?_); refine goesL_ (some 19) rfl rfl Try.func41 (by kernel_rfl) rfl #[.slice A0 l0.length c0] rfl (by (try simp only [List.map_toArray, List.map_cons, List.map_nil]); first | done | rfl | (simp only [List.length_drop, List.length_take]; rfl)) ?_; (with_reducible refine (spec_DrawBrdBeats.calls kj2 _ _ l0 t151 t152 t153 t154 _ ?side1 ?side2 A6.out).mono ?_); (case side1 => repeat (first | exact (Kd.C_below HR0.out HB.out) | (with_reducible refine Kd.C_alloc ?_ _) | (with_reducible refine Kd.C_drewN ?_ _) | (with_reducible refine Kd.C_drew ?_))); (case side2 => exact HC0.out); rintro e w9 ⟨rfl, hb⟩; refine ⟨_, rfl, ?_⟩; have n0_ := Aside0.mk (below_step (by repeat (first | (with_reducible first | exact HB.out | apply below_alloc | apply pw_below_drewN | apply below_drew1) | exact HB.out)) hb); clear HB; have HB := n0_; clear n0_; (try clear hb); (try clear hb2); (try clear hk); (try clear hi)) | ((with_reducible refine gate_dst (N := 5) rfl ?_); (try (refine gate_guard (by rfl) ?_; dsimp only)); refine box_event ?hg (N := 5) ?hd (cs := #[.int .i64 0, .int .i64 0]) (t := 31) ?hr ?_; (case hd => rfl); (case hg => rfl); (case hr => first | (go_simp; done) | (go_simp; rfl)); intro gb155 hg w10 hbox hb; have n0_ := Aside0.mk (below_step (by repeat (first | (with_reducible first | exact HB.out | apply below_alloc | apply pw_below_drewN | apply below_drew1) | exact HB.out)) hb); have n1_ := Aside0.mk (hbox); have n2_ := Aside0.mk ((by rw [hg]; exact (below_size (by repeat (first | (with_reducible first | exact HB.out | apply below_alloc | apply pw_below_drewN | apply below_drew1) | exact HB.out))) : w.heap.size ≤ gb155)); have n3_ := Aside0.mk ((by rw [hg]; exact (below_size (by repeat (first | (with_reducible first | exact HB.out | apply below_alloc | apply pw_below_drewN | apply below_drew1) | exact HB.out))) : w.heap.size ≤ gb155)); clear HB; have HB := n0_; have BK155 := n1_; have GW155 := n2_; have GE155 := n3_; clear n0_ n1_ n2_ n3_; clear hb hbox hg) | ((with_reducible refine gate_dst (N := 6) rfl ?_); (try (refine gate_guard (by rfl) ?_; dsimp only)); refine box_event ?hg (N := 6) ?hd (cs := #[.int .i64 0, .int .i64 0]) (t := 31) ?hr ?_; (case hd => rfl); (case hg => rfl); (case hr => first | (go_simp; done) | (go_simp; rfl)); intro gb156 hg w11 hbox hb; have n0_ := Aside0.mk (blk_below (g := gb155) (o := .cells #[.int .i64 0, .int .i64 0] 31 (0, 0)) (by (with_reducible repeat (first | refine blk_drewN ?_ _ | refine blk_drew ?_ | refine blk_alloc ?_ _)); exact BK155.out) hb); have n1_ := Aside0.mk (below_step (by repeat (first | (with_reducible first | exact HB.out | apply below_alloc | apply pw_below_drewN | apply below_drew1 | refine below_set ?_ GE155.out) | exact HB.out)) hb); have n2_ := Aside0.mk (hbox); have n3_ := Aside0.mk ((by rw [hg]; exact (below_size (by repeat (first | (with_reducible first | exact HB.out | apply below_alloc | apply pw_below_drewN | apply below_drew1 | refine below_set ?_ GE155.out) | exact HB.out))) : w.heap.size ≤ gb156)); have n4_ := Aside0.mk ((by rw [hg]; exact (below_size (by repeat (first | (with_reducible first | exact HB.out | apply below_alloc | apply pw_below_drewN | apply below_drew1 | refine below_set ?_ GE155.out) | exact HB.out))) : w.heap.size ≤ gb156)); have n5_ := Aside0.mk ((by rw [hg]; exact Nat.ne_of_lt (blk_lt (g := gb155) (o := .cells #[.int .i64 0, .int .i64 0] 31 (0, 0)) (by (with_reducible repeat (first | refine blk_drewN ?_ _ | refine blk_drew ?_ | refine blk_alloc ?_ _)); exact BK155.out)) : gb155 ≠ gb156)); have n6_ := Aside0.mk ((by rw [hg]; exact Nat.ne_of_gt (blk_lt (g := gb155) (o := .cells #[.int .i64 0, .int .i64 0] 31 (0, 0)) (by (with_reducible repeat (first | refine blk_drewN ?_ _ | refine blk_drew ?_ | refine blk_alloc ?_ _)); exact BK155.out)) : gb156 ≠ gb155)); clear BK155; clear HB; have BK155 := n0_; have HB := n1_; have BK156 := n2_; have GW156 := n3_; have GE156 := n4_; have NB155_156 := n5_; have NB156_155 := n6_; clear n0_ n1_ n2_ n3_ n4_ n5_ n6_; clear hb hbox hg; have hnb12 := NB155_156.out; have hnc12 := NB156_155.out; have hcz13_0 : w11.cell? ⟨gb155, 0, none⟩ = some (.int .i64 0) := (blk_cell BK155.out 0).trans rfl; have hcz13_1 : w11.cell? ⟨gb155, 1, none⟩ = some (.int .i64 0) := (blk_cell BK155.out 1).trans rfl; have hfz13_0 := blk_frozen BK155.out 0; have hfz13_1 := blk_frozen BK155.out 1; have hcz14_0 : w11.cell? ⟨gb156, 0, none⟩ = some (.int .i64 0) := (blk_cell BK156.out 0).trans rfl; have hcz14_1 : w11.cell? ⟨gb156, 1, none⟩ = some (.int .i64 0) := (blk_cell BK156.out 1).trans rfl; have hfz14_0 := blk_frozen BK156.out 0; have hfz14_1 := blk_frozen BK156.out 1) | ((with_reducible refine gate_callee (f := 41) rfl ?_); refine goesL_ (some 24) rfl rfl Try.func41 (by kernel_rfl) rfl #[.slice A1 l1.length c1] rfl (by (try simp only [List.map_toArray, List.map_cons, List.map_nil]); first | done | rfl | (simp only [List.length_drop, List.length_take]; rfl)) ?_; (with_reducible refine (spec_DrawBrdBeats.calls kj2 _ _ l1 t157 t158 t159 t160 _ ?side1 ?side2 A7.out).mono ?_); (case side1 => exact Kd.C_below HR1.out (by repeat (first | (with_reducible first | exact HB.out | apply below_alloc | apply pw_below_drewN | apply below_drew1 | refine below_set ?_ GE155.out | refine below_set ?_ GE156.out) | exact HB.out))); (case side2 => exact HC1.out); rintro e w15 ⟨rfl, hb⟩; refine ⟨_, rfl, ?_⟩; have n0_ := Aside0.mk (blk_below (g := gb155) (o := .cells #[.int .i64 t151, .int .i64 t152] 31 (0, 0)) (by (with_reducible repeat (first | refine blk_drewN ?_ _ | refine blk_drew ?_ | refine blk_alloc ?_ _)); refine blk_far ?_ NB155_156.out _; (with_reducible repeat (first | refine blk_drewN ?_ _ | refine blk_drew ?_ | refine blk_alloc ?_ _)); refine blk_far ?_ NB155_156.out _; (with_reducible repeat (first | refine blk_drewN ?_ _ | refine blk_drew ?_ | refine blk_alloc ?_ _)); refine blk_put (cs := #[.int .i64 t151, .int .i64 0]) ?_ 1 _ rfl; (with_reducible repeat (first | refine blk_drewN ?_ _ | refine blk_drew ?_ | refine blk_alloc ?_ _)); refine blk_put (cs := #[.int .i64 0, .int .i64 0]) ?_ 0 _ rfl; (with_reducible repeat (first | refine blk_drewN ?_ _ | refine blk_drew ?_ | refine blk_alloc ?_ _)); exact BK155.out) hb); have n1_ := Aside0.mk (blk_below (g := gb156) (o := .cells #[.int .i64 t153, .int .i64 t154] 31 (0, 0)) (by (with_reducible repeat (first | refine blk_drewN ?_ _ | refine blk_drew ?_ | refine blk_alloc ?_ _)); refine blk_put (cs := #[.int .i64 t153, .int .i64 0]) ?_ 1 _ rfl; (with_reducible repeat (first | refine blk_drewN ?_ _ | refine blk_drew ?_ | refine blk_alloc ?_ _)); refine blk_put (cs := #[.int .i64 0, .int .i64 0]) ?_ 0 _ rfl; (with_reducible repeat (first | refine blk_drewN ?_ _ | refine blk_drew ?_ | refine blk_alloc ?_ _)); refine blk_far ?_ NB156_155.out _; (with_reducible repeat (first | refine blk_drewN ?_ _ | refine blk_drew ?_ | refine blk_alloc ?_ _)); refine blk_far ?_ NB156_155.out _; (with_reducible repeat (first | refine blk_drewN ?_ _ | refine blk_drew ?_ | refine blk_alloc ?_ _)); exact BK156.out) hb); have n2_ := Aside0.mk (below_step (by repeat (first | (with_reducible first | exact HB.out | apply below_alloc | apply pw_below_drewN | apply below_drew1 | refine below_set ?_ GE155.out | refine below_set ?_ GE156.out) | exact HB.out)) hb); clear BK155; clear BK156; clear HB; have BK155 := n0_; have BK156 := n1_; have HB := n2_; clear n0_ n1_ n2_; (try clear hb); (try clear hb2); (try clear hk); (try clear hi)) | ((with_reducible refine gate_dst (N := 7) rfl ?_); (try (refine gate_guard (by rfl) ?_; dsimp only)); refine box_event ?hg (N := 7) ?hd (cs := #[.int .i64 0, .int .i64 0]) (t := 31) ?hr ?_; (case hd => rfl); (case hg => rfl); (case hr => first | (go_simp; done) | (go_simp; rfl)); intro gb161 hg w16 hbox hb; have n0_ := Aside0.mk (blk_below (g := gb155) (o := .cells #[.int .i64 t151, .int .i64 t152] 31 (0, 0)) (by (with_reducible repeat (first | refine blk_drewN ?_ _ | refine blk_drew ?_ | refine blk_alloc ?_ _)); exact BK155.out) hb); have n1_ := Aside0.mk (blk_below (g := gb156) (o := .cells #[.int .i64 t153, .int .i64 t154] 31 (0, 0)) (by (with_reducible repeat (first | refine blk_drewN ?_ _ | refine blk_drew ?_ | refine blk_alloc ?_ _)); exact BK156.out) hb); have n2_ := Aside0.mk (below_step (by repeat (first | (with_reducible first | exact HB.out | apply below_alloc | apply pw_below_drewN | apply below_drew1 | refine below_set ?_ GE155.out | refine below_set ?_ GE156.out) | exact HB.out)) hb); have n3_ := Aside0.mk (hbox); have n4_ := Aside0.mk ((by rw [hg]; exact (below_size (by repeat (first | (with_reducible first | exact HB.out | apply below_alloc | apply pw_below_drewN | apply below_drew1 | refine below_set ?_ GE155.out | refine below_set ?_ GE156.out) | exact HB.out))) : w.heap.size ≤ gb161)); have n5_ := Aside0.mk ((by rw [hg]; exact (below_size (by repeat (first | (with_reducible first | exact HB.out | apply below_alloc | apply pw_below_drewN | apply below_drew1 | refine below_set ?_ GE155.out | refine below_set ?_ GE156.out) | exact HB.out))) : w.heap.size ≤ gb161)); have n6_ := Aside0.mk ((by rw [hg]; exact Nat.ne_of_lt (blk_lt (g := gb155) (o := .cells #[.int .i64 t151, .int .i64 t152] 31 (0, 0)) (by (with_reducible repeat (first | refine blk_drewN ?_ _ | refine blk_drew ?_ | refine blk_alloc ?_ _)); exact BK155.out)) : gb155 ≠ gb161)); have n7_ := Aside0.mk ((by rw [hg]; exact Nat.ne_of_gt (blk_lt (g := gb155) (o := .cells #[.int .i64 t151, .int .i64 t152] 31 (0, 0)) (by (with_reducible repeat (first | refine blk_drewN ?_ _ | refine blk_drew ?_ | refine blk_alloc ?_ _)); exact BK155.out)) : gb161 ≠ gb155)); have n8_ := Aside0.mk ((by rw [hg]; exact Nat.ne_of_lt (blk_lt (g := gb156) (o := .cells #[.int .i64 t153, .int .i64 t154] 31 (0, 0)) (by (with_reducible repeat (first | refine blk_drewN ?_ _ | refine blk_drew ?_ | refine blk_alloc ?_ _)); exact BK156.out)) : gb156 ≠ gb161)); have n9_ := Aside0.mk ((by rw [hg]; exact Nat.ne_of_gt (blk_lt (g := gb156) (o := .cells #[.int .i64 t153, .int .i64 t154] 31 (0, 0)) (by (with_reducible repeat (first | refine blk_drewN ?_ _ | refine blk_drew ?_ | refine blk_alloc ?_ _)); exact BK156.out)) : gb161 ≠ gb156)); clear BK155; clear BK156; clear HB; have BK155 := n0_; have BK156 := n1_; have HB := n2_; have BK161 := n3_; have GW161 := n4_; have GE161 := n5_; have NB155_161 := n6_; have NB161_155 := n7_; have NB156_161 := n8_; have NB161_156 := n9_; clear n0_ n1_ n2_ n3_ n4_ n5_ n6_ n7_ n8_ n9_; clear hb hbox hg) | ((with_reducible refine gate_dst (N := 8) rfl ?_); (try (refine gate_guard (by rfl) ?_; dsimp only)); refine box_event ?hg (N := 8) ?hd (cs := #[.int .i64 0, .int .i64 0]) (t := 31) ?hr ?_; (case hd => rfl); (case hg => rfl); (case hr => first | (go_simp; done) | (go_simp; rfl)); intro gb162 hg w17 hbox hb; have n0_ := Aside0.mk (blk_below (g := gb155) (o := .cells #[.int .i64 t151, .int .i64 t152] 31 (0, 0)) (by (with_reducible repeat (first | refine blk_drewN ?_ _ | refine blk_drew ?_ | refine blk_alloc ?_ _)); exact BK155.out) hb); have n1_ := Aside0.mk (blk_below (g := gb156) (o := .cells #[.int .i64 t153, .int .i64 t154] 31 (0, 0)) (by (with_reducible repeat (first | refine blk_drewN ?_ _ | refine blk_drew ?_ | refine blk_alloc ?_ _)); exact BK156.out) hb); have n2_ := Aside0.mk (blk_below (g := gb161) (o := .cells #[.int .i64 0, .int .i64 0] 31 (0, 0)) (by (with_reducible repeat (first | refine blk_drewN ?_ _ | refine blk_drew ?_ | refine blk_alloc ?_ _)); exact BK161.out) hb); have n3_ := Aside0.mk (below_step (by repeat (first | (with_reducible first | exact HB.out | apply below_alloc | apply pw_below_drewN | apply below_drew1 | refine below_set ?_ GE155.out | refine below_set ?_ GE156.out | refine below_set ?_ GE161.out) | exact HB.out)) hb); have n4_ := Aside0.mk (hbox); have n5_ := Aside0.mk ((by rw [hg]; exact (below_size (by repeat (first | (with_reducible first | exact HB.out | apply below_alloc | apply pw_below_drewN | apply below_drew1 | refine below_set ?_ GE155.out | refine below_set ?_ GE156.out | refine below_set ?_ GE161.out) | exact HB.out))) : w.heap.size ≤ gb162)); have n6_ := Aside0.mk ((by rw [hg]; exact (below_size (by repeat (first | (with_reducible first | exact HB.out | apply below_alloc | apply pw_below_drewN | apply below_drew1 | refine below_set ?_ GE155.out | refine below_set ?_ GE156.out | refine below_set ?_ GE161.out) | exact HB.out))) : w.heap.size ≤ gb162)); have n7_ := Aside0.mk ((by rw [hg]; exact Nat.ne_of_lt (blk_lt (g := gb155) (o := .cells #[.int .i64 t151, .int .i64 t152] 31 (0, 0)) (by (with_reducible repeat (first | refine blk_drewN ?_ _ | refine blk_drew ?_ | refine blk_alloc ?_ _)); exact BK155.out)) : gb155 ≠ gb162)); have n8_ := Aside0.mk ((by rw [hg]; exact Nat.ne_of_gt (blk_lt (g := gb155) (o := .cells #[.int .i64 t151, .int .i64 t152] 31 (0, 0)) (by (with_reducible repeat (first | refine blk_drewN ?_ _ | refine blk_drew ?_ | refine blk_alloc ?_ _)); exact BK155.out)) : gb162 ≠ gb155)); have n9_ := Aside0.mk ((by rw [hg]; exact Nat.ne_of_lt (blk_lt (g := gb156) (o := .cells #[.int .i64 t153, .int .i64 t154] 31 (0, 0)) (by (with_reducible repeat (first | refine blk_drewN ?_ _ | refine blk_drew ?_ | refine blk_alloc ?_ _)); exact BK156.out)) : gb156 ≠ gb162)); have n10_ := Aside0.mk ((by rw [hg]; exact Nat.ne_of_gt (blk_lt (g := gb156) (o := .cells #[.int .i64 t153, .int .i64 t154] 31 (0, 0)) (by (with_reducible repeat (first | refine blk_drewN ?_ _ | refine blk_drew ?_ | refine blk_alloc ?_ _)); exact BK156.out)) : gb162 ≠ gb156)); have n11_ := Aside0.mk ((by rw [hg]; exact Nat.ne_of_lt (blk_lt (g := gb161) (o := .cells #[.int .i64 0, .int .i64 0] 31 (0, 0)) (by (with_reducible repeat (first | refine blk_drewN ?_ _ | refine blk_drew ?_ | refine blk_alloc ?_ _)); exact BK161.out)) : gb161 ≠ gb162)); have n12_ := Aside0.mk ((by rw [hg]; exact Nat.ne_of_gt (blk_lt (g := gb161) (o := .cells #[.int .i64 0, .int .i64 0] 31 (0, 0)) (by (with_reducible repeat (first | refine blk_drewN ?_ _ | refine blk_drew ?_ | refine blk_alloc ?_ _)); exact BK161.out)) : gb162 ≠ gb161)); clear BK155; clear BK156; clear BK161; clear HB; have BK155 := n0_; have BK156 := n1_; have BK161 := n2_; have HB := n3_; have BK162 := n4_; have GW162 := n5_; have GE162 := n6_; have NB155_162 := n7_; have NB162_155 := n8_; have NB156_162 := n9_; have NB162_156 := n10_; have NB161_162 := n11_; have NB162_161 := n12_; clear n0_ n1_ n2_ n3_ n4_ n5_ n6_ n7_ n8_ n9_ n10_ n11_ n12_; clear hb hbox hg; have hnb18 := NB161_155.out; have hnc18 := NB155_161.out; have hnb19 := NB161_156.out; have hnc19 := NB156_161.out; have hnb20 := NB161_162.out; have hnc20 := NB162_161.out; have hcz21_0 : w17.cell? ⟨gb161, 0, none⟩ = some (.int .i64 0) := (blk_cell BK161.out 0).trans rfl; have hcz21_1 : w17.cell? ⟨gb161, 1, none⟩ = some (.int .i64 0) := (blk_cell BK161.out 1).trans rfl; have hfz21_0 := blk_frozen BK161.out 0; have hfz21_1 := blk_frozen BK161.out 1; have hnb22 := NB162_155.out; have hnc22 := NB155_162.out; have hnb23 := NB162_156.out; have hnc23 := NB156_162.out; have hcz24_0 : w17.cell? ⟨gb162, 0, none⟩ = some (.int .i64 0) := (blk_cell BK162.out 0).trans rfl; have hcz24_1 : w17.cell? ⟨gb162, 1, none⟩ = some (.int .i64 0) := (blk_cell BK162.out 1).trans rfl; have hfz24_0 := blk_frozen BK162.out 0; have hfz24_1 := blk_frozen BK162.out 1))
        (try simp only [Act.put, List.setIfInBounds_toArray, List.set_cons_zero, List.set_cons_succ])
        go_cut [47] (fun v47 wc => ∃ (kq : Nat) (x47_7 : Bool), v47 = .bool x47_7 ∧ Aside0 (laws_FnBrdBeats.j1 kq x47_7 t151 t152 t153 t154 t157 t158 = some r) ∧ Aside0 (kq ≤ kj2) ∧ Aside0 (wc.heap[gb155]? = some (.cells #[.int .i64 t151, .int .i64 t152] 31 (0, 0))) ∧ Aside0 (wc.heap[gb156]? = some (.cells #[.int .i64 t153, .int .i64 t154] 31 (0, 0))) ∧ Aside0 (wc.heap[gb161]? = some (.cells #[.int .i64 t157, .int .i64 t158] 31 (0, 0))) ∧ Aside0 (wc.heap[gb162]? = some (.cells #[.int .i64 t159, .int .i64 t160] 31 (0, 0))) ∧ Aside0 (Below w.heap.size w wc))
        case first =>
          have H := HC8.out
          clear HC8
          replace H := Option.bind_eq_some_iff.mp H
          obtain ⟨t163, A250, H⟩ := H
          replace H : ((spec_BrdBeats.f kj2 t151 t152 t153 t154).bind fun t164 => (if (t163 != t164) = true then (laws_FnBrdBeats.j1 kj2 true t151 t152 t153 t154 t157 t158) else ((impl_BrdBeats.f kj2 t153 t154 t151 t152).bind fun t165 => ((spec_BrdBeats.f kj2 t153 t154 t151 t152).bind fun t166 => (if (t165 != t166) = true then (laws_FnBrdBeats.j1 kj2 true t151 t152 t153 t154 t157 t158) else ((impl_BrdBeats.f kj2 t151 t152 t151 t152).bind fun t167 => (laws_FnBrdBeats.j1 kj2 t167 t151 t152 t153 t154 t157 t158))))))) = some r := H
          have A25 := Aside0.mk A250
          clear A250
          replace H := Option.bind_eq_some_iff.mp H
          obtain ⟨t164, A260, H⟩ := H
          replace H : (if (t163 != t164) = true then (laws_FnBrdBeats.j1 kj2 true t151 t152 t153 t154 t157 t158) else ((impl_BrdBeats.f kj2 t153 t154 t151 t152).bind fun t165 => ((spec_BrdBeats.f kj2 t153 t154 t151 t152).bind fun t166 => (if (t165 != t166) = true then (laws_FnBrdBeats.j1 kj2 true t151 t152 t153 t154 t157 t158) else ((impl_BrdBeats.f kj2 t151 t152 t151 t152).bind fun t167 => (laws_FnBrdBeats.j1 kj2 t167 t151 t152 t153 t154 t157 t158)))))) = some r := H
          have A26 := Aside0.mk A260
          clear A260
          by_cases c27 : (t163 != t164) = true
          · rw [if_pos c27] at H
            have c27b0 : (t163 != t164) = true := c27
            (try (have c27b1 : decide (t163 = t164) = false := by simpa using c27))
            (try (have c27b2 : (t163 == t164) = false := by simpa using c27))
            (try (have c27b3 : ¬ (t163 = t164) := by simpa using c27))
            clear c27
            (first | rw [c27b0] | (simp only [i64_w, i32_w]; rw [c27b0]) | skip)
            have H' := Aside0.mk H
            clear H
            try go_wp2
            have n0_ : Aside0 (((((w17.setCell ⟨gb161, 0, none⟩ (.int .i64 t157)).setCell ⟨gb161, 1, none⟩ (.int .i64 t158)).setCell ⟨gb162, 0, none⟩ (.int .i64 t159)).setCell ⟨gb162, 1, none⟩ (.int .i64 t160)).heap[gb155]? = some (.cells #[.int .i64 t151, .int .i64 t152] 31 (0, 0))) := ⟨by (with_reducible repeat (first | refine blk_drewN ?_ _ | refine blk_drew ?_ | refine blk_alloc ?_ _)); refine blk_far ?_ NB155_162.out _; (with_reducible repeat (first | refine blk_drewN ?_ _ | refine blk_drew ?_ | refine blk_alloc ?_ _)); refine blk_far ?_ NB155_162.out _; (with_reducible repeat (first | refine blk_drewN ?_ _ | refine blk_drew ?_ | refine blk_alloc ?_ _)); refine blk_far ?_ NB155_161.out _; (with_reducible repeat (first | refine blk_drewN ?_ _ | refine blk_drew ?_ | refine blk_alloc ?_ _)); refine blk_far ?_ NB155_161.out _; (with_reducible repeat (first | refine blk_drewN ?_ _ | refine blk_drew ?_ | refine blk_alloc ?_ _)); exact BK155.out⟩
            have n1_ : Aside0 (((((w17.setCell ⟨gb161, 0, none⟩ (.int .i64 t157)).setCell ⟨gb161, 1, none⟩ (.int .i64 t158)).setCell ⟨gb162, 0, none⟩ (.int .i64 t159)).setCell ⟨gb162, 1, none⟩ (.int .i64 t160)).heap[gb156]? = some (.cells #[.int .i64 t153, .int .i64 t154] 31 (0, 0))) := ⟨by (with_reducible repeat (first | refine blk_drewN ?_ _ | refine blk_drew ?_ | refine blk_alloc ?_ _)); refine blk_far ?_ NB156_162.out _; (with_reducible repeat (first | refine blk_drewN ?_ _ | refine blk_drew ?_ | refine blk_alloc ?_ _)); refine blk_far ?_ NB156_162.out _; (with_reducible repeat (first | refine blk_drewN ?_ _ | refine blk_drew ?_ | refine blk_alloc ?_ _)); refine blk_far ?_ NB156_161.out _; (with_reducible repeat (first | refine blk_drewN ?_ _ | refine blk_drew ?_ | refine blk_alloc ?_ _)); refine blk_far ?_ NB156_161.out _; (with_reducible repeat (first | refine blk_drewN ?_ _ | refine blk_drew ?_ | refine blk_alloc ?_ _)); exact BK156.out⟩
            have n2_ : Aside0 (((((w17.setCell ⟨gb161, 0, none⟩ (.int .i64 t157)).setCell ⟨gb161, 1, none⟩ (.int .i64 t158)).setCell ⟨gb162, 0, none⟩ (.int .i64 t159)).setCell ⟨gb162, 1, none⟩ (.int .i64 t160)).heap[gb161]? = some (.cells #[.int .i64 t157, .int .i64 t158] 31 (0, 0))) := ⟨by (with_reducible repeat (first | refine blk_drewN ?_ _ | refine blk_drew ?_ | refine blk_alloc ?_ _)); refine blk_far ?_ NB161_162.out _; (with_reducible repeat (first | refine blk_drewN ?_ _ | refine blk_drew ?_ | refine blk_alloc ?_ _)); refine blk_far ?_ NB161_162.out _; (with_reducible repeat (first | refine blk_drewN ?_ _ | refine blk_drew ?_ | refine blk_alloc ?_ _)); refine blk_put (cs := #[.int .i64 t157, .int .i64 0]) ?_ 1 _ rfl; (with_reducible repeat (first | refine blk_drewN ?_ _ | refine blk_drew ?_ | refine blk_alloc ?_ _)); refine blk_put (cs := #[.int .i64 0, .int .i64 0]) ?_ 0 _ rfl; (with_reducible repeat (first | refine blk_drewN ?_ _ | refine blk_drew ?_ | refine blk_alloc ?_ _)); exact BK161.out⟩
            have n3_ : Aside0 (((((w17.setCell ⟨gb161, 0, none⟩ (.int .i64 t157)).setCell ⟨gb161, 1, none⟩ (.int .i64 t158)).setCell ⟨gb162, 0, none⟩ (.int .i64 t159)).setCell ⟨gb162, 1, none⟩ (.int .i64 t160)).heap[gb162]? = some (.cells #[.int .i64 t159, .int .i64 t160] 31 (0, 0))) := ⟨by (with_reducible repeat (first | refine blk_drewN ?_ _ | refine blk_drew ?_ | refine blk_alloc ?_ _)); refine blk_put (cs := #[.int .i64 t159, .int .i64 0]) ?_ 1 _ rfl; (with_reducible repeat (first | refine blk_drewN ?_ _ | refine blk_drew ?_ | refine blk_alloc ?_ _)); refine blk_put (cs := #[.int .i64 0, .int .i64 0]) ?_ 0 _ rfl; (with_reducible repeat (first | refine blk_drewN ?_ _ | refine blk_drew ?_ | refine blk_alloc ?_ _)); refine blk_far ?_ NB162_161.out _; (with_reducible repeat (first | refine blk_drewN ?_ _ | refine blk_drew ?_ | refine blk_alloc ?_ _)); refine blk_far ?_ NB162_161.out _; (with_reducible repeat (first | refine blk_drewN ?_ _ | refine blk_drew ?_ | refine blk_alloc ?_ _)); exact BK162.out⟩
            have n4_ : Aside0 (Below w.heap.size w ((((w17.setCell ⟨gb161, 0, none⟩ (.int .i64 t157)).setCell ⟨gb161, 1, none⟩ (.int .i64 t158)).setCell ⟨gb162, 0, none⟩ (.int .i64 t159)).setCell ⟨gb162, 1, none⟩ (.int .i64 t160))) := ⟨by repeat (first | (with_reducible first | exact HB.out | apply below_alloc | apply pw_below_drewN | apply below_drew1 | refine below_set ?_ GE155.out | refine below_set ?_ GE156.out | refine below_set ?_ GE161.out | refine below_set ?_ GE162.out) | exact HB.out)⟩
            (try clear BK155)
            (try clear BK156)
            (try clear BK161)
            (try clear BK162)
            (try clear HB)
            generalize ((((w17.setCell ⟨gb161, 0, none⟩ (.int .i64 t157)).setCell ⟨gb161, 1, none⟩ (.int .i64 t158)).setCell ⟨gb162, 0, none⟩ (.int .i64 t159)).setCell ⟨gb162, 1, none⟩ (.int .i64 t160)) = w28 at n0_ n1_ n2_ n3_ n4_ ⊢
            have BK155 := n0_
            have BK156 := n1_
            have BK161 := n2_
            have BK162 := n3_
            have HB := n4_
            clear n0_ n1_ n2_ n3_ n4_
            have n0_ := Aside0.mk (blk_drew BK155.out)
            have n1_ := Aside0.mk (blk_drew BK156.out)
            have n2_ := Aside0.mk (blk_drew BK161.out)
            have n3_ := Aside0.mk (blk_drew BK162.out)
            have n4_ := Aside0.mk (below_drew1 HB.out)
            clear BK155
            clear BK156
            clear BK161
            clear BK162
            clear HB
            have BK155 := n0_
            have BK156 := n1_
            have BK161 := n2_
            have BK162 := n3_
            have HB := n4_
            clear n0_ n1_ n2_ n3_ n4_
            refine start_ (n := 21) (S := fun w' => w'.cell? ⟨gb155, 0, none⟩ = some (.int .i64 t151) ∧ w'.cell? ⟨gb155, 1, none⟩ = some (.int .i64 t152) ∧ w'.cell? ⟨gb156, 0, none⟩ = some (.int .i64 t153) ∧ w'.cell? ⟨gb156, 1, none⟩ = some (.int .i64 t154)) (ds := []) #[false, false, false, false, false, false, false, false, false, false, false, false, false, false, false, false, false, false, false, false, false] (by kernel_rfl) rfl rfl ⟨(blk_cell BK155.out 0).trans rfl, (blk_cell BK155.out 1).trans rfl, (blk_cell BK156.out 0).trans rfl, (blk_cell BK156.out 1).trans rfl⟩ (fun hHeld => ?_); refine with_tabW laws_FnBrdBeats.tab5 laws_FnBrdBeats.bits5 (fun HT_ HW_ => ?_)
            generalize w28.drew = w29 at BK155 BK156 BK161 BK162 HB hHeld ⊢
            refine take_ (i := 0) (N := some 27) (v := ?_) (a' := ?_) #[true, false, false, false, false, false, false, false, false, false, false, false, false, false, false, false, false, false, false, false, false] rfl rfl (take_ofW HT_.out HW_.out (by kernel_rfl)) (fun _ _ _ h => h) (Or.inl ⟨by rfl, ?_⟩) hHeld ?_ ?_
            rotate_left
            · rintro w' ⟨s0, s1, s2, s3⟩
              go_simp
              with_reducible rfl
            rotate_left
            · simp only [Act.put, List.setIfInBounds_toArray, List.set_cons_zero, List.set_cons_succ, i64_w, i32_w]
              rfl
            refine take_ (i := 1) (N := some 28) (v := ?_) (a' := ?_) #[true, true, false, false, false, false, false, false, false, false, false, false, false, false, false, false, false, false, false, false, false] rfl rfl (take_ofW HT_.out HW_.out (by kernel_rfl)) (fun _ _ _ h => h) (Or.inl ⟨by rfl, ?_⟩) hHeld ?_ ?_
            rotate_left
            · rintro w' ⟨s0, s1, s2, s3⟩
              go_simp
              with_reducible rfl
            rotate_left
            · simp only [Act.put, List.setIfInBounds_toArray, List.set_cons_zero, List.set_cons_succ, i64_w, i32_w]
              rfl
            refine take_ (i := 3) (N := some 30) (v := ?_) (a' := ?_) #[true, true, false, true, false, false, false, false, false, false, false, false, false, false, false, false, false, false, false, false, false] rfl rfl (take_ofW HT_.out HW_.out (by kernel_rfl)) (fun _ _ _ h => h) (Or.inl ⟨by rfl, ?_⟩) hHeld ?_ ?_
            rotate_left
            · rintro w' ⟨s0, s1, s2, s3⟩
              go_simp
              with_reducible rfl
            rotate_left
            · simp only [Act.put, List.setIfInBounds_toArray, List.set_cons_zero, List.set_cons_succ, i64_w, i32_w]
              rfl
            refine take_ (i := 4) (N := some 31) (v := ?_) (a' := ?_) #[true, true, false, true, true, false, false, false, false, false, false, false, false, false, false, false, false, false, false, false, false] rfl rfl (take_ofW HT_.out HW_.out (by kernel_rfl)) (fun _ _ _ h => h) (Or.inl ⟨by rfl, ?_⟩) hHeld ?_ ?_
            rotate_left
            · rintro w' ⟨s0, s1, s2, s3⟩
              go_simp
              with_reducible rfl
            rotate_left
            · simp only [Act.put, List.setIfInBounds_toArray, List.set_cons_zero, List.set_cons_succ, i64_w, i32_w]
              rfl
            refine one_ (i := 2) (N := some 29) #[true, true, true, true, true, false, false, false, false, false, false, false, false, false, false, false, false, false, false, false, false] rfl rfl (one_of HT_.out (by kernel_rfl)) (by decide) (fun K hK => ?_)
            refine goes_ Try.func20 (by kernel_rfl) rfl #[.agg #[.int .i64 t151, .int .i64 t152], .agg #[.int .i64 t153, .int .i64 t154]] (by rfl) rfl rfl (by (try simp only [List.map_toArray, List.map_cons, List.map_nil]); first | done | rfl | (simp only [List.length_drop, List.length_take]; rfl)) ?_
            with_reducible refine (impl_BrdBeats.calls kj2 t151 t152 t153 t154 t163 _ A25.out).mono ?_
            rintro e w30 ⟨rfl, hb⟩
            refine ⟨_, rfl, ?_⟩
            have n0_ := Aside0.mk (blk_below (g := gb155) (o := .cells #[.int .i64 t151, .int .i64 t152] 31 (0, 0)) (by (with_reducible repeat (first | refine blk_drewN ?_ _ | refine blk_drew ?_ | refine blk_alloc ?_ _)); exact BK155.out) hb)
            have n1_ := Aside0.mk (blk_below (g := gb156) (o := .cells #[.int .i64 t153, .int .i64 t154] 31 (0, 0)) (by (with_reducible repeat (first | refine blk_drewN ?_ _ | refine blk_drew ?_ | refine blk_alloc ?_ _)); exact BK156.out) hb)
            have n2_ := Aside0.mk (blk_below (g := gb161) (o := .cells #[.int .i64 t157, .int .i64 t158] 31 (0, 0)) (by (with_reducible repeat (first | refine blk_drewN ?_ _ | refine blk_drew ?_ | refine blk_alloc ?_ _)); exact BK161.out) hb)
            have n3_ := Aside0.mk (blk_below (g := gb162) (o := .cells #[.int .i64 t159, .int .i64 t160] 31 (0, 0)) (by (with_reducible repeat (first | refine blk_drewN ?_ _ | refine blk_drew ?_ | refine blk_alloc ?_ _)); exact BK162.out) hb)
            have n4_ := Aside0.mk (below_step (by repeat (first | (with_reducible first | exact HB.out | apply below_alloc | apply pw_below_drewN | apply below_drew1 | refine below_set ?_ GE155.out | refine below_set ?_ GE156.out | refine below_set ?_ GE161.out | refine below_set ?_ GE162.out) | exact HB.out)) hb)
            clear BK155
            clear BK156
            clear BK161
            clear BK162
            clear HB
            have BK155 := n0_
            have BK156 := n1_
            have BK161 := n2_
            have BK162 := n3_
            have HB := n4_
            clear n0_ n1_ n2_ n3_ n4_
            (try clear hb)
            (try clear hb2)
            (try clear hk)
            (try clear hi)
            refine hK.out _ _ ⟨(blk_cell BK155.out 0).trans rfl, (blk_cell BK155.out 1).trans rfl, (blk_cell BK156.out 0).trans rfl, (blk_cell BK156.out 1).trans rfl⟩ (fun hHeld => ?_)
            clear hK K
            refine norm_ (a' := ?_) ?_ ?_
            rotate_left
            · show Act.put _ (some 29) _ = _
              simp only [Act.put, List.setIfInBounds_toArray, List.set_cons_zero, List.set_cons_succ, i64_w, i32_w]
              rfl
            refine one_ (i := 5) (N := some 32) #[true, true, true, true, true, true, false, false, false, false, false, false, false, false, false, false, false, false, false, false, false] rfl rfl (one_of HT_.out (by kernel_rfl)) (by decide) (fun K hK => ?_)
            refine goes_ Try.func18 (by kernel_rfl) rfl #[.agg #[.int .i64 t151, .int .i64 t152], .agg #[.int .i64 t153, .int .i64 t154]] (by rfl) rfl rfl (by (try simp only [List.map_toArray, List.map_cons, List.map_nil]); first | done | rfl | (simp only [List.length_drop, List.length_take]; rfl)) ?_
            with_reducible refine (spec_BrdBeats.calls kj2 t151 t152 t153 t154 t164 _ A26.out).mono ?_
            rintro e w31 ⟨rfl, hb⟩
            refine ⟨_, rfl, ?_⟩
            have n0_ := Aside0.mk (blk_below (g := gb155) (o := .cells #[.int .i64 t151, .int .i64 t152] 31 (0, 0)) (by (with_reducible repeat (first | refine blk_drewN ?_ _ | refine blk_drew ?_ | refine blk_alloc ?_ _)); exact BK155.out) hb)
            have n1_ := Aside0.mk (blk_below (g := gb156) (o := .cells #[.int .i64 t153, .int .i64 t154] 31 (0, 0)) (by (with_reducible repeat (first | refine blk_drewN ?_ _ | refine blk_drew ?_ | refine blk_alloc ?_ _)); exact BK156.out) hb)
            have n2_ := Aside0.mk (blk_below (g := gb161) (o := .cells #[.int .i64 t157, .int .i64 t158] 31 (0, 0)) (by (with_reducible repeat (first | refine blk_drewN ?_ _ | refine blk_drew ?_ | refine blk_alloc ?_ _)); exact BK161.out) hb)
            have n3_ := Aside0.mk (blk_below (g := gb162) (o := .cells #[.int .i64 t159, .int .i64 t160] 31 (0, 0)) (by (with_reducible repeat (first | refine blk_drewN ?_ _ | refine blk_drew ?_ | refine blk_alloc ?_ _)); exact BK162.out) hb)
            have n4_ := Aside0.mk (below_step (by repeat (first | (with_reducible first | exact HB.out | apply below_alloc | apply pw_below_drewN | apply below_drew1 | refine below_set ?_ GE155.out | refine below_set ?_ GE156.out | refine below_set ?_ GE161.out | refine below_set ?_ GE162.out) | exact HB.out)) hb)
            clear BK155
            clear BK156
            clear BK161
            clear BK162
            clear HB
            have BK155 := n0_
            have BK156 := n1_
            have BK161 := n2_
            have BK162 := n3_
            have HB := n4_
            clear n0_ n1_ n2_ n3_ n4_
            (try clear hb)
            (try clear hb2)
            (try clear hk)
            (try clear hi)
            refine hK.out _ _ ⟨(blk_cell BK155.out 0).trans rfl, (blk_cell BK155.out 1).trans rfl, (blk_cell BK156.out 0).trans rfl, (blk_cell BK156.out 1).trans rfl⟩ (fun hHeld => ?_)
            clear hK K
            refine norm_ (a' := ?_) ?_ ?_
            rotate_left
            · show Act.put _ (some 32) _ = _
              simp only [Act.put, List.setIfInBounds_toArray, List.set_cons_zero, List.set_cons_succ, i64_w, i32_w]
              rfl
            refine pure_ (i := 6) (N := some 33) (v := ?_) (a' := ?_) #[true, true, true, true, true, true, true, false, false, false, false, false, false, false, false, false, false, false, false, false, false] rfl rfl (any_of HT_.out (by kernel_rfl)) (fun _ _ _ h => h) (Or.inl ⟨by rfl, ?_⟩) ?_ ?_
            rotate_left
            · intro w'
              go_simp
              with_reducible rfl
            rotate_left
            · simp only [Act.put, List.setIfInBounds_toArray, List.set_cons_zero, List.set_cons_succ, i64_w, i32_w]
              rfl
            refine pure_ (i := 7) (N := some 34) (v := ?_) (a' := ?_) #[true, true, true, true, true, true, true, true, false, false, false, false, false, false, false, false, false, false, false, false, false] rfl rfl (any_of HT_.out (by kernel_rfl)) (fun _ _ _ h => h) (Or.inl ⟨by rfl, ?_⟩) ?_ ?_
            rotate_left
            · intro w'
              go_simp
              with_reducible rfl
            rotate_left
            · simp only [Act.put, List.setIfInBounds_toArray, List.set_cons_zero, List.set_cons_succ, i64_w, i32_w]
              rfl
            refine pure_ (i := 8) (N := some 35) (v := undef) (a' := ?_) #[true, true, true, true, true, true, true, true, true, false, false, false, false, false, false, false, false, false, false, false, false] rfl rfl (any_of HT_.out (by kernel_rfl)) (fun _ _ _ h => h) (Or.inr ⟨by rfl, rfl⟩) ?_ ?_
            rotate_left
            · simp only [Act.put, List.setIfInBounds_toArray, List.set_cons_zero, List.set_cons_succ, i64_w, i32_w]
              rfl
            refine pure_ (i := 9) (N := some 36) (v := undef) (a' := ?_) #[true, true, true, true, true, true, true, true, true, true, false, false, false, false, false, false, false, false, false, false, false] rfl rfl (any_of HT_.out (by kernel_rfl)) (fun _ _ _ h => h) (Or.inr ⟨by rfl, rfl⟩) ?_ ?_
            rotate_left
            · simp only [Act.put, List.setIfInBounds_toArray, List.set_cons_zero, List.set_cons_succ, i64_w, i32_w]
              rfl
            refine pure_ (i := 10) (N := some 37) (v := undef) (a' := ?_) #[true, true, true, true, true, true, true, true, true, true, true, false, false, false, false, false, false, false, false, false, false] rfl rfl (any_of HT_.out (by kernel_rfl)) (fun _ _ _ h => h) (Or.inr ⟨by rfl, rfl⟩) ?_ ?_
            rotate_left
            · simp only [Act.put, List.setIfInBounds_toArray, List.set_cons_zero, List.set_cons_succ, i64_w, i32_w]
              rfl
            refine pure_ (i := 11) (N := some 38) (v := undef) (a' := ?_) #[true, true, true, true, true, true, true, true, true, true, true, true, false, false, false, false, false, false, false, false, false] rfl rfl (any_of HT_.out (by kernel_rfl)) (fun _ _ _ h => h) (Or.inr ⟨by rfl, rfl⟩) ?_ ?_
            rotate_left
            · simp only [Act.put, List.setIfInBounds_toArray, List.set_cons_zero, List.set_cons_succ, i64_w, i32_w]
              rfl
            refine pure_ (i := 12) (N := some 39) (v := undef) (a' := ?_) #[true, true, true, true, true, true, true, true, true, true, true, true, true, false, false, false, false, false, false, false, false] rfl rfl (any_of HT_.out (by kernel_rfl)) (fun _ _ _ h => h) (Or.inr ⟨by rfl, rfl⟩) ?_ ?_
            rotate_left
            · simp only [Act.put, List.setIfInBounds_toArray, List.set_cons_zero, List.set_cons_succ, i64_w, i32_w]
              rfl
            refine pure_ (i := 13) (N := some 40) (v := undef) (a' := ?_) #[true, true, true, true, true, true, true, true, true, true, true, true, true, true, false, false, false, false, false, false, false] rfl rfl (any_of HT_.out (by kernel_rfl)) (fun _ _ _ h => h) (Or.inr ⟨by rfl, rfl⟩) ?_ ?_
            rotate_left
            · simp only [Act.put, List.setIfInBounds_toArray, List.set_cons_zero, List.set_cons_succ, i64_w, i32_w]
              rfl
            refine pure_ (i := 14) (N := some 41) (v := undef) (a' := ?_) #[true, true, true, true, true, true, true, true, true, true, true, true, true, true, true, false, false, false, false, false, false] rfl rfl (any_of HT_.out (by kernel_rfl)) (fun _ _ _ h => h) (Or.inr ⟨by rfl, rfl⟩) ?_ ?_
            rotate_left
            · simp only [Act.put, List.setIfInBounds_toArray, List.set_cons_zero, List.set_cons_succ, i64_w, i32_w]
              rfl
            refine pure_ (i := 15) (N := some 42) (v := ?_) (a' := ?_) #[true, true, true, true, true, true, true, true, true, true, true, true, true, true, true, true, false, false, false, false, false] rfl rfl (any_of HT_.out (by kernel_rfl)) (fun _ _ _ h => h) (Or.inl ⟨by rfl, ?_⟩) ?_ ?_
            rotate_left
            · intro w'
              go_simp
              with_reducible rfl
            rotate_left
            · simp only [Act.put, List.setIfInBounds_toArray, List.set_cons_zero, List.set_cons_succ, i64_w, i32_w]
              rfl
            refine pure_ (i := 16) (N := some 43) (v := ?_) (a' := ?_) #[true, true, true, true, true, true, true, true, true, true, true, true, true, true, true, true, true, false, false, false, false] rfl rfl (any_of HT_.out (by kernel_rfl)) (fun _ _ _ h => h) (Or.inl ⟨by rfl, ?_⟩) ?_ ?_
            rotate_left
            · intro w'
              go_simp
              with_reducible rfl
            rotate_left
            · simp only [Act.put, List.setIfInBounds_toArray, List.set_cons_zero, List.set_cons_succ, i64_w, i32_w]
              rfl
            refine pure_ (i := 17) (N := some 44) (v := undef) (a' := ?_) #[true, true, true, true, true, true, true, true, true, true, true, true, true, true, true, true, true, true, false, false, false] rfl rfl (any_of HT_.out (by kernel_rfl)) (fun _ _ _ h => h) (Or.inr ⟨by rfl, rfl⟩) ?_ ?_
            rotate_left
            · simp only [Act.put, List.setIfInBounds_toArray, List.set_cons_zero, List.set_cons_succ, i64_w, i32_w]
              rfl
            refine pure_ (i := 18) (N := some 45) (v := undef) (a' := ?_) #[true, true, true, true, true, true, true, true, true, true, true, true, true, true, true, true, true, true, true, false, false] rfl rfl (any_of HT_.out (by kernel_rfl)) (fun _ _ _ h => h) (Or.inr ⟨by rfl, rfl⟩) ?_ ?_
            rotate_left
            · simp only [Act.put, List.setIfInBounds_toArray, List.set_cons_zero, List.set_cons_succ, i64_w, i32_w]
              rfl
            refine pure_ (i := 19) (N := some 46) (v := undef) (a' := ?_) #[true, true, true, true, true, true, true, true, true, true, true, true, true, true, true, true, true, true, true, true, false] rfl rfl (any_of HT_.out (by kernel_rfl)) (fun _ _ _ h => h) (Or.inr ⟨by rfl, rfl⟩) ?_ ?_
            rotate_left
            · simp only [Act.put, List.setIfInBounds_toArray, List.set_cons_zero, List.set_cons_succ, i64_w, i32_w]
              rfl
            refine pure_ (i := 20) (N := some 47) (v := ?_) (a' := ?_) #[true, true, true, true, true, true, true, true, true, true, true, true, true, true, true, true, true, true, true, true, true] rfl rfl (any_of HT_.out (by kernel_rfl)) (fun _ _ _ h => h) (Or.inl ⟨by rfl, ?_⟩) ?_ ?_
            rotate_left
            · intro w'
              go_simp
              with_reducible rfl
            rotate_left
            · simp only [Act.put, List.setIfInBounds_toArray, List.set_cons_zero, List.set_cons_succ, i64_w, i32_w]
              rfl
            refine done_ (done_of HT_.out (by kernel_rfl)) ?_
            try go_wp2
            go_meet
            case rel => exact ⟨_, (true), (by first | rfl | (simp; done) | (simp [*]; done)), H', ⟨by have := HJ2.out; first | omega | exact Nat.le_refl _⟩, ⟨by (with_reducible repeat (first | refine blk_drewN ?_ _ | refine blk_drew ?_ | refine blk_alloc ?_ _)); exact BK155.out⟩, ⟨by (with_reducible repeat (first | refine blk_drewN ?_ _ | refine blk_drew ?_ | refine blk_alloc ?_ _)); exact BK156.out⟩, ⟨by (with_reducible repeat (first | refine blk_drewN ?_ _ | refine blk_drew ?_ | refine blk_alloc ?_ _)); exact BK161.out⟩, ⟨by (with_reducible repeat (first | refine blk_drewN ?_ _ | refine blk_drew ?_ | refine blk_alloc ?_ _)); exact BK162.out⟩, ⟨by repeat (first | (with_reducible first | exact HB.out | apply below_alloc | apply pw_below_drewN | apply below_drew1 | refine below_set ?_ GE155.out | refine below_set ?_ GE156.out | refine below_set ?_ GE161.out | refine below_set ?_ GE162.out) | exact HB.out)⟩⟩
          · rw [if_neg c27] at H
            have c27b0 : (t163 != t164) = false := by simpa using c27
            (try (have c27b1 : decide (t163 = t164) = true := by simpa using c27))
            (try (have c27b2 : (t163 == t164) = true := by simpa using c27))
            clear c27
            (first | rw [c27b0] | (simp only [i64_w, i32_w]; rw [c27b0]) | skip)
            replace H := Option.bind_eq_some_iff.mp H
            obtain ⟨t165, A320, H⟩ := H
            replace H : ((spec_BrdBeats.f kj2 t153 t154 t151 t152).bind fun t166 => (if (t165 != t166) = true then (laws_FnBrdBeats.j1 kj2 true t151 t152 t153 t154 t157 t158) else ((impl_BrdBeats.f kj2 t151 t152 t151 t152).bind fun t167 => (laws_FnBrdBeats.j1 kj2 t167 t151 t152 t153 t154 t157 t158)))) = some r := H
            have A32 := Aside0.mk A320
            clear A320
            replace H := Option.bind_eq_some_iff.mp H
            obtain ⟨t166, A330, H⟩ := H
            replace H : (if (t165 != t166) = true then (laws_FnBrdBeats.j1 kj2 true t151 t152 t153 t154 t157 t158) else ((impl_BrdBeats.f kj2 t151 t152 t151 t152).bind fun t167 => (laws_FnBrdBeats.j1 kj2 t167 t151 t152 t153 t154 t157 t158))) = some r := H
            have A33 := Aside0.mk A330
            clear A330
            by_cases c34 : (t165 != t166) = true
            · rw [if_pos c34] at H
              have c34b0 : (t165 != t166) = true := c34
              (try (have c34b1 : decide (t165 = t166) = false := by simpa using c34))
              (try (have c34b2 : (t165 == t166) = false := by simpa using c34))
              (try (have c34b3 : ¬ (t165 = t166) := by simpa using c34))
              clear c34
              have H' := Aside0.mk H
              clear H
              try go_wp2
              have n0_ : Aside0 (((((w17.setCell ⟨gb161, 0, none⟩ (.int .i64 t157)).setCell ⟨gb161, 1, none⟩ (.int .i64 t158)).setCell ⟨gb162, 0, none⟩ (.int .i64 t159)).setCell ⟨gb162, 1, none⟩ (.int .i64 t160)).heap[gb155]? = some (.cells #[.int .i64 t151, .int .i64 t152] 31 (0, 0))) := ⟨by (with_reducible repeat (first | refine blk_drewN ?_ _ | refine blk_drew ?_ | refine blk_alloc ?_ _)); refine blk_far ?_ NB155_162.out _; (with_reducible repeat (first | refine blk_drewN ?_ _ | refine blk_drew ?_ | refine blk_alloc ?_ _)); refine blk_far ?_ NB155_162.out _; (with_reducible repeat (first | refine blk_drewN ?_ _ | refine blk_drew ?_ | refine blk_alloc ?_ _)); refine blk_far ?_ NB155_161.out _; (with_reducible repeat (first | refine blk_drewN ?_ _ | refine blk_drew ?_ | refine blk_alloc ?_ _)); refine blk_far ?_ NB155_161.out _; (with_reducible repeat (first | refine blk_drewN ?_ _ | refine blk_drew ?_ | refine blk_alloc ?_ _)); exact BK155.out⟩
              have n1_ : Aside0 (((((w17.setCell ⟨gb161, 0, none⟩ (.int .i64 t157)).setCell ⟨gb161, 1, none⟩ (.int .i64 t158)).setCell ⟨gb162, 0, none⟩ (.int .i64 t159)).setCell ⟨gb162, 1, none⟩ (.int .i64 t160)).heap[gb156]? = some (.cells #[.int .i64 t153, .int .i64 t154] 31 (0, 0))) := ⟨by (with_reducible repeat (first | refine blk_drewN ?_ _ | refine blk_drew ?_ | refine blk_alloc ?_ _)); refine blk_far ?_ NB156_162.out _; (with_reducible repeat (first | refine blk_drewN ?_ _ | refine blk_drew ?_ | refine blk_alloc ?_ _)); refine blk_far ?_ NB156_162.out _; (with_reducible repeat (first | refine blk_drewN ?_ _ | refine blk_drew ?_ | refine blk_alloc ?_ _)); refine blk_far ?_ NB156_161.out _; (with_reducible repeat (first | refine blk_drewN ?_ _ | refine blk_drew ?_ | refine blk_alloc ?_ _)); refine blk_far ?_ NB156_161.out _; (with_reducible repeat (first | refine blk_drewN ?_ _ | refine blk_drew ?_ | refine blk_alloc ?_ _)); exact BK156.out⟩
              have n2_ : Aside0 (((((w17.setCell ⟨gb161, 0, none⟩ (.int .i64 t157)).setCell ⟨gb161, 1, none⟩ (.int .i64 t158)).setCell ⟨gb162, 0, none⟩ (.int .i64 t159)).setCell ⟨gb162, 1, none⟩ (.int .i64 t160)).heap[gb161]? = some (.cells #[.int .i64 t157, .int .i64 t158] 31 (0, 0))) := ⟨by (with_reducible repeat (first | refine blk_drewN ?_ _ | refine blk_drew ?_ | refine blk_alloc ?_ _)); refine blk_far ?_ NB161_162.out _; (with_reducible repeat (first | refine blk_drewN ?_ _ | refine blk_drew ?_ | refine blk_alloc ?_ _)); refine blk_far ?_ NB161_162.out _; (with_reducible repeat (first | refine blk_drewN ?_ _ | refine blk_drew ?_ | refine blk_alloc ?_ _)); refine blk_put (cs := #[.int .i64 t157, .int .i64 0]) ?_ 1 _ rfl; (with_reducible repeat (first | refine blk_drewN ?_ _ | refine blk_drew ?_ | refine blk_alloc ?_ _)); refine blk_put (cs := #[.int .i64 0, .int .i64 0]) ?_ 0 _ rfl; (with_reducible repeat (first | refine blk_drewN ?_ _ | refine blk_drew ?_ | refine blk_alloc ?_ _)); exact BK161.out⟩
              have n3_ : Aside0 (((((w17.setCell ⟨gb161, 0, none⟩ (.int .i64 t157)).setCell ⟨gb161, 1, none⟩ (.int .i64 t158)).setCell ⟨gb162, 0, none⟩ (.int .i64 t159)).setCell ⟨gb162, 1, none⟩ (.int .i64 t160)).heap[gb162]? = some (.cells #[.int .i64 t159, .int .i64 t160] 31 (0, 0))) := ⟨by (with_reducible repeat (first | refine blk_drewN ?_ _ | refine blk_drew ?_ | refine blk_alloc ?_ _)); refine blk_put (cs := #[.int .i64 t159, .int .i64 0]) ?_ 1 _ rfl; (with_reducible repeat (first | refine blk_drewN ?_ _ | refine blk_drew ?_ | refine blk_alloc ?_ _)); refine blk_put (cs := #[.int .i64 0, .int .i64 0]) ?_ 0 _ rfl; (with_reducible repeat (first | refine blk_drewN ?_ _ | refine blk_drew ?_ | refine blk_alloc ?_ _)); refine blk_far ?_ NB162_161.out _; (with_reducible repeat (first | refine blk_drewN ?_ _ | refine blk_drew ?_ | refine blk_alloc ?_ _)); refine blk_far ?_ NB162_161.out _; (with_reducible repeat (first | refine blk_drewN ?_ _ | refine blk_drew ?_ | refine blk_alloc ?_ _)); exact BK162.out⟩
              have n4_ : Aside0 (Below w.heap.size w ((((w17.setCell ⟨gb161, 0, none⟩ (.int .i64 t157)).setCell ⟨gb161, 1, none⟩ (.int .i64 t158)).setCell ⟨gb162, 0, none⟩ (.int .i64 t159)).setCell ⟨gb162, 1, none⟩ (.int .i64 t160))) := ⟨by repeat (first | (with_reducible first | exact HB.out | apply below_alloc | apply pw_below_drewN | apply below_drew1 | refine below_set ?_ GE155.out | refine below_set ?_ GE156.out | refine below_set ?_ GE161.out | refine below_set ?_ GE162.out) | exact HB.out)⟩
              (try clear BK155)
              (try clear BK156)
              (try clear BK161)
              (try clear BK162)
              (try clear HB)
              generalize ((((w17.setCell ⟨gb161, 0, none⟩ (.int .i64 t157)).setCell ⟨gb161, 1, none⟩ (.int .i64 t158)).setCell ⟨gb162, 0, none⟩ (.int .i64 t159)).setCell ⟨gb162, 1, none⟩ (.int .i64 t160)) = w35 at n0_ n1_ n2_ n3_ n4_ ⊢
              have BK155 := n0_
              have BK156 := n1_
              have BK161 := n2_
              have BK162 := n3_
              have HB := n4_
              clear n0_ n1_ n2_ n3_ n4_
              have n0_ := Aside0.mk (blk_drew BK155.out)
              have n1_ := Aside0.mk (blk_drew BK156.out)
              have n2_ := Aside0.mk (blk_drew BK161.out)
              have n3_ := Aside0.mk (blk_drew BK162.out)
              have n4_ := Aside0.mk (below_drew1 HB.out)
              clear BK155
              clear BK156
              clear BK161
              clear BK162
              clear HB
              have BK155 := n0_
              have BK156 := n1_
              have BK161 := n2_
              have BK162 := n3_
              have HB := n4_
              clear n0_ n1_ n2_ n3_ n4_
              refine start_ (n := 21) (S := fun w' => w'.cell? ⟨gb155, 0, none⟩ = some (.int .i64 t151) ∧ w'.cell? ⟨gb155, 1, none⟩ = some (.int .i64 t152) ∧ w'.cell? ⟨gb156, 0, none⟩ = some (.int .i64 t153) ∧ w'.cell? ⟨gb156, 1, none⟩ = some (.int .i64 t154)) (ds := []) #[false, false, false, false, false, false, false, false, false, false, false, false, false, false, false, false, false, false, false, false, false] (by kernel_rfl) rfl rfl ⟨(blk_cell BK155.out 0).trans rfl, (blk_cell BK155.out 1).trans rfl, (blk_cell BK156.out 0).trans rfl, (blk_cell BK156.out 1).trans rfl⟩ (fun hHeld => ?_); refine with_tabW laws_FnBrdBeats.tab5 laws_FnBrdBeats.bits5 (fun HT_ HW_ => ?_)
              generalize w35.drew = w36 at BK155 BK156 BK161 BK162 HB hHeld ⊢
              refine take_ (i := 0) (N := some 27) (v := ?_) (a' := ?_) #[true, false, false, false, false, false, false, false, false, false, false, false, false, false, false, false, false, false, false, false, false] rfl rfl (take_ofW HT_.out HW_.out (by kernel_rfl)) (fun _ _ _ h => h) (Or.inl ⟨by rfl, ?_⟩) hHeld ?_ ?_
              rotate_left
              · rintro w' ⟨s0, s1, s2, s3⟩
                go_simp
                with_reducible rfl
              rotate_left
              · simp only [Act.put, List.setIfInBounds_toArray, List.set_cons_zero, List.set_cons_succ, i64_w, i32_w]
                rfl
              refine take_ (i := 1) (N := some 28) (v := ?_) (a' := ?_) #[true, true, false, false, false, false, false, false, false, false, false, false, false, false, false, false, false, false, false, false, false] rfl rfl (take_ofW HT_.out HW_.out (by kernel_rfl)) (fun _ _ _ h => h) (Or.inl ⟨by rfl, ?_⟩) hHeld ?_ ?_
              rotate_left
              · rintro w' ⟨s0, s1, s2, s3⟩
                go_simp
                with_reducible rfl
              rotate_left
              · simp only [Act.put, List.setIfInBounds_toArray, List.set_cons_zero, List.set_cons_succ, i64_w, i32_w]
                rfl
              refine take_ (i := 3) (N := some 30) (v := ?_) (a' := ?_) #[true, true, false, true, false, false, false, false, false, false, false, false, false, false, false, false, false, false, false, false, false] rfl rfl (take_ofW HT_.out HW_.out (by kernel_rfl)) (fun _ _ _ h => h) (Or.inl ⟨by rfl, ?_⟩) hHeld ?_ ?_
              rotate_left
              · rintro w' ⟨s0, s1, s2, s3⟩
                go_simp
                with_reducible rfl
              rotate_left
              · simp only [Act.put, List.setIfInBounds_toArray, List.set_cons_zero, List.set_cons_succ, i64_w, i32_w]
                rfl
              refine take_ (i := 4) (N := some 31) (v := ?_) (a' := ?_) #[true, true, false, true, true, false, false, false, false, false, false, false, false, false, false, false, false, false, false, false, false] rfl rfl (take_ofW HT_.out HW_.out (by kernel_rfl)) (fun _ _ _ h => h) (Or.inl ⟨by rfl, ?_⟩) hHeld ?_ ?_
              rotate_left
              · rintro w' ⟨s0, s1, s2, s3⟩
                go_simp
                with_reducible rfl
              rotate_left
              · simp only [Act.put, List.setIfInBounds_toArray, List.set_cons_zero, List.set_cons_succ, i64_w, i32_w]
                rfl
              refine one_ (i := 2) (N := some 29) #[true, true, true, true, true, false, false, false, false, false, false, false, false, false, false, false, false, false, false, false, false] rfl rfl (one_of HT_.out (by kernel_rfl)) (by decide) (fun K hK => ?_)
              refine goes_ Try.func20 (by kernel_rfl) rfl #[.agg #[.int .i64 t151, .int .i64 t152], .agg #[.int .i64 t153, .int .i64 t154]] (by rfl) rfl rfl (by (try simp only [List.map_toArray, List.map_cons, List.map_nil]); first | done | rfl | (simp only [List.length_drop, List.length_take]; rfl)) ?_
              with_reducible refine (impl_BrdBeats.calls kj2 t151 t152 t153 t154 t163 _ A25.out).mono ?_
              rintro e w37 ⟨rfl, hb⟩
              refine ⟨_, rfl, ?_⟩
              have n0_ := Aside0.mk (blk_below (g := gb155) (o := .cells #[.int .i64 t151, .int .i64 t152] 31 (0, 0)) (by (with_reducible repeat (first | refine blk_drewN ?_ _ | refine blk_drew ?_ | refine blk_alloc ?_ _)); exact BK155.out) hb)
              have n1_ := Aside0.mk (blk_below (g := gb156) (o := .cells #[.int .i64 t153, .int .i64 t154] 31 (0, 0)) (by (with_reducible repeat (first | refine blk_drewN ?_ _ | refine blk_drew ?_ | refine blk_alloc ?_ _)); exact BK156.out) hb)
              have n2_ := Aside0.mk (blk_below (g := gb161) (o := .cells #[.int .i64 t157, .int .i64 t158] 31 (0, 0)) (by (with_reducible repeat (first | refine blk_drewN ?_ _ | refine blk_drew ?_ | refine blk_alloc ?_ _)); exact BK161.out) hb)
              have n3_ := Aside0.mk (blk_below (g := gb162) (o := .cells #[.int .i64 t159, .int .i64 t160] 31 (0, 0)) (by (with_reducible repeat (first | refine blk_drewN ?_ _ | refine blk_drew ?_ | refine blk_alloc ?_ _)); exact BK162.out) hb)
              have n4_ := Aside0.mk (below_step (by repeat (first | (with_reducible first | exact HB.out | apply below_alloc | apply pw_below_drewN | apply below_drew1 | refine below_set ?_ GE155.out | refine below_set ?_ GE156.out | refine below_set ?_ GE161.out | refine below_set ?_ GE162.out) | exact HB.out)) hb)
              clear BK155
              clear BK156
              clear BK161
              clear BK162
              clear HB
              have BK155 := n0_
              have BK156 := n1_
              have BK161 := n2_
              have BK162 := n3_
              have HB := n4_
              clear n0_ n1_ n2_ n3_ n4_
              (try clear hb)
              (try clear hb2)
              (try clear hk)
              (try clear hi)
              refine hK.out _ _ ⟨(blk_cell BK155.out 0).trans rfl, (blk_cell BK155.out 1).trans rfl, (blk_cell BK156.out 0).trans rfl, (blk_cell BK156.out 1).trans rfl⟩ (fun hHeld => ?_)
              clear hK K
              refine norm_ (a' := ?_) ?_ ?_
              rotate_left
              · show Act.put _ (some 29) _ = _
                simp only [Act.put, List.setIfInBounds_toArray, List.set_cons_zero, List.set_cons_succ, i64_w, i32_w]
                rfl
              refine one_ (i := 5) (N := some 32) #[true, true, true, true, true, true, false, false, false, false, false, false, false, false, false, false, false, false, false, false, false] rfl rfl (one_of HT_.out (by kernel_rfl)) (by decide) (fun K hK => ?_)
              refine goes_ Try.func18 (by kernel_rfl) rfl #[.agg #[.int .i64 t151, .int .i64 t152], .agg #[.int .i64 t153, .int .i64 t154]] (by rfl) rfl rfl (by (try simp only [List.map_toArray, List.map_cons, List.map_nil]); first | done | rfl | (simp only [List.length_drop, List.length_take]; rfl)) ?_
              with_reducible refine (spec_BrdBeats.calls kj2 t151 t152 t153 t154 t164 _ A26.out).mono ?_
              rintro e w38 ⟨rfl, hb⟩
              refine ⟨_, rfl, ?_⟩
              have n0_ := Aside0.mk (blk_below (g := gb155) (o := .cells #[.int .i64 t151, .int .i64 t152] 31 (0, 0)) (by (with_reducible repeat (first | refine blk_drewN ?_ _ | refine blk_drew ?_ | refine blk_alloc ?_ _)); exact BK155.out) hb)
              have n1_ := Aside0.mk (blk_below (g := gb156) (o := .cells #[.int .i64 t153, .int .i64 t154] 31 (0, 0)) (by (with_reducible repeat (first | refine blk_drewN ?_ _ | refine blk_drew ?_ | refine blk_alloc ?_ _)); exact BK156.out) hb)
              have n2_ := Aside0.mk (blk_below (g := gb161) (o := .cells #[.int .i64 t157, .int .i64 t158] 31 (0, 0)) (by (with_reducible repeat (first | refine blk_drewN ?_ _ | refine blk_drew ?_ | refine blk_alloc ?_ _)); exact BK161.out) hb)
              have n3_ := Aside0.mk (blk_below (g := gb162) (o := .cells #[.int .i64 t159, .int .i64 t160] 31 (0, 0)) (by (with_reducible repeat (first | refine blk_drewN ?_ _ | refine blk_drew ?_ | refine blk_alloc ?_ _)); exact BK162.out) hb)
              have n4_ := Aside0.mk (below_step (by repeat (first | (with_reducible first | exact HB.out | apply below_alloc | apply pw_below_drewN | apply below_drew1 | refine below_set ?_ GE155.out | refine below_set ?_ GE156.out | refine below_set ?_ GE161.out | refine below_set ?_ GE162.out) | exact HB.out)) hb)
              clear BK155
              clear BK156
              clear BK161
              clear BK162
              clear HB
              have BK155 := n0_
              have BK156 := n1_
              have BK161 := n2_
              have BK162 := n3_
              have HB := n4_
              clear n0_ n1_ n2_ n3_ n4_
              (try clear hb)
              (try clear hb2)
              (try clear hk)
              (try clear hi)
              refine hK.out _ _ ⟨(blk_cell BK155.out 0).trans rfl, (blk_cell BK155.out 1).trans rfl, (blk_cell BK156.out 0).trans rfl, (blk_cell BK156.out 1).trans rfl⟩ (fun hHeld => ?_)
              clear hK K
              refine norm_ (a' := ?_) ?_ ?_
              rotate_left
              · show Act.put _ (some 32) _ = _
                simp only [Act.put, List.setIfInBounds_toArray, List.set_cons_zero, List.set_cons_succ, i64_w, i32_w]
                rfl
              refine pure_ (i := 6) (N := some 33) (v := ?_) (a' := ?_) #[true, true, true, true, true, true, true, false, false, false, false, false, false, false, false, false, false, false, false, false, false] rfl rfl (any_of HT_.out (by kernel_rfl)) (fun _ _ _ h => h) (Or.inl ⟨by rfl, ?_⟩) ?_ ?_
              rotate_left
              · intro w'
                go_simp
                with_reducible rfl
              rotate_left
              · simp only [Act.put, List.setIfInBounds_toArray, List.set_cons_zero, List.set_cons_succ, i64_w, i32_w]
                rfl
              refine pure_ (i := 7) (N := some 34) (v := ?_) (a' := ?_) #[true, true, true, true, true, true, true, true, false, false, false, false, false, false, false, false, false, false, false, false, false] rfl rfl (any_of HT_.out (by kernel_rfl)) (fun _ _ _ h => h) (Or.inl ⟨by rfl, ?_⟩) ?_ ?_
              rotate_left
              · intro w'
                go_simp
                with_reducible rfl
              rotate_left
              · simp only [Act.put, List.setIfInBounds_toArray, List.set_cons_zero, List.set_cons_succ, i64_w, i32_w]
                rfl
              refine take_ (i := 8) (N := some 35) (v := ?_) (a' := ?_) #[true, true, true, true, true, true, true, true, true, false, false, false, false, false, false, false, false, false, false, false, false] rfl rfl (take_ofW HT_.out HW_.out (by kernel_rfl)) (fun _ _ _ h => h) (Or.inl ⟨by rfl, ?_⟩) hHeld ?_ ?_
              rotate_left
              · rintro w' ⟨s0, s1, s2, s3⟩
                go_simp
                with_reducible rfl
              rotate_left
              · simp only [Act.put, List.setIfInBounds_toArray, List.set_cons_zero, List.set_cons_succ, i64_w, i32_w]
                rfl
              refine take_ (i := 9) (N := some 36) (v := ?_) (a' := ?_) #[true, true, true, true, true, true, true, true, true, true, false, false, false, false, false, false, false, false, false, false, false] rfl rfl (take_ofW HT_.out HW_.out (by kernel_rfl)) (fun _ _ _ h => h) (Or.inl ⟨by rfl, ?_⟩) hHeld ?_ ?_
              rotate_left
              · rintro w' ⟨s0, s1, s2, s3⟩
                go_simp
                with_reducible rfl
              rotate_left
              · simp only [Act.put, List.setIfInBounds_toArray, List.set_cons_zero, List.set_cons_succ, i64_w, i32_w]
                rfl
              refine take_ (i := 11) (N := some 38) (v := ?_) (a' := ?_) #[true, true, true, true, true, true, true, true, true, true, false, true, false, false, false, false, false, false, false, false, false] rfl rfl (take_ofW HT_.out HW_.out (by kernel_rfl)) (fun _ _ _ h => h) (Or.inl ⟨by rfl, ?_⟩) hHeld ?_ ?_
              rotate_left
              · rintro w' ⟨s0, s1, s2, s3⟩
                go_simp
                with_reducible rfl
              rotate_left
              · simp only [Act.put, List.setIfInBounds_toArray, List.set_cons_zero, List.set_cons_succ, i64_w, i32_w]
                rfl
              refine take_ (i := 12) (N := some 39) (v := ?_) (a' := ?_) #[true, true, true, true, true, true, true, true, true, true, false, true, true, false, false, false, false, false, false, false, false] rfl rfl (take_ofW HT_.out HW_.out (by kernel_rfl)) (fun _ _ _ h => h) (Or.inl ⟨by rfl, ?_⟩) hHeld ?_ ?_
              rotate_left
              · rintro w' ⟨s0, s1, s2, s3⟩
                go_simp
                with_reducible rfl
              rotate_left
              · simp only [Act.put, List.setIfInBounds_toArray, List.set_cons_zero, List.set_cons_succ, i64_w, i32_w]
                rfl
              refine one_ (i := 10) (N := some 37) #[true, true, true, true, true, true, true, true, true, true, true, true, true, false, false, false, false, false, false, false, false] rfl rfl (one_of HT_.out (by kernel_rfl)) (by decide) (fun K hK => ?_)
              refine goes_ Try.func20 (by kernel_rfl) rfl #[.agg #[.int .i64 t153, .int .i64 t154], .agg #[.int .i64 t151, .int .i64 t152]] (by rfl) rfl rfl (by (try simp only [List.map_toArray, List.map_cons, List.map_nil]); first | done | rfl | (simp only [List.length_drop, List.length_take]; rfl)) ?_
              with_reducible refine (impl_BrdBeats.calls kj2 t153 t154 t151 t152 t165 _ A32.out).mono ?_
              rintro e w39 ⟨rfl, hb⟩
              refine ⟨_, rfl, ?_⟩
              have n0_ := Aside0.mk (blk_below (g := gb155) (o := .cells #[.int .i64 t151, .int .i64 t152] 31 (0, 0)) (by (with_reducible repeat (first | refine blk_drewN ?_ _ | refine blk_drew ?_ | refine blk_alloc ?_ _)); exact BK155.out) hb)
              have n1_ := Aside0.mk (blk_below (g := gb156) (o := .cells #[.int .i64 t153, .int .i64 t154] 31 (0, 0)) (by (with_reducible repeat (first | refine blk_drewN ?_ _ | refine blk_drew ?_ | refine blk_alloc ?_ _)); exact BK156.out) hb)
              have n2_ := Aside0.mk (blk_below (g := gb161) (o := .cells #[.int .i64 t157, .int .i64 t158] 31 (0, 0)) (by (with_reducible repeat (first | refine blk_drewN ?_ _ | refine blk_drew ?_ | refine blk_alloc ?_ _)); exact BK161.out) hb)
              have n3_ := Aside0.mk (blk_below (g := gb162) (o := .cells #[.int .i64 t159, .int .i64 t160] 31 (0, 0)) (by (with_reducible repeat (first | refine blk_drewN ?_ _ | refine blk_drew ?_ | refine blk_alloc ?_ _)); exact BK162.out) hb)
              have n4_ := Aside0.mk (below_step (by repeat (first | (with_reducible first | exact HB.out | apply below_alloc | apply pw_below_drewN | apply below_drew1 | refine below_set ?_ GE155.out | refine below_set ?_ GE156.out | refine below_set ?_ GE161.out | refine below_set ?_ GE162.out) | exact HB.out)) hb)
              clear BK155
              clear BK156
              clear BK161
              clear BK162
              clear HB
              have BK155 := n0_
              have BK156 := n1_
              have BK161 := n2_
              have BK162 := n3_
              have HB := n4_
              clear n0_ n1_ n2_ n3_ n4_
              (try clear hb)
              (try clear hb2)
              (try clear hk)
              (try clear hi)
              refine hK.out _ _ ⟨(blk_cell BK155.out 0).trans rfl, (blk_cell BK155.out 1).trans rfl, (blk_cell BK156.out 0).trans rfl, (blk_cell BK156.out 1).trans rfl⟩ (fun hHeld => ?_)
              clear hK K
              refine norm_ (a' := ?_) ?_ ?_
              rotate_left
              · show Act.put _ (some 37) _ = _
                simp only [Act.put, List.setIfInBounds_toArray, List.set_cons_zero, List.set_cons_succ, i64_w, i32_w]
                rfl
              refine one_ (i := 13) (N := some 40) #[true, true, true, true, true, true, true, true, true, true, true, true, true, true, false, false, false, false, false, false, false] rfl rfl (one_of HT_.out (by kernel_rfl)) (by decide) (fun K hK => ?_)
              refine goes_ Try.func18 (by kernel_rfl) rfl #[.agg #[.int .i64 t153, .int .i64 t154], .agg #[.int .i64 t151, .int .i64 t152]] (by rfl) rfl rfl (by (try simp only [List.map_toArray, List.map_cons, List.map_nil]); first | done | rfl | (simp only [List.length_drop, List.length_take]; rfl)) ?_
              with_reducible refine (spec_BrdBeats.calls kj2 t153 t154 t151 t152 t166 _ A33.out).mono ?_
              rintro e w40 ⟨rfl, hb⟩
              refine ⟨_, rfl, ?_⟩
              have n0_ := Aside0.mk (blk_below (g := gb155) (o := .cells #[.int .i64 t151, .int .i64 t152] 31 (0, 0)) (by (with_reducible repeat (first | refine blk_drewN ?_ _ | refine blk_drew ?_ | refine blk_alloc ?_ _)); exact BK155.out) hb)
              have n1_ := Aside0.mk (blk_below (g := gb156) (o := .cells #[.int .i64 t153, .int .i64 t154] 31 (0, 0)) (by (with_reducible repeat (first | refine blk_drewN ?_ _ | refine blk_drew ?_ | refine blk_alloc ?_ _)); exact BK156.out) hb)
              have n2_ := Aside0.mk (blk_below (g := gb161) (o := .cells #[.int .i64 t157, .int .i64 t158] 31 (0, 0)) (by (with_reducible repeat (first | refine blk_drewN ?_ _ | refine blk_drew ?_ | refine blk_alloc ?_ _)); exact BK161.out) hb)
              have n3_ := Aside0.mk (blk_below (g := gb162) (o := .cells #[.int .i64 t159, .int .i64 t160] 31 (0, 0)) (by (with_reducible repeat (first | refine blk_drewN ?_ _ | refine blk_drew ?_ | refine blk_alloc ?_ _)); exact BK162.out) hb)
              have n4_ := Aside0.mk (below_step (by repeat (first | (with_reducible first | exact HB.out | apply below_alloc | apply pw_below_drewN | apply below_drew1 | refine below_set ?_ GE155.out | refine below_set ?_ GE156.out | refine below_set ?_ GE161.out | refine below_set ?_ GE162.out) | exact HB.out)) hb)
              clear BK155
              clear BK156
              clear BK161
              clear BK162
              clear HB
              have BK155 := n0_
              have BK156 := n1_
              have BK161 := n2_
              have BK162 := n3_
              have HB := n4_
              clear n0_ n1_ n2_ n3_ n4_
              (try clear hb)
              (try clear hb2)
              (try clear hk)
              (try clear hi)
              refine hK.out _ _ ⟨(blk_cell BK155.out 0).trans rfl, (blk_cell BK155.out 1).trans rfl, (blk_cell BK156.out 0).trans rfl, (blk_cell BK156.out 1).trans rfl⟩ (fun hHeld => ?_)
              clear hK K
              refine norm_ (a' := ?_) ?_ ?_
              rotate_left
              · show Act.put _ (some 40) _ = _
                simp only [Act.put, List.setIfInBounds_toArray, List.set_cons_zero, List.set_cons_succ, i64_w, i32_w]
                rfl
              refine pure_ (i := 14) (N := some 41) (v := ?_) (a' := ?_) #[true, true, true, true, true, true, true, true, true, true, true, true, true, true, true, false, false, false, false, false, false] rfl rfl (any_of HT_.out (by kernel_rfl)) (fun _ _ _ h => h) (Or.inl ⟨by rfl, ?_⟩) ?_ ?_
              rotate_left
              · intro w'
                go_simp
                with_reducible rfl
              rotate_left
              · simp only [Act.put, List.setIfInBounds_toArray, List.set_cons_zero, List.set_cons_succ, i64_w, i32_w]
                rfl
              refine pure_ (i := 15) (N := some 42) (v := ?_) (a' := ?_) #[true, true, true, true, true, true, true, true, true, true, true, true, true, true, true, true, false, false, false, false, false] rfl rfl (any_of HT_.out (by kernel_rfl)) (fun _ _ _ h => h) (Or.inl ⟨by rfl, ?_⟩) ?_ ?_
              rotate_left
              · intro w'
                go_simp
                with_reducible rfl
              rotate_left
              · simp only [Act.put, List.setIfInBounds_toArray, List.set_cons_zero, List.set_cons_succ, i64_w, i32_w]
                rfl
              refine pure_ (i := 16) (N := some 43) (v := ?_) (a' := ?_) #[true, true, true, true, true, true, true, true, true, true, true, true, true, true, true, true, true, false, false, false, false] rfl rfl (any_of HT_.out (by kernel_rfl)) (fun _ _ _ h => h) (Or.inl ⟨by rfl, ?_⟩) ?_ ?_
              rotate_left
              · intro w'
                go_simp
                with_reducible rfl
              rotate_left
              · simp only [Act.put, List.setIfInBounds_toArray, List.set_cons_zero, List.set_cons_succ, i64_w, i32_w]
                rfl
              refine pure_ (i := 17) (N := some 44) (v := undef) (a' := ?_) #[true, true, true, true, true, true, true, true, true, true, true, true, true, true, true, true, true, true, false, false, false] rfl rfl (any_of HT_.out (by kernel_rfl)) (fun _ _ _ h => h) (Or.inr ⟨by rfl, rfl⟩) ?_ ?_
              rotate_left
              · simp only [Act.put, List.setIfInBounds_toArray, List.set_cons_zero, List.set_cons_succ, i64_w, i32_w]
                rfl
              refine pure_ (i := 18) (N := some 45) (v := undef) (a' := ?_) #[true, true, true, true, true, true, true, true, true, true, true, true, true, true, true, true, true, true, true, false, false] rfl rfl (any_of HT_.out (by kernel_rfl)) (fun _ _ _ h => h) (Or.inr ⟨by rfl, rfl⟩) ?_ ?_
              rotate_left
              · simp only [Act.put, List.setIfInBounds_toArray, List.set_cons_zero, List.set_cons_succ, i64_w, i32_w]
                rfl
              refine pure_ (i := 19) (N := some 46) (v := undef) (a' := ?_) #[true, true, true, true, true, true, true, true, true, true, true, true, true, true, true, true, true, true, true, true, false] rfl rfl (any_of HT_.out (by kernel_rfl)) (fun _ _ _ h => h) (Or.inr ⟨by rfl, rfl⟩) ?_ ?_
              rotate_left
              · simp only [Act.put, List.setIfInBounds_toArray, List.set_cons_zero, List.set_cons_succ, i64_w, i32_w]
                rfl
              refine pure_ (i := 20) (N := some 47) (v := ?_) (a' := ?_) #[true, true, true, true, true, true, true, true, true, true, true, true, true, true, true, true, true, true, true, true, true] rfl rfl (any_of HT_.out (by kernel_rfl)) (fun _ _ _ h => h) (Or.inl ⟨by rfl, ?_⟩) ?_ ?_
              rotate_left
              · intro w'
                go_simp
                with_reducible rfl
              rotate_left
              · simp only [Act.put, List.setIfInBounds_toArray, List.set_cons_zero, List.set_cons_succ, i64_w, i32_w]
                rfl
              refine done_ (done_of HT_.out (by kernel_rfl)) ?_
              try go_wp2
              go_meet
              case rel => exact ⟨_, (true), (by first | rfl | (simp; done) | (simp [*]; done)), H', ⟨by have := HJ2.out; first | omega | exact Nat.le_refl _⟩, ⟨by (with_reducible repeat (first | refine blk_drewN ?_ _ | refine blk_drew ?_ | refine blk_alloc ?_ _)); exact BK155.out⟩, ⟨by (with_reducible repeat (first | refine blk_drewN ?_ _ | refine blk_drew ?_ | refine blk_alloc ?_ _)); exact BK156.out⟩, ⟨by (with_reducible repeat (first | refine blk_drewN ?_ _ | refine blk_drew ?_ | refine blk_alloc ?_ _)); exact BK161.out⟩, ⟨by (with_reducible repeat (first | refine blk_drewN ?_ _ | refine blk_drew ?_ | refine blk_alloc ?_ _)); exact BK162.out⟩, ⟨by repeat (first | (with_reducible first | exact HB.out | apply below_alloc | apply pw_below_drewN | apply below_drew1 | refine below_set ?_ GE155.out | refine below_set ?_ GE156.out | refine below_set ?_ GE161.out | refine below_set ?_ GE162.out) | exact HB.out)⟩⟩
            · rw [if_neg c34] at H
              have c34b0 : (t165 != t166) = false := by simpa using c34
              (try (have c34b1 : decide (t165 = t166) = true := by simpa using c34))
              (try (have c34b2 : (t165 == t166) = true := by simpa using c34))
              clear c34
              replace H := Option.bind_eq_some_iff.mp H
              obtain ⟨t167, A410, H⟩ := H
              replace H : (laws_FnBrdBeats.j1 kj2 t167 t151 t152 t153 t154 t157 t158) = some r := H
              have A41 := Aside0.mk A410
              clear A410
              have H' := Aside0.mk H
              clear H
              try go_wp2
              have n0_ : Aside0 (((((w17.setCell ⟨gb161, 0, none⟩ (.int .i64 t157)).setCell ⟨gb161, 1, none⟩ (.int .i64 t158)).setCell ⟨gb162, 0, none⟩ (.int .i64 t159)).setCell ⟨gb162, 1, none⟩ (.int .i64 t160)).heap[gb155]? = some (.cells #[.int .i64 t151, .int .i64 t152] 31 (0, 0))) := ⟨by (with_reducible repeat (first | refine blk_drewN ?_ _ | refine blk_drew ?_ | refine blk_alloc ?_ _)); refine blk_far ?_ NB155_162.out _; (with_reducible repeat (first | refine blk_drewN ?_ _ | refine blk_drew ?_ | refine blk_alloc ?_ _)); refine blk_far ?_ NB155_162.out _; (with_reducible repeat (first | refine blk_drewN ?_ _ | refine blk_drew ?_ | refine blk_alloc ?_ _)); refine blk_far ?_ NB155_161.out _; (with_reducible repeat (first | refine blk_drewN ?_ _ | refine blk_drew ?_ | refine blk_alloc ?_ _)); refine blk_far ?_ NB155_161.out _; (with_reducible repeat (first | refine blk_drewN ?_ _ | refine blk_drew ?_ | refine blk_alloc ?_ _)); exact BK155.out⟩
              have n1_ : Aside0 (((((w17.setCell ⟨gb161, 0, none⟩ (.int .i64 t157)).setCell ⟨gb161, 1, none⟩ (.int .i64 t158)).setCell ⟨gb162, 0, none⟩ (.int .i64 t159)).setCell ⟨gb162, 1, none⟩ (.int .i64 t160)).heap[gb156]? = some (.cells #[.int .i64 t153, .int .i64 t154] 31 (0, 0))) := ⟨by (with_reducible repeat (first | refine blk_drewN ?_ _ | refine blk_drew ?_ | refine blk_alloc ?_ _)); refine blk_far ?_ NB156_162.out _; (with_reducible repeat (first | refine blk_drewN ?_ _ | refine blk_drew ?_ | refine blk_alloc ?_ _)); refine blk_far ?_ NB156_162.out _; (with_reducible repeat (first | refine blk_drewN ?_ _ | refine blk_drew ?_ | refine blk_alloc ?_ _)); refine blk_far ?_ NB156_161.out _; (with_reducible repeat (first | refine blk_drewN ?_ _ | refine blk_drew ?_ | refine blk_alloc ?_ _)); refine blk_far ?_ NB156_161.out _; (with_reducible repeat (first | refine blk_drewN ?_ _ | refine blk_drew ?_ | refine blk_alloc ?_ _)); exact BK156.out⟩
              have n2_ : Aside0 (((((w17.setCell ⟨gb161, 0, none⟩ (.int .i64 t157)).setCell ⟨gb161, 1, none⟩ (.int .i64 t158)).setCell ⟨gb162, 0, none⟩ (.int .i64 t159)).setCell ⟨gb162, 1, none⟩ (.int .i64 t160)).heap[gb161]? = some (.cells #[.int .i64 t157, .int .i64 t158] 31 (0, 0))) := ⟨by (with_reducible repeat (first | refine blk_drewN ?_ _ | refine blk_drew ?_ | refine blk_alloc ?_ _)); refine blk_far ?_ NB161_162.out _; (with_reducible repeat (first | refine blk_drewN ?_ _ | refine blk_drew ?_ | refine blk_alloc ?_ _)); refine blk_far ?_ NB161_162.out _; (with_reducible repeat (first | refine blk_drewN ?_ _ | refine blk_drew ?_ | refine blk_alloc ?_ _)); refine blk_put (cs := #[.int .i64 t157, .int .i64 0]) ?_ 1 _ rfl; (with_reducible repeat (first | refine blk_drewN ?_ _ | refine blk_drew ?_ | refine blk_alloc ?_ _)); refine blk_put (cs := #[.int .i64 0, .int .i64 0]) ?_ 0 _ rfl; (with_reducible repeat (first | refine blk_drewN ?_ _ | refine blk_drew ?_ | refine blk_alloc ?_ _)); exact BK161.out⟩
              have n3_ : Aside0 (((((w17.setCell ⟨gb161, 0, none⟩ (.int .i64 t157)).setCell ⟨gb161, 1, none⟩ (.int .i64 t158)).setCell ⟨gb162, 0, none⟩ (.int .i64 t159)).setCell ⟨gb162, 1, none⟩ (.int .i64 t160)).heap[gb162]? = some (.cells #[.int .i64 t159, .int .i64 t160] 31 (0, 0))) := ⟨by (with_reducible repeat (first | refine blk_drewN ?_ _ | refine blk_drew ?_ | refine blk_alloc ?_ _)); refine blk_put (cs := #[.int .i64 t159, .int .i64 0]) ?_ 1 _ rfl; (with_reducible repeat (first | refine blk_drewN ?_ _ | refine blk_drew ?_ | refine blk_alloc ?_ _)); refine blk_put (cs := #[.int .i64 0, .int .i64 0]) ?_ 0 _ rfl; (with_reducible repeat (first | refine blk_drewN ?_ _ | refine blk_drew ?_ | refine blk_alloc ?_ _)); refine blk_far ?_ NB162_161.out _; (with_reducible repeat (first | refine blk_drewN ?_ _ | refine blk_drew ?_ | refine blk_alloc ?_ _)); refine blk_far ?_ NB162_161.out _; (with_reducible repeat (first | refine blk_drewN ?_ _ | refine blk_drew ?_ | refine blk_alloc ?_ _)); exact BK162.out⟩
              have n4_ : Aside0 (Below w.heap.size w ((((w17.setCell ⟨gb161, 0, none⟩ (.int .i64 t157)).setCell ⟨gb161, 1, none⟩ (.int .i64 t158)).setCell ⟨gb162, 0, none⟩ (.int .i64 t159)).setCell ⟨gb162, 1, none⟩ (.int .i64 t160))) := ⟨by repeat (first | (with_reducible first | exact HB.out | apply below_alloc | apply pw_below_drewN | apply below_drew1 | refine below_set ?_ GE155.out | refine below_set ?_ GE156.out | refine below_set ?_ GE161.out | refine below_set ?_ GE162.out) | exact HB.out)⟩
              (try clear BK155)
              (try clear BK156)
              (try clear BK161)
              (try clear BK162)
              (try clear HB)
              generalize ((((w17.setCell ⟨gb161, 0, none⟩ (.int .i64 t157)).setCell ⟨gb161, 1, none⟩ (.int .i64 t158)).setCell ⟨gb162, 0, none⟩ (.int .i64 t159)).setCell ⟨gb162, 1, none⟩ (.int .i64 t160)) = w42 at n0_ n1_ n2_ n3_ n4_ ⊢
              have BK155 := n0_
              have BK156 := n1_
              have BK161 := n2_
              have BK162 := n3_
              have HB := n4_
              clear n0_ n1_ n2_ n3_ n4_
              have n0_ := Aside0.mk (blk_drew BK155.out)
              have n1_ := Aside0.mk (blk_drew BK156.out)
              have n2_ := Aside0.mk (blk_drew BK161.out)
              have n3_ := Aside0.mk (blk_drew BK162.out)
              have n4_ := Aside0.mk (below_drew1 HB.out)
              clear BK155
              clear BK156
              clear BK161
              clear BK162
              clear HB
              have BK155 := n0_
              have BK156 := n1_
              have BK161 := n2_
              have BK162 := n3_
              have HB := n4_
              clear n0_ n1_ n2_ n3_ n4_
              refine start_ (n := 21) (S := fun w' => w'.cell? ⟨gb155, 0, none⟩ = some (.int .i64 t151) ∧ w'.cell? ⟨gb155, 1, none⟩ = some (.int .i64 t152) ∧ w'.cell? ⟨gb156, 0, none⟩ = some (.int .i64 t153) ∧ w'.cell? ⟨gb156, 1, none⟩ = some (.int .i64 t154)) (ds := []) #[false, false, false, false, false, false, false, false, false, false, false, false, false, false, false, false, false, false, false, false, false] (by kernel_rfl) rfl rfl ⟨(blk_cell BK155.out 0).trans rfl, (blk_cell BK155.out 1).trans rfl, (blk_cell BK156.out 0).trans rfl, (blk_cell BK156.out 1).trans rfl⟩ (fun hHeld => ?_); refine with_tabW laws_FnBrdBeats.tab5 laws_FnBrdBeats.bits5 (fun HT_ HW_ => ?_)
              generalize w42.drew = w43 at BK155 BK156 BK161 BK162 HB hHeld ⊢
              refine take_ (i := 0) (N := some 27) (v := ?_) (a' := ?_) #[true, false, false, false, false, false, false, false, false, false, false, false, false, false, false, false, false, false, false, false, false] rfl rfl (take_ofW HT_.out HW_.out (by kernel_rfl)) (fun _ _ _ h => h) (Or.inl ⟨by rfl, ?_⟩) hHeld ?_ ?_
              rotate_left
              · rintro w' ⟨s0, s1, s2, s3⟩
                go_simp
                with_reducible rfl
              rotate_left
              · simp only [Act.put, List.setIfInBounds_toArray, List.set_cons_zero, List.set_cons_succ, i64_w, i32_w]
                rfl
              refine take_ (i := 1) (N := some 28) (v := ?_) (a' := ?_) #[true, true, false, false, false, false, false, false, false, false, false, false, false, false, false, false, false, false, false, false, false] rfl rfl (take_ofW HT_.out HW_.out (by kernel_rfl)) (fun _ _ _ h => h) (Or.inl ⟨by rfl, ?_⟩) hHeld ?_ ?_
              rotate_left
              · rintro w' ⟨s0, s1, s2, s3⟩
                go_simp
                with_reducible rfl
              rotate_left
              · simp only [Act.put, List.setIfInBounds_toArray, List.set_cons_zero, List.set_cons_succ, i64_w, i32_w]
                rfl
              refine take_ (i := 3) (N := some 30) (v := ?_) (a' := ?_) #[true, true, false, true, false, false, false, false, false, false, false, false, false, false, false, false, false, false, false, false, false] rfl rfl (take_ofW HT_.out HW_.out (by kernel_rfl)) (fun _ _ _ h => h) (Or.inl ⟨by rfl, ?_⟩) hHeld ?_ ?_
              rotate_left
              · rintro w' ⟨s0, s1, s2, s3⟩
                go_simp
                with_reducible rfl
              rotate_left
              · simp only [Act.put, List.setIfInBounds_toArray, List.set_cons_zero, List.set_cons_succ, i64_w, i32_w]
                rfl
              refine take_ (i := 4) (N := some 31) (v := ?_) (a' := ?_) #[true, true, false, true, true, false, false, false, false, false, false, false, false, false, false, false, false, false, false, false, false] rfl rfl (take_ofW HT_.out HW_.out (by kernel_rfl)) (fun _ _ _ h => h) (Or.inl ⟨by rfl, ?_⟩) hHeld ?_ ?_
              rotate_left
              · rintro w' ⟨s0, s1, s2, s3⟩
                go_simp
                with_reducible rfl
              rotate_left
              · simp only [Act.put, List.setIfInBounds_toArray, List.set_cons_zero, List.set_cons_succ, i64_w, i32_w]
                rfl
              refine one_ (i := 2) (N := some 29) #[true, true, true, true, true, false, false, false, false, false, false, false, false, false, false, false, false, false, false, false, false] rfl rfl (one_of HT_.out (by kernel_rfl)) (by decide) (fun K hK => ?_)
              refine goes_ Try.func20 (by kernel_rfl) rfl #[.agg #[.int .i64 t151, .int .i64 t152], .agg #[.int .i64 t153, .int .i64 t154]] (by rfl) rfl rfl (by (try simp only [List.map_toArray, List.map_cons, List.map_nil]); first | done | rfl | (simp only [List.length_drop, List.length_take]; rfl)) ?_
              with_reducible refine (impl_BrdBeats.calls kj2 t151 t152 t153 t154 t163 _ A25.out).mono ?_
              rintro e w44 ⟨rfl, hb⟩
              refine ⟨_, rfl, ?_⟩
              have n0_ := Aside0.mk (blk_below (g := gb155) (o := .cells #[.int .i64 t151, .int .i64 t152] 31 (0, 0)) (by (with_reducible repeat (first | refine blk_drewN ?_ _ | refine blk_drew ?_ | refine blk_alloc ?_ _)); exact BK155.out) hb)
              have n1_ := Aside0.mk (blk_below (g := gb156) (o := .cells #[.int .i64 t153, .int .i64 t154] 31 (0, 0)) (by (with_reducible repeat (first | refine blk_drewN ?_ _ | refine blk_drew ?_ | refine blk_alloc ?_ _)); exact BK156.out) hb)
              have n2_ := Aside0.mk (blk_below (g := gb161) (o := .cells #[.int .i64 t157, .int .i64 t158] 31 (0, 0)) (by (with_reducible repeat (first | refine blk_drewN ?_ _ | refine blk_drew ?_ | refine blk_alloc ?_ _)); exact BK161.out) hb)
              have n3_ := Aside0.mk (blk_below (g := gb162) (o := .cells #[.int .i64 t159, .int .i64 t160] 31 (0, 0)) (by (with_reducible repeat (first | refine blk_drewN ?_ _ | refine blk_drew ?_ | refine blk_alloc ?_ _)); exact BK162.out) hb)
              have n4_ := Aside0.mk (below_step (by repeat (first | (with_reducible first | exact HB.out | apply below_alloc | apply pw_below_drewN | apply below_drew1 | refine below_set ?_ GE155.out | refine below_set ?_ GE156.out | refine below_set ?_ GE161.out | refine below_set ?_ GE162.out) | exact HB.out)) hb)
              clear BK155
              clear BK156
              clear BK161
              clear BK162
              clear HB
              have BK155 := n0_
              have BK156 := n1_
              have BK161 := n2_
              have BK162 := n3_
              have HB := n4_
              clear n0_ n1_ n2_ n3_ n4_
              (try clear hb)
              (try clear hb2)
              (try clear hk)
              (try clear hi)
              refine hK.out _ _ ⟨(blk_cell BK155.out 0).trans rfl, (blk_cell BK155.out 1).trans rfl, (blk_cell BK156.out 0).trans rfl, (blk_cell BK156.out 1).trans rfl⟩ (fun hHeld => ?_)
              clear hK K
              refine norm_ (a' := ?_) ?_ ?_
              rotate_left
              · show Act.put _ (some 29) _ = _
                simp only [Act.put, List.setIfInBounds_toArray, List.set_cons_zero, List.set_cons_succ, i64_w, i32_w]
                rfl
              refine one_ (i := 5) (N := some 32) #[true, true, true, true, true, true, false, false, false, false, false, false, false, false, false, false, false, false, false, false, false] rfl rfl (one_of HT_.out (by kernel_rfl)) (by decide) (fun K hK => ?_)
              refine goes_ Try.func18 (by kernel_rfl) rfl #[.agg #[.int .i64 t151, .int .i64 t152], .agg #[.int .i64 t153, .int .i64 t154]] (by rfl) rfl rfl (by (try simp only [List.map_toArray, List.map_cons, List.map_nil]); first | done | rfl | (simp only [List.length_drop, List.length_take]; rfl)) ?_
              with_reducible refine (spec_BrdBeats.calls kj2 t151 t152 t153 t154 t164 _ A26.out).mono ?_
              rintro e w45 ⟨rfl, hb⟩
              refine ⟨_, rfl, ?_⟩
              have n0_ := Aside0.mk (blk_below (g := gb155) (o := .cells #[.int .i64 t151, .int .i64 t152] 31 (0, 0)) (by (with_reducible repeat (first | refine blk_drewN ?_ _ | refine blk_drew ?_ | refine blk_alloc ?_ _)); exact BK155.out) hb)
              have n1_ := Aside0.mk (blk_below (g := gb156) (o := .cells #[.int .i64 t153, .int .i64 t154] 31 (0, 0)) (by (with_reducible repeat (first | refine blk_drewN ?_ _ | refine blk_drew ?_ | refine blk_alloc ?_ _)); exact BK156.out) hb)
              have n2_ := Aside0.mk (blk_below (g := gb161) (o := .cells #[.int .i64 t157, .int .i64 t158] 31 (0, 0)) (by (with_reducible repeat (first | refine blk_drewN ?_ _ | refine blk_drew ?_ | refine blk_alloc ?_ _)); exact BK161.out) hb)
              have n3_ := Aside0.mk (blk_below (g := gb162) (o := .cells #[.int .i64 t159, .int .i64 t160] 31 (0, 0)) (by (with_reducible repeat (first | refine blk_drewN ?_ _ | refine blk_drew ?_ | refine blk_alloc ?_ _)); exact BK162.out) hb)
              have n4_ := Aside0.mk (below_step (by repeat (first | (with_reducible first | exact HB.out | apply below_alloc | apply pw_below_drewN | apply below_drew1 | refine below_set ?_ GE155.out | refine below_set ?_ GE156.out | refine below_set ?_ GE161.out | refine below_set ?_ GE162.out) | exact HB.out)) hb)
              clear BK155
              clear BK156
              clear BK161
              clear BK162
              clear HB
              have BK155 := n0_
              have BK156 := n1_
              have BK161 := n2_
              have BK162 := n3_
              have HB := n4_
              clear n0_ n1_ n2_ n3_ n4_
              (try clear hb)
              (try clear hb2)
              (try clear hk)
              (try clear hi)
              refine hK.out _ _ ⟨(blk_cell BK155.out 0).trans rfl, (blk_cell BK155.out 1).trans rfl, (blk_cell BK156.out 0).trans rfl, (blk_cell BK156.out 1).trans rfl⟩ (fun hHeld => ?_)
              clear hK K
              refine norm_ (a' := ?_) ?_ ?_
              rotate_left
              · show Act.put _ (some 32) _ = _
                simp only [Act.put, List.setIfInBounds_toArray, List.set_cons_zero, List.set_cons_succ, i64_w, i32_w]
                rfl
              refine pure_ (i := 6) (N := some 33) (v := ?_) (a' := ?_) #[true, true, true, true, true, true, true, false, false, false, false, false, false, false, false, false, false, false, false, false, false] rfl rfl (any_of HT_.out (by kernel_rfl)) (fun _ _ _ h => h) (Or.inl ⟨by rfl, ?_⟩) ?_ ?_
              rotate_left
              · intro w'
                go_simp
                with_reducible rfl
              rotate_left
              · simp only [Act.put, List.setIfInBounds_toArray, List.set_cons_zero, List.set_cons_succ, i64_w, i32_w]
                rfl
              refine pure_ (i := 7) (N := some 34) (v := ?_) (a' := ?_) #[true, true, true, true, true, true, true, true, false, false, false, false, false, false, false, false, false, false, false, false, false] rfl rfl (any_of HT_.out (by kernel_rfl)) (fun _ _ _ h => h) (Or.inl ⟨by rfl, ?_⟩) ?_ ?_
              rotate_left
              · intro w'
                go_simp
                with_reducible rfl
              rotate_left
              · simp only [Act.put, List.setIfInBounds_toArray, List.set_cons_zero, List.set_cons_succ, i64_w, i32_w]
                rfl
              refine take_ (i := 8) (N := some 35) (v := ?_) (a' := ?_) #[true, true, true, true, true, true, true, true, true, false, false, false, false, false, false, false, false, false, false, false, false] rfl rfl (take_ofW HT_.out HW_.out (by kernel_rfl)) (fun _ _ _ h => h) (Or.inl ⟨by rfl, ?_⟩) hHeld ?_ ?_
              rotate_left
              · rintro w' ⟨s0, s1, s2, s3⟩
                go_simp
                with_reducible rfl
              rotate_left
              · simp only [Act.put, List.setIfInBounds_toArray, List.set_cons_zero, List.set_cons_succ, i64_w, i32_w]
                rfl
              refine take_ (i := 9) (N := some 36) (v := ?_) (a' := ?_) #[true, true, true, true, true, true, true, true, true, true, false, false, false, false, false, false, false, false, false, false, false] rfl rfl (take_ofW HT_.out HW_.out (by kernel_rfl)) (fun _ _ _ h => h) (Or.inl ⟨by rfl, ?_⟩) hHeld ?_ ?_
              rotate_left
              · rintro w' ⟨s0, s1, s2, s3⟩
                go_simp
                with_reducible rfl
              rotate_left
              · simp only [Act.put, List.setIfInBounds_toArray, List.set_cons_zero, List.set_cons_succ, i64_w, i32_w]
                rfl
              refine take_ (i := 11) (N := some 38) (v := ?_) (a' := ?_) #[true, true, true, true, true, true, true, true, true, true, false, true, false, false, false, false, false, false, false, false, false] rfl rfl (take_ofW HT_.out HW_.out (by kernel_rfl)) (fun _ _ _ h => h) (Or.inl ⟨by rfl, ?_⟩) hHeld ?_ ?_
              rotate_left
              · rintro w' ⟨s0, s1, s2, s3⟩
                go_simp
                with_reducible rfl
              rotate_left
              · simp only [Act.put, List.setIfInBounds_toArray, List.set_cons_zero, List.set_cons_succ, i64_w, i32_w]
                rfl
              refine take_ (i := 12) (N := some 39) (v := ?_) (a' := ?_) #[true, true, true, true, true, true, true, true, true, true, false, true, true, false, false, false, false, false, false, false, false] rfl rfl (take_ofW HT_.out HW_.out (by kernel_rfl)) (fun _ _ _ h => h) (Or.inl ⟨by rfl, ?_⟩) hHeld ?_ ?_
              rotate_left
              · rintro w' ⟨s0, s1, s2, s3⟩
                go_simp
                with_reducible rfl
              rotate_left
              · simp only [Act.put, List.setIfInBounds_toArray, List.set_cons_zero, List.set_cons_succ, i64_w, i32_w]
                rfl
              refine one_ (i := 10) (N := some 37) #[true, true, true, true, true, true, true, true, true, true, true, true, true, false, false, false, false, false, false, false, false] rfl rfl (one_of HT_.out (by kernel_rfl)) (by decide) (fun K hK => ?_)
              refine goes_ Try.func20 (by kernel_rfl) rfl #[.agg #[.int .i64 t153, .int .i64 t154], .agg #[.int .i64 t151, .int .i64 t152]] (by rfl) rfl rfl (by (try simp only [List.map_toArray, List.map_cons, List.map_nil]); first | done | rfl | (simp only [List.length_drop, List.length_take]; rfl)) ?_
              with_reducible refine (impl_BrdBeats.calls kj2 t153 t154 t151 t152 t165 _ A32.out).mono ?_
              rintro e w46 ⟨rfl, hb⟩
              refine ⟨_, rfl, ?_⟩
              have n0_ := Aside0.mk (blk_below (g := gb155) (o := .cells #[.int .i64 t151, .int .i64 t152] 31 (0, 0)) (by (with_reducible repeat (first | refine blk_drewN ?_ _ | refine blk_drew ?_ | refine blk_alloc ?_ _)); exact BK155.out) hb)
              have n1_ := Aside0.mk (blk_below (g := gb156) (o := .cells #[.int .i64 t153, .int .i64 t154] 31 (0, 0)) (by (with_reducible repeat (first | refine blk_drewN ?_ _ | refine blk_drew ?_ | refine blk_alloc ?_ _)); exact BK156.out) hb)
              have n2_ := Aside0.mk (blk_below (g := gb161) (o := .cells #[.int .i64 t157, .int .i64 t158] 31 (0, 0)) (by (with_reducible repeat (first | refine blk_drewN ?_ _ | refine blk_drew ?_ | refine blk_alloc ?_ _)); exact BK161.out) hb)
              have n3_ := Aside0.mk (blk_below (g := gb162) (o := .cells #[.int .i64 t159, .int .i64 t160] 31 (0, 0)) (by (with_reducible repeat (first | refine blk_drewN ?_ _ | refine blk_drew ?_ | refine blk_alloc ?_ _)); exact BK162.out) hb)
              have n4_ := Aside0.mk (below_step (by repeat (first | (with_reducible first | exact HB.out | apply below_alloc | apply pw_below_drewN | apply below_drew1 | refine below_set ?_ GE155.out | refine below_set ?_ GE156.out | refine below_set ?_ GE161.out | refine below_set ?_ GE162.out) | exact HB.out)) hb)
              clear BK155
              clear BK156
              clear BK161
              clear BK162
              clear HB
              have BK155 := n0_
              have BK156 := n1_
              have BK161 := n2_
              have BK162 := n3_
              have HB := n4_
              clear n0_ n1_ n2_ n3_ n4_
              (try clear hb)
              (try clear hb2)
              (try clear hk)
              (try clear hi)
              refine hK.out _ _ ⟨(blk_cell BK155.out 0).trans rfl, (blk_cell BK155.out 1).trans rfl, (blk_cell BK156.out 0).trans rfl, (blk_cell BK156.out 1).trans rfl⟩ (fun hHeld => ?_)
              clear hK K
              refine norm_ (a' := ?_) ?_ ?_
              rotate_left
              · show Act.put _ (some 37) _ = _
                simp only [Act.put, List.setIfInBounds_toArray, List.set_cons_zero, List.set_cons_succ, i64_w, i32_w]
                rfl
              refine one_ (i := 13) (N := some 40) #[true, true, true, true, true, true, true, true, true, true, true, true, true, true, false, false, false, false, false, false, false] rfl rfl (one_of HT_.out (by kernel_rfl)) (by decide) (fun K hK => ?_)
              refine goes_ Try.func18 (by kernel_rfl) rfl #[.agg #[.int .i64 t153, .int .i64 t154], .agg #[.int .i64 t151, .int .i64 t152]] (by rfl) rfl rfl (by (try simp only [List.map_toArray, List.map_cons, List.map_nil]); first | done | rfl | (simp only [List.length_drop, List.length_take]; rfl)) ?_
              with_reducible refine (spec_BrdBeats.calls kj2 t153 t154 t151 t152 t166 _ A33.out).mono ?_
              rintro e w47 ⟨rfl, hb⟩
              refine ⟨_, rfl, ?_⟩
              have n0_ := Aside0.mk (blk_below (g := gb155) (o := .cells #[.int .i64 t151, .int .i64 t152] 31 (0, 0)) (by (with_reducible repeat (first | refine blk_drewN ?_ _ | refine blk_drew ?_ | refine blk_alloc ?_ _)); exact BK155.out) hb)
              have n1_ := Aside0.mk (blk_below (g := gb156) (o := .cells #[.int .i64 t153, .int .i64 t154] 31 (0, 0)) (by (with_reducible repeat (first | refine blk_drewN ?_ _ | refine blk_drew ?_ | refine blk_alloc ?_ _)); exact BK156.out) hb)
              have n2_ := Aside0.mk (blk_below (g := gb161) (o := .cells #[.int .i64 t157, .int .i64 t158] 31 (0, 0)) (by (with_reducible repeat (first | refine blk_drewN ?_ _ | refine blk_drew ?_ | refine blk_alloc ?_ _)); exact BK161.out) hb)
              have n3_ := Aside0.mk (blk_below (g := gb162) (o := .cells #[.int .i64 t159, .int .i64 t160] 31 (0, 0)) (by (with_reducible repeat (first | refine blk_drewN ?_ _ | refine blk_drew ?_ | refine blk_alloc ?_ _)); exact BK162.out) hb)
              have n4_ := Aside0.mk (below_step (by repeat (first | (with_reducible first | exact HB.out | apply below_alloc | apply pw_below_drewN | apply below_drew1 | refine below_set ?_ GE155.out | refine below_set ?_ GE156.out | refine below_set ?_ GE161.out | refine below_set ?_ GE162.out) | exact HB.out)) hb)
              clear BK155
              clear BK156
              clear BK161
              clear BK162
              clear HB
              have BK155 := n0_
              have BK156 := n1_
              have BK161 := n2_
              have BK162 := n3_
              have HB := n4_
              clear n0_ n1_ n2_ n3_ n4_
              (try clear hb)
              (try clear hb2)
              (try clear hk)
              (try clear hi)
              refine hK.out _ _ ⟨(blk_cell BK155.out 0).trans rfl, (blk_cell BK155.out 1).trans rfl, (blk_cell BK156.out 0).trans rfl, (blk_cell BK156.out 1).trans rfl⟩ (fun hHeld => ?_)
              clear hK K
              refine norm_ (a' := ?_) ?_ ?_
              rotate_left
              · show Act.put _ (some 40) _ = _
                simp only [Act.put, List.setIfInBounds_toArray, List.set_cons_zero, List.set_cons_succ, i64_w, i32_w]
                rfl
              refine pure_ (i := 14) (N := some 41) (v := ?_) (a' := ?_) #[true, true, true, true, true, true, true, true, true, true, true, true, true, true, true, false, false, false, false, false, false] rfl rfl (any_of HT_.out (by kernel_rfl)) (fun _ _ _ h => h) (Or.inl ⟨by rfl, ?_⟩) ?_ ?_
              rotate_left
              · intro w'
                go_simp
                with_reducible rfl
              rotate_left
              · simp only [Act.put, List.setIfInBounds_toArray, List.set_cons_zero, List.set_cons_succ, i64_w, i32_w]
                rfl
              refine pure_ (i := 15) (N := some 42) (v := ?_) (a' := ?_) #[true, true, true, true, true, true, true, true, true, true, true, true, true, true, true, true, false, false, false, false, false] rfl rfl (any_of HT_.out (by kernel_rfl)) (fun _ _ _ h => h) (Or.inl ⟨by rfl, ?_⟩) ?_ ?_
              rotate_left
              · intro w'
                go_simp
                with_reducible rfl
              rotate_left
              · simp only [Act.put, List.setIfInBounds_toArray, List.set_cons_zero, List.set_cons_succ, i64_w, i32_w]
                rfl
              refine pure_ (i := 16) (N := some 43) (v := ?_) (a' := ?_) #[true, true, true, true, true, true, true, true, true, true, true, true, true, true, true, true, true, false, false, false, false] rfl rfl (any_of HT_.out (by kernel_rfl)) (fun _ _ _ h => h) (Or.inl ⟨by rfl, ?_⟩) ?_ ?_
              rotate_left
              · intro w'
                go_simp
                with_reducible rfl
              rotate_left
              · simp only [Act.put, List.setIfInBounds_toArray, List.set_cons_zero, List.set_cons_succ, i64_w, i32_w]
                rfl
              refine take_ (i := 17) (N := some 44) (v := ?_) (a' := ?_) #[true, true, true, true, true, true, true, true, true, true, true, true, true, true, true, true, true, true, false, false, false] rfl rfl (take_ofW HT_.out HW_.out (by kernel_rfl)) (fun _ _ _ h => h) (Or.inl ⟨by rfl, ?_⟩) hHeld ?_ ?_
              rotate_left
              · rintro w' ⟨s0, s1, s2, s3⟩
                go_simp
                with_reducible rfl
              rotate_left
              · simp only [Act.put, List.setIfInBounds_toArray, List.set_cons_zero, List.set_cons_succ, i64_w, i32_w]
                rfl
              refine take_ (i := 18) (N := some 45) (v := ?_) (a' := ?_) #[true, true, true, true, true, true, true, true, true, true, true, true, true, true, true, true, true, true, true, false, false] rfl rfl (take_ofW HT_.out HW_.out (by kernel_rfl)) (fun _ _ _ h => h) (Or.inl ⟨by rfl, ?_⟩) hHeld ?_ ?_
              rotate_left
              · rintro w' ⟨s0, s1, s2, s3⟩
                go_simp
                with_reducible rfl
              rotate_left
              · simp only [Act.put, List.setIfInBounds_toArray, List.set_cons_zero, List.set_cons_succ, i64_w, i32_w]
                rfl
              refine one_ (i := 19) (N := some 46) #[true, true, true, true, true, true, true, true, true, true, true, true, true, true, true, true, true, true, true, true, false] rfl rfl (one_of HT_.out (by kernel_rfl)) (by decide) (fun K hK => ?_)
              refine goes_ Try.func20 (by kernel_rfl) rfl #[.agg #[.int .i64 t151, .int .i64 t152], .agg #[.int .i64 t151, .int .i64 t152]] (by rfl) rfl rfl (by (try simp only [List.map_toArray, List.map_cons, List.map_nil]); first | done | rfl | (simp only [List.length_drop, List.length_take]; rfl)) ?_
              with_reducible refine (impl_BrdBeats.calls kj2 t151 t152 t151 t152 t167 _ A41.out).mono ?_
              rintro e w48 ⟨rfl, hb⟩
              refine ⟨_, rfl, ?_⟩
              have n0_ := Aside0.mk (blk_below (g := gb155) (o := .cells #[.int .i64 t151, .int .i64 t152] 31 (0, 0)) (by (with_reducible repeat (first | refine blk_drewN ?_ _ | refine blk_drew ?_ | refine blk_alloc ?_ _)); exact BK155.out) hb)
              have n1_ := Aside0.mk (blk_below (g := gb156) (o := .cells #[.int .i64 t153, .int .i64 t154] 31 (0, 0)) (by (with_reducible repeat (first | refine blk_drewN ?_ _ | refine blk_drew ?_ | refine blk_alloc ?_ _)); exact BK156.out) hb)
              have n2_ := Aside0.mk (blk_below (g := gb161) (o := .cells #[.int .i64 t157, .int .i64 t158] 31 (0, 0)) (by (with_reducible repeat (first | refine blk_drewN ?_ _ | refine blk_drew ?_ | refine blk_alloc ?_ _)); exact BK161.out) hb)
              have n3_ := Aside0.mk (blk_below (g := gb162) (o := .cells #[.int .i64 t159, .int .i64 t160] 31 (0, 0)) (by (with_reducible repeat (first | refine blk_drewN ?_ _ | refine blk_drew ?_ | refine blk_alloc ?_ _)); exact BK162.out) hb)
              have n4_ := Aside0.mk (below_step (by repeat (first | (with_reducible first | exact HB.out | apply below_alloc | apply pw_below_drewN | apply below_drew1 | refine below_set ?_ GE155.out | refine below_set ?_ GE156.out | refine below_set ?_ GE161.out | refine below_set ?_ GE162.out) | exact HB.out)) hb)
              clear BK155
              clear BK156
              clear BK161
              clear BK162
              clear HB
              have BK155 := n0_
              have BK156 := n1_
              have BK161 := n2_
              have BK162 := n3_
              have HB := n4_
              clear n0_ n1_ n2_ n3_ n4_
              (try clear hb)
              (try clear hb2)
              (try clear hk)
              (try clear hi)
              refine hK.out _ _ ⟨(blk_cell BK155.out 0).trans rfl, (blk_cell BK155.out 1).trans rfl, (blk_cell BK156.out 0).trans rfl, (blk_cell BK156.out 1).trans rfl⟩ (fun hHeld => ?_)
              clear hK K
              refine norm_ (a' := ?_) ?_ ?_
              rotate_left
              · show Act.put _ (some 46) _ = _
                simp only [Act.put, List.setIfInBounds_toArray, List.set_cons_zero, List.set_cons_succ, i64_w, i32_w]
                rfl
              refine pure_ (i := 20) (N := some 47) (v := ?_) (a' := ?_) #[true, true, true, true, true, true, true, true, true, true, true, true, true, true, true, true, true, true, true, true, true] rfl rfl (any_of HT_.out (by kernel_rfl)) (fun _ _ _ h => h) (Or.inl ⟨by rfl, ?_⟩) ?_ ?_
              rotate_left
              · intro w'
                go_simp
                with_reducible rfl
              rotate_left
              · simp only [Act.put, List.setIfInBounds_toArray, List.set_cons_zero, List.set_cons_succ, i64_w, i32_w]
                rfl
              refine done_ (done_of HT_.out (by kernel_rfl)) ?_
              try go_wp2
              go_meet
              case rel => exact ⟨_, (t167), (by first | rfl | (simp; done) | (simp [*]; done)), H', ⟨by have := HJ2.out; first | omega | exact Nat.le_refl _⟩, ⟨by (with_reducible repeat (first | refine blk_drewN ?_ _ | refine blk_drew ?_ | refine blk_alloc ?_ _)); exact BK155.out⟩, ⟨by (with_reducible repeat (first | refine blk_drewN ?_ _ | refine blk_drew ?_ | refine blk_alloc ?_ _)); exact BK156.out⟩, ⟨by (with_reducible repeat (first | refine blk_drewN ?_ _ | refine blk_drew ?_ | refine blk_alloc ?_ _)); exact BK161.out⟩, ⟨by (with_reducible repeat (first | refine blk_drewN ?_ _ | refine blk_drew ?_ | refine blk_alloc ?_ _)); exact BK162.out⟩, ⟨by repeat (first | (with_reducible first | exact HB.out | apply below_alloc | apply pw_below_drewN | apply below_drew1 | refine below_set ?_ GE155.out | refine below_set ?_ GE156.out | refine below_set ?_ GE161.out | refine below_set ?_ GE162.out) | exact HB.out)⟩⟩
        case rest =>
          clear HC8
          try clear c1
          try clear c2
          try clear p2
          try clear c3
          try clear c18
          try clear c20
          try clear c34
          try clear c34b0
          try clear c34b1
          try clear c34b2
          obtain ⟨kq, x47_7, rfl, HA, HJ7, BK155, BK156, BK161, BK162, HB⟩ := hcut
          cases kq with
          | zero => exact absurd HA.out (by simp [laws_FnBrdBeats.j1])
          | succ kj7 =>
            have H := HA.out
            clear HA
            simp only [laws_FnBrdBeats.j1] at H
            by_cases c49 : x47_7 = true
            · subst c49
              have H1 : (some false) = some r := by rw [if_pos rfl] at H; exact H
              clear H
              have H := H1
              clear H1
              obtain rfl := Option.some.inj H
              go_wp2
              go_ret
              exact ⟨by first | rfl | (simp [errW_none, errW_some] <;> rfl) | (simp [*, errW_none, errW_some] <;> rfl), by repeat (first | (with_reducible first | exact HB.out | apply below_alloc | apply pw_below_drewN | apply below_drew1 | refine below_set ?_ GE155.out | refine below_set ?_ GE156.out | refine below_set ?_ GE161.out | refine below_set ?_ GE162.out) | exact HB.out)⟩
            · replace c49 := Bool.eq_false_iff.mpr c49
              subst c49
              have H1 : ((impl_BrdBeats.f kj7 t151 t152 t153 t154).bind fun t168 => (if t168 = true then ((impl_BrdBeats.f kj7 t153 t154 t151 t152).bind fun t169 => (if t169 = true then (laws_FnBrdBeats.j2 kj7 true t151 t152 t153 t154) else ((impl_BrdBeats.f kj7 t151 t152 t153 t154).bind fun t170 => (if t170 = true then ((impl_BrdBeats.f kj7 t153 t154 t157 t158).bind fun t171 => (if t171 = true then ((impl_BrdBeats.f kj7 t151 t152 t157 t158).bind fun t172 => (laws_FnBrdBeats.j2 kj7 (!t172) t151 t152 t153 t154)) else (laws_FnBrdBeats.j2 kj7 false t151 t152 t153 t154))) else (laws_FnBrdBeats.j2 kj7 false t151 t152 t153 t154))))) else ((impl_BrdBeats.f kj7 t151 t152 t153 t154).bind fun t173 => (if t173 = true then ((impl_BrdBeats.f kj7 t153 t154 t157 t158).bind fun t174 => (if t174 = true then ((impl_BrdBeats.f kj7 t151 t152 t157 t158).bind fun t175 => (laws_FnBrdBeats.j2 kj7 (!t175) t151 t152 t153 t154)) else (laws_FnBrdBeats.j2 kj7 false t151 t152 t153 t154))) else (laws_FnBrdBeats.j2 kj7 false t151 t152 t153 t154))))) = some r := by rw [if_neg (show ¬ (false = true) by decide)] at H; exact H
              clear H
              have H := H1
              clear H1
              have HC50 := Aside0.mk H
              clear H
              go_upto_region 7 with (fail)
              go_cut [71] (fun v71 wc => ∃ (kq : Nat) (x71_49 : Bool), v71 = .bool x71_49 ∧ Aside0 (laws_FnBrdBeats.j2 kq x71_49 t151 t152 t153 t154 = some r) ∧ Aside0 (kq ≤ kj7) ∧ Aside0 (wc.heap[gb155]? = some (.cells #[.int .i64 t151, .int .i64 t152] 31 (0, 0))) ∧ Aside0 (wc.heap[gb156]? = some (.cells #[.int .i64 t153, .int .i64 t154] 31 (0, 0))) ∧ Aside0 (wc.heap[gb161]? = some (.cells #[.int .i64 t157, .int .i64 t158] 31 (0, 0))) ∧ Aside0 (wc.heap[gb162]? = some (.cells #[.int .i64 t159, .int .i64 t160] 31 (0, 0))) ∧ Aside0 (Below w.heap.size w wc))
              case first =>
                have H := HC50.out
                clear HC50
                replace H := Option.bind_eq_some_iff.mp H
                obtain ⟨t168, A510, H⟩ := H
                replace H : (if t168 = true then ((impl_BrdBeats.f kj7 t153 t154 t151 t152).bind fun t169 => (if t169 = true then (laws_FnBrdBeats.j2 kj7 true t151 t152 t153 t154) else ((impl_BrdBeats.f kj7 t151 t152 t153 t154).bind fun t170 => (if t170 = true then ((impl_BrdBeats.f kj7 t153 t154 t157 t158).bind fun t171 => (if t171 = true then ((impl_BrdBeats.f kj7 t151 t152 t157 t158).bind fun t172 => (laws_FnBrdBeats.j2 kj7 (!t172) t151 t152 t153 t154)) else (laws_FnBrdBeats.j2 kj7 false t151 t152 t153 t154))) else (laws_FnBrdBeats.j2 kj7 false t151 t152 t153 t154))))) else ((impl_BrdBeats.f kj7 t151 t152 t153 t154).bind fun t173 => (if t173 = true then ((impl_BrdBeats.f kj7 t153 t154 t157 t158).bind fun t174 => (if t174 = true then ((impl_BrdBeats.f kj7 t151 t152 t157 t158).bind fun t175 => (laws_FnBrdBeats.j2 kj7 (!t175) t151 t152 t153 t154)) else (laws_FnBrdBeats.j2 kj7 false t151 t152 t153 t154))) else (laws_FnBrdBeats.j2 kj7 false t151 t152 t153 t154)))) = some r := H
                have A51 := Aside0.mk A510
                clear A510
                by_cases c52 : t168 = true
                · subst c52
                  have H1 : ((impl_BrdBeats.f kj7 t153 t154 t151 t152).bind fun t169 => (if t169 = true then (laws_FnBrdBeats.j2 kj7 true t151 t152 t153 t154) else ((impl_BrdBeats.f kj7 t151 t152 t153 t154).bind fun t170 => (if t170 = true then ((impl_BrdBeats.f kj7 t153 t154 t157 t158).bind fun t171 => (if t171 = true then ((impl_BrdBeats.f kj7 t151 t152 t157 t158).bind fun t172 => (laws_FnBrdBeats.j2 kj7 (!t172) t151 t152 t153 t154)) else (laws_FnBrdBeats.j2 kj7 false t151 t152 t153 t154))) else (laws_FnBrdBeats.j2 kj7 false t151 t152 t153 t154))))) = some r := by rw [if_pos rfl] at H; exact H
                  clear H
                  have H := H1
                  clear H1
                  replace H := Option.bind_eq_some_iff.mp H
                  obtain ⟨t169, A530, H⟩ := H
                  replace H : (if t169 = true then (laws_FnBrdBeats.j2 kj7 true t151 t152 t153 t154) else ((impl_BrdBeats.f kj7 t151 t152 t153 t154).bind fun t170 => (if t170 = true then ((impl_BrdBeats.f kj7 t153 t154 t157 t158).bind fun t171 => (if t171 = true then ((impl_BrdBeats.f kj7 t151 t152 t157 t158).bind fun t172 => (laws_FnBrdBeats.j2 kj7 (!t172) t151 t152 t153 t154)) else (laws_FnBrdBeats.j2 kj7 false t151 t152 t153 t154))) else (laws_FnBrdBeats.j2 kj7 false t151 t152 t153 t154)))) = some r := H
                  have A53 := Aside0.mk A530
                  clear A530
                  by_cases c54 : t169 = true
                  · subst c54
                    have H1 : (laws_FnBrdBeats.j2 kj7 true t151 t152 t153 t154) = some r := by rw [if_pos rfl] at H; exact H
                    clear H
                    have H := H1
                    clear H1
                    have H' := Aside0.mk H
                    clear H
                    have hnb55 := NB155_156.out
                    have hnc55 := NB156_155.out
                    have hnb56 := NB155_161.out
                    have hnc56 := NB161_155.out
                    have hnb57 := NB155_162.out
                    have hnc57 := NB162_155.out
                    have hcz58_0 : wc.cell? ⟨gb155, 0, none⟩ = some (.int .i64 t151) := (blk_cell BK155.out 0).trans rfl
                    have hcz58_1 : wc.cell? ⟨gb155, 1, none⟩ = some (.int .i64 t152) := (blk_cell BK155.out 1).trans rfl
                    have hfz58_0 := blk_frozen BK155.out 0
                    have hfz58_1 := blk_frozen BK155.out 1
                    have hnb59 := NB156_161.out
                    have hnc59 := NB161_156.out
                    have hnb60 := NB156_162.out
                    have hnc60 := NB162_156.out
                    have hcz61_0 : wc.cell? ⟨gb156, 0, none⟩ = some (.int .i64 t153) := (blk_cell BK156.out 0).trans rfl
                    have hcz61_1 : wc.cell? ⟨gb156, 1, none⟩ = some (.int .i64 t154) := (blk_cell BK156.out 1).trans rfl
                    have hfz61_0 := blk_frozen BK156.out 0
                    have hfz61_1 := blk_frozen BK156.out 1
                    go_wp2_with (first | ((with_reducible refine gate_callee (f := 20) rfl ?_); refine goesL_ (some 50) rfl rfl Try.func20 (by kernel_rfl) rfl #[.agg #[.int .i64 t151, .int .i64 t152], .agg #[.int .i64 t153, .int .i64 t154]] rfl (by (try simp only [List.map_toArray, List.map_cons, List.map_nil]); first | done | rfl | (simp only [List.length_drop, List.length_take]; rfl)) ?_; (with_reducible refine (impl_BrdBeats.calls kj7 t151 t152 t153 t154 true _ A51.out).mono ?_); rintro e w62 ⟨rfl, hb⟩; refine ⟨_, rfl, ?_⟩; have n0_ := Aside0.mk (blk_below (g := gb155) (o := .cells #[.int .i64 t151, .int .i64 t152] 31 (0, 0)) (by (with_reducible repeat (first | refine blk_drewN ?_ _ | refine blk_drew ?_ | refine blk_alloc ?_ _)); exact BK155.out) hb); have n1_ := Aside0.mk (blk_below (g := gb156) (o := .cells #[.int .i64 t153, .int .i64 t154] 31 (0, 0)) (by (with_reducible repeat (first | refine blk_drewN ?_ _ | refine blk_drew ?_ | refine blk_alloc ?_ _)); exact BK156.out) hb); have n2_ := Aside0.mk (blk_below (g := gb161) (o := .cells #[.int .i64 t157, .int .i64 t158] 31 (0, 0)) (by (with_reducible repeat (first | refine blk_drewN ?_ _ | refine blk_drew ?_ | refine blk_alloc ?_ _)); exact BK161.out) hb); have n3_ := Aside0.mk (blk_below (g := gb162) (o := .cells #[.int .i64 t159, .int .i64 t160] 31 (0, 0)) (by (with_reducible repeat (first | refine blk_drewN ?_ _ | refine blk_drew ?_ | refine blk_alloc ?_ _)); exact BK162.out) hb); have n4_ := Aside0.mk (below_step (by repeat (first | (with_reducible first | exact HB.out | apply below_alloc | apply pw_below_drewN | apply below_drew1 | refine below_set ?_ GE155.out | refine below_set ?_ GE156.out | refine below_set ?_ GE161.out | refine below_set ?_ GE162.out) | exact HB.out)) hb); clear BK155; clear BK156; clear BK161; clear BK162; clear HB; have BK155 := n0_; have BK156 := n1_; have BK161 := n2_; have BK162 := n3_; have HB := n4_; clear n0_ n1_ n2_ n3_ n4_; (try clear hb); (try clear hb2); (try clear hk); (try clear hi); have hcz63_0 : w62.cell? ⟨gb156, 0, none⟩ = some (.int .i64 t153) := (blk_cell BK156.out 0).trans rfl; have hcz63_1 : w62.cell? ⟨gb156, 1, none⟩ = some (.int .i64 t154) := (blk_cell BK156.out 1).trans rfl; have hfz63_0 := blk_frozen BK156.out 0; have hfz63_1 := blk_frozen BK156.out 1; have hcz64_0 : w62.cell? ⟨gb155, 0, none⟩ = some (.int .i64 t151) := (blk_cell BK155.out 0).trans rfl; have hcz64_1 : w62.cell? ⟨gb155, 1, none⟩ = some (.int .i64 t152) := (blk_cell BK155.out 1).trans rfl; have hfz64_0 := blk_frozen BK155.out 0; have hfz64_1 := blk_frozen BK155.out 1) | (go_at_call 20; (with_reducible refine (impl_BrdBeats.calls kj7 t153 t154 t151 t152 true _ A53.out).mono ?_); rintro e w65 ⟨rfl, hb⟩; have n0_ := Aside0.mk (blk_below (g := gb155) (o := .cells #[.int .i64 t151, .int .i64 t152] 31 (0, 0)) (by (with_reducible repeat (first | refine blk_drewN ?_ _ | refine blk_drew ?_ | refine blk_alloc ?_ _)); exact BK155.out) hb); have n1_ := Aside0.mk (blk_below (g := gb156) (o := .cells #[.int .i64 t153, .int .i64 t154] 31 (0, 0)) (by (with_reducible repeat (first | refine blk_drewN ?_ _ | refine blk_drew ?_ | refine blk_alloc ?_ _)); exact BK156.out) hb); have n2_ := Aside0.mk (blk_below (g := gb161) (o := .cells #[.int .i64 t157, .int .i64 t158] 31 (0, 0)) (by (with_reducible repeat (first | refine blk_drewN ?_ _ | refine blk_drew ?_ | refine blk_alloc ?_ _)); exact BK161.out) hb); have n3_ := Aside0.mk (blk_below (g := gb162) (o := .cells #[.int .i64 t159, .int .i64 t160] 31 (0, 0)) (by (with_reducible repeat (first | refine blk_drewN ?_ _ | refine blk_drew ?_ | refine blk_alloc ?_ _)); exact BK162.out) hb); have n4_ := Aside0.mk (below_step (by repeat (first | (with_reducible first | exact HB.out | apply below_alloc | apply pw_below_drewN | apply below_drew1 | refine below_set ?_ GE155.out | refine below_set ?_ GE156.out | refine below_set ?_ GE161.out | refine below_set ?_ GE162.out) | exact HB.out)) hb); clear BK155; clear BK156; clear BK161; clear BK162; clear HB; have BK155 := n0_; have BK156 := n1_; have BK161 := n2_; have BK162 := n3_; have HB := n4_; clear n0_ n1_ n2_ n3_ n4_; (try clear hb); (try clear hb2); (try clear hk); (try clear hi)))
                    go_meet
                    case rel => exact ⟨_, (true), (by first | rfl | (simp; done) | (simp [*]; done)), H', ⟨by have := HJ2.out; have := HJ7.out; first | omega | exact Nat.le_refl _⟩, ⟨by (with_reducible repeat (first | refine blk_drewN ?_ _ | refine blk_drew ?_ | refine blk_alloc ?_ _)); exact BK155.out⟩, ⟨by (with_reducible repeat (first | refine blk_drewN ?_ _ | refine blk_drew ?_ | refine blk_alloc ?_ _)); exact BK156.out⟩, ⟨by (with_reducible repeat (first | refine blk_drewN ?_ _ | refine blk_drew ?_ | refine blk_alloc ?_ _)); exact BK161.out⟩, ⟨by (with_reducible repeat (first | refine blk_drewN ?_ _ | refine blk_drew ?_ | refine blk_alloc ?_ _)); exact BK162.out⟩, ⟨by repeat (first | (with_reducible first | exact HB.out | apply below_alloc | apply pw_below_drewN | apply below_drew1 | refine below_set ?_ GE155.out | refine below_set ?_ GE156.out | refine below_set ?_ GE161.out | refine below_set ?_ GE162.out) | exact HB.out)⟩⟩
                  · replace c54 := Bool.eq_false_iff.mpr c54
                    subst c54
                    have H1 : ((impl_BrdBeats.f kj7 t151 t152 t153 t154).bind fun t170 => (if t170 = true then ((impl_BrdBeats.f kj7 t153 t154 t157 t158).bind fun t171 => (if t171 = true then ((impl_BrdBeats.f kj7 t151 t152 t157 t158).bind fun t172 => (laws_FnBrdBeats.j2 kj7 (!t172) t151 t152 t153 t154)) else (laws_FnBrdBeats.j2 kj7 false t151 t152 t153 t154))) else (laws_FnBrdBeats.j2 kj7 false t151 t152 t153 t154))) = some r := by rw [if_neg (show ¬ (false = true) by decide)] at H; exact H
                    clear H
                    have H := H1
                    clear H1
                    replace H := Option.bind_eq_some_iff.mp H
                    obtain ⟨t170, A660, H⟩ := H
                    replace H : (if t170 = true then ((impl_BrdBeats.f kj7 t153 t154 t157 t158).bind fun t171 => (if t171 = true then ((impl_BrdBeats.f kj7 t151 t152 t157 t158).bind fun t172 => (laws_FnBrdBeats.j2 kj7 (!t172) t151 t152 t153 t154)) else (laws_FnBrdBeats.j2 kj7 false t151 t152 t153 t154))) else (laws_FnBrdBeats.j2 kj7 false t151 t152 t153 t154)) = some r := H
                    have A66 := Aside0.mk A660
                    clear A660
                    by_cases c67 : t170 = true
                    · subst c67
                      have H1 : ((impl_BrdBeats.f kj7 t153 t154 t157 t158).bind fun t171 => (if t171 = true then ((impl_BrdBeats.f kj7 t151 t152 t157 t158).bind fun t172 => (laws_FnBrdBeats.j2 kj7 (!t172) t151 t152 t153 t154)) else (laws_FnBrdBeats.j2 kj7 false t151 t152 t153 t154))) = some r := by rw [if_pos rfl] at H; exact H
                      clear H
                      have H := H1
                      clear H1
                      replace H := Option.bind_eq_some_iff.mp H
                      obtain ⟨t171, A680, H⟩ := H
                      replace H : (if t171 = true then ((impl_BrdBeats.f kj7 t151 t152 t157 t158).bind fun t172 => (laws_FnBrdBeats.j2 kj7 (!t172) t151 t152 t153 t154)) else (laws_FnBrdBeats.j2 kj7 false t151 t152 t153 t154)) = some r := H
                      have A68 := Aside0.mk A680
                      clear A680
                      by_cases c69 : t171 = true
                      · subst c69
                        have H1 : ((impl_BrdBeats.f kj7 t151 t152 t157 t158).bind fun t172 => (laws_FnBrdBeats.j2 kj7 (!t172) t151 t152 t153 t154)) = some r := by rw [if_pos rfl] at H; exact H
                        clear H
                        have H := H1
                        clear H1
                        replace H := Option.bind_eq_some_iff.mp H
                        obtain ⟨t172, A700, H⟩ := H
                        replace H : (laws_FnBrdBeats.j2 kj7 (!t172) t151 t152 t153 t154) = some r := H
                        have A70 := Aside0.mk A700
                        clear A700
                        have H' := Aside0.mk H
                        clear H
                        have hnb71 := NB155_156.out
                        have hnc71 := NB156_155.out
                        have hnb72 := NB155_161.out
                        have hnc72 := NB161_155.out
                        have hnb73 := NB155_162.out
                        have hnc73 := NB162_155.out
                        have hcz74_0 : wc.cell? ⟨gb155, 0, none⟩ = some (.int .i64 t151) := (blk_cell BK155.out 0).trans rfl
                        have hcz74_1 : wc.cell? ⟨gb155, 1, none⟩ = some (.int .i64 t152) := (blk_cell BK155.out 1).trans rfl
                        have hfz74_0 := blk_frozen BK155.out 0
                        have hfz74_1 := blk_frozen BK155.out 1
                        have hnb75 := NB156_161.out
                        have hnc75 := NB161_156.out
                        have hnb76 := NB156_162.out
                        have hnc76 := NB162_156.out
                        have hcz77_0 : wc.cell? ⟨gb156, 0, none⟩ = some (.int .i64 t153) := (blk_cell BK156.out 0).trans rfl
                        have hcz77_1 : wc.cell? ⟨gb156, 1, none⟩ = some (.int .i64 t154) := (blk_cell BK156.out 1).trans rfl
                        have hfz77_0 := blk_frozen BK156.out 0
                        have hfz77_1 := blk_frozen BK156.out 1
                        go_wp2_with (first | ((with_reducible refine gate_callee (f := 20) rfl ?_); refine goesL_ (some 50) rfl rfl Try.func20 (by kernel_rfl) rfl #[.agg #[.int .i64 t151, .int .i64 t152], .agg #[.int .i64 t153, .int .i64 t154]] rfl (by (try simp only [List.map_toArray, List.map_cons, List.map_nil]); first | done | rfl | (simp only [List.length_drop, List.length_take]; rfl)) ?_; (with_reducible refine (impl_BrdBeats.calls kj7 t151 t152 t153 t154 true _ A51.out).mono ?_); rintro e w78 ⟨rfl, hb⟩; refine ⟨_, rfl, ?_⟩; have n0_ := Aside0.mk (blk_below (g := gb155) (o := .cells #[.int .i64 t151, .int .i64 t152] 31 (0, 0)) (by (with_reducible repeat (first | refine blk_drewN ?_ _ | refine blk_drew ?_ | refine blk_alloc ?_ _)); exact BK155.out) hb); have n1_ := Aside0.mk (blk_below (g := gb156) (o := .cells #[.int .i64 t153, .int .i64 t154] 31 (0, 0)) (by (with_reducible repeat (first | refine blk_drewN ?_ _ | refine blk_drew ?_ | refine blk_alloc ?_ _)); exact BK156.out) hb); have n2_ := Aside0.mk (blk_below (g := gb161) (o := .cells #[.int .i64 t157, .int .i64 t158] 31 (0, 0)) (by (with_reducible repeat (first | refine blk_drewN ?_ _ | refine blk_drew ?_ | refine blk_alloc ?_ _)); exact BK161.out) hb); have n3_ := Aside0.mk (blk_below (g := gb162) (o := .cells #[.int .i64 t159, .int .i64 t160] 31 (0, 0)) (by (with_reducible repeat (first | refine blk_drewN ?_ _ | refine blk_drew ?_ | refine blk_alloc ?_ _)); exact BK162.out) hb); have n4_ := Aside0.mk (below_step (by repeat (first | (with_reducible first | exact HB.out | apply below_alloc | apply pw_below_drewN | apply below_drew1 | refine below_set ?_ GE155.out | refine below_set ?_ GE156.out | refine below_set ?_ GE161.out | refine below_set ?_ GE162.out) | exact HB.out)) hb); clear BK155; clear BK156; clear BK161; clear BK162; clear HB; have BK155 := n0_; have BK156 := n1_; have BK161 := n2_; have BK162 := n3_; have HB := n4_; clear n0_ n1_ n2_ n3_ n4_; (try clear hb); (try clear hb2); (try clear hk); (try clear hi); have hcz79_0 : w78.cell? ⟨gb156, 0, none⟩ = some (.int .i64 t153) := (blk_cell BK156.out 0).trans rfl; have hcz79_1 : w78.cell? ⟨gb156, 1, none⟩ = some (.int .i64 t154) := (blk_cell BK156.out 1).trans rfl; have hfz79_0 := blk_frozen BK156.out 0; have hfz79_1 := blk_frozen BK156.out 1; have hcz80_0 : w78.cell? ⟨gb155, 0, none⟩ = some (.int .i64 t151) := (blk_cell BK155.out 0).trans rfl; have hcz80_1 : w78.cell? ⟨gb155, 1, none⟩ = some (.int .i64 t152) := (blk_cell BK155.out 1).trans rfl; have hfz80_0 := blk_frozen BK155.out 0; have hfz80_1 := blk_frozen BK155.out 1) | (go_at_call 20; (with_reducible refine (impl_BrdBeats.calls kj7 t153 t154 t151 t152 false _ A53.out).mono ?_); rintro e w81 ⟨rfl, hb⟩; have n0_ := Aside0.mk (blk_below (g := gb155) (o := .cells #[.int .i64 t151, .int .i64 t152] 31 (0, 0)) (by (with_reducible repeat (first | refine blk_drewN ?_ _ | refine blk_drew ?_ | refine blk_alloc ?_ _)); exact BK155.out) hb); have n1_ := Aside0.mk (blk_below (g := gb156) (o := .cells #[.int .i64 t153, .int .i64 t154] 31 (0, 0)) (by (with_reducible repeat (first | refine blk_drewN ?_ _ | refine blk_drew ?_ | refine blk_alloc ?_ _)); exact BK156.out) hb); have n2_ := Aside0.mk (blk_below (g := gb161) (o := .cells #[.int .i64 t157, .int .i64 t158] 31 (0, 0)) (by (with_reducible repeat (first | refine blk_drewN ?_ _ | refine blk_drew ?_ | refine blk_alloc ?_ _)); exact BK161.out) hb); have n3_ := Aside0.mk (blk_below (g := gb162) (o := .cells #[.int .i64 t159, .int .i64 t160] 31 (0, 0)) (by (with_reducible repeat (first | refine blk_drewN ?_ _ | refine blk_drew ?_ | refine blk_alloc ?_ _)); exact BK162.out) hb); have n4_ := Aside0.mk (below_step (by repeat (first | (with_reducible first | exact HB.out | apply below_alloc | apply pw_below_drewN | apply below_drew1 | refine below_set ?_ GE155.out | refine below_set ?_ GE156.out | refine below_set ?_ GE161.out | refine below_set ?_ GE162.out) | exact HB.out)) hb); clear BK155; clear BK156; clear BK161; clear BK162; clear HB; have BK155 := n0_; have BK156 := n1_; have BK161 := n2_; have BK162 := n3_; have HB := n4_; clear n0_ n1_ n2_ n3_ n4_; (try clear hb); (try clear hb2); (try clear hk); (try clear hi); have hcz82_0 : w81.cell? ⟨gb155, 0, none⟩ = some (.int .i64 t151) := (blk_cell BK155.out 0).trans rfl; have hcz82_1 : w81.cell? ⟨gb155, 1, none⟩ = some (.int .i64 t152) := (blk_cell BK155.out 1).trans rfl; have hfz82_0 := blk_frozen BK155.out 0; have hfz82_1 := blk_frozen BK155.out 1; have hcz83_0 : w81.cell? ⟨gb156, 0, none⟩ = some (.int .i64 t153) := (blk_cell BK156.out 0).trans rfl; have hcz83_1 : w81.cell? ⟨gb156, 1, none⟩ = some (.int .i64 t154) := (blk_cell BK156.out 1).trans rfl; have hfz83_0 := blk_frozen BK156.out 0; have hfz83_1 := blk_frozen BK156.out 1) | (go_at_call 20; (with_reducible refine (impl_BrdBeats.calls kj7 t151 t152 t153 t154 true _ A66.out).mono ?_); rintro e w84 ⟨rfl, hb⟩; have n0_ := Aside0.mk (blk_below (g := gb155) (o := .cells #[.int .i64 t151, .int .i64 t152] 31 (0, 0)) (by (with_reducible repeat (first | refine blk_drewN ?_ _ | refine blk_drew ?_ | refine blk_alloc ?_ _)); exact BK155.out) hb); have n1_ := Aside0.mk (blk_below (g := gb156) (o := .cells #[.int .i64 t153, .int .i64 t154] 31 (0, 0)) (by (with_reducible repeat (first | refine blk_drewN ?_ _ | refine blk_drew ?_ | refine blk_alloc ?_ _)); exact BK156.out) hb); have n2_ := Aside0.mk (blk_below (g := gb161) (o := .cells #[.int .i64 t157, .int .i64 t158] 31 (0, 0)) (by (with_reducible repeat (first | refine blk_drewN ?_ _ | refine blk_drew ?_ | refine blk_alloc ?_ _)); exact BK161.out) hb); have n3_ := Aside0.mk (blk_below (g := gb162) (o := .cells #[.int .i64 t159, .int .i64 t160] 31 (0, 0)) (by (with_reducible repeat (first | refine blk_drewN ?_ _ | refine blk_drew ?_ | refine blk_alloc ?_ _)); exact BK162.out) hb); have n4_ := Aside0.mk (below_step (by repeat (first | (with_reducible first | exact HB.out | apply below_alloc | apply pw_below_drewN | apply below_drew1 | refine below_set ?_ GE155.out | refine below_set ?_ GE156.out | refine below_set ?_ GE161.out | refine below_set ?_ GE162.out) | exact HB.out)) hb); clear BK155; clear BK156; clear BK161; clear BK162; clear HB; have BK155 := n0_; have BK156 := n1_; have BK161 := n2_; have BK162 := n3_; have HB := n4_; clear n0_ n1_ n2_ n3_ n4_; (try clear hb); (try clear hb2); (try clear hk); (try clear hi); have hcz85_0 : w84.cell? ⟨gb156, 0, none⟩ = some (.int .i64 t153) := (blk_cell BK156.out 0).trans rfl; have hcz85_1 : w84.cell? ⟨gb156, 1, none⟩ = some (.int .i64 t154) := (blk_cell BK156.out 1).trans rfl; have hfz85_0 := blk_frozen BK156.out 0; have hfz85_1 := blk_frozen BK156.out 1; have hnb86 := NB161_162.out; have hnc86 := NB162_161.out; have hcz87_0 : w84.cell? ⟨gb161, 0, none⟩ = some (.int .i64 t157) := (blk_cell BK161.out 0).trans rfl; have hcz87_1 : w84.cell? ⟨gb161, 1, none⟩ = some (.int .i64 t158) := (blk_cell BK161.out 1).trans rfl; have hfz87_0 := blk_frozen BK161.out 0; have hfz87_1 := blk_frozen BK161.out 1) | (go_at_call 20; (with_reducible refine (impl_BrdBeats.calls kj7 t153 t154 t157 t158 true _ A68.out).mono ?_); rintro e w88 ⟨rfl, hb⟩; have n0_ := Aside0.mk (blk_below (g := gb155) (o := .cells #[.int .i64 t151, .int .i64 t152] 31 (0, 0)) (by (with_reducible repeat (first | refine blk_drewN ?_ _ | refine blk_drew ?_ | refine blk_alloc ?_ _)); exact BK155.out) hb); have n1_ := Aside0.mk (blk_below (g := gb156) (o := .cells #[.int .i64 t153, .int .i64 t154] 31 (0, 0)) (by (with_reducible repeat (first | refine blk_drewN ?_ _ | refine blk_drew ?_ | refine blk_alloc ?_ _)); exact BK156.out) hb); have n2_ := Aside0.mk (blk_below (g := gb161) (o := .cells #[.int .i64 t157, .int .i64 t158] 31 (0, 0)) (by (with_reducible repeat (first | refine blk_drewN ?_ _ | refine blk_drew ?_ | refine blk_alloc ?_ _)); exact BK161.out) hb); have n3_ := Aside0.mk (blk_below (g := gb162) (o := .cells #[.int .i64 t159, .int .i64 t160] 31 (0, 0)) (by (with_reducible repeat (first | refine blk_drewN ?_ _ | refine blk_drew ?_ | refine blk_alloc ?_ _)); exact BK162.out) hb); have n4_ := Aside0.mk (below_step (by repeat (first | (with_reducible first | exact HB.out | apply below_alloc | apply pw_below_drewN | apply below_drew1 | refine below_set ?_ GE155.out | refine below_set ?_ GE156.out | refine below_set ?_ GE161.out | refine below_set ?_ GE162.out) | exact HB.out)) hb); clear BK155; clear BK156; clear BK161; clear BK162; clear HB; have BK155 := n0_; have BK156 := n1_; have BK161 := n2_; have BK162 := n3_; have HB := n4_; clear n0_ n1_ n2_ n3_ n4_; (try clear hb); (try clear hb2); (try clear hk); (try clear hi); have hcz89_0 : w88.cell? ⟨gb155, 0, none⟩ = some (.int .i64 t151) := (blk_cell BK155.out 0).trans rfl; have hcz89_1 : w88.cell? ⟨gb155, 1, none⟩ = some (.int .i64 t152) := (blk_cell BK155.out 1).trans rfl; have hfz89_0 := blk_frozen BK155.out 0; have hfz89_1 := blk_frozen BK155.out 1; have hcz90_0 : w88.cell? ⟨gb161, 0, none⟩ = some (.int .i64 t157) := (blk_cell BK161.out 0).trans rfl; have hcz90_1 : w88.cell? ⟨gb161, 1, none⟩ = some (.int .i64 t158) := (blk_cell BK161.out 1).trans rfl; have hfz90_0 := blk_frozen BK161.out 0; have hfz90_1 := blk_frozen BK161.out 1) | (go_at_call 20; (with_reducible refine (impl_BrdBeats.calls kj7 t151 t152 t157 t158 t172 _ A70.out).mono ?_); rintro e w91 ⟨rfl, hb⟩; have n0_ := Aside0.mk (blk_below (g := gb155) (o := .cells #[.int .i64 t151, .int .i64 t152] 31 (0, 0)) (by (with_reducible repeat (first | refine blk_drewN ?_ _ | refine blk_drew ?_ | refine blk_alloc ?_ _)); exact BK155.out) hb); have n1_ := Aside0.mk (blk_below (g := gb156) (o := .cells #[.int .i64 t153, .int .i64 t154] 31 (0, 0)) (by (with_reducible repeat (first | refine blk_drewN ?_ _ | refine blk_drew ?_ | refine blk_alloc ?_ _)); exact BK156.out) hb); have n2_ := Aside0.mk (blk_below (g := gb161) (o := .cells #[.int .i64 t157, .int .i64 t158] 31 (0, 0)) (by (with_reducible repeat (first | refine blk_drewN ?_ _ | refine blk_drew ?_ | refine blk_alloc ?_ _)); exact BK161.out) hb); have n3_ := Aside0.mk (blk_below (g := gb162) (o := .cells #[.int .i64 t159, .int .i64 t160] 31 (0, 0)) (by (with_reducible repeat (first | refine blk_drewN ?_ _ | refine blk_drew ?_ | refine blk_alloc ?_ _)); exact BK162.out) hb); have n4_ := Aside0.mk (below_step (by repeat (first | (with_reducible first | exact HB.out | apply below_alloc | apply pw_below_drewN | apply below_drew1 | refine below_set ?_ GE155.out | refine below_set ?_ GE156.out | refine below_set ?_ GE161.out | refine below_set ?_ GE162.out) | exact HB.out)) hb); clear BK155; clear BK156; clear BK161; clear BK162; clear HB; have BK155 := n0_; have BK156 := n1_; have BK161 := n2_; have BK162 := n3_; have HB := n4_; clear n0_ n1_ n2_ n3_ n4_; (try clear hb); (try clear hb2); (try clear hk); (try clear hi)))
                        go_meet
                        case rel => exact ⟨_, (!t172), (by first | rfl | (simp; done) | (simp [*]; done)), H', ⟨by have := HJ2.out; have := HJ7.out; first | omega | exact Nat.le_refl _⟩, ⟨by (with_reducible repeat (first | refine blk_drewN ?_ _ | refine blk_drew ?_ | refine blk_alloc ?_ _)); exact BK155.out⟩, ⟨by (with_reducible repeat (first | refine blk_drewN ?_ _ | refine blk_drew ?_ | refine blk_alloc ?_ _)); exact BK156.out⟩, ⟨by (with_reducible repeat (first | refine blk_drewN ?_ _ | refine blk_drew ?_ | refine blk_alloc ?_ _)); exact BK161.out⟩, ⟨by (with_reducible repeat (first | refine blk_drewN ?_ _ | refine blk_drew ?_ | refine blk_alloc ?_ _)); exact BK162.out⟩, ⟨by repeat (first | (with_reducible first | exact HB.out | apply below_alloc | apply pw_below_drewN | apply below_drew1 | refine below_set ?_ GE155.out | refine below_set ?_ GE156.out | refine below_set ?_ GE161.out | refine below_set ?_ GE162.out) | exact HB.out)⟩⟩
                      · replace c69 := Bool.eq_false_iff.mpr c69
                        subst c69
                        have H1 : (laws_FnBrdBeats.j2 kj7 false t151 t152 t153 t154) = some r := by rw [if_neg (show ¬ (false = true) by decide)] at H; exact H
                        clear H
                        have H := H1
                        clear H1
                        have H' := Aside0.mk H
                        clear H
                        have hnb92 := NB155_156.out
                        have hnc92 := NB156_155.out
                        have hnb93 := NB155_161.out
                        have hnc93 := NB161_155.out
                        have hnb94 := NB155_162.out
                        have hnc94 := NB162_155.out
                        have hcz95_0 : wc.cell? ⟨gb155, 0, none⟩ = some (.int .i64 t151) := (blk_cell BK155.out 0).trans rfl
                        have hcz95_1 : wc.cell? ⟨gb155, 1, none⟩ = some (.int .i64 t152) := (blk_cell BK155.out 1).trans rfl
                        have hfz95_0 := blk_frozen BK155.out 0
                        have hfz95_1 := blk_frozen BK155.out 1
                        have hnb96 := NB156_161.out
                        have hnc96 := NB161_156.out
                        have hnb97 := NB156_162.out
                        have hnc97 := NB162_156.out
                        have hcz98_0 : wc.cell? ⟨gb156, 0, none⟩ = some (.int .i64 t153) := (blk_cell BK156.out 0).trans rfl
                        have hcz98_1 : wc.cell? ⟨gb156, 1, none⟩ = some (.int .i64 t154) := (blk_cell BK156.out 1).trans rfl
                        have hfz98_0 := blk_frozen BK156.out 0
                        have hfz98_1 := blk_frozen BK156.out 1
                        go_wp2_with (first | ((with_reducible refine gate_callee (f := 20) rfl ?_); refine goesL_ (some 50) rfl rfl Try.func20 (by kernel_rfl) rfl #[.agg #[.int .i64 t151, .int .i64 t152], .agg #[.int .i64 t153, .int .i64 t154]] rfl (by (try simp only [List.map_toArray, List.map_cons, List.map_nil]); first | done | rfl | (simp only [List.length_drop, List.length_take]; rfl)) ?_; (with_reducible refine (impl_BrdBeats.calls kj7 t151 t152 t153 t154 true _ A51.out).mono ?_); rintro e w99 ⟨rfl, hb⟩; refine ⟨_, rfl, ?_⟩; have n0_ := Aside0.mk (blk_below (g := gb155) (o := .cells #[.int .i64 t151, .int .i64 t152] 31 (0, 0)) (by (with_reducible repeat (first | refine blk_drewN ?_ _ | refine blk_drew ?_ | refine blk_alloc ?_ _)); exact BK155.out) hb); have n1_ := Aside0.mk (blk_below (g := gb156) (o := .cells #[.int .i64 t153, .int .i64 t154] 31 (0, 0)) (by (with_reducible repeat (first | refine blk_drewN ?_ _ | refine blk_drew ?_ | refine blk_alloc ?_ _)); exact BK156.out) hb); have n2_ := Aside0.mk (blk_below (g := gb161) (o := .cells #[.int .i64 t157, .int .i64 t158] 31 (0, 0)) (by (with_reducible repeat (first | refine blk_drewN ?_ _ | refine blk_drew ?_ | refine blk_alloc ?_ _)); exact BK161.out) hb); have n3_ := Aside0.mk (blk_below (g := gb162) (o := .cells #[.int .i64 t159, .int .i64 t160] 31 (0, 0)) (by (with_reducible repeat (first | refine blk_drewN ?_ _ | refine blk_drew ?_ | refine blk_alloc ?_ _)); exact BK162.out) hb); have n4_ := Aside0.mk (below_step (by repeat (first | (with_reducible first | exact HB.out | apply below_alloc | apply pw_below_drewN | apply below_drew1 | refine below_set ?_ GE155.out | refine below_set ?_ GE156.out | refine below_set ?_ GE161.out | refine below_set ?_ GE162.out) | exact HB.out)) hb); clear BK155; clear BK156; clear BK161; clear BK162; clear HB; have BK155 := n0_; have BK156 := n1_; have BK161 := n2_; have BK162 := n3_; have HB := n4_; clear n0_ n1_ n2_ n3_ n4_; (try clear hb); (try clear hb2); (try clear hk); (try clear hi); have hcz100_0 : w99.cell? ⟨gb156, 0, none⟩ = some (.int .i64 t153) := (blk_cell BK156.out 0).trans rfl; have hcz100_1 : w99.cell? ⟨gb156, 1, none⟩ = some (.int .i64 t154) := (blk_cell BK156.out 1).trans rfl; have hfz100_0 := blk_frozen BK156.out 0; have hfz100_1 := blk_frozen BK156.out 1; have hcz101_0 : w99.cell? ⟨gb155, 0, none⟩ = some (.int .i64 t151) := (blk_cell BK155.out 0).trans rfl; have hcz101_1 : w99.cell? ⟨gb155, 1, none⟩ = some (.int .i64 t152) := (blk_cell BK155.out 1).trans rfl; have hfz101_0 := blk_frozen BK155.out 0; have hfz101_1 := blk_frozen BK155.out 1) | (go_at_call 20; (with_reducible refine (impl_BrdBeats.calls kj7 t153 t154 t151 t152 false _ A53.out).mono ?_); rintro e w102 ⟨rfl, hb⟩; have n0_ := Aside0.mk (blk_below (g := gb155) (o := .cells #[.int .i64 t151, .int .i64 t152] 31 (0, 0)) (by (with_reducible repeat (first | refine blk_drewN ?_ _ | refine blk_drew ?_ | refine blk_alloc ?_ _)); exact BK155.out) hb); have n1_ := Aside0.mk (blk_below (g := gb156) (o := .cells #[.int .i64 t153, .int .i64 t154] 31 (0, 0)) (by (with_reducible repeat (first | refine blk_drewN ?_ _ | refine blk_drew ?_ | refine blk_alloc ?_ _)); exact BK156.out) hb); have n2_ := Aside0.mk (blk_below (g := gb161) (o := .cells #[.int .i64 t157, .int .i64 t158] 31 (0, 0)) (by (with_reducible repeat (first | refine blk_drewN ?_ _ | refine blk_drew ?_ | refine blk_alloc ?_ _)); exact BK161.out) hb); have n3_ := Aside0.mk (blk_below (g := gb162) (o := .cells #[.int .i64 t159, .int .i64 t160] 31 (0, 0)) (by (with_reducible repeat (first | refine blk_drewN ?_ _ | refine blk_drew ?_ | refine blk_alloc ?_ _)); exact BK162.out) hb); have n4_ := Aside0.mk (below_step (by repeat (first | (with_reducible first | exact HB.out | apply below_alloc | apply pw_below_drewN | apply below_drew1 | refine below_set ?_ GE155.out | refine below_set ?_ GE156.out | refine below_set ?_ GE161.out | refine below_set ?_ GE162.out) | exact HB.out)) hb); clear BK155; clear BK156; clear BK161; clear BK162; clear HB; have BK155 := n0_; have BK156 := n1_; have BK161 := n2_; have BK162 := n3_; have HB := n4_; clear n0_ n1_ n2_ n3_ n4_; (try clear hb); (try clear hb2); (try clear hk); (try clear hi); have hcz103_0 : w102.cell? ⟨gb155, 0, none⟩ = some (.int .i64 t151) := (blk_cell BK155.out 0).trans rfl; have hcz103_1 : w102.cell? ⟨gb155, 1, none⟩ = some (.int .i64 t152) := (blk_cell BK155.out 1).trans rfl; have hfz103_0 := blk_frozen BK155.out 0; have hfz103_1 := blk_frozen BK155.out 1; have hcz104_0 : w102.cell? ⟨gb156, 0, none⟩ = some (.int .i64 t153) := (blk_cell BK156.out 0).trans rfl; have hcz104_1 : w102.cell? ⟨gb156, 1, none⟩ = some (.int .i64 t154) := (blk_cell BK156.out 1).trans rfl; have hfz104_0 := blk_frozen BK156.out 0; have hfz104_1 := blk_frozen BK156.out 1) | (go_at_call 20; (with_reducible refine (impl_BrdBeats.calls kj7 t151 t152 t153 t154 true _ A66.out).mono ?_); rintro e w105 ⟨rfl, hb⟩; have n0_ := Aside0.mk (blk_below (g := gb155) (o := .cells #[.int .i64 t151, .int .i64 t152] 31 (0, 0)) (by (with_reducible repeat (first | refine blk_drewN ?_ _ | refine blk_drew ?_ | refine blk_alloc ?_ _)); exact BK155.out) hb); have n1_ := Aside0.mk (blk_below (g := gb156) (o := .cells #[.int .i64 t153, .int .i64 t154] 31 (0, 0)) (by (with_reducible repeat (first | refine blk_drewN ?_ _ | refine blk_drew ?_ | refine blk_alloc ?_ _)); exact BK156.out) hb); have n2_ := Aside0.mk (blk_below (g := gb161) (o := .cells #[.int .i64 t157, .int .i64 t158] 31 (0, 0)) (by (with_reducible repeat (first | refine blk_drewN ?_ _ | refine blk_drew ?_ | refine blk_alloc ?_ _)); exact BK161.out) hb); have n3_ := Aside0.mk (blk_below (g := gb162) (o := .cells #[.int .i64 t159, .int .i64 t160] 31 (0, 0)) (by (with_reducible repeat (first | refine blk_drewN ?_ _ | refine blk_drew ?_ | refine blk_alloc ?_ _)); exact BK162.out) hb); have n4_ := Aside0.mk (below_step (by repeat (first | (with_reducible first | exact HB.out | apply below_alloc | apply pw_below_drewN | apply below_drew1 | refine below_set ?_ GE155.out | refine below_set ?_ GE156.out | refine below_set ?_ GE161.out | refine below_set ?_ GE162.out) | exact HB.out)) hb); clear BK155; clear BK156; clear BK161; clear BK162; clear HB; have BK155 := n0_; have BK156 := n1_; have BK161 := n2_; have BK162 := n3_; have HB := n4_; clear n0_ n1_ n2_ n3_ n4_; (try clear hb); (try clear hb2); (try clear hk); (try clear hi); have hcz106_0 : w105.cell? ⟨gb156, 0, none⟩ = some (.int .i64 t153) := (blk_cell BK156.out 0).trans rfl; have hcz106_1 : w105.cell? ⟨gb156, 1, none⟩ = some (.int .i64 t154) := (blk_cell BK156.out 1).trans rfl; have hfz106_0 := blk_frozen BK156.out 0; have hfz106_1 := blk_frozen BK156.out 1; have hnb107 := NB161_162.out; have hnc107 := NB162_161.out; have hcz108_0 : w105.cell? ⟨gb161, 0, none⟩ = some (.int .i64 t157) := (blk_cell BK161.out 0).trans rfl; have hcz108_1 : w105.cell? ⟨gb161, 1, none⟩ = some (.int .i64 t158) := (blk_cell BK161.out 1).trans rfl; have hfz108_0 := blk_frozen BK161.out 0; have hfz108_1 := blk_frozen BK161.out 1) | (go_at_call 20; (with_reducible refine (impl_BrdBeats.calls kj7 t153 t154 t157 t158 false _ A68.out).mono ?_); rintro e w109 ⟨rfl, hb⟩; have n0_ := Aside0.mk (blk_below (g := gb155) (o := .cells #[.int .i64 t151, .int .i64 t152] 31 (0, 0)) (by (with_reducible repeat (first | refine blk_drewN ?_ _ | refine blk_drew ?_ | refine blk_alloc ?_ _)); exact BK155.out) hb); have n1_ := Aside0.mk (blk_below (g := gb156) (o := .cells #[.int .i64 t153, .int .i64 t154] 31 (0, 0)) (by (with_reducible repeat (first | refine blk_drewN ?_ _ | refine blk_drew ?_ | refine blk_alloc ?_ _)); exact BK156.out) hb); have n2_ := Aside0.mk (blk_below (g := gb161) (o := .cells #[.int .i64 t157, .int .i64 t158] 31 (0, 0)) (by (with_reducible repeat (first | refine blk_drewN ?_ _ | refine blk_drew ?_ | refine blk_alloc ?_ _)); exact BK161.out) hb); have n3_ := Aside0.mk (blk_below (g := gb162) (o := .cells #[.int .i64 t159, .int .i64 t160] 31 (0, 0)) (by (with_reducible repeat (first | refine blk_drewN ?_ _ | refine blk_drew ?_ | refine blk_alloc ?_ _)); exact BK162.out) hb); have n4_ := Aside0.mk (below_step (by repeat (first | (with_reducible first | exact HB.out | apply below_alloc | apply pw_below_drewN | apply below_drew1 | refine below_set ?_ GE155.out | refine below_set ?_ GE156.out | refine below_set ?_ GE161.out | refine below_set ?_ GE162.out) | exact HB.out)) hb); clear BK155; clear BK156; clear BK161; clear BK162; clear HB; have BK155 := n0_; have BK156 := n1_; have BK161 := n2_; have BK162 := n3_; have HB := n4_; clear n0_ n1_ n2_ n3_ n4_; (try clear hb); (try clear hb2); (try clear hk); (try clear hi)))
                        go_meet
                        case rel => exact ⟨_, (false), (by first | rfl | (simp; done) | (simp [*]; done)), H', ⟨by have := HJ2.out; have := HJ7.out; first | omega | exact Nat.le_refl _⟩, ⟨by (with_reducible repeat (first | refine blk_drewN ?_ _ | refine blk_drew ?_ | refine blk_alloc ?_ _)); exact BK155.out⟩, ⟨by (with_reducible repeat (first | refine blk_drewN ?_ _ | refine blk_drew ?_ | refine blk_alloc ?_ _)); exact BK156.out⟩, ⟨by (with_reducible repeat (first | refine blk_drewN ?_ _ | refine blk_drew ?_ | refine blk_alloc ?_ _)); exact BK161.out⟩, ⟨by (with_reducible repeat (first | refine blk_drewN ?_ _ | refine blk_drew ?_ | refine blk_alloc ?_ _)); exact BK162.out⟩, ⟨by repeat (first | (with_reducible first | exact HB.out | apply below_alloc | apply pw_below_drewN | apply below_drew1 | refine below_set ?_ GE155.out | refine below_set ?_ GE156.out | refine below_set ?_ GE161.out | refine below_set ?_ GE162.out) | exact HB.out)⟩⟩
                    · replace c67 := Bool.eq_false_iff.mpr c67
                      subst c67
                      have H1 : (laws_FnBrdBeats.j2 kj7 false t151 t152 t153 t154) = some r := by rw [if_neg (show ¬ (false = true) by decide)] at H; exact H
                      clear H
                      have H := H1
                      clear H1
                      have H' := Aside0.mk H
                      clear H
                      have hnb110 := NB155_156.out
                      have hnc110 := NB156_155.out
                      have hnb111 := NB155_161.out
                      have hnc111 := NB161_155.out
                      have hnb112 := NB155_162.out
                      have hnc112 := NB162_155.out
                      have hcz113_0 : wc.cell? ⟨gb155, 0, none⟩ = some (.int .i64 t151) := (blk_cell BK155.out 0).trans rfl
                      have hcz113_1 : wc.cell? ⟨gb155, 1, none⟩ = some (.int .i64 t152) := (blk_cell BK155.out 1).trans rfl
                      have hfz113_0 := blk_frozen BK155.out 0
                      have hfz113_1 := blk_frozen BK155.out 1
                      have hnb114 := NB156_161.out
                      have hnc114 := NB161_156.out
                      have hnb115 := NB156_162.out
                      have hnc115 := NB162_156.out
                      have hcz116_0 : wc.cell? ⟨gb156, 0, none⟩ = some (.int .i64 t153) := (blk_cell BK156.out 0).trans rfl
                      have hcz116_1 : wc.cell? ⟨gb156, 1, none⟩ = some (.int .i64 t154) := (blk_cell BK156.out 1).trans rfl
                      have hfz116_0 := blk_frozen BK156.out 0
                      have hfz116_1 := blk_frozen BK156.out 1
                      go_wp2_with (first | ((with_reducible refine gate_callee (f := 20) rfl ?_); refine goesL_ (some 50) rfl rfl Try.func20 (by kernel_rfl) rfl #[.agg #[.int .i64 t151, .int .i64 t152], .agg #[.int .i64 t153, .int .i64 t154]] rfl (by (try simp only [List.map_toArray, List.map_cons, List.map_nil]); first | done | rfl | (simp only [List.length_drop, List.length_take]; rfl)) ?_; (with_reducible refine (impl_BrdBeats.calls kj7 t151 t152 t153 t154 true _ A51.out).mono ?_); rintro e w117 ⟨rfl, hb⟩; refine ⟨_, rfl, ?_⟩; have n0_ := Aside0.mk (blk_below (g := gb155) (o := .cells #[.int .i64 t151, .int .i64 t152] 31 (0, 0)) (by (with_reducible repeat (first | refine blk_drewN ?_ _ | refine blk_drew ?_ | refine blk_alloc ?_ _)); exact BK155.out) hb); have n1_ := Aside0.mk (blk_below (g := gb156) (o := .cells #[.int .i64 t153, .int .i64 t154] 31 (0, 0)) (by (with_reducible repeat (first | refine blk_drewN ?_ _ | refine blk_drew ?_ | refine blk_alloc ?_ _)); exact BK156.out) hb); have n2_ := Aside0.mk (blk_below (g := gb161) (o := .cells #[.int .i64 t157, .int .i64 t158] 31 (0, 0)) (by (with_reducible repeat (first | refine blk_drewN ?_ _ | refine blk_drew ?_ | refine blk_alloc ?_ _)); exact BK161.out) hb); have n3_ := Aside0.mk (blk_below (g := gb162) (o := .cells #[.int .i64 t159, .int .i64 t160] 31 (0, 0)) (by (with_reducible repeat (first | refine blk_drewN ?_ _ | refine blk_drew ?_ | refine blk_alloc ?_ _)); exact BK162.out) hb); have n4_ := Aside0.mk (below_step (by repeat (first | (with_reducible first | exact HB.out | apply below_alloc | apply pw_below_drewN | apply below_drew1 | refine below_set ?_ GE155.out | refine below_set ?_ GE156.out | refine below_set ?_ GE161.out | refine below_set ?_ GE162.out) | exact HB.out)) hb); clear BK155; clear BK156; clear BK161; clear BK162; clear HB; have BK155 := n0_; have BK156 := n1_; have BK161 := n2_; have BK162 := n3_; have HB := n4_; clear n0_ n1_ n2_ n3_ n4_; (try clear hb); (try clear hb2); (try clear hk); (try clear hi); have hcz118_0 : w117.cell? ⟨gb156, 0, none⟩ = some (.int .i64 t153) := (blk_cell BK156.out 0).trans rfl; have hcz118_1 : w117.cell? ⟨gb156, 1, none⟩ = some (.int .i64 t154) := (blk_cell BK156.out 1).trans rfl; have hfz118_0 := blk_frozen BK156.out 0; have hfz118_1 := blk_frozen BK156.out 1; have hcz119_0 : w117.cell? ⟨gb155, 0, none⟩ = some (.int .i64 t151) := (blk_cell BK155.out 0).trans rfl; have hcz119_1 : w117.cell? ⟨gb155, 1, none⟩ = some (.int .i64 t152) := (blk_cell BK155.out 1).trans rfl; have hfz119_0 := blk_frozen BK155.out 0; have hfz119_1 := blk_frozen BK155.out 1) | (go_at_call 20; (with_reducible refine (impl_BrdBeats.calls kj7 t153 t154 t151 t152 false _ A53.out).mono ?_); rintro e w120 ⟨rfl, hb⟩; have n0_ := Aside0.mk (blk_below (g := gb155) (o := .cells #[.int .i64 t151, .int .i64 t152] 31 (0, 0)) (by (with_reducible repeat (first | refine blk_drewN ?_ _ | refine blk_drew ?_ | refine blk_alloc ?_ _)); exact BK155.out) hb); have n1_ := Aside0.mk (blk_below (g := gb156) (o := .cells #[.int .i64 t153, .int .i64 t154] 31 (0, 0)) (by (with_reducible repeat (first | refine blk_drewN ?_ _ | refine blk_drew ?_ | refine blk_alloc ?_ _)); exact BK156.out) hb); have n2_ := Aside0.mk (blk_below (g := gb161) (o := .cells #[.int .i64 t157, .int .i64 t158] 31 (0, 0)) (by (with_reducible repeat (first | refine blk_drewN ?_ _ | refine blk_drew ?_ | refine blk_alloc ?_ _)); exact BK161.out) hb); have n3_ := Aside0.mk (blk_below (g := gb162) (o := .cells #[.int .i64 t159, .int .i64 t160] 31 (0, 0)) (by (with_reducible repeat (first | refine blk_drewN ?_ _ | refine blk_drew ?_ | refine blk_alloc ?_ _)); exact BK162.out) hb); have n4_ := Aside0.mk (below_step (by repeat (first | (with_reducible first | exact HB.out | apply below_alloc | apply pw_below_drewN | apply below_drew1 | refine below_set ?_ GE155.out | refine below_set ?_ GE156.out | refine below_set ?_ GE161.out | refine below_set ?_ GE162.out) | exact HB.out)) hb); clear BK155; clear BK156; clear BK161; clear BK162; clear HB; have BK155 := n0_; have BK156 := n1_; have BK161 := n2_; have BK162 := n3_; have HB := n4_; clear n0_ n1_ n2_ n3_ n4_; (try clear hb); (try clear hb2); (try clear hk); (try clear hi); have hcz121_0 : w120.cell? ⟨gb155, 0, none⟩ = some (.int .i64 t151) := (blk_cell BK155.out 0).trans rfl; have hcz121_1 : w120.cell? ⟨gb155, 1, none⟩ = some (.int .i64 t152) := (blk_cell BK155.out 1).trans rfl; have hfz121_0 := blk_frozen BK155.out 0; have hfz121_1 := blk_frozen BK155.out 1; have hcz122_0 : w120.cell? ⟨gb156, 0, none⟩ = some (.int .i64 t153) := (blk_cell BK156.out 0).trans rfl; have hcz122_1 : w120.cell? ⟨gb156, 1, none⟩ = some (.int .i64 t154) := (blk_cell BK156.out 1).trans rfl; have hfz122_0 := blk_frozen BK156.out 0; have hfz122_1 := blk_frozen BK156.out 1) | (go_at_call 20; (with_reducible refine (impl_BrdBeats.calls kj7 t151 t152 t153 t154 false _ A66.out).mono ?_); rintro e w123 ⟨rfl, hb⟩; have n0_ := Aside0.mk (blk_below (g := gb155) (o := .cells #[.int .i64 t151, .int .i64 t152] 31 (0, 0)) (by (with_reducible repeat (first | refine blk_drewN ?_ _ | refine blk_drew ?_ | refine blk_alloc ?_ _)); exact BK155.out) hb); have n1_ := Aside0.mk (blk_below (g := gb156) (o := .cells #[.int .i64 t153, .int .i64 t154] 31 (0, 0)) (by (with_reducible repeat (first | refine blk_drewN ?_ _ | refine blk_drew ?_ | refine blk_alloc ?_ _)); exact BK156.out) hb); have n2_ := Aside0.mk (blk_below (g := gb161) (o := .cells #[.int .i64 t157, .int .i64 t158] 31 (0, 0)) (by (with_reducible repeat (first | refine blk_drewN ?_ _ | refine blk_drew ?_ | refine blk_alloc ?_ _)); exact BK161.out) hb); have n3_ := Aside0.mk (blk_below (g := gb162) (o := .cells #[.int .i64 t159, .int .i64 t160] 31 (0, 0)) (by (with_reducible repeat (first | refine blk_drewN ?_ _ | refine blk_drew ?_ | refine blk_alloc ?_ _)); exact BK162.out) hb); have n4_ := Aside0.mk (below_step (by repeat (first | (with_reducible first | exact HB.out | apply below_alloc | apply pw_below_drewN | apply below_drew1 | refine below_set ?_ GE155.out | refine below_set ?_ GE156.out | refine below_set ?_ GE161.out | refine below_set ?_ GE162.out) | exact HB.out)) hb); clear BK155; clear BK156; clear BK161; clear BK162; clear HB; have BK155 := n0_; have BK156 := n1_; have BK161 := n2_; have BK162 := n3_; have HB := n4_; clear n0_ n1_ n2_ n3_ n4_; (try clear hb); (try clear hb2); (try clear hk); (try clear hi)))
                      go_meet
                      case rel => exact ⟨_, (false), (by first | rfl | (simp; done) | (simp [*]; done)), H', ⟨by have := HJ2.out; have := HJ7.out; first | omega | exact Nat.le_refl _⟩, ⟨by (with_reducible repeat (first | refine blk_drewN ?_ _ | refine blk_drew ?_ | refine blk_alloc ?_ _)); exact BK155.out⟩, ⟨by (with_reducible repeat (first | refine blk_drewN ?_ _ | refine blk_drew ?_ | refine blk_alloc ?_ _)); exact BK156.out⟩, ⟨by (with_reducible repeat (first | refine blk_drewN ?_ _ | refine blk_drew ?_ | refine blk_alloc ?_ _)); exact BK161.out⟩, ⟨by (with_reducible repeat (first | refine blk_drewN ?_ _ | refine blk_drew ?_ | refine blk_alloc ?_ _)); exact BK162.out⟩, ⟨by repeat (first | (with_reducible first | exact HB.out | apply below_alloc | apply pw_below_drewN | apply below_drew1 | refine below_set ?_ GE155.out | refine below_set ?_ GE156.out | refine below_set ?_ GE161.out | refine below_set ?_ GE162.out) | exact HB.out)⟩⟩
                · replace c52 := Bool.eq_false_iff.mpr c52
                  subst c52
                  have H1 : ((impl_BrdBeats.f kj7 t151 t152 t153 t154).bind fun t173 => (if t173 = true then ((impl_BrdBeats.f kj7 t153 t154 t157 t158).bind fun t174 => (if t174 = true then ((impl_BrdBeats.f kj7 t151 t152 t157 t158).bind fun t175 => (laws_FnBrdBeats.j2 kj7 (!t175) t151 t152 t153 t154)) else (laws_FnBrdBeats.j2 kj7 false t151 t152 t153 t154))) else (laws_FnBrdBeats.j2 kj7 false t151 t152 t153 t154))) = some r := by rw [if_neg (show ¬ (false = true) by decide)] at H; exact H
                  clear H
                  have H := H1
                  clear H1
                  replace H := Option.bind_eq_some_iff.mp H
                  obtain ⟨t173, A1240, H⟩ := H
                  replace H : (if t173 = true then ((impl_BrdBeats.f kj7 t153 t154 t157 t158).bind fun t174 => (if t174 = true then ((impl_BrdBeats.f kj7 t151 t152 t157 t158).bind fun t175 => (laws_FnBrdBeats.j2 kj7 (!t175) t151 t152 t153 t154)) else (laws_FnBrdBeats.j2 kj7 false t151 t152 t153 t154))) else (laws_FnBrdBeats.j2 kj7 false t151 t152 t153 t154)) = some r := H
                  have A124 := Aside0.mk A1240
                  clear A1240
                  by_cases c125 : t173 = true
                  · subst c125
                    have H1 : ((impl_BrdBeats.f kj7 t153 t154 t157 t158).bind fun t174 => (if t174 = true then ((impl_BrdBeats.f kj7 t151 t152 t157 t158).bind fun t175 => (laws_FnBrdBeats.j2 kj7 (!t175) t151 t152 t153 t154)) else (laws_FnBrdBeats.j2 kj7 false t151 t152 t153 t154))) = some r := by rw [if_pos rfl] at H; exact H
                    clear H
                    have H := H1
                    clear H1
                    replace H := Option.bind_eq_some_iff.mp H
                    obtain ⟨t174, A1260, H⟩ := H
                    replace H : (if t174 = true then ((impl_BrdBeats.f kj7 t151 t152 t157 t158).bind fun t175 => (laws_FnBrdBeats.j2 kj7 (!t175) t151 t152 t153 t154)) else (laws_FnBrdBeats.j2 kj7 false t151 t152 t153 t154)) = some r := H
                    have A126 := Aside0.mk A1260
                    clear A1260
                    by_cases c127 : t174 = true
                    · subst c127
                      have H1 : ((impl_BrdBeats.f kj7 t151 t152 t157 t158).bind fun t175 => (laws_FnBrdBeats.j2 kj7 (!t175) t151 t152 t153 t154)) = some r := by rw [if_pos rfl] at H; exact H
                      clear H
                      have H := H1
                      clear H1
                      replace H := Option.bind_eq_some_iff.mp H
                      obtain ⟨t175, A1280, H⟩ := H
                      replace H : (laws_FnBrdBeats.j2 kj7 (!t175) t151 t152 t153 t154) = some r := H
                      have A128 := Aside0.mk A1280
                      clear A1280
                      have H' := Aside0.mk H
                      clear H
                      have hnb129 := NB155_156.out
                      have hnc129 := NB156_155.out
                      have hnb130 := NB155_161.out
                      have hnc130 := NB161_155.out
                      have hnb131 := NB155_162.out
                      have hnc131 := NB162_155.out
                      have hcz132_0 : wc.cell? ⟨gb155, 0, none⟩ = some (.int .i64 t151) := (blk_cell BK155.out 0).trans rfl
                      have hcz132_1 : wc.cell? ⟨gb155, 1, none⟩ = some (.int .i64 t152) := (blk_cell BK155.out 1).trans rfl
                      have hfz132_0 := blk_frozen BK155.out 0
                      have hfz132_1 := blk_frozen BK155.out 1
                      have hnb133 := NB156_161.out
                      have hnc133 := NB161_156.out
                      have hnb134 := NB156_162.out
                      have hnc134 := NB162_156.out
                      have hcz135_0 : wc.cell? ⟨gb156, 0, none⟩ = some (.int .i64 t153) := (blk_cell BK156.out 0).trans rfl
                      have hcz135_1 : wc.cell? ⟨gb156, 1, none⟩ = some (.int .i64 t154) := (blk_cell BK156.out 1).trans rfl
                      have hfz135_0 := blk_frozen BK156.out 0
                      have hfz135_1 := blk_frozen BK156.out 1
                      go_wp2_with (first | ((with_reducible refine gate_callee (f := 20) rfl ?_); refine goesL_ (some 50) rfl rfl Try.func20 (by kernel_rfl) rfl #[.agg #[.int .i64 t151, .int .i64 t152], .agg #[.int .i64 t153, .int .i64 t154]] rfl (by (try simp only [List.map_toArray, List.map_cons, List.map_nil]); first | done | rfl | (simp only [List.length_drop, List.length_take]; rfl)) ?_; (with_reducible refine (impl_BrdBeats.calls kj7 t151 t152 t153 t154 false _ A51.out).mono ?_); rintro e w136 ⟨rfl, hb⟩; refine ⟨_, rfl, ?_⟩; have n0_ := Aside0.mk (blk_below (g := gb155) (o := .cells #[.int .i64 t151, .int .i64 t152] 31 (0, 0)) (by (with_reducible repeat (first | refine blk_drewN ?_ _ | refine blk_drew ?_ | refine blk_alloc ?_ _)); exact BK155.out) hb); have n1_ := Aside0.mk (blk_below (g := gb156) (o := .cells #[.int .i64 t153, .int .i64 t154] 31 (0, 0)) (by (with_reducible repeat (first | refine blk_drewN ?_ _ | refine blk_drew ?_ | refine blk_alloc ?_ _)); exact BK156.out) hb); have n2_ := Aside0.mk (blk_below (g := gb161) (o := .cells #[.int .i64 t157, .int .i64 t158] 31 (0, 0)) (by (with_reducible repeat (first | refine blk_drewN ?_ _ | refine blk_drew ?_ | refine blk_alloc ?_ _)); exact BK161.out) hb); have n3_ := Aside0.mk (blk_below (g := gb162) (o := .cells #[.int .i64 t159, .int .i64 t160] 31 (0, 0)) (by (with_reducible repeat (first | refine blk_drewN ?_ _ | refine blk_drew ?_ | refine blk_alloc ?_ _)); exact BK162.out) hb); have n4_ := Aside0.mk (below_step (by repeat (first | (with_reducible first | exact HB.out | apply below_alloc | apply pw_below_drewN | apply below_drew1 | refine below_set ?_ GE155.out | refine below_set ?_ GE156.out | refine below_set ?_ GE161.out | refine below_set ?_ GE162.out) | exact HB.out)) hb); clear BK155; clear BK156; clear BK161; clear BK162; clear HB; have BK155 := n0_; have BK156 := n1_; have BK161 := n2_; have BK162 := n3_; have HB := n4_; clear n0_ n1_ n2_ n3_ n4_; (try clear hb); (try clear hb2); (try clear hk); (try clear hi); have hcz137_0 : w136.cell? ⟨gb155, 0, none⟩ = some (.int .i64 t151) := (blk_cell BK155.out 0).trans rfl; have hcz137_1 : w136.cell? ⟨gb155, 1, none⟩ = some (.int .i64 t152) := (blk_cell BK155.out 1).trans rfl; have hfz137_0 := blk_frozen BK155.out 0; have hfz137_1 := blk_frozen BK155.out 1; have hcz138_0 : w136.cell? ⟨gb156, 0, none⟩ = some (.int .i64 t153) := (blk_cell BK156.out 0).trans rfl; have hcz138_1 : w136.cell? ⟨gb156, 1, none⟩ = some (.int .i64 t154) := (blk_cell BK156.out 1).trans rfl; have hfz138_0 := blk_frozen BK156.out 0; have hfz138_1 := blk_frozen BK156.out 1) | (go_at_call 20; (with_reducible refine (impl_BrdBeats.calls kj7 t151 t152 t153 t154 true _ A124.out).mono ?_); rintro e w139 ⟨rfl, hb⟩; have n0_ := Aside0.mk (blk_below (g := gb155) (o := .cells #[.int .i64 t151, .int .i64 t152] 31 (0, 0)) (by (with_reducible repeat (first | refine blk_drewN ?_ _ | refine blk_drew ?_ | refine blk_alloc ?_ _)); exact BK155.out) hb); have n1_ := Aside0.mk (blk_below (g := gb156) (o := .cells #[.int .i64 t153, .int .i64 t154] 31 (0, 0)) (by (with_reducible repeat (first | refine blk_drewN ?_ _ | refine blk_drew ?_ | refine blk_alloc ?_ _)); exact BK156.out) hb); have n2_ := Aside0.mk (blk_below (g := gb161) (o := .cells #[.int .i64 t157, .int .i64 t158] 31 (0, 0)) (by (with_reducible repeat (first | refine blk_drewN ?_ _ | refine blk_drew ?_ | refine blk_alloc ?_ _)); exact BK161.out) hb); have n3_ := Aside0.mk (blk_below (g := gb162) (o := .cells #[.int .i64 t159, .int .i64 t160] 31 (0, 0)) (by (with_reducible repeat (first | refine blk_drewN ?_ _ | refine blk_drew ?_ | refine blk_alloc ?_ _)); exact BK162.out) hb); have n4_ := Aside0.mk (below_step (by repeat (first | (with_reducible first | exact HB.out | apply below_alloc | apply pw_below_drewN | apply below_drew1 | refine below_set ?_ GE155.out | refine below_set ?_ GE156.out | refine below_set ?_ GE161.out | refine below_set ?_ GE162.out) | exact HB.out)) hb); clear BK155; clear BK156; clear BK161; clear BK162; clear HB; have BK155 := n0_; have BK156 := n1_; have BK161 := n2_; have BK162 := n3_; have HB := n4_; clear n0_ n1_ n2_ n3_ n4_; (try clear hb); (try clear hb2); (try clear hk); (try clear hi); have hcz140_0 : w139.cell? ⟨gb156, 0, none⟩ = some (.int .i64 t153) := (blk_cell BK156.out 0).trans rfl; have hcz140_1 : w139.cell? ⟨gb156, 1, none⟩ = some (.int .i64 t154) := (blk_cell BK156.out 1).trans rfl; have hfz140_0 := blk_frozen BK156.out 0; have hfz140_1 := blk_frozen BK156.out 1; have hnb141 := NB161_162.out; have hnc141 := NB162_161.out; have hcz142_0 : w139.cell? ⟨gb161, 0, none⟩ = some (.int .i64 t157) := (blk_cell BK161.out 0).trans rfl; have hcz142_1 : w139.cell? ⟨gb161, 1, none⟩ = some (.int .i64 t158) := (blk_cell BK161.out 1).trans rfl; have hfz142_0 := blk_frozen BK161.out 0; have hfz142_1 := blk_frozen BK161.out 1) | (go_at_call 20; (with_reducible refine (impl_BrdBeats.calls kj7 t153 t154 t157 t158 true _ A126.out).mono ?_); rintro e w143 ⟨rfl, hb⟩; have n0_ := Aside0.mk (blk_below (g := gb155) (o := .cells #[.int .i64 t151, .int .i64 t152] 31 (0, 0)) (by (with_reducible repeat (first | refine blk_drewN ?_ _ | refine blk_drew ?_ | refine blk_alloc ?_ _)); exact BK155.out) hb); have n1_ := Aside0.mk (blk_below (g := gb156) (o := .cells #[.int .i64 t153, .int .i64 t154] 31 (0, 0)) (by (with_reducible repeat (first | refine blk_drewN ?_ _ | refine blk_drew ?_ | refine blk_alloc ?_ _)); exact BK156.out) hb); have n2_ := Aside0.mk (blk_below (g := gb161) (o := .cells #[.int .i64 t157, .int .i64 t158] 31 (0, 0)) (by (with_reducible repeat (first | refine blk_drewN ?_ _ | refine blk_drew ?_ | refine blk_alloc ?_ _)); exact BK161.out) hb); have n3_ := Aside0.mk (blk_below (g := gb162) (o := .cells #[.int .i64 t159, .int .i64 t160] 31 (0, 0)) (by (with_reducible repeat (first | refine blk_drewN ?_ _ | refine blk_drew ?_ | refine blk_alloc ?_ _)); exact BK162.out) hb); have n4_ := Aside0.mk (below_step (by repeat (first | (with_reducible first | exact HB.out | apply below_alloc | apply pw_below_drewN | apply below_drew1 | refine below_set ?_ GE155.out | refine below_set ?_ GE156.out | refine below_set ?_ GE161.out | refine below_set ?_ GE162.out) | exact HB.out)) hb); clear BK155; clear BK156; clear BK161; clear BK162; clear HB; have BK155 := n0_; have BK156 := n1_; have BK161 := n2_; have BK162 := n3_; have HB := n4_; clear n0_ n1_ n2_ n3_ n4_; (try clear hb); (try clear hb2); (try clear hk); (try clear hi); have hcz144_0 : w143.cell? ⟨gb155, 0, none⟩ = some (.int .i64 t151) := (blk_cell BK155.out 0).trans rfl; have hcz144_1 : w143.cell? ⟨gb155, 1, none⟩ = some (.int .i64 t152) := (blk_cell BK155.out 1).trans rfl; have hfz144_0 := blk_frozen BK155.out 0; have hfz144_1 := blk_frozen BK155.out 1; have hcz145_0 : w143.cell? ⟨gb161, 0, none⟩ = some (.int .i64 t157) := (blk_cell BK161.out 0).trans rfl; have hcz145_1 : w143.cell? ⟨gb161, 1, none⟩ = some (.int .i64 t158) := (blk_cell BK161.out 1).trans rfl; have hfz145_0 := blk_frozen BK161.out 0; have hfz145_1 := blk_frozen BK161.out 1) | (go_at_call 20; (with_reducible refine (impl_BrdBeats.calls kj7 t151 t152 t157 t158 t175 _ A128.out).mono ?_); rintro e w146 ⟨rfl, hb⟩; have n0_ := Aside0.mk (blk_below (g := gb155) (o := .cells #[.int .i64 t151, .int .i64 t152] 31 (0, 0)) (by (with_reducible repeat (first | refine blk_drewN ?_ _ | refine blk_drew ?_ | refine blk_alloc ?_ _)); exact BK155.out) hb); have n1_ := Aside0.mk (blk_below (g := gb156) (o := .cells #[.int .i64 t153, .int .i64 t154] 31 (0, 0)) (by (with_reducible repeat (first | refine blk_drewN ?_ _ | refine blk_drew ?_ | refine blk_alloc ?_ _)); exact BK156.out) hb); have n2_ := Aside0.mk (blk_below (g := gb161) (o := .cells #[.int .i64 t157, .int .i64 t158] 31 (0, 0)) (by (with_reducible repeat (first | refine blk_drewN ?_ _ | refine blk_drew ?_ | refine blk_alloc ?_ _)); exact BK161.out) hb); have n3_ := Aside0.mk (blk_below (g := gb162) (o := .cells #[.int .i64 t159, .int .i64 t160] 31 (0, 0)) (by (with_reducible repeat (first | refine blk_drewN ?_ _ | refine blk_drew ?_ | refine blk_alloc ?_ _)); exact BK162.out) hb); have n4_ := Aside0.mk (below_step (by repeat (first | (with_reducible first | exact HB.out | apply below_alloc | apply pw_below_drewN | apply below_drew1 | refine below_set ?_ GE155.out | refine below_set ?_ GE156.out | refine below_set ?_ GE161.out | refine below_set ?_ GE162.out) | exact HB.out)) hb); clear BK155; clear BK156; clear BK161; clear BK162; clear HB; have BK155 := n0_; have BK156 := n1_; have BK161 := n2_; have BK162 := n3_; have HB := n4_; clear n0_ n1_ n2_ n3_ n4_; (try clear hb); (try clear hb2); (try clear hk); (try clear hi)))
                      go_meet
                      case rel => exact ⟨_, (!t175), (by first | rfl | (simp; done) | (simp [*]; done)), H', ⟨by have := HJ2.out; have := HJ7.out; first | omega | exact Nat.le_refl _⟩, ⟨by (with_reducible repeat (first | refine blk_drewN ?_ _ | refine blk_drew ?_ | refine blk_alloc ?_ _)); exact BK155.out⟩, ⟨by (with_reducible repeat (first | refine blk_drewN ?_ _ | refine blk_drew ?_ | refine blk_alloc ?_ _)); exact BK156.out⟩, ⟨by (with_reducible repeat (first | refine blk_drewN ?_ _ | refine blk_drew ?_ | refine blk_alloc ?_ _)); exact BK161.out⟩, ⟨by (with_reducible repeat (first | refine blk_drewN ?_ _ | refine blk_drew ?_ | refine blk_alloc ?_ _)); exact BK162.out⟩, ⟨by repeat (first | (with_reducible first | exact HB.out | apply below_alloc | apply pw_below_drewN | apply below_drew1 | refine below_set ?_ GE155.out | refine below_set ?_ GE156.out | refine below_set ?_ GE161.out | refine below_set ?_ GE162.out) | exact HB.out)⟩⟩
                    · replace c127 := Bool.eq_false_iff.mpr c127
                      subst c127
                      have H1 : (laws_FnBrdBeats.j2 kj7 false t151 t152 t153 t154) = some r := by rw [if_neg (show ¬ (false = true) by decide)] at H; exact H
                      clear H
                      have H := H1
                      clear H1
                      have H' := Aside0.mk H
                      clear H
                      have hnb147 := NB155_156.out
                      have hnc147 := NB156_155.out
                      have hnb148 := NB155_161.out
                      have hnc148 := NB161_155.out
                      have hnb149 := NB155_162.out
                      have hnc149 := NB162_155.out
                      have hcz150_0 : wc.cell? ⟨gb155, 0, none⟩ = some (.int .i64 t151) := (blk_cell BK155.out 0).trans rfl
                      have hcz150_1 : wc.cell? ⟨gb155, 1, none⟩ = some (.int .i64 t152) := (blk_cell BK155.out 1).trans rfl
                      have hfz150_0 := blk_frozen BK155.out 0
                      have hfz150_1 := blk_frozen BK155.out 1
                      have hnb151 := NB156_161.out
                      have hnc151 := NB161_156.out
                      have hnb152 := NB156_162.out
                      have hnc152 := NB162_156.out
                      have hcz153_0 : wc.cell? ⟨gb156, 0, none⟩ = some (.int .i64 t153) := (blk_cell BK156.out 0).trans rfl
                      have hcz153_1 : wc.cell? ⟨gb156, 1, none⟩ = some (.int .i64 t154) := (blk_cell BK156.out 1).trans rfl
                      have hfz153_0 := blk_frozen BK156.out 0
                      have hfz153_1 := blk_frozen BK156.out 1
                      go_wp2_with (first | ((with_reducible refine gate_callee (f := 20) rfl ?_); refine goesL_ (some 50) rfl rfl Try.func20 (by kernel_rfl) rfl #[.agg #[.int .i64 t151, .int .i64 t152], .agg #[.int .i64 t153, .int .i64 t154]] rfl (by (try simp only [List.map_toArray, List.map_cons, List.map_nil]); first | done | rfl | (simp only [List.length_drop, List.length_take]; rfl)) ?_; (with_reducible refine (impl_BrdBeats.calls kj7 t151 t152 t153 t154 false _ A51.out).mono ?_); rintro e w154 ⟨rfl, hb⟩; refine ⟨_, rfl, ?_⟩; have n0_ := Aside0.mk (blk_below (g := gb155) (o := .cells #[.int .i64 t151, .int .i64 t152] 31 (0, 0)) (by (with_reducible repeat (first | refine blk_drewN ?_ _ | refine blk_drew ?_ | refine blk_alloc ?_ _)); exact BK155.out) hb); have n1_ := Aside0.mk (blk_below (g := gb156) (o := .cells #[.int .i64 t153, .int .i64 t154] 31 (0, 0)) (by (with_reducible repeat (first | refine blk_drewN ?_ _ | refine blk_drew ?_ | refine blk_alloc ?_ _)); exact BK156.out) hb); have n2_ := Aside0.mk (blk_below (g := gb161) (o := .cells #[.int .i64 t157, .int .i64 t158] 31 (0, 0)) (by (with_reducible repeat (first | refine blk_drewN ?_ _ | refine blk_drew ?_ | refine blk_alloc ?_ _)); exact BK161.out) hb); have n3_ := Aside0.mk (blk_below (g := gb162) (o := .cells #[.int .i64 t159, .int .i64 t160] 31 (0, 0)) (by (with_reducible repeat (first | refine blk_drewN ?_ _ | refine blk_drew ?_ | refine blk_alloc ?_ _)); exact BK162.out) hb); have n4_ := Aside0.mk (below_step (by repeat (first | (with_reducible first | exact HB.out | apply below_alloc | apply pw_below_drewN | apply below_drew1 | refine below_set ?_ GE155.out | refine below_set ?_ GE156.out | refine below_set ?_ GE161.out | refine below_set ?_ GE162.out) | exact HB.out)) hb); clear BK155; clear BK156; clear BK161; clear BK162; clear HB; have BK155 := n0_; have BK156 := n1_; have BK161 := n2_; have BK162 := n3_; have HB := n4_; clear n0_ n1_ n2_ n3_ n4_; (try clear hb); (try clear hb2); (try clear hk); (try clear hi); have hcz155_0 : w154.cell? ⟨gb155, 0, none⟩ = some (.int .i64 t151) := (blk_cell BK155.out 0).trans rfl; have hcz155_1 : w154.cell? ⟨gb155, 1, none⟩ = some (.int .i64 t152) := (blk_cell BK155.out 1).trans rfl; have hfz155_0 := blk_frozen BK155.out 0; have hfz155_1 := blk_frozen BK155.out 1; have hcz156_0 : w154.cell? ⟨gb156, 0, none⟩ = some (.int .i64 t153) := (blk_cell BK156.out 0).trans rfl; have hcz156_1 : w154.cell? ⟨gb156, 1, none⟩ = some (.int .i64 t154) := (blk_cell BK156.out 1).trans rfl; have hfz156_0 := blk_frozen BK156.out 0; have hfz156_1 := blk_frozen BK156.out 1) | (go_at_call 20; (with_reducible refine (impl_BrdBeats.calls kj7 t151 t152 t153 t154 true _ A124.out).mono ?_); rintro e w157 ⟨rfl, hb⟩; have n0_ := Aside0.mk (blk_below (g := gb155) (o := .cells #[.int .i64 t151, .int .i64 t152] 31 (0, 0)) (by (with_reducible repeat (first | refine blk_drewN ?_ _ | refine blk_drew ?_ | refine blk_alloc ?_ _)); exact BK155.out) hb); have n1_ := Aside0.mk (blk_below (g := gb156) (o := .cells #[.int .i64 t153, .int .i64 t154] 31 (0, 0)) (by (with_reducible repeat (first | refine blk_drewN ?_ _ | refine blk_drew ?_ | refine blk_alloc ?_ _)); exact BK156.out) hb); have n2_ := Aside0.mk (blk_below (g := gb161) (o := .cells #[.int .i64 t157, .int .i64 t158] 31 (0, 0)) (by (with_reducible repeat (first | refine blk_drewN ?_ _ | refine blk_drew ?_ | refine blk_alloc ?_ _)); exact BK161.out) hb); have n3_ := Aside0.mk (blk_below (g := gb162) (o := .cells #[.int .i64 t159, .int .i64 t160] 31 (0, 0)) (by (with_reducible repeat (first | refine blk_drewN ?_ _ | refine blk_drew ?_ | refine blk_alloc ?_ _)); exact BK162.out) hb); have n4_ := Aside0.mk (below_step (by repeat (first | (with_reducible first | exact HB.out | apply below_alloc | apply pw_below_drewN | apply below_drew1 | refine below_set ?_ GE155.out | refine below_set ?_ GE156.out | refine below_set ?_ GE161.out | refine below_set ?_ GE162.out) | exact HB.out)) hb); clear BK155; clear BK156; clear BK161; clear BK162; clear HB; have BK155 := n0_; have BK156 := n1_; have BK161 := n2_; have BK162 := n3_; have HB := n4_; clear n0_ n1_ n2_ n3_ n4_; (try clear hb); (try clear hb2); (try clear hk); (try clear hi); have hcz158_0 : w157.cell? ⟨gb156, 0, none⟩ = some (.int .i64 t153) := (blk_cell BK156.out 0).trans rfl; have hcz158_1 : w157.cell? ⟨gb156, 1, none⟩ = some (.int .i64 t154) := (blk_cell BK156.out 1).trans rfl; have hfz158_0 := blk_frozen BK156.out 0; have hfz158_1 := blk_frozen BK156.out 1; have hnb159 := NB161_162.out; have hnc159 := NB162_161.out; have hcz160_0 : w157.cell? ⟨gb161, 0, none⟩ = some (.int .i64 t157) := (blk_cell BK161.out 0).trans rfl; have hcz160_1 : w157.cell? ⟨gb161, 1, none⟩ = some (.int .i64 t158) := (blk_cell BK161.out 1).trans rfl; have hfz160_0 := blk_frozen BK161.out 0; have hfz160_1 := blk_frozen BK161.out 1) | (go_at_call 20; (with_reducible refine (impl_BrdBeats.calls kj7 t153 t154 t157 t158 false _ A126.out).mono ?_); rintro e w161 ⟨rfl, hb⟩; have n0_ := Aside0.mk (blk_below (g := gb155) (o := .cells #[.int .i64 t151, .int .i64 t152] 31 (0, 0)) (by (with_reducible repeat (first | refine blk_drewN ?_ _ | refine blk_drew ?_ | refine blk_alloc ?_ _)); exact BK155.out) hb); have n1_ := Aside0.mk (blk_below (g := gb156) (o := .cells #[.int .i64 t153, .int .i64 t154] 31 (0, 0)) (by (with_reducible repeat (first | refine blk_drewN ?_ _ | refine blk_drew ?_ | refine blk_alloc ?_ _)); exact BK156.out) hb); have n2_ := Aside0.mk (blk_below (g := gb161) (o := .cells #[.int .i64 t157, .int .i64 t158] 31 (0, 0)) (by (with_reducible repeat (first | refine blk_drewN ?_ _ | refine blk_drew ?_ | refine blk_alloc ?_ _)); exact BK161.out) hb); have n3_ := Aside0.mk (blk_below (g := gb162) (o := .cells #[.int .i64 t159, .int .i64 t160] 31 (0, 0)) (by (with_reducible repeat (first | refine blk_drewN ?_ _ | refine blk_drew ?_ | refine blk_alloc ?_ _)); exact BK162.out) hb); have n4_ := Aside0.mk (below_step (by repeat (first | (with_reducible first | exact HB.out | apply below_alloc | apply pw_below_drewN | apply below_drew1 | refine below_set ?_ GE155.out | refine below_set ?_ GE156.out | refine below_set ?_ GE161.out | refine below_set ?_ GE162.out) | exact HB.out)) hb); clear BK155; clear BK156; clear BK161; clear BK162; clear HB; have BK155 := n0_; have BK156 := n1_; have BK161 := n2_; have BK162 := n3_; have HB := n4_; clear n0_ n1_ n2_ n3_ n4_; (try clear hb); (try clear hb2); (try clear hk); (try clear hi)))
                      go_meet
                      case rel => exact ⟨_, (false), (by first | rfl | (simp; done) | (simp [*]; done)), H', ⟨by have := HJ2.out; have := HJ7.out; first | omega | exact Nat.le_refl _⟩, ⟨by (with_reducible repeat (first | refine blk_drewN ?_ _ | refine blk_drew ?_ | refine blk_alloc ?_ _)); exact BK155.out⟩, ⟨by (with_reducible repeat (first | refine blk_drewN ?_ _ | refine blk_drew ?_ | refine blk_alloc ?_ _)); exact BK156.out⟩, ⟨by (with_reducible repeat (first | refine blk_drewN ?_ _ | refine blk_drew ?_ | refine blk_alloc ?_ _)); exact BK161.out⟩, ⟨by (with_reducible repeat (first | refine blk_drewN ?_ _ | refine blk_drew ?_ | refine blk_alloc ?_ _)); exact BK162.out⟩, ⟨by repeat (first | (with_reducible first | exact HB.out | apply below_alloc | apply pw_below_drewN | apply below_drew1 | refine below_set ?_ GE155.out | refine below_set ?_ GE156.out | refine below_set ?_ GE161.out | refine below_set ?_ GE162.out) | exact HB.out)⟩⟩
                  · replace c125 := Bool.eq_false_iff.mpr c125
                    subst c125
                    have H1 : (laws_FnBrdBeats.j2 kj7 false t151 t152 t153 t154) = some r := by rw [if_neg (show ¬ (false = true) by decide)] at H; exact H
                    clear H
                    have H := H1
                    clear H1
                    have H' := Aside0.mk H
                    clear H
                    have hnb162 := NB155_156.out
                    have hnc162 := NB156_155.out
                    have hnb163 := NB155_161.out
                    have hnc163 := NB161_155.out
                    have hnb164 := NB155_162.out
                    have hnc164 := NB162_155.out
                    have hcz165_0 : wc.cell? ⟨gb155, 0, none⟩ = some (.int .i64 t151) := (blk_cell BK155.out 0).trans rfl
                    have hcz165_1 : wc.cell? ⟨gb155, 1, none⟩ = some (.int .i64 t152) := (blk_cell BK155.out 1).trans rfl
                    have hfz165_0 := blk_frozen BK155.out 0
                    have hfz165_1 := blk_frozen BK155.out 1
                    have hnb166 := NB156_161.out
                    have hnc166 := NB161_156.out
                    have hnb167 := NB156_162.out
                    have hnc167 := NB162_156.out
                    have hcz168_0 : wc.cell? ⟨gb156, 0, none⟩ = some (.int .i64 t153) := (blk_cell BK156.out 0).trans rfl
                    have hcz168_1 : wc.cell? ⟨gb156, 1, none⟩ = some (.int .i64 t154) := (blk_cell BK156.out 1).trans rfl
                    have hfz168_0 := blk_frozen BK156.out 0
                    have hfz168_1 := blk_frozen BK156.out 1
                    go_wp2_with (first | ((with_reducible refine gate_callee (f := 20) rfl ?_); refine goesL_ (some 50) rfl rfl Try.func20 (by kernel_rfl) rfl #[.agg #[.int .i64 t151, .int .i64 t152], .agg #[.int .i64 t153, .int .i64 t154]] rfl (by (try simp only [List.map_toArray, List.map_cons, List.map_nil]); first | done | rfl | (simp only [List.length_drop, List.length_take]; rfl)) ?_; (with_reducible refine (impl_BrdBeats.calls kj7 t151 t152 t153 t154 false _ A51.out).mono ?_); rintro e w169 ⟨rfl, hb⟩; refine ⟨_, rfl, ?_⟩; have n0_ := Aside0.mk (blk_below (g := gb155) (o := .cells #[.int .i64 t151, .int .i64 t152] 31 (0, 0)) (by (with_reducible repeat (first | refine blk_drewN ?_ _ | refine blk_drew ?_ | refine blk_alloc ?_ _)); exact BK155.out) hb); have n1_ := Aside0.mk (blk_below (g := gb156) (o := .cells #[.int .i64 t153, .int .i64 t154] 31 (0, 0)) (by (with_reducible repeat (first | refine blk_drewN ?_ _ | refine blk_drew ?_ | refine blk_alloc ?_ _)); exact BK156.out) hb); have n2_ := Aside0.mk (blk_below (g := gb161) (o := .cells #[.int .i64 t157, .int .i64 t158] 31 (0, 0)) (by (with_reducible repeat (first | refine blk_drewN ?_ _ | refine blk_drew ?_ | refine blk_alloc ?_ _)); exact BK161.out) hb); have n3_ := Aside0.mk (blk_below (g := gb162) (o := .cells #[.int .i64 t159, .int .i64 t160] 31 (0, 0)) (by (with_reducible repeat (first | refine blk_drewN ?_ _ | refine blk_drew ?_ | refine blk_alloc ?_ _)); exact BK162.out) hb); have n4_ := Aside0.mk (below_step (by repeat (first | (with_reducible first | exact HB.out | apply below_alloc | apply pw_below_drewN | apply below_drew1 | refine below_set ?_ GE155.out | refine below_set ?_ GE156.out | refine below_set ?_ GE161.out | refine below_set ?_ GE162.out) | exact HB.out)) hb); clear BK155; clear BK156; clear BK161; clear BK162; clear HB; have BK155 := n0_; have BK156 := n1_; have BK161 := n2_; have BK162 := n3_; have HB := n4_; clear n0_ n1_ n2_ n3_ n4_; (try clear hb); (try clear hb2); (try clear hk); (try clear hi); have hcz170_0 : w169.cell? ⟨gb155, 0, none⟩ = some (.int .i64 t151) := (blk_cell BK155.out 0).trans rfl; have hcz170_1 : w169.cell? ⟨gb155, 1, none⟩ = some (.int .i64 t152) := (blk_cell BK155.out 1).trans rfl; have hfz170_0 := blk_frozen BK155.out 0; have hfz170_1 := blk_frozen BK155.out 1; have hcz171_0 : w169.cell? ⟨gb156, 0, none⟩ = some (.int .i64 t153) := (blk_cell BK156.out 0).trans rfl; have hcz171_1 : w169.cell? ⟨gb156, 1, none⟩ = some (.int .i64 t154) := (blk_cell BK156.out 1).trans rfl; have hfz171_0 := blk_frozen BK156.out 0; have hfz171_1 := blk_frozen BK156.out 1) | (go_at_call 20; (with_reducible refine (impl_BrdBeats.calls kj7 t151 t152 t153 t154 false _ A124.out).mono ?_); rintro e w172 ⟨rfl, hb⟩; have n0_ := Aside0.mk (blk_below (g := gb155) (o := .cells #[.int .i64 t151, .int .i64 t152] 31 (0, 0)) (by (with_reducible repeat (first | refine blk_drewN ?_ _ | refine blk_drew ?_ | refine blk_alloc ?_ _)); exact BK155.out) hb); have n1_ := Aside0.mk (blk_below (g := gb156) (o := .cells #[.int .i64 t153, .int .i64 t154] 31 (0, 0)) (by (with_reducible repeat (first | refine blk_drewN ?_ _ | refine blk_drew ?_ | refine blk_alloc ?_ _)); exact BK156.out) hb); have n2_ := Aside0.mk (blk_below (g := gb161) (o := .cells #[.int .i64 t157, .int .i64 t158] 31 (0, 0)) (by (with_reducible repeat (first | refine blk_drewN ?_ _ | refine blk_drew ?_ | refine blk_alloc ?_ _)); exact BK161.out) hb); have n3_ := Aside0.mk (blk_below (g := gb162) (o := .cells #[.int .i64 t159, .int .i64 t160] 31 (0, 0)) (by (with_reducible repeat (first | refine blk_drewN ?_ _ | refine blk_drew ?_ | refine blk_alloc ?_ _)); exact BK162.out) hb); have n4_ := Aside0.mk (below_step (by repeat (first | (with_reducible first | exact HB.out | apply below_alloc | apply pw_below_drewN | apply below_drew1 | refine below_set ?_ GE155.out | refine below_set ?_ GE156.out | refine below_set ?_ GE161.out | refine below_set ?_ GE162.out) | exact HB.out)) hb); clear BK155; clear BK156; clear BK161; clear BK162; clear HB; have BK155 := n0_; have BK156 := n1_; have BK161 := n2_; have BK162 := n3_; have HB := n4_; clear n0_ n1_ n2_ n3_ n4_; (try clear hb); (try clear hb2); (try clear hk); (try clear hi)))
                    go_meet
                    case rel => exact ⟨_, (false), (by first | rfl | (simp; done) | (simp [*]; done)), H', ⟨by have := HJ2.out; have := HJ7.out; first | omega | exact Nat.le_refl _⟩, ⟨by (with_reducible repeat (first | refine blk_drewN ?_ _ | refine blk_drew ?_ | refine blk_alloc ?_ _)); exact BK155.out⟩, ⟨by (with_reducible repeat (first | refine blk_drewN ?_ _ | refine blk_drew ?_ | refine blk_alloc ?_ _)); exact BK156.out⟩, ⟨by (with_reducible repeat (first | refine blk_drewN ?_ _ | refine blk_drew ?_ | refine blk_alloc ?_ _)); exact BK161.out⟩, ⟨by (with_reducible repeat (first | refine blk_drewN ?_ _ | refine blk_drew ?_ | refine blk_alloc ?_ _)); exact BK162.out⟩, ⟨by repeat (first | (with_reducible first | exact HB.out | apply below_alloc | apply pw_below_drewN | apply below_drew1 | refine below_set ?_ GE155.out | refine below_set ?_ GE156.out | refine below_set ?_ GE161.out | refine below_set ?_ GE162.out) | exact HB.out)⟩⟩
              case rest =>
                clear HC50
                try clear c1
                try clear c2
                try clear p2
                try clear c3
                try clear c4
                try clear c5
                try clear c6
                try clear c7
                try clear c8
                try clear c9
                try clear c10
                try clear c11
                try clear c12
                try clear c13
                try clear c14
                try clear c15
                try clear c16
                try clear c18
                try clear c20
                try clear c34
                try clear c34b0
                try clear c34b1
                try clear c34b2
                try clear c49
                try clear c52
                try clear c54
                try clear c55
                try clear c56
                try clear c57
                try clear c59
                try clear c60
                try clear c67
                try clear c69
                try clear c71
                try clear c72
                try clear c73
                try clear c75
                try clear c76
                try clear c86
                try clear c92
                try clear c93
                try clear c94
                try clear c96
                try clear c97
                try clear c107
                try clear c110
                try clear c111
                try clear c112
                try clear c114
                try clear c115
                try clear c125
                try clear c127
                try clear c129
                try clear c130
                try clear c131
                try clear c133
                try clear c134
                try clear c141
                try clear c147
                try clear c148
                try clear c149
                try clear c151
                try clear c152
                try clear c159
                try clear c162
                try clear c163
                try clear c164
                try clear c166
                try clear c167
                try clear hcz100_0
                try clear hcz100_1
                try clear hcz101_0
                try clear hcz101_1
                try clear hcz103_0
                try clear hcz103_1
                try clear hcz104_0
                try clear hcz104_1
                try clear hcz106_0
                try clear hcz106_1
                try clear hcz108_0
                try clear hcz108_1
                try clear hcz113_0
                try clear hcz113_1
                try clear hcz116_0
                try clear hcz116_1
                try clear hcz118_0
                try clear hcz118_1
                try clear hcz119_0
                try clear hcz119_1
                try clear hcz121_0
                try clear hcz121_1
                try clear hcz122_0
                try clear hcz122_1
                try clear hcz132_0
                try clear hcz132_1
                try clear hcz135_0
                try clear hcz135_1
                try clear hcz137_0
                try clear hcz137_1
                try clear hcz138_0
                try clear hcz138_1
                try clear hcz140_0
                try clear hcz140_1
                try clear hcz142_0
                try clear hcz142_1
                try clear hcz144_0
                try clear hcz144_1
                try clear hcz145_0
                try clear hcz145_1
                try clear hcz150_0
                try clear hcz150_1
                try clear hcz153_0
                try clear hcz153_1
                try clear hcz155_0
                try clear hcz155_1
                try clear hcz156_0
                try clear hcz156_1
                try clear hcz158_0
                try clear hcz158_1
                try clear hcz160_0
                try clear hcz160_1
                try clear hcz165_0
                try clear hcz165_1
                try clear hcz168_0
                try clear hcz168_1
                try clear hcz170_0
                try clear hcz170_1
                try clear hcz171_0
                try clear hcz171_1
                try clear hcz58_0
                try clear hcz58_1
                try clear hcz61_0
                try clear hcz61_1
                try clear hcz63_0
                try clear hcz63_1
                try clear hcz64_0
                try clear hcz64_1
                try clear hcz74_0
                try clear hcz74_1
                try clear hcz77_0
                try clear hcz77_1
                try clear hcz79_0
                try clear hcz79_1
                try clear hcz80_0
                try clear hcz80_1
                try clear hcz82_0
                try clear hcz82_1
                try clear hcz83_0
                try clear hcz83_1
                try clear hcz85_0
                try clear hcz85_1
                try clear hcz87_0
                try clear hcz87_1
                try clear hcz89_0
                try clear hcz89_1
                try clear hcz90_0
                try clear hcz90_1
                try clear hcz95_0
                try clear hcz95_1
                try clear hcz98_0
                try clear hcz98_1
                try clear hfz100_0
                try clear hfz100_1
                try clear hfz101_0
                try clear hfz101_1
                try clear hfz103_0
                try clear hfz103_1
                try clear hfz104_0
                try clear hfz104_1
                try clear hfz106_0
                try clear hfz106_1
                try clear hfz108_0
                try clear hfz108_1
                try clear hfz113_0
                try clear hfz113_1
                try clear hfz116_0
                try clear hfz116_1
                try clear hfz118_0
                try clear hfz118_1
                try clear hfz119_0
                try clear hfz119_1
                try clear hfz121_0
                try clear hfz121_1
                try clear hfz122_0
                try clear hfz122_1
                try clear hfz132_0
                try clear hfz132_1
                try clear hfz135_0
                try clear hfz135_1
                try clear hfz137_0
                try clear hfz137_1
                try clear hfz138_0
                try clear hfz138_1
                try clear hfz140_0
                try clear hfz140_1
                try clear hfz142_0
                try clear hfz142_1
                try clear hfz144_0
                try clear hfz144_1
                try clear hfz145_0
                try clear hfz145_1
                try clear hfz150_0
                try clear hfz150_1
                try clear hfz153_0
                try clear hfz153_1
                try clear hfz155_0
                try clear hfz155_1
                try clear hfz156_0
                try clear hfz156_1
                try clear hfz158_0
                try clear hfz158_1
                try clear hfz160_0
                try clear hfz160_1
                try clear hfz165_0
                try clear hfz165_1
                try clear hfz168_0
                try clear hfz168_1
                try clear hfz170_0
                try clear hfz170_1
                try clear hfz171_0
                try clear hfz171_1
                try clear hfz58_0
                try clear hfz58_1
                try clear hfz61_0
                try clear hfz61_1
                try clear hfz63_0
                try clear hfz63_1
                try clear hfz64_0
                try clear hfz64_1
                try clear hfz74_0
                try clear hfz74_1
                try clear hfz77_0
                try clear hfz77_1
                try clear hfz79_0
                try clear hfz79_1
                try clear hfz80_0
                try clear hfz80_1
                try clear hfz82_0
                try clear hfz82_1
                try clear hfz83_0
                try clear hfz83_1
                try clear hfz85_0
                try clear hfz85_1
                try clear hfz87_0
                try clear hfz87_1
                try clear hfz89_0
                try clear hfz89_1
                try clear hfz90_0
                try clear hfz90_1
                try clear hfz95_0
                try clear hfz95_1
                try clear hfz98_0
                try clear hfz98_1
                try clear p2
                obtain ⟨kq, x71_49, rfl, HA, HJ49, BK155, BK156, BK161, BK162, HB⟩ := hcut
                cases kq with
                | zero => exact absurd HA.out (by simp [laws_FnBrdBeats.j2])
                | succ kj49 =>
                  have H := HA.out
                  clear HA
                  simp only [laws_FnBrdBeats.j2] at H
                  by_cases c173 : x71_49 = true
                  · subst c173
                    have H1 : (some false) = some r := by rw [if_pos rfl] at H; exact H
                    clear H
                    have H := H1
                    clear H1
                    obtain rfl := Option.some.inj H
                    go_wp2
                    go_ret
                    exact ⟨by first | rfl | (simp [errW_none, errW_some] <;> rfl) | (simp [*, errW_none, errW_some] <;> rfl), by repeat (first | (with_reducible first | exact HB.out | apply below_alloc | apply pw_below_drewN | apply below_drew1 | refine below_set ?_ GE155.out | refine below_set ?_ GE156.out | refine below_set ?_ GE161.out | refine below_set ?_ GE162.out) | exact HB.out)⟩
                  · replace c173 := Bool.eq_false_iff.mpr c173
                    subst c173
                    have H1 : ((spec_BrdOk.f kj49 t151 t152).bind fun t176 => (if t176 = true then ((spec_BrdOk.f kj49 t153 t154).bind fun t177 => (if t177 = true then (if (!(t151 == t153) || (!(t152 == t154))) = true then ((impl_BrdBeats.f kj49 t151 t152 t153 t154).bind fun t178 => (if t178 = true then ((impl_BrdBeats.f kj49 4 0 3 3).bind fun t179 => (some t179)) else ((impl_BrdBeats.f kj49 t153 t154 t151 t152).bind fun t180 => (if t180 = true then ((impl_BrdBeats.f kj49 4 0 3 3).bind fun t181 => (some t181)) else (some false))))) else ((impl_BrdBeats.f kj49 4 0 3 3).bind fun t182 => (some t182))) else ((impl_BrdBeats.f kj49 4 0 3 3).bind fun t183 => (some t183)))) else ((impl_BrdBeats.f kj49 4 0 3 3).bind fun t184 => (some t184)))) = some r := by rw [if_neg (show ¬ (false = true) by decide)] at H; exact H
                    clear H
                    have H := H1
                    clear H1
                    replace H := Option.bind_eq_some_iff.mp H
                    obtain ⟨t176, A1740, H⟩ := H
                    replace H : (if t176 = true then ((spec_BrdOk.f kj49 t153 t154).bind fun t177 => (if t177 = true then (if (!(t151 == t153) || (!(t152 == t154))) = true then ((impl_BrdBeats.f kj49 t151 t152 t153 t154).bind fun t178 => (if t178 = true then ((impl_BrdBeats.f kj49 4 0 3 3).bind fun t179 => (some t179)) else ((impl_BrdBeats.f kj49 t153 t154 t151 t152).bind fun t180 => (if t180 = true then ((impl_BrdBeats.f kj49 4 0 3 3).bind fun t181 => (some t181)) else (some false))))) else ((impl_BrdBeats.f kj49 4 0 3 3).bind fun t182 => (some t182))) else ((impl_BrdBeats.f kj49 4 0 3 3).bind fun t183 => (some t183)))) else ((impl_BrdBeats.f kj49 4 0 3 3).bind fun t184 => (some t184))) = some r := H
                    have A174 := Aside0.mk A1740
                    clear A1740
                    by_cases c175 : t176 = true
                    · subst c175
                      have H1 : ((spec_BrdOk.f kj49 t153 t154).bind fun t177 => (if t177 = true then (if (!(t151 == t153) || (!(t152 == t154))) = true then ((impl_BrdBeats.f kj49 t151 t152 t153 t154).bind fun t178 => (if t178 = true then ((impl_BrdBeats.f kj49 4 0 3 3).bind fun t179 => (some t179)) else ((impl_BrdBeats.f kj49 t153 t154 t151 t152).bind fun t180 => (if t180 = true then ((impl_BrdBeats.f kj49 4 0 3 3).bind fun t181 => (some t181)) else (some false))))) else ((impl_BrdBeats.f kj49 4 0 3 3).bind fun t182 => (some t182))) else ((impl_BrdBeats.f kj49 4 0 3 3).bind fun t183 => (some t183)))) = some r := by rw [if_pos rfl] at H; exact H
                      clear H
                      have H := H1
                      clear H1
                      replace H := Option.bind_eq_some_iff.mp H
                      obtain ⟨t177, A1760, H⟩ := H
                      replace H : (if t177 = true then (if (!(t151 == t153) || (!(t152 == t154))) = true then ((impl_BrdBeats.f kj49 t151 t152 t153 t154).bind fun t178 => (if t178 = true then ((impl_BrdBeats.f kj49 4 0 3 3).bind fun t179 => (some t179)) else ((impl_BrdBeats.f kj49 t153 t154 t151 t152).bind fun t180 => (if t180 = true then ((impl_BrdBeats.f kj49 4 0 3 3).bind fun t181 => (some t181)) else (some false))))) else ((impl_BrdBeats.f kj49 4 0 3 3).bind fun t182 => (some t182))) else ((impl_BrdBeats.f kj49 4 0 3 3).bind fun t183 => (some t183))) = some r := H
                      have A176 := Aside0.mk A1760
                      clear A1760
                      by_cases c177 : t177 = true
                      · subst c177
                        have H1 : (if (!(t151 == t153) || (!(t152 == t154))) = true then ((impl_BrdBeats.f kj49 t151 t152 t153 t154).bind fun t178 => (if t178 = true then ((impl_BrdBeats.f kj49 4 0 3 3).bind fun t179 => (some t179)) else ((impl_BrdBeats.f kj49 t153 t154 t151 t152).bind fun t180 => (if t180 = true then ((impl_BrdBeats.f kj49 4 0 3 3).bind fun t181 => (some t181)) else (some false))))) else ((impl_BrdBeats.f kj49 4 0 3 3).bind fun t182 => (some t182))) = some r := by rw [if_pos rfl] at H; exact H
                        clear H
                        have H := H1
                        clear H1
                        by_cases c178 : (!(t151 == t153) || (!(t152 == t154))) = true
                        · rw [if_pos c178] at H
                          have c178b0 : (!(t151 == t153) || (!(t152 == t154))) = true := c178
                          clear c178
                          replace H := Option.bind_eq_some_iff.mp H
                          obtain ⟨t178, A1790, H⟩ := H
                          replace H : (if t178 = true then ((impl_BrdBeats.f kj49 4 0 3 3).bind fun t179 => (some t179)) else ((impl_BrdBeats.f kj49 t153 t154 t151 t152).bind fun t180 => (if t180 = true then ((impl_BrdBeats.f kj49 4 0 3 3).bind fun t181 => (some t181)) else (some false)))) = some r := H
                          have A179 := Aside0.mk A1790
                          clear A1790
                          by_cases c180 : t178 = true
                          · subst c180
                            have H1 : ((impl_BrdBeats.f kj49 4 0 3 3).bind fun t179 => (some t179)) = some r := by rw [if_pos rfl] at H; exact H
                            clear H
                            have H := H1
                            clear H1
                            replace H := Option.bind_eq_some_iff.mp H
                            obtain ⟨t179, A1810, H⟩ := H
                            replace H : (some t179) = some r := H
                            have A181 := Aside0.mk A1810
                            clear A1810
                            obtain rfl := Option.some.inj H
                            have hnb182 := NB155_156.out
                            have hnc182 := NB156_155.out
                            have hnb183 := NB155_161.out
                            have hnc183 := NB161_155.out
                            have hnb184 := NB155_162.out
                            have hnc184 := NB162_155.out
                            have hcz185_0 : wc.cell? ⟨gb155, 0, none⟩ = some (.int .i64 t151) := (blk_cell BK155.out 0).trans rfl
                            have hcz185_1 : wc.cell? ⟨gb155, 1, none⟩ = some (.int .i64 t152) := (blk_cell BK155.out 1).trans rfl
                            have hfz185_0 := blk_frozen BK155.out 0
                            have hfz185_1 := blk_frozen BK155.out 1
                            go_wp2_with (first | ((with_reducible refine gate_callee (f := 42) rfl ?_); refine goesL_ (some 73) rfl rfl Try.func42 (by kernel_rfl) rfl #[.agg #[.int .i64 t151, .int .i64 t152]] rfl (by (try simp only [List.map_toArray, List.map_cons, List.map_nil]); first | done | rfl | (simp only [List.length_drop, List.length_take]; rfl)) ?_; (with_reducible refine (spec_BrdOk.calls kj49 t151 t152 true _ A174.out).mono ?_); rintro e w186 ⟨rfl, hb⟩; refine ⟨_, rfl, ?_⟩; have n0_ := Aside0.mk (blk_below (g := gb155) (o := .cells #[.int .i64 t151, .int .i64 t152] 31 (0, 0)) (by (with_reducible repeat (first | refine blk_drewN ?_ _ | refine blk_drew ?_ | refine blk_alloc ?_ _)); exact BK155.out) hb); have n1_ := Aside0.mk (blk_below (g := gb156) (o := .cells #[.int .i64 t153, .int .i64 t154] 31 (0, 0)) (by (with_reducible repeat (first | refine blk_drewN ?_ _ | refine blk_drew ?_ | refine blk_alloc ?_ _)); exact BK156.out) hb); have n2_ := Aside0.mk (blk_below (g := gb161) (o := .cells #[.int .i64 t157, .int .i64 t158] 31 (0, 0)) (by (with_reducible repeat (first | refine blk_drewN ?_ _ | refine blk_drew ?_ | refine blk_alloc ?_ _)); exact BK161.out) hb); have n3_ := Aside0.mk (blk_below (g := gb162) (o := .cells #[.int .i64 t159, .int .i64 t160] 31 (0, 0)) (by (with_reducible repeat (first | refine blk_drewN ?_ _ | refine blk_drew ?_ | refine blk_alloc ?_ _)); exact BK162.out) hb); have n4_ := Aside0.mk (below_step (by repeat (first | (with_reducible first | exact HB.out | apply below_alloc | apply pw_below_drewN | apply below_drew1 | refine below_set ?_ GE155.out | refine below_set ?_ GE156.out | refine below_set ?_ GE161.out | refine below_set ?_ GE162.out) | exact HB.out)) hb); clear BK155; clear BK156; clear BK161; clear BK162; clear HB; have BK155 := n0_; have BK156 := n1_; have BK161 := n2_; have BK162 := n3_; have HB := n4_; clear n0_ n1_ n2_ n3_ n4_; (try clear hb); (try clear hb2); (try clear hk); (try clear hi); have hnb187 := NB156_161.out; have hnc187 := NB161_156.out; have hnb188 := NB156_162.out; have hnc188 := NB162_156.out; have hcz189_0 : w186.cell? ⟨gb156, 0, none⟩ = some (.int .i64 t153) := (blk_cell BK156.out 0).trans rfl; have hcz189_1 : w186.cell? ⟨gb156, 1, none⟩ = some (.int .i64 t154) := (blk_cell BK156.out 1).trans rfl; have hfz189_0 := blk_frozen BK156.out 0; have hfz189_1 := blk_frozen BK156.out 1) | (go_at_call 42; (with_reducible refine (spec_BrdOk.calls kj49 t153 t154 true _ A176.out).mono ?_); rintro e w190 ⟨rfl, hb⟩; have n0_ := Aside0.mk (blk_below (g := gb155) (o := .cells #[.int .i64 t151, .int .i64 t152] 31 (0, 0)) (by (with_reducible repeat (first | refine blk_drewN ?_ _ | refine blk_drew ?_ | refine blk_alloc ?_ _)); exact BK155.out) hb); have n1_ := Aside0.mk (blk_below (g := gb156) (o := .cells #[.int .i64 t153, .int .i64 t154] 31 (0, 0)) (by (with_reducible repeat (first | refine blk_drewN ?_ _ | refine blk_drew ?_ | refine blk_alloc ?_ _)); exact BK156.out) hb); have n2_ := Aside0.mk (blk_below (g := gb161) (o := .cells #[.int .i64 t157, .int .i64 t158] 31 (0, 0)) (by (with_reducible repeat (first | refine blk_drewN ?_ _ | refine blk_drew ?_ | refine blk_alloc ?_ _)); exact BK161.out) hb); have n3_ := Aside0.mk (blk_below (g := gb162) (o := .cells #[.int .i64 t159, .int .i64 t160] 31 (0, 0)) (by (with_reducible repeat (first | refine blk_drewN ?_ _ | refine blk_drew ?_ | refine blk_alloc ?_ _)); exact BK162.out) hb); have n4_ := Aside0.mk (below_step (by repeat (first | (with_reducible first | exact HB.out | apply below_alloc | apply pw_below_drewN | apply below_drew1 | refine below_set ?_ GE155.out | refine below_set ?_ GE156.out | refine below_set ?_ GE161.out | refine below_set ?_ GE162.out) | exact HB.out)) hb); clear BK155; clear BK156; clear BK161; clear BK162; clear HB; have BK155 := n0_; have BK156 := n1_; have BK161 := n2_; have BK162 := n3_; have HB := n4_; clear n0_ n1_ n2_ n3_ n4_; (try clear hb); (try clear hb2); (try clear hk); (try clear hi); have hcz191_0 : w190.cell? ⟨gb155, 0, none⟩ = some (.int .i64 t151) := (blk_cell BK155.out 0).trans rfl; have hcz191_1 : w190.cell? ⟨gb155, 1, none⟩ = some (.int .i64 t152) := (blk_cell BK155.out 1).trans rfl; have hfz191_0 := blk_frozen BK155.out 0; have hfz191_1 := blk_frozen BK155.out 1; have hcz192_0 : w190.cell? ⟨gb156, 0, none⟩ = some (.int .i64 t153) := (blk_cell BK156.out 0).trans rfl; have hcz192_1 : w190.cell? ⟨gb156, 1, none⟩ = some (.int .i64 t154) := (blk_cell BK156.out 1).trans rfl; have hfz192_0 := blk_frozen BK156.out 0; have hfz192_1 := blk_frozen BK156.out 1) | (go_at_call 20; (with_reducible refine (impl_BrdBeats.calls kj49 t151 t152 t153 t154 true _ A179.out).mono ?_); rintro e w193 ⟨rfl, hb⟩; have n0_ := Aside0.mk (blk_below (g := gb155) (o := .cells #[.int .i64 t151, .int .i64 t152] 31 (0, 0)) (by (with_reducible repeat (first | refine blk_drewN ?_ _ | refine blk_drew ?_ | refine blk_alloc ?_ _)); exact BK155.out) hb); have n1_ := Aside0.mk (blk_below (g := gb156) (o := .cells #[.int .i64 t153, .int .i64 t154] 31 (0, 0)) (by (with_reducible repeat (first | refine blk_drewN ?_ _ | refine blk_drew ?_ | refine blk_alloc ?_ _)); exact BK156.out) hb); have n2_ := Aside0.mk (blk_below (g := gb161) (o := .cells #[.int .i64 t157, .int .i64 t158] 31 (0, 0)) (by (with_reducible repeat (first | refine blk_drewN ?_ _ | refine blk_drew ?_ | refine blk_alloc ?_ _)); exact BK161.out) hb); have n3_ := Aside0.mk (blk_below (g := gb162) (o := .cells #[.int .i64 t159, .int .i64 t160] 31 (0, 0)) (by (with_reducible repeat (first | refine blk_drewN ?_ _ | refine blk_drew ?_ | refine blk_alloc ?_ _)); exact BK162.out) hb); have n4_ := Aside0.mk (below_step (by repeat (first | (with_reducible first | exact HB.out | apply below_alloc | apply pw_below_drewN | apply below_drew1 | refine below_set ?_ GE155.out | refine below_set ?_ GE156.out | refine below_set ?_ GE161.out | refine below_set ?_ GE162.out) | exact HB.out)) hb); clear BK155; clear BK156; clear BK161; clear BK162; clear HB; have BK155 := n0_; have BK156 := n1_; have BK161 := n2_; have BK162 := n3_; have HB := n4_; clear n0_ n1_ n2_ n3_ n4_; (try clear hb); (try clear hb2); (try clear hk); (try clear hi)) | ((with_reducible refine gate_callee (f := 20) rfl ?_); refine goesL_ (some 97) rfl rfl Try.func20 (by kernel_rfl) rfl #[.agg #[.int .i64 4, .int .i64 0], .agg #[.int .i64 3, .int .i64 3]] rfl (by (try simp only [List.map_toArray, List.map_cons, List.map_nil]); first | done | rfl | (simp only [List.length_drop, List.length_take]; rfl)) ?_; (with_reducible refine (impl_BrdBeats.calls kj49 4 0 3 3 t179 _ A181.out).mono ?_); rintro e w194 ⟨rfl, hb⟩; refine ⟨_, rfl, ?_⟩; have n0_ := Aside0.mk (blk_below (g := gb155) (o := .cells #[.int .i64 t151, .int .i64 t152] 31 (0, 0)) (by (with_reducible repeat (first | refine blk_drewN ?_ _ | refine blk_drew ?_ | refine blk_alloc ?_ _)); exact BK155.out) hb); have n1_ := Aside0.mk (blk_below (g := gb156) (o := .cells #[.int .i64 t153, .int .i64 t154] 31 (0, 0)) (by (with_reducible repeat (first | refine blk_drewN ?_ _ | refine blk_drew ?_ | refine blk_alloc ?_ _)); exact BK156.out) hb); have n2_ := Aside0.mk (blk_below (g := gb161) (o := .cells #[.int .i64 t157, .int .i64 t158] 31 (0, 0)) (by (with_reducible repeat (first | refine blk_drewN ?_ _ | refine blk_drew ?_ | refine blk_alloc ?_ _)); exact BK161.out) hb); have n3_ := Aside0.mk (blk_below (g := gb162) (o := .cells #[.int .i64 t159, .int .i64 t160] 31 (0, 0)) (by (with_reducible repeat (first | refine blk_drewN ?_ _ | refine blk_drew ?_ | refine blk_alloc ?_ _)); exact BK162.out) hb); have n4_ := Aside0.mk (below_step (by repeat (first | (with_reducible first | exact HB.out | apply below_alloc | apply pw_below_drewN | apply below_drew1 | refine below_set ?_ GE155.out | refine below_set ?_ GE156.out | refine below_set ?_ GE161.out | refine below_set ?_ GE162.out) | exact HB.out)) hb); clear BK155; clear BK156; clear BK161; clear BK162; clear HB; have BK155 := n0_; have BK156 := n1_; have BK161 := n2_; have BK162 := n3_; have HB := n4_; clear n0_ n1_ n2_ n3_ n4_; (try clear hb); (try clear hb2); (try clear hk); (try clear hi)))
                            go_ret
                            exact ⟨by first | rfl | (simp [errW_none, errW_some] <;> rfl) | (simp [*, errW_none, errW_some] <;> rfl), by repeat (first | (with_reducible first | exact HB.out | apply below_alloc | apply pw_below_drewN | apply below_drew1 | refine below_set ?_ GE155.out | refine below_set ?_ GE156.out | refine below_set ?_ GE161.out | refine below_set ?_ GE162.out) | exact HB.out)⟩
                          · replace c180 := Bool.eq_false_iff.mpr c180
                            subst c180
                            have H1 : ((impl_BrdBeats.f kj49 t153 t154 t151 t152).bind fun t180 => (if t180 = true then ((impl_BrdBeats.f kj49 4 0 3 3).bind fun t181 => (some t181)) else (some false))) = some r := by rw [if_neg (show ¬ (false = true) by decide)] at H; exact H
                            clear H
                            have H := H1
                            clear H1
                            replace H := Option.bind_eq_some_iff.mp H
                            obtain ⟨t180, A1950, H⟩ := H
                            replace H : (if t180 = true then ((impl_BrdBeats.f kj49 4 0 3 3).bind fun t181 => (some t181)) else (some false)) = some r := H
                            have A195 := Aside0.mk A1950
                            clear A1950
                            by_cases c196 : t180 = true
                            · subst c196
                              have H1 : ((impl_BrdBeats.f kj49 4 0 3 3).bind fun t181 => (some t181)) = some r := by rw [if_pos rfl] at H; exact H
                              clear H
                              have H := H1
                              clear H1
                              replace H := Option.bind_eq_some_iff.mp H
                              obtain ⟨t181, A1970, H⟩ := H
                              replace H : (some t181) = some r := H
                              have A197 := Aside0.mk A1970
                              clear A1970
                              obtain rfl := Option.some.inj H
                              have hnb198 := NB155_156.out
                              have hnc198 := NB156_155.out
                              have hnb199 := NB155_161.out
                              have hnc199 := NB161_155.out
                              have hnb200 := NB155_162.out
                              have hnc200 := NB162_155.out
                              have hcz201_0 : wc.cell? ⟨gb155, 0, none⟩ = some (.int .i64 t151) := (blk_cell BK155.out 0).trans rfl
                              have hcz201_1 : wc.cell? ⟨gb155, 1, none⟩ = some (.int .i64 t152) := (blk_cell BK155.out 1).trans rfl
                              have hfz201_0 := blk_frozen BK155.out 0
                              have hfz201_1 := blk_frozen BK155.out 1
                              go_wp2_with (first | ((with_reducible refine gate_callee (f := 42) rfl ?_); refine goesL_ (some 73) rfl rfl Try.func42 (by kernel_rfl) rfl #[.agg #[.int .i64 t151, .int .i64 t152]] rfl (by (try simp only [List.map_toArray, List.map_cons, List.map_nil]); first | done | rfl | (simp only [List.length_drop, List.length_take]; rfl)) ?_; (with_reducible refine (spec_BrdOk.calls kj49 t151 t152 true _ A174.out).mono ?_); rintro e w202 ⟨rfl, hb⟩; refine ⟨_, rfl, ?_⟩; have n0_ := Aside0.mk (blk_below (g := gb155) (o := .cells #[.int .i64 t151, .int .i64 t152] 31 (0, 0)) (by (with_reducible repeat (first | refine blk_drewN ?_ _ | refine blk_drew ?_ | refine blk_alloc ?_ _)); exact BK155.out) hb); have n1_ := Aside0.mk (blk_below (g := gb156) (o := .cells #[.int .i64 t153, .int .i64 t154] 31 (0, 0)) (by (with_reducible repeat (first | refine blk_drewN ?_ _ | refine blk_drew ?_ | refine blk_alloc ?_ _)); exact BK156.out) hb); have n2_ := Aside0.mk (blk_below (g := gb161) (o := .cells #[.int .i64 t157, .int .i64 t158] 31 (0, 0)) (by (with_reducible repeat (first | refine blk_drewN ?_ _ | refine blk_drew ?_ | refine blk_alloc ?_ _)); exact BK161.out) hb); have n3_ := Aside0.mk (blk_below (g := gb162) (o := .cells #[.int .i64 t159, .int .i64 t160] 31 (0, 0)) (by (with_reducible repeat (first | refine blk_drewN ?_ _ | refine blk_drew ?_ | refine blk_alloc ?_ _)); exact BK162.out) hb); have n4_ := Aside0.mk (below_step (by repeat (first | (with_reducible first | exact HB.out | apply below_alloc | apply pw_below_drewN | apply below_drew1 | refine below_set ?_ GE155.out | refine below_set ?_ GE156.out | refine below_set ?_ GE161.out | refine below_set ?_ GE162.out) | exact HB.out)) hb); clear BK155; clear BK156; clear BK161; clear BK162; clear HB; have BK155 := n0_; have BK156 := n1_; have BK161 := n2_; have BK162 := n3_; have HB := n4_; clear n0_ n1_ n2_ n3_ n4_; (try clear hb); (try clear hb2); (try clear hk); (try clear hi); have hnb203 := NB156_161.out; have hnc203 := NB161_156.out; have hnb204 := NB156_162.out; have hnc204 := NB162_156.out; have hcz205_0 : w202.cell? ⟨gb156, 0, none⟩ = some (.int .i64 t153) := (blk_cell BK156.out 0).trans rfl; have hcz205_1 : w202.cell? ⟨gb156, 1, none⟩ = some (.int .i64 t154) := (blk_cell BK156.out 1).trans rfl; have hfz205_0 := blk_frozen BK156.out 0; have hfz205_1 := blk_frozen BK156.out 1) | (go_at_call 42; (with_reducible refine (spec_BrdOk.calls kj49 t153 t154 true _ A176.out).mono ?_); rintro e w206 ⟨rfl, hb⟩; have n0_ := Aside0.mk (blk_below (g := gb155) (o := .cells #[.int .i64 t151, .int .i64 t152] 31 (0, 0)) (by (with_reducible repeat (first | refine blk_drewN ?_ _ | refine blk_drew ?_ | refine blk_alloc ?_ _)); exact BK155.out) hb); have n1_ := Aside0.mk (blk_below (g := gb156) (o := .cells #[.int .i64 t153, .int .i64 t154] 31 (0, 0)) (by (with_reducible repeat (first | refine blk_drewN ?_ _ | refine blk_drew ?_ | refine blk_alloc ?_ _)); exact BK156.out) hb); have n2_ := Aside0.mk (blk_below (g := gb161) (o := .cells #[.int .i64 t157, .int .i64 t158] 31 (0, 0)) (by (with_reducible repeat (first | refine blk_drewN ?_ _ | refine blk_drew ?_ | refine blk_alloc ?_ _)); exact BK161.out) hb); have n3_ := Aside0.mk (blk_below (g := gb162) (o := .cells #[.int .i64 t159, .int .i64 t160] 31 (0, 0)) (by (with_reducible repeat (first | refine blk_drewN ?_ _ | refine blk_drew ?_ | refine blk_alloc ?_ _)); exact BK162.out) hb); have n4_ := Aside0.mk (below_step (by repeat (first | (with_reducible first | exact HB.out | apply below_alloc | apply pw_below_drewN | apply below_drew1 | refine below_set ?_ GE155.out | refine below_set ?_ GE156.out | refine below_set ?_ GE161.out | refine below_set ?_ GE162.out) | exact HB.out)) hb); clear BK155; clear BK156; clear BK161; clear BK162; clear HB; have BK155 := n0_; have BK156 := n1_; have BK161 := n2_; have BK162 := n3_; have HB := n4_; clear n0_ n1_ n2_ n3_ n4_; (try clear hb); (try clear hb2); (try clear hk); (try clear hi); have hcz207_0 : w206.cell? ⟨gb155, 0, none⟩ = some (.int .i64 t151) := (blk_cell BK155.out 0).trans rfl; have hcz207_1 : w206.cell? ⟨gb155, 1, none⟩ = some (.int .i64 t152) := (blk_cell BK155.out 1).trans rfl; have hfz207_0 := blk_frozen BK155.out 0; have hfz207_1 := blk_frozen BK155.out 1; have hcz208_0 : w206.cell? ⟨gb156, 0, none⟩ = some (.int .i64 t153) := (blk_cell BK156.out 0).trans rfl; have hcz208_1 : w206.cell? ⟨gb156, 1, none⟩ = some (.int .i64 t154) := (blk_cell BK156.out 1).trans rfl; have hfz208_0 := blk_frozen BK156.out 0; have hfz208_1 := blk_frozen BK156.out 1) | (go_at_call 20; (with_reducible refine (impl_BrdBeats.calls kj49 t151 t152 t153 t154 false _ A179.out).mono ?_); rintro e w209 ⟨rfl, hb⟩; have n0_ := Aside0.mk (blk_below (g := gb155) (o := .cells #[.int .i64 t151, .int .i64 t152] 31 (0, 0)) (by (with_reducible repeat (first | refine blk_drewN ?_ _ | refine blk_drew ?_ | refine blk_alloc ?_ _)); exact BK155.out) hb); have n1_ := Aside0.mk (blk_below (g := gb156) (o := .cells #[.int .i64 t153, .int .i64 t154] 31 (0, 0)) (by (with_reducible repeat (first | refine blk_drewN ?_ _ | refine blk_drew ?_ | refine blk_alloc ?_ _)); exact BK156.out) hb); have n2_ := Aside0.mk (blk_below (g := gb161) (o := .cells #[.int .i64 t157, .int .i64 t158] 31 (0, 0)) (by (with_reducible repeat (first | refine blk_drewN ?_ _ | refine blk_drew ?_ | refine blk_alloc ?_ _)); exact BK161.out) hb); have n3_ := Aside0.mk (blk_below (g := gb162) (o := .cells #[.int .i64 t159, .int .i64 t160] 31 (0, 0)) (by (with_reducible repeat (first | refine blk_drewN ?_ _ | refine blk_drew ?_ | refine blk_alloc ?_ _)); exact BK162.out) hb); have n4_ := Aside0.mk (below_step (by repeat (first | (with_reducible first | exact HB.out | apply below_alloc | apply pw_below_drewN | apply below_drew1 | refine below_set ?_ GE155.out | refine below_set ?_ GE156.out | refine below_set ?_ GE161.out | refine below_set ?_ GE162.out) | exact HB.out)) hb); clear BK155; clear BK156; clear BK161; clear BK162; clear HB; have BK155 := n0_; have BK156 := n1_; have BK161 := n2_; have BK162 := n3_; have HB := n4_; clear n0_ n1_ n2_ n3_ n4_; (try clear hb); (try clear hb2); (try clear hk); (try clear hi); have hcz210_0 : w209.cell? ⟨gb156, 0, none⟩ = some (.int .i64 t153) := (blk_cell BK156.out 0).trans rfl; have hcz210_1 : w209.cell? ⟨gb156, 1, none⟩ = some (.int .i64 t154) := (blk_cell BK156.out 1).trans rfl; have hfz210_0 := blk_frozen BK156.out 0; have hfz210_1 := blk_frozen BK156.out 1; have hcz211_0 : w209.cell? ⟨gb155, 0, none⟩ = some (.int .i64 t151) := (blk_cell BK155.out 0).trans rfl; have hcz211_1 : w209.cell? ⟨gb155, 1, none⟩ = some (.int .i64 t152) := (blk_cell BK155.out 1).trans rfl; have hfz211_0 := blk_frozen BK155.out 0; have hfz211_1 := blk_frozen BK155.out 1) | (go_at_call 20; (with_reducible refine (impl_BrdBeats.calls kj49 t153 t154 t151 t152 true _ A195.out).mono ?_); rintro e w212 ⟨rfl, hb⟩; have n0_ := Aside0.mk (blk_below (g := gb155) (o := .cells #[.int .i64 t151, .int .i64 t152] 31 (0, 0)) (by (with_reducible repeat (first | refine blk_drewN ?_ _ | refine blk_drew ?_ | refine blk_alloc ?_ _)); exact BK155.out) hb); have n1_ := Aside0.mk (blk_below (g := gb156) (o := .cells #[.int .i64 t153, .int .i64 t154] 31 (0, 0)) (by (with_reducible repeat (first | refine blk_drewN ?_ _ | refine blk_drew ?_ | refine blk_alloc ?_ _)); exact BK156.out) hb); have n2_ := Aside0.mk (blk_below (g := gb161) (o := .cells #[.int .i64 t157, .int .i64 t158] 31 (0, 0)) (by (with_reducible repeat (first | refine blk_drewN ?_ _ | refine blk_drew ?_ | refine blk_alloc ?_ _)); exact BK161.out) hb); have n3_ := Aside0.mk (blk_below (g := gb162) (o := .cells #[.int .i64 t159, .int .i64 t160] 31 (0, 0)) (by (with_reducible repeat (first | refine blk_drewN ?_ _ | refine blk_drew ?_ | refine blk_alloc ?_ _)); exact BK162.out) hb); have n4_ := Aside0.mk (below_step (by repeat (first | (with_reducible first | exact HB.out | apply below_alloc | apply pw_below_drewN | apply below_drew1 | refine below_set ?_ GE155.out | refine below_set ?_ GE156.out | refine below_set ?_ GE161.out | refine below_set ?_ GE162.out) | exact HB.out)) hb); clear BK155; clear BK156; clear BK161; clear BK162; clear HB; have BK155 := n0_; have BK156 := n1_; have BK161 := n2_; have BK162 := n3_; have HB := n4_; clear n0_ n1_ n2_ n3_ n4_; (try clear hb); (try clear hb2); (try clear hk); (try clear hi)) | ((with_reducible refine gate_callee (f := 20) rfl ?_); refine goesL_ (some 97) rfl rfl Try.func20 (by kernel_rfl) rfl #[.agg #[.int .i64 4, .int .i64 0], .agg #[.int .i64 3, .int .i64 3]] rfl (by (try simp only [List.map_toArray, List.map_cons, List.map_nil]); first | done | rfl | (simp only [List.length_drop, List.length_take]; rfl)) ?_; (with_reducible refine (impl_BrdBeats.calls kj49 4 0 3 3 t181 _ A197.out).mono ?_); rintro e w213 ⟨rfl, hb⟩; refine ⟨_, rfl, ?_⟩; have n0_ := Aside0.mk (blk_below (g := gb155) (o := .cells #[.int .i64 t151, .int .i64 t152] 31 (0, 0)) (by (with_reducible repeat (first | refine blk_drewN ?_ _ | refine blk_drew ?_ | refine blk_alloc ?_ _)); exact BK155.out) hb); have n1_ := Aside0.mk (blk_below (g := gb156) (o := .cells #[.int .i64 t153, .int .i64 t154] 31 (0, 0)) (by (with_reducible repeat (first | refine blk_drewN ?_ _ | refine blk_drew ?_ | refine blk_alloc ?_ _)); exact BK156.out) hb); have n2_ := Aside0.mk (blk_below (g := gb161) (o := .cells #[.int .i64 t157, .int .i64 t158] 31 (0, 0)) (by (with_reducible repeat (first | refine blk_drewN ?_ _ | refine blk_drew ?_ | refine blk_alloc ?_ _)); exact BK161.out) hb); have n3_ := Aside0.mk (blk_below (g := gb162) (o := .cells #[.int .i64 t159, .int .i64 t160] 31 (0, 0)) (by (with_reducible repeat (first | refine blk_drewN ?_ _ | refine blk_drew ?_ | refine blk_alloc ?_ _)); exact BK162.out) hb); have n4_ := Aside0.mk (below_step (by repeat (first | (with_reducible first | exact HB.out | apply below_alloc | apply pw_below_drewN | apply below_drew1 | refine below_set ?_ GE155.out | refine below_set ?_ GE156.out | refine below_set ?_ GE161.out | refine below_set ?_ GE162.out) | exact HB.out)) hb); clear BK155; clear BK156; clear BK161; clear BK162; clear HB; have BK155 := n0_; have BK156 := n1_; have BK161 := n2_; have BK162 := n3_; have HB := n4_; clear n0_ n1_ n2_ n3_ n4_; (try clear hb); (try clear hb2); (try clear hk); (try clear hi)))
                              go_ret
                              exact ⟨by first | rfl | (simp [errW_none, errW_some] <;> rfl) | (simp [*, errW_none, errW_some] <;> rfl), by repeat (first | (with_reducible first | exact HB.out | apply below_alloc | apply pw_below_drewN | apply below_drew1 | refine below_set ?_ GE155.out | refine below_set ?_ GE156.out | refine below_set ?_ GE161.out | refine below_set ?_ GE162.out) | exact HB.out)⟩
                            · replace c196 := Bool.eq_false_iff.mpr c196
                              subst c196
                              have H1 : (some false) = some r := by rw [if_neg (show ¬ (false = true) by decide)] at H; exact H
                              clear H
                              have H := H1
                              clear H1
                              obtain rfl := Option.some.inj H
                              have hnb214 := NB155_156.out
                              have hnc214 := NB156_155.out
                              have hnb215 := NB155_161.out
                              have hnc215 := NB161_155.out
                              have hnb216 := NB155_162.out
                              have hnc216 := NB162_155.out
                              have hcz217_0 : wc.cell? ⟨gb155, 0, none⟩ = some (.int .i64 t151) := (blk_cell BK155.out 0).trans rfl
                              have hcz217_1 : wc.cell? ⟨gb155, 1, none⟩ = some (.int .i64 t152) := (blk_cell BK155.out 1).trans rfl
                              have hfz217_0 := blk_frozen BK155.out 0
                              have hfz217_1 := blk_frozen BK155.out 1
                              go_wp2_with (first | ((with_reducible refine gate_callee (f := 42) rfl ?_); refine goesL_ (some 73) rfl rfl Try.func42 (by kernel_rfl) rfl #[.agg #[.int .i64 t151, .int .i64 t152]] rfl (by (try simp only [List.map_toArray, List.map_cons, List.map_nil]); first | done | rfl | (simp only [List.length_drop, List.length_take]; rfl)) ?_; (with_reducible refine (spec_BrdOk.calls kj49 t151 t152 true _ A174.out).mono ?_); rintro e w218 ⟨rfl, hb⟩; refine ⟨_, rfl, ?_⟩; have n0_ := Aside0.mk (blk_below (g := gb155) (o := .cells #[.int .i64 t151, .int .i64 t152] 31 (0, 0)) (by (with_reducible repeat (first | refine blk_drewN ?_ _ | refine blk_drew ?_ | refine blk_alloc ?_ _)); exact BK155.out) hb); have n1_ := Aside0.mk (blk_below (g := gb156) (o := .cells #[.int .i64 t153, .int .i64 t154] 31 (0, 0)) (by (with_reducible repeat (first | refine blk_drewN ?_ _ | refine blk_drew ?_ | refine blk_alloc ?_ _)); exact BK156.out) hb); have n2_ := Aside0.mk (blk_below (g := gb161) (o := .cells #[.int .i64 t157, .int .i64 t158] 31 (0, 0)) (by (with_reducible repeat (first | refine blk_drewN ?_ _ | refine blk_drew ?_ | refine blk_alloc ?_ _)); exact BK161.out) hb); have n3_ := Aside0.mk (blk_below (g := gb162) (o := .cells #[.int .i64 t159, .int .i64 t160] 31 (0, 0)) (by (with_reducible repeat (first | refine blk_drewN ?_ _ | refine blk_drew ?_ | refine blk_alloc ?_ _)); exact BK162.out) hb); have n4_ := Aside0.mk (below_step (by repeat (first | (with_reducible first | exact HB.out | apply below_alloc | apply pw_below_drewN | apply below_drew1 | refine below_set ?_ GE155.out | refine below_set ?_ GE156.out | refine below_set ?_ GE161.out | refine below_set ?_ GE162.out) | exact HB.out)) hb); clear BK155; clear BK156; clear BK161; clear BK162; clear HB; have BK155 := n0_; have BK156 := n1_; have BK161 := n2_; have BK162 := n3_; have HB := n4_; clear n0_ n1_ n2_ n3_ n4_; (try clear hb); (try clear hb2); (try clear hk); (try clear hi); have hnb219 := NB156_161.out; have hnc219 := NB161_156.out; have hnb220 := NB156_162.out; have hnc220 := NB162_156.out; have hcz221_0 : w218.cell? ⟨gb156, 0, none⟩ = some (.int .i64 t153) := (blk_cell BK156.out 0).trans rfl; have hcz221_1 : w218.cell? ⟨gb156, 1, none⟩ = some (.int .i64 t154) := (blk_cell BK156.out 1).trans rfl; have hfz221_0 := blk_frozen BK156.out 0; have hfz221_1 := blk_frozen BK156.out 1) | (go_at_call 42; (with_reducible refine (spec_BrdOk.calls kj49 t153 t154 true _ A176.out).mono ?_); rintro e w222 ⟨rfl, hb⟩; have n0_ := Aside0.mk (blk_below (g := gb155) (o := .cells #[.int .i64 t151, .int .i64 t152] 31 (0, 0)) (by (with_reducible repeat (first | refine blk_drewN ?_ _ | refine blk_drew ?_ | refine blk_alloc ?_ _)); exact BK155.out) hb); have n1_ := Aside0.mk (blk_below (g := gb156) (o := .cells #[.int .i64 t153, .int .i64 t154] 31 (0, 0)) (by (with_reducible repeat (first | refine blk_drewN ?_ _ | refine blk_drew ?_ | refine blk_alloc ?_ _)); exact BK156.out) hb); have n2_ := Aside0.mk (blk_below (g := gb161) (o := .cells #[.int .i64 t157, .int .i64 t158] 31 (0, 0)) (by (with_reducible repeat (first | refine blk_drewN ?_ _ | refine blk_drew ?_ | refine blk_alloc ?_ _)); exact BK161.out) hb); have n3_ := Aside0.mk (blk_below (g := gb162) (o := .cells #[.int .i64 t159, .int .i64 t160] 31 (0, 0)) (by (with_reducible repeat (first | refine blk_drewN ?_ _ | refine blk_drew ?_ | refine blk_alloc ?_ _)); exact BK162.out) hb); have n4_ := Aside0.mk (below_step (by repeat (first | (with_reducible first | exact HB.out | apply below_alloc | apply pw_below_drewN | apply below_drew1 | refine below_set ?_ GE155.out | refine below_set ?_ GE156.out | refine below_set ?_ GE161.out | refine below_set ?_ GE162.out) | exact HB.out)) hb); clear BK155; clear BK156; clear BK161; clear BK162; clear HB; have BK155 := n0_; have BK156 := n1_; have BK161 := n2_; have BK162 := n3_; have HB := n4_; clear n0_ n1_ n2_ n3_ n4_; (try clear hb); (try clear hb2); (try clear hk); (try clear hi); have hcz223_0 : w222.cell? ⟨gb155, 0, none⟩ = some (.int .i64 t151) := (blk_cell BK155.out 0).trans rfl; have hcz223_1 : w222.cell? ⟨gb155, 1, none⟩ = some (.int .i64 t152) := (blk_cell BK155.out 1).trans rfl; have hfz223_0 := blk_frozen BK155.out 0; have hfz223_1 := blk_frozen BK155.out 1; have hcz224_0 : w222.cell? ⟨gb156, 0, none⟩ = some (.int .i64 t153) := (blk_cell BK156.out 0).trans rfl; have hcz224_1 : w222.cell? ⟨gb156, 1, none⟩ = some (.int .i64 t154) := (blk_cell BK156.out 1).trans rfl; have hfz224_0 := blk_frozen BK156.out 0; have hfz224_1 := blk_frozen BK156.out 1) | (go_at_call 20; (with_reducible refine (impl_BrdBeats.calls kj49 t151 t152 t153 t154 false _ A179.out).mono ?_); rintro e w225 ⟨rfl, hb⟩; have n0_ := Aside0.mk (blk_below (g := gb155) (o := .cells #[.int .i64 t151, .int .i64 t152] 31 (0, 0)) (by (with_reducible repeat (first | refine blk_drewN ?_ _ | refine blk_drew ?_ | refine blk_alloc ?_ _)); exact BK155.out) hb); have n1_ := Aside0.mk (blk_below (g := gb156) (o := .cells #[.int .i64 t153, .int .i64 t154] 31 (0, 0)) (by (with_reducible repeat (first | refine blk_drewN ?_ _ | refine blk_drew ?_ | refine blk_alloc ?_ _)); exact BK156.out) hb); have n2_ := Aside0.mk (blk_below (g := gb161) (o := .cells #[.int .i64 t157, .int .i64 t158] 31 (0, 0)) (by (with_reducible repeat (first | refine blk_drewN ?_ _ | refine blk_drew ?_ | refine blk_alloc ?_ _)); exact BK161.out) hb); have n3_ := Aside0.mk (blk_below (g := gb162) (o := .cells #[.int .i64 t159, .int .i64 t160] 31 (0, 0)) (by (with_reducible repeat (first | refine blk_drewN ?_ _ | refine blk_drew ?_ | refine blk_alloc ?_ _)); exact BK162.out) hb); have n4_ := Aside0.mk (below_step (by repeat (first | (with_reducible first | exact HB.out | apply below_alloc | apply pw_below_drewN | apply below_drew1 | refine below_set ?_ GE155.out | refine below_set ?_ GE156.out | refine below_set ?_ GE161.out | refine below_set ?_ GE162.out) | exact HB.out)) hb); clear BK155; clear BK156; clear BK161; clear BK162; clear HB; have BK155 := n0_; have BK156 := n1_; have BK161 := n2_; have BK162 := n3_; have HB := n4_; clear n0_ n1_ n2_ n3_ n4_; (try clear hb); (try clear hb2); (try clear hk); (try clear hi); have hcz226_0 : w225.cell? ⟨gb156, 0, none⟩ = some (.int .i64 t153) := (blk_cell BK156.out 0).trans rfl; have hcz226_1 : w225.cell? ⟨gb156, 1, none⟩ = some (.int .i64 t154) := (blk_cell BK156.out 1).trans rfl; have hfz226_0 := blk_frozen BK156.out 0; have hfz226_1 := blk_frozen BK156.out 1; have hcz227_0 : w225.cell? ⟨gb155, 0, none⟩ = some (.int .i64 t151) := (blk_cell BK155.out 0).trans rfl; have hcz227_1 : w225.cell? ⟨gb155, 1, none⟩ = some (.int .i64 t152) := (blk_cell BK155.out 1).trans rfl; have hfz227_0 := blk_frozen BK155.out 0; have hfz227_1 := blk_frozen BK155.out 1) | (go_at_call 20; (with_reducible refine (impl_BrdBeats.calls kj49 t153 t154 t151 t152 false _ A195.out).mono ?_); rintro e w228 ⟨rfl, hb⟩; have n0_ := Aside0.mk (blk_below (g := gb155) (o := .cells #[.int .i64 t151, .int .i64 t152] 31 (0, 0)) (by (with_reducible repeat (first | refine blk_drewN ?_ _ | refine blk_drew ?_ | refine blk_alloc ?_ _)); exact BK155.out) hb); have n1_ := Aside0.mk (blk_below (g := gb156) (o := .cells #[.int .i64 t153, .int .i64 t154] 31 (0, 0)) (by (with_reducible repeat (first | refine blk_drewN ?_ _ | refine blk_drew ?_ | refine blk_alloc ?_ _)); exact BK156.out) hb); have n2_ := Aside0.mk (blk_below (g := gb161) (o := .cells #[.int .i64 t157, .int .i64 t158] 31 (0, 0)) (by (with_reducible repeat (first | refine blk_drewN ?_ _ | refine blk_drew ?_ | refine blk_alloc ?_ _)); exact BK161.out) hb); have n3_ := Aside0.mk (blk_below (g := gb162) (o := .cells #[.int .i64 t159, .int .i64 t160] 31 (0, 0)) (by (with_reducible repeat (first | refine blk_drewN ?_ _ | refine blk_drew ?_ | refine blk_alloc ?_ _)); exact BK162.out) hb); have n4_ := Aside0.mk (below_step (by repeat (first | (with_reducible first | exact HB.out | apply below_alloc | apply pw_below_drewN | apply below_drew1 | refine below_set ?_ GE155.out | refine below_set ?_ GE156.out | refine below_set ?_ GE161.out | refine below_set ?_ GE162.out) | exact HB.out)) hb); clear BK155; clear BK156; clear BK161; clear BK162; clear HB; have BK155 := n0_; have BK156 := n1_; have BK161 := n2_; have BK162 := n3_; have HB := n4_; clear n0_ n1_ n2_ n3_ n4_; (try clear hb); (try clear hb2); (try clear hk); (try clear hi)))
                              go_ret
                              exact ⟨by first | rfl | (simp [errW_none, errW_some] <;> rfl) | (simp [*, errW_none, errW_some] <;> rfl), by repeat (first | (with_reducible first | exact HB.out | apply below_alloc | apply pw_below_drewN | apply below_drew1 | refine below_set ?_ GE155.out | refine below_set ?_ GE156.out | refine below_set ?_ GE161.out | refine below_set ?_ GE162.out) | exact HB.out)⟩
                        · rw [if_neg c178] at H
                          have c178b0 : (!(t151 == t153) || (!(t152 == t154))) = false := by simpa using c178
                          clear c178
                          replace H := Option.bind_eq_some_iff.mp H
                          obtain ⟨t182, A2290, H⟩ := H
                          replace H : (some t182) = some r := H
                          have A229 := Aside0.mk A2290
                          clear A2290
                          obtain rfl := Option.some.inj H
                          have hnb230 := NB155_156.out
                          have hnc230 := NB156_155.out
                          have hnb231 := NB155_161.out
                          have hnc231 := NB161_155.out
                          have hnb232 := NB155_162.out
                          have hnc232 := NB162_155.out
                          have hcz233_0 : wc.cell? ⟨gb155, 0, none⟩ = some (.int .i64 t151) := (blk_cell BK155.out 0).trans rfl
                          have hcz233_1 : wc.cell? ⟨gb155, 1, none⟩ = some (.int .i64 t152) := (blk_cell BK155.out 1).trans rfl
                          have hfz233_0 := blk_frozen BK155.out 0
                          have hfz233_1 := blk_frozen BK155.out 1
                          go_wp2_with (first | ((with_reducible refine gate_callee (f := 42) rfl ?_); refine goesL_ (some 73) rfl rfl Try.func42 (by kernel_rfl) rfl #[.agg #[.int .i64 t151, .int .i64 t152]] rfl (by (try simp only [List.map_toArray, List.map_cons, List.map_nil]); first | done | rfl | (simp only [List.length_drop, List.length_take]; rfl)) ?_; (with_reducible refine (spec_BrdOk.calls kj49 t151 t152 true _ A174.out).mono ?_); rintro e w234 ⟨rfl, hb⟩; refine ⟨_, rfl, ?_⟩; have n0_ := Aside0.mk (blk_below (g := gb155) (o := .cells #[.int .i64 t151, .int .i64 t152] 31 (0, 0)) (by (with_reducible repeat (first | refine blk_drewN ?_ _ | refine blk_drew ?_ | refine blk_alloc ?_ _)); exact BK155.out) hb); have n1_ := Aside0.mk (blk_below (g := gb156) (o := .cells #[.int .i64 t153, .int .i64 t154] 31 (0, 0)) (by (with_reducible repeat (first | refine blk_drewN ?_ _ | refine blk_drew ?_ | refine blk_alloc ?_ _)); exact BK156.out) hb); have n2_ := Aside0.mk (blk_below (g := gb161) (o := .cells #[.int .i64 t157, .int .i64 t158] 31 (0, 0)) (by (with_reducible repeat (first | refine blk_drewN ?_ _ | refine blk_drew ?_ | refine blk_alloc ?_ _)); exact BK161.out) hb); have n3_ := Aside0.mk (blk_below (g := gb162) (o := .cells #[.int .i64 t159, .int .i64 t160] 31 (0, 0)) (by (with_reducible repeat (first | refine blk_drewN ?_ _ | refine blk_drew ?_ | refine blk_alloc ?_ _)); exact BK162.out) hb); have n4_ := Aside0.mk (below_step (by repeat (first | (with_reducible first | exact HB.out | apply below_alloc | apply pw_below_drewN | apply below_drew1 | refine below_set ?_ GE155.out | refine below_set ?_ GE156.out | refine below_set ?_ GE161.out | refine below_set ?_ GE162.out) | exact HB.out)) hb); clear BK155; clear BK156; clear BK161; clear BK162; clear HB; have BK155 := n0_; have BK156 := n1_; have BK161 := n2_; have BK162 := n3_; have HB := n4_; clear n0_ n1_ n2_ n3_ n4_; (try clear hb); (try clear hb2); (try clear hk); (try clear hi); have hnb235 := NB156_161.out; have hnc235 := NB161_156.out; have hnb236 := NB156_162.out; have hnc236 := NB162_156.out; have hcz237_0 : w234.cell? ⟨gb156, 0, none⟩ = some (.int .i64 t153) := (blk_cell BK156.out 0).trans rfl; have hcz237_1 : w234.cell? ⟨gb156, 1, none⟩ = some (.int .i64 t154) := (blk_cell BK156.out 1).trans rfl; have hfz237_0 := blk_frozen BK156.out 0; have hfz237_1 := blk_frozen BK156.out 1) | (go_at_call 42; (with_reducible refine (spec_BrdOk.calls kj49 t153 t154 true _ A176.out).mono ?_); rintro e w238 ⟨rfl, hb⟩; have n0_ := Aside0.mk (blk_below (g := gb155) (o := .cells #[.int .i64 t151, .int .i64 t152] 31 (0, 0)) (by (with_reducible repeat (first | refine blk_drewN ?_ _ | refine blk_drew ?_ | refine blk_alloc ?_ _)); exact BK155.out) hb); have n1_ := Aside0.mk (blk_below (g := gb156) (o := .cells #[.int .i64 t153, .int .i64 t154] 31 (0, 0)) (by (with_reducible repeat (first | refine blk_drewN ?_ _ | refine blk_drew ?_ | refine blk_alloc ?_ _)); exact BK156.out) hb); have n2_ := Aside0.mk (blk_below (g := gb161) (o := .cells #[.int .i64 t157, .int .i64 t158] 31 (0, 0)) (by (with_reducible repeat (first | refine blk_drewN ?_ _ | refine blk_drew ?_ | refine blk_alloc ?_ _)); exact BK161.out) hb); have n3_ := Aside0.mk (blk_below (g := gb162) (o := .cells #[.int .i64 t159, .int .i64 t160] 31 (0, 0)) (by (with_reducible repeat (first | refine blk_drewN ?_ _ | refine blk_drew ?_ | refine blk_alloc ?_ _)); exact BK162.out) hb); have n4_ := Aside0.mk (below_step (by repeat (first | (with_reducible first | exact HB.out | apply below_alloc | apply pw_below_drewN | apply below_drew1 | refine below_set ?_ GE155.out | refine below_set ?_ GE156.out | refine below_set ?_ GE161.out | refine below_set ?_ GE162.out) | exact HB.out)) hb); clear BK155; clear BK156; clear BK161; clear BK162; clear HB; have BK155 := n0_; have BK156 := n1_; have BK161 := n2_; have BK162 := n3_; have HB := n4_; clear n0_ n1_ n2_ n3_ n4_; (try clear hb); (try clear hb2); (try clear hk); (try clear hi); have hcz239_0 : w238.cell? ⟨gb155, 0, none⟩ = some (.int .i64 t151) := (blk_cell BK155.out 0).trans rfl; have hcz239_1 : w238.cell? ⟨gb155, 1, none⟩ = some (.int .i64 t152) := (blk_cell BK155.out 1).trans rfl; have hfz239_0 := blk_frozen BK155.out 0; have hfz239_1 := blk_frozen BK155.out 1; have hcz240_0 : w238.cell? ⟨gb156, 0, none⟩ = some (.int .i64 t153) := (blk_cell BK156.out 0).trans rfl; have hcz240_1 : w238.cell? ⟨gb156, 1, none⟩ = some (.int .i64 t154) := (blk_cell BK156.out 1).trans rfl; have hfz240_0 := blk_frozen BK156.out 0; have hfz240_1 := blk_frozen BK156.out 1) | ((with_reducible refine gate_callee (f := 20) rfl ?_); refine goesL_ (some 97) rfl rfl Try.func20 (by kernel_rfl) rfl #[.agg #[.int .i64 4, .int .i64 0], .agg #[.int .i64 3, .int .i64 3]] rfl (by (try simp only [List.map_toArray, List.map_cons, List.map_nil]); first | done | rfl | (simp only [List.length_drop, List.length_take]; rfl)) ?_; (with_reducible refine (impl_BrdBeats.calls kj49 4 0 3 3 t182 _ A229.out).mono ?_); rintro e w241 ⟨rfl, hb⟩; refine ⟨_, rfl, ?_⟩; have n0_ := Aside0.mk (blk_below (g := gb155) (o := .cells #[.int .i64 t151, .int .i64 t152] 31 (0, 0)) (by (with_reducible repeat (first | refine blk_drewN ?_ _ | refine blk_drew ?_ | refine blk_alloc ?_ _)); exact BK155.out) hb); have n1_ := Aside0.mk (blk_below (g := gb156) (o := .cells #[.int .i64 t153, .int .i64 t154] 31 (0, 0)) (by (with_reducible repeat (first | refine blk_drewN ?_ _ | refine blk_drew ?_ | refine blk_alloc ?_ _)); exact BK156.out) hb); have n2_ := Aside0.mk (blk_below (g := gb161) (o := .cells #[.int .i64 t157, .int .i64 t158] 31 (0, 0)) (by (with_reducible repeat (first | refine blk_drewN ?_ _ | refine blk_drew ?_ | refine blk_alloc ?_ _)); exact BK161.out) hb); have n3_ := Aside0.mk (blk_below (g := gb162) (o := .cells #[.int .i64 t159, .int .i64 t160] 31 (0, 0)) (by (with_reducible repeat (first | refine blk_drewN ?_ _ | refine blk_drew ?_ | refine blk_alloc ?_ _)); exact BK162.out) hb); have n4_ := Aside0.mk (below_step (by repeat (first | (with_reducible first | exact HB.out | apply below_alloc | apply pw_below_drewN | apply below_drew1 | refine below_set ?_ GE155.out | refine below_set ?_ GE156.out | refine below_set ?_ GE161.out | refine below_set ?_ GE162.out) | exact HB.out)) hb); clear BK155; clear BK156; clear BK161; clear BK162; clear HB; have BK155 := n0_; have BK156 := n1_; have BK161 := n2_; have BK162 := n3_; have HB := n4_; clear n0_ n1_ n2_ n3_ n4_; (try clear hb); (try clear hb2); (try clear hk); (try clear hi)))
                          go_ret
                          exact ⟨by first | rfl | (simp [errW_none, errW_some] <;> rfl) | (simp [*, errW_none, errW_some] <;> rfl), by repeat (first | (with_reducible first | exact HB.out | apply below_alloc | apply pw_below_drewN | apply below_drew1 | refine below_set ?_ GE155.out | refine below_set ?_ GE156.out | refine below_set ?_ GE161.out | refine below_set ?_ GE162.out) | exact HB.out)⟩
                      · replace c177 := Bool.eq_false_iff.mpr c177
                        subst c177
                        have H1 : ((impl_BrdBeats.f kj49 4 0 3 3).bind fun t183 => (some t183)) = some r := by rw [if_neg (show ¬ (false = true) by decide)] at H; exact H
                        clear H
                        have H := H1
                        clear H1
                        replace H := Option.bind_eq_some_iff.mp H
                        obtain ⟨t183, A2420, H⟩ := H
                        replace H : (some t183) = some r := H
                        have A242 := Aside0.mk A2420
                        clear A2420
                        obtain rfl := Option.some.inj H
                        have hnb243 := NB155_156.out
                        have hnc243 := NB156_155.out
                        have hnb244 := NB155_161.out
                        have hnc244 := NB161_155.out
                        have hnb245 := NB155_162.out
                        have hnc245 := NB162_155.out
                        have hcz246_0 : wc.cell? ⟨gb155, 0, none⟩ = some (.int .i64 t151) := (blk_cell BK155.out 0).trans rfl
                        have hcz246_1 : wc.cell? ⟨gb155, 1, none⟩ = some (.int .i64 t152) := (blk_cell BK155.out 1).trans rfl
                        have hfz246_0 := blk_frozen BK155.out 0
                        have hfz246_1 := blk_frozen BK155.out 1
                        go_wp2_with (first | ((with_reducible refine gate_callee (f := 42) rfl ?_); refine goesL_ (some 73) rfl rfl Try.func42 (by kernel_rfl) rfl #[.agg #[.int .i64 t151, .int .i64 t152]] rfl (by (try simp only [List.map_toArray, List.map_cons, List.map_nil]); first | done | rfl | (simp only [List.length_drop, List.length_take]; rfl)) ?_; (with_reducible refine (spec_BrdOk.calls kj49 t151 t152 true _ A174.out).mono ?_); rintro e w247 ⟨rfl, hb⟩; refine ⟨_, rfl, ?_⟩; have n0_ := Aside0.mk (blk_below (g := gb155) (o := .cells #[.int .i64 t151, .int .i64 t152] 31 (0, 0)) (by (with_reducible repeat (first | refine blk_drewN ?_ _ | refine blk_drew ?_ | refine blk_alloc ?_ _)); exact BK155.out) hb); have n1_ := Aside0.mk (blk_below (g := gb156) (o := .cells #[.int .i64 t153, .int .i64 t154] 31 (0, 0)) (by (with_reducible repeat (first | refine blk_drewN ?_ _ | refine blk_drew ?_ | refine blk_alloc ?_ _)); exact BK156.out) hb); have n2_ := Aside0.mk (blk_below (g := gb161) (o := .cells #[.int .i64 t157, .int .i64 t158] 31 (0, 0)) (by (with_reducible repeat (first | refine blk_drewN ?_ _ | refine blk_drew ?_ | refine blk_alloc ?_ _)); exact BK161.out) hb); have n3_ := Aside0.mk (blk_below (g := gb162) (o := .cells #[.int .i64 t159, .int .i64 t160] 31 (0, 0)) (by (with_reducible repeat (first | refine blk_drewN ?_ _ | refine blk_drew ?_ | refine blk_alloc ?_ _)); exact BK162.out) hb); have n4_ := Aside0.mk (below_step (by repeat (first | (with_reducible first | exact HB.out | apply below_alloc | apply pw_below_drewN | apply below_drew1 | refine below_set ?_ GE155.out | refine below_set ?_ GE156.out | refine below_set ?_ GE161.out | refine below_set ?_ GE162.out) | exact HB.out)) hb); clear BK155; clear BK156; clear BK161; clear BK162; clear HB; have BK155 := n0_; have BK156 := n1_; have BK161 := n2_; have BK162 := n3_; have HB := n4_; clear n0_ n1_ n2_ n3_ n4_; (try clear hb); (try clear hb2); (try clear hk); (try clear hi); have hnb248 := NB156_161.out; have hnc248 := NB161_156.out; have hnb249 := NB156_162.out; have hnc249 := NB162_156.out; have hcz250_0 : w247.cell? ⟨gb156, 0, none⟩ = some (.int .i64 t153) := (blk_cell BK156.out 0).trans rfl; have hcz250_1 : w247.cell? ⟨gb156, 1, none⟩ = some (.int .i64 t154) := (blk_cell BK156.out 1).trans rfl; have hfz250_0 := blk_frozen BK156.out 0; have hfz250_1 := blk_frozen BK156.out 1) | (go_at_call 42; (with_reducible refine (spec_BrdOk.calls kj49 t153 t154 false _ A176.out).mono ?_); rintro e w251 ⟨rfl, hb⟩; have n0_ := Aside0.mk (blk_below (g := gb155) (o := .cells #[.int .i64 t151, .int .i64 t152] 31 (0, 0)) (by (with_reducible repeat (first | refine blk_drewN ?_ _ | refine blk_drew ?_ | refine blk_alloc ?_ _)); exact BK155.out) hb); have n1_ := Aside0.mk (blk_below (g := gb156) (o := .cells #[.int .i64 t153, .int .i64 t154] 31 (0, 0)) (by (with_reducible repeat (first | refine blk_drewN ?_ _ | refine blk_drew ?_ | refine blk_alloc ?_ _)); exact BK156.out) hb); have n2_ := Aside0.mk (blk_below (g := gb161) (o := .cells #[.int .i64 t157, .int .i64 t158] 31 (0, 0)) (by (with_reducible repeat (first | refine blk_drewN ?_ _ | refine blk_drew ?_ | refine blk_alloc ?_ _)); exact BK161.out) hb); have n3_ := Aside0.mk (blk_below (g := gb162) (o := .cells #[.int .i64 t159, .int .i64 t160] 31 (0, 0)) (by (with_reducible repeat (first | refine blk_drewN ?_ _ | refine blk_drew ?_ | refine blk_alloc ?_ _)); exact BK162.out) hb); have n4_ := Aside0.mk (below_step (by repeat (first | (with_reducible first | exact HB.out | apply below_alloc | apply pw_below_drewN | apply below_drew1 | refine below_set ?_ GE155.out | refine below_set ?_ GE156.out | refine below_set ?_ GE161.out | refine below_set ?_ GE162.out) | exact HB.out)) hb); clear BK155; clear BK156; clear BK161; clear BK162; clear HB; have BK155 := n0_; have BK156 := n1_; have BK161 := n2_; have BK162 := n3_; have HB := n4_; clear n0_ n1_ n2_ n3_ n4_; (try clear hb); (try clear hb2); (try clear hk); (try clear hi)) | ((with_reducible refine gate_callee (f := 20) rfl ?_); refine goesL_ (some 97) rfl rfl Try.func20 (by kernel_rfl) rfl #[.agg #[.int .i64 4, .int .i64 0], .agg #[.int .i64 3, .int .i64 3]] rfl (by (try simp only [List.map_toArray, List.map_cons, List.map_nil]); first | done | rfl | (simp only [List.length_drop, List.length_take]; rfl)) ?_; (with_reducible refine (impl_BrdBeats.calls kj49 4 0 3 3 t183 _ A242.out).mono ?_); rintro e w252 ⟨rfl, hb⟩; refine ⟨_, rfl, ?_⟩; have n0_ := Aside0.mk (blk_below (g := gb155) (o := .cells #[.int .i64 t151, .int .i64 t152] 31 (0, 0)) (by (with_reducible repeat (first | refine blk_drewN ?_ _ | refine blk_drew ?_ | refine blk_alloc ?_ _)); exact BK155.out) hb); have n1_ := Aside0.mk (blk_below (g := gb156) (o := .cells #[.int .i64 t153, .int .i64 t154] 31 (0, 0)) (by (with_reducible repeat (first | refine blk_drewN ?_ _ | refine blk_drew ?_ | refine blk_alloc ?_ _)); exact BK156.out) hb); have n2_ := Aside0.mk (blk_below (g := gb161) (o := .cells #[.int .i64 t157, .int .i64 t158] 31 (0, 0)) (by (with_reducible repeat (first | refine blk_drewN ?_ _ | refine blk_drew ?_ | refine blk_alloc ?_ _)); exact BK161.out) hb); have n3_ := Aside0.mk (blk_below (g := gb162) (o := .cells #[.int .i64 t159, .int .i64 t160] 31 (0, 0)) (by (with_reducible repeat (first | refine blk_drewN ?_ _ | refine blk_drew ?_ | refine blk_alloc ?_ _)); exact BK162.out) hb); have n4_ := Aside0.mk (below_step (by repeat (first | (with_reducible first | exact HB.out | apply below_alloc | apply pw_below_drewN | apply below_drew1 | refine below_set ?_ GE155.out | refine below_set ?_ GE156.out | refine below_set ?_ GE161.out | refine below_set ?_ GE162.out) | exact HB.out)) hb); clear BK155; clear BK156; clear BK161; clear BK162; clear HB; have BK155 := n0_; have BK156 := n1_; have BK161 := n2_; have BK162 := n3_; have HB := n4_; clear n0_ n1_ n2_ n3_ n4_; (try clear hb); (try clear hb2); (try clear hk); (try clear hi)))
                        go_ret
                        exact ⟨by first | rfl | (simp [errW_none, errW_some] <;> rfl) | (simp [*, errW_none, errW_some] <;> rfl), by repeat (first | (with_reducible first | exact HB.out | apply below_alloc | apply pw_below_drewN | apply below_drew1 | refine below_set ?_ GE155.out | refine below_set ?_ GE156.out | refine below_set ?_ GE161.out | refine below_set ?_ GE162.out) | exact HB.out)⟩
                    · replace c175 := Bool.eq_false_iff.mpr c175
                      subst c175
                      have H1 : ((impl_BrdBeats.f kj49 4 0 3 3).bind fun t184 => (some t184)) = some r := by rw [if_neg (show ¬ (false = true) by decide)] at H; exact H
                      clear H
                      have H := H1
                      clear H1
                      replace H := Option.bind_eq_some_iff.mp H
                      obtain ⟨t184, A2530, H⟩ := H
                      replace H : (some t184) = some r := H
                      have A253 := Aside0.mk A2530
                      clear A2530
                      obtain rfl := Option.some.inj H
                      have hnb254 := NB155_156.out
                      have hnc254 := NB156_155.out
                      have hnb255 := NB155_161.out
                      have hnc255 := NB161_155.out
                      have hnb256 := NB155_162.out
                      have hnc256 := NB162_155.out
                      have hcz257_0 : wc.cell? ⟨gb155, 0, none⟩ = some (.int .i64 t151) := (blk_cell BK155.out 0).trans rfl
                      have hcz257_1 : wc.cell? ⟨gb155, 1, none⟩ = some (.int .i64 t152) := (blk_cell BK155.out 1).trans rfl
                      have hfz257_0 := blk_frozen BK155.out 0
                      have hfz257_1 := blk_frozen BK155.out 1
                      go_wp2_with (first | ((with_reducible refine gate_callee (f := 42) rfl ?_); refine goesL_ (some 73) rfl rfl Try.func42 (by kernel_rfl) rfl #[.agg #[.int .i64 t151, .int .i64 t152]] rfl (by (try simp only [List.map_toArray, List.map_cons, List.map_nil]); first | done | rfl | (simp only [List.length_drop, List.length_take]; rfl)) ?_; (with_reducible refine (spec_BrdOk.calls kj49 t151 t152 false _ A174.out).mono ?_); rintro e w258 ⟨rfl, hb⟩; refine ⟨_, rfl, ?_⟩; have n0_ := Aside0.mk (blk_below (g := gb155) (o := .cells #[.int .i64 t151, .int .i64 t152] 31 (0, 0)) (by (with_reducible repeat (first | refine blk_drewN ?_ _ | refine blk_drew ?_ | refine blk_alloc ?_ _)); exact BK155.out) hb); have n1_ := Aside0.mk (blk_below (g := gb156) (o := .cells #[.int .i64 t153, .int .i64 t154] 31 (0, 0)) (by (with_reducible repeat (first | refine blk_drewN ?_ _ | refine blk_drew ?_ | refine blk_alloc ?_ _)); exact BK156.out) hb); have n2_ := Aside0.mk (blk_below (g := gb161) (o := .cells #[.int .i64 t157, .int .i64 t158] 31 (0, 0)) (by (with_reducible repeat (first | refine blk_drewN ?_ _ | refine blk_drew ?_ | refine blk_alloc ?_ _)); exact BK161.out) hb); have n3_ := Aside0.mk (blk_below (g := gb162) (o := .cells #[.int .i64 t159, .int .i64 t160] 31 (0, 0)) (by (with_reducible repeat (first | refine blk_drewN ?_ _ | refine blk_drew ?_ | refine blk_alloc ?_ _)); exact BK162.out) hb); have n4_ := Aside0.mk (below_step (by repeat (first | (with_reducible first | exact HB.out | apply below_alloc | apply pw_below_drewN | apply below_drew1 | refine below_set ?_ GE155.out | refine below_set ?_ GE156.out | refine below_set ?_ GE161.out | refine below_set ?_ GE162.out) | exact HB.out)) hb); clear BK155; clear BK156; clear BK161; clear BK162; clear HB; have BK155 := n0_; have BK156 := n1_; have BK161 := n2_; have BK162 := n3_; have HB := n4_; clear n0_ n1_ n2_ n3_ n4_; (try clear hb); (try clear hb2); (try clear hk); (try clear hi)) | ((with_reducible refine gate_callee (f := 20) rfl ?_); refine goesL_ (some 97) rfl rfl Try.func20 (by kernel_rfl) rfl #[.agg #[.int .i64 4, .int .i64 0], .agg #[.int .i64 3, .int .i64 3]] rfl (by (try simp only [List.map_toArray, List.map_cons, List.map_nil]); first | done | rfl | (simp only [List.length_drop, List.length_take]; rfl)) ?_; (with_reducible refine (impl_BrdBeats.calls kj49 4 0 3 3 t184 _ A253.out).mono ?_); rintro e w259 ⟨rfl, hb⟩; refine ⟨_, rfl, ?_⟩; have n0_ := Aside0.mk (blk_below (g := gb155) (o := .cells #[.int .i64 t151, .int .i64 t152] 31 (0, 0)) (by (with_reducible repeat (first | refine blk_drewN ?_ _ | refine blk_drew ?_ | refine blk_alloc ?_ _)); exact BK155.out) hb); have n1_ := Aside0.mk (blk_below (g := gb156) (o := .cells #[.int .i64 t153, .int .i64 t154] 31 (0, 0)) (by (with_reducible repeat (first | refine blk_drewN ?_ _ | refine blk_drew ?_ | refine blk_alloc ?_ _)); exact BK156.out) hb); have n2_ := Aside0.mk (blk_below (g := gb161) (o := .cells #[.int .i64 t157, .int .i64 t158] 31 (0, 0)) (by (with_reducible repeat (first | refine blk_drewN ?_ _ | refine blk_drew ?_ | refine blk_alloc ?_ _)); exact BK161.out) hb); have n3_ := Aside0.mk (blk_below (g := gb162) (o := .cells #[.int .i64 t159, .int .i64 t160] 31 (0, 0)) (by (with_reducible repeat (first | refine blk_drewN ?_ _ | refine blk_drew ?_ | refine blk_alloc ?_ _)); exact BK162.out) hb); have n4_ := Aside0.mk (below_step (by repeat (first | (with_reducible first | exact HB.out | apply below_alloc | apply pw_below_drewN | apply below_drew1 | refine below_set ?_ GE155.out | refine below_set ?_ GE156.out | refine below_set ?_ GE161.out | refine below_set ?_ GE162.out) | exact HB.out)) hb); clear BK155; clear BK156; clear BK161; clear BK162; clear HB; have BK155 := n0_; have BK156 := n1_; have BK161 := n2_; have BK162 := n3_; have HB := n4_; clear n0_ n1_ n2_ n3_ n4_; (try clear hb); (try clear hb2); (try clear hk); (try clear hi)))
                      go_ret
                      exact ⟨by first | rfl | (simp [errW_none, errW_some] <;> rfl) | (simp [*, errW_none, errW_some] <;> rfl), by repeat (first | (with_reducible first | exact HB.out | apply below_alloc | apply pw_below_drewN | apply below_drew1 | refine below_set ?_ GE155.out | refine below_set ?_ GE156.out | refine below_set ?_ GE161.out | refine below_set ?_ GE162.out) | exact HB.out)⟩

/-- THE ONE PURE STATEMENT of laws_FnBrdBeats: yours. -/
def laws_FnBrdBeats.Pure : Prop := ∀ (l0 : List Int) (l1 : List Int), l0.length ≤ maxLen → l0.length * 1 ≤ 140737488351232 → (∀ x ∈ l0, (Lit.int .u8 x).wf = true) → l1.length ≤ maxLen → l1.length * 1 ≤ 140737488351232 → (∀ x ∈ l1, (Lit.int .u8 x).wf = true) → ∃ k, laws_FnBrdBeats.f k l0 l1 = some true
theorem laws_FnBrdBeats.walk (P : laws_FnBrdBeats.Pure) (a0 : Option Addr) (len0 cap0 : Nat) (z0 : List Int) (a1 : Option Addr) (len1 cap1 : Nat) (z1 : List Int) (w : World) (w0 : (a0 = none ∧ len0 = 0 ∧ cap0 = 0 ∧ z0 = []) ∨ ∃ x, a0 = some x ∧ len0 ≤ cap0 ∧ cap0 ≤ maxLen ∧ z0.length = cap0 ∧ (∀ i, i < z0.length → w.cell? (x.add i) = some (.int .u8 (z0.getD i 0))) ∧ ∀ n ∈ z0, (Lit.int .u8 n).wf = true) (y0 : len0 * 1 ≤ 140737488351232) (w1 : (a1 = none ∧ len1 = 0 ∧ cap1 = 0 ∧ z1 = []) ∨ ∃ x, a1 = some x ∧ len1 ≤ cap1 ∧ cap1 ≤ maxLen ∧ z1.length = cap1 ∧ (∀ i, i < z1.length → w.cell? (x.add i) = some (.int .u8 (z1.getD i 0))) ∧ ∀ n ∈ z1, (Lit.int .u8 n).wf = true) (y1 : len1 * 1 ≤ 140737488351232) :
    Calls Try.prog 13 #[.slice a0 len0 cap0, .slice a1 len1 cap1] w fun e w' => e = .returned (.bool true) ∧ Below w.heap.size w w' := by
  obtain ⟨l0, rfl, hr0, hm0, hw0, hc0⟩ := ReadsInt.ofRowC w0
  obtain ⟨l1, rfl, hr1, hm1, hw1, hc1⟩ := ReadsInt.ofRowC w1
  obtain ⟨k, h⟩ := P l0 l1 hm0 y0 hw0 hm1 y1 hw1
  refine (laws_FnBrdBeats.calls k _ _ l0 _ _ l1 true w (Kd.C_of_reads (d := (0 : Int)) (h1 := fun _ => rfl) hr0) hc0 (Kd.C_of_reads (d := (0 : Int)) (h1 := fun _ => rfl) hr1) hc1 h).mono ?_
  rintro e w' ⟨rfl, hd⟩
  exact ⟨rfl, hd⟩

end Go.Proofs.Ytchimljcafnljaa.PFnBrdBeats
