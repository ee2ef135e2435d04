-- Told by a program of this session (myprint.py).
import Derived.Test.YtfcacpbblkahdaaDoorPFnQryInx3
namespace Go.Proofs.YtfcacpbblkahdaaDoor.PFnQryIn
open Go.RowKit Go.Proofs.YtfcacpbblkahdaaDoorW.PrintWords Go.Proofs.YtfcacpbblkahdaaDoorW.PrintLast Go.Proofs.YtfcacpbblkahdaaDoorW.PrintMore
attribute [local go_sem] max2_int min2_int max_two min_two max_three min_three max_four min_four
set_option linter.unusedVariables false
set_option linter.unusedSimpArgs false

/-! ### laws_FnQryIn: function 3 -/
mutual
def laws_FnQryIn.j0 : Nat → Bool → Int → Int → Int → Int → Option (Bool)
  | 0, _, _, _, _, _ => none
  | k + 1, x33, x166000, x166001, x166002, x166003 => if x33 = true then (some false) else (if x166000 < 0 then (laws_FnQryIn.j1 k true x166000 x166001 x166002 x166003) else (if x166000 > 4 then (laws_FnQryIn.j1 k true x166000 x166001 x166002 x166003) else (if x166001 < 0 then (laws_FnQryIn.j1 k true x166000 x166001 x166002 x166003) else (if x166001 > 4 then (laws_FnQryIn.j1 k true x166000 x166001 x166002 x166003) else (if x166002 < 0 then (laws_FnQryIn.j1 k true x166000 x166001 x166002 x166003) else (if x166002 > 4 then (laws_FnQryIn.j1 k true x166000 x166001 x166002 x166003) else (if x166003 < 0 then (laws_FnQryIn.j1 k true x166000 x166001 x166002 x166003) else (laws_FnQryIn.j1 k (decide (x166003 > 4)) x166000 x166001 x166002 x166003))))))))
def laws_FnQryIn.j1 : Nat → Bool → Int → Int → Int → Int → Option (Bool)
  | 0, _, _, _, _, _ => none
  | k + 1, x71, x166000, x166001, x166002, x166003 => if x71 = true then ((laws_pwOk.f).bind fun t170 => (some t170)) else (laws_FnQryIn.l0 k 0 (-1) x166000 x166001 x166002 x166003)
def laws_FnQryIn.l0 : Nat → Int → Int → Int → Int → Int → Int → Option (Bool)
  | 0, _, _, _, _, _, _ => none
  | k + 1, x6, x7, x166000, x166001, x166002, x166003 => if x7 < 12 then (laws_FnQryIn.l1 k x6 x7 (-1) x166000 x166001 x166002 x166003) else ((impl_QryArea.f x166000 x166001 x166002 x166003).bind fun t172 => (if x6 = t172 then ((impl_QryIn.f x166000 x166001 x166002 x166003 (wrap64 (x166000 - 1)) x166001).bind fun t173 => (if t173 = true then (some false) else ((impl_QryIn.f x166000 x166001 x166002 x166003 x166000 (wrap64 (x166001 + x166003))).bind fun t174 => (if t174 = true then (some false) else ((laws_pwOk.f).bind fun t175 => (some t175)))))) else (some false)))
def laws_FnQryIn.l1 : Nat → Int → Int → Int → Int → Int → Int → Int → Option (Bool)
  | 0, _, _, _, _, _, _, _ => none
  | k + 1, x6, x7, x8, x166000, x166001, x166002, x166003 => if x8 < 12 then ((impl_QryIn.f x166000 x166001 x166002 x166003 x7 x8).bind fun t171 => (if t171 = true then (laws_FnQryIn.l1 k (wrap64 (x6 + 1)) x7 (wrap64 (x8 + 1)) x166000 x166001 x166002 x166003) else (laws_FnQryIn.l1 k x6 x7 (wrap64 (x8 + 1)) x166000 x166001 x166002 x166003))) else (laws_FnQryIn.l0 k x6 (wrap64 (x7 + 1)) x166000 x166001 x166002 x166003)
end
def laws_FnQryIn.f (k : Nat) (l0 : List Int) : Option (Bool) := if (l0.length : Int) > 1048576 then (some true) else ((spec_DrawQryIn.f k l0).bind fun bt159 => ((impl_QryIn.f bt159.1 bt159.2.1 bt159.2.2.1 bt159.2.2.2.1 bt159.2.2.2.2.1 bt159.2.2.2.2.2).bind fun t166 => ((spec_QryIn.f k bt159.1 bt159.2.1 bt159.2.2.1 bt159.2.2.2.1 bt159.2.2.2.2.1 bt159.2.2.2.2.2).bind fun t167 => (if (t166 != t167) = true then (laws_FnQryIn.j0 k true bt159.1 bt159.2.1 bt159.2.2.1 bt159.2.2.2.1) else ((impl_QryArea.f bt159.1 bt159.2.1 bt159.2.2.1 bt159.2.2.2.1).bind fun t168 => ((spec_QryArea.f bt159.1 bt159.2.1 bt159.2.2.1 bt159.2.2.2.1).bind fun t169 => (laws_FnQryIn.j0 k (t168 != t169) bt159.1 bt159.2.1 bt159.2.2.1 bt159.2.2.2.1)))))))
theorem laws_FnQryIn.mono_l : ∀ k, (∀ y0 y1 y2 y3 y4, LeO (laws_FnQryIn.j0 k y0 y1 y2 y3 y4) (laws_FnQryIn.j0 (k + 1) y0 y1 y2 y3 y4)) ∧ (∀ y0 y1 y2 y3 y4, LeO (laws_FnQryIn.j1 k y0 y1 y2 y3 y4) (laws_FnQryIn.j1 (k + 1) y0 y1 y2 y3 y4)) ∧ (∀ y0 y1 y2 y3 y4 y5, LeO (laws_FnQryIn.l0 k y0 y1 y2 y3 y4 y5) (laws_FnQryIn.l0 (k + 1) y0 y1 y2 y3 y4 y5)) ∧ (∀ y0 y1 y2 y3 y4 y5 y6, LeO (laws_FnQryIn.l1 k y0 y1 y2 y3 y4 y5 y6) (laws_FnQryIn.l1 (k + 1) y0 y1 y2 y3 y4 y5 y6))
  | 0 => ⟨fun _ _ _ _ _ r h => by simp [laws_FnQryIn.j0] at h, fun _ _ _ _ _ r h => by simp [laws_FnQryIn.j1] at h, fun _ _ _ _ _ _ r h => by simp [laws_FnQryIn.l0] at h, fun _ _ _ _ _ _ _ r h => by simp [laws_FnQryIn.l1] at h⟩
  | k + 1 => by
    obtain ⟨ih0, ih1, ih2, ih3⟩ := laws_FnQryIn.mono_l k
    refine ⟨?_, ?_, ?_, ?_⟩
    · intro y0 y1 y2 y3 y4
      unfold laws_FnQryIn.j0
      repeat' first
      | (with_reducible exact ih0 _ _ _ _ _)
      | (with_reducible exact ih1 _ _ _ _ _)
      | (with_reducible exact ih2 _ _ _ _ _ _)
      | (with_reducible exact ih3 _ _ _ _ _ _ _)
      | (with_reducible exact spec_DrawQryIn.mono _ _)
      | (with_reducible exact spec_QryIn.mono _ _ _ _ _ _ _)
      | (with_reducible exact LeO.refl _)
      | (with_reducible exact LeO.none _)
      | (with_reducible refine LeO.ite ?_ ?_)
      | (with_reducible refine LeO.bind ?_ (fun _ => ?_))
      | exact ih0 _ _ _ _ _
      | exact ih1 _ _ _ _ _
      | exact ih2 _ _ _ _ _ _
      | exact ih3 _ _ _ _ _ _ _
      | exact spec_DrawQryIn.mono _ _
      | exact spec_QryIn.mono _ _ _ _ _ _ _
      | exact LeO.none _
      | refine LeO.ite ?_ ?_
      | refine LeO.bind ?_ (fun _ => ?_)
    · intro y0 y1 y2 y3 y4
      unfold laws_FnQryIn.j1
      repeat' first
      | (with_reducible exact ih0 _ _ _ _ _)
      | (with_reducible exact ih1 _ _ _ _ _)
      | (with_reducible exact ih2 _ _ _ _ _ _)
      | (with_reducible exact ih3 _ _ _ _ _ _ _)
      | (with_reducible exact spec_DrawQryIn.mono _ _)
      | (with_reducible exact spec_QryIn.mono _ _ _ _ _ _ _)
      | (with_reducible exact LeO.refl _)
      | (with_reducible exact LeO.none _)
      | (with_reducible refine LeO.ite ?_ ?_)
      | (with_reducible refine LeO.bind ?_ (fun _ => ?_))
      | exact ih0 _ _ _ _ _
      | exact ih1 _ _ _ _ _
      | exact ih2 _ _ _ _ _ _
      | exact ih3 _ _ _ _ _ _ _
      | exact spec_DrawQryIn.mono _ _
      | exact spec_QryIn.mono _ _ _ _ _ _ _
      | exact LeO.none _
      | refine LeO.ite ?_ ?_
      | refine LeO.bind ?_ (fun _ => ?_)
    · intro y0 y1 y2 y3 y4 y5
      unfold laws_FnQryIn.l0
      repeat' first
      | (with_reducible exact ih0 _ _ _ _ _)
      | (with_reducible exact ih1 _ _ _ _ _)
      | (with_reducible exact ih2 _ _ _ _ _ _)
      | (with_reducible exact ih3 _ _ _ _ _ _ _)
      | (with_reducible exact spec_DrawQryIn.mono _ _)
      | (with_reducible exact spec_QryIn.mono _ _ _ _ _ _ _)
      | (with_reducible exact LeO.refl _)
      | (with_reducible exact LeO.none _)
      | (with_reducible refine LeO.ite ?_ ?_)
      | (with_reducible refine LeO.bind ?_ (fun _ => ?_))
      | exact ih0 _ _ _ _ _
      | exact ih1 _ _ _ _ _
      | exact ih2 _ _ _ _ _ _
      | exact ih3 _ _ _ _ _ _ _
      | exact spec_DrawQryIn.mono _ _
      | exact spec_QryIn.mono _ _ _ _ _ _ _
      | exact LeO.none _
      | refine LeO.ite ?_ ?_
      | refine LeO.bind ?_ (fun _ => ?_)
    · intro y0 y1 y2 y3 y4 y5 y6
      unfold laws_FnQryIn.l1
      repeat' first
      | (with_reducible exact ih0 _ _ _ _ _)
      | (with_reducible exact ih1 _ _ _ _ _)
      | (with_reducible exact ih2 _ _ _ _ _ _)
      | (with_reducible exact ih3 _ _ _ _ _ _ _)
      | (with_reducible exact spec_DrawQryIn.mono _ _)
      | (with_reducible exact spec_QryIn.mono _ _ _ _ _ _ _)
      | (with_reducible exact LeO.refl _)
      | (with_reducible exact LeO.none _)
      | (with_reducible refine LeO.ite ?_ ?_)
      | (with_reducible refine LeO.bind ?_ (fun _ => ?_))
      | exact ih0 _ _ _ _ _
      | exact ih1 _ _ _ _ _
      | exact ih2 _ _ _ _ _ _
      | exact ih3 _ _ _ _ _ _ _
      | exact spec_DrawQryIn.mono _ _
      | exact spec_QryIn.mono _ _ _ _ _ _ _
      | exact LeO.none _
      | refine LeO.ite ?_ ?_
      | refine LeO.bind ?_ (fun _ => ?_)
theorem laws_FnQryIn.mono : ∀ a0 k, LeO (laws_FnQryIn.f k a0) (laws_FnQryIn.f (k + 1) a0) := by
  intro a0 k
  obtain ⟨ih0, ih1, ih2, ih3⟩ := laws_FnQryIn.mono_l k
  unfold laws_FnQryIn.f
  repeat' first
      | (with_reducible exact ih0 _ _ _ _ _)
      | (with_reducible exact ih1 _ _ _ _ _)
      | (with_reducible exact ih2 _ _ _ _ _ _)
      | (with_reducible exact ih3 _ _ _ _ _ _ _)
      | (with_reducible exact spec_DrawQryIn.mono _ _)
      | (with_reducible exact spec_QryIn.mono _ _ _ _ _ _ _)
      | (with_reducible exact LeO.refl _)
      | (with_reducible exact LeO.none _)
      | (with_reducible refine LeO.ite ?_ ?_)
      | (with_reducible refine LeO.bind ?_ (fun _ => ?_))
      | exact ih0 _ _ _ _ _
      | exact ih1 _ _ _ _ _
      | exact ih2 _ _ _ _ _ _
      | exact ih3 _ _ _ _ _ _ _
      | exact spec_DrawQryIn.mono _ _
      | exact spec_QryIn.mono _ _ _ _ _ _ _
      | exact LeO.none _
      | refine LeO.ite ?_ ?_
      | refine LeO.bind ?_ (fun _ => ?_)
def laws_FnQryIn.T4 : Bool × List (List Nat × List Nat) := (true, [([], []), ([], []), ([], []), ([0, 1, 2], [0, 1, 2]), ([], []), ([], []), ([], []), ([4, 5, 6, 3], [4, 5, 6]), ([3, 7], [3, 7]), ([8, 7], [8]), ([9], [9]), ([10, 9, 9], [9, 10]), ([9], [9]), ([12, 11, 9], [9, 12]), ([11, 13, 9], [9, 11, 13]), ([9, 14], [9, 14])])
def laws_FnQryIn.B4 : List Nat := [0, 0, 0, 7, 0, 0, 0, 127, 255, 511, 1023, 2047, 1023, 8191, 16383, 32767]
theorem laws_FnQryIn.tab4 : rtab .any (opsOf Tryd.f3 4) = laws_FnQryIn.T4 := by kernel_rfl
theorem laws_FnQryIn.bits4 : waitsOk laws_FnQryIn.T4.2 laws_FnQryIn.B4 = true := by kernel_rfl
set_option maxHeartbeats 8000000 in
set_option maxRecDepth 100000 in
theorem laws_FnQryIn.calls (k : Nat) (A0 : Option Addr) (c0 : Nat) (l0 : List Int) (r : Bool) (w : World) (hr0 : Kd.C (Kd.int .u8) w A0 l0.length l0) (hc0 : l0.length ≤ c0) (hM : Txt.MLen w) (h : laws_FnQryIn.f k l0 = some r) :
    Calls Tryd.prog 3 #[.slice A0 l0.length c0] w fun e w' => e = .returned (.bool r) ∧ Below w.heap.size w w' := by
  have HM := Aside0.mk hM
  clear hM
  have hu24 := Tryd.underlying24
  have HR0 := Aside0.mk hr0
  have HC0 := Aside0.mk hc0
  clear hr0 hc0
  have HB := Aside0.mk (Below.refl w.heap.size w)
  have H : (if (l0.length : Int) > 1048576 then (some true) else ((spec_DrawQryIn.f k l0).bind fun bt159 => ((impl_QryIn.f bt159.1 bt159.2.1 bt159.2.2.1 bt159.2.2.2.1 bt159.2.2.2.2.1 bt159.2.2.2.2.2).bind fun t166 => ((spec_QryIn.f k bt159.1 bt159.2.1 bt159.2.2.1 bt159.2.2.2.1 bt159.2.2.2.2.1 bt159.2.2.2.2.2).bind fun t167 => (if (t166 != t167) = true then (laws_FnQryIn.j0 k true bt159.1 bt159.2.1 bt159.2.2.1 bt159.2.2.2.1) else ((impl_QryArea.f bt159.1 bt159.2.1 bt159.2.2.1 bt159.2.2.2.1).bind fun t168 => ((spec_QryArea.f bt159.1 bt159.2.1 bt159.2.2.1 bt159.2.2.2.1).bind fun t169 => (laws_FnQryIn.j0 k (t168 != t169) bt159.1 bt159.2.1 bt159.2.2.1 bt159.2.2.2.1)))))))) = some r := h
  clear h
  by_cases c2 : (l0.length : Int) > 1048576
  · rw [if_pos c2] at H
    have c2b0 : decide (1048576 < (l0.length : Int)) = true := decide_eq_true c2
    have c2b1 : decide (1048576 < l0.length) = true := decide_eq_true (by omega)
    clear c2
    obtain rfl := Option.some.inj H
    go_enter Tryd.func3, Tryd.ntmps3
    go_wp2
    go_ret
    exact ⟨by first | rfl | (simp [IntKind.wrap_i64, wrap64]; done) | (simp [errW_none, errW_some] <;> rfl) | (simp [*, errW_none, errW_some] <;> rfl), by repeat (first | (with_reducible first | exact HB.out | apply below_alloc | apply pw_below_drewN | apply below_drew1) | exact HB.out)⟩
  · rw [if_neg c2] at H
    have c2b0 : decide (1048576 < (l0.length : Int)) = false := decide_eq_false c2
    have c2b1 : decide (1048576 < l0.length) = false := decide_eq_false (by omega)
    clear c2
    replace H := Option.bind_eq_some_iff.mp H
    obtain ⟨⟨t159, t160, t161, t162, t163, t164⟩, A30, H⟩ := H
    replace H : ((impl_QryIn.f t159 t160 t161 t162 t163 t164).bind fun t166 => ((spec_QryIn.f k t159 t160 t161 t162 t163 t164).bind fun t167 => (if (t166 != t167) = true then (laws_FnQryIn.j0 k true t159 t160 t161 t162) else ((impl_QryArea.f t159 t160 t161 t162).bind fun t168 => ((spec_QryArea.f t159 t160 t161 t162).bind fun t169 => (laws_FnQryIn.j0 k (t168 != t169) t159 t160 t161 t162)))))) = some r := H
    have A3 := Aside0.mk A30
    clear A30
    have HC4 := Aside0.mk H
    clear H
    go_enter Tryd.func3, Tryd.ntmps3
    go_upto_region 4 with (first | ((with_reducible refine gate_callee (f := 6) rfl ?_); refine goesL_ (some 14) rfl rfl Tryd.func6 (by kernel_rfl) rfl #[.slice A0 l0.length c0] rfl (by (try simp only [List.map_toArray, List.map_cons, List.map_nil]); first | done | rfl | (simp only [List.length_drop, List.length_take]; rfl)) ?_; (with_reducible refine (spec_DrawQryIn.calls k _ _ l0 t159 t160 t161 t162 t163 t164 _ ?side1 ?side2 A3.out).mono ?_); (case side1 => repeat (first | exact HR0.out | (with_reducible refine Kd.C_alloc ?_ _) | (with_reducible refine Kd.C_drewN ?_ _) | (with_reducible refine Kd.C_drew ?_))); (case side2 => exact HC0.out); rintro e w5 ⟨rfl, hb⟩; refine ⟨_, rfl, ?_⟩; have n0_ := Aside0.mk (below_step (by repeat (first | (with_reducible first | exact HB.out | apply below_alloc | apply pw_below_drewN | apply below_drew1) | exact HB.out)) hb); clear HB; have HB := n0_; clear n0_; (try clear hb); (try clear hb2); (try clear hk); (try clear hi)) | ((with_reducible refine gate_dst (N := 3) rfl ?_); refine box_event ?hg (N := 3) ?hd (cs := #[.int .i64 0, .int .i64 0, .int .i64 0, .int .i64 0]) (t := 24) ?hr ?_; (case hd => rfl); (case hg => rfl); (case hr => first | (go_simp; done) | (go_simp; rfl)); intro gb165 hg w6 hbox hb; have n0_ := Aside0.mk (below_step (by repeat (first | (with_reducible first | exact HB.out | apply below_alloc | apply pw_below_drewN | apply below_drew1) | exact HB.out)) hb); have n1_ := Aside0.mk (hbox); have n2_ := Aside0.mk ((by rw [hg]; exact (below_size (by repeat (first | (with_reducible first | exact HB.out | apply below_alloc | apply pw_below_drewN | apply below_drew1) | exact HB.out))) : w.heap.size ≤ gb165)); have n3_ := Aside0.mk ((by rw [hg]; exact (below_size (by repeat (first | (with_reducible first | exact HB.out | apply below_alloc | apply pw_below_drewN | apply below_drew1) | exact HB.out))) : w.heap.size ≤ gb165)); clear HB; have HB := n0_; have BK165 := n1_; have GW165 := n2_; have GE165 := n3_; clear n0_ n1_ n2_ n3_; clear hb hbox hg; have hcz7_0 : w6.cell? ⟨gb165, 0, none⟩ = some (.int .i64 0) := (blk_cell BK165.out 0).trans rfl; have hcz7_1 : w6.cell? ⟨gb165, 1, none⟩ = some (.int .i64 0) := (blk_cell BK165.out 1).trans rfl; have hcz7_2 : w6.cell? ⟨gb165, 2, none⟩ = some (.int .i64 0) := (blk_cell BK165.out 2).trans rfl; have hcz7_3 : w6.cell? ⟨gb165, 3, none⟩ = some (.int .i64 0) := (blk_cell BK165.out 3).trans rfl; have hfz7_0 := blk_frozen BK165.out 0; have hfz7_1 := blk_frozen BK165.out 1; have hfz7_2 := blk_frozen BK165.out 2; have hfz7_3 := blk_frozen BK165.out 3))
    (try simp only [Act.put, List.setIfInBounds_toArray, List.set_cons_zero, List.set_cons_succ])
    go_cut [33] (fun v33 wc => ∃ (kq : Nat) (x33_3 : Bool), v33 = .bool x33_3 ∧ Aside0 (laws_FnQryIn.j0 kq x33_3 t159 t160 t161 t162 = some r) ∧ Aside0 (kq ≤ k) ∧ Aside0 (wc.heap[gb165]? = some (.cells #[.int .i64 t159, .int .i64 t160, .int .i64 t161, .int .i64 t162] 24 (0, 0))) ∧ Aside0 (Below w.heap.size w wc))
    case first =>
      have H := HC4.out
      clear HC4
      replace H := Option.bind_eq_some_iff.mp H
      obtain ⟨t166, A80, H⟩ := H
      replace H : ((spec_QryIn.f k t159 t160 t161 t162 t163 t164).bind fun t167 => (if (t166 != t167) = true then (laws_FnQryIn.j0 k true t159 t160 t161 t162) else ((impl_QryArea.f t159 t160 t161 t162).bind fun t168 => ((spec_QryArea.f t159 t160 t161 t162).bind fun t169 => (laws_FnQryIn.j0 k (t168 != t169) t159 t160 t161 t162))))) = some r := H
      have A8 := Aside0.mk A80
      clear A80
      replace H := Option.bind_eq_some_iff.mp H
      obtain ⟨t167, A90, H⟩ := H
      replace H : (if (t166 != t167) = true then (laws_FnQryIn.j0 k true t159 t160 t161 t162) else ((impl_QryArea.f t159 t160 t161 t162).bind fun t168 => ((spec_QryArea.f t159 t160 t161 t162).bind fun t169 => (laws_FnQryIn.j0 k (t168 != t169) t159 t160 t161 t162)))) = some r := H
      have A9 := Aside0.mk A90
      clear A90
      by_cases c10 : (t166 != t167) = true
      · rw [if_pos c10] at H
        have c10b0 : (t166 != t167) = true := c10
        (try (have c10b1 : decide (t166 = t167) = false := by simpa using c10))
        (try (have c10b2 : (t166 == t167) = false := by simpa using c10))
        (try (have c10b3 : ¬ (t166 = t167) := by simpa using c10))
        clear c10
        (first | rw [c10b0] | (simp only [i64_w, i32_w]; rw [c10b0]) | skip)
        have H' := Aside0.mk H
        clear H
        try go_wp2
        have n0_ : Aside0 (((((w6.setCell ⟨gb165, 0, none⟩ (.int .i64 t159)).setCell ⟨gb165, 1, none⟩ (.int .i64 t160)).setCell ⟨gb165, 2, none⟩ (.int .i64 t161)).setCell ⟨gb165, 3, none⟩ (.int .i64 t162)).heap[gb165]? = some (.cells #[.int .i64 t159, .int .i64 t160, .int .i64 t161, .int .i64 t162] 24 (0, 0))) := ⟨by (with_reducible repeat (first | refine blk_drewN ?_ _ | refine blk_drew ?_ | refine blk_alloc ?_ _)); refine blk_put (cs := #[.int .i64 t159, .int .i64 t160, .int .i64 t161, .int .i64 0]) ?_ 3 _ rfl; (with_reducible repeat (first | refine blk_drewN ?_ _ | refine blk_drew ?_ | refine blk_alloc ?_ _)); refine blk_put (cs := #[.int .i64 t159, .int .i64 t160, .int .i64 0, .int .i64 0]) ?_ 2 _ rfl; (with_reducible repeat (first | refine blk_drewN ?_ _ | refine blk_drew ?_ | refine blk_alloc ?_ _)); refine blk_put (cs := #[.int .i64 t159, .int .i64 0, .int .i64 0, .int .i64 0]) ?_ 1 _ rfl; (with_reducible repeat (first | refine blk_drewN ?_ _ | refine blk_drew ?_ | refine blk_alloc ?_ _)); refine blk_put (cs := #[.int .i64 0, .int .i64 0, .int .i64 0, .int .i64 0]) ?_ 0 _ rfl; (with_reducible repeat (first | refine blk_drewN ?_ _ | refine blk_drew ?_ | refine blk_alloc ?_ _)); exact BK165.out⟩
        have n1_ : Aside0 (Below w.heap.size w ((((w6.setCell ⟨gb165, 0, none⟩ (.int .i64 t159)).setCell ⟨gb165, 1, none⟩ (.int .i64 t160)).setCell ⟨gb165, 2, none⟩ (.int .i64 t161)).setCell ⟨gb165, 3, none⟩ (.int .i64 t162))) := ⟨by repeat (first | (with_reducible first | exact HB.out | apply below_alloc | apply pw_below_drewN | apply below_drew1 | refine below_set ?_ GE165.out) | exact HB.out)⟩
        (try clear BK165)
        (try clear HB)
        generalize ((((w6.setCell ⟨gb165, 0, none⟩ (.int .i64 t159)).setCell ⟨gb165, 1, none⟩ (.int .i64 t160)).setCell ⟨gb165, 2, none⟩ (.int .i64 t161)).setCell ⟨gb165, 3, none⟩ (.int .i64 t162)) = w11 at n0_ n1_ ⊢
        have BK165 := n0_
        have HB := n1_
        clear n0_ n1_
        have n0_ := Aside0.mk (blk_drew BK165.out)
        have n1_ := Aside0.mk (below_drew1 HB.out)
        clear BK165
        clear HB
        have BK165 := n0_
        have HB := n1_
        clear n0_ n1_
        refine start_ (n := 16) (S := fun w' => w'.cell? ⟨gb165, 0, none⟩ = some (.int .i64 t159) ∧ w'.cell? ⟨gb165, 1, none⟩ = some (.int .i64 t160) ∧ w'.cell? ⟨gb165, 2, none⟩ = some (.int .i64 t161) ∧ w'.cell? ⟨gb165, 3, none⟩ = some (.int .i64 t162)) (ds := []) #[false, false, false, false, false, false, false, false, false, false, false, false, false, false, false, false] (by kernel_rfl) rfl rfl ⟨(blk_cell BK165.out 0).trans rfl, (blk_cell BK165.out 1).trans rfl, (blk_cell BK165.out 2).trans rfl, (blk_cell BK165.out 3).trans rfl⟩ (fun hHeld => ?_); refine with_tabW laws_FnQryIn.tab4 laws_FnQryIn.bits4 (fun HT_ HW_ => ?_)
        generalize w11.drew = w12 at BK165 HB hHeld ⊢
        refine pure_ (i := 1) (N := some 19) (v := ?_) (a' := ?_) #[false, true, false, false, false, false, false, false, false, false, false, false, false, false, false, false] rfl rfl (any_of HT_.out (by kernel_rfl)) (fun _ _ _ h => h) (Or.inl ⟨by rfl, ?_⟩) ?_ ?_
        rotate_left
        · intro w'
          go_simp
          with_reducible rfl
        rotate_left
        · simp only [Act.put, List.setIfInBounds_toArray, List.set_cons_zero, List.set_cons_succ, i64_w, i32_w]
          rfl
        refine pure_ (i := 2) (N := some 20) (v := ?_) (a' := ?_) #[false, true, true, false, false, false, false, false, false, false, false, false, false, false, false, false] rfl rfl (any_of HT_.out (by kernel_rfl)) (fun _ _ _ h => h) (Or.inl ⟨by rfl, ?_⟩) ?_ ?_
        rotate_left
        · intro w'
          go_simp
          with_reducible rfl
        rotate_left
        · simp only [Act.put, List.setIfInBounds_toArray, List.set_cons_zero, List.set_cons_succ, i64_w, i32_w]
          rfl
        refine pure_ (i := 5) (N := some 23) (v := ?_) (a' := ?_) #[false, true, true, false, false, true, false, false, false, false, false, false, false, false, false, false] rfl rfl (any_of HT_.out (by kernel_rfl)) (fun _ _ _ h => h) (Or.inl ⟨by rfl, ?_⟩) ?_ ?_
        rotate_left
        · intro w'
          go_simp
          with_reducible rfl
        rotate_left
        · simp only [Act.put, List.setIfInBounds_toArray, List.set_cons_zero, List.set_cons_succ, i64_w, i32_w]
          rfl
        refine pure_ (i := 6) (N := some 24) (v := ?_) (a' := ?_) #[false, true, true, false, false, true, true, false, false, false, false, false, false, false, false, false] rfl rfl (any_of HT_.out (by kernel_rfl)) (fun _ _ _ h => h) (Or.inl ⟨by rfl, ?_⟩) ?_ ?_
        rotate_left
        · intro w'
          go_simp
          with_reducible rfl
        rotate_left
        · simp only [Act.put, List.setIfInBounds_toArray, List.set_cons_zero, List.set_cons_succ, i64_w, i32_w]
          rfl
        refine take_ (i := 0) (N := some 18) (v := ?_) (a' := ?_) #[true, true, true, false, false, true, true, false, false, false, false, false, false, false, false, false] rfl rfl (take_ofW HT_.out HW_.out (by kernel_rfl)) (fun _ _ _ h => h) (Or.inl ⟨by rfl, ?_⟩) hHeld ?_ ?_
        rotate_left
        · rintro w' ⟨s0, s1, s2, s3⟩
          go_simp
          with_reducible rfl
        rotate_left
        · simp only [Act.put, List.setIfInBounds_toArray, List.set_cons_zero, List.set_cons_succ, i64_w, i32_w]
          rfl
        refine take_ (i := 4) (N := some 22) (v := ?_) (a' := ?_) #[true, true, true, false, true, true, true, false, false, false, false, false, false, false, false, false] rfl rfl (take_ofW HT_.out HW_.out (by kernel_rfl)) (fun _ _ _ h => h) (Or.inl ⟨by rfl, ?_⟩) hHeld ?_ ?_
        rotate_left
        · rintro w' ⟨s0, s1, s2, s3⟩
          go_simp
          with_reducible rfl
        rotate_left
        · simp only [Act.put, List.setIfInBounds_toArray, List.set_cons_zero, List.set_cons_succ, i64_w, i32_w]
          rfl
        refine one_ (i := 3) (N := some 21) #[true, true, true, true, true, true, true, false, false, false, false, false, false, false, false, false] rfl rfl (one_of HT_.out (by kernel_rfl)) (by decide) (fun K hK => ?_)
        refine goes_ Tryd.func7 (by kernel_rfl) rfl #[.agg #[.int .i64 t159, .int .i64 t160, .int .i64 t161, .int .i64 t162], .int .i64 t163, .int .i64 t164] (by rfl) rfl rfl (by (try simp only [List.map_toArray, List.map_cons, List.map_nil]); first | done | rfl | (simp only [List.length_drop, List.length_take]; rfl)) ?_
        with_reducible refine (impl_QryIn.calls t159 t160 t161 t162 t163 t164 t166 _ A8.out).mono ?_
        rintro e w13 ⟨rfl, hb⟩
        refine ⟨_, rfl, ?_⟩
        have n0_ := Aside0.mk (blk_below (g := gb165) (o := .cells #[.int .i64 t159, .int .i64 t160, .int .i64 t161, .int .i64 t162] 24 (0, 0)) (by (with_reducible repeat (first | refine blk_drewN ?_ _ | refine blk_drew ?_ | refine blk_alloc ?_ _)); exact BK165.out) hb)
        have n1_ := Aside0.mk (below_step (by repeat (first | (with_reducible first | exact HB.out | apply below_alloc | apply pw_below_drewN | apply below_drew1 | refine below_set ?_ GE165.out) | exact HB.out)) hb)
        clear BK165
        clear HB
        have BK165 := n0_
        have HB := n1_
        clear n0_ n1_
        (try clear hb)
        (try clear hb2)
        (try clear hk)
        (try clear hi)
        refine hK.out _ _ ⟨(blk_cell BK165.out 0).trans rfl, (blk_cell BK165.out 1).trans rfl, (blk_cell BK165.out 2).trans rfl, (blk_cell BK165.out 3).trans rfl⟩ (fun hHeld => ?_)
        clear hK K
        refine norm_ (a' := ?_) ?_ ?_
        rotate_left
        · show Act.put _ (some 21) _ = _
          simp only [Act.put, List.setIfInBounds_toArray, List.set_cons_zero, List.set_cons_succ, i64_w, i32_w]
          rfl
        refine one_ (i := 7) (N := some 25) #[true, true, true, true, true, true, true, true, false, false, false, false, false, false, false, false] rfl rfl (one_of HT_.out (by kernel_rfl)) (by decide) (fun K hK => ?_)
        refine goes_ Tryd.func8 (by kernel_rfl) rfl #[.agg #[.int .i64 t159, .int .i64 t160, .int .i64 t161, .int .i64 t162], .int .i64 t163, .int .i64 t164] (by rfl) rfl rfl (by (try simp only [List.map_toArray, List.map_cons, List.map_nil]); first | done | rfl | (simp only [List.length_drop, List.length_take]; rfl)) ?_
        with_reducible refine (spec_QryIn.calls k t159 t160 t161 t162 t163 t164 t167 _ A9.out).mono ?_
        rintro e w14 ⟨rfl, hb⟩
        refine ⟨_, rfl, ?_⟩
        have n0_ := Aside0.mk (blk_below (g := gb165) (o := .cells #[.int .i64 t159, .int .i64 t160, .int .i64 t161, .int .i64 t162] 24 (0, 0)) (by (with_reducible repeat (first | refine blk_drewN ?_ _ | refine blk_drew ?_ | refine blk_alloc ?_ _)); exact BK165.out) hb)
        have n1_ := Aside0.mk (below_step (by repeat (first | (with_reducible first | exact HB.out | apply below_alloc | apply pw_below_drewN | apply below_drew1 | refine below_set ?_ GE165.out) | exact HB.out)) hb)
        clear BK165
        clear HB
        have BK165 := n0_
        have HB := n1_
        clear n0_ n1_
        (try clear hb)
        (try clear hb2)
        (try clear hk)
        (try clear hi)
        refine hK.out _ _ ⟨(blk_cell BK165.out 0).trans rfl, (blk_cell BK165.out 1).trans rfl, (blk_cell BK165.out 2).trans rfl, (blk_cell BK165.out 3).trans rfl⟩ (fun hHeld => ?_)
        clear hK K
        refine norm_ (a' := ?_) ?_ ?_
        rotate_left
        · show Act.put _ (some 25) _ = _
          simp only [Act.put, List.setIfInBounds_toArray, List.set_cons_zero, List.set_cons_succ, i64_w, i32_w]
          rfl
        refine pure_ (i := 8) (N := some 26) (v := ?_) (a' := ?_) #[true, true, true, true, true, true, true, true, true, false, false, false, false, false, false, false] rfl rfl (any_of HT_.out (by kernel_rfl)) (fun _ _ _ h => h) (Or.inl ⟨by rfl, ?_⟩) ?_ ?_
        rotate_left
        · intro w'
          go_simp
          with_reducible rfl
        rotate_left
        · simp only [Act.put, List.setIfInBounds_toArray, List.set_cons_zero, List.set_cons_succ, i64_w, i32_w]
          rfl
        refine pure_ (i := 9) (N := some 27) (v := ?_) (a' := ?_) #[true, true, true, true, true, true, true, true, true, true, false, false, false, false, false, false] rfl rfl (any_of HT_.out (by kernel_rfl)) (fun _ _ _ h => h) (Or.inl ⟨by rfl, ?_⟩) ?_ ?_
        rotate_left
        · intro w'
          go_simp
          with_reducible rfl
        rotate_left
        · simp only [Act.put, List.setIfInBounds_toArray, List.set_cons_zero, List.set_cons_succ, i64_w, i32_w]
          rfl
        refine pure_ (i := 10) (N := some 28) (v := undef) (a' := ?_) #[true, true, true, true, true, true, true, true, true, true, true, false, false, false, false, false] rfl rfl (any_of HT_.out (by kernel_rfl)) (fun _ _ _ h => h) (Or.inr ⟨by rfl, rfl⟩) ?_ ?_
        rotate_left
        · simp only [Act.put, List.setIfInBounds_toArray, List.set_cons_zero, List.set_cons_succ, i64_w, i32_w]
          rfl
        refine pure_ (i := 11) (N := some 29) (v := undef) (a' := ?_) #[true, true, true, true, true, true, true, true, true, true, true, true, false, false, false, false] rfl rfl (any_of HT_.out (by kernel_rfl)) (fun _ _ _ h => h) (Or.inr ⟨by rfl, rfl⟩) ?_ ?_
        rotate_left
        · simp only [Act.put, List.setIfInBounds_toArray, List.set_cons_zero, List.set_cons_succ, i64_w, i32_w]
          rfl
        refine pure_ (i := 12) (N := some 30) (v := undef) (a' := ?_) #[true, true, true, true, true, true, true, true, true, true, true, true, true, false, false, false] rfl rfl (any_of HT_.out (by kernel_rfl)) (fun _ _ _ h => h) (Or.inr ⟨by rfl, rfl⟩) ?_ ?_
        rotate_left
        · simp only [Act.put, List.setIfInBounds_toArray, List.set_cons_zero, List.set_cons_succ, i64_w, i32_w]
          rfl
        refine pure_ (i := 13) (N := some 31) (v := undef) (a' := ?_) #[true, true, true, true, true, true, true, true, true, true, true, true, true, true, false, false] rfl rfl (any_of HT_.out (by kernel_rfl)) (fun _ _ _ h => h) (Or.inr ⟨by rfl, rfl⟩) ?_ ?_
        rotate_left
        · simp only [Act.put, List.setIfInBounds_toArray, List.set_cons_zero, List.set_cons_succ, i64_w, i32_w]
          rfl
        refine pure_ (i := 14) (N := some 32) (v := undef) (a' := ?_) #[true, true, true, true, true, true, true, true, true, true, true, true, true, true, true, false] rfl rfl (any_of HT_.out (by kernel_rfl)) (fun _ _ _ h => h) (Or.inr ⟨by rfl, rfl⟩) ?_ ?_
        rotate_left
        · simp only [Act.put, List.setIfInBounds_toArray, List.set_cons_zero, List.set_cons_succ, i64_w, i32_w]
          rfl
        refine pure_ (i := 15) (N := some 33) (v := ?_) (a' := ?_) #[true, true, true, true, true, true, true, true, true, true, true, true, true, true, true, true] rfl rfl (any_of HT_.out (by kernel_rfl)) (fun _ _ _ h => h) (Or.inl ⟨by rfl, ?_⟩) ?_ ?_
        rotate_left
        · intro w'
          go_simp
          with_reducible rfl
        rotate_left
        · simp only [Act.put, List.setIfInBounds_toArray, List.set_cons_zero, List.set_cons_succ, i64_w, i32_w]
          rfl
        refine done_ (done_of HT_.out (by kernel_rfl)) ?_
        try go_wp2
        go_meet
        case rel => exact ⟨_, (true), (by first | rfl | (simp; done) | (simp [*]; done)), H', ⟨by first | omega | exact Nat.le_refl _⟩, ⟨by (with_reducible repeat (first | refine blk_drewN ?_ _ | refine blk_drew ?_ | refine blk_alloc ?_ _)); exact BK165.out⟩, ⟨by repeat (first | (with_reducible first | exact HB.out | apply below_alloc | apply pw_below_drewN | apply below_drew1 | refine below_set ?_ GE165.out) | exact HB.out)⟩⟩
      · rw [if_neg c10] at H
        have c10b0 : (t166 != t167) = false := by simpa using c10
        (try (have c10b1 : decide (t166 = t167) = true := by simpa using c10))
        (try (have c10b2 : (t166 == t167) = true := by simpa using c10))
        clear c10
        (first | rw [c10b0] | (simp only [i64_w, i32_w]; rw [c10b0]) | skip)
        replace H := Option.bind_eq_some_iff.mp H
        obtain ⟨t168, A150, H⟩ := H
        replace H : ((spec_QryArea.f t159 t160 t161 t162).bind fun t169 => (laws_FnQryIn.j0 k (t168 != t169) t159 t160 t161 t162)) = some r := H
        have A15 := Aside0.mk A150
        clear A150
        replace H := Option.bind_eq_some_iff.mp H
        obtain ⟨t169, A160, H⟩ := H
        replace H : (laws_FnQryIn.j0 k (t168 != t169) t159 t160 t161 t162) = some r := H
        have A16 := Aside0.mk A160
        clear A160
        have H' := Aside0.mk H
        clear H
        try go_wp2
        have n0_ : Aside0 (((((w6.setCell ⟨gb165, 0, none⟩ (.int .i64 t159)).setCell ⟨gb165, 1, none⟩ (.int .i64 t160)).setCell ⟨gb165, 2, none⟩ (.int .i64 t161)).setCell ⟨gb165, 3, none⟩ (.int .i64 t162)).heap[gb165]? = some (.cells #[.int .i64 t159, .int .i64 t160, .int .i64 t161, .int .i64 t162] 24 (0, 0))) := ⟨by (with_reducible repeat (first | refine blk_drewN ?_ _ | refine blk_drew ?_ | refine blk_alloc ?_ _)); refine blk_put (cs := #[.int .i64 t159, .int .i64 t160, .int .i64 t161, .int .i64 0]) ?_ 3 _ rfl; (with_reducible repeat (first | refine blk_drewN ?_ _ | refine blk_drew ?_ | refine blk_alloc ?_ _)); refine blk_put (cs := #[.int .i64 t159, .int .i64 t160, .int .i64 0, .int .i64 0]) ?_ 2 _ rfl; (with_reducible repeat (first | refine blk_drewN ?_ _ | refine blk_drew ?_ | refine blk_alloc ?_ _)); refine blk_put (cs := #[.int .i64 t159, .int .i64 0, .int .i64 0, .int .i64 0]) ?_ 1 _ rfl; (with_reducible repeat (first | refine blk_drewN ?_ _ | refine blk_drew ?_ | refine blk_alloc ?_ _)); refine blk_put (cs := #[.int .i64 0, .int .i64 0, .int .i64 0, .int .i64 0]) ?_ 0 _ rfl; (with_reducible repeat (first | refine blk_drewN ?_ _ | refine blk_drew ?_ | refine blk_alloc ?_ _)); exact BK165.out⟩
        have n1_ : Aside0 (Below w.heap.size w ((((w6.setCell ⟨gb165, 0, none⟩ (.int .i64 t159)).setCell ⟨gb165, 1, none⟩ (.int .i64 t160)).setCell ⟨gb165, 2, none⟩ (.int .i64 t161)).setCell ⟨gb165, 3, none⟩ (.int .i64 t162))) := ⟨by repeat (first | (with_reducible first | exact HB.out | apply below_alloc | apply pw_below_drewN | apply below_drew1 | refine below_set ?_ GE165.out) | exact HB.out)⟩
        (try clear BK165)
        (try clear HB)
        generalize ((((w6.setCell ⟨gb165, 0, none⟩ (.int .i64 t159)).setCell ⟨gb165, 1, none⟩ (.int .i64 t160)).setCell ⟨gb165, 2, none⟩ (.int .i64 t161)).setCell ⟨gb165, 3, none⟩ (.int .i64 t162)) = w17 at n0_ n1_ ⊢
        have BK165 := n0_
        have HB := n1_
        clear n0_ n1_
        have n0_ := Aside0.mk (blk_drew BK165.out)
        have n1_ := Aside0.mk (below_drew1 HB.out)
        clear BK165
        clear HB
        have BK165 := n0_
        have HB := n1_
        clear n0_ n1_
        refine start_ (n := 16) (S := fun w' => w'.cell? ⟨gb165, 0, none⟩ = some (.int .i64 t159) ∧ w'.cell? ⟨gb165, 1, none⟩ = some (.int .i64 t160) ∧ w'.cell? ⟨gb165, 2, none⟩ = some (.int .i64 t161) ∧ w'.cell? ⟨gb165, 3, none⟩ = some (.int .i64 t162)) (ds := []) #[false, false, false, false, false, false, false, false, false, false, false, false, false, false, false, false] (by kernel_rfl) rfl rfl ⟨(blk_cell BK165.out 0).trans rfl, (blk_cell BK165.out 1).trans rfl, (blk_cell BK165.out 2).trans rfl, (blk_cell BK165.out 3).trans rfl⟩ (fun hHeld => ?_); refine with_tabW laws_FnQryIn.tab4 laws_FnQryIn.bits4 (fun HT_ HW_ => ?_)
        generalize w17.drew = w18 at BK165 HB hHeld ⊢
        refine pure_ (i := 1) (N := some 19) (v := ?_) (a' := ?_) #[false, true, false, false, false, false, false, false, false, false, false, false, false, false, false, false] rfl rfl (any_of HT_.out (by kernel_rfl)) (fun _ _ _ h => h) (Or.inl ⟨by rfl, ?_⟩) ?_ ?_
        rotate_left
        · intro w'
          go_simp
          with_reducible rfl
        rotate_left
        · simp only [Act.put, List.setIfInBounds_toArray, List.set_cons_zero, List.set_cons_succ, i64_w, i32_w]
          rfl
        refine pure_ (i := 2) (N := some 20) (v := ?_) (a' := ?_) #[false, true, true, false, false, false, false, false, false, false, false, false, false, false, false, false] rfl rfl (any_of HT_.out (by kernel_rfl)) (fun _ _ _ h => h) (Or.inl ⟨by rfl, ?_⟩) ?_ ?_
        rotate_left
        · intro w'
          go_simp
          with_reducible rfl
        rotate_left
        · simp only [Act.put, List.setIfInBounds_toArray, List.set_cons_zero, List.set_cons_succ, i64_w, i32_w]
          rfl
        refine pure_ (i := 5) (N := some 23) (v := ?_) (a' := ?_) #[false, true, true, false, false, true, false, false, false, false, false, false, false, false, false, false] rfl rfl (any_of HT_.out (by kernel_rfl)) (fun _ _ _ h => h) (Or.inl ⟨by rfl, ?_⟩) ?_ ?_
        rotate_left
        · intro w'
          go_simp
          with_reducible rfl
        rotate_left
        · simp only [Act.put, List.setIfInBounds_toArray, List.set_cons_zero, List.set_cons_succ, i64_w, i32_w]
          rfl
        refine pure_ (i := 6) (N := some 24) (v := ?_) (a' := ?_) #[false, true, true, false, false, true, true, false, false, false, false, false, false, false, false, false] rfl rfl (any_of HT_.out (by kernel_rfl)) (fun _ _ _ h => h) (Or.inl ⟨by rfl, ?_⟩) ?_ ?_
        rotate_left
        · intro w'
          go_simp
          with_reducible rfl
        rotate_left
        · simp only [Act.put, List.setIfInBounds_toArray, List.set_cons_zero, List.set_cons_succ, i64_w, i32_w]
          rfl
        refine take_ (i := 0) (N := some 18) (v := ?_) (a' := ?_) #[true, true, true, false, false, true, true, false, false, false, false, false, false, false, false, false] rfl rfl (take_ofW HT_.out HW_.out (by kernel_rfl)) (fun _ _ _ h => h) (Or.inl ⟨by rfl, ?_⟩) hHeld ?_ ?_
        rotate_left
        · rintro w' ⟨s0, s1, s2, s3⟩
          go_simp
          with_reducible rfl
        rotate_left
        · simp only [Act.put, List.setIfInBounds_toArray, List.set_cons_zero, List.set_cons_succ, i64_w, i32_w]
          rfl
        refine take_ (i := 4) (N := some 22) (v := ?_) (a' := ?_) #[true, true, true, false, true, true, true, false, false, false, false, false, false, false, false, false] rfl rfl (take_ofW HT_.out HW_.out (by kernel_rfl)) (fun _ _ _ h => h) (Or.inl ⟨by rfl, ?_⟩) hHeld ?_ ?_
        rotate_left
        · rintro w' ⟨s0, s1, s2, s3⟩
          go_simp
          with_reducible rfl
        rotate_left
        · simp only [Act.put, List.setIfInBounds_toArray, List.set_cons_zero, List.set_cons_succ, i64_w, i32_w]
          rfl
        refine one_ (i := 3) (N := some 21) #[true, true, true, true, true, true, true, false, false, false, false, false, false, false, false, false] rfl rfl (one_of HT_.out (by kernel_rfl)) (by decide) (fun K hK => ?_)
        refine goes_ Tryd.func7 (by kernel_rfl) rfl #[.agg #[.int .i64 t159, .int .i64 t160, .int .i64 t161, .int .i64 t162], .int .i64 t163, .int .i64 t164] (by rfl) rfl rfl (by (try simp only [List.map_toArray, List.map_cons, List.map_nil]); first | done | rfl | (simp only [List.length_drop, List.length_take]; rfl)) ?_
        with_reducible refine (impl_QryIn.calls t159 t160 t161 t162 t163 t164 t166 _ A8.out).mono ?_
        rintro e w19 ⟨rfl, hb⟩
        refine ⟨_, rfl, ?_⟩
        have n0_ := Aside0.mk (blk_below (g := gb165) (o := .cells #[.int .i64 t159, .int .i64 t160, .int .i64 t161, .int .i64 t162] 24 (0, 0)) (by (with_reducible repeat (first | refine blk_drewN ?_ _ | refine blk_drew ?_ | refine blk_alloc ?_ _)); exact BK165.out) hb)
        have n1_ := Aside0.mk (below_step (by repeat (first | (with_reducible first | exact HB.out | apply below_alloc | apply pw_below_drewN | apply below_drew1 | refine below_set ?_ GE165.out) | exact HB.out)) hb)
        clear BK165
        clear HB
        have BK165 := n0_
        have HB := n1_
        clear n0_ n1_
        (try clear hb)
        (try clear hb2)
        (try clear hk)
        (try clear hi)
        refine hK.out _ _ ⟨(blk_cell BK165.out 0).trans rfl, (blk_cell BK165.out 1).trans rfl, (blk_cell BK165.out 2).trans rfl, (blk_cell BK165.out 3).trans rfl⟩ (fun hHeld => ?_)
        clear hK K
        refine norm_ (a' := ?_) ?_ ?_
        rotate_left
        · show Act.put _ (some 21) _ = _
          simp only [Act.put, List.setIfInBounds_toArray, List.set_cons_zero, List.set_cons_succ, i64_w, i32_w]
          rfl
        refine one_ (i := 7) (N := some 25) #[true, true, true, true, true, true, true, true, false, false, false, false, false, false, false, false] rfl rfl (one_of HT_.out (by kernel_rfl)) (by decide) (fun K hK => ?_)
        refine goes_ Tryd.func8 (by kernel_rfl) rfl #[.agg #[.int .i64 t159, .int .i64 t160, .int .i64 t161, .int .i64 t162], .int .i64 t163, .int .i64 t164] (by rfl) rfl rfl (by (try simp only [List.map_toArray, List.map_cons, List.map_nil]); first | done | rfl | (simp only [List.length_drop, List.length_take]; rfl)) ?_
        with_reducible refine (spec_QryIn.calls k t159 t160 t161 t162 t163 t164 t167 _ A9.out).mono ?_
        rintro e w20 ⟨rfl, hb⟩
        refine ⟨_, rfl, ?_⟩
        have n0_ := Aside0.mk (blk_below (g := gb165) (o := .cells #[.int .i64 t159, .int .i64 t160, .int .i64 t161, .int .i64 t162] 24 (0, 0)) (by (with_reducible repeat (first | refine blk_drewN ?_ _ | refine blk_drew ?_ | refine blk_alloc ?_ _)); exact BK165.out) hb)
        have n1_ := Aside0.mk (below_step (by repeat (first | (with_reducible first | exact HB.out | apply below_alloc | apply pw_below_drewN | apply below_drew1 | refine below_set ?_ GE165.out) | exact HB.out)) hb)
        clear BK165
        clear HB
        have BK165 := n0_
        have HB := n1_
        clear n0_ n1_
        (try clear hb)
        (try clear hb2)
        (try clear hk)
        (try clear hi)
        refine hK.out _ _ ⟨(blk_cell BK165.out 0).trans rfl, (blk_cell BK165.out 1).trans rfl, (blk_cell BK165.out 2).trans rfl, (blk_cell BK165.out 3).trans rfl⟩ (fun hHeld => ?_)
        clear hK K
        refine norm_ (a' := ?_) ?_ ?_
        rotate_left
        · show Act.put _ (some 25) _ = _
          simp only [Act.put, List.setIfInBounds_toArray, List.set_cons_zero, List.set_cons_succ, i64_w, i32_w]
          rfl
        refine pure_ (i := 8) (N := some 26) (v := ?_) (a' := ?_) #[true, true, true, true, true, true, true, true, true, false, false, false, false, false, false, false] rfl rfl (any_of HT_.out (by kernel_rfl)) (fun _ _ _ h => h) (Or.inl ⟨by rfl, ?_⟩) ?_ ?_
        rotate_left
        · intro w'
          go_simp
          with_reducible rfl
        rotate_left
        · simp only [Act.put, List.setIfInBounds_toArray, List.set_cons_zero, List.set_cons_succ, i64_w, i32_w]
          rfl
        refine pure_ (i := 9) (N := some 27) (v := ?_) (a' := ?_) #[true, true, true, true, true, true, true, true, true, true, false, false, false, false, false, false] rfl rfl (any_of HT_.out (by kernel_rfl)) (fun _ _ _ h => h) (Or.inl ⟨by rfl, ?_⟩) ?_ ?_
        rotate_left
        · intro w'
          go_simp
          with_reducible rfl
        rotate_left
        · simp only [Act.put, List.setIfInBounds_toArray, List.set_cons_zero, List.set_cons_succ, i64_w, i32_w]
          rfl
        refine take_ (i := 10) (N := some 28) (v := ?_) (a' := ?_) #[true, true, true, true, true, true, true, true, true, true, true, false, false, false, false, false] rfl rfl (take_ofW HT_.out HW_.out (by kernel_rfl)) (fun _ _ _ h => h) (Or.inl ⟨by rfl, ?_⟩) hHeld ?_ ?_
        rotate_left
        · rintro w' ⟨s0, s1, s2, s3⟩
          go_simp
          with_reducible rfl
        rotate_left
        · simp only [Act.put, List.setIfInBounds_toArray, List.set_cons_zero, List.set_cons_succ, i64_w, i32_w]
          rfl
        refine take_ (i := 12) (N := some 30) (v := ?_) (a' := ?_) #[true, true, true, true, true, true, true, true, true, true, true, false, true, false, false, false] rfl rfl (take_ofW HT_.out HW_.out (by kernel_rfl)) (fun _ _ _ h => h) (Or.inl ⟨by rfl, ?_⟩) hHeld ?_ ?_
        rotate_left
        · rintro w' ⟨s0, s1, s2, s3⟩
          go_simp
          with_reducible rfl
        rotate_left
        · simp only [Act.put, List.setIfInBounds_toArray, List.set_cons_zero, List.set_cons_succ, i64_w, i32_w]
          rfl
        refine one_ (i := 11) (N := some 29) #[true, true, true, true, true, true, true, true, true, true, true, true, true, false, false, false] rfl rfl (one_of HT_.out (by kernel_rfl)) (by decide) (fun K hK => ?_)
        refine goes_ Tryd.func9 (by kernel_rfl) rfl #[.agg #[.int .i64 t159, .int .i64 t160, .int .i64 t161, .int .i64 t162]] (by rfl) rfl rfl (by (try simp only [List.map_toArray, List.map_cons, List.map_nil]); first | done | rfl | (simp only [List.length_drop, List.length_take]; rfl)) ?_
        with_reducible refine (impl_QryArea.calls t159 t160 t161 t162 t168 _ A15.out).mono ?_
        rintro e w21 ⟨rfl, hb⟩
        refine ⟨_, rfl, ?_⟩
        have n0_ := Aside0.mk (blk_below (g := gb165) (o := .cells #[.int .i64 t159, .int .i64 t160, .int .i64 t161, .int .i64 t162] 24 (0, 0)) (by (with_reducible repeat (first | refine blk_drewN ?_ _ | refine blk_drew ?_ | refine blk_alloc ?_ _)); exact BK165.out) hb)
        have n1_ := Aside0.mk (below_step (by repeat (first | (with_reducible first | exact HB.out | apply below_alloc | apply pw_below_drewN | apply below_drew1 | refine below_set ?_ GE165.out) | exact HB.out)) hb)
        clear BK165
        clear HB
        have BK165 := n0_
        have HB := n1_
        clear n0_ n1_
        (try clear hb)
        (try clear hb2)
        (try clear hk)
        (try clear hi)
        refine hK.out _ _ ⟨(blk_cell BK165.out 0).trans rfl, (blk_cell BK165.out 1).trans rfl, (blk_cell BK165.out 2).trans rfl, (blk_cell BK165.out 3).trans rfl⟩ (fun hHeld => ?_)
        clear hK K
        refine norm_ (a' := ?_) ?_ ?_
        rotate_left
        · show Act.put _ (some 29) _ = _
          simp only [Act.put, List.setIfInBounds_toArray, List.set_cons_zero, List.set_cons_succ, i64_w, i32_w]
          rfl
        refine one_ (i := 13) (N := some 31) #[true, true, true, true, true, true, true, true, true, true, true, true, true, true, false, false] rfl rfl (one_of HT_.out (by kernel_rfl)) (by decide) (fun K hK => ?_)
        refine goes_ Tryd.func10 (by kernel_rfl) rfl #[.agg #[.int .i64 t159, .int .i64 t160, .int .i64 t161, .int .i64 t162]] (by rfl) rfl rfl (by (try simp only [List.map_toArray, List.map_cons, List.map_nil]); first | done | rfl | (simp only [List.length_drop, List.length_take]; rfl)) ?_
        with_reducible refine (spec_QryArea.calls t159 t160 t161 t162 t169 _ A16.out).mono ?_
        rintro e w22 ⟨rfl, hb⟩
        refine ⟨_, rfl, ?_⟩
        have n0_ := Aside0.mk (blk_below (g := gb165) (o := .cells #[.int .i64 t159, .int .i64 t160, .int .i64 t161, .int .i64 t162] 24 (0, 0)) (by (with_reducible repeat (first | refine blk_drewN ?_ _ | refine blk_drew ?_ | refine blk_alloc ?_ _)); exact BK165.out) hb)
        have n1_ := Aside0.mk (below_step (by repeat (first | (with_reducible first | exact HB.out | apply below_alloc | apply pw_below_drewN | apply below_drew1 | refine below_set ?_ GE165.out) | exact HB.out)) hb)
        clear BK165
        clear HB
        have BK165 := n0_
        have HB := n1_
        clear n0_ n1_
        (try clear hb)
        (try clear hb2)
        (try clear hk)
        (try clear hi)
        refine hK.out _ _ ⟨(blk_cell BK165.out 0).trans rfl, (blk_cell BK165.out 1).trans rfl, (blk_cell BK165.out 2).trans rfl, (blk_cell BK165.out 3).trans rfl⟩ (fun hHeld => ?_)
        clear hK K
        refine norm_ (a' := ?_) ?_ ?_
        rotate_left
        · show Act.put _ (some 31) _ = _
          simp only [Act.put, List.setIfInBounds_toArray, List.set_cons_zero, List.set_cons_succ, i64_w, i32_w]
          rfl
        refine pure_ (i := 14) (N := some 32) (v := ?_) (a' := ?_) #[true, true, true, true, true, true, true, true, true, true, true, true, true, true, true, false] rfl rfl (any_of HT_.out (by kernel_rfl)) (fun _ _ _ h => h) (Or.inl ⟨by rfl, ?_⟩) ?_ ?_
        rotate_left
        · intro w'
          go_simp
          with_reducible rfl
        rotate_left
        · simp only [Act.put, List.setIfInBounds_toArray, List.set_cons_zero, List.set_cons_succ, i64_w, i32_w]
          rfl
        refine pure_ (i := 15) (N := some 33) (v := ?_) (a' := ?_) #[true, true, true, true, true, true, true, true, true, true, true, true, true, true, true, true] rfl rfl (any_of HT_.out (by kernel_rfl)) (fun _ _ _ h => h) (Or.inl ⟨by rfl, ?_⟩) ?_ ?_
        rotate_left
        · intro w'
          go_simp
          with_reducible rfl
        rotate_left
        · simp only [Act.put, List.setIfInBounds_toArray, List.set_cons_zero, List.set_cons_succ, i64_w, i32_w]
          rfl
        refine done_ (done_of HT_.out (by kernel_rfl)) ?_
        try go_wp2
        go_meet
        case rel => exact ⟨_, ((t168 != t169)), (by first | rfl | (simp; done) | (simp [*]; done)), H', ⟨by first | omega | exact Nat.le_refl _⟩, ⟨by (with_reducible repeat (first | refine blk_drewN ?_ _ | refine blk_drew ?_ | refine blk_alloc ?_ _)); exact BK165.out⟩, ⟨by repeat (first | (with_reducible first | exact HB.out | apply below_alloc | apply pw_below_drewN | apply below_drew1 | refine below_set ?_ GE165.out) | exact HB.out)⟩⟩
    case rest =>
      clear HC4
      try clear c1
      try clear c2
      try clear c2b0
      try clear c2b1
      try clear p2
      try clear c3
      try clear c6
      try clear c7
      try clear c8
      try clear c9
      try clear c10
      try clear c10b0
      try clear c10b1
      try clear c10b2
      try clear hcz7_0
      try clear hcz7_1
      try clear hcz7_2
      try clear hcz7_3
      try clear hfz7_0
      try clear hfz7_1
      try clear hfz7_2
      try clear hfz7_3
      obtain ⟨kq, x33_3, rfl, HA, HJ3, BK165, HB⟩ := hcut
      cases kq with
      | zero => exact absurd HA.out (by simp [laws_FnQryIn.j0])
      | succ kj3 =>
        have H := HA.out
        clear HA
        simp only [laws_FnQryIn.j0] at H
        by_cases c23 : x33_3 = true
        · subst c23
          have H1 : (some false) = some r := by rw [if_pos rfl] at H; exact H
          clear H
          have H := H1
          clear H1
          obtain rfl := Option.some.inj H
          go_wp2
          go_ret
          exact ⟨by first | rfl | (simp [IntKind.wrap_i64, wrap64]; done) | (simp [errW_none, errW_some] <;> rfl) | (simp [*, errW_none, errW_some] <;> rfl), by repeat (first | (with_reducible first | exact HB.out | apply below_alloc | apply pw_below_drewN | apply below_drew1 | refine below_set ?_ GE165.out) | exact HB.out)⟩
        · replace c23 := Bool.eq_false_iff.mpr c23
          subst c23
          have H1 : (if t159 < 0 then (laws_FnQryIn.j1 kj3 true t159 t160 t161 t162) else (if t159 > 4 then (laws_FnQryIn.j1 kj3 true t159 t160 t161 t162) else (if t160 < 0 then (laws_FnQryIn.j1 kj3 true t159 t160 t161 t162) else (if t160 > 4 then (laws_FnQryIn.j1 kj3 true t159 t160 t161 t162) else (if t161 < 0 then (laws_FnQryIn.j1 kj3 true t159 t160 t161 t162) else (if t161 > 4 then (laws_FnQryIn.j1 kj3 true t159 t160 t161 t162) else (if t162 < 0 then (laws_FnQryIn.j1 kj3 true t159 t160 t161 t162) else (laws_FnQryIn.j1 kj3 (decide (t162 > 4)) t159 t160 t161 t162)))))))) = some r := by rw [if_neg (show ¬ (false = true) by decide)] at H; exact H
          clear H
          have H := H1
          clear H1
          have HC24 := Aside0.mk H
          clear H
          go_upto_region 6 with (fail)
          go_cut [71] (fun v71 wc => ∃ (kq : Nat) (x71_23 : Bool), v71 = .bool x71_23 ∧ Aside0 (laws_FnQryIn.j1 kq x71_23 t159 t160 t161 t162 = some r) ∧ Aside0 (kq ≤ kj3) ∧ Aside0 (wc.heap[gb165]? = some (.cells #[.int .i64 t159, .int .i64 t160, .int .i64 t161, .int .i64 t162] 24 (0, 0))) ∧ Aside0 (Below w.heap.size w wc))
          case first =>
            have H := HC24.out
            clear HC24
            by_cases c25 : t159 < 0
            · rw [if_pos c25] at H
              have c25b0 : decide (t159 < 0) = true := decide_eq_true c25
              clear c25
              (first | rw [c25b0] | (simp only [i64_w, i32_w]; rw [c25b0]) | skip)
              have H' := Aside0.mk H
              clear H
              have hcz26_0 : wc.cell? ⟨gb165, 0, none⟩ = some (.int .i64 t159) := (blk_cell BK165.out 0).trans rfl
              have hcz26_1 : wc.cell? ⟨gb165, 1, none⟩ = some (.int .i64 t160) := (blk_cell BK165.out 1).trans rfl
              have hcz26_2 : wc.cell? ⟨gb165, 2, none⟩ = some (.int .i64 t161) := (blk_cell BK165.out 2).trans rfl
              have hcz26_3 : wc.cell? ⟨gb165, 3, none⟩ = some (.int .i64 t162) := (blk_cell BK165.out 3).trans rfl
              have hfz26_0 := blk_frozen BK165.out 0
              have hfz26_1 := blk_frozen BK165.out 1
              have hfz26_2 := blk_frozen BK165.out 2
              have hfz26_3 := blk_frozen BK165.out 3
              go_wp2
              go_meet
              case rel => exact ⟨_, (true), (by first | rfl | (simp; done) | (simp [*]; done)), H', ⟨by have := HJ3.out; first | omega | exact Nat.le_refl _⟩, ⟨by (with_reducible repeat (first | refine blk_drewN ?_ _ | refine blk_drew ?_ | refine blk_alloc ?_ _)); exact BK165.out⟩, ⟨by repeat (first | (with_reducible first | exact HB.out | apply below_alloc | apply pw_below_drewN | apply below_drew1 | refine below_set ?_ GE165.out) | exact HB.out)⟩⟩
            · rw [if_neg c25] at H
              have c25b0 : decide (t159 < 0) = false := decide_eq_false c25
              clear c25
              (first | rw [c25b0] | (simp only [i64_w, i32_w]; rw [c25b0]) | skip)
              by_cases c27 : t159 > 4
              · rw [if_pos c27] at H
                have c27b0 : decide (4 < t159) = true := decide_eq_true c27
                clear c27
                have H' := Aside0.mk H
                clear H
                have hcz28_0 : wc.cell? ⟨gb165, 0, none⟩ = some (.int .i64 t159) := (blk_cell BK165.out 0).trans rfl
                have hcz28_1 : wc.cell? ⟨gb165, 1, none⟩ = some (.int .i64 t160) := (blk_cell BK165.out 1).trans rfl
                have hcz28_2 : wc.cell? ⟨gb165, 2, none⟩ = some (.int .i64 t161) := (blk_cell BK165.out 2).trans rfl
                have hcz28_3 : wc.cell? ⟨gb165, 3, none⟩ = some (.int .i64 t162) := (blk_cell BK165.out 3).trans rfl
                have hfz28_0 := blk_frozen BK165.out 0
                have hfz28_1 := blk_frozen BK165.out 1
                have hfz28_2 := blk_frozen BK165.out 2
                have hfz28_3 := blk_frozen BK165.out 3
                go_wp2
                go_meet
                case rel => exact ⟨_, (true), (by first | rfl | (simp; done) | (simp [*]; done)), H', ⟨by have := HJ3.out; first | omega | exact Nat.le_refl _⟩, ⟨by (with_reducible repeat (first | refine blk_drewN ?_ _ | refine blk_drew ?_ | refine blk_alloc ?_ _)); exact BK165.out⟩, ⟨by repeat (first | (with_reducible first | exact HB.out | apply below_alloc | apply pw_below_drewN | apply below_drew1 | refine below_set ?_ GE165.out) | exact HB.out)⟩⟩
              · rw [if_neg c27] at H
                have c27b0 : decide (4 < t159) = false := decide_eq_false c27
                clear c27
                by_cases c29 : t160 < 0
                · rw [if_pos c29] at H
                  have c29b0 : decide (t160 < 0) = true := decide_eq_true c29
                  clear c29
                  have H' := Aside0.mk H
                  clear H
                  have hcz30_0 : wc.cell? ⟨gb165, 0, none⟩ = some (.int .i64 t159) := (blk_cell BK165.out 0).trans rfl
                  have hcz30_1 : wc.cell? ⟨gb165, 1, none⟩ = some (.int .i64 t160) := (blk_cell BK165.out 1).trans rfl
                  have hcz30_2 : wc.cell? ⟨gb165, 2, none⟩ = some (.int .i64 t161) := (blk_cell BK165.out 2).trans rfl
                  have hcz30_3 : wc.cell? ⟨gb165, 3, none⟩ = some (.int .i64 t162) := (blk_cell BK165.out 3).trans rfl
                  have hfz30_0 := blk_frozen BK165.out 0
                  have hfz30_1 := blk_frozen BK165.out 1
                  have hfz30_2 := blk_frozen BK165.out 2
                  have hfz30_3 := blk_frozen BK165.out 3
                  go_wp2
                  go_meet
                  case rel => exact ⟨_, (true), (by first | rfl | (simp; done) | (simp [*]; done)), H', ⟨by have := HJ3.out; first | omega | exact Nat.le_refl _⟩, ⟨by (with_reducible repeat (first | refine blk_drewN ?_ _ | refine blk_drew ?_ | refine blk_alloc ?_ _)); exact BK165.out⟩, ⟨by repeat (first | (with_reducible first | exact HB.out | apply below_alloc | apply pw_below_drewN | apply below_drew1 | refine below_set ?_ GE165.out) | exact HB.out)⟩⟩
                · rw [if_neg c29] at H
                  have c29b0 : decide (t160 < 0) = false := decide_eq_false c29
                  clear c29
                  by_cases c31 : t160 > 4
                  · rw [if_pos c31] at H
                    have c31b0 : decide (4 < t160) = true := decide_eq_true c31
                    clear c31
                    have H' := Aside0.mk H
                    clear H
                    have hcz32_0 : wc.cell? ⟨gb165, 0, none⟩ = some (.int .i64 t159) := (blk_cell BK165.out 0).trans rfl
                    have hcz32_1 : wc.cell? ⟨gb165, 1, none⟩ = some (.int .i64 t160) := (blk_cell BK165.out 1).trans rfl
                    have hcz32_2 : wc.cell? ⟨gb165, 2, none⟩ = some (.int .i64 t161) := (blk_cell BK165.out 2).trans rfl
                    have hcz32_3 : wc.cell? ⟨gb165, 3, none⟩ = some (.int .i64 t162) := (blk_cell BK165.out 3).trans rfl
                    have hfz32_0 := blk_frozen BK165.out 0
                    have hfz32_1 := blk_frozen BK165.out 1
                    have hfz32_2 := blk_frozen BK165.out 2
                    have hfz32_3 := blk_frozen BK165.out 3
                    go_wp2
                    go_meet
                    case rel => exact ⟨_, (true), (by first | rfl | (simp; done) | (simp [*]; done)), H', ⟨by have := HJ3.out; first | omega | exact Nat.le_refl _⟩, ⟨by (with_reducible repeat (first | refine blk_drewN ?_ _ | refine blk_drew ?_ | refine blk_alloc ?_ _)); exact BK165.out⟩, ⟨by repeat (first | (with_reducible first | exact HB.out | apply below_alloc | apply pw_below_drewN | apply below_drew1 | refine below_set ?_ GE165.out) | exact HB.out)⟩⟩
                  · rw [if_neg c31] at H
                    have c31b0 : decide (4 < t160) = false := decide_eq_false c31
                    clear c31
                    by_cases c33 : t161 < 0
                    · rw [if_pos c33] at H
                      have c33b0 : decide (t161 < 0) = true := decide_eq_true c33
                      clear c33
                      have H' := Aside0.mk H
                      clear H
                      have hcz34_0 : wc.cell? ⟨gb165, 0, none⟩ = some (.int .i64 t159) := (blk_cell BK165.out 0).trans rfl
                      have hcz34_1 : wc.cell? ⟨gb165, 1, none⟩ = some (.int .i64 t160) := (blk_cell BK165.out 1).trans rfl
                      have hcz34_2 : wc.cell? ⟨gb165, 2, none⟩ = some (.int .i64 t161) := (blk_cell BK165.out 2).trans rfl
                      have hcz34_3 : wc.cell? ⟨gb165, 3, none⟩ = some (.int .i64 t162) := (blk_cell BK165.out 3).trans rfl
                      have hfz34_0 := blk_frozen BK165.out 0
                      have hfz34_1 := blk_frozen BK165.out 1
                      have hfz34_2 := blk_frozen BK165.out 2
                      have hfz34_3 := blk_frozen BK165.out 3
                      go_wp2
                      go_meet
                      case rel => exact ⟨_, (true), (by first | rfl | (simp; done) | (simp [*]; done)), H', ⟨by have := HJ3.out; first | omega | exact Nat.le_refl _⟩, ⟨by (with_reducible repeat (first | refine blk_drewN ?_ _ | refine blk_drew ?_ | refine blk_alloc ?_ _)); exact BK165.out⟩, ⟨by repeat (first | (with_reducible first | exact HB.out | apply below_alloc | apply pw_below_drewN | apply below_drew1 | refine below_set ?_ GE165.out) | exact HB.out)⟩⟩
                    · rw [if_neg c33] at H
                      have c33b0 : decide (t161 < 0) = false := decide_eq_false c33
                      clear c33
                      by_cases c35 : t161 > 4
                      · rw [if_pos c35] at H
                        have c35b0 : decide (4 < t161) = true := decide_eq_true c35
                        clear c35
                        have H' := Aside0.mk H
                        clear H
                        have hcz36_0 : wc.cell? ⟨gb165, 0, none⟩ = some (.int .i64 t159) := (blk_cell BK165.out 0).trans rfl
                        have hcz36_1 : wc.cell? ⟨gb165, 1, none⟩ = some (.int .i64 t160) := (blk_cell BK165.out 1).trans rfl
                        have hcz36_2 : wc.cell? ⟨gb165, 2, none⟩ = some (.int .i64 t161) := (blk_cell BK165.out 2).trans rfl
                        have hcz36_3 : wc.cell? ⟨gb165, 3, none⟩ = some (.int .i64 t162) := (blk_cell BK165.out 3).trans rfl
                        have hfz36_0 := blk_frozen BK165.out 0
                        have hfz36_1 := blk_frozen BK165.out 1
                        have hfz36_2 := blk_frozen BK165.out 2
                        have hfz36_3 := blk_frozen BK165.out 3
                        go_wp2
                        go_meet
                        case rel => exact ⟨_, (true), (by first | rfl | (simp; done) | (simp [*]; done)), H', ⟨by have := HJ3.out; first | omega | exact Nat.le_refl _⟩, ⟨by (with_reducible repeat (first | refine blk_drewN ?_ _ | refine blk_drew ?_ | refine blk_alloc ?_ _)); exact BK165.out⟩, ⟨by repeat (first | (with_reducible first | exact HB.out | apply below_alloc | apply pw_below_drewN | apply below_drew1 | refine below_set ?_ GE165.out) | exact HB.out)⟩⟩
                      · rw [if_neg c35] at H
                        have c35b0 : decide (4 < t161) = false := decide_eq_false c35
                        clear c35
                        by_cases c37 : t162 < 0
                        · rw [if_pos c37] at H
                          have c37b0 : decide (t162 < 0) = true := decide_eq_true c37
                          clear c37
                          have H' := Aside0.mk H
                          clear H
                          have hcz38_0 : wc.cell? ⟨gb165, 0, none⟩ = some (.int .i64 t159) := (blk_cell BK165.out 0).trans rfl
                          have hcz38_1 : wc.cell? ⟨gb165, 1, none⟩ = some (.int .i64 t160) := (blk_cell BK165.out 1).trans rfl
                          have hcz38_2 : wc.cell? ⟨gb165, 2, none⟩ = some (.int .i64 t161) := (blk_cell BK165.out 2).trans rfl
                          have hcz38_3 : wc.cell? ⟨gb165, 3, none⟩ = some (.int .i64 t162) := (blk_cell BK165.out 3).trans rfl
                          have hfz38_0 := blk_frozen BK165.out 0
                          have hfz38_1 := blk_frozen BK165.out 1
                          have hfz38_2 := blk_frozen BK165.out 2
                          have hfz38_3 := blk_frozen BK165.out 3
                          go_wp2
                          go_meet
                          case rel => exact ⟨_, (true), (by first | rfl | (simp; done) | (simp [*]; done)), H', ⟨by have := HJ3.out; first | omega | exact Nat.le_refl _⟩, ⟨by (with_reducible repeat (first | refine blk_drewN ?_ _ | refine blk_drew ?_ | refine blk_alloc ?_ _)); exact BK165.out⟩, ⟨by repeat (first | (with_reducible first | exact HB.out | apply below_alloc | apply pw_below_drewN | apply below_drew1 | refine below_set ?_ GE165.out) | exact HB.out)⟩⟩
                        · rw [if_neg c37] at H
                          have c37b0 : decide (t162 < 0) = false := decide_eq_false c37
                          clear c37
                          have H' := Aside0.mk H
                          clear H
                          have hcz39_0 : wc.cell? ⟨gb165, 0, none⟩ = some (.int .i64 t159) := (blk_cell BK165.out 0).trans rfl
                          have hcz39_1 : wc.cell? ⟨gb165, 1, none⟩ = some (.int .i64 t160) := (blk_cell BK165.out 1).trans rfl
                          have hcz39_2 : wc.cell? ⟨gb165, 2, none⟩ = some (.int .i64 t161) := (blk_cell BK165.out 2).trans rfl
                          have hcz39_3 : wc.cell? ⟨gb165, 3, none⟩ = some (.int .i64 t162) := (blk_cell BK165.out 3).trans rfl
                          have hfz39_0 := blk_frozen BK165.out 0
                          have hfz39_1 := blk_frozen BK165.out 1
                          have hfz39_2 := blk_frozen BK165.out 2
                          have hfz39_3 := blk_frozen BK165.out 3
                          go_wp2
                          go_meet
                          case rel => exact ⟨_, (decide (t162 > 4)), (by first | rfl | (simp; done) | (simp [*]; done)), H', ⟨by have := HJ3.out; first | omega | exact Nat.le_refl _⟩, ⟨by (with_reducible repeat (first | refine blk_drewN ?_ _ | refine blk_drew ?_ | refine blk_alloc ?_ _)); exact BK165.out⟩, ⟨by repeat (first | (with_reducible first | exact HB.out | apply below_alloc | apply pw_below_drewN | apply below_drew1 | refine below_set ?_ GE165.out) | exact HB.out)⟩⟩
          case rest =>
            clear HC24
            try clear c1
            try clear c2
            try clear c2b0
            try clear c2b1
            try clear p2
            try clear c3
            try clear c6
            try clear c7
            try clear c8
            try clear c9
            try clear c10
            try clear c10b0
            try clear c10b1
            try clear c10b2
            try clear c23
            try clear c25
            try clear c25b0
            try clear c27
            try clear c27b0
            try clear c29
            try clear c29b0
            try clear c31
            try clear c31b0
            try clear c33
            try clear c33b0
            try clear c35
            try clear c35b0
            try clear c37
            try clear c37b0
            try clear hcz26_0
            try clear hcz26_1
            try clear hcz26_2
            try clear hcz26_3
            try clear hcz28_0
            try clear hcz28_1
            try clear hcz28_2
            try clear hcz28_3
            try clear hcz30_0
            try clear hcz30_1
            try clear hcz30_2
            try clear hcz30_3
            try clear hcz32_0
            try clear hcz32_1
            try clear hcz32_2
            try clear hcz32_3
            try clear hcz34_0
            try clear hcz34_1
            try clear hcz34_2
            try clear hcz34_3
            try clear hcz36_0
            try clear hcz36_1
            try clear hcz36_2
            try clear hcz36_3
            try clear hcz38_0
            try clear hcz38_1
            try clear hcz38_2
            try clear hcz38_3
            try clear hcz39_0
            try clear hcz39_1
            try clear hcz39_2
            try clear hcz39_3
            try clear hcz7_0
            try clear hcz7_1
            try clear hcz7_2
            try clear hcz7_3
            try clear hfz26_0
            try clear hfz26_1
            try clear hfz26_2
            try clear hfz26_3
            try clear hfz28_0
            try clear hfz28_1
            try clear hfz28_2
            try clear hfz28_3
            try clear hfz30_0
            try clear hfz30_1
            try clear hfz30_2
            try clear hfz30_3
            try clear hfz32_0
            try clear hfz32_1
            try clear hfz32_2
            try clear hfz32_3
            try clear hfz34_0
            try clear hfz34_1
            try clear hfz34_2
            try clear hfz34_3
            try clear hfz36_0
            try clear hfz36_1
            try clear hfz36_2
            try clear hfz36_3
            try clear hfz38_0
            try clear hfz38_1
            try clear hfz38_2
            try clear hfz38_3
            try clear hfz39_0
            try clear hfz39_1
            try clear hfz39_2
            try clear hfz39_3
            try clear hfz7_0
            try clear hfz7_1
            try clear hfz7_2
            try clear hfz7_3
            try clear p2
            obtain ⟨kq, x71_23, rfl, HA, HJ23, BK165, HB⟩ := hcut
            cases kq with
            | zero => exact absurd HA.out (by simp [laws_FnQryIn.j1])
            | succ kj23 =>
              have H := HA.out
              clear HA
              simp only [laws_FnQryIn.j1] at H
              by_cases c40 : x71_23 = true
              · subst c40
                have H1 : ((laws_pwOk.f).bind fun t170 => (some t170)) = some r := by rw [if_pos rfl] at H; exact H
                clear H
                have H := H1
                clear H1
                replace H := Option.bind_eq_some_iff.mp H
                obtain ⟨t170, A410, H⟩ := H
                replace H : (some t170) = some r := H
                have A41 := Aside0.mk A410
                clear A410
                obtain rfl := Option.some.inj H
                go_wp2_with (first | ((with_reducible refine gate_callee (f := 11) rfl ?_); refine goesL_ (some 72) rfl rfl Tryd.func11 (by kernel_rfl) rfl #[] rfl (by (try simp only [List.map_toArray, List.map_cons, List.map_nil]); first | done | rfl | (simp only [List.length_drop, List.length_take]; rfl)) ?_; (with_reducible refine (laws_pwOk.calls  t170 _ ?sideM A41.out).mono ?_); (case sideM => repeat (first | exact HM.out | exact (Txt.MLen_below HM.out HB.out) | (with_reducible refine Txt.MLen_alloc ?_ _) | (with_reducible refine Txt.MLen_drewN ?_ _) | (with_reducible refine Txt.MLen_drew ?_))); rintro e w42 ⟨rfl, hb⟩; refine ⟨_, rfl, ?_⟩; have n0_ := Aside0.mk (blk_below (g := gb165) (o := .cells #[.int .i64 t159, .int .i64 t160, .int .i64 t161, .int .i64 t162] 24 (0, 0)) (by (with_reducible repeat (first | refine blk_drewN ?_ _ | refine blk_drew ?_ | refine blk_alloc ?_ _)); exact BK165.out) hb); have n1_ := Aside0.mk (below_step (by repeat (first | (with_reducible first | exact HB.out | apply below_alloc | apply pw_below_drewN | apply below_drew1 | refine below_set ?_ GE165.out) | exact HB.out)) hb); clear BK165; clear HB; have BK165 := n0_; have HB := n1_; clear n0_ n1_; (try clear hb); (try clear hb2); (try clear hk); (try clear hi)))
                go_ret
                exact ⟨by first | rfl | (simp [IntKind.wrap_i64, wrap64]; done) | (simp [errW_none, errW_some] <;> rfl) | (simp [*, errW_none, errW_some] <;> rfl), by repeat (first | (with_reducible first | exact HB.out | apply below_alloc | apply pw_below_drewN | apply below_drew1 | refine below_set ?_ GE165.out) | exact HB.out)⟩
              · replace c40 := Bool.eq_false_iff.mpr c40
                subst c40
                have H1 : (laws_FnQryIn.l0 kj23 0 (-1) t159 t160 t161 t162) = some r := by rw [if_neg (show ¬ (false = true) by decide)] at H; exact H
                clear H
                have H := H1
                clear H1
                have H' := Aside0.mk H
                clear H
                go_wp2
                go_loopg [6, 7] kj23 (fun kq v6 v7 w' => ∃ (x6_3 : Int) (x7_3 : Int), v6 = .int .i64 x6_3 ∧ v7 = .int .i64 x7_3 ∧ Aside0 (laws_FnQryIn.l0 kq x6_3 x7_3 t159 t160 t161 t162 = some r) ∧ Aside0 (kq ≤ kj23) ∧ Aside0 (w'.heap[gb165]? = some (.cells #[.int .i64 t159, .int .i64 t160, .int .i64 t161, .int .i64 t162] 24 (0, 0))) ∧ Aside0 (Below w.heap.size w w'))
                case atStart => exact ⟨(0), ((-1)), (by first | rfl | (simp; done) | (simp [*]; done)), (by first | rfl | (simp; done) | (simp [*]; done)), H', ⟨Nat.le_refl _⟩, ⟨by (with_reducible repeat (first | refine blk_drewN ?_ _ | refine blk_drew ?_ | refine blk_alloc ?_ _)); exact BK165.out⟩, ⟨by repeat (first | (with_reducible first | exact HB.out | apply below_alloc | apply pw_below_drewN | apply below_drew1 | refine below_set ?_ GE165.out) | exact HB.out)⟩⟩
                case round =>
                  clear H'
                  try clear c1
                  try clear c2
                  try clear c2b0
                  try clear c2b1
                  try clear p2
                  try clear c3
                  try clear c4
                  try clear c6
                  try clear c7
                  try clear c8
                  try clear c9
                  try clear c10
                  try clear c10b0
                  try clear c10b1
                  try clear c10b2
                  try clear c11
                  try clear c23
                  try clear c25
                  try clear c25b0
                  try clear c27
                  try clear c27b0
                  try clear c29
                  try clear c29b0
                  try clear c31
                  try clear c31b0
                  try clear c33
                  try clear c33b0
                  try clear c35
                  try clear c35b0
                  try clear c37
                  try clear c37b0
                  try clear c40
                  try clear hcz26_0
                  try clear hcz26_1
                  try clear hcz26_2
                  try clear hcz26_3
                  try clear hcz28_0
                  try clear hcz28_1
                  try clear hcz28_2
                  try clear hcz28_3
                  try clear hcz30_0
                  try clear hcz30_1
                  try clear hcz30_2
                  try clear hcz30_3
                  try clear hcz32_0
                  try clear hcz32_1
                  try clear hcz32_2
                  try clear hcz32_3
                  try clear hcz34_0
                  try clear hcz34_1
                  try clear hcz34_2
                  try clear hcz34_3
                  try clear hcz36_0
                  try clear hcz36_1
                  try clear hcz36_2
                  try clear hcz36_3
                  try clear hcz38_0
                  try clear hcz38_1
                  try clear hcz38_2
                  try clear hcz38_3
                  try clear hcz39_0
                  try clear hcz39_1
                  try clear hcz39_2
                  try clear hcz39_3
                  try clear hcz7_0
                  try clear hcz7_1
                  try clear hcz7_2
                  try clear hcz7_3
                  try clear hfz26_0
                  try clear hfz26_1
                  try clear hfz26_2
                  try clear hfz26_3
                  try clear hfz28_0
                  try clear hfz28_1
                  try clear hfz28_2
                  try clear hfz28_3
                  try clear hfz30_0
                  try clear hfz30_1
                  try clear hfz30_2
                  try clear hfz30_3
                  try clear hfz32_0
                  try clear hfz32_1
                  try clear hfz32_2
                  try clear hfz32_3
                  try clear hfz34_0
                  try clear hfz34_1
                  try clear hfz34_2
                  try clear hfz34_3
                  try clear hfz36_0
                  try clear hfz36_1
                  try clear hfz36_2
                  try clear hfz36_3
                  try clear hfz38_0
                  try clear hfz38_1
                  try clear hfz38_2
                  try clear hfz38_3
                  try clear hfz39_0
                  try clear hfz39_1
                  try clear hfz39_2
                  try clear hfz39_3
                  try clear hfz7_0
                  try clear hfz7_1
                  try clear hfz7_2
                  try clear hfz7_3
                  try clear p2
                  obtain ⟨x6_3, x7_3, rfl, rfl, HA, HK3, BK165, HB⟩ := hrel
                  cases gk with
                  | zero => exact absurd HA.out (by simp [laws_FnQryIn.l0])
                  | succ k3 =>
                    have H := HA.out
                    clear HA
                    simp only [laws_FnQryIn.l0] at H
                    by_cases c43 : x7_3 < 12
                    · rw [if_pos c43] at H
                      have c43b0 : decide (x7_3 < 12) = true := decide_eq_true c43
                      clear c43
                      have H' := Aside0.mk H
                      clear H
                      go_wp2
                      go_loopg [6, 8] k3 (fun kq v6 v8 w' => ∃ (x6_4 : Int) (x8_4 : Int), v6 = .int .i64 x6_4 ∧ v8 = .int .i64 x8_4 ∧ Aside0 (laws_FnQryIn.l1 kq x6_4 x7_3 x8_4 t159 t160 t161 t162 = some r) ∧ Aside0 (kq ≤ k3) ∧ Aside0 (w'.heap[gb165]? = some (.cells #[.int .i64 t159, .int .i64 t160, .int .i64 t161, .int .i64 t162] 24 (0, 0))) ∧ Aside0 (Below w.heap.size w w'))
                      case atStart => exact ⟨(x6_3), ((-1)), (by first | rfl | (simp; done) | (simp [*]; done)), (by first | rfl | (simp; done) | (simp [*]; done)), H', ⟨Nat.le_refl _⟩, ⟨by (with_reducible repeat (first | refine blk_drewN ?_ _ | refine blk_drew ?_ | refine blk_alloc ?_ _)); exact BK165.out⟩, ⟨by repeat (first | (with_reducible first | exact HB.out | apply below_alloc | apply pw_below_drewN | apply below_drew1 | refine below_set ?_ GE165.out) | exact HB.out)⟩⟩
                      case round =>
                        clear H'
                        try clear c1
                        try clear c2
                        try clear c2b0
                        try clear c2b1
                        try clear p2
                        try clear c3
                        try clear c4
                        try clear c6
                        try clear c7
                        try clear c8
                        try clear c9
                        try clear c10
                        try clear c10b0
                        try clear c10b1
                        try clear c10b2
                        try clear c11
                        try clear c23
                        try clear c25
                        try clear c25b0
                        try clear c27
                        try clear c27b0
                        try clear c29
                        try clear c29b0
                        try clear c31
                        try clear c31b0
                        try clear c33
                        try clear c33b0
                        try clear c35
                        try clear c35b0
                        try clear c37
                        try clear c37b0
                        try clear c40
                        try clear c43
                        try clear c43b0
                        try clear hcz26_0
                        try clear hcz26_1
                        try clear hcz26_2
                        try clear hcz26_3
                        try clear hcz28_0
                        try clear hcz28_1
                        try clear hcz28_2
                        try clear hcz28_3
                        try clear hcz30_0
                        try clear hcz30_1
                        try clear hcz30_2
                        try clear hcz30_3
                        try clear hcz32_0
                        try clear hcz32_1
                        try clear hcz32_2
                        try clear hcz32_3
                        try clear hcz34_0
                        try clear hcz34_1
                        try clear hcz34_2
                        try clear hcz34_3
                        try clear hcz36_0
                        try clear hcz36_1
                        try clear hcz36_2
                        try clear hcz36_3
                        try clear hcz38_0
                        try clear hcz38_1
                        try clear hcz38_2
                        try clear hcz38_3
                        try clear hcz39_0
                        try clear hcz39_1
                        try clear hcz39_2
                        try clear hcz39_3
                        try clear hcz7_0
                        try clear hcz7_1
                        try clear hcz7_2
                        try clear hcz7_3
                        try clear hfz26_0
                        try clear hfz26_1
                        try clear hfz26_2
                        try clear hfz26_3
                        try clear hfz28_0
                        try clear hfz28_1
                        try clear hfz28_2
                        try clear hfz28_3
                        try clear hfz30_0
                        try clear hfz30_1
                        try clear hfz30_2
                        try clear hfz30_3
                        try clear hfz32_0
                        try clear hfz32_1
                        try clear hfz32_2
                        try clear hfz32_3
                        try clear hfz34_0
                        try clear hfz34_1
                        try clear hfz34_2
                        try clear hfz34_3
                        try clear hfz36_0
                        try clear hfz36_1
                        try clear hfz36_2
                        try clear hfz36_3
                        try clear hfz38_0
                        try clear hfz38_1
                        try clear hfz38_2
                        try clear hfz38_3
                        try clear hfz39_0
                        try clear hfz39_1
                        try clear hfz39_2
                        try clear hfz39_3
                        try clear hfz7_0
                        try clear hfz7_1
                        try clear hfz7_2
                        try clear hfz7_3
                        try clear p2
                        obtain ⟨x6_4, x8_4, rfl, rfl, HA, HK4, BK165, HB⟩ := hrel
                        cases gk with
                        | zero => exact absurd HA.out (by simp [laws_FnQryIn.l1])
                        | succ k4 =>
                          have H := HA.out
                          clear HA
                          simp only [laws_FnQryIn.l1] at H
                          by_cases c44 : x8_4 < 12
                          · rw [if_pos c44] at H
                            have c44b0 : decide (x8_4 < 12) = true := decide_eq_true c44
                            clear c44
                            replace H := Option.bind_eq_some_iff.mp H
                            obtain ⟨t171, A450, H⟩ := H
                            replace H : (if t171 = true then (laws_FnQryIn.l1 k4 (wrap64 (x6_4 + 1)) x7_3 (wrap64 (x8_4 + 1)) t159 t160 t161 t162) else (laws_FnQryIn.l1 k4 x6_4 x7_3 (wrap64 (x8_4 + 1)) t159 t160 t161 t162)) = some r := H
                            have A45 := Aside0.mk A450
                            clear A450
                            by_cases c46 : t171 = true
                            · subst c46
                              have H1 : (laws_FnQryIn.l1 k4 (wrap64 (x6_4 + 1)) x7_3 (wrap64 (x8_4 + 1)) t159 t160 t161 t162) = some r := by rw [if_pos rfl] at H; exact H
                              clear H
                              have H := H1
                              clear H1
                              have H' := Aside0.mk H
                              clear H
                              have hcz47_0 : wr.cell? ⟨gb165, 0, none⟩ = some (.int .i64 t159) := (blk_cell BK165.out 0).trans rfl
                              have hcz47_1 : wr.cell? ⟨gb165, 1, none⟩ = some (.int .i64 t160) := (blk_cell BK165.out 1).trans rfl
                              have hcz47_2 : wr.cell? ⟨gb165, 2, none⟩ = some (.int .i64 t161) := (blk_cell BK165.out 2).trans rfl
                              have hcz47_3 : wr.cell? ⟨gb165, 3, none⟩ = some (.int .i64 t162) := (blk_cell BK165.out 3).trans rfl
                              have hfz47_0 := blk_frozen BK165.out 0
                              have hfz47_1 := blk_frozen BK165.out 1
                              have hfz47_2 := blk_frozen BK165.out 2
                              have hfz47_3 := blk_frozen BK165.out 3
                              go_wp2_with (first | ((with_reducible refine gate_callee (f := 7) rfl ?_); refine goesL_ (some 84) rfl rfl Tryd.func7 (by kernel_rfl) rfl #[.agg #[.int .i64 t159, .int .i64 t160, .int .i64 t161, .int .i64 t162], .int .i64 x7_3, .int .i64 x8_4] rfl (by (try simp only [List.map_toArray, List.map_cons, List.map_nil]); first | done | rfl | (simp only [List.length_drop, List.length_take]; rfl)) ?_; (with_reducible refine (impl_QryIn.calls t159 t160 t161 t162 x7_3 x8_4 true _ A45.out).mono ?_); rintro e w48 ⟨rfl, hb⟩; refine ⟨_, rfl, ?_⟩; have n0_ := Aside0.mk (blk_below (g := gb165) (o := .cells #[.int .i64 t159, .int .i64 t160, .int .i64 t161, .int .i64 t162] 24 (0, 0)) (by (with_reducible repeat (first | refine blk_drewN ?_ _ | refine blk_drew ?_ | refine blk_alloc ?_ _)); exact BK165.out) hb); have n1_ := Aside0.mk (below_step (by repeat (first | (with_reducible first | exact HB.out | apply below_alloc | apply pw_below_drewN | apply below_drew1 | refine below_set ?_ GE165.out) | exact HB.out)) hb); clear BK165; clear HB; have BK165 := n0_; have HB := n1_; clear n0_ n1_; (try clear hb); (try clear hb2); (try clear hk); (try clear hi)))
                              go_roundg k4
                              case measure => have := HJ3.out; have := HJ23.out; have := HK3.out; have := HK4.out; omega
                              case rel => exact ⟨(wrap64 (x6_4 + 1)), (wrap64 (x8_4 + 1)), (by first | rfl | (simp; done) | (simp [*]; done)), (by first | rfl | (simp; done) | (simp [*]; done)), H', ⟨by have := HJ3.out; have := HJ23.out; have := HK3.out; have := HK4.out; omega⟩, ⟨by (with_reducible repeat (first | refine blk_drewN ?_ _ | refine blk_drew ?_ | refine blk_alloc ?_ _)); exact BK165.out⟩, ⟨by repeat (first | (with_reducible first | exact HB.out | apply below_alloc | apply pw_below_drewN | apply below_drew1 | refine below_set ?_ GE165.out) | exact HB.out)⟩⟩
                            · replace c46 := Bool.eq_false_iff.mpr c46
                              subst c46
                              have H1 : (laws_FnQryIn.l1 k4 x6_4 x7_3 (wrap64 (x8_4 + 1)) t159 t160 t161 t162) = some r := by rw [if_neg (show ¬ (false = true) by decide)] at H; exact H
                              clear H
                              have H := H1
                              clear H1
                              have H' := Aside0.mk H
                              clear H
                              have hcz49_0 : wr.cell? ⟨gb165, 0, none⟩ = some (.int .i64 t159) := (blk_cell BK165.out 0).trans rfl
                              have hcz49_1 : wr.cell? ⟨gb165, 1, none⟩ = some (.int .i64 t160) := (blk_cell BK165.out 1).trans rfl
                              have hcz49_2 : wr.cell? ⟨gb165, 2, none⟩ = some (.int .i64 t161) := (blk_cell BK165.out 2).trans rfl
                              have hcz49_3 : wr.cell? ⟨gb165, 3, none⟩ = some (.int .i64 t162) := (blk_cell BK165.out 3).trans rfl
                              have hfz49_0 := blk_frozen BK165.out 0
                              have hfz49_1 := blk_frozen BK165.out 1
                              have hfz49_2 := blk_frozen BK165.out 2
                              have hfz49_3 := blk_frozen BK165.out 3
                              go_wp2_with (first | ((with_reducible refine gate_callee (f := 7) rfl ?_); refine goesL_ (some 84) rfl rfl Tryd.func7 (by kernel_rfl) rfl #[.agg #[.int .i64 t159, .int .i64 t160, .int .i64 t161, .int .i64 t162], .int .i64 x7_3, .int .i64 x8_4] rfl (by (try simp only [List.map_toArray, List.map_cons, List.map_nil]); first | done | rfl | (simp only [List.length_drop, List.length_take]; rfl)) ?_; (with_reducible refine (impl_QryIn.calls t159 t160 t161 t162 x7_3 x8_4 false _ A45.out).mono ?_); rintro e w50 ⟨rfl, hb⟩; refine ⟨_, rfl, ?_⟩; have n0_ := Aside0.mk (blk_below (g := gb165) (o := .cells #[.int .i64 t159, .int .i64 t160, .int .i64 t161, .int .i64 t162] 24 (0, 0)) (by (with_reducible repeat (first | refine blk_drewN ?_ _ | refine blk_drew ?_ | refine blk_alloc ?_ _)); exact BK165.out) hb); have n1_ := Aside0.mk (below_step (by repeat (first | (with_reducible first | exact HB.out | apply below_alloc | apply pw_below_drewN | apply below_drew1 | refine below_set ?_ GE165.out) | exact HB.out)) hb); clear BK165; clear HB; have BK165 := n0_; have HB := n1_; clear n0_ n1_; (try clear hb); (try clear hb2); (try clear hk); (try clear hi)))
                              go_roundg k4
                              case measure => have := HJ3.out; have := HJ23.out; have := HK3.out; have := HK4.out; omega
                              case rel => exact ⟨(x6_4), (wrap64 (x8_4 + 1)), (by first | rfl | (simp; done) | (simp [*]; done)), (by first | rfl | (simp; done) | (simp [*]; done)), H', ⟨by have := HJ3.out; have := HJ23.out; have := HK3.out; have := HK4.out; omega⟩, ⟨by (with_reducible repeat (first | refine blk_drewN ?_ _ | refine blk_drew ?_ | refine blk_alloc ?_ _)); exact BK165.out⟩, ⟨by repeat (first | (with_reducible first | exact HB.out | apply below_alloc | apply pw_below_drewN | apply below_drew1 | refine below_set ?_ GE165.out) | exact HB.out)⟩⟩
                          · rw [if_neg c44] at H
                            have c44b0 : decide (x8_4 < 12) = false := decide_eq_false c44
                            clear c44
                            have H' := Aside0.mk H
                            clear H
                            go_wp2
                            go_roundg k4
                            case measure => have := HJ3.out; have := HJ23.out; have := HK3.out; have := HK4.out; omega
                            case rel => exact ⟨(x6_4), (wrap64 (x7_3 + 1)), (by first | rfl | (simp; done) | (simp [*]; done)), (by first | rfl | (simp; done) | (simp [*]; done)), H', ⟨by have := HJ3.out; have := HJ23.out; have := HK3.out; have := HK4.out; omega⟩, ⟨by (with_reducible repeat (first | refine blk_drewN ?_ _ | refine blk_drew ?_ | refine blk_alloc ?_ _)); exact BK165.out⟩, ⟨by repeat (first | (with_reducible first | exact HB.out | apply below_alloc | apply pw_below_drewN | apply below_drew1 | refine below_set ?_ GE165.out) | exact HB.out)⟩⟩
                    · rw [if_neg c43] at H
                      have c43b0 : decide (x7_3 < 12) = false := decide_eq_false c43
                      clear c43
                      replace H := Option.bind_eq_some_iff.mp H
                      obtain ⟨t172, A510, H⟩ := H
                      replace H : (if x6_3 = t172 then ((impl_QryIn.f t159 t160 t161 t162 (wrap64 (t159 - 1)) t160).bind fun t173 => (if t173 = true then (some false) else ((impl_QryIn.f t159 t160 t161 t162 t159 (wrap64 (t160 + t162))).bind fun t174 => (if t174 = true then (some false) else ((laws_pwOk.f).bind fun t175 => (some t175)))))) else (some false)) = some r := H
                      have A51 := Aside0.mk A510
                      clear A510
                      by_cases c52 : x6_3 = t172
                      · rw [if_pos c52] at H
                        have c52b0 : (x6_3 == t172) = true := beq_iff_eq.mpr c52
                        have c52b1 : (x6_3 != t172) = false := bne_eq_false_iff_eq.mpr c52
                        clear c52
                        replace H := Option.bind_eq_some_iff.mp H
                        obtain ⟨t173, A530, H⟩ := H
                        replace H : (if t173 = true then (some false) else ((impl_QryIn.f t159 t160 t161 t162 t159 (wrap64 (t160 + t162))).bind fun t174 => (if t174 = true then (some false) else ((laws_pwOk.f).bind fun t175 => (some t175))))) = some r := H
                        have A53 := Aside0.mk A530
                        clear A530
                        by_cases c54 : t173 = true
                        · subst c54
                          have H1 : (some false) = some r := by rw [if_pos rfl] at H; exact H
                          clear H
                          have H := H1
                          clear H1
                          obtain rfl := Option.some.inj H
                          have hcz55_0 : wr.cell? ⟨gb165, 0, none⟩ = some (.int .i64 t159) := (blk_cell BK165.out 0).trans rfl
                          have hcz55_1 : wr.cell? ⟨gb165, 1, none⟩ = some (.int .i64 t160) := (blk_cell BK165.out 1).trans rfl
                          have hcz55_2 : wr.cell? ⟨gb165, 2, none⟩ = some (.int .i64 t161) := (blk_cell BK165.out 2).trans rfl
                          have hcz55_3 : wr.cell? ⟨gb165, 3, none⟩ = some (.int .i64 t162) := (blk_cell BK165.out 3).trans rfl
                          have hfz55_0 := blk_frozen BK165.out 0
                          have hfz55_1 := blk_frozen BK165.out 1
                          have hfz55_2 := blk_frozen BK165.out 2
                          have hfz55_3 := blk_frozen BK165.out 3
                          go_wp2_with (first | ((with_reducible refine gate_callee (f := 9) rfl ?_); refine goesL_ (some 89) rfl rfl Tryd.func9 (by kernel_rfl) rfl #[.agg #[.int .i64 t159, .int .i64 t160, .int .i64 t161, .int .i64 t162]] rfl (by (try simp only [List.map_toArray, List.map_cons, List.map_nil]); first | done | rfl | (simp only [List.length_drop, List.length_take]; rfl)) ?_; (with_reducible refine (impl_QryArea.calls t159 t160 t161 t162 t172 _ A51.out).mono ?_); rintro e w56 ⟨rfl, hb⟩; refine ⟨_, rfl, ?_⟩; have n0_ := Aside0.mk (blk_below (g := gb165) (o := .cells #[.int .i64 t159, .int .i64 t160, .int .i64 t161, .int .i64 t162] 24 (0, 0)) (by (with_reducible repeat (first | refine blk_drewN ?_ _ | refine blk_drew ?_ | refine blk_alloc ?_ _)); exact BK165.out) hb); have n1_ := Aside0.mk (below_step (by repeat (first | (with_reducible first | exact HB.out | apply below_alloc | apply pw_below_drewN | apply below_drew1 | refine below_set ?_ GE165.out) | exact HB.out)) hb); clear BK165; clear HB; have BK165 := n0_; have HB := n1_; clear n0_ n1_; (try clear hb); (try clear hb2); (try clear hk); (try clear hi); have hcz57_0 : w56.cell? ⟨gb165, 0, none⟩ = some (.int .i64 t159) := (blk_cell BK165.out 0).trans rfl; have hcz57_1 : w56.cell? ⟨gb165, 1, none⟩ = some (.int .i64 t160) := (blk_cell BK165.out 1).trans rfl; have hcz57_2 : w56.cell? ⟨gb165, 2, none⟩ = some (.int .i64 t161) := (blk_cell BK165.out 2).trans rfl; have hcz57_3 : w56.cell? ⟨gb165, 3, none⟩ = some (.int .i64 t162) := (blk_cell BK165.out 3).trans rfl; have hfz57_0 := blk_frozen BK165.out 0; have hfz57_1 := blk_frozen BK165.out 1; have hfz57_2 := blk_frozen BK165.out 2; have hfz57_3 := blk_frozen BK165.out 3) | (go_at_call 7; (with_reducible refine (impl_QryIn.calls t159 t160 t161 t162 (wrap64 (t159 - 1)) t160 true _ A53.out).mono ?_); rintro e w58 ⟨rfl, hb⟩; have n0_ := Aside0.mk (blk_below (g := gb165) (o := .cells #[.int .i64 t159, .int .i64 t160, .int .i64 t161, .int .i64 t162] 24 (0, 0)) (by (with_reducible repeat (first | refine blk_drewN ?_ _ | refine blk_drew ?_ | refine blk_alloc ?_ _)); exact BK165.out) hb); have n1_ := Aside0.mk (below_step (by repeat (first | (with_reducible first | exact HB.out | apply below_alloc | apply pw_below_drewN | apply below_drew1 | refine below_set ?_ GE165.out) | exact HB.out)) hb); clear BK165; clear HB; have BK165 := n0_; have HB := n1_; clear n0_ n1_; (try clear hb); (try clear hb2); (try clear hk); (try clear hi)))
                          go_ret
                          exact ⟨by first | rfl | (simp [IntKind.wrap_i64, wrap64]; done) | (simp [errW_none, errW_some] <;> rfl) | (simp [*, errW_none, errW_some] <;> rfl), by repeat (first | (with_reducible first | exact HB.out | apply below_alloc | apply pw_below_drewN | apply below_drew1 | refine below_set ?_ GE165.out) | exact HB.out)⟩
                        · replace c54 := Bool.eq_false_iff.mpr c54
                          subst c54
                          have H1 : ((impl_QryIn.f t159 t160 t161 t162 t159 (wrap64 (t160 + t162))).bind fun t174 => (if t174 = true then (some false) else ((laws_pwOk.f).bind fun t175 => (some t175)))) = some r := by rw [if_neg (show ¬ (false = true) by decide)] at H; exact H
                          clear H
                          have H := H1
                          clear H1
                          replace H := Option.bind_eq_some_iff.mp H
                          obtain ⟨t174, A590, H⟩ := H
                          replace H : (if t174 = true then (some false) else ((laws_pwOk.f).bind fun t175 => (some t175))) = some r := H
                          have A59 := Aside0.mk A590
                          clear A590
                          by_cases c60 : t174 = true
                          · subst c60
                            have H1 : (some false) = some r := by rw [if_pos rfl] at H; exact H
                            clear H
                            have H := H1
                            clear H1
                            obtain rfl := Option.some.inj H
                            have hcz61_0 : wr.cell? ⟨gb165, 0, none⟩ = some (.int .i64 t159) := (blk_cell BK165.out 0).trans rfl
                            have hcz61_1 : wr.cell? ⟨gb165, 1, none⟩ = some (.int .i64 t160) := (blk_cell BK165.out 1).trans rfl
                            have hcz61_2 : wr.cell? ⟨gb165, 2, none⟩ = some (.int .i64 t161) := (blk_cell BK165.out 2).trans rfl
                            have hcz61_3 : wr.cell? ⟨gb165, 3, none⟩ = some (.int .i64 t162) := (blk_cell BK165.out 3).trans rfl
                            have hfz61_0 := blk_frozen BK165.out 0
                            have hfz61_1 := blk_frozen BK165.out 1
                            have hfz61_2 := blk_frozen BK165.out 2
                            have hfz61_3 := blk_frozen BK165.out 3
                            go_wp2_with (first | ((with_reducible refine gate_callee (f := 9) rfl ?_); refine goesL_ (some 89) rfl rfl Tryd.func9 (by kernel_rfl) rfl #[.agg #[.int .i64 t159, .int .i64 t160, .int .i64 t161, .int .i64 t162]] rfl (by (try simp only [List.map_toArray, List.map_cons, List.map_nil]); first | done | rfl | (simp only [List.length_drop, List.length_take]; rfl)) ?_; (with_reducible refine (impl_QryArea.calls t159 t160 t161 t162 t172 _ A51.out).mono ?_); rintro e w62 ⟨rfl, hb⟩; refine ⟨_, rfl, ?_⟩; have n0_ := Aside0.mk (blk_below (g := gb165) (o := .cells #[.int .i64 t159, .int .i64 t160, .int .i64 t161, .int .i64 t162] 24 (0, 0)) (by (with_reducible repeat (first | refine blk_drewN ?_ _ | refine blk_drew ?_ | refine blk_alloc ?_ _)); exact BK165.out) hb); have n1_ := Aside0.mk (below_step (by repeat (first | (with_reducible first | exact HB.out | apply below_alloc | apply pw_below_drewN | apply below_drew1 | refine below_set ?_ GE165.out) | exact HB.out)) hb); clear BK165; clear HB; have BK165 := n0_; have HB := n1_; clear n0_ n1_; (try clear hb); (try clear hb2); (try clear hk); (try clear hi); have hcz63_0 : w62.cell? ⟨gb165, 0, none⟩ = some (.int .i64 t159) := (blk_cell BK165.out 0).trans rfl; have hcz63_1 : w62.cell? ⟨gb165, 1, none⟩ = some (.int .i64 t160) := (blk_cell BK165.out 1).trans rfl; have hcz63_2 : w62.cell? ⟨gb165, 2, none⟩ = some (.int .i64 t161) := (blk_cell BK165.out 2).trans rfl; have hcz63_3 : w62.cell? ⟨gb165, 3, none⟩ = some (.int .i64 t162) := (blk_cell BK165.out 3).trans rfl; have hfz63_0 := blk_frozen BK165.out 0; have hfz63_1 := blk_frozen BK165.out 1; have hfz63_2 := blk_frozen BK165.out 2; have hfz63_3 := blk_frozen BK165.out 3) | (go_at_call 7; (with_reducible refine (impl_QryIn.calls t159 t160 t161 t162 (wrap64 (t159 - 1)) t160 false _ A53.out).mono ?_); rintro e w64 ⟨rfl, hb⟩; have n0_ := Aside0.mk (blk_below (g := gb165) (o := .cells #[.int .i64 t159, .int .i64 t160, .int .i64 t161, .int .i64 t162] 24 (0, 0)) (by (with_reducible repeat (first | refine blk_drewN ?_ _ | refine blk_drew ?_ | refine blk_alloc ?_ _)); exact BK165.out) hb); have n1_ := Aside0.mk (below_step (by repeat (first | (with_reducible first | exact HB.out | apply below_alloc | apply pw_below_drewN | apply below_drew1 | refine below_set ?_ GE165.out) | exact HB.out)) hb); clear BK165; clear HB; have BK165 := n0_; have HB := n1_; clear n0_ n1_; (try clear hb); (try clear hb2); (try clear hk); (try clear hi); have hcz65_0 : w64.cell? ⟨gb165, 0, none⟩ = some (.int .i64 t159) := (blk_cell BK165.out 0).trans rfl; have hcz65_1 : w64.cell? ⟨gb165, 1, none⟩ = some (.int .i64 t160) := (blk_cell BK165.out 1).trans rfl; have hcz65_2 : w64.cell? ⟨gb165, 2, none⟩ = some (.int .i64 t161) := (blk_cell BK165.out 2).trans rfl; have hcz65_3 : w64.cell? ⟨gb165, 3, none⟩ = some (.int .i64 t162) := (blk_cell BK165.out 3).trans rfl; have hfz65_0 := blk_frozen BK165.out 0; have hfz65_1 := blk_frozen BK165.out 1; have hfz65_2 := blk_frozen BK165.out 2; have hfz65_3 := blk_frozen BK165.out 3) | (go_at_call 7; (with_reducible refine (impl_QryIn.calls t159 t160 t161 t162 t159 (wrap64 (t160 + t162)) true _ A59.out).mono ?_); rintro e w66 ⟨rfl, hb⟩; have n0_ := Aside0.mk (blk_below (g := gb165) (o := .cells #[.int .i64 t159, .int .i64 t160, .int .i64 t161, .int .i64 t162] 24 (0, 0)) (by (with_reducible repeat (first | refine blk_drewN ?_ _ | refine blk_drew ?_ | refine blk_alloc ?_ _)); exact BK165.out) hb); have n1_ := Aside0.mk (below_step (by repeat (first | (with_reducible first | exact HB.out | apply below_alloc | apply pw_below_drewN | apply below_drew1 | refine below_set ?_ GE165.out) | exact HB.out)) hb); clear BK165; clear HB; have BK165 := n0_; have HB := n1_; clear n0_ n1_; (try clear hb); (try clear hb2); (try clear hk); (try clear hi)))
                            go_ret
                            exact ⟨by first | rfl | (simp [IntKind.wrap_i64, wrap64]; done) | (simp [errW_none, errW_some] <;> rfl) | (simp [*, errW_none, errW_some] <;> rfl), by repeat (first | (with_reducible first | exact HB.out | apply below_alloc | apply pw_below_drewN | apply below_drew1 | refine below_set ?_ GE165.out) | exact HB.out)⟩
                          · replace c60 := Bool.eq_false_iff.mpr c60
                            subst c60
                            have H1 : ((laws_pwOk.f).bind fun t175 => (some t175)) = some r := by rw [if_neg (show ¬ (false = true) by decide)] at H; exact H
                            clear H
                            have H := H1
                            clear H1
                            replace H := Option.bind_eq_some_iff.mp H
                            obtain ⟨t175, A670, H⟩ := H
                            replace H : (some t175) = some r := H
                            have A67 := Aside0.mk A670
                            clear A670
                            obtain rfl := Option.some.inj H
                            have hcz68_0 : wr.cell? ⟨gb165, 0, none⟩ = some (.int .i64 t159) := (blk_cell BK165.out 0).trans rfl
                            have hcz68_1 : wr.cell? ⟨gb165, 1, none⟩ = some (.int .i64 t160) := (blk_cell BK165.out 1).trans rfl
                            have hcz68_2 : wr.cell? ⟨gb165, 2, none⟩ = some (.int .i64 t161) := (blk_cell BK165.out 2).trans rfl
                            have hcz68_3 : wr.cell? ⟨gb165, 3, none⟩ = some (.int .i64 t162) := (blk_cell BK165.out 3).trans rfl
                            have hfz68_0 := blk_frozen BK165.out 0
                            have hfz68_1 := blk_frozen BK165.out 1
                            have hfz68_2 := blk_frozen BK165.out 2
                            have hfz68_3 := blk_frozen BK165.out 3
                            go_wp2_with (first | ((with_reducible refine gate_callee (f := 9) rfl ?_); refine goesL_ (some 89) rfl rfl Tryd.func9 (by kernel_rfl) rfl #[.agg #[.int .i64 t159, .int .i64 t160, .int .i64 t161, .int .i64 t162]] rfl (by (try simp only [List.map_toArray, List.map_cons, List.map_nil]); first | done | rfl | (simp only [List.length_drop, List.length_take]; rfl)) ?_; (with_reducible refine (impl_QryArea.calls t159 t160 t161 t162 t172 _ A51.out).mono ?_); rintro e w69 ⟨rfl, hb⟩; refine ⟨_, rfl, ?_⟩; have n0_ := Aside0.mk (blk_below (g := gb165) (o := .cells #[.int .i64 t159, .int .i64 t160, .int .i64 t161, .int .i64 t162] 24 (0, 0)) (by (with_reducible repeat (first | refine blk_drewN ?_ _ | refine blk_drew ?_ | refine blk_alloc ?_ _)); exact BK165.out) hb); have n1_ := Aside0.mk (below_step (by repeat (first | (with_reducible first | exact HB.out | apply below_alloc | apply pw_below_drewN | apply below_drew1 | refine below_set ?_ GE165.out) | exact HB.out)) hb); clear BK165; clear HB; have BK165 := n0_; have HB := n1_; clear n0_ n1_; (try clear hb); (try clear hb2); (try clear hk); (try clear hi); have hcz70_0 : w69.cell? ⟨gb165, 0, none⟩ = some (.int .i64 t159) := (blk_cell BK165.out 0).trans rfl; have hcz70_1 : w69.cell? ⟨gb165, 1, none⟩ = some (.int .i64 t160) := (blk_cell BK165.out 1).trans rfl; have hcz70_2 : w69.cell? ⟨gb165, 2, none⟩ = some (.int .i64 t161) := (blk_cell BK165.out 2).trans rfl; have hcz70_3 : w69.cell? ⟨gb165, 3, none⟩ = some (.int .i64 t162) := (blk_cell BK165.out 3).trans rfl; have hfz70_0 := blk_frozen BK165.out 0; have hfz70_1 := blk_frozen BK165.out 1; have hfz70_2 := blk_frozen BK165.out 2; have hfz70_3 := blk_frozen BK165.out 3) | (go_at_call 7; (with_reducible refine (impl_QryIn.calls t159 t160 t161 t162 (wrap64 (t159 - 1)) t160 false _ A53.out).mono ?_); rintro e w71 ⟨rfl, hb⟩; have n0_ := Aside0.mk (blk_below (g := gb165) (o := .cells #[.int .i64 t159, .int .i64 t160, .int .i64 t161, .int .i64 t162] 24 (0, 0)) (by (with_reducible repeat (first | refine blk_drewN ?_ _ | refine blk_drew ?_ | refine blk_alloc ?_ _)); exact BK165.out) hb); have n1_ := Aside0.mk (below_step (by repeat (first | (with_reducible first | exact HB.out | apply below_alloc | apply pw_below_drewN | apply below_drew1 | refine below_set ?_ GE165.out) | exact HB.out)) hb); clear BK165; clear HB; have BK165 := n0_; have HB := n1_; clear n0_ n1_; (try clear hb); (try clear hb2); (try clear hk); (try clear hi); have hcz72_0 : w71.cell? ⟨gb165, 0, none⟩ = some (.int .i64 t159) := (blk_cell BK165.out 0).trans rfl; have hcz72_1 : w71.cell? ⟨gb165, 1, none⟩ = some (.int .i64 t160) := (blk_cell BK165.out 1).trans rfl; have hcz72_2 : w71.cell? ⟨gb165, 2, none⟩ = some (.int .i64 t161) := (blk_cell BK165.out 2).trans rfl; have hcz72_3 : w71.cell? ⟨gb165, 3, none⟩ = some (.int .i64 t162) := (blk_cell BK165.out 3).trans rfl; have hfz72_0 := blk_frozen BK165.out 0; have hfz72_1 := blk_frozen BK165.out 1; have hfz72_2 := blk_frozen BK165.out 2; have hfz72_3 := blk_frozen BK165.out 3) | (go_at_call 7; (with_reducible refine (impl_QryIn.calls t159 t160 t161 t162 t159 (wrap64 (t160 + t162)) false _ A59.out).mono ?_); rintro e w73 ⟨rfl, hb⟩; have n0_ := Aside0.mk (blk_below (g := gb165) (o := .cells #[.int .i64 t159, .int .i64 t160, .int .i64 t161, .int .i64 t162] 24 (0, 0)) (by (with_reducible repeat (first | refine blk_drewN ?_ _ | refine blk_drew ?_ | refine blk_alloc ?_ _)); exact BK165.out) hb); have n1_ := Aside0.mk (below_step (by repeat (first | (with_reducible first | exact HB.out | apply below_alloc | apply pw_below_drewN | apply below_drew1 | refine below_set ?_ GE165.out) | exact HB.out)) hb); clear BK165; clear HB; have BK165 := n0_; have HB := n1_; clear n0_ n1_; (try clear hb); (try clear hb2); (try clear hk); (try clear hi)) | (go_at_call 11; (with_reducible refine (laws_pwOk.calls  t175 _ ?sideM A67.out).mono ?_); (case sideM => repeat (first | exact HM.out | exact (Txt.MLen_below HM.out HB.out) | (with_reducible refine Txt.MLen_alloc ?_ _) | (with_reducible refine Txt.MLen_drewN ?_ _) | (with_reducible refine Txt.MLen_drew ?_))); rintro e w74 ⟨rfl, hb⟩; have n0_ := Aside0.mk (blk_below (g := gb165) (o := .cells #[.int .i64 t159, .int .i64 t160, .int .i64 t161, .int .i64 t162] 24 (0, 0)) (by (with_reducible repeat (first | refine blk_drewN ?_ _ | refine blk_drew ?_ | refine blk_alloc ?_ _)); exact BK165.out) hb); have n1_ := Aside0.mk (below_step (by repeat (first | (with_reducible first | exact HB.out | apply below_alloc | apply pw_below_drewN | apply below_drew1 | refine below_set ?_ GE165.out) | exact HB.out)) hb); clear BK165; clear HB; have BK165 := n0_; have HB := n1_; clear n0_ n1_; (try clear hb); (try clear hb2); (try clear hk); (try clear hi)))
                            go_ret
                            exact ⟨by first | rfl | (simp [IntKind.wrap_i64, wrap64]; done) | (simp [errW_none, errW_some] <;> rfl) | (simp [*, errW_none, errW_some] <;> rfl), by repeat (first | (with_reducible first | exact HB.out | apply below_alloc | apply pw_below_drewN | apply below_drew1 | refine below_set ?_ GE165.out) | exact HB.out)⟩
                      · rw [if_neg c52] at H
                        have c52b0 : (x6_3 == t172) = false := beq_eq_false_iff_ne.mpr c52
                        have c52b1 : (x6_3 != t172) = true := bne_iff_ne.mpr c52
                        obtain rfl := Option.some.inj H
                        have hcz75_0 : wr.cell? ⟨gb165, 0, none⟩ = some (.int .i64 t159) := (blk_cell BK165.out 0).trans rfl
                        have hcz75_1 : wr.cell? ⟨gb165, 1, none⟩ = some (.int .i64 t160) := (blk_cell BK165.out 1).trans rfl
                        have hcz75_2 : wr.cell? ⟨gb165, 2, none⟩ = some (.int .i64 t161) := (blk_cell BK165.out 2).trans rfl
                        have hcz75_3 : wr.cell? ⟨gb165, 3, none⟩ = some (.int .i64 t162) := (blk_cell BK165.out 3).trans rfl
                        have hfz75_0 := blk_frozen BK165.out 0
                        have hfz75_1 := blk_frozen BK165.out 1
                        have hfz75_2 := blk_frozen BK165.out 2
                        have hfz75_3 := blk_frozen BK165.out 3
                        go_wp2_with (first | ((with_reducible refine gate_callee (f := 9) rfl ?_); refine goesL_ (some 89) rfl rfl Tryd.func9 (by kernel_rfl) rfl #[.agg #[.int .i64 t159, .int .i64 t160, .int .i64 t161, .int .i64 t162]] rfl (by (try simp only [List.map_toArray, List.map_cons, List.map_nil]); first | done | rfl | (simp only [List.length_drop, List.length_take]; rfl)) ?_; (with_reducible refine (impl_QryArea.calls t159 t160 t161 t162 t172 _ A51.out).mono ?_); rintro e w76 ⟨rfl, hb⟩; refine ⟨_, rfl, ?_⟩; have n0_ := Aside0.mk (blk_below (g := gb165) (o := .cells #[.int .i64 t159, .int .i64 t160, .int .i64 t161, .int .i64 t162] 24 (0, 0)) (by (with_reducible repeat (first | refine blk_drewN ?_ _ | refine blk_drew ?_ | refine blk_alloc ?_ _)); exact BK165.out) hb); have n1_ := Aside0.mk (below_step (by repeat (first | (with_reducible first | exact HB.out | apply below_alloc | apply pw_below_drewN | apply below_drew1 | refine below_set ?_ GE165.out) | exact HB.out)) hb); clear BK165; clear HB; have BK165 := n0_; have HB := n1_; clear n0_ n1_; (try clear hb); (try clear hb2); (try clear hk); (try clear hi)))
                        go_ret
                        exact ⟨by first | rfl | (simp [IntKind.wrap_i64, wrap64]; done) | (simp [errW_none, errW_some] <;> rfl) | (simp [*, errW_none, errW_some] <;> rfl), by repeat (first | (with_reducible first | exact HB.out | apply below_alloc | apply pw_below_drewN | apply below_drew1 | refine below_set ?_ GE165.out) | exact HB.out)⟩

/-- THE ONE PURE STATEMENT of laws_FnQryIn: yours. -/
def laws_FnQryIn.Pure : Prop := ∀ (l0 : List Int), l0.length ≤ maxLen → l0.length * 1 ≤ 140737488351232 → (∀ x ∈ l0, (Lit.int .u8 x).wf = true) → ∃ k, laws_FnQryIn.f k l0 = some true

end Go.Proofs.YtfcacpbblkahdaaDoor.PFnQryIn
