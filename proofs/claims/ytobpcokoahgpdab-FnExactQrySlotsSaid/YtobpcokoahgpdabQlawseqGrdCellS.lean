-- Told by a program of this session (uprint.py, ulay.py).
import Derived.Test.YtobpcokoahgpdabQ0
import Derived.Test.YtobpcokoahgpdabQbitsMul32
namespace Go.Proofs.Ytobpcokoahgpdab.Q
open Go.RowKit Go.Proofs.YtobpcokoahgpdabW.PrintWords Go.Proofs.YtobpcokoahgpdabW.PrintLast Go.Proofs.YtobpcokoahgpdabW.PrintMore
attribute [local go_sem] max2_int min2_int max_two min_two max_three min_three max_four min_four
set_option linter.unusedVariables false
set_option linter.unusedSimpArgs false

/-! ### laws_eqGrdCellS: function 20 -/
def laws_eqGrdCellS.l0 : Nat → List (S48) → List (S48) → Int → Option (Bool)
  | 0, _, _, _ => none
  | k + 1, x0, x1, x5 => if x5 < (x0.length : Int) then (if 0 ≤ x5 then (if x5 < (x1.length : Int) then ((laws_eqGrdCell.f ((rd_T48 x0 x5).f0) ((rd_T48 x0 x5).f1) ((rd_T48 x0 x5).f2) ((rd_T48 x0 x5).f3) ((rd_T48 x0 x5).f4) ((rd_T48 x1 x5).f0) ((rd_T48 x1 x5).f1) ((rd_T48 x1 x5).f2) ((rd_T48 x1 x5).f3) ((rd_T48 x1 x5).f4)).bind fun t207 => (if t207 = true then (laws_eqGrdCellS.l0 k x0 x1 (wrap64 (x5 + 1))) else (some false))) else (none)) else (none)) else (some true)
def laws_eqGrdCellS.f (k : Nat) (l0 : List (S48)) (l1 : List (S48)) : Option (Bool) := if (l0.length : Int) = (l1.length : Int) then (laws_eqGrdCellS.l0 k l0 l1 0) else (some false)
theorem laws_eqGrdCellS.mono_l : ∀ k, (∀ y0 y1 y2, LeO (laws_eqGrdCellS.l0 k y0 y1 y2) (laws_eqGrdCellS.l0 (k + 1) y0 y1 y2))
  | 0 => fun _ _ _ r h => by simp [laws_eqGrdCellS.l0] at h
  | k + 1 => by
    have ih0 := laws_eqGrdCellS.mono_l k
    · intro y0 y1 y2
      unfold laws_eqGrdCellS.l0
      repeat' first
      | (with_reducible exact ih0 _ _ _)
      | (with_reducible exact LeO.refl _)
      | (with_reducible exact LeO.none _)
      | (with_reducible refine LeO.ite ?_ ?_)
      | (with_reducible refine LeO.bind ?_ (fun _ => ?_))
      | exact ih0 _ _ _
      | exact LeO.none _
      | refine LeO.ite ?_ ?_
      | refine LeO.bind ?_ (fun _ => ?_)
theorem laws_eqGrdCellS.mono : ∀ a0 a1 k, LeO (laws_eqGrdCellS.f k a0 a1) (laws_eqGrdCellS.f (k + 1) a0 a1) := by
  intro a0 a1 k
  have ih0 := laws_eqGrdCellS.mono_l k
  unfold laws_eqGrdCellS.f
  repeat' first
      | (with_reducible exact ih0 _ _ _)
      | (with_reducible exact LeO.refl _)
      | (with_reducible exact LeO.none _)
      | (with_reducible refine LeO.ite ?_ ?_)
      | (with_reducible refine LeO.bind ?_ (fun _ => ?_))
      | exact ih0 _ _ _
      | exact LeO.none _
      | refine LeO.ite ?_ ?_
      | refine LeO.bind ?_ (fun _ => ?_)
def laws_eqGrdCellS.T6 : Bool × List (List Nat × List Nat) := (true, [([], []), ([], []), ([0, 1], [0, 1]), ([2], [2]), ([], []), ([], []), ([4, 5], [4, 5]), ([6], [6]), ([3, 7], [3, 7]), ([8], [8])])
def laws_eqGrdCellS.B6 : List Nat := [0, 0, 3, 7, 0, 0, 48, 112, 255, 511]
theorem laws_eqGrdCellS.tab6 : rtab .any (opsOf Try.f20 6) = laws_eqGrdCellS.T6 := by kernel_rfl
theorem laws_eqGrdCellS.bits6 : waitsOk laws_eqGrdCellS.T6.2 laws_eqGrdCellS.B6 = true := by kernel_rfl
set_option maxHeartbeats 8000000 in
set_option maxRecDepth 100000 in
theorem laws_eqGrdCellS.calls (k : Nat) (A0 : Option Addr) (c0 : Nat) (l0 : List (S48)) (A1 : Option Addr) (c1 : Nat) (l1 : List (S48)) (r : Bool) (w : World) (hr0 : Kd.C k48 w A0 l0.length l0) (hc0 : l0.length ≤ c0) (hr1 : Kd.C k48 w A1 l1.length l1) (hc1 : l1.length ≤ c1) (h : laws_eqGrdCellS.f k l0 l1 = some r) :
    Calls Try.prog 20 #[.slice A0 l0.length c0, .slice A1 l1.length c1] w fun e w' => e = .returned (.bool r) ∧ Below w.heap.size w w' := by
  have hu48 := Try.underlying48
  have HR0 := Aside0.mk hr0
  have HC0 := Aside0.mk hc0
  clear hr0 hc0
  have HR1 := Aside0.mk hr1
  have HC1 := Aside0.mk hc1
  clear hr1 hc1
  have HB := Aside0.mk (Below.refl w.heap.size w)
  have H : (if (l0.length : Int) = (l1.length : Int) then (laws_eqGrdCellS.l0 k l0 l1 0) else (some false)) = some r := h
  clear h
  by_cases c3 : (l0.length : Int) = (l1.length : Int)
  · rw [if_pos c3] at H
    have c3b0 : ((l0.length : Int) == (l1.length : Int)) = true := beq_iff_eq.mpr c3
    have c3b1 : ((l0.length : Int) != (l1.length : Int)) = false := bne_eq_false_iff_eq.mpr c3
    have c3b2 : (l0.length == l1.length) = true := by first | simpa using c3 | (simp at c3 ⊢; omega)
    clear c3
    have H' := Aside0.mk H
    clear H
    go_enter Try.func20, Try.ntmps20
    go_wp2
    go_loopg [5] k (fun kq v5 w' => ∃ (x5_1 : Int), v5 = .int .i64 x5_1 ∧ Aside0 (laws_eqGrdCellS.l0 kq l0 l1 x5_1 = some r) ∧ Aside0 (kq ≤ k) ∧ Aside0 (Below w.heap.size w w'))
    case atStart => exact ⟨(0), (by first | rfl | (simp; done) | (simp [*]; done)), H', ⟨Nat.le_refl _⟩, ⟨by repeat (first | (with_reducible first | exact HB.out | apply below_alloc | apply pw_below_drewN | apply below_drew1) | exact HB.out)⟩⟩
    case round =>
      clear H'
      try clear c1
      try clear c2
      try clear p2
      try clear c3
      try clear c3b0
      try clear c3b1
      try clear c3b2
      obtain ⟨x5_1, rfl, HA, HK1, HB⟩ := hrel
      cases gk with
      | zero => exact absurd HA.out (by simp [laws_eqGrdCellS.l0])
      | succ k1 =>
        have H := HA.out
        clear HA
        simp only [laws_eqGrdCellS.l0] at H
        by_cases c4 : x5_1 < (l0.length : Int)
        · rw [if_pos c4] at H
          have c4b0 : decide (x5_1 < (l0.length : Int)) = true := decide_eq_true c4
          clear c4
          by_cases c5 : 0 ≤ x5_1
          · rw [if_pos c5] at H
            have c5b0 : decide (0 ≤ x5_1) = true := decide_eq_true c5
            clear c5
            by_cases c6 : x5_1 < (l1.length : Int)
            · rw [if_pos c6] at H
              have c6b0 : decide (x5_1 < (l1.length : Int)) = true := decide_eq_true c6
              clear c6
              replace H := Option.bind_eq_some_iff.mp H
              obtain ⟨t207, A70, H⟩ := H
              replace H : (if t207 = true then (laws_eqGrdCellS.l0 k1 l0 l1 (wrap64 (x5_1 + 1))) else (some false)) = some r := H
              have A7 := Aside0.mk A70
              clear A70
              by_cases c8 : t207 = true
              · subst c8
                have H1 : (laws_eqGrdCellS.l0 k1 l0 l1 (wrap64 (x5_1 + 1))) = some r := by rw [if_pos rfl] at H; exact H
                clear H
                have H := H1
                clear H1
                have H' := Aside0.mk H
                clear H
                try go_wp2
                have n0_ := Aside0.mk (below_drew1 HB.out)
                clear HB
                have HB := n0_
                clear n0_
                have p205 : 0 ≤ (x5_1 : Int) := of_decide_eq_true (by first | (with_reducible assumption) | assumption)
                have q205 : x5_1 < (l0.length : Int) := of_decide_eq_true (by first | (with_reducible assumption) | assumption)
                obtain ⟨ad205, e205, hx205_0, hx205_1, hx205_2, hx205_3, hx205_4⟩ := at_T48 HR0.out x5_1 p205 q205
                have hw205_4 := hx205_4
                have hw205_3 := hx205_3
                have hw205_2 := hx205_2
                have hw205_1 := hx205_1
                have hw205_0 := hx205_0
                cases e205
                replace hx205_0 := (HB.out.cell (World.block_lt_of_cell? w _ hx205_0)).trans hx205_0
                replace hx205_1 := (HB.out.cell (World.block_lt_of_cell? w _ hx205_1)).trans hx205_1
                replace hx205_2 := (HB.out.cell (World.block_lt_of_cell? w _ hx205_2)).trans hx205_2
                replace hx205_3 := (HB.out.cell (World.block_lt_of_cell? w _ hx205_3)).trans hx205_3
                replace hx205_4 := (HB.out.cell (World.block_lt_of_cell? w _ hx205_4)).trans hx205_4
                replace p205 := eq_true p205
                replace q205 := eq_true q205
                have p206 : 0 ≤ (x5_1 : Int) := of_decide_eq_true (by first | (with_reducible assumption) | assumption)
                have q206 : x5_1 < (l1.length : Int) := of_decide_eq_true (by first | (with_reducible assumption) | assumption)
                obtain ⟨ad206, e206, hx206_0, hx206_1, hx206_2, hx206_3, hx206_4⟩ := at_T48 HR1.out x5_1 p206 q206
                have hw206_4 := hx206_4
                have hw206_3 := hx206_3
                have hw206_2 := hx206_2
                have hw206_1 := hx206_1
                have hw206_0 := hx206_0
                cases e206
                replace hx206_0 := (HB.out.cell (World.block_lt_of_cell? w _ hx206_0)).trans hx206_0
                replace hx206_1 := (HB.out.cell (World.block_lt_of_cell? w _ hx206_1)).trans hx206_1
                replace hx206_2 := (HB.out.cell (World.block_lt_of_cell? w _ hx206_2)).trans hx206_2
                replace hx206_3 := (HB.out.cell (World.block_lt_of_cell? w _ hx206_3)).trans hx206_3
                replace hx206_4 := (HB.out.cell (World.block_lt_of_cell? w _ hx206_4)).trans hx206_4
                replace p206 := eq_true p206
                replace q206 := eq_true q206
                refine start_ (n := 10) (S := fun w' => w'.cell? (ad205.add ((x5_1).toNat * 5)) = some (.int .i64 ((rd_T48 l0 x5_1).f0)) ∧ w'.cell? ⟨(ad205.add ((x5_1).toNat * 5)).block, (ad205.add ((x5_1).toNat * 5)).off + 1, none⟩ = some (.int .i64 ((rd_T48 l0 x5_1).f1)) ∧ w'.cell? ⟨(ad205.add ((x5_1).toNat * 5)).block, (ad205.add ((x5_1).toNat * 5)).off + 2, none⟩ = some (.int .i64 ((rd_T48 l0 x5_1).f2)) ∧ w'.cell? ⟨(ad205.add ((x5_1).toNat * 5)).block, (ad205.add ((x5_1).toNat * 5)).off + 3, none⟩ = some (.int .i64 ((rd_T48 l0 x5_1).f3)) ∧ w'.cell? ⟨(ad205.add ((x5_1).toNat * 5)).block, (ad205.add ((x5_1).toNat * 5)).off + 4, none⟩ = some (.int .i64 ((rd_T48 l0 x5_1).f4)) ∧ w'.cell? (ad206.add ((x5_1).toNat * 5)) = some (.int .i64 ((rd_T48 l1 x5_1).f0)) ∧ w'.cell? ⟨(ad206.add ((x5_1).toNat * 5)).block, (ad206.add ((x5_1).toNat * 5)).off + 1, none⟩ = some (.int .i64 ((rd_T48 l1 x5_1).f1)) ∧ w'.cell? ⟨(ad206.add ((x5_1).toNat * 5)).block, (ad206.add ((x5_1).toNat * 5)).off + 2, none⟩ = some (.int .i64 ((rd_T48 l1 x5_1).f2)) ∧ w'.cell? ⟨(ad206.add ((x5_1).toNat * 5)).block, (ad206.add ((x5_1).toNat * 5)).off + 3, none⟩ = some (.int .i64 ((rd_T48 l1 x5_1).f3)) ∧ w'.cell? ⟨(ad206.add ((x5_1).toNat * 5)).block, (ad206.add ((x5_1).toNat * 5)).off + 4, none⟩ = some (.int .i64 ((rd_T48 l1 x5_1).f4))) (ds := []) #[false, false, false, false, false, false, false, false, false, false] (by kernel_rfl) rfl rfl ⟨((HB.out.cell (World.block_lt_of_cell? w _ hw205_0)).trans hw205_0), ((HB.out.cell (World.block_lt_of_cell? w _ hw205_1)).trans hw205_1), ((HB.out.cell (World.block_lt_of_cell? w _ hw205_2)).trans hw205_2), ((HB.out.cell (World.block_lt_of_cell? w _ hw205_3)).trans hw205_3), ((HB.out.cell (World.block_lt_of_cell? w _ hw205_4)).trans hw205_4), ((HB.out.cell (World.block_lt_of_cell? w _ hw206_0)).trans hw206_0), ((HB.out.cell (World.block_lt_of_cell? w _ hw206_1)).trans hw206_1), ((HB.out.cell (World.block_lt_of_cell? w _ hw206_2)).trans hw206_2), ((HB.out.cell (World.block_lt_of_cell? w _ hw206_3)).trans hw206_3), ((HB.out.cell (World.block_lt_of_cell? w _ hw206_4)).trans hw206_4)⟩ (fun hHeld => ?_); refine with_tabW laws_eqGrdCellS.tab6 laws_eqGrdCellS.bits6 (fun HT_ HW_ => ?_)
                generalize wr.drew = w9 at HB hx205_0 hx205_1 hx205_2 hx205_3 hx205_4 hx206_0 hx206_1 hx206_2 hx206_3 hx206_4 hHeld ⊢
                refine pure_ (i := 0) (N := some 17) (v := ?_) (a' := ?_) #[true, false, false, false, false, false, false, false, false, false] rfl rfl (any_of HT_.out (by kernel_rfl)) (fun _ _ _ h => h) (Or.inl ⟨by rfl, ?_⟩) ?_ ?_
                rotate_left
                · intro w'
                  go_simp
                  with_reducible rfl
                rotate_left
                · simp only [Act.put, List.setIfInBounds_toArray, List.set_cons_zero, List.set_cons_succ, i64_w, i32_w]
                  rfl
                refine pure_ (i := 1) (N := some 18) (v := ?_) (a' := ?_) #[true, true, false, false, false, false, false, false, false, false] rfl rfl (any_of HT_.out (by kernel_rfl)) (fun _ _ _ h => h) (Or.inl ⟨by rfl, ?_⟩) ?_ ?_
                rotate_left
                · intro w'
                  go_simp
                  with_reducible rfl
                rotate_left
                · simp only [Act.put, List.setIfInBounds_toArray, List.set_cons_zero, List.set_cons_succ, i64_w, i32_w]
                  rfl
                refine pure_ (i := 2) (N := some 19) (v := ?_) (a' := ?_) #[true, true, true, false, false, false, false, false, false, false] rfl rfl (any_of HT_.out (by kernel_rfl)) (fun _ _ _ h => h) (Or.inl ⟨by rfl, ?_⟩) ?_ ?_
                rotate_left
                · intro w'
                  go_simp
                  with_reducible rfl
                rotate_left
                · simp only [Act.put, List.setIfInBounds_toArray, List.set_cons_zero, List.set_cons_succ, i64_w, i32_w]
                  rfl
                refine pure_ (i := 4) (N := some 21) (v := ?_) (a' := ?_) #[true, true, true, false, true, false, false, false, false, false] rfl rfl (any_of HT_.out (by kernel_rfl)) (fun _ _ _ h => h) (Or.inl ⟨by rfl, ?_⟩) ?_ ?_
                rotate_left
                · intro w'
                  go_simp
                  with_reducible rfl
                rotate_left
                · simp only [Act.put, List.setIfInBounds_toArray, List.set_cons_zero, List.set_cons_succ, i64_w, i32_w]
                  rfl
                refine pure_ (i := 5) (N := some 22) (v := ?_) (a' := ?_) #[true, true, true, false, true, true, false, false, false, false] rfl rfl (any_of HT_.out (by kernel_rfl)) (fun _ _ _ h => h) (Or.inl ⟨by rfl, ?_⟩) ?_ ?_
                rotate_left
                · intro w'
                  go_simp
                  with_reducible rfl
                rotate_left
                · simp only [Act.put, List.setIfInBounds_toArray, List.set_cons_zero, List.set_cons_succ, i64_w, i32_w]
                  rfl
                refine pure_ (i := 6) (N := some 23) (v := ?_) (a' := ?_) #[true, true, true, false, true, true, true, false, false, false] rfl rfl (any_of HT_.out (by kernel_rfl)) (fun _ _ _ h => h) (Or.inl ⟨by rfl, ?_⟩) ?_ ?_
                rotate_left
                · intro w'
                  go_simp
                  with_reducible rfl
                rotate_left
                · simp only [Act.put, List.setIfInBounds_toArray, List.set_cons_zero, List.set_cons_succ, i64_w, i32_w]
                  rfl
                refine take_ (i := 3) (N := some 20) (v := ?_) (a' := ?_) #[true, true, true, true, true, true, true, false, false, false] rfl rfl (take_ofW HT_.out HW_.out (by kernel_rfl)) (fun _ _ _ h => h) (Or.inl ⟨by rfl, ?_⟩) hHeld ?_ ?_
                rotate_left
                · rintro w' ⟨s0, s1, s2, s3, s4, s5, s6, s7, s8, s9⟩
                  go_simp
                  with_reducible rfl
                rotate_left
                · simp only [Act.put, List.setIfInBounds_toArray, List.set_cons_zero, List.set_cons_succ, i64_w, i32_w]
                  rfl
                refine take_ (i := 7) (N := some 24) (v := ?_) (a' := ?_) #[true, true, true, true, true, true, true, true, false, false] rfl rfl (take_ofW HT_.out HW_.out (by kernel_rfl)) (fun _ _ _ h => h) (Or.inl ⟨by rfl, ?_⟩) hHeld ?_ ?_
                rotate_left
                · rintro w' ⟨s0, s1, s2, s3, s4, s5, s6, s7, s8, s9⟩
                  go_simp
                  with_reducible rfl
                rotate_left
                · simp only [Act.put, List.setIfInBounds_toArray, List.set_cons_zero, List.set_cons_succ, i64_w, i32_w]
                  rfl
                refine one_ (i := 8) (N := some 25) #[true, true, true, true, true, true, true, true, true, false] rfl rfl (one_of HT_.out (by kernel_rfl)) (by decide) (fun K hK => ?_)
                refine goes_ Try.func35 (by kernel_rfl) rfl #[.agg #[.int .i64 ((rd_T48 l0 x5_1).f0), .int .i64 ((rd_T48 l0 x5_1).f1), .int .i64 ((rd_T48 l0 x5_1).f2), .int .i64 ((rd_T48 l0 x5_1).f3), .int .i64 ((rd_T48 l0 x5_1).f4)], .agg #[.int .i64 ((rd_T48 l1 x5_1).f0), .int .i64 ((rd_T48 l1 x5_1).f1), .int .i64 ((rd_T48 l1 x5_1).f2), .int .i64 ((rd_T48 l1 x5_1).f3), .int .i64 ((rd_T48 l1 x5_1).f4)]] (by rfl) rfl rfl (by (try simp only [List.map_toArray, List.map_cons, List.map_nil]); first | done | rfl | (simp only [List.length_drop, List.length_take]; rfl)) ?_
                with_reducible refine (laws_eqGrdCell.calls ((rd_T48 l0 x5_1).f0) ((rd_T48 l0 x5_1).f1) ((rd_T48 l0 x5_1).f2) ((rd_T48 l0 x5_1).f3) ((rd_T48 l0 x5_1).f4) ((rd_T48 l1 x5_1).f0) ((rd_T48 l1 x5_1).f1) ((rd_T48 l1 x5_1).f2) ((rd_T48 l1 x5_1).f3) ((rd_T48 l1 x5_1).f4) true _ A7.out).mono ?_
                rintro e w10 ⟨rfl, hb⟩
                refine ⟨_, rfl, ?_⟩
                have n0_ := Aside0.mk (below_step (by repeat (first | (with_reducible first | exact HB.out | apply below_alloc | apply pw_below_drewN | apply below_drew1) | exact HB.out)) hb)
                clear HB
                have HB := n0_
                clear n0_
                (try clear hb)
                (try clear hb2)
                (try clear hk)
                (try clear hi)
                refine hK.out _ _ ⟨((HB.out.cell (World.block_lt_of_cell? w _ hw205_0)).trans hw205_0), ((HB.out.cell (World.block_lt_of_cell? w _ hw205_1)).trans hw205_1), ((HB.out.cell (World.block_lt_of_cell? w _ hw205_2)).trans hw205_2), ((HB.out.cell (World.block_lt_of_cell? w _ hw205_3)).trans hw205_3), ((HB.out.cell (World.block_lt_of_cell? w _ hw205_4)).trans hw205_4), ((HB.out.cell (World.block_lt_of_cell? w _ hw206_0)).trans hw206_0), ((HB.out.cell (World.block_lt_of_cell? w _ hw206_1)).trans hw206_1), ((HB.out.cell (World.block_lt_of_cell? w _ hw206_2)).trans hw206_2), ((HB.out.cell (World.block_lt_of_cell? w _ hw206_3)).trans hw206_3), ((HB.out.cell (World.block_lt_of_cell? w _ hw206_4)).trans hw206_4)⟩ (fun hHeld => ?_)
                clear hK K
                refine norm_ (a' := ?_) ?_ ?_
                rotate_left
                · show Act.put _ (some 25) _ = _
                  simp only [Act.put, List.setIfInBounds_toArray, List.set_cons_zero, List.set_cons_succ, i64_w, i32_w]
                  rfl
                refine pure_ (i := 9) (N := some 26) (v := ?_) (a' := ?_) #[true, true, true, true, true, true, true, true, true, true] rfl rfl (any_of HT_.out (by kernel_rfl)) (fun _ _ _ h => h) (Or.inl ⟨by rfl, ?_⟩) ?_ ?_
                rotate_left
                · intro w'
                  go_simp
                  with_reducible rfl
                rotate_left
                · simp only [Act.put, List.setIfInBounds_toArray, List.set_cons_zero, List.set_cons_succ, i64_w, i32_w]
                  rfl
                refine done_ (done_of HT_.out (by kernel_rfl)) ?_
                try go_wp2
                go_roundg k1
                case measure => have := HK1.out; omega
                case rel => exact ⟨(wrap64 (x5_1 + 1)), (by first | rfl | (simp; done) | (simp [*]; done)), H', ⟨by have := HK1.out; omega⟩, ⟨by repeat (first | (with_reducible first | exact HB.out | apply below_alloc | apply pw_below_drewN | apply below_drew1) | exact HB.out)⟩⟩
              · replace c8 := Bool.eq_false_iff.mpr c8
                subst c8
                have H1 : (some false) = some r := by rw [if_neg (show ¬ (false = true) by decide)] at H; exact H
                clear H
                have H := H1
                clear H1
                obtain rfl := Option.some.inj H
                try go_wp2
                have n0_ := Aside0.mk (below_drew1 HB.out)
                clear HB
                have HB := n0_
                clear n0_
                have p205 : 0 ≤ (x5_1 : Int) := of_decide_eq_true (by first | (with_reducible assumption) | assumption)
                have q205 : x5_1 < (l0.length : Int) := of_decide_eq_true (by first | (with_reducible assumption) | assumption)
                obtain ⟨ad205, e205, hx205_0, hx205_1, hx205_2, hx205_3, hx205_4⟩ := at_T48 HR0.out x5_1 p205 q205
                have hw205_4 := hx205_4
                have hw205_3 := hx205_3
                have hw205_2 := hx205_2
                have hw205_1 := hx205_1
                have hw205_0 := hx205_0
                cases e205
                replace hx205_0 := (HB.out.cell (World.block_lt_of_cell? w _ hx205_0)).trans hx205_0
                replace hx205_1 := (HB.out.cell (World.block_lt_of_cell? w _ hx205_1)).trans hx205_1
                replace hx205_2 := (HB.out.cell (World.block_lt_of_cell? w _ hx205_2)).trans hx205_2
                replace hx205_3 := (HB.out.cell (World.block_lt_of_cell? w _ hx205_3)).trans hx205_3
                replace hx205_4 := (HB.out.cell (World.block_lt_of_cell? w _ hx205_4)).trans hx205_4
                replace p205 := eq_true p205
                replace q205 := eq_true q205
                have p206 : 0 ≤ (x5_1 : Int) := of_decide_eq_true (by first | (with_reducible assumption) | assumption)
                have q206 : x5_1 < (l1.length : Int) := of_decide_eq_true (by first | (with_reducible assumption) | assumption)
                obtain ⟨ad206, e206, hx206_0, hx206_1, hx206_2, hx206_3, hx206_4⟩ := at_T48 HR1.out x5_1 p206 q206
                have hw206_4 := hx206_4
                have hw206_3 := hx206_3
                have hw206_2 := hx206_2
                have hw206_1 := hx206_1
                have hw206_0 := hx206_0
                cases e206
                replace hx206_0 := (HB.out.cell (World.block_lt_of_cell? w _ hx206_0)).trans hx206_0
                replace hx206_1 := (HB.out.cell (World.block_lt_of_cell? w _ hx206_1)).trans hx206_1
                replace hx206_2 := (HB.out.cell (World.block_lt_of_cell? w _ hx206_2)).trans hx206_2
                replace hx206_3 := (HB.out.cell (World.block_lt_of_cell? w _ hx206_3)).trans hx206_3
                replace hx206_4 := (HB.out.cell (World.block_lt_of_cell? w _ hx206_4)).trans hx206_4
                replace p206 := eq_true p206
                replace q206 := eq_true q206
                refine start_ (n := 10) (S := fun w' => w'.cell? (ad205.add ((x5_1).toNat * 5)) = some (.int .i64 ((rd_T48 l0 x5_1).f0)) ∧ w'.cell? ⟨(ad205.add ((x5_1).toNat * 5)).block, (ad205.add ((x5_1).toNat * 5)).off + 1, none⟩ = some (.int .i64 ((rd_T48 l0 x5_1).f1)) ∧ w'.cell? ⟨(ad205.add ((x5_1).toNat * 5)).block, (ad205.add ((x5_1).toNat * 5)).off + 2, none⟩ = some (.int .i64 ((rd_T48 l0 x5_1).f2)) ∧ w'.cell? ⟨(ad205.add ((x5_1).toNat * 5)).block, (ad205.add ((x5_1).toNat * 5)).off + 3, none⟩ = some (.int .i64 ((rd_T48 l0 x5_1).f3)) ∧ w'.cell? ⟨(ad205.add ((x5_1).toNat * 5)).block, (ad205.add ((x5_1).toNat * 5)).off + 4, none⟩ = some (.int .i64 ((rd_T48 l0 x5_1).f4)) ∧ w'.cell? (ad206.add ((x5_1).toNat * 5)) = some (.int .i64 ((rd_T48 l1 x5_1).f0)) ∧ w'.cell? ⟨(ad206.add ((x5_1).toNat * 5)).block, (ad206.add ((x5_1).toNat * 5)).off + 1, none⟩ = some (.int .i64 ((rd_T48 l1 x5_1).f1)) ∧ w'.cell? ⟨(ad206.add ((x5_1).toNat * 5)).block, (ad206.add ((x5_1).toNat * 5)).off + 2, none⟩ = some (.int .i64 ((rd_T48 l1 x5_1).f2)) ∧ w'.cell? ⟨(ad206.add ((x5_1).toNat * 5)).block, (ad206.add ((x5_1).toNat * 5)).off + 3, none⟩ = some (.int .i64 ((rd_T48 l1 x5_1).f3)) ∧ w'.cell? ⟨(ad206.add ((x5_1).toNat * 5)).block, (ad206.add ((x5_1).toNat * 5)).off + 4, none⟩ = some (.int .i64 ((rd_T48 l1 x5_1).f4))) (ds := []) #[false, false, false, false, false, false, false, false, false, false] (by kernel_rfl) rfl rfl ⟨((HB.out.cell (World.block_lt_of_cell? w _ hw205_0)).trans hw205_0), ((HB.out.cell (World.block_lt_of_cell? w _ hw205_1)).trans hw205_1), ((HB.out.cell (World.block_lt_of_cell? w _ hw205_2)).trans hw205_2), ((HB.out.cell (World.block_lt_of_cell? w _ hw205_3)).trans hw205_3), ((HB.out.cell (World.block_lt_of_cell? w _ hw205_4)).trans hw205_4), ((HB.out.cell (World.block_lt_of_cell? w _ hw206_0)).trans hw206_0), ((HB.out.cell (World.block_lt_of_cell? w _ hw206_1)).trans hw206_1), ((HB.out.cell (World.block_lt_of_cell? w _ hw206_2)).trans hw206_2), ((HB.out.cell (World.block_lt_of_cell? w _ hw206_3)).trans hw206_3), ((HB.out.cell (World.block_lt_of_cell? w _ hw206_4)).trans hw206_4)⟩ (fun hHeld => ?_); refine with_tabW laws_eqGrdCellS.tab6 laws_eqGrdCellS.bits6 (fun HT_ HW_ => ?_)
                generalize wr.drew = w11 at HB hx205_0 hx205_1 hx205_2 hx205_3 hx205_4 hx206_0 hx206_1 hx206_2 hx206_3 hx206_4 hHeld ⊢
                refine pure_ (i := 0) (N := some 17) (v := ?_) (a' := ?_) #[true, false, false, false, false, false, false, false, false, false] rfl rfl (any_of HT_.out (by kernel_rfl)) (fun _ _ _ h => h) (Or.inl ⟨by rfl, ?_⟩) ?_ ?_
                rotate_left
                · intro w'
                  go_simp
                  with_reducible rfl
                rotate_left
                · simp only [Act.put, List.setIfInBounds_toArray, List.set_cons_zero, List.set_cons_succ, i64_w, i32_w]
                  rfl
                refine pure_ (i := 1) (N := some 18) (v := ?_) (a' := ?_) #[true, true, false, false, false, false, false, false, false, false] rfl rfl (any_of HT_.out (by kernel_rfl)) (fun _ _ _ h => h) (Or.inl ⟨by rfl, ?_⟩) ?_ ?_
                rotate_left
                · intro w'
                  go_simp
                  with_reducible rfl
                rotate_left
                · simp only [Act.put, List.setIfInBounds_toArray, List.set_cons_zero, List.set_cons_succ, i64_w, i32_w]
                  rfl
                refine pure_ (i := 2) (N := some 19) (v := ?_) (a' := ?_) #[true, true, true, false, false, false, false, false, false, false] rfl rfl (any_of HT_.out (by kernel_rfl)) (fun _ _ _ h => h) (Or.inl ⟨by rfl, ?_⟩) ?_ ?_
                rotate_left
                · intro w'
                  go_simp
                  with_reducible rfl
                rotate_left
                · simp only [Act.put, List.setIfInBounds_toArray, List.set_cons_zero, List.set_cons_succ, i64_w, i32_w]
                  rfl
                refine pure_ (i := 4) (N := some 21) (v := ?_) (a' := ?_) #[true, true, true, false, true, false, false, false, false, false] rfl rfl (any_of HT_.out (by kernel_rfl)) (fun _ _ _ h => h) (Or.inl ⟨by rfl, ?_⟩) ?_ ?_
                rotate_left
                · intro w'
                  go_simp
                  with_reducible rfl
                rotate_left
                · simp only [Act.put, List.setIfInBounds_toArray, List.set_cons_zero, List.set_cons_succ, i64_w, i32_w]
                  rfl
                refine pure_ (i := 5) (N := some 22) (v := ?_) (a' := ?_) #[true, true, true, false, true, true, false, false, false, false] rfl rfl (any_of HT_.out (by kernel_rfl)) (fun _ _ _ h => h) (Or.inl ⟨by rfl, ?_⟩) ?_ ?_
                rotate_left
                · intro w'
                  go_simp
                  with_reducible rfl
                rotate_left
                · simp only [Act.put, List.setIfInBounds_toArray, List.set_cons_zero, List.set_cons_succ, i64_w, i32_w]
                  rfl
                refine pure_ (i := 6) (N := some 23) (v := ?_) (a' := ?_) #[true, true, true, false, true, true, true, false, false, false] rfl rfl (any_of HT_.out (by kernel_rfl)) (fun _ _ _ h => h) (Or.inl ⟨by rfl, ?_⟩) ?_ ?_
                rotate_left
                · intro w'
                  go_simp
                  with_reducible rfl
                rotate_left
                · simp only [Act.put, List.setIfInBounds_toArray, List.set_cons_zero, List.set_cons_succ, i64_w, i32_w]
                  rfl
                refine take_ (i := 3) (N := some 20) (v := ?_) (a' := ?_) #[true, true, true, true, true, true, true, false, false, false] rfl rfl (take_ofW HT_.out HW_.out (by kernel_rfl)) (fun _ _ _ h => h) (Or.inl ⟨by rfl, ?_⟩) hHeld ?_ ?_
                rotate_left
                · rintro w' ⟨s0, s1, s2, s3, s4, s5, s6, s7, s8, s9⟩
                  go_simp
                  with_reducible rfl
                rotate_left
                · simp only [Act.put, List.setIfInBounds_toArray, List.set_cons_zero, List.set_cons_succ, i64_w, i32_w]
                  rfl
                refine take_ (i := 7) (N := some 24) (v := ?_) (a' := ?_) #[true, true, true, true, true, true, true, true, false, false] rfl rfl (take_ofW HT_.out HW_.out (by kernel_rfl)) (fun _ _ _ h => h) (Or.inl ⟨by rfl, ?_⟩) hHeld ?_ ?_
                rotate_left
                · rintro w' ⟨s0, s1, s2, s3, s4, s5, s6, s7, s8, s9⟩
                  go_simp
                  with_reducible rfl
                rotate_left
                · simp only [Act.put, List.setIfInBounds_toArray, List.set_cons_zero, List.set_cons_succ, i64_w, i32_w]
                  rfl
                refine one_ (i := 8) (N := some 25) #[true, true, true, true, true, true, true, true, true, false] rfl rfl (one_of HT_.out (by kernel_rfl)) (by decide) (fun K hK => ?_)
                refine goes_ Try.func35 (by kernel_rfl) rfl #[.agg #[.int .i64 ((rd_T48 l0 x5_1).f0), .int .i64 ((rd_T48 l0 x5_1).f1), .int .i64 ((rd_T48 l0 x5_1).f2), .int .i64 ((rd_T48 l0 x5_1).f3), .int .i64 ((rd_T48 l0 x5_1).f4)], .agg #[.int .i64 ((rd_T48 l1 x5_1).f0), .int .i64 ((rd_T48 l1 x5_1).f1), .int .i64 ((rd_T48 l1 x5_1).f2), .int .i64 ((rd_T48 l1 x5_1).f3), .int .i64 ((rd_T48 l1 x5_1).f4)]] (by rfl) rfl rfl (by (try simp only [List.map_toArray, List.map_cons, List.map_nil]); first | done | rfl | (simp only [List.length_drop, List.length_take]; rfl)) ?_
                with_reducible refine (laws_eqGrdCell.calls ((rd_T48 l0 x5_1).f0) ((rd_T48 l0 x5_1).f1) ((rd_T48 l0 x5_1).f2) ((rd_T48 l0 x5_1).f3) ((rd_T48 l0 x5_1).f4) ((rd_T48 l1 x5_1).f0) ((rd_T48 l1 x5_1).f1) ((rd_T48 l1 x5_1).f2) ((rd_T48 l1 x5_1).f3) ((rd_T48 l1 x5_1).f4) false _ A7.out).mono ?_
                rintro e w12 ⟨rfl, hb⟩
                refine ⟨_, rfl, ?_⟩
                have n0_ := Aside0.mk (below_step (by repeat (first | (with_reducible first | exact HB.out | apply below_alloc | apply pw_below_drewN | apply below_drew1) | exact HB.out)) hb)
                clear HB
                have HB := n0_
                clear n0_
                (try clear hb)
                (try clear hb2)
                (try clear hk)
                (try clear hi)
                refine hK.out _ _ ⟨((HB.out.cell (World.block_lt_of_cell? w _ hw205_0)).trans hw205_0), ((HB.out.cell (World.block_lt_of_cell? w _ hw205_1)).trans hw205_1), ((HB.out.cell (World.block_lt_of_cell? w _ hw205_2)).trans hw205_2), ((HB.out.cell (World.block_lt_of_cell? w _ hw205_3)).trans hw205_3), ((HB.out.cell (World.block_lt_of_cell? w _ hw205_4)).trans hw205_4), ((HB.out.cell (World.block_lt_of_cell? w _ hw206_0)).trans hw206_0), ((HB.out.cell (World.block_lt_of_cell? w _ hw206_1)).trans hw206_1), ((HB.out.cell (World.block_lt_of_cell? w _ hw206_2)).trans hw206_2), ((HB.out.cell (World.block_lt_of_cell? w _ hw206_3)).trans hw206_3), ((HB.out.cell (World.block_lt_of_cell? w _ hw206_4)).trans hw206_4)⟩ (fun hHeld => ?_)
                clear hK K
                refine norm_ (a' := ?_) ?_ ?_
                rotate_left
                · show Act.put _ (some 25) _ = _
                  simp only [Act.put, List.setIfInBounds_toArray, List.set_cons_zero, List.set_cons_succ, i64_w, i32_w]
                  rfl
                refine pure_ (i := 9) (N := some 26) (v := ?_) (a' := ?_) #[true, true, true, true, true, true, true, true, true, true] rfl rfl (any_of HT_.out (by kernel_rfl)) (fun _ _ _ h => h) (Or.inl ⟨by rfl, ?_⟩) ?_ ?_
                rotate_left
                · intro w'
                  go_simp
                  with_reducible rfl
                rotate_left
                · simp only [Act.put, List.setIfInBounds_toArray, List.set_cons_zero, List.set_cons_succ, i64_w, i32_w]
                  rfl
                refine done_ (done_of HT_.out (by kernel_rfl)) ?_
                try go_wp2
                all_goals (go_ret; exact ⟨by first | rfl | (simp [IntKind.wrap_i64, wrap64]; done) | (simp [errW_none, errW_some] <;> rfl) | (simp [*, errW_none, errW_some] <;> rfl), by repeat (first | (with_reducible first | exact HB.out | apply below_alloc | apply pw_below_drewN | apply below_drew1) | exact HB.out)⟩)
            · rw [if_neg c6] at H
              exact absurd H (by simp)
          · rw [if_neg c5] at H
            exact absurd H (by simp)
        · rw [if_neg c4] at H
          have c4b0 : decide (x5_1 < (l0.length : Int)) = false := decide_eq_false c4
          clear c4
          obtain rfl := Option.some.inj H
          go_wp2
          go_ret
          exact ⟨by first | rfl | (simp [IntKind.wrap_i64, wrap64]; done) | (simp [errW_none, errW_some] <;> rfl) | (simp [*, errW_none, errW_some] <;> rfl), by repeat (first | (with_reducible first | exact HB.out | apply below_alloc | apply pw_below_drewN | apply below_drew1) | exact HB.out)⟩
  · rw [if_neg c3] at H
    have c3b0 : ((l0.length : Int) == (l1.length : Int)) = false := beq_eq_false_iff_ne.mpr c3
    have c3b1 : ((l0.length : Int) != (l1.length : Int)) = true := bne_iff_ne.mpr c3
    have c3b2 : (l0.length == l1.length) = false := by first | simpa using c3 | (simp at c3 ⊢; omega)
    obtain rfl := Option.some.inj H
    go_enter Try.func20, Try.ntmps20
    go_wp2
    go_ret
    exact ⟨by first | rfl | (simp [IntKind.wrap_i64, wrap64]; done) | (simp [errW_none, errW_some] <;> rfl) | (simp [*, errW_none, errW_some] <;> rfl), by repeat (first | (with_reducible first | exact HB.out | apply below_alloc | apply pw_below_drewN | apply below_drew1) | exact HB.out)⟩

/-! ### laws_eqGrdGrid: function 9 -/
def laws_eqGrdGrid.f (k : Nat) (a0_0 : Int) (a0_1 : Int) (l0_2 : List (S48)) (a1_0 : Int) (a1_1 : Int) (l1_2 : List (S48)) : Option (Bool) := if a0_0 = a1_0 then (if a0_1 = a1_1 then ((laws_eqGrdCellS.f k l0_2 l1_2).bind fun t210 => (if t210 = true then (some true) else (some false))) else (some false)) else (some false)
theorem laws_eqGrdGrid.mono : ∀ a0 a1 a2 a3 a4 a5 k, LeO (laws_eqGrdGrid.f k a0 a1 a2 a3 a4 a5) (laws_eqGrdGrid.f (k + 1) a0 a1 a2 a3 a4 a5) := by
  intro a0 a1 a2 a3 a4 a5 k
  unfold laws_eqGrdGrid.f
  repeat' first
      | (with_reducible exact laws_eqGrdCellS.mono _ _ _)
      | (with_reducible exact LeO.refl _)
      | (with_reducible exact LeO.none _)
      | (with_reducible refine LeO.ite ?_ ?_)
      | (with_reducible refine LeO.bind ?_ (fun _ => ?_))
      | exact laws_eqGrdCellS.mono _ _ _
      | exact LeO.none _
      | refine LeO.ite ?_ ?_
      | refine LeO.bind ?_ (fun _ => ?_)
set_option maxHeartbeats 8000000 in
set_option maxRecDepth 100000 in
theorem laws_eqGrdGrid.calls (k : Nat) (a0_0 : Int) (a0_1 : Int) (A0_2 : Option Addr) (c0_2 : Nat) (l0_2 : List (S48)) (a1_0 : Int) (a1_1 : Int) (A1_2 : Option Addr) (c1_2 : Nat) (l1_2 : List (S48)) (r : Bool) (w : World) (hr0_2 : Kd.C k48 w A0_2 l0_2.length l0_2) (hc0_2 : l0_2.length ≤ c0_2) (hr1_2 : Kd.C k48 w A1_2 l1_2.length l1_2) (hc1_2 : l1_2.length ≤ c1_2) (h : laws_eqGrdGrid.f k a0_0 a0_1 l0_2 a1_0 a1_1 l1_2 = some r) :
    Calls Try.prog 9 #[.agg #[.int .i64 a0_0, .int .i64 a0_1, .slice A0_2 l0_2.length c0_2], .agg #[.int .i64 a1_0, .int .i64 a1_1, .slice A1_2 l1_2.length c1_2]] w fun e w' => e = .returned (.bool r) ∧ Below w.heap.size w w' := by
  have hu30 := Try.underlying30
  have HR0_2 := Aside0.mk hr0_2
  have HC0_2 := Aside0.mk hc0_2
  clear hr0_2 hc0_2
  have HR1_2 := Aside0.mk hr1_2
  have HC1_2 := Aside0.mk hc1_2
  clear hr1_2 hc1_2
  have HB := Aside0.mk (Below.refl w.heap.size w)
  have H : (if a0_0 = a1_0 then (if a0_1 = a1_1 then ((laws_eqGrdCellS.f k l0_2 l1_2).bind fun t210 => (if t210 = true then (some true) else (some false))) else (some false)) else (some false)) = some r := h
  clear h
  by_cases c3 : a0_0 = a1_0
  · rw [if_pos c3] at H
    have c3b0 : (a0_0 == a1_0) = true := beq_iff_eq.mpr c3
    have c3b1 : (a0_0 != a1_0) = false := bne_eq_false_iff_eq.mpr c3
    clear c3
    by_cases c4 : a0_1 = a1_1
    · rw [if_pos c4] at H
      have c4b0 : (a0_1 == a1_1) = true := beq_iff_eq.mpr c4
      have c4b1 : (a0_1 != a1_1) = false := bne_eq_false_iff_eq.mpr c4
      clear c4
      replace H := Option.bind_eq_some_iff.mp H
      obtain ⟨t210, A50, H⟩ := H
      replace H : (if t210 = true then (some true) else (some false)) = some r := H
      have A5 := Aside0.mk A50
      clear A50
      by_cases c6 : t210 = true
      · subst c6
        have H1 : (some true) = some r := by rw [if_pos rfl] at H; exact H
        clear H
        have H := H1
        clear H1
        obtain rfl := Option.some.inj H
        go_enter Try.func9, Try.ntmps9
        go_wp2_with (first | ((with_reducible refine gate_dst (N := 2) rfl ?_); refine box_event ?hg (N := 2) ?hd (cs := #[.int .i64 a0_0, .int .i64 a0_1, .slice A0_2 l0_2.length c0_2]) (t := 30) ?hr ?_; (case hd => rfl); (case hg => rfl); (case hr => first | (go_simp; done) | (go_simp; rfl)); intro gb208 hg w7 hbox hb; have n0_ := Aside0.mk (below_step (by repeat (first | (with_reducible first | exact HB.out | apply below_alloc | apply pw_below_drewN | apply below_drew1) | exact HB.out)) hb); have n1_ := Aside0.mk (hbox); have n2_ := Aside0.mk ((by rw [hg]; exact (below_size (by repeat (first | (with_reducible first | exact HB.out | apply below_alloc | apply pw_below_drewN | apply below_drew1) | exact HB.out))) : w.heap.size ≤ gb208)); have n3_ := Aside0.mk ((by rw [hg]; exact (below_size (by repeat (first | (with_reducible first | exact HB.out | apply below_alloc | apply pw_below_drewN | apply below_drew1) | exact HB.out))) : w.heap.size ≤ gb208)); clear HB; have HB := n0_; have BK208 := n1_; have GW208 := n2_; have GE208 := n3_; clear n0_ n1_ n2_ n3_; clear hb hbox hg) | ((with_reducible refine gate_dst (N := 3) rfl ?_); refine box_event ?hg (N := 3) ?hd (cs := #[.int .i64 a1_0, .int .i64 a1_1, .slice A1_2 l1_2.length c1_2]) (t := 30) ?hr ?_; (case hd => rfl); (case hg => rfl); (case hr => first | (go_simp; done) | (go_simp; rfl)); intro gb209 hg w8 hbox hb; have n0_ := Aside0.mk (blk_below (g := gb208) (o := .cells #[.int .i64 a0_0, .int .i64 a0_1, .slice A0_2 l0_2.length c0_2] 30 (0, 0)) (by (with_reducible repeat (first | refine blk_drewN ?_ _ | refine blk_drew ?_ | refine blk_alloc ?_ _)); exact BK208.out) hb); have n1_ := Aside0.mk (below_step (by repeat (first | (with_reducible first | exact HB.out | apply below_alloc | apply pw_below_drewN | apply below_drew1 | refine below_set ?_ GE208.out) | exact HB.out)) hb); have n2_ := Aside0.mk (hbox); have n3_ := Aside0.mk ((by rw [hg]; exact (below_size (by repeat (first | (with_reducible first | exact HB.out | apply below_alloc | apply pw_below_drewN | apply below_drew1 | refine below_set ?_ GE208.out) | exact HB.out))) : w.heap.size ≤ gb209)); have n4_ := Aside0.mk ((by rw [hg]; exact (below_size (by repeat (first | (with_reducible first | exact HB.out | apply below_alloc | apply pw_below_drewN | apply below_drew1 | refine below_set ?_ GE208.out) | exact HB.out))) : w.heap.size ≤ gb209)); have n5_ := Aside0.mk ((by rw [hg]; exact Nat.ne_of_lt (blk_lt (g := gb208) (o := .cells #[.int .i64 a0_0, .int .i64 a0_1, .slice A0_2 l0_2.length c0_2] 30 (0, 0)) (by (with_reducible repeat (first | refine blk_drewN ?_ _ | refine blk_drew ?_ | refine blk_alloc ?_ _)); exact BK208.out)) : gb208 ≠ gb209)); have n6_ := Aside0.mk ((by rw [hg]; exact Nat.ne_of_gt (blk_lt (g := gb208) (o := .cells #[.int .i64 a0_0, .int .i64 a0_1, .slice A0_2 l0_2.length c0_2] 30 (0, 0)) (by (with_reducible repeat (first | refine blk_drewN ?_ _ | refine blk_drew ?_ | refine blk_alloc ?_ _)); exact BK208.out)) : gb209 ≠ gb208)); clear BK208; clear HB; have BK208 := n0_; have HB := n1_; have BK209 := n2_; have GW209 := n3_; have GE209 := n4_; have NB208_209 := n5_; have NB209_208 := n6_; clear n0_ n1_ n2_ n3_ n4_ n5_ n6_; clear hb hbox hg; have hnb9 := NB208_209.out; have hnc9 := NB209_208.out; have hcz10_0 : w8.cell? ⟨gb208, 0, none⟩ = some (.int .i64 a0_0) := (blk_cell BK208.out 0).trans rfl; have hcz10_1 : w8.cell? ⟨gb208, 1, none⟩ = some (.int .i64 a0_1) := (blk_cell BK208.out 1).trans rfl; have hcz10_2 : w8.cell? ⟨gb208, 2, none⟩ = some (.slice A0_2 l0_2.length c0_2) := (blk_cell BK208.out 2).trans rfl; have hfz10_0 := blk_frozen BK208.out 0; have hfz10_1 := blk_frozen BK208.out 1; have hfz10_2 := blk_frozen BK208.out 2; have hcz11_0 : w8.cell? ⟨gb209, 0, none⟩ = some (.int .i64 a1_0) := (blk_cell BK209.out 0).trans rfl; have hcz11_1 : w8.cell? ⟨gb209, 1, none⟩ = some (.int .i64 a1_1) := (blk_cell BK209.out 1).trans rfl; have hcz11_2 : w8.cell? ⟨gb209, 2, none⟩ = some (.slice A1_2 l1_2.length c1_2) := (blk_cell BK209.out 2).trans rfl; have hfz11_0 := blk_frozen BK209.out 0; have hfz11_1 := blk_frozen BK209.out 1; have hfz11_2 := blk_frozen BK209.out 2) | ((with_reducible refine gate_callee (f := 20) rfl ?_); refine goesL_ (some 19) rfl rfl Try.func20 (by kernel_rfl) rfl #[.slice A0_2 l0_2.length c0_2, .slice A1_2 l1_2.length c1_2] rfl (by (try simp only [List.map_toArray, List.map_cons, List.map_nil]); first | done | rfl | (simp only [List.length_drop, List.length_take]; rfl)) ?_; (with_reducible refine (laws_eqGrdCellS.calls k _ _ l0_2 _ _ l1_2 true _ ?side1 ?side2 ?side3 ?side4 A5.out).mono ?_); (case side1 => repeat (first | exact HR0_2.out | exact (Kd.C_below HR0_2.out HB.out) | (with_reducible refine Kd.C_alloc ?_ _) | (with_reducible refine Kd.C_drewN ?_ _) | (with_reducible refine Kd.C_drew ?_))); (case side2 => exact HC0_2.out); (case side3 => repeat (first | exact HR1_2.out | exact (Kd.C_below HR1_2.out HB.out) | (with_reducible refine Kd.C_alloc ?_ _) | (with_reducible refine Kd.C_drewN ?_ _) | (with_reducible refine Kd.C_drew ?_))); (case side4 => exact HC1_2.out); rintro e w12 ⟨rfl, hb⟩; refine ⟨_, rfl, ?_⟩; have n0_ := Aside0.mk (blk_below (g := gb208) (o := .cells #[.int .i64 a0_0, .int .i64 a0_1, .slice A0_2 l0_2.length c0_2] 30 (0, 0)) (by (with_reducible repeat (first | refine blk_drewN ?_ _ | refine blk_drew ?_ | refine blk_alloc ?_ _)); exact BK208.out) hb); have n1_ := Aside0.mk (blk_below (g := gb209) (o := .cells #[.int .i64 a1_0, .int .i64 a1_1, .slice A1_2 l1_2.length c1_2] 30 (0, 0)) (by (with_reducible repeat (first | refine blk_drewN ?_ _ | refine blk_drew ?_ | refine blk_alloc ?_ _)); exact BK209.out) hb); have n2_ := Aside0.mk (below_step (by repeat (first | (with_reducible first | exact HB.out | apply below_alloc | apply pw_below_drewN | apply below_drew1 | refine below_set ?_ GE208.out | refine below_set ?_ GE209.out) | exact HB.out)) hb); clear BK208; clear BK209; clear HB; have BK208 := n0_; have BK209 := n1_; have HB := n2_; clear n0_ n1_ n2_; (try clear hb); (try clear hb2); (try clear hk); (try clear hi)))
        go_ret
        exact ⟨by first | rfl | (simp [IntKind.wrap_i64, wrap64]; done) | (simp [errW_none, errW_some] <;> rfl) | (simp [*, errW_none, errW_some] <;> rfl), by repeat (first | (with_reducible first | exact HB.out | apply below_alloc | apply pw_below_drewN | apply below_drew1 | refine below_set ?_ GE208.out | refine below_set ?_ GE209.out) | exact HB.out)⟩
      · replace c6 := Bool.eq_false_iff.mpr c6
        subst c6
        have H1 : (some false) = some r := by rw [if_neg (show ¬ (false = true) by decide)] at H; exact H
        clear H
        have H := H1
        clear H1
        obtain rfl := Option.some.inj H
        go_enter Try.func9, Try.ntmps9
        go_wp2_with (first | ((with_reducible refine gate_dst (N := 2) rfl ?_); refine box_event ?hg (N := 2) ?hd (cs := #[.int .i64 a0_0, .int .i64 a0_1, .slice A0_2 l0_2.length c0_2]) (t := 30) ?hr ?_; (case hd => rfl); (case hg => rfl); (case hr => first | (go_simp; done) | (go_simp; rfl)); intro gb208 hg w13 hbox hb; have n0_ := Aside0.mk (below_step (by repeat (first | (with_reducible first | exact HB.out | apply below_alloc | apply pw_below_drewN | apply below_drew1) | exact HB.out)) hb); have n1_ := Aside0.mk (hbox); have n2_ := Aside0.mk ((by rw [hg]; exact (below_size (by repeat (first | (with_reducible first | exact HB.out | apply below_alloc | apply pw_below_drewN | apply below_drew1) | exact HB.out))) : w.heap.size ≤ gb208)); have n3_ := Aside0.mk ((by rw [hg]; exact (below_size (by repeat (first | (with_reducible first | exact HB.out | apply below_alloc | apply pw_below_drewN | apply below_drew1) | exact HB.out))) : w.heap.size ≤ gb208)); clear HB; have HB := n0_; have BK208 := n1_; have GW208 := n2_; have GE208 := n3_; clear n0_ n1_ n2_ n3_; clear hb hbox hg) | ((with_reducible refine gate_dst (N := 3) rfl ?_); refine box_event ?hg (N := 3) ?hd (cs := #[.int .i64 a1_0, .int .i64 a1_1, .slice A1_2 l1_2.length c1_2]) (t := 30) ?hr ?_; (case hd => rfl); (case hg => rfl); (case hr => first | (go_simp; done) | (go_simp; rfl)); intro gb209 hg w14 hbox hb; have n0_ := Aside0.mk (blk_below (g := gb208) (o := .cells #[.int .i64 a0_0, .int .i64 a0_1, .slice A0_2 l0_2.length c0_2] 30 (0, 0)) (by (with_reducible repeat (first | refine blk_drewN ?_ _ | refine blk_drew ?_ | refine blk_alloc ?_ _)); exact BK208.out) hb); have n1_ := Aside0.mk (below_step (by repeat (first | (with_reducible first | exact HB.out | apply below_alloc | apply pw_below_drewN | apply below_drew1 | refine below_set ?_ GE208.out) | exact HB.out)) hb); have n2_ := Aside0.mk (hbox); have n3_ := Aside0.mk ((by rw [hg]; exact (below_size (by repeat (first | (with_reducible first | exact HB.out | apply below_alloc | apply pw_below_drewN | apply below_drew1 | refine below_set ?_ GE208.out) | exact HB.out))) : w.heap.size ≤ gb209)); have n4_ := Aside0.mk ((by rw [hg]; exact (below_size (by repeat (first | (with_reducible first | exact HB.out | apply below_alloc | apply pw_below_drewN | apply below_drew1 | refine below_set ?_ GE208.out) | exact HB.out))) : w.heap.size ≤ gb209)); have n5_ := Aside0.mk ((by rw [hg]; exact Nat.ne_of_lt (blk_lt (g := gb208) (o := .cells #[.int .i64 a0_0, .int .i64 a0_1, .slice A0_2 l0_2.length c0_2] 30 (0, 0)) (by (with_reducible repeat (first | refine blk_drewN ?_ _ | refine blk_drew ?_ | refine blk_alloc ?_ _)); exact BK208.out)) : gb208 ≠ gb209)); have n6_ := Aside0.mk ((by rw [hg]; exact Nat.ne_of_gt (blk_lt (g := gb208) (o := .cells #[.int .i64 a0_0, .int .i64 a0_1, .slice A0_2 l0_2.length c0_2] 30 (0, 0)) (by (with_reducible repeat (first | refine blk_drewN ?_ _ | refine blk_drew ?_ | refine blk_alloc ?_ _)); exact BK208.out)) : gb209 ≠ gb208)); clear BK208; clear HB; have BK208 := n0_; have HB := n1_; have BK209 := n2_; have GW209 := n3_; have GE209 := n4_; have NB208_209 := n5_; have NB209_208 := n6_; clear n0_ n1_ n2_ n3_ n4_ n5_ n6_; clear hb hbox hg; have hnb15 := NB208_209.out; have hnc15 := NB209_208.out; have hcz16_0 : w14.cell? ⟨gb208, 0, none⟩ = some (.int .i64 a0_0) := (blk_cell BK208.out 0).trans rfl; have hcz16_1 : w14.cell? ⟨gb208, 1, none⟩ = some (.int .i64 a0_1) := (blk_cell BK208.out 1).trans rfl; have hcz16_2 : w14.cell? ⟨gb208, 2, none⟩ = some (.slice A0_2 l0_2.length c0_2) := (blk_cell BK208.out 2).trans rfl; have hfz16_0 := blk_frozen BK208.out 0; have hfz16_1 := blk_frozen BK208.out 1; have hfz16_2 := blk_frozen BK208.out 2; have hcz17_0 : w14.cell? ⟨gb209, 0, none⟩ = some (.int .i64 a1_0) := (blk_cell BK209.out 0).trans rfl; have hcz17_1 : w14.cell? ⟨gb209, 1, none⟩ = some (.int .i64 a1_1) := (blk_cell BK209.out 1).trans rfl; have hcz17_2 : w14.cell? ⟨gb209, 2, none⟩ = some (.slice A1_2 l1_2.length c1_2) := (blk_cell BK209.out 2).trans rfl; have hfz17_0 := blk_frozen BK209.out 0; have hfz17_1 := blk_frozen BK209.out 1; have hfz17_2 := blk_frozen BK209.out 2) | ((with_reducible refine gate_callee (f := 20) rfl ?_); refine goesL_ (some 19) rfl rfl Try.func20 (by kernel_rfl) rfl #[.slice A0_2 l0_2.length c0_2, .slice A1_2 l1_2.length c1_2] rfl (by (try simp only [List.map_toArray, List.map_cons, List.map_nil]); first | done | rfl | (simp only [List.length_drop, List.length_take]; rfl)) ?_; (with_reducible refine (laws_eqGrdCellS.calls k _ _ l0_2 _ _ l1_2 false _ ?side1 ?side2 ?side3 ?side4 A5.out).mono ?_); (case side1 => repeat (first | exact HR0_2.out | exact (Kd.C_below HR0_2.out HB.out) | (with_reducible refine Kd.C_alloc ?_ _) | (with_reducible refine Kd.C_drewN ?_ _) | (with_reducible refine Kd.C_drew ?_))); (case side2 => exact HC0_2.out); (case side3 => repeat (first | exact HR1_2.out | exact (Kd.C_below HR1_2.out HB.out) | (with_reducible refine Kd.C_alloc ?_ _) | (with_reducible refine Kd.C_drewN ?_ _) | (with_reducible refine Kd.C_drew ?_))); (case side4 => exact HC1_2.out); rintro e w18 ⟨rfl, hb⟩; refine ⟨_, rfl, ?_⟩; have n0_ := Aside0.mk (blk_below (g := gb208) (o := .cells #[.int .i64 a0_0, .int .i64 a0_1, .slice A0_2 l0_2.length c0_2] 30 (0, 0)) (by (with_reducible repeat (first | refine blk_drewN ?_ _ | refine blk_drew ?_ | refine blk_alloc ?_ _)); exact BK208.out) hb); have n1_ := Aside0.mk (blk_below (g := gb209) (o := .cells #[.int .i64 a1_0, .int .i64 a1_1, .slice A1_2 l1_2.length c1_2] 30 (0, 0)) (by (with_reducible repeat (first | refine blk_drewN ?_ _ | refine blk_drew ?_ | refine blk_alloc ?_ _)); exact BK209.out) hb); have n2_ := Aside0.mk (below_step (by repeat (first | (with_reducible first | exact HB.out | apply below_alloc | apply pw_below_drewN | apply below_drew1 | refine below_set ?_ GE208.out | refine below_set ?_ GE209.out) | exact HB.out)) hb); clear BK208; clear BK209; clear HB; have BK208 := n0_; have BK209 := n1_; have HB := n2_; clear n0_ n1_ n2_; (try clear hb); (try clear hb2); (try clear hk); (try clear hi)))
        go_ret
        exact ⟨by first | rfl | (simp [IntKind.wrap_i64, wrap64]; done) | (simp [errW_none, errW_some] <;> rfl) | (simp [*, errW_none, errW_some] <;> rfl), by repeat (first | (with_reducible first | exact HB.out | apply below_alloc | apply pw_below_drewN | apply below_drew1 | refine below_set ?_ GE208.out | refine below_set ?_ GE209.out) | exact HB.out)⟩
    · rw [if_neg c4] at H
      have c4b0 : (a0_1 == a1_1) = false := beq_eq_false_iff_ne.mpr c4
      have c4b1 : (a0_1 != a1_1) = true := bne_iff_ne.mpr c4
      obtain rfl := Option.some.inj H
      go_enter Try.func9, Try.ntmps9
      go_wp2_with (first | ((with_reducible refine gate_dst (N := 2) rfl ?_); refine box_event ?hg (N := 2) ?hd (cs := #[.int .i64 a0_0, .int .i64 a0_1, .slice A0_2 l0_2.length c0_2]) (t := 30) ?hr ?_; (case hd => rfl); (case hg => rfl); (case hr => first | (go_simp; done) | (go_simp; rfl)); intro gb208 hg w19 hbox hb; have n0_ := Aside0.mk (below_step (by repeat (first | (with_reducible first | exact HB.out | apply below_alloc | apply pw_below_drewN | apply below_drew1) | exact HB.out)) hb); have n1_ := Aside0.mk (hbox); have n2_ := Aside0.mk ((by rw [hg]; exact (below_size (by repeat (first | (with_reducible first | exact HB.out | apply below_alloc | apply pw_below_drewN | apply below_drew1) | exact HB.out))) : w.heap.size ≤ gb208)); have n3_ := Aside0.mk ((by rw [hg]; exact (below_size (by repeat (first | (with_reducible first | exact HB.out | apply below_alloc | apply pw_below_drewN | apply below_drew1) | exact HB.out))) : w.heap.size ≤ gb208)); clear HB; have HB := n0_; have BK208 := n1_; have GW208 := n2_; have GE208 := n3_; clear n0_ n1_ n2_ n3_; clear hb hbox hg) | ((with_reducible refine gate_dst (N := 3) rfl ?_); refine box_event ?hg (N := 3) ?hd (cs := #[.int .i64 a1_0, .int .i64 a1_1, .slice A1_2 l1_2.length c1_2]) (t := 30) ?hr ?_; (case hd => rfl); (case hg => rfl); (case hr => first | (go_simp; done) | (go_simp; rfl)); intro gb209 hg w20 hbox hb; have n0_ := Aside0.mk (blk_below (g := gb208) (o := .cells #[.int .i64 a0_0, .int .i64 a0_1, .slice A0_2 l0_2.length c0_2] 30 (0, 0)) (by (with_reducible repeat (first | refine blk_drewN ?_ _ | refine blk_drew ?_ | refine blk_alloc ?_ _)); exact BK208.out) hb); have n1_ := Aside0.mk (below_step (by repeat (first | (with_reducible first | exact HB.out | apply below_alloc | apply pw_below_drewN | apply below_drew1 | refine below_set ?_ GE208.out) | exact HB.out)) hb); have n2_ := Aside0.mk (hbox); have n3_ := Aside0.mk ((by rw [hg]; exact (below_size (by repeat (first | (with_reducible first | exact HB.out | apply below_alloc | apply pw_below_drewN | apply below_drew1 | refine below_set ?_ GE208.out) | exact HB.out))) : w.heap.size ≤ gb209)); have n4_ := Aside0.mk ((by rw [hg]; exact (below_size (by repeat (first | (with_reducible first | exact HB.out | apply below_alloc | apply pw_below_drewN | apply below_drew1 | refine below_set ?_ GE208.out) | exact HB.out))) : w.heap.size ≤ gb209)); have n5_ := Aside0.mk ((by rw [hg]; exact Nat.ne_of_lt (blk_lt (g := gb208) (o := .cells #[.int .i64 a0_0, .int .i64 a0_1, .slice A0_2 l0_2.length c0_2] 30 (0, 0)) (by (with_reducible repeat (first | refine blk_drewN ?_ _ | refine blk_drew ?_ | refine blk_alloc ?_ _)); exact BK208.out)) : gb208 ≠ gb209)); have n6_ := Aside0.mk ((by rw [hg]; exact Nat.ne_of_gt (blk_lt (g := gb208) (o := .cells #[.int .i64 a0_0, .int .i64 a0_1, .slice A0_2 l0_2.length c0_2] 30 (0, 0)) (by (with_reducible repeat (first | refine blk_drewN ?_ _ | refine blk_drew ?_ | refine blk_alloc ?_ _)); exact BK208.out)) : gb209 ≠ gb208)); clear BK208; clear HB; have BK208 := n0_; have HB := n1_; have BK209 := n2_; have GW209 := n3_; have GE209 := n4_; have NB208_209 := n5_; have NB209_208 := n6_; clear n0_ n1_ n2_ n3_ n4_ n5_ n6_; clear hb hbox hg; have hnb21 := NB208_209.out; have hnc21 := NB209_208.out; have hcz22_0 : w20.cell? ⟨gb208, 0, none⟩ = some (.int .i64 a0_0) := (blk_cell BK208.out 0).trans rfl; have hcz22_1 : w20.cell? ⟨gb208, 1, none⟩ = some (.int .i64 a0_1) := (blk_cell BK208.out 1).trans rfl; have hcz22_2 : w20.cell? ⟨gb208, 2, none⟩ = some (.slice A0_2 l0_2.length c0_2) := (blk_cell BK208.out 2).trans rfl; have hfz22_0 := blk_frozen BK208.out 0; have hfz22_1 := blk_frozen BK208.out 1; have hfz22_2 := blk_frozen BK208.out 2; have hcz23_0 : w20.cell? ⟨gb209, 0, none⟩ = some (.int .i64 a1_0) := (blk_cell BK209.out 0).trans rfl; have hcz23_1 : w20.cell? ⟨gb209, 1, none⟩ = some (.int .i64 a1_1) := (blk_cell BK209.out 1).trans rfl; have hcz23_2 : w20.cell? ⟨gb209, 2, none⟩ = some (.slice A1_2 l1_2.length c1_2) := (blk_cell BK209.out 2).trans rfl; have hfz23_0 := blk_frozen BK209.out 0; have hfz23_1 := blk_frozen BK209.out 1; have hfz23_2 := blk_frozen BK209.out 2))
      go_ret
      exact ⟨by first | rfl | (simp [IntKind.wrap_i64, wrap64]; done) | (simp [errW_none, errW_some] <;> rfl) | (simp [*, errW_none, errW_some] <;> rfl), by repeat (first | (with_reducible first | exact HB.out | apply below_alloc | apply pw_below_drewN | apply below_drew1 | refine below_set ?_ GE208.out | refine below_set ?_ GE209.out) | exact HB.out)⟩
  · rw [if_neg c3] at H
    have c3b0 : (a0_0 == a1_0) = false := beq_eq_false_iff_ne.mpr c3
    have c3b1 : (a0_0 != a1_0) = true := bne_iff_ne.mpr c3
    obtain rfl := Option.some.inj H
    go_enter Try.func9, Try.ntmps9
    go_wp2_with (first | ((with_reducible refine gate_dst (N := 2) rfl ?_); refine box_event ?hg (N := 2) ?hd (cs := #[.int .i64 a0_0, .int .i64 a0_1, .slice A0_2 l0_2.length c0_2]) (t := 30) ?hr ?_; (case hd => rfl); (case hg => rfl); (case hr => first | (go_simp; done) | (go_simp; rfl)); intro gb208 hg w24 hbox hb; have n0_ := Aside0.mk (below_step (by repeat (first | (with_reducible first | exact HB.out | apply below_alloc | apply pw_below_drewN | apply below_drew1) | exact HB.out)) hb); have n1_ := Aside0.mk (hbox); have n2_ := Aside0.mk ((by rw [hg]; exact (below_size (by repeat (first | (with_reducible first | exact HB.out | apply below_alloc | apply pw_below_drewN | apply below_drew1) | exact HB.out))) : w.heap.size ≤ gb208)); have n3_ := Aside0.mk ((by rw [hg]; exact (below_size (by repeat (first | (with_reducible first | exact HB.out | apply below_alloc | apply pw_below_drewN | apply below_drew1) | exact HB.out))) : w.heap.size ≤ gb208)); clear HB; have HB := n0_; have BK208 := n1_; have GW208 := n2_; have GE208 := n3_; clear n0_ n1_ n2_ n3_; clear hb hbox hg) | ((with_reducible refine gate_dst (N := 3) rfl ?_); refine box_event ?hg (N := 3) ?hd (cs := #[.int .i64 a1_0, .int .i64 a1_1, .slice A1_2 l1_2.length c1_2]) (t := 30) ?hr ?_; (case hd => rfl); (case hg => rfl); (case hr => first | (go_simp; done) | (go_simp; rfl)); intro gb209 hg w25 hbox hb; have n0_ := Aside0.mk (blk_below (g := gb208) (o := .cells #[.int .i64 a0_0, .int .i64 a0_1, .slice A0_2 l0_2.length c0_2] 30 (0, 0)) (by (with_reducible repeat (first | refine blk_drewN ?_ _ | refine blk_drew ?_ | refine blk_alloc ?_ _)); exact BK208.out) hb); have n1_ := Aside0.mk (below_step (by repeat (first | (with_reducible first | exact HB.out | apply below_alloc | apply pw_below_drewN | apply below_drew1 | refine below_set ?_ GE208.out) | exact HB.out)) hb); have n2_ := Aside0.mk (hbox); have n3_ := Aside0.mk ((by rw [hg]; exact (below_size (by repeat (first | (with_reducible first | exact HB.out | apply below_alloc | apply pw_below_drewN | apply below_drew1 | refine below_set ?_ GE208.out) | exact HB.out))) : w.heap.size ≤ gb209)); have n4_ := Aside0.mk ((by rw [hg]; exact (below_size (by repeat (first | (with_reducible first | exact HB.out | apply below_alloc | apply pw_below_drewN | apply below_drew1 | refine below_set ?_ GE208.out) | exact HB.out))) : w.heap.size ≤ gb209)); have n5_ := Aside0.mk ((by rw [hg]; exact Nat.ne_of_lt (blk_lt (g := gb208) (o := .cells #[.int .i64 a0_0, .int .i64 a0_1, .slice A0_2 l0_2.length c0_2] 30 (0, 0)) (by (with_reducible repeat (first | refine blk_drewN ?_ _ | refine blk_drew ?_ | refine blk_alloc ?_ _)); exact BK208.out)) : gb208 ≠ gb209)); have n6_ := Aside0.mk ((by rw [hg]; exact Nat.ne_of_gt (blk_lt (g := gb208) (o := .cells #[.int .i64 a0_0, .int .i64 a0_1, .slice A0_2 l0_2.length c0_2] 30 (0, 0)) (by (with_reducible repeat (first | refine blk_drewN ?_ _ | refine blk_drew ?_ | refine blk_alloc ?_ _)); exact BK208.out)) : gb209 ≠ gb208)); clear BK208; clear HB; have BK208 := n0_; have HB := n1_; have BK209 := n2_; have GW209 := n3_; have GE209 := n4_; have NB208_209 := n5_; have NB209_208 := n6_; clear n0_ n1_ n2_ n3_ n4_ n5_ n6_; clear hb hbox hg; have hnb26 := NB208_209.out; have hnc26 := NB209_208.out; have hcz27_0 : w25.cell? ⟨gb208, 0, none⟩ = some (.int .i64 a0_0) := (blk_cell BK208.out 0).trans rfl; have hcz27_1 : w25.cell? ⟨gb208, 1, none⟩ = some (.int .i64 a0_1) := (blk_cell BK208.out 1).trans rfl; have hcz27_2 : w25.cell? ⟨gb208, 2, none⟩ = some (.slice A0_2 l0_2.length c0_2) := (blk_cell BK208.out 2).trans rfl; have hfz27_0 := blk_frozen BK208.out 0; have hfz27_1 := blk_frozen BK208.out 1; have hfz27_2 := blk_frozen BK208.out 2; have hcz28_0 : w25.cell? ⟨gb209, 0, none⟩ = some (.int .i64 a1_0) := (blk_cell BK209.out 0).trans rfl; have hcz28_1 : w25.cell? ⟨gb209, 1, none⟩ = some (.int .i64 a1_1) := (blk_cell BK209.out 1).trans rfl; have hcz28_2 : w25.cell? ⟨gb209, 2, none⟩ = some (.slice A1_2 l1_2.length c1_2) := (blk_cell BK209.out 2).trans rfl; have hfz28_0 := blk_frozen BK209.out 0; have hfz28_1 := blk_frozen BK209.out 1; have hfz28_2 := blk_frozen BK209.out 2))
    go_ret
    exact ⟨by first | rfl | (simp [IntKind.wrap_i64, wrap64]; done) | (simp [errW_none, errW_some] <;> rfl) | (simp [*, errW_none, errW_some] <;> rfl), by repeat (first | (with_reducible first | exact HB.out | apply below_alloc | apply pw_below_drewN | apply below_drew1 | refine below_set ?_ GE208.out | refine below_set ?_ GE209.out) | exact HB.out)⟩

/-! ### laws_markGrdCellS: function 21 -/
def laws_markGrdCellS.l0 : Nat → List (S48) → Int → Int → Option (Int × (List (S48)))
  | 0, _, _, _ => none
  | k + 1, x0, x1, x5 => if x5 < (x0.length : Int) then (if 0 ≤ x5 then ((some (x0.set (x5 : Int).toNat (⟨x1, (rd_T48 x0 x5).f1, (rd_T48 x0 x5).f2, (rd_T48 x0 x5).f3, (rd_T48 x0 x5).f4⟩ : S48) : List (S48))).bind fun y211 => ((some (y211.set (x5 : Int).toNat (⟨(rd_T48 y211 x5).f0, wrap64 (x1 + 1), (rd_T48 y211 x5).f2, (rd_T48 y211 x5).f3, (rd_T48 y211 x5).f4⟩ : S48) : List (S48))).bind fun y212 => ((some (y212.set (x5 : Int).toNat (⟨(rd_T48 y212 x5).f0, (rd_T48 y212 x5).f1, wrap64 ((wrap64 (x1 + 1)) + 1), (rd_T48 y212 x5).f3, (rd_T48 y212 x5).f4⟩ : S48) : List (S48))).bind fun y213 => ((some (y213.set (x5 : Int).toNat (⟨(rd_T48 y213 x5).f0, (rd_T48 y213 x5).f1, (rd_T48 y213 x5).f2, wrap64 ((wrap64 ((wrap64 (x1 + 1)) + 1)) + 1), (rd_T48 y213 x5).f4⟩ : S48) : List (S48))).bind fun y214 => (laws_markGrdCellS.l0 k (y214.set (x5 : Int).toNat (⟨(rd_T48 y214 x5).f0, (rd_T48 y214 x5).f1, (rd_T48 y214 x5).f2, (rd_T48 y214 x5).f3, wrap64 ((wrap64 ((wrap64 ((wrap64 (x1 + 1)) + 1)) + 1)) + 1)⟩ : S48)) (wrap64 ((wrap64 ((wrap64 ((wrap64 ((wrap64 (x1 + 1)) + 1)) + 1)) + 1)) + 1)) (wrap64 (x5 + 1))))))) else (none)) else (some (x1, x0))
def laws_markGrdCellS.f (k : Nat) (l0 : List (S48)) (a1 : Int) : Option (Int × (List (S48))) := laws_markGrdCellS.l0 k l0 a1 0
theorem laws_markGrdCellS.mono_l : ∀ k, (∀ y0 y1 y2, LeO (laws_markGrdCellS.l0 k y0 y1 y2) (laws_markGrdCellS.l0 (k + 1) y0 y1 y2))
  | 0 => fun _ _ _ r h => by simp [laws_markGrdCellS.l0] at h
  | k + 1 => by
    have ih0 := laws_markGrdCellS.mono_l k
    · intro y0 y1 y2
      unfold laws_markGrdCellS.l0
      repeat' first
      | (with_reducible exact ih0 _ _ _)
      | (with_reducible exact LeO.refl _)
      | (with_reducible exact LeO.none _)
      | (with_reducible refine LeO.ite ?_ ?_)
      | (with_reducible refine LeO.bind ?_ (fun _ => ?_))
      | exact ih0 _ _ _
      | exact LeO.none _
      | refine LeO.ite ?_ ?_
      | refine LeO.bind ?_ (fun _ => ?_)
theorem laws_markGrdCellS.mono : ∀ a0 a1 k, LeO (laws_markGrdCellS.f k a0 a1) (laws_markGrdCellS.f (k + 1) a0 a1) := by
  intro a0 a1 k
  have ih0 := laws_markGrdCellS.mono_l k
  unfold laws_markGrdCellS.f
  repeat' first
      | (with_reducible exact ih0 _ _ _)
      | (with_reducible exact LeO.refl _)
      | (with_reducible exact LeO.none _)
      | (with_reducible refine LeO.ite ?_ ?_)
      | (with_reducible refine LeO.bind ?_ (fun _ => ?_))
      | exact ih0 _ _ _
      | exact LeO.none _
      | refine LeO.ite ?_ ?_
      | refine LeO.bind ?_ (fun _ => ?_)
set_option maxHeartbeats 8000000 in
set_option maxRecDepth 100000 in
theorem laws_markGrdCellS.calls (k : Nat) (P0_ : Nat → Prop) (u9000_ : Value) (l0 : List (S48)) (a1 : Int) (r1 : Int) (r2 : List (S48)) (w0 w : World) (hB : Below w0.heap.size w0 w) (ho0 : Kd.R k48 48 w w0.heap.size P0_ u9000_ l0) (h : laws_markGrdCellS.f k l0 a1 = some (r1, r2)) :
    Calls Try.prog 21 #[u9000_, .int .i64 a1] w fun e w' => e = .returned (.int .i64 r1) ∧ Kd.R k48 48 w' w0.heap.size (fun k_ => (P0_ k_ ∨ w.heap.size ≤ k_)) u9000_ r2 ∧ Below w0.heap.size w0 w' ∧ Kept w w' (fun k_ => P0_ k_) := by
  have HO0 := Aside0.mk (show Kd.R k48 48 w w0.heap.size (fun k_ => (P0_ k_ ∨ w.heap.size ≤ k_)) u9000_ l0 from Kd.R_mono ho0 (fun k_ hk => (.inl hk)))
  have HK := Aside0.mk (Kept.refl w (fun k_ => P0_ k_))
  have HW0 := Aside0.mk hB.size
  have HB := Aside0.mk hB
  clear hB
  have H : (laws_markGrdCellS.l0 k l0 a1 0) = some (r1, r2) := h
  clear h
  have H' := Aside0.mk H
  clear H
  go_enter Try.func21, Try.ntmps21
  go_wp2
  go_loopg [1, 5] k (fun kq v1 v5 w' => ∃ (x0_1 : List (S48)) (x1_1 : Int) (x5_1 : Int), v1 = .int .i64 x1_1 ∧ v5 = .int .i64 x5_1 ∧ Aside0 (laws_markGrdCellS.l0 kq x0_1 x1_1 x5_1 = some (r1, r2)) ∧ Aside0 (kq ≤ k) ∧ Aside0 (Kd.R k48 48 w' w0.heap.size (fun k_ => (P0_ k_ ∨ w.heap.size ≤ k_)) u9000_ x0_1) ∧ Aside0 (Kept w w' (fun k_ => P0_ k_)) ∧ Aside0 (Below w0.heap.size w0 w'))
  case atStart => exact ⟨(l0), (a1), (0), (by first | rfl | (simp; done) | (simp [*]; done)), (by first | rfl | (simp; done) | (simp [*]; done)), H', ⟨Nat.le_refl _⟩, ⟨by (with_reducible repeat (first | apply Kd.R_alloc | apply Kd.R_drewN | apply Kd.R_drew)); exact HO0.out⟩, ⟨by repeat (first | (with_reducible first | exact HK.out | apply Kept.alloc | apply Kept.drewN | apply Kept.drew) | exact HK.out)⟩, ⟨by repeat (first | (with_reducible first | exact HB.out | apply below_alloc | apply pw_below_drewN | apply below_drew1) | exact HB.out)⟩⟩
  case round =>
    clear H'
    try clear c2
    try clear p2
    obtain ⟨x0_1, x1_1, x5_1, rfl, rfl, HA, HK1, HO_0, HK, HB⟩ := hrel
    cases gk with
    | zero => exact absurd HA.out (by simp [laws_markGrdCellS.l0])
    | succ k1 =>
      have H := HA.out
      clear HA
      simp only [laws_markGrdCellS.l0] at H
      by_cases c3 : x5_1 < (x0_1.length : Int)
      · rw [if_pos c3] at H
        have c3b0 : decide (x5_1 < (x0_1.length : Int)) = true := decide_eq_true c3
        clear c3
        by_cases c4 : 0 ≤ x5_1
        · rw [if_pos c4] at H
          have c4b0 : decide (0 ≤ x5_1) = true := decide_eq_true c4
          clear c4
          obtain ⟨y211, hy211⟩ : ∃ y_ : List (S48), y_ = (x0_1.set (x5_1 : Int).toNat (⟨x1_1, (rd_T48 x0_1 x5_1).f1, (rd_T48 x0_1 x5_1).f2, (rd_T48 x0_1 x5_1).f3, (rd_T48 x0_1 x5_1).f4⟩ : S48)) := ⟨_, rfl⟩
          replace H : ((some (y211.set (x5_1 : Int).toNat (⟨(rd_T48 y211 x5_1).f0, wrap64 (x1_1 + 1), (rd_T48 y211 x5_1).f2, (rd_T48 y211 x5_1).f3, (rd_T48 y211 x5_1).f4⟩ : S48) : List (S48))).bind fun y212 => ((some (y212.set (x5_1 : Int).toNat (⟨(rd_T48 y212 x5_1).f0, (rd_T48 y212 x5_1).f1, wrap64 ((wrap64 (x1_1 + 1)) + 1), (rd_T48 y212 x5_1).f3, (rd_T48 y212 x5_1).f4⟩ : S48) : List (S48))).bind fun y213 => ((some (y213.set (x5_1 : Int).toNat (⟨(rd_T48 y213 x5_1).f0, (rd_T48 y213 x5_1).f1, (rd_T48 y213 x5_1).f2, wrap64 ((wrap64 ((wrap64 (x1_1 + 1)) + 1)) + 1), (rd_T48 y213 x5_1).f4⟩ : S48) : List (S48))).bind fun y214 => (laws_markGrdCellS.l0 k1 (y214.set (x5_1 : Int).toNat (⟨(rd_T48 y214 x5_1).f0, (rd_T48 y214 x5_1).f1, (rd_T48 y214 x5_1).f2, (rd_T48 y214 x5_1).f3, wrap64 ((wrap64 ((wrap64 ((wrap64 (x1_1 + 1)) + 1)) + 1)) + 1)⟩ : S48)) (wrap64 ((wrap64 ((wrap64 ((wrap64 ((wrap64 (x1_1 + 1)) + 1)) + 1)) + 1)) + 1)) (wrap64 (x5_1 + 1)))))) = some (r1, r2) := by first | (rw [hy211]; with_reducible exact H) | (have H2_ := (Option.bind_some _ _).symm.trans H; rw [hy211]; with_reducible exact H2_) | (have H2_ := (Option.bind_some _ _).symm.trans H; with_reducible exact H2_) | with_reducible exact H | (rw [hy211]; exact H) | exact H
          have Ny211 := Aside0.mk hy211
          clear hy211
          obtain ⟨y212, hy212⟩ : ∃ y_ : List (S48), y_ = (y211.set (x5_1 : Int).toNat (⟨(rd_T48 y211 x5_1).f0, wrap64 (x1_1 + 1), (rd_T48 y211 x5_1).f2, (rd_T48 y211 x5_1).f3, (rd_T48 y211 x5_1).f4⟩ : S48)) := ⟨_, rfl⟩
          replace H : ((some (y212.set (x5_1 : Int).toNat (⟨(rd_T48 y212 x5_1).f0, (rd_T48 y212 x5_1).f1, wrap64 ((wrap64 (x1_1 + 1)) + 1), (rd_T48 y212 x5_1).f3, (rd_T48 y212 x5_1).f4⟩ : S48) : List (S48))).bind fun y213 => ((some (y213.set (x5_1 : Int).toNat (⟨(rd_T48 y213 x5_1).f0, (rd_T48 y213 x5_1).f1, (rd_T48 y213 x5_1).f2, wrap64 ((wrap64 ((wrap64 (x1_1 + 1)) + 1)) + 1), (rd_T48 y213 x5_1).f4⟩ : S48) : List (S48))).bind fun y214 => (laws_markGrdCellS.l0 k1 (y214.set (x5_1 : Int).toNat (⟨(rd_T48 y214 x5_1).f0, (rd_T48 y214 x5_1).f1, (rd_T48 y214 x5_1).f2, (rd_T48 y214 x5_1).f3, wrap64 ((wrap64 ((wrap64 ((wrap64 (x1_1 + 1)) + 1)) + 1)) + 1)⟩ : S48)) (wrap64 ((wrap64 ((wrap64 ((wrap64 ((wrap64 (x1_1 + 1)) + 1)) + 1)) + 1)) + 1)) (wrap64 (x5_1 + 1))))) = some (r1, r2) := by first | (rw [hy212]; with_reducible exact H) | (have H2_ := (Option.bind_some _ _).symm.trans H; rw [hy212]; with_reducible exact H2_) | (have H2_ := (Option.bind_some _ _).symm.trans H; with_reducible exact H2_) | with_reducible exact H | (rw [hy212]; exact H) | exact H
          have Ny212 := Aside0.mk hy212
          clear hy212
          obtain ⟨y213, hy213⟩ : ∃ y_ : List (S48), y_ = (y212.set (x5_1 : Int).toNat (⟨(rd_T48 y212 x5_1).f0, (rd_T48 y212 x5_1).f1, wrap64 ((wrap64 (x1_1 + 1)) + 1), (rd_T48 y212 x5_1).f3, (rd_T48 y212 x5_1).f4⟩ : S48)) := ⟨_, rfl⟩
          replace H : ((some (y213.set (x5_1 : Int).toNat (⟨(rd_T48 y213 x5_1).f0, (rd_T48 y213 x5_1).f1, (rd_T48 y213 x5_1).f2, wrap64 ((wrap64 ((wrap64 (x1_1 + 1)) + 1)) + 1), (rd_T48 y213 x5_1).f4⟩ : S48) : List (S48))).bind fun y214 => (laws_markGrdCellS.l0 k1 (y214.set (x5_1 : Int).toNat (⟨(rd_T48 y214 x5_1).f0, (rd_T48 y214 x5_1).f1, (rd_T48 y214 x5_1).f2, (rd_T48 y214 x5_1).f3, wrap64 ((wrap64 ((wrap64 ((wrap64 (x1_1 + 1)) + 1)) + 1)) + 1)⟩ : S48)) (wrap64 ((wrap64 ((wrap64 ((wrap64 ((wrap64 (x1_1 + 1)) + 1)) + 1)) + 1)) + 1)) (wrap64 (x5_1 + 1)))) = some (r1, r2) := by first | (rw [hy213]; with_reducible exact H) | (have H2_ := (Option.bind_some _ _).symm.trans H; rw [hy213]; with_reducible exact H2_) | (have H2_ := (Option.bind_some _ _).symm.trans H; with_reducible exact H2_) | with_reducible exact H | (rw [hy213]; exact H) | exact H
          have Ny213 := Aside0.mk hy213
          clear hy213
          obtain ⟨y214, hy214⟩ : ∃ y_ : List (S48), y_ = (y213.set (x5_1 : Int).toNat (⟨(rd_T48 y213 x5_1).f0, (rd_T48 y213 x5_1).f1, (rd_T48 y213 x5_1).f2, wrap64 ((wrap64 ((wrap64 (x1_1 + 1)) + 1)) + 1), (rd_T48 y213 x5_1).f4⟩ : S48)) := ⟨_, rfl⟩
          replace H : (laws_markGrdCellS.l0 k1 (y214.set (x5_1 : Int).toNat (⟨(rd_T48 y214 x5_1).f0, (rd_T48 y214 x5_1).f1, (rd_T48 y214 x5_1).f2, (rd_T48 y214 x5_1).f3, wrap64 ((wrap64 ((wrap64 ((wrap64 (x1_1 + 1)) + 1)) + 1)) + 1)⟩ : S48)) (wrap64 ((wrap64 ((wrap64 ((wrap64 ((wrap64 (x1_1 + 1)) + 1)) + 1)) + 1)) + 1)) (wrap64 (x5_1 + 1))) = some (r1, r2) := by first | (rw [hy214]; with_reducible exact H) | (have H2_ := (Option.bind_some _ _).symm.trans H; rw [hy214]; with_reducible exact H2_) | (have H2_ := (Option.bind_some _ _).symm.trans H; with_reducible exact H2_) | with_reducible exact H | (rw [hy214]; exact H) | exact H
          have Ny214 := Aside0.mk hy214
          clear hy214
          obtain ⟨y215, hy215⟩ : ∃ y_ : List (S48), y_ = (y214.set (x5_1 : Int).toNat (⟨(rd_T48 y214 x5_1).f0, (rd_T48 y214 x5_1).f1, (rd_T48 y214 x5_1).f2, (rd_T48 y214 x5_1).f3, wrap64 ((wrap64 ((wrap64 ((wrap64 (x1_1 + 1)) + 1)) + 1)) + 1)⟩ : S48)) := ⟨_, rfl⟩
          replace H : (laws_markGrdCellS.l0 k1 y215 (wrap64 ((wrap64 ((wrap64 ((wrap64 ((wrap64 (x1_1 + 1)) + 1)) + 1)) + 1)) + 1)) (wrap64 (x5_1 + 1))) = some (r1, r2) := by first | (rw [hy215]; with_reducible exact H) | (have H2_ := (Option.bind_some _ _).symm.trans H; rw [hy215]; with_reducible exact H2_) | (have H2_ := (Option.bind_some _ _).symm.trans H; with_reducible exact H2_) | with_reducible exact H | (rw [hy215]; exact H) | exact H
          have Ny215 := Aside0.mk hy215
          clear hy215
          have H' := Aside0.mk H
          clear H
          obtain ⟨Ao10, co10, eo10⟩ := Kd.R_slice HO_0.out
          subst eo10
          have p5 : 0 ≤ (x5_1 : Int) := of_decide_eq_true (by first | (with_reducible assumption) | assumption)
          have q5 : (x5_1 : Int) < ((x0_1.length : Int) : Int) := of_decide_eq_true (by first | (with_reducible assumption) | assumption)
          obtain ⟨go5, co5, eo5, gb5, gl5, cl5, HG5⟩ := Kd.R_form HO_0.out (by omega)
          (first | cases eo5 | (injection eo5 with ea_ en_ ec_; (first | subst ea_ | (injection ea_ with ea_; subst ea_)); subst ec_; clear en_))
          have GB5 := Aside0.mk gb5
          have GG5 := Aside0.mk HG5
          clear gb5 gl5 HG5
          have HMgo5 := Aside0.mk (show (P0_ go5 ∨ w.heap.size ≤ go5) from (HO_0.out.1 _ rfl))
          obtain ⟨ce5, hcl5, hM5, hcc5, hfr5⟩ := Kd.R_elem HO_0.out z48 (x5_1 : Int) p5 q5
          obtain rfl := k48_openM hM5
          have hx5_0 : wr.cell? ⟨go5, (x5_1 : Int).toNat * 5, none⟩ = some (.int .i64 ((rd_T48 x0_1 x5_1).f0)) := hcc5 0 _ rfl
          have hx5_1 : wr.cell? ⟨go5, (x5_1 : Int).toNat * 5 + 1, none⟩ = some (.int .i64 ((rd_T48 x0_1 x5_1).f1)) := hcc5 1 _ rfl
          have hx5_2 : wr.cell? ⟨go5, (x5_1 : Int).toNat * 5 + 2, none⟩ = some (.int .i64 ((rd_T48 x0_1 x5_1).f2)) := hcc5 2 _ rfl
          have hx5_3 : wr.cell? ⟨go5, (x5_1 : Int).toNat * 5 + 3, none⟩ = some (.int .i64 ((rd_T48 x0_1 x5_1).f3)) := hcc5 3 _ rfl
          have hx5_4 : wr.cell? ⟨go5, (x5_1 : Int).toNat * 5 + 4, none⟩ = some (.int .i64 ((rd_T48 x0_1 x5_1).f4)) := hcc5 4 _ rfl
          have hf5_0 : wr.frozen? ⟨go5, (x5_1 : Int).toNat * 5, none⟩ = false := hfr5 0
          have hf5_1 : wr.frozen? ⟨go5, (x5_1 : Int).toNat * 5 + 1, none⟩ = false := hfr5 1
          have hf5_2 : wr.frozen? ⟨go5, (x5_1 : Int).toNat * 5 + 2, none⟩ = false := hfr5 2
          have hf5_3 : wr.frozen? ⟨go5, (x5_1 : Int).toNat * 5 + 3, none⟩ = false := hfr5 3
          have hf5_4 : wr.frozen? ⟨go5, (x5_1 : Int).toNat * 5 + 4, none⟩ = false := hfr5 4
          clear hcl5 hcc5 hfr5
          replace p5 := eq_true p5
          replace q5 := eq_true q5
          have HX11 := Aside0.mk (show Kd.R k48 48 wr w0.heap.size (fun k_ => (P0_ k_ ∨ w.heap.size ≤ k_)) (.slice (some ⟨go5, 0, none⟩) x0_1.length co10) x0_1 from (by (with_reducible repeat (first | apply Kd.R_alloc | apply Kd.R_drewN | apply Kd.R_drew)); exact HO_0.out))
          obtain ⟨ce11, hcl11, hM11, hcc11, hfr11⟩ := Kd.R_elem HX11.out z48 (x5_1 : Int) (of_decide_eq_true (by first | (with_reducible assumption) | assumption)) (by have h_ : (x5_1 : Int) < ((x0_1.length : Int) : Int) := of_decide_eq_true (by first | (with_reducible assumption) | assumption); first | exact h_ | (have e_ := (Kd.R_reads' HO_0.out).1; omega) | simpa using h_)
          obtain rfl := k48_openM hM11
          have HP11 := Kd.R_seg HX11.out (x5_1 : Int) (of_decide_eq_true (by first | (with_reducible assumption) | assumption)) (by have h_ : (x5_1 : Int) < ((x0_1.length : Int) : Int) := of_decide_eq_true (by first | (with_reducible assumption) | assumption); first | exact h_ | (have e_ := (Kd.R_reads' HO_0.out).1; omega) | simpa using h_) (seg := [.int .i64 x1_1]) (j := 0) hcl11 hcc11 (show 1 ≤ 5 from by decide) (x' := (⟨x1_1, (rd_T48 x0_1 x5_1).f1, (rd_T48 x0_1 x5_1).f2, (rd_T48 x0_1 x5_1).f3, (rd_T48 x0_1 x5_1).f4⟩ : S48)) (k48_mkM _ _ _ (⟨x1_1, (rd_T48 x0_1 x5_1).f1, (rd_T48 x0_1 x5_1).f2, (rd_T48 x0_1 x5_1).f3, (rd_T48 x0_1 x5_1).f4⟩ : S48) ) (fun _ hk => hk)
          have hx11_0 := hcc11 0 _ rfl
          (try simp only [show (k48).sz = 5 from rfl, Nat.mul_one, Nat.add_zero] at hx11_0)
          have hf11_0 := hfr11 0
          (try simp only [show (k48).sz = 5 from rfl, Nat.mul_one, Nat.add_zero] at hf11_0)
          clear hcl11 hcc11 hfr11
          go_wp2_with (first | ((with_reducible refine gate_store (t := 3) (p := 16) rfl ?_); refine store_event (t := 3) (p := 16) (v := ?vo_w12) (w1 := (wr.setCell ⟨go5, (x5_1 : Int).toNat * 5, none⟩ (.int .i64 x1_1))) ?hg ?ho ?hn ?hr ?_; (case ho => rfl); (case hg => rfl); (case hn => rfl); (case hr => first | (go_simp; done) | (go_simp; rfl)); intro w12 hw; have hg : wr.grownBy w12 (some go5) := (by rw [hw]; exact HP11.2); have hp_ : Kd.R k48 48 w12 w0.heap.size (fun k_ => (P0_ k_ ∨ w.heap.size ≤ k_)) (.slice (some ⟨go5, 0, none⟩) x0_1.length co10) y211 := (by rw [hw, Ny211.out]; exact HP11.1); clear HP11; have n0_ := Aside0.mk (hp_); have n1_ := Aside0.mk ((by rw [hw]; exact below_set (HB.out) GB5.out : Below w0.heap.size w0 w12)); have n2_ := Aside0.mk (Kept.of_grown (S := (fun k_ => P0_ k_)) hg (by repeat (first | (with_reducible first | exact HK.out | apply Kept.alloc | apply Kept.drewN | apply Kept.drew) | exact HK.out)) (fun k_ e_ => (HO_0.out.1 k_ e_))); clear HO_0; clear HB; clear HK; have HO_0 := n0_; have HB := n1_; have HK := n2_; clear n0_ n1_ n2_; clear hg hw hp_; have p6 : 0 ≤ (x5_1 : Int) := of_decide_eq_true (by first | (with_reducible assumption) | assumption); have q6 : (x5_1 : Int) < ((x0_1.length : Int) : Int) := of_decide_eq_true (by first | (with_reducible assumption) | assumption); obtain ⟨ce6, hcl6, hM6, hcc6, hfr6⟩ := Kd.R_elem HO_0.out z48 (x5_1 : Int) p6 q6; obtain rfl := k48_openM hM6; have hx6_0 : w12.cell? ⟨go5, (x5_1 : Int).toNat * 5, none⟩ = some (.int .i64 ((rd_T48 y211 x5_1).f0)) := hcc6 0 _ rfl; have hx6_1 : w12.cell? ⟨go5, (x5_1 : Int).toNat * 5 + 1, none⟩ = some (.int .i64 ((rd_T48 y211 x5_1).f1)) := hcc6 1 _ rfl; have hx6_2 : w12.cell? ⟨go5, (x5_1 : Int).toNat * 5 + 2, none⟩ = some (.int .i64 ((rd_T48 y211 x5_1).f2)) := hcc6 2 _ rfl; have hx6_3 : w12.cell? ⟨go5, (x5_1 : Int).toNat * 5 + 3, none⟩ = some (.int .i64 ((rd_T48 y211 x5_1).f3)) := hcc6 3 _ rfl; have hx6_4 : w12.cell? ⟨go5, (x5_1 : Int).toNat * 5 + 4, none⟩ = some (.int .i64 ((rd_T48 y211 x5_1).f4)) := hcc6 4 _ rfl; have hf6_0 : w12.frozen? ⟨go5, (x5_1 : Int).toNat * 5, none⟩ = false := hfr6 0; have hf6_1 : w12.frozen? ⟨go5, (x5_1 : Int).toNat * 5 + 1, none⟩ = false := hfr6 1; have hf6_2 : w12.frozen? ⟨go5, (x5_1 : Int).toNat * 5 + 2, none⟩ = false := hfr6 2; have hf6_3 : w12.frozen? ⟨go5, (x5_1 : Int).toNat * 5 + 3, none⟩ = false := hfr6 3; have hf6_4 : w12.frozen? ⟨go5, (x5_1 : Int).toNat * 5 + 4, none⟩ = false := hfr6 4; clear hcl6 hcc6 hfr6; replace p6 := eq_true p6; replace q6 := eq_true q6; have HX13 := Aside0.mk (show Kd.R k48 48 w12 w0.heap.size (fun k_ => (P0_ k_ ∨ w.heap.size ≤ k_)) (.slice (some ⟨go5, 0, none⟩) x0_1.length co10) y211 from (by (with_reducible repeat (first | apply Kd.R_alloc | apply Kd.R_drewN | apply Kd.R_drew)); exact HO_0.out)); obtain ⟨ce13, hcl13, hM13, hcc13, hfr13⟩ := Kd.R_elem HX13.out z48 (x5_1 : Int) (of_decide_eq_true (by first | (with_reducible assumption) | assumption)) (by have h_ : (x5_1 : Int) < ((x0_1.length : Int) : Int) := of_decide_eq_true (by first | (with_reducible assumption) | assumption); first | exact h_ | (have e_ := (Kd.R_reads' HO_0.out).1; omega) | simpa using h_); obtain rfl := k48_openM hM13; have HP13 := Kd.R_seg HX13.out (x5_1 : Int) (of_decide_eq_true (by first | (with_reducible assumption) | assumption)) (by have h_ : (x5_1 : Int) < ((x0_1.length : Int) : Int) := of_decide_eq_true (by first | (with_reducible assumption) | assumption); first | exact h_ | (have e_ := (Kd.R_reads' HO_0.out).1; omega) | simpa using h_) (seg := [.int .i64 (wrap64 (x1_1 + 1))]) (j := 1) hcl13 hcc13 (show 2 ≤ 5 from by decide) (x' := (⟨(rd_T48 y211 x5_1).f0, wrap64 (x1_1 + 1), (rd_T48 y211 x5_1).f2, (rd_T48 y211 x5_1).f3, (rd_T48 y211 x5_1).f4⟩ : S48)) (k48_mkM _ _ _ (⟨(rd_T48 y211 x5_1).f0, wrap64 (x1_1 + 1), (rd_T48 y211 x5_1).f2, (rd_T48 y211 x5_1).f3, (rd_T48 y211 x5_1).f4⟩ : S48) ) (fun _ hk => hk); have hx13_1 := hcc13 1 _ rfl; (try simp only [show (k48).sz = 5 from rfl, Nat.mul_one, Nat.add_zero] at hx13_1); have hf13_1 := hfr13 1; (try simp only [show (k48).sz = 5 from rfl, Nat.mul_one, Nat.add_zero] at hf13_1); clear hcl13 hcc13 hfr13) | ((with_reducible refine gate_store (t := 3) (p := 23) rfl ?_); refine store_event (t := 3) (p := 23) (v := ?vo_w14) (w1 := (w12.setCell ⟨go5, (x5_1 : Int).toNat * 5 + 1, none⟩ (.int .i64 (wrap64 (x1_1 + 1))))) ?hg ?ho ?hn ?hr ?_; (case ho => rfl); (case hg => rfl); (case hn => rfl); (case hr => first | (go_simp; done) | (go_simp; rfl)); intro w14 hw; have hg : w12.grownBy w14 (some go5) := (by rw [hw]; exact HP13.2); have hp_ : Kd.R k48 48 w14 w0.heap.size (fun k_ => (P0_ k_ ∨ w.heap.size ≤ k_)) (.slice (some ⟨go5, 0, none⟩) x0_1.length co10) y212 := (by rw [hw, Ny212.out]; exact HP13.1); clear HP13; have n0_ := Aside0.mk (hp_); have n1_ := Aside0.mk ((by rw [hw]; exact below_set (HB.out) GB5.out : Below w0.heap.size w0 w14)); have n2_ := Aside0.mk (Kept.of_grown (S := (fun k_ => P0_ k_)) hg (by repeat (first | (with_reducible first | exact HK.out | apply Kept.alloc | apply Kept.drewN | apply Kept.drew) | exact HK.out)) (fun k_ e_ => (HO_0.out.1 k_ e_))); clear HO_0; clear HB; clear HK; have HO_0 := n0_; have HB := n1_; have HK := n2_; clear n0_ n1_ n2_; clear hg hw hp_; have p7 : 0 ≤ (x5_1 : Int) := of_decide_eq_true (by first | (with_reducible assumption) | assumption); have q7 : (x5_1 : Int) < ((x0_1.length : Int) : Int) := of_decide_eq_true (by first | (with_reducible assumption) | assumption); obtain ⟨ce7, hcl7, hM7, hcc7, hfr7⟩ := Kd.R_elem HO_0.out z48 (x5_1 : Int) p7 q7; obtain rfl := k48_openM hM7; have hx7_0 : w14.cell? ⟨go5, (x5_1 : Int).toNat * 5, none⟩ = some (.int .i64 ((rd_T48 y212 x5_1).f0)) := hcc7 0 _ rfl; have hx7_1 : w14.cell? ⟨go5, (x5_1 : Int).toNat * 5 + 1, none⟩ = some (.int .i64 ((rd_T48 y212 x5_1).f1)) := hcc7 1 _ rfl; have hx7_2 : w14.cell? ⟨go5, (x5_1 : Int).toNat * 5 + 2, none⟩ = some (.int .i64 ((rd_T48 y212 x5_1).f2)) := hcc7 2 _ rfl; have hx7_3 : w14.cell? ⟨go5, (x5_1 : Int).toNat * 5 + 3, none⟩ = some (.int .i64 ((rd_T48 y212 x5_1).f3)) := hcc7 3 _ rfl; have hx7_4 : w14.cell? ⟨go5, (x5_1 : Int).toNat * 5 + 4, none⟩ = some (.int .i64 ((rd_T48 y212 x5_1).f4)) := hcc7 4 _ rfl; have hf7_0 : w14.frozen? ⟨go5, (x5_1 : Int).toNat * 5, none⟩ = false := hfr7 0; have hf7_1 : w14.frozen? ⟨go5, (x5_1 : Int).toNat * 5 + 1, none⟩ = false := hfr7 1; have hf7_2 : w14.frozen? ⟨go5, (x5_1 : Int).toNat * 5 + 2, none⟩ = false := hfr7 2; have hf7_3 : w14.frozen? ⟨go5, (x5_1 : Int).toNat * 5 + 3, none⟩ = false := hfr7 3; have hf7_4 : w14.frozen? ⟨go5, (x5_1 : Int).toNat * 5 + 4, none⟩ = false := hfr7 4; clear hcl7 hcc7 hfr7; replace p7 := eq_true p7; replace q7 := eq_true q7; have HX15 := Aside0.mk (show Kd.R k48 48 w14 w0.heap.size (fun k_ => (P0_ k_ ∨ w.heap.size ≤ k_)) (.slice (some ⟨go5, 0, none⟩) x0_1.length co10) y212 from (by (with_reducible repeat (first | apply Kd.R_alloc | apply Kd.R_drewN | apply Kd.R_drew)); exact HO_0.out)); obtain ⟨ce15, hcl15, hM15, hcc15, hfr15⟩ := Kd.R_elem HX15.out z48 (x5_1 : Int) (of_decide_eq_true (by first | (with_reducible assumption) | assumption)) (by have h_ : (x5_1 : Int) < ((x0_1.length : Int) : Int) := of_decide_eq_true (by first | (with_reducible assumption) | assumption); first | exact h_ | (have e_ := (Kd.R_reads' HO_0.out).1; omega) | simpa using h_); obtain rfl := k48_openM hM15; have HP15 := Kd.R_seg HX15.out (x5_1 : Int) (of_decide_eq_true (by first | (with_reducible assumption) | assumption)) (by have h_ : (x5_1 : Int) < ((x0_1.length : Int) : Int) := of_decide_eq_true (by first | (with_reducible assumption) | assumption); first | exact h_ | (have e_ := (Kd.R_reads' HO_0.out).1; omega) | simpa using h_) (seg := [.int .i64 (wrap64 ((wrap64 (x1_1 + 1)) + 1))]) (j := 2) hcl15 hcc15 (show 3 ≤ 5 from by decide) (x' := (⟨(rd_T48 y212 x5_1).f0, (rd_T48 y212 x5_1).f1, wrap64 ((wrap64 (x1_1 + 1)) + 1), (rd_T48 y212 x5_1).f3, (rd_T48 y212 x5_1).f4⟩ : S48)) (k48_mkM _ _ _ (⟨(rd_T48 y212 x5_1).f0, (rd_T48 y212 x5_1).f1, wrap64 ((wrap64 (x1_1 + 1)) + 1), (rd_T48 y212 x5_1).f3, (rd_T48 y212 x5_1).f4⟩ : S48) ) (fun _ hk => hk); have hx15_2 := hcc15 2 _ rfl; (try simp only [show (k48).sz = 5 from rfl, Nat.mul_one, Nat.add_zero] at hx15_2); have hf15_2 := hfr15 2; (try simp only [show (k48).sz = 5 from rfl, Nat.mul_one, Nat.add_zero] at hf15_2); clear hcl15 hcc15 hfr15) | ((with_reducible refine gate_store (t := 3) (p := 30) rfl ?_); refine store_event (t := 3) (p := 30) (v := ?vo_w16) (w1 := (w14.setCell ⟨go5, (x5_1 : Int).toNat * 5 + 2, none⟩ (.int .i64 (wrap64 ((wrap64 (x1_1 + 1)) + 1))))) ?hg ?ho ?hn ?hr ?_; (case ho => rfl); (case hg => rfl); (case hn => rfl); (case hr => first | (go_simp; done) | (go_simp; rfl)); intro w16 hw; have hg : w14.grownBy w16 (some go5) := (by rw [hw]; exact HP15.2); have hp_ : Kd.R k48 48 w16 w0.heap.size (fun k_ => (P0_ k_ ∨ w.heap.size ≤ k_)) (.slice (some ⟨go5, 0, none⟩) x0_1.length co10) y213 := (by rw [hw, Ny213.out]; exact HP15.1); clear HP15; have n0_ := Aside0.mk (hp_); have n1_ := Aside0.mk ((by rw [hw]; exact below_set (HB.out) GB5.out : Below w0.heap.size w0 w16)); have n2_ := Aside0.mk (Kept.of_grown (S := (fun k_ => P0_ k_)) hg (by repeat (first | (with_reducible first | exact HK.out | apply Kept.alloc | apply Kept.drewN | apply Kept.drew) | exact HK.out)) (fun k_ e_ => (HO_0.out.1 k_ e_))); clear HO_0; clear HB; clear HK; have HO_0 := n0_; have HB := n1_; have HK := n2_; clear n0_ n1_ n2_; clear hg hw hp_; have p8 : 0 ≤ (x5_1 : Int) := of_decide_eq_true (by first | (with_reducible assumption) | assumption); have q8 : (x5_1 : Int) < ((x0_1.length : Int) : Int) := of_decide_eq_true (by first | (with_reducible assumption) | assumption); obtain ⟨ce8, hcl8, hM8, hcc8, hfr8⟩ := Kd.R_elem HO_0.out z48 (x5_1 : Int) p8 q8; obtain rfl := k48_openM hM8; have hx8_0 : w16.cell? ⟨go5, (x5_1 : Int).toNat * 5, none⟩ = some (.int .i64 ((rd_T48 y213 x5_1).f0)) := hcc8 0 _ rfl; have hx8_1 : w16.cell? ⟨go5, (x5_1 : Int).toNat * 5 + 1, none⟩ = some (.int .i64 ((rd_T48 y213 x5_1).f1)) := hcc8 1 _ rfl; have hx8_2 : w16.cell? ⟨go5, (x5_1 : Int).toNat * 5 + 2, none⟩ = some (.int .i64 ((rd_T48 y213 x5_1).f2)) := hcc8 2 _ rfl; have hx8_3 : w16.cell? ⟨go5, (x5_1 : Int).toNat * 5 + 3, none⟩ = some (.int .i64 ((rd_T48 y213 x5_1).f3)) := hcc8 3 _ rfl; have hx8_4 : w16.cell? ⟨go5, (x5_1 : Int).toNat * 5 + 4, none⟩ = some (.int .i64 ((rd_T48 y213 x5_1).f4)) := hcc8 4 _ rfl; have hf8_0 : w16.frozen? ⟨go5, (x5_1 : Int).toNat * 5, none⟩ = false := hfr8 0; have hf8_1 : w16.frozen? ⟨go5, (x5_1 : Int).toNat * 5 + 1, none⟩ = false := hfr8 1; have hf8_2 : w16.frozen? ⟨go5, (x5_1 : Int).toNat * 5 + 2, none⟩ = false := hfr8 2; have hf8_3 : w16.frozen? ⟨go5, (x5_1 : Int).toNat * 5 + 3, none⟩ = false := hfr8 3; have hf8_4 : w16.frozen? ⟨go5, (x5_1 : Int).toNat * 5 + 4, none⟩ = false := hfr8 4; clear hcl8 hcc8 hfr8; replace p8 := eq_true p8; replace q8 := eq_true q8; have HX17 := Aside0.mk (show Kd.R k48 48 w16 w0.heap.size (fun k_ => (P0_ k_ ∨ w.heap.size ≤ k_)) (.slice (some ⟨go5, 0, none⟩) x0_1.length co10) y213 from (by (with_reducible repeat (first | apply Kd.R_alloc | apply Kd.R_drewN | apply Kd.R_drew)); exact HO_0.out)); obtain ⟨ce17, hcl17, hM17, hcc17, hfr17⟩ := Kd.R_elem HX17.out z48 (x5_1 : Int) (of_decide_eq_true (by first | (with_reducible assumption) | assumption)) (by have h_ : (x5_1 : Int) < ((x0_1.length : Int) : Int) := of_decide_eq_true (by first | (with_reducible assumption) | assumption); first | exact h_ | (have e_ := (Kd.R_reads' HO_0.out).1; omega) | simpa using h_); obtain rfl := k48_openM hM17; have HP17 := Kd.R_seg HX17.out (x5_1 : Int) (of_decide_eq_true (by first | (with_reducible assumption) | assumption)) (by have h_ : (x5_1 : Int) < ((x0_1.length : Int) : Int) := of_decide_eq_true (by first | (with_reducible assumption) | assumption); first | exact h_ | (have e_ := (Kd.R_reads' HO_0.out).1; omega) | simpa using h_) (seg := [.int .i64 (wrap64 ((wrap64 ((wrap64 (x1_1 + 1)) + 1)) + 1))]) (j := 3) hcl17 hcc17 (show 4 ≤ 5 from by decide) (x' := (⟨(rd_T48 y213 x5_1).f0, (rd_T48 y213 x5_1).f1, (rd_T48 y213 x5_1).f2, wrap64 ((wrap64 ((wrap64 (x1_1 + 1)) + 1)) + 1), (rd_T48 y213 x5_1).f4⟩ : S48)) (k48_mkM _ _ _ (⟨(rd_T48 y213 x5_1).f0, (rd_T48 y213 x5_1).f1, (rd_T48 y213 x5_1).f2, wrap64 ((wrap64 ((wrap64 (x1_1 + 1)) + 1)) + 1), (rd_T48 y213 x5_1).f4⟩ : S48) ) (fun _ hk => hk); have hx17_3 := hcc17 3 _ rfl; (try simp only [show (k48).sz = 5 from rfl, Nat.mul_one, Nat.add_zero] at hx17_3); have hf17_3 := hfr17 3; (try simp only [show (k48).sz = 5 from rfl, Nat.mul_one, Nat.add_zero] at hf17_3); clear hcl17 hcc17 hfr17) | ((with_reducible refine gate_store (t := 3) (p := 37) rfl ?_); refine store_event (t := 3) (p := 37) (v := ?vo_w18) (w1 := (w16.setCell ⟨go5, (x5_1 : Int).toNat * 5 + 3, none⟩ (.int .i64 (wrap64 ((wrap64 ((wrap64 (x1_1 + 1)) + 1)) + 1))))) ?hg ?ho ?hn ?hr ?_; (case ho => rfl); (case hg => rfl); (case hn => rfl); (case hr => first | (go_simp; done) | (go_simp; rfl)); intro w18 hw; have hg : w16.grownBy w18 (some go5) := (by rw [hw]; exact HP17.2); have hp_ : Kd.R k48 48 w18 w0.heap.size (fun k_ => (P0_ k_ ∨ w.heap.size ≤ k_)) (.slice (some ⟨go5, 0, none⟩) x0_1.length co10) y214 := (by rw [hw, Ny214.out]; exact HP17.1); clear HP17; have n0_ := Aside0.mk (hp_); have n1_ := Aside0.mk ((by rw [hw]; exact below_set (HB.out) GB5.out : Below w0.heap.size w0 w18)); have n2_ := Aside0.mk (Kept.of_grown (S := (fun k_ => P0_ k_)) hg (by repeat (first | (with_reducible first | exact HK.out | apply Kept.alloc | apply Kept.drewN | apply Kept.drew) | exact HK.out)) (fun k_ e_ => (HO_0.out.1 k_ e_))); clear HO_0; clear HB; clear HK; have HO_0 := n0_; have HB := n1_; have HK := n2_; clear n0_ n1_ n2_; clear hg hw hp_; have p9 : 0 ≤ (x5_1 : Int) := of_decide_eq_true (by first | (with_reducible assumption) | assumption); have q9 : (x5_1 : Int) < ((x0_1.length : Int) : Int) := of_decide_eq_true (by first | (with_reducible assumption) | assumption); obtain ⟨ce9, hcl9, hM9, hcc9, hfr9⟩ := Kd.R_elem HO_0.out z48 (x5_1 : Int) p9 q9; obtain rfl := k48_openM hM9; have hx9_0 : w18.cell? ⟨go5, (x5_1 : Int).toNat * 5, none⟩ = some (.int .i64 ((rd_T48 y214 x5_1).f0)) := hcc9 0 _ rfl; have hx9_1 : w18.cell? ⟨go5, (x5_1 : Int).toNat * 5 + 1, none⟩ = some (.int .i64 ((rd_T48 y214 x5_1).f1)) := hcc9 1 _ rfl; have hx9_2 : w18.cell? ⟨go5, (x5_1 : Int).toNat * 5 + 2, none⟩ = some (.int .i64 ((rd_T48 y214 x5_1).f2)) := hcc9 2 _ rfl; have hx9_3 : w18.cell? ⟨go5, (x5_1 : Int).toNat * 5 + 3, none⟩ = some (.int .i64 ((rd_T48 y214 x5_1).f3)) := hcc9 3 _ rfl; have hx9_4 : w18.cell? ⟨go5, (x5_1 : Int).toNat * 5 + 4, none⟩ = some (.int .i64 ((rd_T48 y214 x5_1).f4)) := hcc9 4 _ rfl; have hf9_0 : w18.frozen? ⟨go5, (x5_1 : Int).toNat * 5, none⟩ = false := hfr9 0; have hf9_1 : w18.frozen? ⟨go5, (x5_1 : Int).toNat * 5 + 1, none⟩ = false := hfr9 1; have hf9_2 : w18.frozen? ⟨go5, (x5_1 : Int).toNat * 5 + 2, none⟩ = false := hfr9 2; have hf9_3 : w18.frozen? ⟨go5, (x5_1 : Int).toNat * 5 + 3, none⟩ = false := hfr9 3; have hf9_4 : w18.frozen? ⟨go5, (x5_1 : Int).toNat * 5 + 4, none⟩ = false := hfr9 4; clear hcl9 hcc9 hfr9; replace p9 := eq_true p9; replace q9 := eq_true q9; have HX19 := Aside0.mk (show Kd.R k48 48 w18 w0.heap.size (fun k_ => (P0_ k_ ∨ w.heap.size ≤ k_)) (.slice (some ⟨go5, 0, none⟩) x0_1.length co10) y214 from (by (with_reducible repeat (first | apply Kd.R_alloc | apply Kd.R_drewN | apply Kd.R_drew)); exact HO_0.out)); obtain ⟨ce19, hcl19, hM19, hcc19, hfr19⟩ := Kd.R_elem HX19.out z48 (x5_1 : Int) (of_decide_eq_true (by first | (with_reducible assumption) | assumption)) (by have h_ : (x5_1 : Int) < ((x0_1.length : Int) : Int) := of_decide_eq_true (by first | (with_reducible assumption) | assumption); first | exact h_ | (have e_ := (Kd.R_reads' HO_0.out).1; omega) | simpa using h_); obtain rfl := k48_openM hM19; have HP19 := Kd.R_seg HX19.out (x5_1 : Int) (of_decide_eq_true (by first | (with_reducible assumption) | assumption)) (by have h_ : (x5_1 : Int) < ((x0_1.length : Int) : Int) := of_decide_eq_true (by first | (with_reducible assumption) | assumption); first | exact h_ | (have e_ := (Kd.R_reads' HO_0.out).1; omega) | simpa using h_) (seg := [.int .i64 (wrap64 ((wrap64 ((wrap64 ((wrap64 (x1_1 + 1)) + 1)) + 1)) + 1))]) (j := 4) hcl19 hcc19 (show 5 ≤ 5 from by decide) (x' := (⟨(rd_T48 y214 x5_1).f0, (rd_T48 y214 x5_1).f1, (rd_T48 y214 x5_1).f2, (rd_T48 y214 x5_1).f3, wrap64 ((wrap64 ((wrap64 ((wrap64 (x1_1 + 1)) + 1)) + 1)) + 1)⟩ : S48)) (k48_mkM _ _ _ (⟨(rd_T48 y214 x5_1).f0, (rd_T48 y214 x5_1).f1, (rd_T48 y214 x5_1).f2, (rd_T48 y214 x5_1).f3, wrap64 ((wrap64 ((wrap64 ((wrap64 (x1_1 + 1)) + 1)) + 1)) + 1)⟩ : S48) ) (fun _ hk => hk); have hx19_4 := hcc19 4 _ rfl; (try simp only [show (k48).sz = 5 from rfl, Nat.mul_one, Nat.add_zero] at hx19_4); have hf19_4 := hfr19 4; (try simp only [show (k48).sz = 5 from rfl, Nat.mul_one, Nat.add_zero] at hf19_4); clear hcl19 hcc19 hfr19) | ((with_reducible refine gate_store (t := 3) (p := 44) rfl ?_); refine store_event (t := 3) (p := 44) (v := ?vo_w20) (w1 := (w18.setCell ⟨go5, (x5_1 : Int).toNat * 5 + 4, none⟩ (.int .i64 (wrap64 ((wrap64 ((wrap64 ((wrap64 (x1_1 + 1)) + 1)) + 1)) + 1))))) ?hg ?ho ?hn ?hr ?_; (case ho => rfl); (case hg => rfl); (case hn => rfl); (case hr => first | (go_simp; done) | (go_simp; rfl)); intro w20 hw; have hg : w18.grownBy w20 (some go5) := (by rw [hw]; exact HP19.2); have hp_ : Kd.R k48 48 w20 w0.heap.size (fun k_ => (P0_ k_ ∨ w.heap.size ≤ k_)) (.slice (some ⟨go5, 0, none⟩) x0_1.length co10) y215 := (by rw [hw, Ny215.out]; exact HP19.1); clear HP19; have n0_ := Aside0.mk (hp_); have n1_ := Aside0.mk ((by rw [hw]; exact below_set (HB.out) GB5.out : Below w0.heap.size w0 w20)); have n2_ := Aside0.mk (Kept.of_grown (S := (fun k_ => P0_ k_)) hg (by repeat (first | (with_reducible first | exact HK.out | apply Kept.alloc | apply Kept.drewN | apply Kept.drew) | exact HK.out)) (fun k_ e_ => (HO_0.out.1 k_ e_))); clear HO_0; clear HB; clear HK; have HO_0 := n0_; have HB := n1_; have HK := n2_; clear n0_ n1_ n2_; clear hg hw hp_))
          go_roundg k1
          case measure => have := HK1.out; omega
          case rel => exact ⟨(y215), (wrap64 ((wrap64 ((wrap64 ((wrap64 ((wrap64 (x1_1 + 1)) + 1)) + 1)) + 1)) + 1)), (wrap64 (x5_1 + 1)), (by first | rfl | (simp; done) | (simp [*]; done)), (by first | rfl | (simp; done) | (simp [*]; done)), H', ⟨by have := HK1.out; omega⟩, ⟨by (with_reducible repeat (first | apply Kd.R_alloc | apply Kd.R_drewN | apply Kd.R_drew)); exact HO_0.out⟩, ⟨by repeat (first | (with_reducible first | exact HK.out | apply Kept.alloc | apply Kept.drewN | apply Kept.drew) | exact HK.out)⟩, ⟨by repeat (first | (with_reducible first | exact HB.out | apply below_alloc | apply pw_below_drewN | apply below_drew1) | exact HB.out)⟩⟩
        · rw [if_neg c4] at H
          exact absurd H (by simp)
      · rw [if_neg c3] at H
        have c3b0 : decide (x5_1 < (x0_1.length : Int)) = false := decide_eq_false c3
        clear c3
        simp only [Option.some.injEq, Prod.mk.injEq] at H
        obtain ⟨rfl, rfl⟩ := H
        obtain ⟨Ao21, co21, eo21⟩ := Kd.R_slice HO_0.out
        subst eo21
        go_wp2
        go_ret
        exact ⟨by first | rfl | (simp [IntKind.wrap_i64, wrap64]; done) | (simp [errW_none, errW_some] <;> rfl) | (simp [*, errW_none, errW_some] <;> rfl), by (with_reducible repeat (first | apply Kd.R_alloc | apply Kd.R_drewN | apply Kd.R_drew)); exact HO_0.out, by repeat (first | (with_reducible first | exact HB.out | apply below_alloc | apply pw_below_drewN | apply below_drew1) | exact HB.out), by repeat (first | (with_reducible first | exact HK.out | apply Kept.alloc | apply Kept.drewN | apply Kept.drew) | exact HK.out)⟩

/-! ### laws_markGrdGrid: function 10 -/
def laws_markGrdGrid.f (k : Nat) (a0_0 : Int) (a0_1 : Int) (l0_2 : List (S48)) (a1 : Int) : Option (Int × (List (S48))) := (laws_markGrdCellS.f k l0_2 a1).bind fun bt217 => (some (bt217.1, bt217.2))
theorem laws_markGrdGrid.mono : ∀ a0 a1 a2 a3 k, LeO (laws_markGrdGrid.f k a0 a1 a2 a3) (laws_markGrdGrid.f (k + 1) a0 a1 a2 a3) := by
  intro a0 a1 a2 a3 k
  unfold laws_markGrdGrid.f
  repeat' first
      | (with_reducible exact laws_markGrdCellS.mono _ _ _)
      | (with_reducible exact LeO.refl _)
      | (with_reducible exact LeO.none _)
      | (with_reducible refine LeO.ite ?_ ?_)
      | (with_reducible refine LeO.bind ?_ (fun _ => ?_))
      | exact laws_markGrdCellS.mono _ _ _
      | exact LeO.none _
      | refine LeO.ite ?_ ?_
      | refine LeO.bind ?_ (fun _ => ?_)
set_option maxHeartbeats 8000000 in
set_option maxRecDepth 100000 in
theorem laws_markGrdGrid.calls (k : Nat) (a0_0 : Int) (a0_1 : Int) (P0_2_ : Nat → Prop) (u9000_ : Value) (l0_2 : List (S48)) (a1 : Int) (r1 : Int) (r2 : List (S48)) (w0 w : World) (hB : Below w0.heap.size w0 w) (ho0_2 : Kd.R k48 48 w w0.heap.size P0_2_ u9000_ l0_2) (h : laws_markGrdGrid.f k a0_0 a0_1 l0_2 a1 = some (r1, r2)) :
    Calls Try.prog 10 #[.agg #[.int .i64 a0_0, .int .i64 a0_1, u9000_], .int .i64 a1] w fun e w' => e = .returned (.int .i64 r1) ∧ Kd.R k48 48 w' w0.heap.size (fun k_ => (P0_2_ k_ ∨ w.heap.size ≤ k_)) u9000_ r2 ∧ Below w0.heap.size w0 w' ∧ Kept w w' (fun k_ => P0_2_ k_) := by
  have hu30 := Try.underlying30
  have HO0_2 := Aside0.mk (show Kd.R k48 48 w w0.heap.size (fun k_ => (P0_2_ k_ ∨ w.heap.size ≤ k_)) u9000_ l0_2 from Kd.R_mono ho0_2 (fun k_ hk => (.inl hk)))
  have HK := Aside0.mk (Kept.refl w (fun k_ => P0_2_ k_))
  have HW0 := Aside0.mk hB.size
  have HB := Aside0.mk hB
  clear hB
  have H : ((laws_markGrdCellS.f k l0_2 a1).bind fun bt217 => (some (bt217.1, bt217.2))) = some (r1, r2) := h
  clear h
  replace H := Option.bind_eq_some_iff.mp H
  obtain ⟨⟨t217, t218⟩, A30, H⟩ := H
  replace H : (some (t217, t218)) = some (r1, r2) := H
  have A3 := Aside0.mk A30
  clear A30
  simp only [Option.some.injEq, Prod.mk.injEq] at H
  obtain ⟨rfl, rfl⟩ := H
  obtain ⟨Ao4, co4, eo4⟩ := Kd.R_slice HO0_2.out
  subst eo4
  go_enter Try.func10, Try.ntmps10
  go_wp2_with (first | ((with_reducible refine gate_dst (N := 2) rfl ?_); refine box_event ?hg (N := 2) ?hd (cs := #[.int .i64 a0_0, .int .i64 a0_1, .slice Ao4 l0_2.length co4]) (t := 30) ?hr ?_; (case hd => rfl); (case hg => rfl); (case hr => first | (go_simp; done) | (go_simp; rfl)); intro gb216 hg w5 hbox hb; have n0_ := Aside0.mk (Kd.R_below (by (with_reducible repeat (first | apply Kd.R_alloc | apply Kd.R_drewN | apply Kd.R_drew)); exact HO0_2.out) hb); have n1_ := Aside0.mk (Kept.below (S := (fun k_ => P0_2_ k_)) (by repeat (first | (with_reducible first | exact HK.out | apply Kept.alloc | apply Kept.drewN | apply Kept.drew) | exact HK.out)) hb); have n2_ := Aside0.mk (below_step (by repeat (first | (with_reducible first | exact HB.out | apply below_alloc | apply pw_below_drewN | apply below_drew1) | exact HB.out)) hb); have n3_ := Aside0.mk (hbox); have n4_ := Aside0.mk ((by rw [hg]; exact (by first | exact HK.out.1 | exact (show Kept w _ (fun k_ => P0_2_ k_) from by repeat (first | (with_reducible first | exact HK.out | apply Kept.alloc | apply Kept.drewN | apply Kept.drew) | exact HK.out)).1) : w.heap.size ≤ gb216)); have n5_ := Aside0.mk ((by rw [hg]; exact (below_size (by repeat (first | (with_reducible first | exact HB.out | apply below_alloc | apply pw_below_drewN | apply below_drew1) | exact HB.out))) : w0.heap.size ≤ gb216)); clear HO0_2; clear HK; clear HB; have HO0_2 := n0_; have HK := n1_; have HB := n2_; have BK216 := n3_; have GW216 := n4_; have GE216 := n5_; clear n0_ n1_ n2_ n3_ n4_ n5_; clear hb hbox hg; have hcz6_0 : w5.cell? ⟨gb216, 0, none⟩ = some (.int .i64 a0_0) := (blk_cell BK216.out 0).trans rfl; have hcz6_1 : w5.cell? ⟨gb216, 1, none⟩ = some (.int .i64 a0_1) := (blk_cell BK216.out 1).trans rfl; have hcz6_2 : w5.cell? ⟨gb216, 2, none⟩ = some (.slice Ao4 l0_2.length co4) := (blk_cell BK216.out 2).trans rfl; have hfz6_0 := blk_frozen BK216.out 0; have hfz6_1 := blk_frozen BK216.out 1; have hfz6_2 := blk_frozen BK216.out 2) | ((with_reducible refine gate_callee (f := 21) rfl ?_); refine goesL_ (some 8) rfl rfl Try.func21 (by kernel_rfl) rfl #[.slice Ao4 l0_2.length co4, .int .i64 a1] rfl (by (try simp only [List.map_toArray, List.map_cons, List.map_nil]); first | done | rfl | (simp only [List.length_drop, List.length_take]; rfl)) ?_; (with_reducible refine (laws_markGrdCellS.calls k (fun k_ => some k_ = (.slice Ao4 l0_2.length co4 : Value).ownBlock) (.slice Ao4 l0_2.length co4) l0_2 a1 t217 t218 w0 _ ?side1 ?side2 A3.out).mono ?_); (case side1 => repeat (first | (with_reducible first | exact HB.out | apply below_alloc | apply pw_below_drewN | apply below_drew1 | refine below_set ?_ GE216.out) | exact HB.out)); (case side2 => exact Kd.R_tight rfl HO0_2.out); rintro e w7 ⟨rfl, hy0, hb, hkp⟩; refine ⟨_, rfl, ?_⟩; have n0_ := Aside0.mk (Kd.R_reok rfl hy0 (fun k_ e_ => HO0_2.out.1 k_ e_)); have n1_ := Aside0.mk (blk_kept (by (with_reducible repeat (first | refine blk_drewN ?_ _ | refine blk_drew ?_ | refine blk_alloc ?_ _)); exact BK216.out) hkp (fun hs_ => (fun e_ => (Kd.R_ne HO0_2.out BK216.out (by decide)) e_) hs_)); have n2_ := Aside0.mk (Kept.then_ (S := (fun k_ => P0_2_ k_)) (by repeat (first | (with_reducible first | exact HK.out | apply Kept.alloc | apply Kept.drewN | apply Kept.drew | refine Kept.setCell ?_ (.inr GW216.out) _) | exact HK.out)) hkp (fun k_ hs_ => (fun e_ => (HO0_2.out.1 k_ e_.symm)) hs_)); have n3_ := Aside0.mk (hb); clear HO0_2; clear BK216; clear HK; clear HB; have HO0_2 := n0_; have BK216 := n1_; have HK := n2_; have HB := n3_; clear n0_ n1_ n2_ n3_; (try clear hb); (try clear hkp); (try clear hy0)))
  go_ret
  exact ⟨by first | rfl | (simp [IntKind.wrap_i64, wrap64]; done) | (simp [errW_none, errW_some] <;> rfl) | (simp [*, errW_none, errW_some] <;> rfl), by (with_reducible repeat (first | apply Kd.R_alloc | apply Kd.R_drewN | apply Kd.R_drew)); exact HO0_2.out, by repeat (first | (with_reducible first | exact HB.out | apply below_alloc | apply pw_below_drewN | apply below_drew1 | refine below_set ?_ GE216.out) | exact HB.out), by repeat (first | (with_reducible first | exact HK.out | apply Kept.alloc | apply Kept.drewN | apply Kept.drew | refine Kept.setCell ?_ (.inr GW216.out) _) | exact HK.out)⟩

/-! ### laws_markText: function 22 -/
def laws_markText.l0 : Nat → Int → ByteArray → Option (ByteArray)
  | 0, _, _ => none
  | k + 1, x0, x3 => if x0 > 0 then ((some (([(wrap64 (48 + (Int.tmod x0 10))) % 256] : List Int) : List Int)).bind fun y219 => (if (strOfNums y219).size + x3.size ≤ 9223372036854775807 then (laws_markText.l0 k (wrap64 (Int.tdiv x0 10)) ((strOfNums y219) ++ x3)) else (none))) else (if 1 + x3.size ≤ 9223372036854775807 then (some ((⟨#[109]⟩ : ByteArray) ++ x3)) else (none))
def laws_markText.f (k : Nat) (a0 : Int) : Option (ByteArray) := if a0 ≤ 0 then (some (⟨#[109, 48]⟩ : ByteArray)) else (laws_markText.l0 k a0 (⟨#[]⟩ : ByteArray))
theorem laws_markText.mono_l : ∀ k, (∀ y0 y1, LeO (laws_markText.l0 k y0 y1) (laws_markText.l0 (k + 1) y0 y1))
  | 0 => fun _ _ r h => by simp [laws_markText.l0] at h
  | k + 1 => by
    have ih0 := laws_markText.mono_l k
    · intro y0 y1
      unfold laws_markText.l0
      repeat' first
      | (with_reducible exact ih0 _ _)
      | (with_reducible exact LeO.refl _)
      | (with_reducible exact LeO.none _)
      | (with_reducible refine LeO.ite ?_ ?_)
      | (with_reducible refine LeO.bind ?_ (fun _ => ?_))
      | exact ih0 _ _
      | exact LeO.none _
      | refine LeO.ite ?_ ?_
      | refine LeO.bind ?_ (fun _ => ?_)
theorem laws_markText.mono : ∀ a0 k, LeO (laws_markText.f k a0) (laws_markText.f (k + 1) a0) := by
  intro a0 k
  have ih0 := laws_markText.mono_l k
  unfold laws_markText.f
  repeat' first
      | (with_reducible exact ih0 _ _)
      | (with_reducible exact LeO.refl _)
      | (with_reducible exact LeO.none _)
      | (with_reducible refine LeO.ite ?_ ?_)
      | (with_reducible refine LeO.bind ?_ (fun _ => ?_))
      | exact ih0 _ _
      | exact LeO.none _
      | refine LeO.ite ?_ ?_
      | refine LeO.bind ?_ (fun _ => ?_)
set_option maxHeartbeats 8000000 in
set_option maxRecDepth 100000 in
theorem laws_markText.calls (k : Nat) (a0 : Int) (r : ByteArray) (w : World) (h : laws_markText.f k a0 = some r) :
    Calls Try.prog 22 #[.int .i64 a0] w fun e w' => e = .returned (.string r) ∧ Below w.heap.size w w' := by
  have HB := Aside0.mk (Below.refl w.heap.size w)
  have H : (if a0 ≤ 0 then (some (⟨#[109, 48]⟩ : ByteArray)) else (laws_markText.l0 k a0 (⟨#[]⟩ : ByteArray))) = some r := h
  clear h
  by_cases c2 : a0 ≤ 0
  · rw [if_pos c2] at H
    have c2b0 : decide (a0 ≤ 0) = true := decide_eq_true c2
    clear c2
    obtain rfl := Option.some.inj H
    go_enter Try.func22, Try.ntmps22
    go_wp2
    go_ret
    exact ⟨by first | rfl | (simp [IntKind.wrap_i64, wrap64]; done) | (simp [errW_none, errW_some] <;> rfl) | (simp [*, errW_none, errW_some] <;> rfl), by repeat (first | (with_reducible first | exact HB.out | apply below_alloc | apply pw_below_drewN | apply below_drew1) | exact HB.out)⟩
  · rw [if_neg c2] at H
    have c2b0 : decide (a0 ≤ 0) = false := decide_eq_false c2
    clear c2
    have H' := Aside0.mk H
    clear H
    go_enter Try.func22, Try.ntmps22
    go_wp2
    go_loopg [0, 3] k (fun kq v0 v3 w' => ∃ (x0_1 : Int) (x3_1 : ByteArray), v0 = .int .i64 x0_1 ∧ v3 = .string x3_1 ∧ Aside0 (laws_markText.l0 kq x0_1 x3_1 = some r) ∧ Aside0 (kq ≤ k) ∧ Aside0 (Below w.heap.size w w'))
    case atStart => exact ⟨(a0), ((⟨#[]⟩ : ByteArray)), (by first | rfl | (simp; done) | (simp [*]; done)), (by first | rfl | (simp; done) | (simp [*]; done)), H', ⟨Nat.le_refl _⟩, ⟨by repeat (first | (with_reducible first | exact HB.out | apply below_alloc | apply pw_below_drewN | apply below_drew1) | exact HB.out)⟩⟩
    case round =>
      clear H'
      try clear c2
      try clear c2b0
      try clear p2
      obtain ⟨x0_1, x3_1, rfl, rfl, HA, HK1, HB⟩ := hrel
      cases gk with
      | zero => exact absurd HA.out (by simp [laws_markText.l0])
      | succ k1 =>
        have H := HA.out
        clear HA
        simp only [laws_markText.l0] at H
        by_cases c3 : x0_1 > 0
        · rw [if_pos c3] at H
          have c3b0 : decide (0 < x0_1) = true := decide_eq_true c3
          clear c3
          obtain ⟨y219, hy219⟩ : ∃ y_ : List Int, y_ = (([(wrap64 (48 + (Int.tmod x0_1 10))) % 256] : List Int)) := ⟨_, rfl⟩
          replace H : (if (strOfNums y219).size + x3_1.size ≤ 9223372036854775807 then (laws_markText.l0 k1 (wrap64 (Int.tdiv x0_1 10)) ((strOfNums y219) ++ x3_1)) else (none)) = some r := by first | (rw [hy219]; with_reducible exact H) | (have H2_ := (Option.bind_some _ _).symm.trans H; rw [hy219]; with_reducible exact H2_) | (have H2_ := (Option.bind_some _ _).symm.trans H; with_reducible exact H2_) | with_reducible exact H | (rw [hy219]; exact H) | exact H
          have Ny219 := Aside0.mk hy219
          clear hy219
          by_cases c4 : (strOfNums y219).size + x3_1.size ≤ 9223372036854775807
          · rw [if_pos c4] at H
            have c4b0 := eq_true c4
            have c4b1 : decide ((strOfNums y219).size + x3_1.size ≤ 9223372036854775807) = true := decide_eq_true c4
            try have c4b2 : (9223372036854775807 < (strOfNums y219).size + x3_1.size) = False := eq_false (Nat.not_lt.2 c4)
            have H' := Aside0.mk H
            clear H
            go_wp2_with (first | ((with_reducible refine gate_dst (N := 12) rfl ?_); refine Kd.R_lit (Kd.int .u8) _ 5 ?hg (N := 12) ?hd (xs := ([(wrap64 (48 + (Int.tmod x0_1 10))) % 256] : List Int)) (inner := [.int .u8 ((wrap64 (48 + (Int.tmod x0_1 10))) % 256)]) (ok := fun _ => True) (okp := fun _ => True) ?hr ?hp (fun _ hk => hk) trivial (Below.refl _ _) (Nat.le_refl _) (by simp) ?_; (case hd => rfl); (case hg => rfl); (case hr => first | (go_simp; done) | (go_simp; rfl)); (case hp => exact (Reps.one (show Kd.M (Kd.int .u8) _ _ _ ((wrap64 (48 + (Int.tmod x0_1 10))) % 256) [.int .u8 ((wrap64 (48 + (Int.tmod x0_1 10))) % 256)] from rfl) (Reps.none _ _))); intro v220 w5 ho6 hb hg_ hnew_; clear hg_ hnew_; (first | rw [← Ny219.out] at ho6 | (simp only [Int.reduceToNat] at ho6; rw [← Ny219.out] at ho6)); have n0_ := Aside0.mk (Kd.R_lower ho6 (below_size (by repeat (first | (with_reducible first | exact HB.out | apply below_alloc | apply pw_below_drewN | apply below_drew1) | exact HB.out)))); have n1_ := Aside0.mk (below_step (by repeat (first | (with_reducible first | exact HB.out | apply below_alloc | apply pw_below_drewN | apply below_drew1) | exact HB.out)) hb); clear HB; have HO221 := n0_; have HB := n1_; clear n0_ n1_; clear hb ho6; have hcv7 := own_string (P := Try.prog) Try.underlying39 Try.underlying5 Try.underlying9 (Kd.own_of_R HO221.out)))
            go_roundg k1
            case measure => have := HK1.out; omega
            case rel => exact ⟨(wrap64 (Int.tdiv x0_1 10)), ((strOfNums y219) ++ x3_1), (by first | rfl | (simp; done) | (simp [*]; done)), (by first | rfl | (simp; done) | (simp [*]; done)), H', ⟨by have := HK1.out; omega⟩, ⟨by repeat (first | (with_reducible first | exact HB.out | apply below_alloc | apply pw_below_drewN | apply below_drew1) | exact HB.out)⟩⟩
          · rw [if_neg c4] at H
            exact absurd H (by simp)
        · rw [if_neg c3] at H
          have c3b0 : decide (0 < x0_1) = false := decide_eq_false c3
          clear c3
          by_cases c8 : 1 + x3_1.size ≤ 9223372036854775807
          · rw [if_pos c8] at H
            have c8b0 := eq_true c8
            have c8b1 : decide (1 + x3_1.size ≤ 9223372036854775807) = true := decide_eq_true c8
            try have c8b2 : (9223372036854775807 < 1 + x3_1.size) = False := eq_false (Nat.not_lt.2 c8)
            obtain rfl := Option.some.inj H
            go_wp2
            go_ret
            exact ⟨by first | rfl | (simp [IntKind.wrap_i64, wrap64]; done) | (simp [errW_none, errW_some] <;> rfl) | (simp [*, errW_none, errW_some] <;> rfl), by repeat (first | (with_reducible first | exact HB.out | apply below_alloc | apply pw_below_drewN | apply below_drew1) | exact HB.out)⟩
          · rw [if_neg c8] at H
            exact absurd H (by simp)


end Go.Proofs.Ytobpcokoahgpdab.Q
