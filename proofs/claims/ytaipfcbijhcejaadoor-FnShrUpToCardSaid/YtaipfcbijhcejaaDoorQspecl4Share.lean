-- Told by a program of this session (uprint.py, ulay.py).
import Derived.Test.YtaipfcbijhcejaaDoorQ0
import Derived.Test.YtaipfcbijhcejaaDoorQspecl20Open
import Derived.Test.YtaipfcbijhcejaaDoorQspecDrawShrUpTo
import Derived.Deep.QuietTactic
import Derived.Ground.SlsfProg
import Derived.Shelf.Lay
import Derived.Shelf.SlSortCmp.Insertion
import Derived.Shelf.SlSortFunc.HeapSort
namespace Go.Proofs.YtaipfcbijhcejaaDoor.Q
open Go.RowKit Go.Proofs.YtaipfcbijhcejaaDoorW.PrintWords Go.Proofs.YtaipfcbijhcejaaDoorW.PrintLast Go.Proofs.YtaipfcbijhcejaaDoorW.PrintMore
attribute [local go_sem] max2_int min2_int max_two min_two max_three min_three max_four min_four
set_option linter.unusedVariables false
set_option linter.unusedSimpArgs false

/-! ### spec_l4Share: function 30 -/
mutual
def spec_l4Share.j1 : Nat → Int → List Int → Option (List Int)
  | 0, _, _ => none
  | k + 1, x0, x5 => (spec_l1Sum.f k x5).bind fun t180 => (if 0 ≤ (x5.length : Int) then (if ((x5.length : Int) : Int).toNat ≤ 281474976710656 then (spec_l4Share.l1 k x0 x5 t180 (([] : List Int)) (([] : List Int)) (List.replicate ((x5.length : Int) : Int).toNat false) 0) else (none)) else (none))
def spec_l4Share.l1 : Nat → Int → List Int → Int → List Int → List Int → List Bool → Int → Option (List Int)
  | 0, _, _, _, _, _, _, _ => none
  | k + 1, x0, x5, x7, x8, x9, x10, x11 => if x11 < (x5.length : Int) then (if 0 ≤ x11 then (if x7 = 0 then (none) else (if x8.length < 17592186044416 then (if x9.length < 17592186044416 then (spec_l4Share.l1 k x0 x5 x7 (x8 ++ [wrap64 (Int.tdiv (wrap64 (x0 * (rd x5 x11))) x7)]) (x9 ++ [Int.tmod (wrap64 (x0 * (rd x5 x11))) x7]) x10 (wrap64 (x11 + 1))) else (none)) else (none))) else (none)) else ((spec_l1Sum.f k x8).bind fun t198 => (spec_l4Share.l2 k x8 x9 x10 (wrap64 (x0 - t198))))
def spec_l4Share.l2 : Nat → List Int → List Int → List Bool → Int → Option (List Int)
  | 0, _, _, _, _ => none
  | k + 1, x8, x9, x10, x12 => if x12 > 0 then (spec_l4Share.j4 k x8 x9 x10 x12 (decide ((x8.length : Int) > 0))) else (spec_l4Share.j4 k x8 x9 x10 x12 false)
def spec_l4Share.j4 : Nat → List Int → List Int → List Bool → Int → Bool → Option (List Int)
  | 0, _, _, _, _, _ => none
  | k + 1, x8, x9, x10, x12, x74 => if x74 = true then ((spec_l4Next.f k x9 x10).bind fun t199 => (if t199 ≥ 0 then (if 0 ≤ t199 then (if t199 < (x10.length : Int) then (if t199 < (x8.length : Int) then (spec_l4Share.l2 k (x8.set (t199 : Int).toNat (wrap64 ((rd x8 t199) + 1))) x9 (x10.set (t199 : Int).toNat true) (wrap64 (x12 - 1))) else (none)) else (none)) else (none)) else (spec_l4Share.l2 k x8 x9 x10 (wrap64 (x12 - 1))))) else (some x8)
def spec_l4Share.l0 : Nat → Int → List Int → Int → Option (List Int)
  | 0, _, _, _ => none
  | k + 1, x0, x5, x6 => if x6 < (x5.length : Int) then (if 0 ≤ x6 then (spec_l4Share.l0 k x0 (x5.set (x6 : Int).toNat 1) (wrap64 (x6 + 1))) else (none)) else (spec_l4Share.j1 k x0 x5)
end
def spec_l4Share.f (k : Nat) (a0 : Int) (l1 : List Int) : Option (List Int) := (some (([] : List Int) : List Int)).bind fun y172 => (if y172.length + l1.length < 17592186044416 then ((some (y172 ++ l1 : List Int)).bind fun y175 => ((spec_l1Sum.f k y175).bind fun t178 => (if t178 = 0 then (spec_l4Share.l0 k a0 y175 0) else (spec_l4Share.j1 k a0 y175)))) else (none))
theorem spec_l4Share.mono_l : ∀ k, (∀ y0 y1, LeO (spec_l4Share.j1 k y0 y1) (spec_l4Share.j1 (k + 1) y0 y1)) ∧ (∀ y0 y1 y2 y3 y4 y5 y6, LeO (spec_l4Share.l1 k y0 y1 y2 y3 y4 y5 y6) (spec_l4Share.l1 (k + 1) y0 y1 y2 y3 y4 y5 y6)) ∧ (∀ y0 y1 y2 y3, LeO (spec_l4Share.l2 k y0 y1 y2 y3) (spec_l4Share.l2 (k + 1) y0 y1 y2 y3)) ∧ (∀ y0 y1 y2 y3 y4, LeO (spec_l4Share.j4 k y0 y1 y2 y3 y4) (spec_l4Share.j4 (k + 1) y0 y1 y2 y3 y4)) ∧ (∀ y0 y1 y2, LeO (spec_l4Share.l0 k y0 y1 y2) (spec_l4Share.l0 (k + 1) y0 y1 y2))
  | 0 => ⟨fun _ _ r h => by simp [spec_l4Share.j1] at h, fun _ _ _ _ _ _ _ r h => by simp [spec_l4Share.l1] at h, fun _ _ _ _ r h => by simp [spec_l4Share.l2] at h, fun _ _ _ _ _ r h => by simp [spec_l4Share.j4] at h, fun _ _ _ r h => by simp [spec_l4Share.l0] at h⟩
  | k + 1 => by
    obtain ⟨ih0, ih1, ih2, ih3, ih4⟩ := spec_l4Share.mono_l k
    refine ⟨?_, ?_, ?_, ?_, ?_⟩
    · intro y0 y1
      unfold spec_l4Share.j1
      repeat' first
      | (with_reducible exact ih0 _ _)
      | (with_reducible exact ih1 _ _ _ _ _ _ _)
      | (with_reducible exact ih2 _ _ _ _)
      | (with_reducible exact ih3 _ _ _ _ _)
      | (with_reducible exact ih4 _ _ _)
      | (with_reducible exact spec_l1Sum.mono _ _)
      | (with_reducible exact spec_l4Next.mono _ _ _)
      | (with_reducible exact LeO.refl _)
      | (with_reducible exact LeO.none _)
      | (with_reducible refine LeO.ite ?_ ?_)
      | (with_reducible refine LeO.bind ?_ (fun _ => ?_))
      | exact ih0 _ _
      | exact ih1 _ _ _ _ _ _ _
      | exact ih2 _ _ _ _
      | exact ih3 _ _ _ _ _
      | exact ih4 _ _ _
      | exact spec_l1Sum.mono _ _
      | exact spec_l4Next.mono _ _ _
      | exact LeO.none _
      | refine LeO.ite ?_ ?_
      | refine LeO.bind ?_ (fun _ => ?_)
    · intro y0 y1 y2 y3 y4 y5 y6
      unfold spec_l4Share.l1
      repeat' first
      | (with_reducible exact ih0 _ _)
      | (with_reducible exact ih1 _ _ _ _ _ _ _)
      | (with_reducible exact ih2 _ _ _ _)
      | (with_reducible exact ih3 _ _ _ _ _)
      | (with_reducible exact ih4 _ _ _)
      | (with_reducible exact spec_l1Sum.mono _ _)
      | (with_reducible exact spec_l4Next.mono _ _ _)
      | (with_reducible exact LeO.refl _)
      | (with_reducible exact LeO.none _)
      | (with_reducible refine LeO.ite ?_ ?_)
      | (with_reducible refine LeO.bind ?_ (fun _ => ?_))
      | exact ih0 _ _
      | exact ih1 _ _ _ _ _ _ _
      | exact ih2 _ _ _ _
      | exact ih3 _ _ _ _ _
      | exact ih4 _ _ _
      | exact spec_l1Sum.mono _ _
      | exact spec_l4Next.mono _ _ _
      | exact LeO.none _
      | refine LeO.ite ?_ ?_
      | refine LeO.bind ?_ (fun _ => ?_)
    · intro y0 y1 y2 y3
      unfold spec_l4Share.l2
      repeat' first
      | (with_reducible exact ih0 _ _)
      | (with_reducible exact ih1 _ _ _ _ _ _ _)
      | (with_reducible exact ih2 _ _ _ _)
      | (with_reducible exact ih3 _ _ _ _ _)
      | (with_reducible exact ih4 _ _ _)
      | (with_reducible exact spec_l1Sum.mono _ _)
      | (with_reducible exact spec_l4Next.mono _ _ _)
      | (with_reducible exact LeO.refl _)
      | (with_reducible exact LeO.none _)
      | (with_reducible refine LeO.ite ?_ ?_)
      | (with_reducible refine LeO.bind ?_ (fun _ => ?_))
      | exact ih0 _ _
      | exact ih1 _ _ _ _ _ _ _
      | exact ih2 _ _ _ _
      | exact ih3 _ _ _ _ _
      | exact ih4 _ _ _
      | exact spec_l1Sum.mono _ _
      | exact spec_l4Next.mono _ _ _
      | exact LeO.none _
      | refine LeO.ite ?_ ?_
      | refine LeO.bind ?_ (fun _ => ?_)
    · intro y0 y1 y2 y3 y4
      unfold spec_l4Share.j4
      repeat' first
      | (with_reducible exact ih0 _ _)
      | (with_reducible exact ih1 _ _ _ _ _ _ _)
      | (with_reducible exact ih2 _ _ _ _)
      | (with_reducible exact ih3 _ _ _ _ _)
      | (with_reducible exact ih4 _ _ _)
      | (with_reducible exact spec_l1Sum.mono _ _)
      | (with_reducible exact spec_l4Next.mono _ _ _)
      | (with_reducible exact LeO.refl _)
      | (with_reducible exact LeO.none _)
      | (with_reducible refine LeO.ite ?_ ?_)
      | (with_reducible refine LeO.bind ?_ (fun _ => ?_))
      | exact ih0 _ _
      | exact ih1 _ _ _ _ _ _ _
      | exact ih2 _ _ _ _
      | exact ih3 _ _ _ _ _
      | exact ih4 _ _ _
      | exact spec_l1Sum.mono _ _
      | exact spec_l4Next.mono _ _ _
      | exact LeO.none _
      | refine LeO.ite ?_ ?_
      | refine LeO.bind ?_ (fun _ => ?_)
    · intro y0 y1 y2
      unfold spec_l4Share.l0
      repeat' first
      | (with_reducible exact ih0 _ _)
      | (with_reducible exact ih1 _ _ _ _ _ _ _)
      | (with_reducible exact ih2 _ _ _ _)
      | (with_reducible exact ih3 _ _ _ _ _)
      | (with_reducible exact ih4 _ _ _)
      | (with_reducible exact spec_l1Sum.mono _ _)
      | (with_reducible exact spec_l4Next.mono _ _ _)
      | (with_reducible exact LeO.refl _)
      | (with_reducible exact LeO.none _)
      | (with_reducible refine LeO.ite ?_ ?_)
      | (with_reducible refine LeO.bind ?_ (fun _ => ?_))
      | exact ih0 _ _
      | exact ih1 _ _ _ _ _ _ _
      | exact ih2 _ _ _ _
      | exact ih3 _ _ _ _ _
      | exact ih4 _ _ _
      | exact spec_l1Sum.mono _ _
      | exact spec_l4Next.mono _ _ _
      | exact LeO.none _
      | refine LeO.ite ?_ ?_
      | refine LeO.bind ?_ (fun _ => ?_)
theorem spec_l4Share.mono : ∀ a0 a1 k, LeO (spec_l4Share.f k a0 a1) (spec_l4Share.f (k + 1) a0 a1) := by
  intro a0 a1 k
  obtain ⟨ih0, ih1, ih2, ih3, ih4⟩ := spec_l4Share.mono_l k
  unfold spec_l4Share.f
  repeat' first
      | (with_reducible exact ih0 _ _)
      | (with_reducible exact ih1 _ _ _ _ _ _ _)
      | (with_reducible exact ih2 _ _ _ _)
      | (with_reducible exact ih3 _ _ _ _ _)
      | (with_reducible exact ih4 _ _ _)
      | (with_reducible exact spec_l1Sum.mono _ _)
      | (with_reducible exact spec_l4Next.mono _ _ _)
      | (with_reducible exact LeO.refl _)
      | (with_reducible exact LeO.none _)
      | (with_reducible refine LeO.ite ?_ ?_)
      | (with_reducible refine LeO.bind ?_ (fun _ => ?_))
      | exact ih0 _ _
      | exact ih1 _ _ _ _ _ _ _
      | exact ih2 _ _ _ _
      | exact ih3 _ _ _ _ _
      | exact ih4 _ _ _
      | exact spec_l1Sum.mono _ _
      | exact spec_l4Next.mono _ _ _
      | exact LeO.none _
      | refine LeO.ite ?_ ?_
      | refine LeO.bind ?_ (fun _ => ?_)
set_option maxHeartbeats 8000000 in
set_option maxRecDepth 100000 in
theorem spec_l4Share.calls (k : Nat) (a0 : Int) (A1 : Option Addr) (c1 : Nat) (l1 : List Int) (r : List Int) (w : World) (hr1 : Kd.C (Kd.int .i64) w A1 l1.length l1) (hc1 : l1.length ≤ c1) (h : spec_l4Share.f k a0 l1 = some r) :
    Calls Tryd.prog 30 #[.int .i64 a0, .slice A1 l1.length c1] w fun e w' => ∃ v0_ : Value, e = .returned (v0_) ∧ Kd.R (Kd.int .i64) 3 w' w.heap.size (fun _ => True) v0_ r ∧ Below w.heap.size w w' := by
  have HR1 := Aside0.mk hr1
  have HC1 := Aside0.mk hc1
  clear hr1 hc1
  have HB := Aside0.mk (Below.refl w.heap.size w)
  have H : ((some (([] : List Int) : List Int)).bind fun y172 => (if y172.length + l1.length < 17592186044416 then ((some (y172 ++ l1 : List Int)).bind fun y175 => ((spec_l1Sum.f k y175).bind fun t178 => (if t178 = 0 then (spec_l4Share.l0 k a0 y175 0) else (spec_l4Share.j1 k a0 y175)))) else (none))) = some r := h
  clear h
  obtain ⟨y172, hy172⟩ : ∃ y_ : List Int, y_ = (([] : List Int)) := ⟨_, rfl⟩
  replace H : (if y172.length + l1.length < 17592186044416 then ((some (y172 ++ l1 : List Int)).bind fun y175 => ((spec_l1Sum.f k y175).bind fun t178 => (if t178 = 0 then (spec_l4Share.l0 k a0 y175 0) else (spec_l4Share.j1 k a0 y175)))) else (none)) = some r := by first | (rw [hy172]; with_reducible exact H) | (have H2_ := (Option.bind_some _ _).symm.trans H; rw [hy172]; with_reducible exact H2_) | (have H2_ := (Option.bind_some _ _).symm.trans H; with_reducible exact H2_) | with_reducible exact H | (rw [hy172]; exact H) | exact H
  have Ny172 := Aside0.mk hy172
  clear hy172
  by_cases c3 : y172.length + l1.length < 17592186044416
  · rw [if_pos c3] at H
    have LMc3 := Aside0.mk c3
    clear c3
    obtain ⟨y175, hy175⟩ : ∃ y_ : List Int, y_ = (y172 ++ l1) := ⟨_, rfl⟩
    replace H : ((spec_l1Sum.f k y175).bind fun t178 => (if t178 = 0 then (spec_l4Share.l0 k a0 y175 0) else (spec_l4Share.j1 k a0 y175))) = some r := by first | (rw [hy175]; with_reducible exact H) | (have H2_ := (Option.bind_some _ _).symm.trans H; rw [hy175]; with_reducible exact H2_) | (have H2_ := (Option.bind_some _ _).symm.trans H; with_reducible exact H2_) | with_reducible exact H | (rw [hy175]; exact H) | exact H
    have Ny175 := Aside0.mk hy175
    clear hy175
    replace H := Option.bind_eq_some_iff.mp H
    obtain ⟨t178, A40, H⟩ := H
    replace H : (if t178 = 0 then (spec_l4Share.l0 k a0 y175 0) else (spec_l4Share.j1 k a0 y175)) = some r := H
    have A4 := Aside0.mk A40
    clear A40
    have HC5 := Aside0.mk H
    clear H
    go_enter Tryd.func30, Tryd.ntmps30
    go_upto_if 19 with (first | ((with_reducible refine gate_dst (N := 14) rfl ?_); (try (refine gate_guard (by rfl) ?_; dsimp only)); refine Kd.R_lit (Kd.int .i64) _ 3 ?hg (N := 14) ?hd (xs := ([] : List Int)) (inner := []) (ok := fun _ => True) (okp := fun _ => True) ?hr ?hp (fun _ hk => hk) trivial (Below.refl _ _) (Nat.le_refl _) (by simp) ?_; (case hd => rfl); (case hg => rfl); (case hr => first | (go_simp; done) | (go_simp; rfl)); (case hp => exact (Reps.none _ _)); intro v173 w6 ho7 hb hg_ hnew_; clear hg_ hnew_; (first | rw [← Ny172.out] at ho7 | (simp only [Int.reduceToNat] at ho7; rw [← Ny172.out] at ho7)); have n0_ := Aside0.mk (Kd.R_lower ho7 (below_size (by repeat (first | (with_reducible first | exact HB.out | apply below_alloc | apply pw_below_drewN | apply below_drew1) | exact HB.out)))); have n1_ := Aside0.mk (below_step (by repeat (first | (with_reducible first | exact HB.out | apply below_alloc | apply pw_below_drewN | apply below_drew1) | exact HB.out)) hb); clear HB; have HO174 := n0_; have HB := n1_; clear n0_ n1_; clear hb ho7) | ((with_reducible refine gate_builtin (b := .append) (xs := #[.tmp 14, .tmp 15]) rfl ?_); (try (refine gate_guard (by rfl) ?_; dsimp only)); at_builtin; refine Kd.R_append_rows (Kd.int .i64) (w0 := w) w.heap.size rfl (.tmp 14) (.tmp 15) 23 3 (.int .i64 0) 8 rfl Tryd.underlying23 info3 rfl (by decide) (by omega) v173 y172 l1 _ _ _ (fun _ => True) (fun _ => False) rfl rfl ?aO ?aR (fun _ _ h => h) (fun _ h => h.elim) ?aF ?aB ?aS ?aL ?_; (case aR => repeat (first | exact HR1.out | exact (Kd.C_below HR1.out HB.out) | (with_reducible refine Kd.C_alloc ?_ _) | (with_reducible refine Kd.C_drewN ?_ _) | (with_reducible refine Kd.C_drew ?_))); (case aB => exact (by repeat (first | (with_reducible first | exact HB.out | apply below_alloc | apply pw_below_drewN | apply below_drew1) | exact HB.out))); (case aF => exact (fun _ _ => trivial)); (case aO => exact (by (with_reducible repeat (first | apply Kd.R_alloc | apply Kd.R_drewN | apply Kd.R_drew)); exact HO174.out)); (case aS => exact (below_size (by repeat (first | (with_reducible first | exact HB.out | apply below_alloc | apply pw_below_drewN | apply below_drew1) | exact HB.out)))); (case aL => have := LMc3.out; omega); intro v176 w8 ho hb hg hat; rw [← Ny175.out] at ho; have n0_ := Aside0.mk (hb); have n1_ := Aside0.mk (ho); clear HB; clear HO174; have HB := n0_; have HO177 := n1_; clear n0_ n1_; clear ho hb hg hat; obtain ⟨Ao9, co9, eo9⟩ := Kd.R_slice HO177.out; subst eo9) | ((with_reducible refine gate_callee (f := 29) rfl ?_); refine goesL_ (some 18) rfl rfl Tryd.func29 (by kernel_rfl) rfl #[.slice Ao9 y175.length co9] rfl (by (try simp only [List.map_toArray, List.map_cons, List.map_nil]); first | done | rfl | (simp only [List.length_drop, List.length_take]; rfl) | (simp only [Ny175.out, List.length_drop, List.length_take]; rfl)) ?_; (with_reducible refine (spec_l1Sum.calls k _ _ y175 t178 _ ?side1 ?side2 A4.out).mono ?_); (case side1 => repeat (first | exact (Kd.R_reads' HO177.out).2.2 | (with_reducible refine Kd.C_alloc ?_ _) | (with_reducible refine Kd.C_drewN ?_ _) | (with_reducible refine Kd.C_drew ?_))); (case side2 => exact (Kd.R_reads' HO177.out).2.1); rintro e w' ⟨rfl, ⟨nd, rfl⟩⟩; refine ⟨_, rfl, ?_⟩))
    (try simp only [Act.put, List.setIfInBounds_toArray, List.set_cons_zero, List.set_cons_succ])
    go_cut [] (fun wc => ∃ (kq : Nat) (x5_4 : List Int), Aside0 (spec_l4Share.j1 kq a0 x5_4 = some r) ∧ Aside0 (kq ≤ k) ∧ Aside0 (Kd.R (Kd.int .i64) 3 wc w.heap.size (fun _ => True) (.slice Ao9 y175.length co9) x5_4) ∧ Aside0 (Below w.heap.size w wc))
    case first =>
      have H := HC5.out
      clear HC5
      by_cases c10 : t178 = 0
      · rw [if_pos c10] at H
        have c10b0 : (t178 == 0) = true := beq_iff_eq.mpr c10
        have c10b1 : (t178 != 0) = false := bne_eq_false_iff_eq.mpr c10
        clear c10
        (first | rw [c10b0] | (simp only [i64_w, i32_w]; rw [c10b0]) | skip)
        have H' := Aside0.mk H
        clear H
        go_wp2
        go_loopg [6] k (fun kq v6 w' => ∃ (x5_1 : List Int) (x6_1 : Int), v6 = .int .i64 x6_1 ∧ Aside0 (spec_l4Share.l0 kq a0 x5_1 x6_1 = some r) ∧ Aside0 (kq ≤ k) ∧ Aside0 (Kd.R (Kd.int .i64) 3 w' w.heap.size (fun _ => True) (.slice Ao9 y175.length co9) x5_1) ∧ Aside0 (Below w.heap.size w w'))
        case atStart => exact ⟨(y175), (0), (by first | rfl | (simp; done) | (simp [*]; done)), H', ⟨Nat.le_refl _⟩, ⟨by (with_reducible repeat (first | apply Kd.R_alloc | apply Kd.R_drewN | apply Kd.R_drew)); exact HO177.out⟩, ⟨by repeat (first | (with_reducible first | exact HB.out | apply below_alloc | apply pw_below_drewN | apply below_drew1) | exact HB.out)⟩⟩
        case round =>
          clear H'
          try clear c1
          try clear c2
          try clear p2
          try clear c3
          try clear c10
          try clear c10b0
          try clear c10b1
          obtain ⟨x5_1, x6_1, rfl, HA, HK1, HO_5, HB⟩ := hrel
          have hl5_1 := (Kd.R_reads' HO_5.out).1
          rw [hl5_1] at HO_5
          (try simp only [hl5_1])
          cases gk with
          | zero => exact absurd HA.out (by simp [spec_l4Share.l0])
          | succ k1 =>
            have H := HA.out
            clear HA
            simp only [spec_l4Share.l0] at H
            by_cases c11 : x6_1 < (x5_1.length : Int)
            · rw [if_pos c11] at H
              have c11b0 : decide (x6_1 < (x5_1.length : Int)) = true := decide_eq_true c11
              clear c11
              by_cases c12 : 0 ≤ x6_1
              · rw [if_pos c12] at H
                have c12b0 : decide (0 ≤ x6_1) = true := decide_eq_true c12
                clear c12
                obtain ⟨y179, hy179⟩ : ∃ y_ : List Int, y_ = (x5_1.set (x6_1 : Int).toNat 1) := ⟨_, rfl⟩
                replace H : (spec_l4Share.l0 k1 a0 y179 (wrap64 (x6_1 + 1))) = some r := by first | (rw [hy179]; with_reducible exact H) | (have H2_ := (Option.bind_some _ _).symm.trans H; rw [hy179]; with_reducible exact H2_) | (have H2_ := (Option.bind_some _ _).symm.trans H; with_reducible exact H2_) | with_reducible exact H | (rw [hy179]; exact H) | exact H
                have Ny179 := Aside0.mk hy179
                clear hy179
                have H' := Aside0.mk H
                clear H
                have p13 : 0 ≤ (x6_1 : Int) := of_decide_eq_true (by first | (with_reducible assumption) | assumption)
                have q13 : (x6_1 : Int) < ((x5_1.length : Int) : Int) := of_decide_eq_true (by first | (with_reducible assumption) | assumption)
                obtain ⟨go13, co13, eo13, gb13, gl13, cl13, HG13⟩ := Kd.R_form HO_5.out (by omega)
                (first | cases eo13 | (injection eo13 with ea_ en_ ec_; (first | subst ea_ | (injection ea_ with ea_; subst ea_)); subst ec_; clear en_))
                have GB13 := Aside0.mk gb13
                have GG13 := Aside0.mk HG13
                clear gb13 gl13 HG13
                obtain ⟨hx13_0, hf13_0⟩ := Kd.R_celln 0 HO_5.out (x6_1 : Int) p13 q13
                replace p13 := eq_true p13
                replace q13 := eq_true q13
                have HP14 := Kd.R_putg HO_5.out (x6_1 : Int) 1
                go_wp2_with (first | ((with_reducible refine gate_store (t := 3) (p := 28) rfl ?_); refine store_event (t := 3) (p := 28) (v := ?vo_w15) (w1 := (wr.setCell ⟨go13, (x6_1 : Int).toNat, none⟩ (.int .i64 1))) ?hg ?ho ?hn ?hr ?_; (case ho => rfl); (case hg => rfl); (case hn => rfl); (case hr => first | (go_simp; done) | (go_simp; rfl)); intro w15 hw; have hg : wr.grownBy w15 (some go13) := (by rw [hw]; exact HP14.2); have hp_ : Kd.R (Kd.int .i64) 3 w15 w.heap.size (fun _ => True) (.slice (some ⟨go13, 0, none⟩) x5_1.length co9) y179 := (by rw [hw, Ny179.out]; exact HP14.1); clear HP14; have n0_ := Aside0.mk (hp_); have n1_ := Aside0.mk ((by rw [hw]; exact below_set (HB.out) GB13.out : Below w.heap.size w w15)); clear HO_5; clear HB; have HO_5 := n0_; have HB := n1_; clear n0_ n1_; clear hg hw hp_))
                (try simp only [← hl5_1])
                go_roundg k1
                case measure => have := HK1.out; omega
                case rel => exact ⟨(y179), (wrap64 (x6_1 + 1)), (by first | rfl | (simp; done) | (simp [*]; done)), H', ⟨by have := HK1.out; omega⟩, ⟨by (try simp only [hl5_1]); (with_reducible repeat (first | apply Kd.R_alloc | apply Kd.R_drewN | apply Kd.R_drew)); exact HO_5.out⟩, ⟨by repeat (first | (with_reducible first | exact HB.out | apply below_alloc | apply pw_below_drewN | apply below_drew1) | exact HB.out)⟩⟩
              · rw [if_neg c12] at H
                exact absurd H (by simp)
            · rw [if_neg c11] at H
              have c11b0 : decide (x6_1 < (x5_1.length : Int)) = false := decide_eq_false c11
              clear c11
              have H' := Aside0.mk H
              clear H
              go_wp2
              (try simp only [← hl5_1])
              go_meet
              case rel => exact ⟨_, (x5_1), H', ⟨by have := HK1.out; first | omega | exact Nat.le_refl _⟩, ⟨by (try simp only [hl5_1]); (with_reducible repeat (first | apply Kd.R_alloc | apply Kd.R_drewN | apply Kd.R_drew)); exact HO_5.out⟩, ⟨by repeat (first | (with_reducible first | exact HB.out | apply below_alloc | apply pw_below_drewN | apply below_drew1) | exact HB.out)⟩⟩
      · rw [if_neg c10] at H
        have c10b0 : (t178 == 0) = false := beq_eq_false_iff_ne.mpr c10
        have c10b1 : (t178 != 0) = true := bne_iff_ne.mpr c10
        (first | rw [c10b0] | (simp only [i64_w, i32_w]; rw [c10b0]) | skip)
        have H' := Aside0.mk H
        clear H
        go_wp2
        go_meet
        case rel => exact ⟨_, (y175), H', ⟨by first | omega | exact Nat.le_refl _⟩, ⟨by (with_reducible repeat (first | apply Kd.R_alloc | apply Kd.R_drewN | apply Kd.R_drew)); exact HO177.out⟩, ⟨by repeat (first | (with_reducible first | exact HB.out | apply below_alloc | apply pw_below_drewN | apply below_drew1) | exact HB.out)⟩⟩
    case rest =>
      clear HC5
      try clear c1
      try clear p1
      try clear q1
      try clear hx1
      try clear c2
      try clear p2
      try clear c3
      try clear p6
      try clear c10
      try clear c10b0
      try clear c10b1
      try clear c11
      try clear c11b0
      try clear c12
      try clear c12b0
      try clear p13
      try clear q13
      try clear hx13
      try clear hf13
      try clear hx13_0
      try clear p13
      try clear p2
      try clear q13
      obtain ⟨kq, x5_4, HA, HJ4, HO_5, HB⟩ := hcut
      have hl5_4 := (Kd.R_reads' HO_5.out).1
      rw [hl5_4] at HO_5
      (try simp only [hl5_4])
      cases kq with
      | zero => exact absurd HA.out (by simp [spec_l4Share.j1])
      | succ kj4 =>
        have H := HA.out
        clear HA
        simp only [spec_l4Share.j1] at H
        replace H := Option.bind_eq_some_iff.mp H
        obtain ⟨t180, A160, H⟩ := H
        replace H : (if 0 ≤ (x5_4.length : Int) then (if ((x5_4.length : Int) : Int).toNat ≤ 281474976710656 then (spec_l4Share.l1 kj4 a0 x5_4 t180 (([] : List Int)) (([] : List Int)) (List.replicate ((x5_4.length : Int) : Int).toNat false) 0) else (none)) else (none)) = some r := H
        have A16 := Aside0.mk A160
        clear A160
        obtain ⟨y181, hy181⟩ : ∃ y_ : List Int, y_ = (([] : List Int)) := ⟨_, rfl⟩
        replace H : (if 0 ≤ (x5_4.length : Int) then (if ((x5_4.length : Int) : Int).toNat ≤ 281474976710656 then (spec_l4Share.l1 kj4 a0 x5_4 t180 y181 (([] : List Int)) (List.replicate ((x5_4.length : Int) : Int).toNat false) 0) else (none)) else (none)) = some r := by first | (rw [hy181]; with_reducible exact H) | (have H2_ := (Option.bind_some _ _).symm.trans H; rw [hy181]; with_reducible exact H2_) | (have H2_ := (Option.bind_some _ _).symm.trans H; with_reducible exact H2_) | with_reducible exact H | (rw [hy181]; exact H) | exact H
        have Ny181 := Aside0.mk hy181
        clear hy181
        obtain ⟨y184, hy184⟩ : ∃ y_ : List Int, y_ = (([] : List Int)) := ⟨_, rfl⟩
        replace H : (if 0 ≤ (x5_4.length : Int) then (if ((x5_4.length : Int) : Int).toNat ≤ 281474976710656 then (spec_l4Share.l1 kj4 a0 x5_4 t180 y181 y184 (List.replicate ((x5_4.length : Int) : Int).toNat false) 0) else (none)) else (none)) = some r := by first | (rw [hy184]; with_reducible exact H) | (have H2_ := (Option.bind_some _ _).symm.trans H; rw [hy184]; with_reducible exact H2_) | (have H2_ := (Option.bind_some _ _).symm.trans H; with_reducible exact H2_) | with_reducible exact H | (rw [hy184]; exact H) | exact H
        have Ny184 := Aside0.mk hy184
        clear hy184
        by_cases c17 : 0 ≤ (x5_4.length : Int)
        · rw [if_pos c17] at H
          have c17b0 := eq_true c17
          have c17b1 : decide (0 ≤ (x5_4.length : Int)) = true := decide_eq_true c17
          clear c17
          by_cases c18 : ((x5_4.length : Int) : Int).toNat ≤ 281474976710656
          · rw [if_pos c18] at H
            have c18b0 := eq_true c18
            have c18b1 : decide (((x5_4.length : Int) : Int).toNat ≤ 281474976710656) = true := decide_eq_true c18
            clear c18
            obtain ⟨y187, hy187⟩ : ∃ y_ : List Bool, y_ = (List.replicate ((x5_4.length : Int) : Int).toNat false) := ⟨_, rfl⟩
            replace H : (spec_l4Share.l1 kj4 a0 x5_4 t180 y181 y184 y187 0) = some r := by first | (rw [hy187]; with_reducible exact H) | (have H2_ := (Option.bind_some _ _).symm.trans H; rw [hy187]; with_reducible exact H2_) | (have H2_ := (Option.bind_some _ _).symm.trans H; with_reducible exact H2_) | with_reducible exact H | (rw [hy187]; exact H) | exact H
            have Ny187 := Aside0.mk hy187
            clear hy187
            have H' := Aside0.mk H
            clear H
            go_wp2_with (first | ((with_reducible refine gate_callee (f := 29) rfl ?_); refine goesL_ (some 30) rfl rfl Tryd.func29 (by kernel_rfl) rfl #[.slice Ao9 x5_4.length co9] rfl (by (try simp only [List.map_toArray, List.map_cons, List.map_nil]); first | done | rfl | (simp only [List.length_drop, List.length_take]; rfl)) ?_; (with_reducible refine (spec_l1Sum.calls kj4 _ _ x5_4 t180 _ ?side1 ?side2 A16.out).mono ?_); (case side1 => repeat (first | exact (Kd.R_reads' HO_5.out).2.2 | (with_reducible refine Kd.C_alloc ?_ _) | (with_reducible refine Kd.C_drewN ?_ _) | (with_reducible refine Kd.C_drew ?_))); (case side2 => exact (Kd.R_reads' HO_5.out).2.1); rintro e w' ⟨rfl, ⟨nd, rfl⟩⟩; refine ⟨_, rfl, ?_⟩) | ((with_reducible refine gate_dst (N := 31) rfl ?_); (try (refine gate_guard (by rfl) ?_; dsimp only)); refine Kd.R_lit (Kd.int .i64) _ 3 ?hg (N := 31) ?hd (xs := ([] : List Int)) (inner := []) (ok := fun _ => True) (okp := fun _ => True) ?hr ?hp (fun _ hk => hk) trivial (Below.refl _ _) (Nat.le_refl _) (by simp) ?_; (case hd => rfl); (case hg => rfl); (case hr => first | (go_simp; done) | (go_simp; rfl)); (case hp => exact (Reps.none _ _)); intro v182 w19 ho20 hb hg_ hnew_; clear hg_ hnew_; (first | rw [← Ny181.out] at ho20 | (simp only [Int.reduceToNat] at ho20; rw [← Ny181.out] at ho20)); have n0_ := Aside0.mk (Kd.R_elder' (by (with_reducible repeat (first | apply Kd.R_alloc | apply Kd.R_drewN | apply Kd.R_drew)); exact HO_5.out) (Kd.R_base ho20) hb); have n1_ := Aside0.mk (Kd.R_lower (Kd.R_new' ho20 (Kd.R_lt (by (with_reducible repeat (first | apply Kd.R_alloc | apply Kd.R_drewN | apply Kd.R_drew)); exact HO_5.out))) (below_size (by repeat (first | (with_reducible first | exact HB.out | apply below_alloc | apply pw_below_drewN | apply below_drew1) | exact HB.out)))); have n2_ := Aside0.mk (below_step (by repeat (first | (with_reducible first | exact HB.out | apply below_alloc | apply pw_below_drewN | apply below_drew1) | exact HB.out)) hb); clear HO_5; clear HB; have HO_5 := n0_; have HO183 := n1_; have HB := n2_; clear n0_ n1_ n2_; clear hb ho20) | ((with_reducible refine gate_dst (N := 32) rfl ?_); (try (refine gate_guard (by rfl) ?_; dsimp only)); refine Kd.R_lit (Kd.int .i64) _ 3 ?hg (N := 32) ?hd (xs := ([] : List Int)) (inner := []) (ok := fun _ => True) (okp := fun _ => True) ?hr ?hp (fun _ hk => hk) trivial (Below.refl _ _) (Nat.le_refl _) (by simp) ?_; (case hd => rfl); (case hg => rfl); (case hr => first | (go_simp; done) | (go_simp; rfl)); (case hp => exact (Reps.none _ _)); intro v185 w21 ho22 hb hg_ hnew_; clear hg_ hnew_; (first | rw [← Ny184.out] at ho22 | (simp only [Int.reduceToNat] at ho22; rw [← Ny184.out] at ho22)); have n0_ := Aside0.mk (Kd.R_elder' (by (with_reducible repeat (first | apply Kd.R_alloc | apply Kd.R_drewN | apply Kd.R_drew)); exact HO_5.out) (Kd.R_base ho22) hb); have n1_ := Aside0.mk (Kd.R_elder' (by (with_reducible repeat (first | apply Kd.R_alloc | apply Kd.R_drewN | apply Kd.R_drew)); exact HO183.out) (Kd.R_base ho22) hb); have n2_ := Aside0.mk (Kd.R_lower (Kd.R_new' (Kd.R_new' ho22 (Kd.R_lt (by (with_reducible repeat (first | apply Kd.R_alloc | apply Kd.R_drewN | apply Kd.R_drew)); exact HO_5.out))) (Kd.R_lt (by (with_reducible repeat (first | apply Kd.R_alloc | apply Kd.R_drewN | apply Kd.R_drew)); exact HO183.out))) (below_size (by repeat (first | (with_reducible first | exact HB.out | apply below_alloc | apply pw_below_drewN | apply below_drew1) | exact HB.out)))); have n3_ := Aside0.mk (below_step (by repeat (first | (with_reducible first | exact HB.out | apply below_alloc | apply pw_below_drewN | apply below_drew1) | exact HB.out)) hb); clear HO_5; clear HO183; clear HB; have HO_5 := n0_; have HO183 := n1_; have HO186 := n2_; have HB := n3_; clear n0_ n1_ n2_ n3_; clear hb ho22) | ((with_reducible refine gate_dst (N := 35) rfl ?_); (try (refine gate_guard (by rfl) ?_; dsimp only)); refine Kd.R_make Kd.bool _ 4 rfl (N := 35) rfl 56 _ _ rfl (x5_4.length : Int) rfl rfl Tryd.underlying56 (.bool false) 1 info4 rfl (by decide) (by omega) false (ok := fun _ => True) (okp := fun _ => True) rfl (fun _ hk => hk) trivial (of_decide_eq_true (by first | (with_reducible assumption) | assumption)) (Nat.le_trans (Nat.mul_le_mul_right _ (of_decide_eq_true (by first | (with_reducible assumption) | assumption) : (x5_4.length : Int).toNat ≤ 281474976710656)) (by omega)) (Below.refl _ _) (Nat.le_refl _) ?_; intro v188 w23 ho24 hb hg_ hnew_; clear hg_ hnew_; (first | rw [← Ny187.out] at ho24 | (simp only [Int.reduceToNat] at ho24; rw [← Ny187.out] at ho24)); have n0_ := Aside0.mk (Kd.R_below (by (with_reducible repeat (first | apply Kd.R_alloc | apply Kd.R_drewN | apply Kd.R_drew)); exact HO_5.out) hb); have n1_ := Aside0.mk (Kd.R_below (by (with_reducible repeat (first | apply Kd.R_alloc | apply Kd.R_drewN | apply Kd.R_drew)); exact HO183.out) hb); have n2_ := Aside0.mk (Kd.R_below (by (with_reducible repeat (first | apply Kd.R_alloc | apply Kd.R_drewN | apply Kd.R_drew)); exact HO186.out) hb); have n3_ := Aside0.mk (Kd.R_lower ho24 (below_size (by repeat (first | (with_reducible first | exact HB.out | apply below_alloc | apply pw_below_drewN | apply below_drew1) | exact HB.out)))); have n4_ := Aside0.mk (below_step (by repeat (first | (with_reducible first | exact HB.out | apply below_alloc | apply pw_below_drewN | apply below_drew1) | exact HB.out)) hb); clear HO_5; clear HO183; clear HO186; clear HB; have HO_5 := n0_; have HO183 := n1_; have HO186 := n2_; have HO189 := n3_; have HB := n4_; clear n0_ n1_ n2_ n3_ n4_; clear hb ho24))
            go_loopg [8, 9, 11] kj4 (fun kq v8 v9 v11 w' => ∃ (x8_2 : List Int) (x9_2 : List Int) (x11_2 : Int), v11 = .int .i64 x11_2 ∧ Aside0 (spec_l4Share.l1 kq a0 x5_4 t180 x8_2 x9_2 y187 x11_2 = some r) ∧ Aside0 (kq ≤ kj4) ∧ Aside0 (Kd.R (Kd.int .i64) 3 w' w.heap.size (fun k_ => some k_ ≠ (v8 : Value).ownBlock ∧ some k_ ≠ (v9 : Value).ownBlock) (.slice Ao9 x5_4.length co9) x5_4) ∧ Aside0 (Kd.R (Kd.int .i64) 3 w' w.heap.size (fun k_ => some k_ ≠ ((.slice Ao9 x5_4.length co9) : Value).ownBlock ∧ some k_ ≠ (v9 : Value).ownBlock) v8 x8_2) ∧ Aside0 (Kd.R (Kd.int .i64) 3 w' w.heap.size (fun k_ => some k_ ≠ ((.slice Ao9 x5_4.length co9) : Value).ownBlock ∧ some k_ ≠ (v8 : Value).ownBlock) v9 x9_2) ∧ Aside0 (Kd.R Kd.bool 4 w' w.heap.size (fun _ => True) v188 y187) ∧ Aside0 (Below w.heap.size w w'))
            case atStart => exact ⟨(y181), (y184), (0), (by first | rfl | (simp; done) | (simp [*]; done)), H', ⟨Nat.le_refl _⟩, ⟨by (try simp only [hl5_4]); (with_reducible repeat (first | apply Kd.R_alloc | apply Kd.R_drewN | apply Kd.R_drew)); exact Kd.R_mono HO_5.out (fun _ hk => ⟨hk.1.2, hk.2⟩)⟩, ⟨by (try simp only [hl5_4]); (with_reducible repeat (first | apply Kd.R_alloc | apply Kd.R_drewN | apply Kd.R_drew)); exact Kd.R_mono HO183.out (fun _ hk => ⟨hk.1.2, hk.2⟩)⟩, ⟨by (try simp only [hl5_4]); (with_reducible repeat (first | apply Kd.R_alloc | apply Kd.R_drewN | apply Kd.R_drew)); exact Kd.R_mono HO186.out (fun _ hk => ⟨hk.1.2, hk.2⟩)⟩, ⟨by (try simp only [hl5_4]); (with_reducible repeat (first | apply Kd.R_alloc | apply Kd.R_drewN | apply Kd.R_drew)); exact HO189.out⟩, ⟨by repeat (first | (with_reducible first | exact HB.out | apply below_alloc | apply pw_below_drewN | apply below_drew1) | exact HB.out)⟩⟩
            case round =>
              clear H'
              try clear c1
              try clear p1
              try clear q1
              try clear hx1
              try clear c2
              try clear p2
              try clear c3
              try clear p6
              try clear c10
              try clear c10b0
              try clear c10b1
              try clear c11
              try clear c11b0
              try clear c12
              try clear c12b0
              try clear p13
              try clear q13
              try clear hx13
              try clear hf13
              try clear c17
              try clear c17b0
              try clear c17b1
              try clear c18
              try clear c18b0
              try clear c18b1
              try clear hx13_0
              try clear p1
              try clear p13
              try clear p2
              try clear p6
              try clear q1
              try clear q13
              obtain ⟨x8_2, x9_2, x11_2, rfl, HA, HK2, HO_5, HO_8, HO_9, HO_10, HB⟩ := hrel
              cases gk with
              | zero => exact absurd HA.out (by simp [spec_l4Share.l1])
              | succ k2 =>
                have H := HA.out
                clear HA
                simp only [spec_l4Share.l1] at H
                by_cases c25 : x11_2 < (x5_4.length : Int)
                · rw [if_pos c25] at H
                  have c25b0 : decide (x11_2 < (x5_4.length : Int)) = true := decide_eq_true c25
                  clear c25
                  by_cases c26 : 0 ≤ x11_2
                  · rw [if_pos c26] at H
                    have c26b0 : decide (0 ≤ x11_2) = true := decide_eq_true c26
                    clear c26
                    by_cases c27 : t180 = 0
                    · rw [if_pos c27] at H
                      exact absurd H (by simp)
                    · rw [if_neg c27] at H
                      have c27b0 : (t180 == 0) = false := beq_eq_false_iff_ne.mpr c27
                      have c27b1 : (t180 != 0) = true := bne_iff_ne.mpr c27
                      by_cases c28 : x8_2.length < 17592186044416
                      · rw [if_pos c28] at H
                        have LMc28 := Aside0.mk c28
                        clear c28
                        obtain ⟨y191, hy191⟩ : ∃ y_ : List Int, y_ = (x8_2 ++ [wrap64 (Int.tdiv (wrap64 (a0 * (rd x5_4 x11_2))) t180)]) := ⟨_, rfl⟩
                        replace H : (if x9_2.length < 17592186044416 then (spec_l4Share.l1 k2 a0 x5_4 t180 y191 (x9_2 ++ [Int.tmod (wrap64 (a0 * (rd x5_4 x11_2))) t180]) y187 (wrap64 (x11_2 + 1))) else (none)) = some r := by first | (rw [hy191]; with_reducible exact H) | (have H2_ := (Option.bind_some _ _).symm.trans H; rw [hy191]; with_reducible exact H2_) | (have H2_ := (Option.bind_some _ _).symm.trans H; with_reducible exact H2_) | with_reducible exact H | (rw [hy191]; exact H) | exact H
                        have Ny191 := Aside0.mk hy191
                        clear hy191
                        by_cases c29 : x9_2.length < 17592186044416
                        · rw [if_pos c29] at H
                          have LMc29 := Aside0.mk c29
                          clear c29
                          obtain ⟨y195, hy195⟩ : ∃ y_ : List Int, y_ = (x9_2 ++ [Int.tmod (wrap64 (a0 * (rd x5_4 x11_2))) t180]) := ⟨_, rfl⟩
                          replace H : (spec_l4Share.l1 k2 a0 x5_4 t180 y191 y195 y187 (wrap64 (x11_2 + 1))) = some r := by first | (rw [hy195]; with_reducible exact H) | (have H2_ := (Option.bind_some _ _).symm.trans H; rw [hy195]; with_reducible exact H2_) | (have H2_ := (Option.bind_some _ _).symm.trans H; with_reducible exact H2_) | with_reducible exact H | (rw [hy195]; exact H) | exact H
                          have Ny195 := Aside0.mk hy195
                          clear hy195
                          have H' := Aside0.mk H
                          clear H
                          have p190 : 0 ≤ (x11_2 : Int) := of_decide_eq_true (by first | (with_reducible assumption) | assumption)
                          have q190 : x11_2 < (x5_4.length : Int) := of_decide_eq_true (by first | (with_reducible assumption) | assumption)
                          obtain ⟨ad190, e190, hx190_0⟩ := Kd.at_int (Kd.R_reads' HO_5.out).2.2 x11_2 p190 q190
                          cases e190
                          replace p190 := eq_true p190
                          replace q190 := eq_true q190
                          go_wp2_with (first | ((with_reducible refine gate_builtin (b := .append) (xs := #[.tmp 42, .tmp 51]) rfl ?_); (try (refine gate_guard (by rfl) ?_; dsimp only)); at_builtin; refine Kd.R_append (Kd.int .i64) (w0 := w) w.heap.size rfl (.tmp 42) (.tmp 51) 23 3 (.int .i64 0) 8 rfl Tryd.underlying23 info3 rfl (by decide) (by omega) u8 x8_2 (wrap64 (Int.tdiv (wrap64 (a0 * (rd x5_4 x11_2))) t180)) [.int .i64 (wrap64 (Int.tdiv (wrap64 (a0 * (rd x5_4 x11_2))) t180))] (fun k_ => some k_ ≠ (.slice (some ad190) x5_4.length co9 : Value).ownBlock ∧ some k_ ≠ (u9 : Value).ownBlock) (fun _ => False) rfl rfl ?aP (fun _ hk => hk.elim) ?aF ?aO ?aB ?aS ?aL ?_; (case aP => exact rfl); (case aB => exact (by repeat (first | (with_reducible first | exact HB.out | apply below_alloc | apply pw_below_drewN | apply below_drew1) | exact HB.out))); (case aF => exact (fun k_ hk => ⟨Kd.fresh' (Kd.R_lt (by (with_reducible repeat (first | apply Kd.R_alloc | apply Kd.R_drewN | apply Kd.R_drew)); exact HO_5.out)) k_ hk, Kd.fresh' (Kd.R_lt (by (with_reducible repeat (first | apply Kd.R_alloc | apply Kd.R_drewN | apply Kd.R_drew)); exact HO_9.out)) k_ hk⟩)); (case aO => exact (by (with_reducible repeat (first | apply Kd.R_alloc | apply Kd.R_drewN | apply Kd.R_drew)); exact HO_8.out)); (case aS => exact (below_size (by repeat (first | (with_reducible first | exact HB.out | apply below_alloc | apply pw_below_drewN | apply below_drew1) | exact HB.out)))); (case aL => have := LMc28.out; omega); intro v192 w30 ho hb hg hat; rw [← Ny191.out] at ho; have n0_ := Aside0.mk (Kd.R_after (ok := (fun k_ => some k_ ≠ (u9 : Value).ownBlock)) (by (with_reducible repeat (first | apply Kd.R_alloc | apply Kd.R_drewN | apply Kd.R_drew)); exact Kd.R_mono HO_5.out (fun _ hk => ⟨hk.2, hk.1⟩)) hg hat); have n1_ := Aside0.mk (Kd.R_after (ok := (fun k_ => some k_ ≠ (.slice (some ad190) x5_4.length co9 : Value).ownBlock)) (by (with_reducible repeat (first | apply Kd.R_alloc | apply Kd.R_drewN | apply Kd.R_drew)); exact HO_9.out) hg hat); have n2_ := Aside0.mk (Kd.R_over' (by (with_reducible repeat (first | apply Kd.R_alloc | apply Kd.R_drewN | apply Kd.R_drew)); exact HO_10.out) (Kd.R_typed (by (with_reducible repeat (first | apply Kd.R_alloc | apply Kd.R_drewN | apply Kd.R_drew)); exact HO_8.out)) (by decide) hg); have n3_ := Aside0.mk (hb); have n4_ := Aside0.mk (ho); clear HO_5; clear HO_9; clear HO_10; clear HB; clear HO_8; have HO_5 := n0_; have HO_9 := n1_; have HO_10 := n2_; have HB := n3_; have HO193 := n4_; clear n0_ n1_ n2_ n3_ n4_; clear ho hb hg hat; have p194 : 0 ≤ (x11_2 : Int) := of_decide_eq_true (by first | (with_reducible assumption) | assumption); have q194 : x11_2 < (x5_4.length : Int) := of_decide_eq_true (by first | (with_reducible assumption) | assumption); obtain ⟨ad194, e194, hx194_0⟩ := Kd.at_int (Kd.R_reads' HO_5.out).2.2 x11_2 p194 q194; obtain rfl : ad190 = ad194 := (by injection e194); replace p194 := eq_true p194; replace q194 := eq_true q194) | ((with_reducible refine gate_builtin (b := .append) (xs := #[.tmp 53, .tmp 62]) rfl ?_); (try (refine gate_guard (by rfl) ?_; dsimp only)); at_builtin; refine Kd.R_append (Kd.int .i64) (w0 := w) w.heap.size rfl (.tmp 53) (.tmp 62) 23 3 (.int .i64 0) 8 rfl Tryd.underlying23 info3 rfl (by decide) (by omega) u9 x9_2 (Int.tmod (wrap64 (a0 * (rd x5_4 x11_2))) t180) [.int .i64 (Int.tmod (wrap64 (a0 * (rd x5_4 x11_2))) t180)] (fun k_ => some k_ ≠ (.slice (some ad190) x5_4.length co9 : Value).ownBlock ∧ some k_ ≠ (v192 : Value).ownBlock) (fun _ => False) rfl rfl ?aP (fun _ hk => hk.elim) ?aF ?aO ?aB ?aS ?aL ?_; (case aP => exact rfl); (case aB => exact (by repeat (first | (with_reducible first | exact HB.out | apply below_alloc | apply pw_below_drewN | apply below_drew1) | exact HB.out))); (case aF => exact (fun k_ hk => ⟨Kd.fresh' (Kd.R_lt (by (with_reducible repeat (first | apply Kd.R_alloc | apply Kd.R_drewN | apply Kd.R_drew)); exact HO_5.out)) k_ hk, Kd.fresh' (Kd.R_lt (by (with_reducible repeat (first | apply Kd.R_alloc | apply Kd.R_drewN | apply Kd.R_drew)); exact HO193.out)) k_ hk⟩)); (case aO => exact (by (with_reducible repeat (first | apply Kd.R_alloc | apply Kd.R_drewN | apply Kd.R_drew)); exact HO_9.out)); (case aS => exact (below_size (by repeat (first | (with_reducible first | exact HB.out | apply below_alloc | apply pw_below_drewN | apply below_drew1) | exact HB.out)))); (case aL => have := LMc29.out; omega); intro v196 w31 ho hb hg hat; rw [← Ny195.out] at ho; have n0_ := Aside0.mk (Kd.R_after (ok := (fun k_ => some k_ ≠ (v192 : Value).ownBlock)) (by (with_reducible repeat (first | apply Kd.R_alloc | apply Kd.R_drewN | apply Kd.R_drew)); exact Kd.R_mono HO_5.out (fun _ hk => ⟨hk.2, hk.1⟩)) hg hat); have n1_ := Aside0.mk (Kd.R_over' (by (with_reducible repeat (first | apply Kd.R_alloc | apply Kd.R_drewN | apply Kd.R_drew)); exact HO_10.out) (Kd.R_typed (by (with_reducible repeat (first | apply Kd.R_alloc | apply Kd.R_drewN | apply Kd.R_drew)); exact HO_9.out)) (by decide) hg); have n2_ := Aside0.mk (Kd.R_after (ok := (fun k_ => some k_ ≠ (.slice (some ad190) x5_4.length co9 : Value).ownBlock)) (by (with_reducible repeat (first | apply Kd.R_alloc | apply Kd.R_drewN | apply Kd.R_drew)); exact HO193.out) hg hat); have n3_ := Aside0.mk (hb); have n4_ := Aside0.mk (ho); clear HO_5; clear HO_10; clear HO193; clear HB; clear HO_9; have HO_5 := n0_; have HO_10 := n1_; have HO193 := n2_; have HB := n3_; have HO197 := n4_; clear n0_ n1_ n2_ n3_ n4_; clear ho hb hg hat))
                          go_roundg k2
                          case measure => have := HJ4.out; have := HK2.out; omega
                          case rel => exact ⟨(y191), (y195), (wrap64 (x11_2 + 1)), (by first | rfl | (simp; done) | (simp [*]; done)), H', ⟨by have := HJ4.out; have := HK2.out; omega⟩, ⟨by (try simp only [hl5_4]); (with_reducible repeat (first | apply Kd.R_alloc | apply Kd.R_drewN | apply Kd.R_drew)); exact HO_5.out⟩, ⟨by (try simp only [hl5_4]); (with_reducible repeat (first | apply Kd.R_alloc | apply Kd.R_drewN | apply Kd.R_drew)); exact HO193.out⟩, ⟨by (try simp only [hl5_4]); (with_reducible repeat (first | apply Kd.R_alloc | apply Kd.R_drewN | apply Kd.R_drew)); exact HO197.out⟩, ⟨by (try simp only [hl5_4]); (with_reducible repeat (first | apply Kd.R_alloc | apply Kd.R_drewN | apply Kd.R_drew)); exact HO_10.out⟩, ⟨by repeat (first | (with_reducible first | exact HB.out | apply below_alloc | apply pw_below_drewN | apply below_drew1) | exact HB.out)⟩⟩
                        · rw [if_neg c29] at H
                          exact absurd H (by simp)
                      · rw [if_neg c28] at H
                        exact absurd H (by simp)
                  · rw [if_neg c26] at H
                    exact absurd H (by simp)
                · rw [if_neg c25] at H
                  have c25b0 : decide (x11_2 < (x5_4.length : Int)) = false := decide_eq_false c25
                  clear c25
                  replace H := Option.bind_eq_some_iff.mp H
                  obtain ⟨t198, A320, H⟩ := H
                  replace H : (spec_l4Share.l2 k2 x8_2 x9_2 y187 (wrap64 (a0 - t198))) = some r := H
                  have A32 := Aside0.mk A320
                  clear A320
                  have H' := Aside0.mk H
                  clear H
                  obtain ⟨Ao33, co33, eo33⟩ := Kd.R_slice HO_8.out
                  subst eo33
                  go_wp2_with (first | ((with_reducible refine gate_callee (f := 29) rfl ?_); refine goesL_ (some 66) rfl rfl Tryd.func29 (by kernel_rfl) rfl #[.slice Ao33 x8_2.length co33] rfl (by (try simp only [List.map_toArray, List.map_cons, List.map_nil]); first | done | rfl | (simp only [List.length_drop, List.length_take]; rfl)) ?_; (with_reducible refine (spec_l1Sum.calls k2 _ _ x8_2 t198 _ ?side1 ?side2 A32.out).mono ?_); (case side1 => repeat (first | exact (Kd.R_reads' HO_8.out).2.2 | (with_reducible refine Kd.C_alloc ?_ _) | (with_reducible refine Kd.C_drewN ?_ _) | (with_reducible refine Kd.C_drew ?_))); (case side2 => exact (Kd.R_reads' HO_8.out).2.1); rintro e w' ⟨rfl, ⟨nd, rfl⟩⟩; refine ⟨_, rfl, ?_⟩))
                  go_loopg [12] k2 (fun kq v12 w' => ∃ (x8_3 : List Int) (x10_3 : List Bool) (x12_3 : Int), v12 = .int .i64 x12_3 ∧ Aside0 (spec_l4Share.l2 kq x8_3 x9_2 x10_3 x12_3 = some r) ∧ Aside0 (kq ≤ k2) ∧ Aside0 (Kd.R (Kd.int .i64) 3 w' w.heap.size (fun k_ => some k_ ≠ (u9 : Value).ownBlock) (.slice Ao33 x8_2.length co33) x8_3) ∧ Aside0 (Kd.R (Kd.int .i64) 3 w' w.heap.size (fun k_ => some k_ ≠ ((.slice Ao33 x8_2.length co33) : Value).ownBlock) u9 x9_2) ∧ Aside0 (Kd.R Kd.bool 4 w' w.heap.size (fun _ => True) v188 x10_3) ∧ Aside0 (Below w.heap.size w w'))
                  case atStart => exact ⟨(x8_2), (y187), (wrap64 (a0 - t198)), (by first | rfl | (simp; done) | (simp [*]; done)), H', ⟨Nat.le_refl _⟩, ⟨by (try simp only [hl5_4]); (with_reducible repeat (first | apply Kd.R_alloc | apply Kd.R_drewN | apply Kd.R_drew)); exact Kd.R_mono HO_8.out (fun _ hk => hk.2)⟩, ⟨by (try simp only [hl5_4]); (with_reducible repeat (first | apply Kd.R_alloc | apply Kd.R_drewN | apply Kd.R_drew)); exact Kd.R_mono HO_9.out (fun _ hk => hk.2)⟩, ⟨by (try simp only [hl5_4]); (with_reducible repeat (first | apply Kd.R_alloc | apply Kd.R_drewN | apply Kd.R_drew)); exact HO_10.out⟩, ⟨by repeat (first | (with_reducible first | exact HB.out | apply below_alloc | apply pw_below_drewN | apply below_drew1) | exact HB.out)⟩⟩
                  case round =>
                    clear H'
                    try clear c1
                    try clear p1
                    try clear q1
                    try clear hx1
                    try clear c2
                    try clear p2
                    try clear c3
                    try clear p6
                    try clear c10
                    try clear c10b0
                    try clear c10b1
                    try clear c11
                    try clear c11b0
                    try clear c12
                    try clear c12b0
                    try clear p13
                    try clear q13
                    try clear hx13
                    try clear hf13
                    try clear c17
                    try clear c17b0
                    try clear c17b1
                    try clear c18
                    try clear c18b0
                    try clear c18b1
                    try clear p19
                    try clear q19
                    try clear hx19
                    try clear c25
                    try clear c25b0
                    try clear c26
                    try clear c26b0
                    try clear c27
                    try clear c27b0
                    try clear c27b1
                    try clear c28
                    try clear c29
                    try clear c30
                    try clear hx13_0
                    try clear hx190_0
                    try clear hx194_0
                    try clear p1
                    try clear p13
                    try clear p190
                    try clear p194
                    try clear p2
                    try clear p6
                    try clear q1
                    try clear q13
                    try clear q190
                    try clear q194
                    obtain ⟨x8_3, x10_3, x12_3, rfl, HA, HK3, HO_8, HO_9, HO_10, HB⟩ := hrel
                    have hl8_3 := (Kd.R_reads' HO_8.out).1
                    rw [hl8_3] at HO_8
                    (try simp only [hl8_3])
                    (try simp only [hl8_3] at HO_9)
                    (try simp only [hl8_3] at HO_10)
                    cases gk with
                    | zero => exact absurd HA.out (by simp [spec_l4Share.l2])
                    | succ k3 =>
                      have H := HA.out
                      clear HA
                      simp only [spec_l4Share.l2] at H
                      have HC34 := Aside0.mk H
                      clear H
                      go_upto_region 17 with (fail)
                      go_cut [74] (fun v74 wc => ∃ (kq : Nat) (x74_33 : Bool), v74 = .bool x74_33 ∧ Aside0 (spec_l4Share.j4 kq x8_3 x9_2 x10_3 x12_3 x74_33 = some r) ∧ Aside0 (kq ≤ k3) ∧ Aside0 (Kd.R (Kd.int .i64) 3 wc w.heap.size (fun k_ => some k_ ≠ (u9 : Value).ownBlock) (.slice Ao33 x8_3.length co33) x8_3) ∧ Aside0 (Kd.R (Kd.int .i64) 3 wc w.heap.size (fun k_ => some k_ ≠ ((.slice Ao33 x8_3.length co33) : Value).ownBlock) u9 x9_2) ∧ Aside0 (Kd.R Kd.bool 4 wc w.heap.size (fun _ => True) v188 x10_3) ∧ Aside0 (Below w.heap.size w wc))
                      case first =>
                        have H := HC34.out
                        clear HC34
                        by_cases c35 : x12_3 > 0
                        · rw [if_pos c35] at H
                          have c35b0 : decide (0 < x12_3) = true := decide_eq_true c35
                          clear c35
                          (first | rw [c35b0] | (simp only [i64_w, i32_w]; rw [c35b0]) | skip)
                          have H' := Aside0.mk H
                          clear H
                          go_wp2
                          go_meet
                          case rel => exact ⟨_, (decide ((x8_3.length : Int) > 0)), (by first | rfl | (simp; done) | (simp [*]; done)), H', ⟨by have := HJ4.out; have := HK2.out; have := HK3.out; first | omega | exact Nat.le_refl _⟩, ⟨by (try simp only [hl5_4]); (try simp only [hl8_3]); (with_reducible repeat (first | apply Kd.R_alloc | apply Kd.R_drewN | apply Kd.R_drew)); exact HO_8.out⟩, ⟨by (try simp only [hl5_4]); (try simp only [hl8_3]); (with_reducible repeat (first | apply Kd.R_alloc | apply Kd.R_drewN | apply Kd.R_drew)); exact HO_9.out⟩, ⟨by (try simp only [hl5_4]); (try simp only [hl8_3]); (with_reducible repeat (first | apply Kd.R_alloc | apply Kd.R_drewN | apply Kd.R_drew)); exact HO_10.out⟩, ⟨by repeat (first | (with_reducible first | exact HB.out | apply below_alloc | apply pw_below_drewN | apply below_drew1) | exact HB.out)⟩⟩
                        · rw [if_neg c35] at H
                          have c35b0 : decide (0 < x12_3) = false := decide_eq_false c35
                          clear c35
                          (first | rw [c35b0] | (simp only [i64_w, i32_w]; rw [c35b0]) | skip)
                          have H' := Aside0.mk H
                          clear H
                          go_wp2
                          go_meet
                          case rel => exact ⟨_, (false), (by first | rfl | (simp; done) | (simp [*]; done)), H', ⟨by have := HJ4.out; have := HK2.out; have := HK3.out; first | omega | exact Nat.le_refl _⟩, ⟨by (try simp only [hl5_4]); (try simp only [hl8_3]); (with_reducible repeat (first | apply Kd.R_alloc | apply Kd.R_drewN | apply Kd.R_drew)); exact HO_8.out⟩, ⟨by (try simp only [hl5_4]); (try simp only [hl8_3]); (with_reducible repeat (first | apply Kd.R_alloc | apply Kd.R_drewN | apply Kd.R_drew)); exact HO_9.out⟩, ⟨by (try simp only [hl5_4]); (try simp only [hl8_3]); (with_reducible repeat (first | apply Kd.R_alloc | apply Kd.R_drewN | apply Kd.R_drew)); exact HO_10.out⟩, ⟨by repeat (first | (with_reducible first | exact HB.out | apply below_alloc | apply pw_below_drewN | apply below_drew1) | exact HB.out)⟩⟩
                      case rest =>
                        clear HC34
                        try clear c1
                        try clear p1
                        try clear q1
                        try clear hx1
                        try clear c2
                        try clear p2
                        try clear c3
                        try clear p6
                        try clear c10
                        try clear c10b0
                        try clear c10b1
                        try clear c11
                        try clear c11b0
                        try clear c12
                        try clear c12b0
                        try clear p13
                        try clear q13
                        try clear hx13
                        try clear hf13
                        try clear c17
                        try clear c17b0
                        try clear c17b1
                        try clear c18
                        try clear c18b0
                        try clear c18b1
                        try clear p19
                        try clear q19
                        try clear hx19
                        try clear c25
                        try clear c25b0
                        try clear c26
                        try clear c26b0
                        try clear c27
                        try clear c27b0
                        try clear c27b1
                        try clear c28
                        try clear c29
                        try clear c30
                        try clear c35
                        try clear c35b0
                        try clear hx13_0
                        try clear hx190_0
                        try clear hx194_0
                        try clear p1
                        try clear p13
                        try clear p19
                        try clear p190
                        try clear p194
                        try clear p2
                        try clear p6
                        try clear q1
                        try clear q13
                        try clear q19
                        try clear q190
                        try clear q194
                        obtain ⟨kq, x74_33, rfl, HA, HJ33, HO_8, HO_9, HO_10, HB⟩ := hcut
                        cases kq with
                        | zero => exact absurd HA.out (by simp [spec_l4Share.j4])
                        | succ kj33 =>
                          have H := HA.out
                          clear HA
                          simp only [spec_l4Share.j4] at H
                          by_cases c36 : x74_33 = true
                          · subst c36
                            have H1 : ((spec_l4Next.f kj33 x9_2 x10_3).bind fun t199 => (if t199 ≥ 0 then (if 0 ≤ t199 then (if t199 < (x10_3.length : Int) then (if t199 < (x8_3.length : Int) then (spec_l4Share.l2 kj33 (x8_3.set (t199 : Int).toNat (wrap64 ((rd x8_3 t199) + 1))) x9_2 (x10_3.set (t199 : Int).toNat true) (wrap64 (x12_3 - 1))) else (none)) else (none)) else (none)) else (spec_l4Share.l2 kj33 x8_3 x9_2 x10_3 (wrap64 (x12_3 - 1))))) = some r := by rw [if_pos rfl] at H; exact H
                            clear H
                            have H := H1
                            clear H1
                            replace H := Option.bind_eq_some_iff.mp H
                            obtain ⟨t199, A370, H⟩ := H
                            replace H : (if t199 ≥ 0 then (if 0 ≤ t199 then (if t199 < (x10_3.length : Int) then (if t199 < (x8_3.length : Int) then (spec_l4Share.l2 kj33 (x8_3.set (t199 : Int).toNat (wrap64 ((rd x8_3 t199) + 1))) x9_2 (x10_3.set (t199 : Int).toNat true) (wrap64 (x12_3 - 1))) else (none)) else (none)) else (none)) else (spec_l4Share.l2 kj33 x8_3 x9_2 x10_3 (wrap64 (x12_3 - 1)))) = some r := H
                            have A37 := Aside0.mk A370
                            clear A370
                            by_cases c38 : t199 ≥ 0
                            · rw [if_pos c38] at H
                              have c38b0 : decide (0 ≤ t199) = true := decide_eq_true c38
                              clear c38
                              by_cases c39 : 0 ≤ t199
                              · rw [if_pos c39] at H
                                have c39b0 : decide (0 ≤ t199) = true := decide_eq_true c39
                                clear c39
                                by_cases c40 : t199 < (x10_3.length : Int)
                                · rw [if_pos c40] at H
                                  have c40b0 : decide (t199 < (x10_3.length : Int)) = true := decide_eq_true c40
                                  clear c40
                                  obtain ⟨y200, hy200⟩ : ∃ y_ : List Bool, y_ = (x10_3.set (t199 : Int).toNat true) := ⟨_, rfl⟩
                                  replace H : (if t199 < (x8_3.length : Int) then (spec_l4Share.l2 kj33 (x8_3.set (t199 : Int).toNat (wrap64 ((rd x8_3 t199) + 1))) x9_2 y200 (wrap64 (x12_3 - 1))) else (none)) = some r := by first | (rw [hy200]; with_reducible exact H) | (have H2_ := (Option.bind_some _ _).symm.trans H; rw [hy200]; with_reducible exact H2_) | (have H2_ := (Option.bind_some _ _).symm.trans H; with_reducible exact H2_) | with_reducible exact H | (rw [hy200]; exact H) | exact H
                                  have Ny200 := Aside0.mk hy200
                                  clear hy200
                                  by_cases c42 : t199 < (x8_3.length : Int)
                                  · rw [if_pos c42] at H
                                    have c42b0 : decide (t199 < (x8_3.length : Int)) = true := decide_eq_true c42
                                    clear c42
                                    obtain ⟨y202, hy202⟩ : ∃ y_ : List Int, y_ = (x8_3.set (t199 : Int).toNat (wrap64 ((rd x8_3 t199) + 1))) := ⟨_, rfl⟩
                                    replace H : (spec_l4Share.l2 kj33 y202 x9_2 y200 (wrap64 (x12_3 - 1))) = some r := by first | (rw [hy202]; with_reducible exact H) | (have H2_ := (Option.bind_some _ _).symm.trans H; rw [hy202]; with_reducible exact H2_) | (have H2_ := (Option.bind_some _ _).symm.trans H; with_reducible exact H2_) | with_reducible exact H | (rw [hy202]; exact H) | exact H
                                    have Ny202 := Aside0.mk hy202
                                    clear hy202
                                    have H' := Aside0.mk H
                                    clear H
                                    obtain ⟨Ao44, co44, eo44⟩ := Kd.R_slice HO_9.out
                                    subst eo44
                                    obtain ⟨Ao45, co45, eo45⟩ := Kd.R_slice HO_10.out
                                    subst eo45
                                    go_wp2_with (first | ((with_reducible refine gate_callee (f := 37) rfl ?_); refine goesL_ (some 79) rfl rfl Tryd.func37 (by kernel_rfl) rfl #[.slice Ao44 x9_2.length co44, .slice Ao45 x10_3.length co45] rfl (by (try simp only [List.map_toArray, List.map_cons, List.map_nil]); first | done | rfl | (simp only [List.length_drop, List.length_take]; rfl)) ?_; (with_reducible refine (spec_l4Next.calls kj33 _ _ x9_2 _ _ x10_3 t199 _ ?side1 ?side2 ?side3 ?side4 A37.out).mono ?_); (case side1 => repeat (first | exact (Kd.R_reads' HO_9.out).2.2 | (with_reducible refine Kd.C_alloc ?_ _) | (with_reducible refine Kd.C_drewN ?_ _) | (with_reducible refine Kd.C_drew ?_))); (case side2 => exact (Kd.R_reads' HO_9.out).2.1); (case side3 => repeat (first | exact (Kd.R_reads' HO_10.out).2.2 | (with_reducible refine Kd.C_alloc ?_ _) | (with_reducible refine Kd.C_drewN ?_ _) | (with_reducible refine Kd.C_drew ?_))); (case side4 => exact (Kd.R_reads' HO_10.out).2.1); rintro e w' ⟨rfl, ⟨nd, rfl⟩⟩; refine ⟨_, rfl, ?_⟩; (try (rw [drewN_self wc]; generalize hq_ : World.drewN wc _ = wc; have n0_ : Aside0 (Kd.R Kd.bool 4 wc w.heap.size (fun _ => True) (.slice Ao45 x10_3.length co45) x10_3) := ⟨by rw [← hq_]; exact (by (with_reducible repeat (first | apply Kd.R_alloc | apply Kd.R_drewN | apply Kd.R_drew)); exact HO_10.out)⟩; have n1_ : Aside0 (Kd.R (Kd.int .i64) 3 wc w.heap.size (fun k_ => some k_ ≠ (.slice Ao44 x9_2.length co44 : Value).ownBlock) (.slice Ao33 x8_3.length co33) x8_3) := ⟨by rw [← hq_]; exact (by (with_reducible repeat (first | apply Kd.R_alloc | apply Kd.R_drewN | apply Kd.R_drew)); exact HO_8.out)⟩; have n2_ : Aside0 (Kd.R (Kd.int .i64) 3 wc w.heap.size (fun k_ => some k_ ≠ (.slice Ao33 x8_3.length co33 : Value).ownBlock) (.slice Ao44 x9_2.length co44) x9_2) := ⟨by rw [← hq_]; exact (by (with_reducible repeat (first | apply Kd.R_alloc | apply Kd.R_drewN | apply Kd.R_drew)); exact HO_9.out)⟩; have n3_ : Aside0 (Below w.heap.size w wc) := ⟨by rw [← hq_]; exact (by repeat (first | (with_reducible first | exact HB.out | apply below_alloc | apply pw_below_drewN | apply below_drew1) | exact HB.out))⟩; clear HO_10 HO_8 HO_9 HB hq_; have HO_10 := n0_; have HO_8 := n1_; have HO_9 := n2_; have HB := n3_; clear n0_ n1_ n2_ n3_)); have p41 : 0 ≤ (t199 : Int) := of_decide_eq_true (by first | (with_reducible assumption) | assumption); have q41 : (t199 : Int) < ((x10_3.length : Int) : Int) := of_decide_eq_true (by first | (with_reducible assumption) | assumption); obtain ⟨go41, co41, eo41, gb41, gl41, cl41, HG41⟩ := Kd.R_form HO_10.out (by omega); (first | cases eo41 | (injection eo41 with ea_ en_ ec_; (first | subst ea_ | (injection ea_ with ea_; subst ea_)); subst ec_; clear en_)); have GB41 := Aside0.mk gb41; have GG41 := Aside0.mk HG41; clear gb41 gl41 HG41; obtain ⟨hx41_0, hf41_0⟩ := Kd.R_celln false HO_10.out (t199 : Int) p41 q41; replace p41 := eq_true p41; replace q41 := eq_true q41; obtain ⟨hy46_, hz46_⟩ := Kd.R_celln false HO_10.out (t199 : Int) (of_decide_eq_true (by first | (with_reducible assumption) | assumption)) (of_decide_eq_true (by first | (with_reducible assumption) | assumption)); have HP46 := Kd.R_putg HO_10.out (t199 : Int) true) | ((with_reducible refine gate_store (t := 4) (p := 84) rfl ?_); refine store_event (t := 4) (p := 84) (v := ?vo_w47) (w1 := (wc.setCell ⟨go41, (t199 : Int).toNat, none⟩ (.bool true))) ?hg ?ho ?hn ?hr ?_; (case ho => rfl); (case hg => rfl); (case hn => rfl); (case hr => first | (go_simp; done) | (go_simp; rfl)); intro w47 hw; have hg : wc.grownBy w47 (some go41) := (by rw [hw]; exact HP46.2); have hp_ : Kd.R Kd.bool 4 w47 w.heap.size (fun _ => True) (.slice (some ⟨go41, 0, none⟩) x10_3.length co45) y200 := (by rw [hw, Ny200.out]; exact HP46.1); clear HP46; have n0_ := Aside0.mk (Kd.R_over' (v := (.slice (some ⟨go41, 0, none⟩) x10_3.length co45)) (by (with_reducible repeat (first | apply Kd.R_alloc | apply Kd.R_drewN | apply Kd.R_drew)); exact HO_8.out) (Kd.R_typed HO_10.out) (by decide) hg); have n1_ := Aside0.mk (Kd.R_over' (v := (.slice (some ⟨go41, 0, none⟩) x10_3.length co45)) (by (with_reducible repeat (first | apply Kd.R_alloc | apply Kd.R_drewN | apply Kd.R_drew)); exact HO_9.out) (Kd.R_typed HO_10.out) (by decide) hg); have n2_ := Aside0.mk (hp_); have n3_ := Aside0.mk ((by rw [hw]; exact below_set (HB.out) GB41.out : Below w.heap.size w w47)); clear HO_8; clear HO_9; clear HO_10; clear HB; have HO_8 := n0_; have HO_9 := n1_; have HO_10 := n2_; have HB := n3_; clear n0_ n1_ n2_ n3_; clear hg hw hp_; have p201 : 0 ≤ (t199 : Int) := of_decide_eq_true (by first | (with_reducible assumption) | assumption); have q201 : t199 < (x8_3.length : Int) := of_decide_eq_true (by first | (with_reducible assumption) | assumption); obtain ⟨ad201, e201, hx201_0⟩ := Kd.at_int (Kd.R_reads' HO_8.out).2.2 t199 p201 q201; cases e201; replace p201 := eq_true p201; replace q201 := eq_true q201; have p43 : 0 ≤ (t199 : Int) := of_decide_eq_true (by first | (with_reducible assumption) | assumption); have q43 : (t199 : Int) < ((x8_3.length : Int) : Int) := of_decide_eq_true (by first | (with_reducible assumption) | assumption); obtain ⟨go43, co43, eo43, gb43, gl43, cl43, HG43⟩ := Kd.R_form HO_8.out (by omega); (first | cases eo43 | (injection eo43 with ea_ en_ ec_; (first | subst ea_ | (injection ea_ with ea_; subst ea_)); subst ec_; clear en_)); have GB43 := Aside0.mk gb43; have GG43 := Aside0.mk HG43; clear gb43 gl43 HG43; (first | simp only [add_plain] at hx201_0 | skip); obtain ⟨hx43_0, hf43_0⟩ := Kd.R_celln 0 HO_8.out (t199 : Int) p43 q43; replace p43 := eq_true p43; replace q43 := eq_true q43; obtain ⟨hy48_, hz48_⟩ := Kd.R_celln 0 HO_8.out (t199 : Int) (of_decide_eq_true (by first | (with_reducible assumption) | assumption)) (of_decide_eq_true (by first | (with_reducible assumption) | assumption)); have HP48 := Kd.R_putg HO_8.out (t199 : Int) (wrap64 ((rd x8_3 t199) + 1))) | ((with_reducible refine gate_store (t := 3) (p := 92) rfl ?_); refine store_event (t := 3) (p := 92) (v := ?vo_w49) (w1 := (w47.setCell ⟨go43, (t199 : Int).toNat, none⟩ (.int .i64 (wrap64 ((rd x8_3 t199) + 1))))) ?hg ?ho ?hn ?hr ?_; (case ho => rfl); (case hg => rfl); (case hn => rfl); (case hr => first | (go_simp; done) | (go_simp; rfl)); intro w49 hw; have hg : w47.grownBy w49 (some go43) := (by rw [hw]; exact HP48.2); have hp_ : Kd.R (Kd.int .i64) 3 w49 w.heap.size (fun k_ => some k_ ≠ (.slice Ao44 x9_2.length co44 : Value).ownBlock) (.slice (some ⟨go43, 0, none⟩) x8_3.length co33) y202 := (by rw [hw, Ny202.out]; exact HP48.1); clear HP48; have n0_ := Aside0.mk (hp_); have n1_ := Aside0.mk (Kd.R_after (v := (.slice (some ⟨go43, 0, none⟩) x8_3.length co33)) (v1 := (.slice (some ⟨go43, 0, none⟩) x8_3.length co33)) (ok := (fun _ => True)) (by (with_reducible repeat (first | apply Kd.R_alloc | apply Kd.R_drewN | apply Kd.R_drew)); exact Kd.R_mono HO_9.out (fun _ hk => ⟨trivial, hk⟩)) hg (.inl rfl)); have n2_ := Aside0.mk (Kd.R_over' (v := (.slice (some ⟨go43, 0, none⟩) x8_3.length co33)) (by (with_reducible repeat (first | apply Kd.R_alloc | apply Kd.R_drewN | apply Kd.R_drew)); exact HO_10.out) (Kd.R_typed HO_8.out) (by decide) hg); have n3_ := Aside0.mk ((by rw [hw]; exact below_set (HB.out) GB43.out : Below w.heap.size w w49)); clear HO_8; clear HO_9; clear HO_10; clear HB; have HO_8 := n0_; have HO_9 := n1_; have HO_10 := n2_; have HB := n3_; clear n0_ n1_ n2_ n3_; clear hg hw hp_))
                                    (try simp only [← hl8_3])
                                    go_roundg kj33
                                    case measure => have := HJ4.out; have := HK2.out; have := HK3.out; have := HJ33.out; omega
                                    case rel => exact ⟨(y202), (y200), (wrap64 (x12_3 - 1)), (by first | rfl | (simp; done) | (simp [*]; done)), H', ⟨by have := HJ4.out; have := HK2.out; have := HK3.out; have := HJ33.out; omega⟩, ⟨by (try simp only [hl5_4]); (try simp only [hl8_3]); (with_reducible repeat (first | apply Kd.R_alloc | apply Kd.R_drewN | apply Kd.R_drew)); exact HO_8.out⟩, ⟨by (try simp only [hl5_4]); (try simp only [hl8_3]); (with_reducible repeat (first | apply Kd.R_alloc | apply Kd.R_drewN | apply Kd.R_drew)); exact Kd.R_mono HO_9.out (fun _ hk => hk.2)⟩, ⟨by (try simp only [hl5_4]); (try simp only [hl8_3]); (with_reducible repeat (first | apply Kd.R_alloc | apply Kd.R_drewN | apply Kd.R_drew)); exact HO_10.out⟩, ⟨by repeat (first | (with_reducible first | exact HB.out | apply below_alloc | apply pw_below_drewN | apply below_drew1) | exact HB.out)⟩⟩
                                  · rw [if_neg c42] at H
                                    exact absurd H (by simp)
                                · rw [if_neg c40] at H
                                  exact absurd H (by simp)
                              · rw [if_neg c39] at H
                                exact absurd H (by simp)
                            · rw [if_neg c38] at H
                              have c38b0 : decide (0 ≤ t199) = false := decide_eq_false c38
                              clear c38
                              have H' := Aside0.mk H
                              clear H
                              obtain ⟨Ao50, co50, eo50⟩ := Kd.R_slice HO_9.out
                              subst eo50
                              obtain ⟨Ao51, co51, eo51⟩ := Kd.R_slice HO_10.out
                              subst eo51
                              go_wp2_with (first | ((with_reducible refine gate_callee (f := 37) rfl ?_); refine goesL_ (some 79) rfl rfl Tryd.func37 (by kernel_rfl) rfl #[.slice Ao50 x9_2.length co50, .slice Ao51 x10_3.length co51] rfl (by (try simp only [List.map_toArray, List.map_cons, List.map_nil]); first | done | rfl | (simp only [List.length_drop, List.length_take]; rfl)) ?_; (with_reducible refine (spec_l4Next.calls kj33 _ _ x9_2 _ _ x10_3 t199 _ ?side1 ?side2 ?side3 ?side4 A37.out).mono ?_); (case side1 => repeat (first | exact (Kd.R_reads' HO_9.out).2.2 | (with_reducible refine Kd.C_alloc ?_ _) | (with_reducible refine Kd.C_drewN ?_ _) | (with_reducible refine Kd.C_drew ?_))); (case side2 => exact (Kd.R_reads' HO_9.out).2.1); (case side3 => repeat (first | exact (Kd.R_reads' HO_10.out).2.2 | (with_reducible refine Kd.C_alloc ?_ _) | (with_reducible refine Kd.C_drewN ?_ _) | (with_reducible refine Kd.C_drew ?_))); (case side4 => exact (Kd.R_reads' HO_10.out).2.1); rintro e w' ⟨rfl, ⟨nd, rfl⟩⟩; refine ⟨_, rfl, ?_⟩))
                              (try simp only [← hl8_3])
                              go_roundg kj33
                              case measure => have := HJ4.out; have := HK2.out; have := HK3.out; have := HJ33.out; omega
                              case rel => exact ⟨(x8_3), (x10_3), (wrap64 (x12_3 - 1)), (by first | rfl | (simp; done) | (simp [*]; done)), H', ⟨by have := HJ4.out; have := HK2.out; have := HK3.out; have := HJ33.out; omega⟩, ⟨by (try simp only [hl5_4]); (try simp only [hl8_3]); (with_reducible repeat (first | apply Kd.R_alloc | apply Kd.R_drewN | apply Kd.R_drew)); exact HO_8.out⟩, ⟨by (try simp only [hl5_4]); (try simp only [hl8_3]); (with_reducible repeat (first | apply Kd.R_alloc | apply Kd.R_drewN | apply Kd.R_drew)); exact HO_9.out⟩, ⟨by (try simp only [hl5_4]); (try simp only [hl8_3]); (with_reducible repeat (first | apply Kd.R_alloc | apply Kd.R_drewN | apply Kd.R_drew)); exact HO_10.out⟩, ⟨by repeat (first | (with_reducible first | exact HB.out | apply below_alloc | apply pw_below_drewN | apply below_drew1) | exact HB.out)⟩⟩
                          · replace c36 := Bool.eq_false_iff.mpr c36
                            subst c36
                            have H1 : (some x8_3) = some r := by rw [if_neg (show ¬ (false = true) by decide)] at H; exact H
                            clear H
                            have H := H1
                            clear H1
                            obtain rfl := Option.some.inj H
                            go_wp2
                            go_ret
                            exact ⟨_, by first | rfl | (simp [errW_none, errW_some] <;> rfl) | (simp [*, errW_none, errW_some] <;> rfl), by (with_reducible repeat (first | apply Kd.R_alloc | apply Kd.R_drewN | apply Kd.R_drew)); exact Kd.R_mono HO_8.out (fun _ hk => trivial), by repeat (first | (with_reducible first | exact HB.out | apply below_alloc | apply pw_below_drewN | apply below_drew1) | exact HB.out)⟩
          · rw [if_neg c18] at H
            exact absurd H (by simp)
        · rw [if_neg c17] at H
          exact absurd H (by simp)
  · rw [if_neg c3] at H
    exact absurd H (by simp)

/-! ### impl_ShrShare: function 15 (by hand) -/
-- imports: Derived.Shelf.SlSortCmp.Insertion Derived.Shelf.SlSortFunc.HeapSort Derived.Shelf.Lay Derived.Ground.SlsfProg Derived.Deep.QuietTactic
shelf_lay_g SlLaysF.n20 Slsf 20 at Tryd 48 as Tryd.laysIns
/-- The greater key first. -/
def ppGt {n : Nat} (key : Fin (n + 1) → Int) (x y : Fin (n + 1)) : Bool := decide (key y < key x)
/-- The numbers below n + 1, in order. -/
def ppIds (n : Nat) : Array (Fin (n + 1)) := Array.ofFn (fun i : Fin (n + 1) => i)
/-- The order that a stable sort gives. -/
def ppOrd {n : Nat} (key : Fin (n + 1) → Int) : Array (Fin (n + 1)) := Sort.insertionSort (ppGt key) (ppIds n) 0 (ppIds n).size
/-- What is left over of what is due. -/
def ppKey (t s : Int) (l : List Int) (n : Nat) (i : Fin (n + 1)) : Int := Int.tmod (wrap64 (t * rd l (i.val : Int))) s
def ppOrder (t s : Int) (l : List Int) : List Int := (ppOrd (ppKey t s l (l.length - 1))).toList.map (fun i => (i.val : Int))
/-- One more to each of them. -/
def ppGive (out : List Int) : List Int → List Int
  | [] => out
  | i :: r => ppGive (out.set i.toNat (wrap64 (rd out i + 1))) r
def ppEnc {n : Nat} (x : Fin (n + 1)) : Value := .int .i64 (x.val : Int)
def ppCmp {n : Nat} (key : Fin (n + 1) → Int) (x y : Fin (n + 1)) : Int := if key y < key x then -1 else if key x < key y then 1 else 0
theorem ppCmp_lt {n : Nat} (key : Fin (n + 1) → Int) : Go.Proofs.ltOf (ppCmp key) = ppGt key := by
  funext x y
  unfold Go.Proofs.ltOf ppCmp ppGt
  split
  · rename_i h
    rw [decide_eq_true h]; rfl
  · rename_i h
    rw [decide_eq_false h]
    split <;> rfl
theorem ppCmp_eq {n : Nat} (key : Fin (n + 1) → Int) (x y : Fin (n + 1)) : cmp_Compare_int.f (key y) (key x) = some (ppCmp key x y) := by
  unfold cmp_Compare_int.f cmp_isNaN_int.f ppCmp
  simp only [Option.bind_some]
  split
  · rename_i h; simp at h
  · split
    · rename_i h; simp at h
    · split
      · rfl
      · split
        · rfl
        · rfl
/-- A world some draws on. -/
structure Dr (w : World) where
  world : World
  drew : ∃ n, world = w.drewN n
instance (w : World) : Inhabited (Dr w) := ⟨⟨w, 0, rfl⟩⟩
theorem Dr.cell {w : World} {p : Addr} {v : Value} (h : w.cell? p = some v) : ∀ u : Dr w, u.world.cell? p = some v := fun u => by
  obtain ⟨W, n, rfl⟩ := u
  exact h
theorem Calls.dr {P : Program} {f : FuncId} {args : Array Value} {w : World} {u : Dr w} {v : Value} (h : Calls P f args u.world fun e w' => e = .returned v ∧ Drawn0 u.world w') : Calls P f args u.world fun e w'' => e = .returned v ∧ ∃ u' : Dr w, w'' = u'.world :=
  h.mono fun _ w' ⟨he, hb⟩ => by
    obtain ⟨m, hm⟩ := hb
    obtain ⟨W, n, e⟩ := u
    exact ⟨he, ⟨w', n + m, by rw [hm]; show W.drewN m = _; rw [e, World.drewN_drewN]⟩, rfl⟩
theorem region_dr {P : Program} {id : Nat} {Q : Exit → Act → World → Prop} {a : Act} {w : World} {l : List Oper} (hm : P.follows .mixedOrders = true) (hB : Region.lexB .any l.toArray = true)
    (h : wpQuiet P l.toArray (fun w' => ∃ u : Dr w, w' = u.world) (fun a' => ∀ w', (∃ u : Dr w, w' = u.world) → Q .normal a' w') l a) : (Code.region id l.toArray true).wp P Q a w :=
  wp_region_quiet (C := fun w' => ∃ u : Dr w, w' = u.world) hm hB ⟨⟨_, 1, rfl⟩, rfl⟩ (by simpa using h)
set_option maxHeartbeats 4000000 in
set_option maxRecDepth 100000 in
/-- What ShrShare's closure says of two of the order. -/
theorem clo_ShrShare (t s : Int) (l : List Int) (n : Nat) (hn : l.length = n + 1) (hs : s ≠ 0) (bT bW bS : Nat) (A1 : Option Addr) (c1 : Nat) (x y : Fin (n + 1)) (W : World) (h1 : W.cell? ⟨bT, 0, none⟩ = some (.int .i64 t)) (h2 : W.cell? ⟨bW, 0, none⟩ = some (.slice A1 l.length c1)) (h3 : W.cell? ⟨bS, 0, none⟩ = some (.int .i64 s)) (hr : Kd.C (Kd.int .i64) W A1 l.length l) :
    Calls Tryd.prog 27 #[.int .i64 (x.val : Int), .int .i64 (y.val : Int), .pointer (some ⟨bT, 0, none⟩), .pointer (some ⟨bW, 0, none⟩), .pointer (some ⟨bS, 0, none⟩)] W fun e w' => e = .returned (.int .i64 (ppCmp (ppKey t s l n) x y)) ∧ ∃ q, w' = W.drewN q := by
  have HC := Aside0.mk (ppCmp_eq (ppKey t s l n) x y)
  have xl : (x.val : Int) < (l.length : Int) := by have := x.isLt; omega
  have yl : (y.val : Int) < (l.length : Int) := by have := y.isLt; omega
  obtain ⟨ad, eA, k1⟩ := Kd.at_int hr (x.val : Int) (by omega) xl
  obtain ⟨ad2, eB, k2⟩ := Kd.at_int hr (y.val : Int) (by omega) yl
  cases eA
  obtain rfl := Option.some.inj eB
  have hs0 : (s == 0) = false := by simpa using hs
  have ex : Int.tmod (wrap64 (t * rd l (x.val : Int))) s = ppKey t s l n x := rfl
  have ey : Int.tmod (wrap64 (t * rd l (y.val : Int))) s = ppKey t s l n y := rfl
  obtain ⟨kx, hkx⟩ : ∃ kx, ppKey t s l n x = kx := ⟨_, rfl⟩
  obtain ⟨ky, hky⟩ : ∃ ky, ppKey t s l n y = ky := ⟨_, rfl⟩
  rw [hkx] at ex HC
  rw [hky] at ey HC
  clear hkx hky hr
  generalize ppCmp (ppKey t s l n) x y = r at HC ⊢
  go_enter Tryd.func27, Tryd.ntmps27
  go_upto_region 1 with (fail)
  simp only [Int.toNat_natCast] at k1 k2
  have h1 := Dr.cell h1
  have h2 := Dr.cell h2
  have h3 := Dr.cell h3
  have k1 := Dr.cell k1
  have k2 := Dr.cell k2
  refine region_dr (by kernel_rfl) (by kernel_rfl) ?_
  repeat (go_big_quiet_step (first | (go_at_call 28; exact Calls.dr (cmp_Compare_int.calls _ _ _ _ HC.out))))
  refine wpQuiet_nil ?_
  rintro W8 ⟨⟨W9, hb3⟩, rfl⟩
  go_wp2
  go_ret
  exact ⟨rfl, hb3⟩
set_option maxHeartbeats 4000000 in
set_option maxRecDepth 100000 in
/-- slices.SortStableFunc of few: the insertion sort. -/
theorem srt_stable0 {n : Nat} (cf : Fin (n + 1) → Fin (n + 1) → Int) (gc : Nat) (cb : Array Value) (blk cap : Nat) (d : Array (Fin (n + 1))) (w : World) (eg : ∀ args w, (callFunc gc args).run Tryd.prog w = .ok (.enter gc args) w) (hcmp : Go.Proofs.CmpReads Tryd.prog gc cb ppEnc cf blk 0 d.size w) (hH : Sort.Holds ppEnc w blk 0 d) (hd : d.size ≤ 19) :
    Calls Tryd.prog 35 #[.slice (some ⟨blk, 0, none⟩) d.size cap, .int .i64 (d.size : Int), .func (.func gc) #[] cb] w fun e w' => e = .returned (.tuple #[]) ∧ ∃ m, w' = (Sort.putRow ppEnc w blk 0 (Sort.insertionSort (Go.Proofs.ltOf cf) d 0 d.size)).drewN m := by
  have hcon := Go.Proofs.Any.insertionSortCmpFunc_one Tryd.laysIns ppEnc (fun _ => rfl) cf gc cb blk 0 cap 0 d.size d w eg hcmp hH (Nat.zero_le _) (Nat.le_refl _) (by omega)
  change Calls Tryd.prog 48 _ _ _ at hcon
  have b0 : decide ((20 : Int) ≤ (d.size : Int)) = false := decide_eq_false (by omega)
  have b1 : decide (20 ≤ d.size) = false := decide_eq_false (by omega)
  have b2 : decide ((20 : Int) < (d.size : Int)) = false := decide_eq_false (by omega)
  have b3 : decide (20 < d.size) = false := decide_eq_false (by omega)
  clear hcmp hH hd
  generalize Sort.insertionSort (Go.Proofs.ltOf cf) d 0 d.size = r at hcon ⊢
  have HC := Aside0.mk hcon
  clear hcon
  go_enter Tryd.func35, Tryd.ntmps35
  go_wp2
  go_loopg [7, 8] 1 (fun gg s7 s8 wr => s7 = .int .i64 0 ∧ s8 = .int .i64 20 ∧ wr = w)
  case atStart => exact ⟨rfl, rfl, rfl⟩
  case round =>
    obtain ⟨rfl, rfl, hww⟩ := hrel
    have hww := hww.symm
    subst hww
    go_wp2_with (go_at_call 48; refine HC.out.mono ?_; rintro e w' ⟨rfl, m, rfl⟩)
    go_loopg [6, 7, 8] 1 (fun gg s6 s7 s8 wr => s6 = .int .i64 20 ∧ wr = (Sort.putRow ppEnc w blk 0 r).drewN m)
    case atStart => exact ⟨rfl, rfl⟩
    case round =>
      obtain ⟨rfl, rfl⟩ := hrel
      go_wp2
      first | go_ret | go_end0
      exact ⟨rfl, m, rfl⟩
set_option maxHeartbeats 4000000 in
set_option maxRecDepth 100000 in
theorem srt_stable {n : Nat} (cf : Fin (n + 1) → Fin (n + 1) → Int) (gc : Nat) (cb : Array Value) (blk cap : Nat) (d : Array (Fin (n + 1))) (w : World) (eg : ∀ args w, (callFunc gc args).run Tryd.prog w = .ok (.enter gc args) w) (hcmp : Go.Proofs.CmpReads Tryd.prog gc cb ppEnc cf blk 0 d.size w) (hH : Sort.Holds ppEnc w blk 0 d) (hd : d.size ≤ 19) :
    Calls Tryd.prog 26 #[.slice (some ⟨blk, 0, none⟩) d.size cap, .func (.func gc) #[] cb] w fun e w' => e = .returned (.tuple #[]) ∧ ∃ m, w' = (Sort.putRow ppEnc w blk 0 (Sort.insertionSort (Go.Proofs.ltOf cf) d 0 d.size)).drewN m := by
  have HC := Aside0.mk (srt_stable0 cf gc cb blk cap d w eg hcmp hH hd)
  clear hcmp hH hd
  generalize Sort.insertionSort (Go.Proofs.ltOf cf) d 0 d.size = r at HC ⊢
  go_enter Tryd.func26, Tryd.ntmps26
  go_wp2_with (go_at_call 35; refine HC.out.mono ?_; rintro e w' ⟨rfl, m, rfl⟩)
  first | go_ret | go_end0
  exact ⟨rfl, m, rfl⟩
/-- What is due to each, less what is no whole. -/
def ppOut0 (t s : Int) (l : List Int) : List Int := l.map fun x => wrap64 (Int.tdiv (wrap64 (t * x)) s)
def impl_ShrShare.f (k : Nat) (a0 : Int) (l1 : List Int) : Option (List Int) :=
  if 1 ≤ l1.length ∧ l1.length ≤ 19 then (impl_ShrOk.f k a0 l1).bind fun b => if b = true then (impl_sumOf.f k l1).bind fun s => if s ≠ 0 then (impl_sumOf.f k (ppOut0 a0 s l1)).bind fun q => if 0 ≤ wrap64 (a0 - q) ∧ wrap64 (a0 - q) ≤ (l1.length : Int) then some (ppGive (ppOut0 a0 s l1) ((ppOrder a0 s l1).take (wrap64 (a0 - q)).toNat)) else none else none else none else none
theorem impl_ShrShare.mono : ∀ a0 a1 k, LeO (impl_ShrShare.f k a0 a1) (impl_ShrShare.f (k + 1) a0 a1) := fun _ _ _ => by
  unfold impl_ShrShare.f
  exact LeO.ite (LeO.bind (impl_ShrOk.mono _ _ _) fun _ => LeO.ite (LeO.bind (impl_sumOf.mono _ _) fun _ => LeO.ite (LeO.bind (impl_sumOf.mono _ _) fun _ => LeO.refl _) (LeO.none _)) (LeO.none _)) (LeO.none _)
theorem impl_ShrShare.parts {k : Nat} {a0 : Int} {l1 r : List Int} (h : impl_ShrShare.f k a0 l1 = some r) : ∃ n s q, l1.length = n + 1 ∧ n + 1 ≤ 19 ∧ Aside0 (impl_ShrOk.f k a0 l1 = some true) ∧ Aside0 (impl_sumOf.f k l1 = some s) ∧ s ≠ 0 ∧ Aside0 (impl_sumOf.f k (ppOut0 a0 s l1) = some q) ∧ (0 ≤ wrap64 (a0 - q) ∧ wrap64 (a0 - q) ≤ (l1.length : Int)) ∧ r = ppGive (ppOut0 a0 s l1) ((ppOrder a0 s l1).take (wrap64 (a0 - q)).toNat) := by
  unfold impl_ShrShare.f at h
  split at h
  · rename_i h0
    obtain ⟨b, h1, h⟩ := Option.bind_eq_some_iff.1 h
    cases b
    · rw [if_neg (by decide)] at h; cases h
    rw [if_pos rfl] at h
    obtain ⟨s, h2, h⟩ := Option.bind_eq_some_iff.1 h
    split at h
    · rename_i h3
      obtain ⟨q, h4, h⟩ := Option.bind_eq_some_iff.1 h
      split at h
      · rename_i h5
        exact ⟨l1.length - 1, s, q, by omega, by omega, ⟨h1⟩, ⟨h2⟩, h3, ⟨h4⟩, h5, (Option.some.inj h).symm⟩
      · cases h
    · cases h
  · cases h
theorem ppGive_app : ∀ (out xs : List Int) (i : Int), ppGive out (xs ++ [i]) = (ppGive out xs).set i.toNat (wrap64 (rd (ppGive out xs) i + 1))
  | out, [], i => rfl
  | out, x :: r, i => by
    show ppGive (out.set x.toNat (wrap64 (rd out x + 1))) (r ++ [i]) = _
    rw [ppGive_app]
    rfl
theorem ppGive_len : ∀ (out xs : List Int), (ppGive out xs).length = out.length
  | out, [] => rfl
  | out, x :: r => by
    show (ppGive (out.set x.toNat (wrap64 (rd out x + 1))) r).length = _
    rw [ppGive_len, List.length_set]
theorem put_grown {α : Type} [Inhabited α] (enc : α → Value) (W : World) (blk m : Nat) (d : Array α) : W.grownBy ((Sort.putRow enc W blk 0 d).drewN m) (some blk) := ⟨rfl, rfl, rfl, by show W.heap.size ≤ (Sort.putRow enc W blk 0 d).heap.size; rw [Sort.size_putRow]; exact Nat.le_refl _, fun k hk hr => by
  show (W.heap.modify blk _)[k]? = _
  rw [Array.getElem?_modify, if_neg (fun e => hr (by rw [e]))]⟩
/-- What stands while the shares are made. -/
structure ShrSt (w : World) (a0 s : Int) (A1 : Option Addr) (c1 : Nat) (l1 : List Int) (bS g1 d1 g2 d2 : Nat) (xs ys : List Int) (W : World) : Prop where
  bl : Below w.heap.size w W
  ct : W.cell? ⟨w.heap.size, 0, none⟩ = some (.int .i64 a0)
  cw : W.cell? ⟨w.heap.size + 1, 0, none⟩ = some (.slice A1 l1.length c1)
  cs : W.cell? ⟨bS, 0, none⟩ = some (.int .i64 s)
  r1 : Kd.R (Kd.int .i64) 3 W w.heap.size (fun _ => True) (.slice (some ⟨g1, 0, none⟩) xs.length d1) xs
  r2 : Kd.R (Kd.int .i64) 3 W w.heap.size (fun _ => True) (.slice (some ⟨g2, 0, none⟩) ys.length d2) ys
theorem R_int_cell {W : World} {base : Nat} {ok : Nat → Prop} {g c : Nat} {xs : List Int} (h : Kd.R (Kd.int .i64) 3 W base ok (.slice (some ⟨g, 0, none⟩) xs.length c) xs) (i : Nat) (hi : i < xs.length) : W.cell? ⟨g, i, none⟩ = some (.int .i64 (rd xs (i : Int))) ∧ W.frozen? ⟨g, i, none⟩ = false := by
  obtain ⟨ad, e, hc⟩ := Kd.at_int (Kd.R_reads' h).2.2 (i : Int) (by omega) (by omega)
  obtain rfl := Option.some.inj e
  obtain ⟨cs, _, _, _, hf⟩ := Kd.R_elem h (0 : Int) (i : Int) (by omega) (by omega)
  rw [add_at] at hc
  have hf0 := hf 0
  have e1 : (Kd.int .i64).sz = 1 := rfl
  rw [e1] at hf0
  simp only [Int.toNat_natCast, Nat.mul_one, Nat.add_zero, Nat.zero_add] at hc hf0
  exact ⟨hc, hf0⟩
/-- Both rows get a number at a place. -/
theorem ShrSt.put {w : World} {a0 s : Int} {A1 : Option Addr} {c1 : Nat} {l1 : List Int} {bS g1 d1 g2 d2 : Nat} {xs ys : List Int} {W : World} (h : ShrSt w a0 s A1 c1 l1 bS g1 d1 g2 d2 xs ys W) (hd : w.heap.size + 1 < bS ∧ bS < g1 ∧ g1 < g2) (kk : Nat) (v u : Int) :
    ShrSt w a0 s A1 c1 l1 bS g1 d1 g2 d2 (xs.set kk v) (ys.set kk u) ((W.setCell ⟨g1, kk, none⟩ (.int .i64 v)).setCell ⟨g2, kk, none⟩ (.int .i64 u)) := by
  obtain ⟨p1, q1⟩ := Kd.R_put (enc := Value.int .i64) (h1 := fun _ => rfl) h.r1 (kk : Int) v
  have r2 := Kd.R_grown1 h.r2 rfl q1 (fun e => by simp [Value.ownBlock] at e; omega)
  obtain ⟨p2, q2⟩ := Kd.R_put (enc := Value.int .i64) (h1 := fun _ => rfl) r2 (kk : Int) u
  have r1 := Kd.R_grown1 p1 rfl q2 (fun e => by simp [Value.ownBlock] at e; omega)
  simp only [Int.toNat_natCast] at p2 r1 q1 q2
  have far : ∀ {p : Addr} {x : Value}, W.cell? p = some x → p.block < g1 → ((W.setCell ⟨g1, kk, none⟩ (.int .i64 v)).setCell ⟨g2, kk, none⟩ (.int .i64 u)).cell? p = some x := fun hp hlt => cell_grown q2 (cell_grown q1 hp (fun e => by injection e with e; omega)) (fun e => by injection e with e; omega)
  exact ⟨below_set (below_set h.bl (by omega)) (by omega), far h.ct (by show w.heap.size < g1; omega), far h.cw (by show w.heap.size + 1 < g1; omega), far h.cs (by show bS < g1; omega), by rw [List.length_set]; exact r1, by rw [List.length_set]; exact p2⟩
/-- The first row gets a number at a place. -/
theorem ShrSt.put1 {w : World} {a0 s : Int} {A1 : Option Addr} {c1 : Nat} {l1 : List Int} {bS g1 d1 g2 d2 : Nat} {xs ys : List Int} {W : World} (h : ShrSt w a0 s A1 c1 l1 bS g1 d1 g2 d2 xs ys W) (hd : w.heap.size + 1 < bS ∧ bS < g1 ∧ g1 < g2) (kk : Nat) (v : Int) :
    ShrSt w a0 s A1 c1 l1 bS g1 d1 g2 d2 (xs.set kk v) ys (W.setCell ⟨g1, kk, none⟩ (.int .i64 v)) := by
  obtain ⟨p1, q1⟩ := Kd.R_put (enc := Value.int .i64) (h1 := fun _ => rfl) h.r1 (kk : Int) v
  have r2 := Kd.R_grown1 h.r2 rfl q1 (fun e => by simp [Value.ownBlock] at e; omega)
  simp only [Int.toNat_natCast] at p1 r2 q1
  have far : ∀ {p : Addr} {x : Value}, W.cell? p = some x → p.block < g1 → (W.setCell ⟨g1, kk, none⟩ (.int .i64 v)).cell? p = some x := fun hp hlt => cell_grown q1 hp (fun e => by injection e with e; omega)
  exact ⟨below_set h.bl (by omega), far h.ct (by show w.heap.size < g1; omega), far h.cw (by show w.heap.size + 1 < g1; omega), far h.cs (by show bS < g1; omega), by rw [List.length_set]; exact p1, r2⟩
theorem ppGt_swo {n : Nat} (key : Fin (n + 1) → Int) : Sort.SWO (ppGt key) where
  irrefl x := decide_eq_false (by omega)
  trans x y z h1 h2 := by
    have h1 := of_decide_eq_true h1
    have h2 := of_decide_eq_true h2
    exact decide_eq_true (by omega)
  ntrans x y z h1 h2 := by
    have h1 := of_decide_eq_false h1
    have h2 := of_decide_eq_false h2
    exact decide_eq_false (by omega)
theorem ppOrd_size {n : Nat} (key : Fin (n + 1) → Int) : (ppOrd key).size = n + 1 := by
  obtain ⟨⟨h1, _, _⟩, _⟩ := Sort.insertionSort_holds (lt := ppGt key) (ppGt_swo key) (ppIds n) 0 (ppIds n).size (Nat.zero_le _) (Nat.le_refl _)
  unfold ppOrd
  rw [h1]
  simp [ppIds]
theorem ppOrder_eq (t s : Int) (l : List Int) (n : Nat) (h : l.length = n + 1) : ppOrder t s l = (ppOrd (ppKey t s l n)).toList.map (fun i => (i.val : Int)) := by
  unfold ppOrder
  rw [show l.length - 1 = n by omega]
/-- What stands while the rest is shared. -/
structure ShrSt2 (w : World) (a0 : Int) (g1 d1 g2 : Nat) (os xs : List Int) (W : World) : Prop where
  bl : Below w.heap.size w W
  ct : W.cell? ⟨w.heap.size, 0, none⟩ = some (.int .i64 a0)
  co : ∀ j (h : j < os.length), W.cell? ⟨g2, j, none⟩ = some (.int .i64 os[j])
  r1 : Kd.R (Kd.int .i64) 3 W w.heap.size (fun _ => True) (.slice (some ⟨g1, 0, none⟩) xs.length d1) xs
theorem ShrSt2.below {w : World} {a0 : Int} {g1 d1 g2 : Nat} {os xs : List Int} {W W' : World} (h : ShrSt2 w a0 g1 d1 g2 os xs W) (hb : Below W.heap.size W W') : ShrSt2 w a0 g1 d1 g2 os xs W' := ⟨below_step h.bl hb, keepc h.ct hb, fun j hj => keepc (h.co j hj) hb, Kd.R_below h.r1 hb⟩
theorem ShrSt2.put {w : World} {a0 : Int} {g1 d1 g2 : Nat} {os xs : List Int} {W : World} (h : ShrSt2 w a0 g1 d1 g2 os xs W) (hd : w.heap.size < g1 ∧ g1 < g2) (kk : Nat) (v : Int) : ShrSt2 w a0 g1 d1 g2 os (xs.set kk v) (W.setCell ⟨g1, kk, none⟩ (.int .i64 v)) := by
  obtain ⟨p1, q1⟩ := Kd.R_put (enc := Value.int .i64) (h1 := fun _ => rfl) h.r1 (kk : Int) v
  simp only [Int.toNat_natCast] at p1 q1
  exact ⟨below_set h.bl (by omega), cell_grown q1 h.ct (fun e => by injection e with e; have e : w.heap.size = g1 := e; omega), fun j hj => cell_grown q1 (h.co j hj) (fun e => by injection e with e; have e : g2 = g1 := e; omega), by rw [List.length_set]; exact p1⟩
theorem below_sort {α : Type} [Inhabited α] {w W : World} (enc : α → Value) (g m : Nat) (d : Array α) (os : Array Obj) (hb : Below w.heap.size w W) (hg : w.heap.size ≤ g) : Below w.heap.size w (Go.Proofs.sortWorld enc W g 0 m d os) := by
  refine ⟨hb.os, hb.tape, hb.output, ?_, fun k hk => ?_⟩
  · refine Nat.le_trans hb.size ?_
    unfold Go.Proofs.sortWorld Sort.grow
    simp only [Array.size_append, Sort.size_putRow]
    exact Nat.le_trans (Nat.le_refl _) (Nat.le_add_right _ _)
  · have hs := hb.size
    unfold Go.Proofs.sortWorld
    rw [Sort.heap_grow_old _ _ (by rw [Sort.size_putRow]; exact Nat.lt_of_lt_of_le hk hs)]
    show (W.heap.modify g _)[k]? = _
    rw [Array.getElem?_modify, if_neg (by omega)]
    exact hb.block k hk
set_option maxHeartbeats 8000000 in
set_option maxRecDepth 100000 in
theorem impl_ShrShare.calls (k : Nat) (a0 : Int) (A1 : Option Addr) (c1 : Nat) (l1 : List Int) (r : List Int) (w : World) (hr1 : Kd.C (Kd.int .i64) w A1 l1.length l1) (hc1 : l1.length ≤ c1) (h : impl_ShrShare.f k a0 l1 = some r) :
    Calls Tryd.prog 15 #[.int .i64 a0, .slice A1 l1.length c1] w fun e w' => ∃ v0_ : Value, e = .returned (v0_) ∧ Kd.R (Kd.int .i64) 3 w' w.heap.size (fun _ => True) v0_ r ∧ Below w.heap.size w w' := by
  have HR := Aside0.mk hr1
  have HC := Aside0.mk hc1
  clear hr1 hc1
  obtain ⟨n, s, q, hn, hn19, E1, E2, hs, E3, ⟨hq0, hq1⟩, hr⟩ := impl_ShrShare.parts h
  clear h
  have HRR := Aside0.mk hr
  clear hr
  have eg := enters_of Tryd.func27 (by kernel_rfl) rfl
  have hs0 : (s == 0) = false := by simpa using hs
  have hz0 : ((l1.length : Int) == 0) = false := by simp; intro e; rw [e] at hn; simp at hn
  have hz1 : (l1.length == 0) = false := by simp; intro e; rw [e] at hn; simp at hn
  have hz2 : l1 ≠ [] := fun e => by rw [e] at hn; simp at hn
  have hlen : l1.length ≤ 19 := by omega
  have hpos : 0 < l1.length := by omega
  have HN := Aside0.mk hn
  clear hn
  go_enter Tryd.func15, Tryd.ntmps15
  go_upto_region 1 with (fail)
  refine wp_letter (fun W0 => W0.cell? ⟨w.heap.size, 0, none⟩ = some (.int .i64 a0) ∧ W0.cell? ⟨w.heap.size + 1, 0, none⟩ = some (.slice A1 l1.length c1) ∧ Below w.heap.size w W0 ∧ w.heap.size + 2 ≤ W0.heap.size) ⟨by go_simp, by go_simp, (by repeat (with_reducible first | exact Below.refl _ _ | apply below_alloc | apply pw_below_drewN | apply below_drew1)), by simp⟩ ?_
  rintro W1 ⟨xt, xw, hb1, hz⟩
  have HB := Aside0.mk hb1
  clear hb1
  go_upto_region 5 with (first | (go_at_call 12; (with_reducible refine (impl_ShrOk.calls k a0 A1 c1 l1 true _ (Kd.C_below HR.out HB.out) HC.out E1.out).mono ?_); rintro e W2 ⟨rfl, hb⟩; replace xt := keepc xt hb; replace xw := keepc xw hb; replace hz := Nat.le_trans hz hb.size; replace HB := Aside0.mk (below_step HB.out hb); clear hb) | (go_at_call 13; (with_reducible refine (impl_sumOf.calls k A1 c1 l1 s _ (Kd.C_below HR.out HB.out) HC.out E2.out).mono ?_); rintro e W3 ⟨rfl, ⟨nd, rfl⟩⟩))
  refine wp_letter (fun W0 => W0.cell? ⟨w.heap.size, 0, none⟩ = some (.int .i64 a0) ∧ W0.cell? ⟨w.heap.size + 1, 0, none⟩ = some (.slice A1 l1.length c1) ∧ Below w.heap.size w W0 ∧ w.heap.size + 2 ≤ W0.heap.size) ⟨xt, xw, pw_below_drewN HB.out _, hz⟩ ?_
  clear xt xw hz HB
  rintro W4 ⟨xt, xw, hb1, hz⟩
  have HB := Aside0.mk hb1
  clear hb1
  go_upto_region 6 with (go_at_call 13; (with_reducible refine (impl_sumOf.calls k A1 c1 l1 s _ (Kd.C_below HR.out HB.out) HC.out E2.out).mono ?_); rintro e W3 ⟨rfl, hd⟩; replace xt := keepc xt hd.below; replace xw := keepc xw hd.below; replace hz := Nat.le_trans hz hd.below.size; replace HB := Aside0.mk (below_step HB.out hd.below); clear hd)
  refine wp_letter (fun W0 => W0.cell? ⟨w.heap.size, 0, none⟩ = some (.int .i64 a0) ∧ W0.cell? ⟨w.heap.size + 1, 0, none⟩ = some (.slice A1 l1.length c1) ∧ W0.cell? ⟨W3.heap.size, 0, none⟩ = some (.int .i64 s) ∧ Below w.heap.size w W0 ∧ W3.heap.size + 1 ≤ W0.heap.size) ⟨keepc xt (below_alloc (Below.refl _ _) _), keepc xw (below_alloc (Below.refl _ _) _), by go_simp, (by repeat (with_reducible first | exact HB.out | apply below_alloc | apply pw_below_drewN | apply below_drew1)), by simp⟩ ?_
  clear xt xw HB
  rintro W5 ⟨xt, xw, xs_, hb1, hz5⟩
  generalize W3.heap.size = bS at hz xs_ hz5 ⊢
  have HB := Aside0.mk hb1
  clear hb1
  go_upto_region 7 with (refine Kd.R_make (Kd.int .i64) (w0 := w) w.heap.size 3 rfl (N := 32) rfl 23 _ _ rfl (l1.length : Int) rfl rfl Tryd.underlying23 (.int .i64 0) 8 (by kernel_rfl) rfl (by decide) (by decide) 0 (ok := fun _ => True) (okp := fun _ => True) rfl (fun _ hk => hk) trivial (by omega) (by omega) HB.out HB.out.size ?_; intro v1 w6 ho1 hb1 hg1 hw1)
  obtain ⟨g1, d1, rfl, _, hg1s, _⟩ := Kd.R_form ho1 (by rw [List.length_replicate]; omega)
  obtain ⟨b, hw1, hw2⟩ := hw1
  obtain rfl : g1 = b := by simpa [Value.ownBlock] using hw1
  have xt := cell_grown hg1 xt (fun e => by cases e)
  have xw := cell_grown hg1 xw (fun e => by cases e)
  have xs_ := cell_grown hg1 xs_ (fun e => by cases e)
  generalize hx0 : List.replicate ((l1.length : Int)).toNat (0 : Int) = xs0 at ho1 ⊢
  have hxl : xs0.length = l1.length := by rw [← hx0, List.length_replicate]; omega
  have HO1 := Aside0.mk ho1
  clear HB ho1 hg1 hw1 hx0
  have HB := Aside0.mk hb1
  clear hb1
  go_upto_region 8 with (refine Kd.R_make (Kd.int .i64) (w0 := w) w.heap.size 3 rfl (N := 35) rfl 23 _ _ rfl (l1.length : Int) rfl rfl Tryd.underlying23 (.int .i64 0) 8 (by kernel_rfl) rfl (by decide) (by decide) 0 (ok := fun _ => True) (okp := fun _ => True) rfl (fun _ hk => hk) trivial (by omega) (by omega) HB.out HB.out.size ?_; intro v2 w7 ho2 hb2 hg2 hw2_)
  obtain ⟨g2, d2, rfl, _, hg2s, _⟩ := Kd.R_form ho2 (by rw [List.length_replicate]; omega)
  obtain ⟨b, hw3, hw4⟩ := hw2_
  obtain rfl : g2 = b := by simpa [Value.ownBlock] using hw3
  have xt := cell_grown hg2 xt (fun e => by cases e)
  have xw := cell_grown hg2 xw (fun e => by cases e)
  have xs_ := cell_grown hg2 xs_ (fun e => by cases e)
  have hr1 := Kd.R_grown1 HO1.out rfl hg2 (fun e => by simp [Value.ownBlock] at e)
  generalize hx0 : List.replicate ((l1.length : Int)).toNat (0 : Int) = ys0 at ho2 ⊢
  have hyl : ys0.length = l1.length := by rw [← hx0, List.length_replicate]; omega
  have HST := Aside0.mk (⟨hb2, xt, xw, xs_, hr1, ho2⟩ : ShrSt w a0 s A1 c1 l1 bS g1 d1 g2 d2 xs0 ys0 w7)
  have hdis : w.heap.size + 1 < bS ∧ bS < g1 ∧ g1 < g2 := ⟨by omega, by omega, by omega⟩
  clear HB ho2 hg2 hw3 hb2 hr1 HO1 hx0 xt xw xs_ hg2s hw4
  have xw := HST.out.cw
  go_wp2
  clear xw
  rw [hyl]
  go_loopg [8, 9, 38] l1.length (fun gg _ _ s38 wr => ∃ (kk : Nat) (xs ys : List Int), kk ≤ l1.length ∧ l1.length - kk ≤ gg ∧ s38 = .int .i64 kk ∧ xs.length = l1.length ∧ ys.length = l1.length ∧ Aside0 (ShrSt w a0 s A1 c1 l1 bS g1 d1 g2 d2 xs ys wr) ∧ Aside0 (∀ j : Nat, j < kk → xs[j]? = (ppOut0 a0 s l1)[j]?) ∧ Aside0 (∀ j : Nat, j < kk → ys[j]? = some (j : Int)))
  case atStart => exact ⟨0, xs0, ys0, Nat.zero_le _, by omega, rfl, hxl, hyl, HST, ⟨fun j hj => absurd hj (Nat.not_lt_zero _)⟩, ⟨fun j hj => absurd hj (Nat.not_lt_zero _)⟩⟩
  case round =>
    clear hxl hyl HST
    obtain ⟨kk, xs, ys, hkk, hgg, rfl, hxl, hyl, HST, AX, AY⟩ := hrel
    by_cases hlt : kk < l1.length
    · have hltz : (kk : Int) < (l1.length : Int) := by omega
      obtain ⟨ad, eA, hk⟩ := Kd.at_int (Kd.C_below HR.out HST.out.bl) (kk : Int) (by omega) hltz
      subst eA
      simp only [Int.toNat_natCast] at hk
      obtain ⟨y1, f1⟩ := R_int_cell HST.out.r1 kk (by omega)
      obtain ⟨y2, f2⟩ := R_int_cell HST.out.r2 kk (by omega)
      have xt := HST.out.ct
      have xs_ := HST.out.cs
      have hng : g1 ≠ g2 := by omega
      obtain ⟨m, hm⟩ : ∃ m, rd l1 (kk : Int) = m := ⟨_, rfl⟩
      rw [hm] at hk
      have HM := Aside0.mk hm
      clear hm
      go_wp2
      go_roundg (l1.length - (kk + 1))
      case measure => omega
      case rel =>
        refine ⟨kk + 1, xs.set kk (wrap64 (Int.tdiv (wrap64 (a0 * m)) s)), ys.set kk (kk : Int), by omega, by omega, by go_num, by rw [List.length_set]; exact hxl, by rw [List.length_set]; exact hyl, ⟨HST.out.put hdis kk _ _⟩, ⟨fun j hj => ?_⟩, ⟨fun j hj => ?_⟩⟩
        · rw [List.getElem?_set]
          by_cases e : kk = j
          · subst e
            rw [if_pos rfl, if_pos (by omega)]
            unfold ppOut0
            rw [List.getElem?_map, List.getElem?_eq_getElem hlt, ← HM.out]
            show _ = some (wrap64 (Int.tdiv (wrap64 (a0 * l1[kk])) s))
            rw [show rd l1 (kk : Int) = l1[kk] from by unfold rd; simp [List.getD_eq_getElem?_getD, List.getElem?_eq_getElem hlt]]
          · rw [if_neg e]
            exact AX.out j (by omega)
        · rw [List.getElem?_set]
          by_cases e : kk = j
          · subst e
            rw [if_pos rfl, if_pos (by omega)]
          · rw [if_neg e]
            exact AY.out j (by omega)
    · have hk : kk = l1.length := by omega
      subst hk
      have hltz : ¬ (l1.length : Int) < (l1.length : Int) := by omega
      have hxs : xs = ppOut0 a0 s l1 := List.ext_getElem? fun j => by
        by_cases hj : j < l1.length
        · exact AX.out j hj
        · rw [List.getElem?_eq_none (by omega), List.getElem?_eq_none (by unfold ppOut0; rw [List.length_map]; omega)]
      have hids : (ppIds n).size = l1.length := by rw [HN.out]; simp [ppIds]
      have hH : Sort.Holds ppEnc wr g2 0 (ppIds n) := fun j hj => by
        have hj2 : j < ys.length := by omega
        obtain ⟨y2, f2⟩ := R_int_cell HST.out.r2 j hj2
        have e : rd ys (j : Int) = (j : Int) := by
          unfold rd
          rw [Int.toNat_natCast, List.getD_eq_getElem?_getD, AY.out j (by omega)]
          rfl
        have e2 : ((ppIds n)[j]!).val = j := by
          rw [getElem!_pos (ppIds n) j hj]
          simp [ppIds]
        rw [e] at y2
        refine ⟨?_, ?_⟩
        · rw [Nat.zero_add, y2]
          unfold ppEnc
          rw [e2]
        · rw [Nat.zero_add]; exact f2
      have hcm : Go.Proofs.CmpReads Tryd.prog 27 #[.pointer (some ⟨w.heap.size, 0, none⟩), .pointer (some ⟨w.heap.size + 1, 0, none⟩), .pointer (some ⟨bS, 0, none⟩)] ppEnc (ppCmp (ppKey a0 s l1 n)) g2 0 (ppIds n).size wr := fun m os dk hdk x y => by
        have bl := HST.out.bl
        have lt : ∀ {p : Addr} {v : Value}, wr.cell? p = some v → p.block ≠ g2 → (Go.Proofs.sortWorld ppEnc wr g2 0 m dk os).cell? p = some v := fun hp hne => by
          rw [Go.Proofs.cell?_sortWorld_other ppEnc wr g2 0 m dk os _ hne (World.block_lt_of_cell? wr _ hp)]
          exact hp
        have hC : Kd.C (Kd.int .i64) (Go.Proofs.sortWorld ppEnc wr g2 0 m dk os) A1 l1.length l1 := Kd.C_below HR.out (below_sort ppEnc g2 m dk os bl (by omega))
        exact clo_ShrShare a0 s l1 n HN.out hs _ _ bS A1 c1 x y _ (lt HST.out.ct (by show w.heap.size ≠ g2; omega)) (lt HST.out.cw (by show w.heap.size + 1 ≠ g2; omega)) (lt HST.out.cs (by show bS ≠ g2; omega)) hC
      have hso := srt_stable (ppCmp (ppKey a0 s l1 n)) 27 _ g2 d2 (ppIds n) wr eg hcm hH (by omega)
      rw [hids, ppCmp_lt] at hso
      have hos := ppOrder_eq a0 s l1 n HN.out
      have hORD : Sort.insertionSort (ppGt (ppKey a0 s l1 n)) (ppIds n) 0 l1.length = ppOrd (ppKey a0 s l1 n) := by unfold ppOrd; rw [hids]
      rw [hORD] at hso
      have hsz := ppOrd_size (ppKey a0 s l1 n)
      have hHo := Sort.holds_putRow ppEnc wr g2 0 (ppIds n) (ppOrd (ppKey a0 s l1 n)) hH (by rw [hsz, hids, HN.out])
      have hle1 : l1.length ≤ d1 := by have := (Kd.R_reads' HST.out.r1).2.1; omega
      have hle2 : l1.length ≤ d2 := by have := (Kd.R_reads' HST.out.r2).2.1; omega
      have holen : (ppOrder a0 s l1).length = l1.length := by rw [hos, List.length_map, Array.length_toList, hsz, HN.out]
      have hin : ∀ j (h : j < (ppOrder a0 s l1).length), ∃ o : Nat, o < l1.length ∧ (ppOrder a0 s l1)[j] = (o : Int) ∧ (Sort.putRow ppEnc wr g2 0 (ppOrd (ppKey a0 s l1 n))).cell? ⟨g2, j, none⟩ = some (.int .i64 (o : Int)) := fun j h => by
        have hj : j < (ppOrd (ppKey a0 s l1 n)).size := by rw [hsz, ← HN.out]; omega
        refine ⟨((ppOrd (ppKey a0 s l1 n))[j]).val, by have := ((ppOrd (ppKey a0 s l1 n))[j]).isLt; rw [HN.out]; exact this, by simp [hos], ?_⟩
        have := (hHo j hj).1
        rw [Nat.zero_add, getElem!_pos _ j hj] at this
        exact this
      have HSO := Aside0.mk hso
      have hg2 := fun m => put_grown ppEnc wr g2 m (ppOrd (ppKey a0 s l1 n))
      have HG2 := Aside0.mk hg2
      have HIN := Aside0.mk hin
      have E3' : Aside0 (impl_sumOf.f k xs = some q) := ⟨by rw [hxs]; exact E3.out⟩
      have HXS := Aside0.mk hxs
      clear hxs hH hcm hso hos hORD hsz hHo hids hg2 hin AX AY
      go_upto_region 14 with (go_at_call 26; refine HSO.out.mono ?_; rintro e w' ⟨rfl, m, rfl⟩)
      refine wp_letter (fun W0 => ShrSt2 w a0 g1 d1 g2 (ppOrder a0 s l1) xs W0) ⟨pw_below_grown HST.out.bl _ HST.out.bl.size (HG2.out m) (fun k hk => by injection hk with hk; omega), cell_grown (HG2.out m) HST.out.ct (fun e => by injection e with e; have e : w.heap.size = g2 := e; omega), fun j hj => by obtain ⟨o, _, e1, e2⟩ := HIN.out j hj; rw [e1]; exact e2, Kd.R_grown1 HST.out.r1 rfl (HG2.out m) (fun e => by simp [Value.ownBlock] at e; omega)⟩ ?_
      have hin2 : ∀ j (h : j < (ppOrder a0 s l1).length), ∃ o : Nat, o < l1.length ∧ (ppOrder a0 s l1)[j] = (o : Int) := fun j h => by obtain ⟨o, h1, h2, _⟩ := HIN.out j h; exact ⟨o, h1, h2⟩
      clear HIN HG2 HSO HST
      have HIN := Aside0.mk hin2
      clear hin2
      rintro W10 hst
      have HST := Aside0.mk hst
      clear hst
      obtain ⟨rr, hrr⟩ : ∃ rr : Nat, wrap64 (a0 - q) = (rr : Int) := ⟨(wrap64 (a0 - q)).toNat, by omega⟩
      have hr1 : rr ≤ l1.length := by omega
      have hr2 : rr ≤ d2 := by omega
      have hr3 : (rr : Int) ≤ (d2 : Int) := by omega
      have ct := Ext.cell HST.out.ct
      have HSU := Aside0.mk (fun (u : Ext W10) => show Calls Tryd.prog 13 #[.slice (some ⟨g1, 0, none⟩) l1.length d1] u.world (fun e w' => e = .returned (.int .i64 q) ∧ Drawn0 u.world w') from hxl ▸ impl_sumOf.calls k (some ⟨g1, 0, none⟩) d1 xs q u.world (Kd.C_below (Kd.R_reads' HST.out.r1).2.2 u.below) (by omega) E3'.out)
      refine region_ext (by kernel_rfl) (by kernel_rfl) ?_
      repeat (go_big_quiet_step (first | (go_at_call 13; exact Calls.ext0 (HSU.out _))))
      refine wpQuiet_nil ?_
      rintro W8 ⟨⟨W9, hb3⟩, rfl⟩
      replace HST := Aside0.mk (HST.out.below hb3)
      clear hb3 ct HSU
      go_wp2
      have hdis2 : w.heap.size < g1 ∧ g1 < g2 := by omega
      go_loopg [11, 66] rr (fun gg _ s66 wr => ∃ (j : Nat) (xs' : List Int), j ≤ rr ∧ rr - j ≤ gg ∧ s66 = .int .i64 j ∧ xs'.length = l1.length ∧ Aside0 (xs' = ppGive xs ((ppOrder a0 s l1).take j)) ∧ Aside0 (ShrSt2 w a0 g1 d1 g2 (ppOrder a0 s l1) xs' wr))
      case atStart => exact ⟨0, xs, Nat.zero_le _, by omega, rfl, hxl, ⟨rfl⟩, HST⟩
      case round =>
        clear HST
        obtain ⟨j, xs', hj, hgg, rfl, hxl', AX, HST⟩ := hrel
        by_cases hlt : j < rr
        · have hltz : (j : Int) < (rr : Int) := by omega
          have hjo : j < (ppOrder a0 s l1).length := by omega
          obtain ⟨o, ho1, ho2⟩ := HIN.out j hjo
          have co := HST.out.co j hjo
          rw [ho2] at co
          have hoz : (o : Int) < (l1.length : Int) := by omega
          obtain ⟨y1, f1⟩ := R_int_cell HST.out.r1 o (by omega)
          have HO2 := Aside0.mk (show (ppOrder a0 s l1)[j]? = some (o : Int) from by rw [List.getElem?_eq_getElem hjo, ho2])
          clear ho2
          go_wp2
          go_roundg (rr - (j + 1))
          case measure => omega
          case rel =>
            refine ⟨j + 1, xs'.set o (wrap64 (rd xs' (o : Int) + 1)), by omega, by omega, by go_num, by rw [List.length_set]; exact hxl', ⟨?_⟩, ⟨HST.out.put hdis2 o _⟩⟩
            rw [List.take_add_one, HO2.out]
            show _ = ppGive xs (_ ++ [(o : Int)])
            rw [ppGive_app, ← AX.out, Int.toNat_natCast]
        · have hk : j = rr := by omega
          have hltz : ¬ (j : Int) < (rr : Int) := by omega
          subst hk
          have hR := HST.out.r1
          rw [hxl'] at hR
          have hr : r = xs' := by rw [HRR.out, ← HXS.out, hrr, Int.toNat_natCast]; exact AX.out.symm
          have HF := Aside0.mk hR
          have HRF := Aside0.mk hr
          clear hR hr
          go_wp2
          go_ret
          exact ⟨_, rfl, HRF.out ▸ HF.out, HST.out.bl⟩


end Go.Proofs.YtaipfcbijhcejaaDoor.Q
