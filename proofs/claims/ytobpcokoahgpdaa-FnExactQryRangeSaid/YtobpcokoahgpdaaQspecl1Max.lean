-- Told by a program of this session (uprint.py, ulay.py).
import Derived.Test.YtobpcokoahgpdaaQ0
import Derived.Test.YtobpcokoahgpdaaReg
import Derived.Test.YtobpcokoahgpdaaQlawsszGrdCellS
import Derived.Test.YtobpcokoahgpdaaQspecGrdOk
namespace Go.Proofs.Ytobpcokoahgpdaa.Q
open Go.RowKit Go.Proofs.YtobpcokoahgpdaaW.PrintWords Go.Proofs.YtobpcokoahgpdaaW.PrintLast Go.Proofs.YtobpcokoahgpdaaW.PrintMore Go.Proofs.Ytobpcokoahgpdaa.Reg Go.Proofs.Ytobpcokoahgpdaa.Box
attribute [local go_sem] max2_int min2_int max_two min_two max_three min_three max_four min_four
set_option linter.unusedVariables false
set_option linter.unusedSimpArgs false

/-! ### spec_l1Max: function 22 -/
def spec_l1Max.f (a0 : Int) (a1 : Int) : Option (Int) := if a0 > a1 then (some a0) else (some a1)
set_option maxHeartbeats 8000000 in
set_option maxRecDepth 100000 in
theorem spec_l1Max.calls (a0 : Int) (a1 : Int) (r : Int) (w : World) (h : spec_l1Max.f a0 a1 = some r) :
    Calls Try.prog 22 #[.int .i64 a0, .int .i64 a1] w fun e w' => e = .returned (.int .i64 r) ∧ Drawn0 w w' := by
  have H : (if a0 > a1 then (some a0) else (some a1)) = some r := h
  clear h
  by_cases c3 : a0 > a1
  · rw [if_pos c3] at H
    have c3b0 : decide (a1 < a0) = true := decide_eq_true c3
    clear c3
    obtain rfl := Option.some.inj H
    go_enter Try.func22, Try.ntmps22
    go_wp2
    go_ret
    exact ⟨by first | rfl | (simp [IntKind.wrap_i64, wrap64]; done) | (simp; done) | (simp [*]; done), by repeat (first | exact Drawn0.refl _ | apply Drawn0.step)⟩
  · rw [if_neg c3] at H
    have c3b0 : decide (a1 < a0) = false := decide_eq_false c3
    clear c3
    obtain rfl := Option.some.inj H
    go_enter Try.func22, Try.ntmps22
    go_wp2
    go_ret
    exact ⟨by first | rfl | (simp [IntKind.wrap_i64, wrap64]; done) | (simp; done) | (simp [*]; done), by repeat (first | exact Drawn0.refl _ | apply Drawn0.step)⟩

/-! ### spec_l10Span: function 13 (by hand) -/
def spec_l10Span.f (a0_0 : Int) (a0_1 : Int) (a0_2 : Int) (a0_3 : Int) (a0_4 : Int) (a1_0 : Int) (a1_1 : Int) (a1_2 : Int) (a1_3 : Int) (a1_4 : Int) : Option (Int × Int × Int × Int × Int) := (spec_l1Max.f (wrap64 (a0_0 + a0_2)) (wrap64 (a1_0 + a1_2))).bind fun t127 => ((spec_l1Max.f (wrap64 (a0_1 + a0_3)) (wrap64 (a1_1 + a1_3))).bind fun t128 => (if a1_0 < a0_0 then (if a1_1 < a0_1 then (some (a1_0, a1_1, wrap64 (t127 - a1_0), wrap64 (t128 - a1_1), a0_4)) else (some (a1_0, a0_1, wrap64 (t127 - a1_0), wrap64 (t128 - a0_1), a0_4))) else (if a1_1 < a0_1 then (some (a0_0, a1_1, wrap64 (t127 - a0_0), wrap64 (t128 - a1_1), a0_4)) else (some (a0_0, a0_1, wrap64 (t127 - a0_0), wrap64 (t128 - a0_1), a0_4)))))
set_option maxHeartbeats 4000000 in
set_option maxRecDepth 100000 in
theorem spec_l10Span.calls (a0_0 : Int) (a0_1 : Int) (a0_2 : Int) (a0_3 : Int) (a0_4 : Int) (a1_0 : Int) (a1_1 : Int) (a1_2 : Int) (a1_3 : Int) (a1_4 : Int) (r1 : Int) (r2 : Int) (r3 : Int) (r4 : Int) (r5 : Int) (w : World) (h : spec_l10Span.f a0_0 a0_1 a0_2 a0_3 a0_4 a1_0 a1_1 a1_2 a1_3 a1_4 = some (r1, r2, r3, r4, r5)) :
    Calls Try.prog 13 #[.agg #[.int .i64 a0_0, .int .i64 a0_1, .int .i64 a0_2, .int .i64 a0_3, .int .i64 a0_4], .agg #[.int .i64 a1_0, .int .i64 a1_1, .int .i64 a1_2, .int .i64 a1_3, .int .i64 a1_4]] w fun e w' => e = .returned (.agg #[.int .i64 r1, .int .i64 r2, .int .i64 r3, .int .i64 r4, .int .i64 r5]) ∧ Below w.heap.size w w' := by
  unfold spec_l10Span.f at h
  rw [Option.bind_eq_some_iff] at h
  obtain ⟨m1, h1, h⟩ := h
  rw [Option.bind_eq_some_iff] at h
  obtain ⟨m2, h2, h⟩ := h
  have A1 := Aside0.mk h1
  have A2 := Aside0.mk h2
  have HH := Aside0.mk h
  clear h h1 h2
  by_cases c1 : a1_0 < a0_0
  all_goals by_cases c2 : a1_1 < a0_1
  all_goals
    have hr := HH.out
    clear HH
    simp only [if_pos, if_neg, c1, c2, if_true, if_false, Option.some.injEq, Prod.mk.injEq] at hr
    obtain ⟨rfl, rfl, rfl, rfl, rfl⟩ := hr
    go_enter Try.func13, Try.ntmps13
    go_wp2_with (go_at_call 22; (first | (with_reducible refine (spec_l1Max.calls _ _ m1 _ A1.out).mono ?_) | (with_reducible refine (spec_l1Max.calls _ _ m2 _ A2.out).mono ?_)); rintro e w' ⟨rfl, ⟨nd, rfl⟩⟩)
    refine bodyPost_ret ?hr rfl ⟨rfl, ?hb⟩
    case hr => simp [results, Try.results13, go_sem]
    case hb => repeat (with_reducible first | exact Below.refl _ _ | apply below_alloc | apply pw_below_drewN | refine below_set ?_ (by omega))

/-! ### spec_QryRange: function 5 (by hand) -/
mutual
def spec_QryRange.j0 : Nat → Int → Int → Bool → Int → Int → List (S27) → Option (Int × Int × Int × Int × Int)
  | 0, _, _, _, _, _, _ => none
  | k + 1, x1, x2, x30, x130000, x130001, x130002 => if x30 = true then (some (0, 0, 0, 0, 0)) else (if 0 ≤ x1 then (if x1 < (x130002.length : Int) then (if 0 ≤ x2 then (if x2 < (x130002.length : Int) then ((spec_l10Span.f ((rd_T27 x130002 x1).f0) ((rd_T27 x130002 x1).f1) ((rd_T27 x130002 x1).f2) ((rd_T27 x130002 x1).f3) ((rd_T27 x130002 x1).f4) ((rd_T27 x130002 x2).f0) ((rd_T27 x130002 x2).f1) ((rd_T27 x130002 x2).f2) ((rd_T27 x130002 x2).f3) ((rd_T27 x130002 x2).f4)).bind fun bt136 => (spec_QryRange.l0 k 0 x130000 x130001 x130002 bt136.1 bt136.2.1 bt136.2.2.1 bt136.2.2.2.1 0)) else (none)) else (none)) else (none)) else (none))
def spec_QryRange.l0 : Nat → Int → Int → Int → List (S27) → Int → Int → Int → Int → Int → Option (Int × Int × Int × Int × Int)
  | 0, _, _, _, _, _, _, _, _, _ => none
  | k + 1, x8, x130000, x130001, x130002, x142000, x142001, x142002, x142003, x142004 => if x8 < (x130002.length : Int) then (spec_QryRange.l1 k x8 0 x130000 x130001 x130002 x142000 x142001 x142002 x142003 x142004) else (some (x142000, x142001, x142002, x142003, x142004))
def spec_QryRange.l1 : Nat → Int → Int → Int → Int → List (S27) → Int → Int → Int → Int → Int → Option (Int × Int × Int × Int × Int)
  | 0, _, _, _, _, _, _, _, _, _, _ => none
  | k + 1, x8, x9, x130000, x130001, x130002, x142000, x142001, x142002, x142003, x142004 => if x9 < (x130002.length : Int) then (if 0 ≤ x9 then ((spec_l3Meets.f x142000 x142001 x142002 x142003 x142004 ((rd_T27 x130002 x9).f0) ((rd_T27 x130002 x9).f1) ((rd_T27 x130002 x9).f2) ((rd_T27 x130002 x9).f3) ((rd_T27 x130002 x9).f4)).bind fun t143 => (if t143 = true then ((spec_l10Span.f x142000 x142001 x142002 x142003 x142004 ((rd_T27 x130002 x9).f0) ((rd_T27 x130002 x9).f1) ((rd_T27 x130002 x9).f2) ((rd_T27 x130002 x9).f3) ((rd_T27 x130002 x9).f4)).bind fun bt145 => (spec_QryRange.l1 k x8 (wrap64 (x9 + 1)) x130000 x130001 x130002 bt145.1 bt145.2.1 bt145.2.2.1 bt145.2.2.2.1 bt145.2.2.2.2)) else (spec_QryRange.l1 k x8 (wrap64 (x9 + 1)) x130000 x130001 x130002 x142000 x142001 x142002 x142003 x142004))) else (none)) else (spec_QryRange.l0 k (wrap64 (x8 + 1)) x130000 x130001 x130002 x142000 x142001 x142002 x142003 x142004)
end
def spec_QryRange.f (k : Nat) (a0_0 : Int) (a0_1 : Int) (l0_2 : List (S27)) (a1 : Int) (a2 : Int) : Option (Int × Int × Int × Int × Int) := (spec_GrdOk.f k a0_0 a0_1 l0_2).bind fun t131 => (if t131 = true then ((spec_l1In.f a1 0 (wrap64 ((l0_2.length : Int) - 1))).bind fun t132 => (if t132 = true then ((spec_l1In.f a2 0 (wrap64 ((l0_2.length : Int) - 1))).bind fun t133 => (spec_QryRange.j0 k a1 a2 (!t133) a0_0 a0_1 l0_2)) else (spec_QryRange.j0 k a1 a2 true a0_0 a0_1 l0_2))) else (spec_QryRange.j0 k a1 a2 true a0_0 a0_1 l0_2))
theorem spec_QryRange.mono_l : ∀ k, (∀ y0 y1 y2 y3 y4 y5, LeO (spec_QryRange.j0 k y0 y1 y2 y3 y4 y5) (spec_QryRange.j0 (k + 1) y0 y1 y2 y3 y4 y5)) ∧ (∀ y0 y1 y2 y3 y4 y5 y6 y7 y8, LeO (spec_QryRange.l0 k y0 y1 y2 y3 y4 y5 y6 y7 y8) (spec_QryRange.l0 (k + 1) y0 y1 y2 y3 y4 y5 y6 y7 y8)) ∧ (∀ y0 y1 y2 y3 y4 y5 y6 y7 y8 y9, LeO (spec_QryRange.l1 k y0 y1 y2 y3 y4 y5 y6 y7 y8 y9) (spec_QryRange.l1 (k + 1) y0 y1 y2 y3 y4 y5 y6 y7 y8 y9))
  | 0 => ⟨fun _ _ _ _ _ _ r h => by simp [spec_QryRange.j0] at h, fun _ _ _ _ _ _ _ _ _ r h => by simp [spec_QryRange.l0] at h, fun _ _ _ _ _ _ _ _ _ _ r h => by simp [spec_QryRange.l1] at h⟩
  | k + 1 => by
    obtain ⟨ih0, ih1, ih2⟩ := spec_QryRange.mono_l k
    refine ⟨?_, ?_, ?_⟩
    · intro y0 y1 y2 y3 y4 y5
      unfold spec_QryRange.j0
      repeat' first
      | (with_reducible exact ih0 _ _ _ _ _ _)
      | (with_reducible exact ih1 _ _ _ _ _ _ _ _ _)
      | (with_reducible exact ih2 _ _ _ _ _ _ _ _ _ _)
      | (with_reducible exact spec_GrdOk.mono _ _ _ _)
      | (with_reducible exact LeO.refl _)
      | (with_reducible exact LeO.none _)
      | (with_reducible refine LeO.ite ?_ ?_)
      | (with_reducible refine LeO.bind ?_ (fun _ => ?_))
      | exact ih0 _ _ _ _ _ _
      | exact ih1 _ _ _ _ _ _ _ _ _
      | exact ih2 _ _ _ _ _ _ _ _ _ _
      | exact spec_GrdOk.mono _ _ _ _
      | exact LeO.none _
      | refine LeO.ite ?_ ?_
      | refine LeO.bind ?_ (fun _ => ?_)
    · intro y0 y1 y2 y3 y4 y5 y6 y7 y8
      unfold spec_QryRange.l0
      repeat' first
      | (with_reducible exact ih0 _ _ _ _ _ _)
      | (with_reducible exact ih1 _ _ _ _ _ _ _ _ _)
      | (with_reducible exact ih2 _ _ _ _ _ _ _ _ _ _)
      | (with_reducible exact spec_GrdOk.mono _ _ _ _)
      | (with_reducible exact LeO.refl _)
      | (with_reducible exact LeO.none _)
      | (with_reducible refine LeO.ite ?_ ?_)
      | (with_reducible refine LeO.bind ?_ (fun _ => ?_))
      | exact ih0 _ _ _ _ _ _
      | exact ih1 _ _ _ _ _ _ _ _ _
      | exact ih2 _ _ _ _ _ _ _ _ _ _
      | exact spec_GrdOk.mono _ _ _ _
      | exact LeO.none _
      | refine LeO.ite ?_ ?_
      | refine LeO.bind ?_ (fun _ => ?_)
    · intro y0 y1 y2 y3 y4 y5 y6 y7 y8 y9
      unfold spec_QryRange.l1
      repeat' first
      | (with_reducible exact ih0 _ _ _ _ _ _)
      | (with_reducible exact ih1 _ _ _ _ _ _ _ _ _)
      | (with_reducible exact ih2 _ _ _ _ _ _ _ _ _ _)
      | (with_reducible exact spec_GrdOk.mono _ _ _ _)
      | (with_reducible exact LeO.refl _)
      | (with_reducible exact LeO.none _)
      | (with_reducible refine LeO.ite ?_ ?_)
      | (with_reducible refine LeO.bind ?_ (fun _ => ?_))
      | exact ih0 _ _ _ _ _ _
      | exact ih1 _ _ _ _ _ _ _ _ _
      | exact ih2 _ _ _ _ _ _ _ _ _ _
      | exact spec_GrdOk.mono _ _ _ _
      | exact LeO.none _
      | refine LeO.ite ?_ ?_
      | refine LeO.bind ?_ (fun _ => ?_)
theorem spec_QryRange.mono : ∀ a0 a1 a2 a3 a4 k, LeO (spec_QryRange.f k a0 a1 a2 a3 a4) (spec_QryRange.f (k + 1) a0 a1 a2 a3 a4) := by
  intro a0 a1 a2 a3 a4 k
  obtain ⟨ih0, ih1, ih2⟩ := spec_QryRange.mono_l k
  unfold spec_QryRange.f
  repeat' first
      | (with_reducible exact ih0 _ _ _ _ _ _)
      | (with_reducible exact ih1 _ _ _ _ _ _ _ _ _)
      | (with_reducible exact ih2 _ _ _ _ _ _ _ _ _ _)
      | (with_reducible exact spec_GrdOk.mono _ _ _ _)
      | (with_reducible exact LeO.refl _)
      | (with_reducible exact LeO.none _)
      | (with_reducible refine LeO.ite ?_ ?_)
      | (with_reducible refine LeO.bind ?_ (fun _ => ?_))
      | exact ih0 _ _ _ _ _ _
      | exact ih1 _ _ _ _ _ _ _ _ _
      | exact ih2 _ _ _ _ _ _ _ _ _ _
      | exact spec_GrdOk.mono _ _ _ _
      | exact LeO.none _
      | refine LeO.ite ?_ ?_
      | refine LeO.bind ?_ (fun _ => ?_)
def spec_QryRange.T3 : Bool × List (List Nat × List Nat) := (true, [([], []), ([0], [0]), ([], []), ([1, 2], [1, 2]), ([3], [3]), ([], []), ([5], [5]), ([], []), ([6, 7], [6, 7]), ([8], [8]), ([4, 9], [4, 9]), ([], []), ([11, 10, 10, 0, 1, 2, 3, 4, 5, 6, 7, 8, 9, 10, 11], [10, 11])])
def spec_QryRange.B3 : List Nat := [0, 1, 0, 7, 15, 0, 32, 0, 224, 480, 1023, 0, 4095]
theorem spec_QryRange.tab3 : rtab .any (opsOf Try.f5 3) = spec_QryRange.T3 := by kernel_rfl
theorem spec_QryRange.bits3 : waitsOk spec_QryRange.T3.2 spec_QryRange.B3 = true := by kernel_rfl
def spec_QryRange.T12 : Bool × List (List Nat × List Nat) := (true, [([], []), ([], []), ([1], [1]), ([], []), ([2, 3], [2, 3]), ([4], [4]), ([0, 5], [0, 5]), ([6, 6, 0, 1, 2, 3, 4, 5, 6], [6])])
def spec_QryRange.B12 : List Nat := [0, 0, 2, 0, 14, 30, 63, 127]
theorem spec_QryRange.tab12 : rtab .any (opsOf Try.f5 12) = spec_QryRange.T12 := by kernel_rfl
theorem spec_QryRange.bits12 : waitsOk spec_QryRange.T12.2 spec_QryRange.B12 = true := by kernel_rfl
theorem spec_QryRange.parts {k : Nat} {a0_0 a0_1 : Int} {l0_2 : List S27} {a1 a2 r1 r2 r3 r4 r5 : Int} (hbig : l0_2.length ≤ 9223372036854775807) (h : spec_QryRange.f k a0_0 a0_1 l0_2 a1 a2 = some (r1, r2, r3, r4, r5)) :
    ((r1 = 0 ∧ r2 = 0 ∧ r3 = 0 ∧ r4 = 0 ∧ r5 = 0) ∧ (Aside0 (spec_GrdOk.f k a0_0 a0_1 l0_2 = some false) ∨ (Aside0 (spec_GrdOk.f k a0_0 a0_1 l0_2 = some true) ∧ Aside0 (spec_l1In.f a1 0 ((l0_2.length : Int) - 1) = some false)) ∨ (Aside0 (spec_GrdOk.f k a0_0 a0_1 l0_2 = some true) ∧ Aside0 (spec_l1In.f a1 0 ((l0_2.length : Int) - 1) = some true) ∧ Aside0 (spec_l1In.f a2 0 ((l0_2.length : Int) - 1) = some false)))) ∨
    (Aside0 (spec_GrdOk.f k a0_0 a0_1 l0_2 = some true) ∧ Aside0 (spec_l1In.f a1 0 ((l0_2.length : Int) - 1) = some true) ∧ Aside0 (spec_l1In.f a2 0 ((l0_2.length : Int) - 1) = some true) ∧ ∃ (q : Nat) (x : S27), (0 ≤ a1 ∧ a1 < (l0_2.length : Int)) ∧ (0 ≤ a2 ∧ a2 < (l0_2.length : Int)) ∧ Aside0 (spec_l10Span.f (rd_T27 l0_2 a1).f0 (rd_T27 l0_2 a1).f1 (rd_T27 l0_2 a1).f2 (rd_T27 l0_2 a1).f3 (rd_T27 l0_2 a1).f4 (rd_T27 l0_2 a2).f0 (rd_T27 l0_2 a2).f1 (rd_T27 l0_2 a2).f2 (rd_T27 l0_2 a2).f3 (rd_T27 l0_2 a2).f4 = some (x.f0, x.f1, x.f2, x.f3, x.f4)) ∧ Aside0 (spec_QryRange.l0 q 0 a0_0 a0_1 l0_2 x.f0 x.f1 x.f2 x.f3 0 = some (r1, r2, r3, r4, r5))) := by
  have bad : spec_QryRange.j0 k a1 a2 true a0_0 a0_1 l0_2 = some (r1, r2, r3, r4, r5) → r1 = 0 ∧ r2 = 0 ∧ r3 = 0 ∧ r4 = 0 ∧ r5 = 0 := by
    intro h
    cases k with
    | zero => unfold spec_QryRange.j0 at h; cases h
    | succ k =>
      unfold spec_QryRange.j0 at h
      simp at h
      omega
  unfold spec_QryRange.f at h
  rw [show wrap64 ((l0_2.length : Int) - 1) = (l0_2.length : Int) - 1 by unfold wrap64; omega] at h
  rw [Option.bind_eq_some_iff] at h
  obtain ⟨t1, h1, h⟩ := h
  cases t1 with
  | false => exact .inl ⟨bad h, .inl ⟨h1⟩⟩
  | true =>
    rw [if_pos rfl, Option.bind_eq_some_iff] at h
    obtain ⟨t2, h2, h⟩ := h
    cases t2 with
    | false => exact .inl ⟨bad h, .inr (.inl ⟨⟨h1⟩, ⟨h2⟩⟩)⟩
    | true =>
      rw [if_pos rfl, Option.bind_eq_some_iff] at h
      obtain ⟨t3, h3, h⟩ := h
      cases t3 with
      | false => exact .inl ⟨bad h, .inr (.inr ⟨⟨h1⟩, ⟨h2⟩, ⟨h3⟩⟩)⟩
      | true =>
        refine .inr ⟨⟨h1⟩, ⟨h2⟩, ⟨h3⟩, ?_⟩
        cases k with
        | zero => unfold spec_QryRange.j0 at h; cases h
        | succ k =>
          simp only [spec_QryRange.j0, Bool.not_true, Bool.false_eq_true, if_false] at h
          split at h
          · split at h
            · split at h
              · split at h
                · rw [Option.bind_eq_some_iff] at h
                  obtain ⟨⟨x0, x1, x2, x3, x4⟩, hx, h⟩ := h
                  exact ⟨k, ⟨x0, x1, x2, x3, x4⟩, ⟨by assumption, by assumption⟩, ⟨by assumption, by assumption⟩, ⟨hx⟩, ⟨h⟩⟩
                · cases h
              · cases h
            · cases h
          · cases h
/-- What is known of the world in a pass. -/
structure sqG (w : World) (C n cp : Nat) (a0 a1 : Int) (ad p : Addr) (y x : S27) (W : World) : Prop where
  hx : W.heap[C]? = some (.cells (gcA y.f0 y.f1 y.f2 y.f3 y.f4) 27 (0, 0))
  hg : W.heap[w.heap.size]? = some (.cells #[.int .i64 a0, .int .i64 a1, .slice (some ad) n cp] 31 (0, 0))
  ho : W.heap[w.heap.size + 1]? = some (.cells (gcA 0 0 0 0 0) 27 (0, 0))
  hb : Below w.heap.size w W
  hp : W.cell? p = some (.int .i64 x.f0) ∧ W.cell? ⟨p.block, p.off + 1, none⟩ = some (.int .i64 x.f1) ∧ W.cell? ⟨p.block, p.off + 2, none⟩ = some (.int .i64 x.f2) ∧ W.cell? ⟨p.block, p.off + 3, none⟩ = some (.int .i64 x.f3) ∧ W.cell? ⟨p.block, p.off + 4, none⟩ = some (.int .i64 x.f4)
theorem sqG.below {w : World} {C n cp : Nat} {a0 a1 : Int} {ad p : Addr} {y x : S27} {W W' : World} (h : sqG w C n cp a0 a1 ad p y x W) (hb : Below W.heap.size W W') : sqG w C n cp a0 a1 ad p y x W' :=
  ⟨blk_below h.hx hb, blk_below h.hg hb, blk_below h.ho hb, below_step h.hb hb, keepc h.hp.1 hb, keepc h.hp.2.1 hb, keepc h.hp.2.2.1 hb, keepc h.hp.2.2.2.1 hb, keepc h.hp.2.2.2.2 hb⟩
def spec_QryRangeB.T12 : Bool × List (List Nat × List Nat) := (true, [([], []), ([], []), ([1], [1]), ([], []), ([2, 3], [2, 3]), ([4], [4]), ([0, 5], [0, 5]), ([6, 6, 0, 1, 2, 3, 4, 5, 6], [6])])
def spec_QryRangeB.B12 : List Nat := [0, 0, 2, 0, 14, 30, 63, 127]
def spec_QryRangeB.L12 : List (Nat × Tmp) := [(0, 65), (1, 66), (2, 67), (3, 68), (4, 69), (5, 70), (6, 71)]
def spec_QryRangeB.O12 : List Nat := [0, 1, 2, 3, 4, 5, 6, 7]
theorem spec_QryRangeB.tab12 : rtab .any (opsOf Try.f5 12) = spec_QryRangeB.T12 := by kernel_rfl
theorem spec_QryRangeB.bits12 : waitsOk spec_QryRangeB.T12.2 spec_QryRangeB.B12 = true := by kernel_rfl
theorem spec_QryRangeB.base12 : baseOk spec_QryRangeB.T12.2 spec_QryRangeB.O12 = true := by kernel_rfl
theorem spec_QryRangeB.lof12 : (lof spec_QryRangeB.T12.2.length spec_QryRangeB.O12 (fun _ => false) == List.replicate spec_QryRangeB.T12.2.length false && spec_QryRangeB.O12.length == spec_QryRangeB.T12.2.length) = true := by kernel_rfl
theorem spec_QryRangeB.ents12 : chkL (opsOf Try.f5 12) spec_QryRangeB.O12 spec_QryRangeB.L12 = true := by kernel_rfl
theorem spec_QryRangeB.last12 : lastOk spec_QryRangeB.B12 spec_QryRangeB.O12 7 = true := by kernel_rfl
def spec_QryRangeB.V (g n cp : Nat) (ad : Addr) (i : Int) (y x z : S27) : Nat → Value
  | 0 => .agg (gcA y.f0 y.f1 y.f2 y.f3 y.f4)
  | 1 => .pointer (some ⟨g, 2, none⟩)
  | 2 => .slice (some ad) n cp
  | 3 => .int .i64 i
  | 4 => .pointer (some (ad.add (i.toNat * 5)))
  | 5 => .agg (gcA x.f0 x.f1 x.f2 x.f3 x.f4)
  | _ => .agg (gcA z.f0 z.f1 z.f2 z.f3 z.f4)
set_option maxHeartbeats 4000000 in
set_option maxRecDepth 100000 in
theorem spec_QryRange.calls (k : Nat) (a0_0 : Int) (a0_1 : Int) (A0_2 : Option Addr) (c0_2 : Nat) (l0_2 : List (S27)) (a1 : Int) (a2 : Int) (r1 : Int) (r2 : Int) (r3 : Int) (r4 : Int) (r5 : Int) (w : World) (hr0_2 : Kd.C k27 w A0_2 l0_2.length l0_2) (hc0_2 : l0_2.length ≤ c0_2) (h : spec_QryRange.f k a0_0 a0_1 l0_2 a1 a2 = some (r1, r2, r3, r4, r5)) :
    Calls Try.prog 5 #[.agg #[.int .i64 a0_0, .int .i64 a0_1, .slice A0_2 l0_2.length c0_2], .int .i64 a1, .int .i64 a2] w fun e w' => e = .returned (.agg #[.int .i64 r1, .int .i64 r2, .int .i64 r3, .int .i64 r4, .int .i64 r5]) ∧ Below w.heap.size w w' := by
  have HR := Aside0.mk hr0_2
  have HC := Aside0.mk hc0_2
  have hbig := hr0_2.2.1
  clear hr0_2 hc0_2
  have hu1 := Try.underlying31
  have hu2 := Try.underlying27
  rcases spec_QryRange.parts hbig h with ⟨⟨rfl, rfl, rfl, rfl, rfl⟩, A1 | ⟨A1, A2⟩ | ⟨A1, A2, A3⟩⟩ | ⟨A1, A2, A3, q, x, ⟨ha0, ha1⟩, ⟨hb0, hb1⟩, A4, A5⟩
  iterate 3
    · clear h
      go_enter Try.func5, Try.ntmps5
      go_wp2_with (first | (go_at_call 11; (with_reducible refine (spec_GrdOk.calls k a0_0 a0_1 A0_2 c0_2 l0_2 _ _ (Kd.C_below HR.out (below_alloc (below_alloc (Below.refl _ _) _) _)) HC.out A1.out).mono ?_); rintro e W ⟨rfl, hb⟩; have HG := Aside0.mk (blk_below (blk_alloc (blk_new w (.cells #[.int .i64 a0_0, .int .i64 a0_1, .slice A0_2 l0_2.length c0_2] 31)) (.cells (gcA 0 0 0 0 0) 27)) hb); have HO := Aside0.mk (blk_below (blk_new2 w (.cells #[.int .i64 a0_0, .int .i64 a0_1, .slice A0_2 l0_2.length c0_2] 31) (.cells (gcA 0 0 0 0 0) 27)) hb); have HB := Aside0.mk (below_step (below_alloc (below_alloc (Below.refl _ w) _) _) hb); clear hb; have q2 : W.cell? ⟨w.heap.size, 2, none⟩ = some (.slice A0_2 l0_2.length c0_2) := (blk_cell HG.out 2).trans rfl) | (go_at_call 12; (first | (with_reducible refine (spec_l1In.calls _ _ _ _ _ A2.out).mono ?_) | (with_reducible refine (spec_l1In.calls _ _ _ _ _ A3.out).mono ?_)); rintro e W' ⟨rfl, ⟨nd, rfl⟩⟩) | (refine wpList_put 27 _ _ rfl rfl (w.heap.size + 1) 0 rfl (.agg (gcA 0 0 0 0 0)) rfl 27 (gcA 0 0 0 0 0) (gcA 0 0 0 0 0) HO.out (by kernel_rfl) rfl rfl rfl (fun W9 hp => ?_); have HB := Aside0.mk (hp.below (by first | exact HB.out | exact pw_below_drewN HB.out _) (Nat.le_add_right _ 1)); have HO := Aside0.mk hp.blk; clear hp))
      exact bodyPost_ret (results_cell_row rfl _ _ (w.heap.size + 1) 27 (gcA 0 0 0 0 0) (0, 0) _ rfl HO.out Try.underlying27 rfl (by kernel_rfl)) rfl ⟨rfl, HB.out⟩
  clear h
  obtain ⟨ad, rfl, p0, p1, p2, p3, p4⟩ := at_T27 HR.out a1 ha0 ha1
  obtain ⟨ad', e', s0, s1, s2, s3, s4⟩ := at_T27 HR.out a2 hb0 hb1
  cases e'
  obtain ⟨xa, hxa⟩ : ∃ xa, rd_T27 l0_2 a1 = xa := ⟨_, rfl⟩
  obtain ⟨xb, hxb⟩ : ∃ xb, rd_T27 l0_2 a2 = xb := ⟨_, rfl⟩
  rw [hxa] at p0 p1 p2 p3 p4 A4
  rw [hxb] at s0 s1 s2 s3 s4 A4
  clear hxa hxb
  have PA := Aside0.mk (And.intro p0 (And.intro p1 (And.intro p2 (And.intro p3 (And.intro p4 (And.intro s0 (And.intro s1 (And.intro s2 (And.intro s3 s4)))))))))
  clear p0 p1 p2 p3 p4 s0 s1 s2 s3 s4
  go_enter Try.func5, Try.ntmps5
  go_wp2_with (first | (go_at_call 11; (with_reducible refine (spec_GrdOk.calls k a0_0 a0_1 (some ad) c0_2 l0_2 _ _ (Kd.C_below HR.out (below_alloc (below_alloc (Below.refl _ _) _) _)) HC.out A1.out).mono ?_); rintro e W ⟨rfl, hb⟩; have HG := Aside0.mk (blk_below (blk_alloc (blk_new w (.cells #[.int .i64 a0_0, .int .i64 a0_1, .slice (some ad) l0_2.length c0_2] 31)) (.cells (gcA 0 0 0 0 0) 27)) hb); have HO := Aside0.mk (blk_below (blk_new2 w (.cells #[.int .i64 a0_0, .int .i64 a0_1, .slice (some ad) l0_2.length c0_2] 31) (.cells (gcA 0 0 0 0 0) 27)) hb); have HB := Aside0.mk (below_step (below_alloc (below_alloc (Below.refl _ w) _) _) hb); clear hb; have q2 : W.cell? ⟨w.heap.size, 2, none⟩ = some (.slice (some ad) l0_2.length c0_2) := (blk_cell HG.out 2).trans rfl) | (go_at_call 12; (first | (with_reducible refine (spec_l1In.calls _ _ _ _ _ A2.out).mono ?_) | (with_reducible refine (spec_l1In.calls _ _ _ _ _ A3.out).mono ?_)); rintro e W' ⟨rfl, ⟨nd, rfl⟩⟩) | (refine wpList_put 27 _ _ rfl rfl (w.heap.size + 1) 0 rfl (.agg (gcA 0 0 0 0 0)) rfl 27 (gcA 0 0 0 0 0) (gcA 0 0 0 0 0) HO.out (by kernel_rfl) rfl rfl rfl (fun W9 hp => ?_); have HB := Aside0.mk (hp.below (by first | exact HB.out | exact pw_below_drewN HB.out _) (Nat.le_add_right _ 1)); have HO := Aside0.mk hp.blk; clear hp))
  go_upto_region 3 with fail
  go_cut [7] (fun s7 wx => ∃ C : Nat, s7 = .pointer (some ⟨C, 0, none⟩) ∧ w.heap.size + 2 ≤ C ∧ Aside0 (wx.heap[C]? = some (.cells (gcA x.f0 x.f1 x.f2 x.f3 x.f4) 27 (0, 0))) ∧ Aside0 (Below W.heap.size W wx))
  case first =>
    obtain ⟨p0, p1, p2, p3, p4, s0, s1, s2, s3, s4⟩ := PA.out
    replace p0 := (HB.out.cell (World.block_lt_of_cell? w _ p0)).trans p0
    replace p1 := (HB.out.cell (World.block_lt_of_cell? w _ p1)).trans p1
    replace p2 := (HB.out.cell (World.block_lt_of_cell? w _ p2)).trans p2
    replace p3 := (HB.out.cell (World.block_lt_of_cell? w _ p3)).trans p3
    replace p4 := (HB.out.cell (World.block_lt_of_cell? w _ p4)).trans p4
    replace s0 := (HB.out.cell (World.block_lt_of_cell? w _ s0)).trans s0
    replace s1 := (HB.out.cell (World.block_lt_of_cell? w _ s1)).trans s1
    replace s2 := (HB.out.cell (World.block_lt_of_cell? w _ s2)).trans s2
    replace s3 := (HB.out.cell (World.block_lt_of_cell? w _ s3)).trans s3
    replace s4 := (HB.out.cell (World.block_lt_of_cell? w _ s4)).trans s4
    go_region_held3 (fun w' => w'.cell? ⟨w.heap.size, 2, none⟩ = some (.slice (some ad) l0_2.length c0_2) ∧ w'.cell? (ad.add (a1.toNat * 5)) = some (.int .i64 xa.f0) ∧ w'.cell? ⟨(ad.add (a1.toNat * 5)).block, (ad.add (a1.toNat * 5)).off + 1, none⟩ = some (.int .i64 xa.f1) ∧ w'.cell? ⟨(ad.add (a1.toNat * 5)).block, (ad.add (a1.toNat * 5)).off + 2, none⟩ = some (.int .i64 xa.f2) ∧ w'.cell? ⟨(ad.add (a1.toNat * 5)).block, (ad.add (a1.toNat * 5)).off + 3, none⟩ = some (.int .i64 xa.f3) ∧ w'.cell? ⟨(ad.add (a1.toNat * 5)).block, (ad.add (a1.toNat * 5)).off + 4, none⟩ = some (.int .i64 xa.f4) ∧ w'.cell? (ad.add (a2.toNat * 5)) = some (.int .i64 xb.f0) ∧ w'.cell? ⟨(ad.add (a2.toNat * 5)).block, (ad.add (a2.toNat * 5)).off + 1, none⟩ = some (.int .i64 xb.f1) ∧ w'.cell? ⟨(ad.add (a2.toNat * 5)).block, (ad.add (a2.toNat * 5)).off + 2, none⟩ = some (.int .i64 xb.f2) ∧ w'.cell? ⟨(ad.add (a2.toNat * 5)).block, (ad.add (a2.toNat * 5)).off + 3, none⟩ = some (.int .i64 xb.f3) ∧ w'.cell? ⟨(ad.add (a2.toNat * 5)).block, (ad.add (a2.toNat * 5)).off + 4, none⟩ = some (.int .i64 xb.f4)) ((repeat' apply And.intro) <;> exact keepc (W := W) (by assumption) (by repeat (with_reducible first | exact Below.refl _ _ | apply below_alloc | apply pw_below_drewN | apply below_drew1 | (refine below_set ?_ (by simp)) | refine below_step ?_ hb2)))
      (first | (go_at_call 13; (with_reducible refine (spec_l10Span.calls _ _ _ _ _ _ _ _ _ _ _ _ _ _ _ _ A4.out).mono ?_); rintro e W2 ⟨rfl, hb2⟩; try (have nb : W2.heap[W.heap.size]? = some (.cells (gcA 0 0 0 0 0) 27 (0, 0)) := blk_below (first_block W _ _ (by rfl)) hb2; have nf := blk_frozen nb; obtain ⟨n0, n1, n2, n3, n4⟩ := gcA_cells nb; have f0 := nf 0; have f1 := nf 1; have f2 := nf 2; have f3 := nf 3; have f4 := nf 4; clear nf)))
    · go_wp2_with fail
      go_meet
      exact ⟨W2.heap.size, rfl, Nat.le_trans (blk_lt HO.out) hb2.size, ⟨blk_new W2 (.cells (gcA x.f0 x.f1 x.f2 x.f3 x.f4) 27)⟩, ⟨below_alloc (below_step (below_drew1 (pw_below_drewN (Below.refl _ W) _)) hb2) _⟩⟩
    · have hX0 : W2.heap[W.heap.size]? = some (.cells (gcA 0 0 0 0 0) 27 (0, 0)) := blk_below (first_block W _ _ (by rfl)) hb2
      have hb4 : Below W.heap.size W W2 := below_step (below_alloc (below_drew1 (pw_below_drewN (Below.refl _ W) _)) _) hb2
      go_wp2_with fail
      go_meet
      exact ⟨W.heap.size, rfl, blk_lt HO.out, ⟨blk_put (blk_put (blk_put (blk_put (blk_put hX0 0 (.int .i64 x.f0) rfl) 1 (.int .i64 x.f1) rfl) 2 (.int .i64 x.f2) rfl) 3 (.int .i64 x.f3) rfl) 4 (.int .i64 x.f4) rfl⟩, ⟨below_set (below_set (below_set (below_set (below_set hb4 (Nat.le_refl _)) (Nat.le_refl _)) (Nat.le_refl _)) (Nat.le_refl _)) (Nat.le_refl _)⟩⟩
  case rest =>
    obtain ⟨C, rfl, hC, HX, hb3⟩ := hcut
    replace HB := Aside0.mk (below_step HB.out hb3.out)
    replace HG := Aside0.mk (blk_below HG.out hb3.out)
    replace HO := Aside0.mk (blk_below HO.out hb3.out)
    clear hb3 PA q2
    go_wp2_with (refine wpList_put 3 _ _ rfl rfl C 4 rfl (.int .i64 0) rfl 27 (gcA x.f0 x.f1 x.f2 x.f3 x.f4) (gcA x.f0 x.f1 x.f2 x.f3 0) HX.out (by kernel_rfl) rfl rfl rfl (fun W9 hp => ?_); replace HG := Aside0.mk (hp.keep HG.out (by omega)); replace HO := Aside0.mk (hp.keep HO.out (by omega)); replace HB := Aside0.mk (hp.below HB.out (by omega)); replace HX := Aside0.mk hp.blk; clear hp)
    go_loopg [8] q (fun gg s8 wr => ∃ (q' : Nat) (n : Int) (y : S27), q' ≤ gg ∧ s8 = .int .i64 n ∧ Aside0 (spec_QryRange.l0 q' n a0_0 a0_1 l0_2 y.f0 y.f1 y.f2 y.f3 y.f4 = some (r1, r2, r3, r4, r5)) ∧ Aside0 (wr.heap[C]? = some (.cells (gcA y.f0 y.f1 y.f2 y.f3 y.f4) 27 (0, 0))) ∧ Aside0 (wr.heap[w.heap.size]? = some (.cells #[.int .i64 a0_0, .int .i64 a0_1, .slice (some ad) l0_2.length c0_2] 31 (0, 0))) ∧ Aside0 (wr.heap[w.heap.size + 1]? = some (.cells (gcA 0 0 0 0 0) 27 (0, 0))) ∧ Aside0 (Below w.heap.size w wr))
    case atStart => exact ⟨q, 0, ⟨x.f0, x.f1, x.f2, x.f3, 0⟩, Nat.le_refl _, rfl, A5, HX, HG, HO, HB⟩
    case round =>
      clear HX HG HO HB A5
      obtain ⟨q', n, y, hq, rfl, HL, HX, HG, HO, HB⟩ := hrel
      cases q' with
      | zero => exact absurd HL.out (by simp [spec_QryRange.l0])
      | succ q' =>
        have hl := HL.out
        clear HL
        simp only [spec_QryRange.l0] at hl
        have q2 : wr.cell? ⟨w.heap.size, 2, none⟩ = some (.slice (some ad) l0_2.length c0_2) := (blk_cell HG.out 2).trans rfl
        by_cases hn : n < (l0_2.length : Int)
        rotate_left
        · rw [if_neg hn] at hl
          simp only [Option.some.injEq, Prod.mk.injEq] at hl
          obtain ⟨rfl, rfl, rfl, rfl, rfl⟩ := hl
          obtain ⟨o0, o1, o2, o3, o4⟩ := gcA_cells HX.out
          go_wp2_with (refine wpList_put 27 _ _ rfl rfl (w.heap.size + 1) 0 rfl (.agg (gcA y.f0 y.f1 y.f2 y.f3 y.f4)) rfl 27 (gcA 0 0 0 0 0) (gcA y.f0 y.f1 y.f2 y.f3 y.f4) HO.out (by kernel_rfl) rfl rfl rfl (fun W9 hp => ?_); have HB := Aside0.mk (hp.below HB.out (Nat.le_add_right _ 1)); have HO := Aside0.mk hp.blk; clear hp)
          exact bodyPost_ret (results_cell_row rfl _ _ (w.heap.size + 1) 27 (gcA y.f0 y.f1 y.f2 y.f3 y.f4) (0, 0) _ rfl HO.out Try.underlying27 rfl (by kernel_rfl)) rfl ⟨rfl, HB.out⟩
        · rw [if_pos hn] at hl
          have AL := Aside0.mk hl
          clear hl
          go_wp2
          clear q2
          go_loopg [9] q' (fun gg s9 wr => ∃ (q2 : Nat) (i : Int) (y : S27), q2 ≤ gg ∧ q2 ≤ q' ∧ s9 = .int .i64 i ∧ Aside0 (spec_QryRange.l1 q2 n i a0_0 a0_1 l0_2 y.f0 y.f1 y.f2 y.f3 y.f4 = some (r1, r2, r3, r4, r5)) ∧ Aside0 (wr.heap[C]? = some (.cells (gcA y.f0 y.f1 y.f2 y.f3 y.f4) 27 (0, 0))) ∧ Aside0 (wr.heap[w.heap.size]? = some (.cells #[.int .i64 a0_0, .int .i64 a0_1, .slice (some ad) l0_2.length c0_2] 31 (0, 0))) ∧ Aside0 (wr.heap[w.heap.size + 1]? = some (.cells (gcA 0 0 0 0 0) 27 (0, 0))) ∧ Aside0 (Below w.heap.size w wr))
          case atStart => exact ⟨q', 0, y, Nat.le_refl _, Nat.le_refl _, rfl, AL, HX, HG, HO, HB⟩
          case round =>
            rename_i wr0 _ _ _ _
            clear HX HG HO HB AL
            obtain ⟨q2, i, y, hq2, hq3, rfl, HL, HX, HG, HO, HB⟩ := hrel
            have g2 : wr.cell? ⟨w.heap.size, 2, none⟩ = some (.slice (some ad) l0_2.length c0_2) := (blk_cell HG.out 2).trans rfl
            cases q2 with
            | zero => exact absurd HL.out (by simp [spec_QryRange.l1])
            | succ q2 =>
              have hl := HL.out
              clear HL
              simp only [spec_QryRange.l1] at hl
              by_cases hlt : i < (l0_2.length : Int)
              · rw [if_pos hlt] at hl
                by_cases h0 : 0 ≤ i
                · rw [if_pos h0, Option.bind_eq_some_iff] at hl
                  obtain ⟨t, hm, hl⟩ := hl
                  have AM := Aside0.mk hm
                  clear hm
                  rw [show wrap64 (i + 1) = i + 1 by unfold wrap64; omega] at hl
                  obtain ⟨ad2, e', p0, p1, p2, p3, p4⟩ := at_T27 (Kd.C_below HR.out HB.out) i h0 hlt
                  cases e'
                  obtain ⟨x, hx⟩ : ∃ x, rd_T27 l0_2 i = x := ⟨_, rfl⟩
                  rw [hx] at p0 p1 p2 p3 p4 AM hl
                  clear hx
                  obtain ⟨o0, o1, o2, o3, o4⟩ := gcA_cells HX.out
                  have HP := Aside0.mk (And.intro p0 (And.intro p1 (And.intro p2 (And.intro p3 p4))))
                  have HLT := Aside0.mk (And.intro h0 hlt)
                  go_wp2
                  cases t
                  · rw [if_neg (by decide)] at hl
                    have AL := Aside0.mk hl
                    clear hl
                    go_region_held3 (fun w' => w'.cell? ⟨C, 0, none⟩ = some (.int .i64 y.f0) ∧ w'.cell? ⟨C, 1, none⟩ = some (.int .i64 y.f1) ∧ w'.cell? ⟨C, 2, none⟩ = some (.int .i64 y.f2) ∧ w'.cell? ⟨C, 3, none⟩ = some (.int .i64 y.f3) ∧ w'.cell? ⟨C, 4, none⟩ = some (.int .i64 y.f4) ∧ w'.cell? ⟨w.heap.size, 2, none⟩ = some (.slice (some ad) l0_2.length c0_2) ∧ w'.cell? (ad.add (i.toNat * 5)) = some (.int .i64 x.f0) ∧ w'.cell? ⟨(ad.add (i.toNat * 5)).block, (ad.add (i.toNat * 5)).off + 1, none⟩ = some (.int .i64 x.f1) ∧ w'.cell? ⟨(ad.add (i.toNat * 5)).block, (ad.add (i.toNat * 5)).off + 2, none⟩ = some (.int .i64 x.f2) ∧ w'.cell? ⟨(ad.add (i.toNat * 5)).block, (ad.add (i.toNat * 5)).off + 3, none⟩ = some (.int .i64 x.f3) ∧ w'.cell? ⟨(ad.add (i.toNat * 5)).block, (ad.add (i.toNat * 5)).off + 4, none⟩ = some (.int .i64 x.f4)) ((repeat' apply And.intro) <;> exact keepc (W := wr) (by assumption) (by repeat (with_reducible first | exact Below.refl _ _ | apply pw_below_drewN | apply below_drew1 | refine below_step ?_ hb4))) (first | (go_at_call 14; (with_reducible refine (spec_l3Meets.calls _ _ _ _ _ _ _ _ _ _ _ _ AM.out).mono ?_); rintro e W4 ⟨rfl, hb4⟩))
                    replace hb4 : Below wr.heap.size wr W4 := below_step (below_drew1 (Below.refl _ wr)) hb4
                    replace HX := Aside0.mk (blk_below HX.out hb4)
                    replace HG := Aside0.mk (blk_below HG.out hb4)
                    replace HO := Aside0.mk (blk_below HO.out hb4)
                    replace HB := Aside0.mk (below_step HB.out hb4)
                    clear hb4
                    go_wp2
                    go_roundg q2
                    case measure => omega
                    case rel => exact ⟨q2, i + 1, y, Nat.le_refl _, by omega, rfl, AL, HX, HG, HO, HB⟩
                  · rw [if_pos rfl, Option.bind_eq_some_iff] at hl
                    obtain ⟨⟨z0, z1, z2, z3, z4⟩, hz, hl⟩ := hl
                    obtain ⟨z, hz'⟩ : ∃ z : S27, z = ⟨z0, z1, z2, z3, z4⟩ := ⟨_, rfl⟩
                    have AZ : Aside0 (spec_l10Span.f y.f0 y.f1 y.f2 y.f3 y.f4 x.f0 x.f1 x.f2 x.f3 x.f4 = some (z.f0, z.f1, z.f2, z.f3, z.f4)) := ⟨by rw [hz']; exact hz⟩
                    have AL : Aside0 (spec_QryRange.l1 q2 n (i + 1) a0_0 a0_1 l0_2 z.f0 z.f1 z.f2 z.f3 z.f4 = some (r1, r2, r3, r4, r5)) := ⟨by rw [hz']; exact hl⟩
                    clear hz hl hz'
                    go_region_held3 (fun w' => w'.cell? ⟨C, 0, none⟩ = some (.int .i64 y.f0) ∧ w'.cell? ⟨C, 1, none⟩ = some (.int .i64 y.f1) ∧ w'.cell? ⟨C, 2, none⟩ = some (.int .i64 y.f2) ∧ w'.cell? ⟨C, 3, none⟩ = some (.int .i64 y.f3) ∧ w'.cell? ⟨C, 4, none⟩ = some (.int .i64 y.f4) ∧ w'.cell? ⟨w.heap.size, 2, none⟩ = some (.slice (some ad) l0_2.length c0_2) ∧ w'.cell? (ad.add (i.toNat * 5)) = some (.int .i64 x.f0) ∧ w'.cell? ⟨(ad.add (i.toNat * 5)).block, (ad.add (i.toNat * 5)).off + 1, none⟩ = some (.int .i64 x.f1) ∧ w'.cell? ⟨(ad.add (i.toNat * 5)).block, (ad.add (i.toNat * 5)).off + 2, none⟩ = some (.int .i64 x.f2) ∧ w'.cell? ⟨(ad.add (i.toNat * 5)).block, (ad.add (i.toNat * 5)).off + 3, none⟩ = some (.int .i64 x.f3) ∧ w'.cell? ⟨(ad.add (i.toNat * 5)).block, (ad.add (i.toNat * 5)).off + 4, none⟩ = some (.int .i64 x.f4)) ((repeat' apply And.intro) <;> exact keepc (W := wr) (by assumption) (by repeat (with_reducible first | exact Below.refl _ _ | apply pw_below_drewN | apply below_drew1 | refine below_step ?_ hb4))) (first | (go_at_call 14; (with_reducible refine (spec_l3Meets.calls _ _ _ _ _ _ _ _ _ _ _ _ AM.out).mono ?_); rintro e W4 ⟨rfl, hb4⟩))
                    replace hb4 : Below wr.heap.size wr W4 := below_step (below_drew1 (Below.refl _ wr)) hb4
                    replace HX := Aside0.mk (blk_below HX.out hb4)
                    replace HG := Aside0.mk (blk_below HG.out hb4)
                    replace HO := Aside0.mk (blk_below HO.out hb4)
                    replace HB := Aside0.mk (below_step HB.out hb4)
                    replace HP := Aside0.mk (And.intro (keepc HP.out.1 hb4) (And.intro (keepc HP.out.2.1 hb4) (And.intro (keepc HP.out.2.2.1 hb4) (And.intro (keepc HP.out.2.2.2.1 hb4) (keepc HP.out.2.2.2.2 hb4)))))
                    clear hb4 p0 p1 p2 p3 p4 o0 o1 o2 o3 o4 g2
                    go_wp2
                    have hk0 := fun W : World => Below.refl W.heap.size W
                    have hH : 0 ≤ i ∧ i < (l0_2.length : Int) := HLT.out
                    have hGB : ∀ W W', sqG w C l0_2.length c0_2 a0_0 a0_1 ad (ad.add (i.toNat * 5)) y x W → Below W.heap.size W W' → sqG w C l0_2.length c0_2 a0_0 a0_1 ad (ad.add (i.toNat * 5)) y x W' := fun W W' h hb => h.below hb
                    have hG0 : sqG w C l0_2.length c0_2 a0_0 a0_1 ad (ad.add (i.toNat * 5)) y x W4 := ⟨HX.out, HG.out, HO.out, HB.out, HP.out⟩
                    clear HX HG HO HB HP
                    refine region_envL (T := spec_QryRangeB.T12) (B := spec_QryRangeB.B12) spec_QryRangeB.O12 spec_QryRangeB.L12 7 (fun j v _ => v = spec_QryRangeB.V w.heap.size l0_2.length c0_2 ad i y x z j)
                      (fun _ W => sqG w C l0_2.length c0_2 a0_0 a0_1 ad (ad.add (i.toNat * 5)) y x W) (fun W W' => Below W.heap.size W W')
                      (fun _ W => W.heap[C]? = some (.cells (gcA z.f0 z.f1 z.f2 z.f3 z.f4) 27 (0, 0)) ∧ W.heap[w.heap.size]? = some (.cells #[.int .i64 a0_0, .int .i64 a0_1, .slice (some ad) l0_2.length c0_2] 31 (0, 0)) ∧ W.heap[w.heap.size + 1]? = some (.cells (gcA 0 0 0 0 0) 27 (0, 0)) ∧ Below w.heap.size w W)
                      rfl spec_QryRangeB.tab12 spec_QryRangeB.bits12 spec_QryRangeB.base12 spec_QryRangeB.lof12 spec_QryRangeB.ents12 spec_QryRangeB.last12 (fun _ _ _ _ h _ => h) (hGB _ _ hG0 (below_drew1 (Below.refl _ _))) ?_ ?_ ?_
                    · refine alln_cons (EStep.pure hk0 fun b E a' W ha hG hP => ?_) ?_
                      · have s7 : a'.tmps[7]? = some (.pointer (some ⟨C, 0, none⟩)) := (slot_off ha rfl).trans rfl
                        obtain ⟨o0, o1, o2, o3, o4⟩ := gcA_cells hG.hx
                        exact ⟨_, .agg (gcA y.f0 y.f1 y.f2 y.f3 y.f4), rfl, rfl, by clear ha hG hP; go_simp; rfl, rfl, hG⟩
                      refine alln_cons (EStep.pure hk0 fun b E a' W ha hG hP => ?_) ?_
                      · have s3 : a'.tmps[3]? = some (.pointer (some ⟨w.heap.size, 0, none⟩)) := (slot_off ha rfl).trans rfl
                        exact ⟨_, .pointer (some ⟨w.heap.size, 2, none⟩), rfl, rfl, by clear ha hG hP; go_simp; try first | rfl | exact i64_w _, rfl, hG⟩
                      refine alln_cons (EStep.pure hk0 fun b E a' W ha hG hP => ?_) ?_
                      · have s66 : a'.tmps[66]? = some (.pointer (some ⟨w.heap.size, 2, none⟩)) := slotv ha (hP 1 rfl).1 rfl (hP 1 rfl).2
                        have hc : W.cell? ⟨w.heap.size, 2, none⟩ = some (.slice (some ad) l0_2.length c0_2) := (blk_cell hG.hg 2).trans rfl
                        exact ⟨_, .slice (some ad) l0_2.length c0_2, rfl, rfl, by clear ha hG hP; go_simp, rfl, hG⟩
                      refine alln_cons (EStep.pure hk0 fun b E a' W ha hG hP => ?_) ?_
                      · have s9 : a'.tmps[9]? = some (.int .i64 i) := (slot_off ha rfl).trans rfl
                        exact ⟨_, .int .i64 i, rfl, rfl, by clear ha hG hP; go_simp; try first | rfl | exact i64_w _, rfl, hG⟩
                      refine alln_cons (EStep.pure hk0 fun b E a' W ha hG hP => ?_) ?_
                      · have s67 : a'.tmps[67]? = some (.slice (some ad) l0_2.length c0_2) := slotv ha (hP 2 rfl).1 rfl (hP 2 rfl).2
                        have s68 : a'.tmps[68]? = some (.int .i64 i) := slotv ha (hP 3 rfl).1 rfl (hP 3 rfl).2
                        exact ⟨_, .pointer (some (ad.add (i.toNat * 5))), rfl, rfl, by clear ha hG hP; go_simp; try first | rfl | exact i64_w _, rfl, hG⟩
                      refine alln_cons (EStep.pure hk0 fun b E a' W ha hG hP => ?_) ?_
                      · have s69 : a'.tmps[69]? = some (.pointer (some (ad.add (i.toNat * 5)))) := slotv ha (hP 4 rfl).1 rfl (hP 4 rfl).2
                        obtain ⟨p0, p1, p2, p3, p4⟩ := hG.hp
                        exact ⟨_, .agg (gcA x.f0 x.f1 x.f2 x.f3 x.f4), rfl, rfl, by clear ha hG hP; go_simp; rfl, rfl, hG⟩
                      refine alln_cons (EStep.call Try.func13 (by kernel_rfl) rfl ⟨_, rfl, rfl, rfl⟩ fun b E a' W ha hG hP hoff hb => ⟨#[.agg (gcA y.f0 y.f1 y.f2 y.f3 y.f4), .agg (gcA x.f0 x.f1 x.f2 x.f3 x.f4)], ?_, ?_⟩) alln_last
                      · have s65 : a'.tmps[65]? = some (.agg (gcA y.f0 y.f1 y.f2 y.f3 y.f4)) := slotv ha (hP 0 rfl).1 rfl (hP 0 rfl).2
                        have s70 : a'.tmps[70]? = some (.agg (gcA x.f0 x.f1 x.f2 x.f3 x.f4)) := slotv ha (hP 5 rfl).1 rfl (hP 5 rfl).2
                        clear ha hG hP hoff hb
                        simp [Act.eval, Array.getD_eq_getD_getElem?, s65, s70]
                      · refine (spec_l10Span.calls _ _ _ _ _ _ _ _ _ _ _ _ _ _ _ W AZ.out).mono ?_
                        rintro _ W2 ⟨rfl, hd⟩
                        exact ⟨_, rfl, rfl, hd, hGB _ _ hG hd⟩
                    · intro b E a' W ha hG hP hb
                      have s7 : a'.tmps[7]? = some (.pointer (some ⟨C, 0, none⟩)) := (slot_off ha rfl).trans rfl
                      have s71 : a'.tmps[71]? = some (.agg (gcA z.f0 z.f1 z.f2 z.f3 z.f4)) := slotv ha (hP 6 rfl (by decide)).1 rfl (hP 6 rfl (by decide)).2
                      have hp := Put.setRow (cs := gcA z.f0 z.f1 z.f2 z.f3 z.f4) hG.hx
                      exact ⟨_, rfl, fun K hK => skip_ rfl rfl (exec_put 27 _ _ rfl C 0 (by simp [Act.eval, Array.getD_eq_getD_getElem?, s7]) (.agg (gcA z.f0 z.f1 z.f2 z.f3 z.f4)) (by simp [Act.eval, Array.getD_eq_getD_getElem?, s71]) 27 _ (gcA z.f0 z.f1 z.f2 z.f3 z.f4) hG.hx (by kernel_rfl) rfl rfl rfl) (hK.out undef _ ⟨hp.blk, hp.keep hG.hg (by omega), hp.keep hG.ho (by omega), hp.below hG.hb (by omega)⟩)⟩
                    · intro E b W hall hF
                      rw [putSel_all (fun x hx => hall x.1 (by revert x; decide))]
                      simp only [spec_QryRangeB.L12, List.foldl, Act.put, List.setIfInBounds_toArray, List.set_cons_zero, List.set_cons_succ]
                      clear hall
                      have HX := Aside0.mk hF.1
                      have HG := Aside0.mk hF.2.1
                      have HO := Aside0.mk hF.2.2.1
                      have HB := Aside0.mk hF.2.2.2
                      clear hF hGB hk0 hG0
                      go_wp2
                      go_roundg q2
                      case measure => omega
                      case rel => exact ⟨q2, i + 1, z, Nat.le_refl _, by omega, rfl, AL, HX, HG, HO, HB⟩
                · rw [if_neg h0] at hl
                  cases hl
              · rw [if_neg hlt] at hl
                have AL := Aside0.mk hl
                clear hl
                go_wp2
                go_roundg q2
                case measure => omega
                case rel => exact ⟨q2, wrap64 (n + 1), y, Nat.le_refl _, rfl, AL, HX, HG, HO, HB⟩

/-! ### laws_toGrdCell: function 23 -/
def laws_toGrdCell.f (a0_0 : Int) (a0_1 : Int) (a0_2 : Int) (a0_3 : Int) (a0_4 : Int) : Option (Int × Int × Int × Int × Int) := some (a0_0, a0_1, a0_2, a0_3, a0_4)
set_option maxHeartbeats 8000000 in
set_option maxRecDepth 100000 in
theorem laws_toGrdCell.calls (a0_0 : Int) (a0_1 : Int) (a0_2 : Int) (a0_3 : Int) (a0_4 : Int) (r1 : Int) (r2 : Int) (r3 : Int) (r4 : Int) (r5 : Int) (w : World) (h : laws_toGrdCell.f a0_0 a0_1 a0_2 a0_3 a0_4 = some (r1, r2, r3, r4, r5)) :
    Calls Try.prog 23 #[.agg #[.int .i64 a0_0, .int .i64 a0_1, .int .i64 a0_2, .int .i64 a0_3, .int .i64 a0_4]] w fun e w' => e = .returned (.agg #[.int .i64 r1, .int .i64 r2, .int .i64 r3, .int .i64 r4, .int .i64 r5]) ∧ Below w.heap.size w w' := by
  have hu47 := Try.underlying47
  have hu27 := Try.underlying27
  have HB := Aside0.mk (Below.refl w.heap.size w)
  have H : (some (a0_0, a0_1, a0_2, a0_3, a0_4)) = some (r1, r2, r3, r4, r5) := h
  clear h
  simp only [Option.some.injEq, Prod.mk.injEq] at H
  obtain ⟨rfl, rfl, rfl, rfl, rfl⟩ := H
  go_enter Try.func23, Try.ntmps23
  go_wp2_with (first | ((with_reducible refine gate_dst (N := 1) rfl ?_); refine box_event ?hg (N := 1) ?hd (cs := #[.int .i64 a0_0, .int .i64 a0_1, .int .i64 a0_2, .int .i64 a0_3, .int .i64 a0_4]) (t := 47) ?hr ?_; (case hd => rfl); (case hg => rfl); (case hr => first | (go_simp; done) | (go_simp; rfl)); intro gb150 hg w2 hbox hb; have n0_ := Aside0.mk (below_step (by repeat (first | (with_reducible first | exact HB.out | apply below_alloc | apply pw_below_drewN | apply below_drew1) | exact HB.out)) hb); have n1_ := Aside0.mk (hbox); have n2_ := Aside0.mk ((by rw [hg]; exact (below_size (by repeat (first | (with_reducible first | exact HB.out | apply below_alloc | apply pw_below_drewN | apply below_drew1) | exact HB.out))) : w.heap.size ≤ gb150)); have n3_ := Aside0.mk ((by rw [hg]; exact (below_size (by repeat (first | (with_reducible first | exact HB.out | apply below_alloc | apply pw_below_drewN | apply below_drew1) | exact HB.out))) : w.heap.size ≤ gb150)); clear HB; have HB := n0_; have BK150 := n1_; have GW150 := n2_; have GE150 := n3_; clear n0_ n1_ n2_ n3_; clear hb hbox hg) | ((with_reducible refine gate_dst (N := 2) rfl ?_); refine box_event ?hg (N := 2) ?hd (cs := #[.int .i64 0, .int .i64 0, .int .i64 0, .int .i64 0, .int .i64 0]) (t := 27) ?hr ?_; (case hd => rfl); (case hg => rfl); (case hr => first | (go_simp; done) | (go_simp; rfl)); intro gb151 hg w3 hbox hb; have n0_ := Aside0.mk (blk_below (g := gb150) (o := .cells #[.int .i64 a0_0, .int .i64 a0_1, .int .i64 a0_2, .int .i64 a0_3, .int .i64 a0_4] 47 (0, 0)) (by (with_reducible repeat (first | refine blk_drewN ?_ _ | refine blk_drew ?_ | refine blk_alloc ?_ _)); exact BK150.out) hb); have n1_ := Aside0.mk (below_step (by repeat (first | (with_reducible first | exact HB.out | apply below_alloc | apply pw_below_drewN | apply below_drew1 | refine below_set ?_ GE150.out) | exact HB.out)) hb); have n2_ := Aside0.mk (hbox); have n3_ := Aside0.mk ((by rw [hg]; exact (below_size (by repeat (first | (with_reducible first | exact HB.out | apply below_alloc | apply pw_below_drewN | apply below_drew1 | refine below_set ?_ GE150.out) | exact HB.out))) : w.heap.size ≤ gb151)); have n4_ := Aside0.mk ((by rw [hg]; exact (below_size (by repeat (first | (with_reducible first | exact HB.out | apply below_alloc | apply pw_below_drewN | apply below_drew1 | refine below_set ?_ GE150.out) | exact HB.out))) : w.heap.size ≤ gb151)); have n5_ := Aside0.mk ((by rw [hg]; exact Nat.ne_of_lt (blk_lt (g := gb150) (o := .cells #[.int .i64 a0_0, .int .i64 a0_1, .int .i64 a0_2, .int .i64 a0_3, .int .i64 a0_4] 47 (0, 0)) (by (with_reducible repeat (first | refine blk_drewN ?_ _ | refine blk_drew ?_ | refine blk_alloc ?_ _)); exact BK150.out)) : gb150 ≠ gb151)); have n6_ := Aside0.mk ((by rw [hg]; exact Nat.ne_of_gt (blk_lt (g := gb150) (o := .cells #[.int .i64 a0_0, .int .i64 a0_1, .int .i64 a0_2, .int .i64 a0_3, .int .i64 a0_4] 47 (0, 0)) (by (with_reducible repeat (first | refine blk_drewN ?_ _ | refine blk_drew ?_ | refine blk_alloc ?_ _)); exact BK150.out)) : gb151 ≠ gb150)); clear BK150; clear HB; have BK150 := n0_; have HB := n1_; have BK151 := n2_; have GW151 := n3_; have GE151 := n4_; have NB150_151 := n5_; have NB151_150 := n6_; clear n0_ n1_ n2_ n3_ n4_ n5_ n6_; clear hb hbox hg) | ((with_reducible refine gate_dst (N := 3) rfl ?_); refine box_event ?hg (N := 3) ?hd (cs := #[.int .i64 0, .int .i64 0, .int .i64 0, .int .i64 0, .int .i64 0]) (t := 27) ?hr ?_; (case hd => rfl); (case hg => rfl); (case hr => first | (go_simp; done) | (go_simp; rfl)); intro gb152 hg w4 hbox hb; have n0_ := Aside0.mk (blk_below (g := gb150) (o := .cells #[.int .i64 a0_0, .int .i64 a0_1, .int .i64 a0_2, .int .i64 a0_3, .int .i64 a0_4] 47 (0, 0)) (by (with_reducible repeat (first | refine blk_drewN ?_ _ | refine blk_drew ?_ | refine blk_alloc ?_ _)); exact BK150.out) hb); have n1_ := Aside0.mk (blk_below (g := gb151) (o := .cells #[.int .i64 0, .int .i64 0, .int .i64 0, .int .i64 0, .int .i64 0] 27 (0, 0)) (by (with_reducible repeat (first | refine blk_drewN ?_ _ | refine blk_drew ?_ | refine blk_alloc ?_ _)); exact BK151.out) hb); have n2_ := Aside0.mk (below_step (by repeat (first | (with_reducible first | exact HB.out | apply below_alloc | apply pw_below_drewN | apply below_drew1 | refine below_set ?_ GE150.out | refine below_set ?_ GE151.out) | exact HB.out)) hb); have n3_ := Aside0.mk (hbox); have n4_ := Aside0.mk ((by rw [hg]; exact (below_size (by repeat (first | (with_reducible first | exact HB.out | apply below_alloc | apply pw_below_drewN | apply below_drew1 | refine below_set ?_ GE150.out | refine below_set ?_ GE151.out) | exact HB.out))) : w.heap.size ≤ gb152)); have n5_ := Aside0.mk ((by rw [hg]; exact (below_size (by repeat (first | (with_reducible first | exact HB.out | apply below_alloc | apply pw_below_drewN | apply below_drew1 | refine below_set ?_ GE150.out | refine below_set ?_ GE151.out) | exact HB.out))) : w.heap.size ≤ gb152)); have n6_ := Aside0.mk ((by rw [hg]; exact Nat.ne_of_lt (blk_lt (g := gb150) (o := .cells #[.int .i64 a0_0, .int .i64 a0_1, .int .i64 a0_2, .int .i64 a0_3, .int .i64 a0_4] 47 (0, 0)) (by (with_reducible repeat (first | refine blk_drewN ?_ _ | refine blk_drew ?_ | refine blk_alloc ?_ _)); exact BK150.out)) : gb150 ≠ gb152)); have n7_ := Aside0.mk ((by rw [hg]; exact Nat.ne_of_gt (blk_lt (g := gb150) (o := .cells #[.int .i64 a0_0, .int .i64 a0_1, .int .i64 a0_2, .int .i64 a0_3, .int .i64 a0_4] 47 (0, 0)) (by (with_reducible repeat (first | refine blk_drewN ?_ _ | refine blk_drew ?_ | refine blk_alloc ?_ _)); exact BK150.out)) : gb152 ≠ gb150)); have n8_ := Aside0.mk ((by rw [hg]; exact Nat.ne_of_lt (blk_lt (g := gb151) (o := .cells #[.int .i64 0, .int .i64 0, .int .i64 0, .int .i64 0, .int .i64 0] 27 (0, 0)) (by (with_reducible repeat (first | refine blk_drewN ?_ _ | refine blk_drew ?_ | refine blk_alloc ?_ _)); exact BK151.out)) : gb151 ≠ gb152)); have n9_ := Aside0.mk ((by rw [hg]; exact Nat.ne_of_gt (blk_lt (g := gb151) (o := .cells #[.int .i64 0, .int .i64 0, .int .i64 0, .int .i64 0, .int .i64 0] 27 (0, 0)) (by (with_reducible repeat (first | refine blk_drewN ?_ _ | refine blk_drew ?_ | refine blk_alloc ?_ _)); exact BK151.out)) : gb152 ≠ gb151)); clear BK150; clear BK151; clear HB; have BK150 := n0_; have BK151 := n1_; have HB := n2_; have BK152 := n3_; have GW152 := n4_; have GE152 := n5_; have NB150_152 := n6_; have NB152_150 := n7_; have NB151_152 := n8_; have NB152_151 := n9_; clear n0_ n1_ n2_ n3_ n4_ n5_ n6_ n7_ n8_ n9_; clear hb hbox hg; have hnb5 := NB150_151.out; have hnc5 := NB151_150.out; have hnb6 := NB150_152.out; have hnc6 := NB152_150.out; have hcz7_0 : w4.cell? ⟨gb150, 0, none⟩ = some (.int .i64 a0_0) := (blk_cell BK150.out 0).trans rfl; have hcz7_1 : w4.cell? ⟨gb150, 1, none⟩ = some (.int .i64 a0_1) := (blk_cell BK150.out 1).trans rfl; have hcz7_2 : w4.cell? ⟨gb150, 2, none⟩ = some (.int .i64 a0_2) := (blk_cell BK150.out 2).trans rfl; have hcz7_3 : w4.cell? ⟨gb150, 3, none⟩ = some (.int .i64 a0_3) := (blk_cell BK150.out 3).trans rfl; have hcz7_4 : w4.cell? ⟨gb150, 4, none⟩ = some (.int .i64 a0_4) := (blk_cell BK150.out 4).trans rfl; have hfz7_0 := blk_frozen BK150.out 0; have hfz7_1 := blk_frozen BK150.out 1; have hfz7_2 := blk_frozen BK150.out 2; have hfz7_3 := blk_frozen BK150.out 3; have hfz7_4 := blk_frozen BK150.out 4; have hnb8 := NB152_151.out; have hnc8 := NB151_152.out; have hcz9_0 : w4.cell? ⟨gb152, 0, none⟩ = some (.int .i64 0) := (blk_cell BK152.out 0).trans rfl; have hcz9_1 : w4.cell? ⟨gb152, 1, none⟩ = some (.int .i64 0) := (blk_cell BK152.out 1).trans rfl; have hcz9_2 : w4.cell? ⟨gb152, 2, none⟩ = some (.int .i64 0) := (blk_cell BK152.out 2).trans rfl; have hcz9_3 : w4.cell? ⟨gb152, 3, none⟩ = some (.int .i64 0) := (blk_cell BK152.out 3).trans rfl; have hcz9_4 : w4.cell? ⟨gb152, 4, none⟩ = some (.int .i64 0) := (blk_cell BK152.out 4).trans rfl; have hfz9_0 := blk_frozen BK152.out 0; have hfz9_1 := blk_frozen BK152.out 1; have hfz9_2 := blk_frozen BK152.out 2; have hfz9_3 := blk_frozen BK152.out 3; have hfz9_4 := blk_frozen BK152.out 4; have hcz10_0 : w4.cell? ⟨gb151, 0, none⟩ = some (.int .i64 0) := (blk_cell BK151.out 0).trans rfl; have hcz10_1 : w4.cell? ⟨gb151, 1, none⟩ = some (.int .i64 0) := (blk_cell BK151.out 1).trans rfl; have hcz10_2 : w4.cell? ⟨gb151, 2, none⟩ = some (.int .i64 0) := (blk_cell BK151.out 2).trans rfl; have hcz10_3 : w4.cell? ⟨gb151, 3, none⟩ = some (.int .i64 0) := (blk_cell BK151.out 3).trans rfl; have hcz10_4 : w4.cell? ⟨gb151, 4, none⟩ = some (.int .i64 0) := (blk_cell BK151.out 4).trans rfl; have hfz10_0 := blk_frozen BK151.out 0; have hfz10_1 := blk_frozen BK151.out 1; have hfz10_2 := blk_frozen BK151.out 2; have hfz10_3 := blk_frozen BK151.out 3; have hfz10_4 := blk_frozen BK151.out 4))
  refine bodyPost_ret (results_cell_row rfl _ _ gb151 27 #[.int .i64 a0_0, .int .i64 a0_1, .int .i64 a0_2, .int .i64 a0_3, .int .i64 a0_4] (0, 0) _ rfl (by (with_reducible repeat (first | refine blk_drewN ?_ _ | refine blk_drew ?_ | refine blk_alloc ?_ _)); refine blk_put (cs := #[.int .i64 a0_0, .int .i64 a0_1, .int .i64 a0_2, .int .i64 a0_3, .int .i64 0]) ?_ 4 _ rfl; (with_reducible repeat (first | refine blk_drewN ?_ _ | refine blk_drew ?_ | refine blk_alloc ?_ _)); refine blk_put (cs := #[.int .i64 a0_0, .int .i64 a0_1, .int .i64 a0_2, .int .i64 0, .int .i64 0]) ?_ 3 _ rfl; (with_reducible repeat (first | refine blk_drewN ?_ _ | refine blk_drew ?_ | refine blk_alloc ?_ _)); refine blk_put (cs := #[.int .i64 a0_0, .int .i64 a0_1, .int .i64 0, .int .i64 0, .int .i64 0]) ?_ 2 _ rfl; (with_reducible repeat (first | refine blk_drewN ?_ _ | refine blk_drew ?_ | refine blk_alloc ?_ _)); refine blk_put (cs := #[.int .i64 a0_0, .int .i64 0, .int .i64 0, .int .i64 0, .int .i64 0]) ?_ 1 _ rfl; (with_reducible repeat (first | refine blk_drewN ?_ _ | refine blk_drew ?_ | refine blk_alloc ?_ _)); refine blk_put (cs := #[.int .i64 0, .int .i64 0, .int .i64 0, .int .i64 0, .int .i64 0]) ?_ 0 _ rfl; (with_reducible repeat (first | refine blk_drewN ?_ _ | refine blk_drew ?_ | refine blk_alloc ?_ _)); refine blk_far ?_ NB151_152.out _; (with_reducible repeat (first | refine blk_drewN ?_ _ | refine blk_drew ?_ | refine blk_alloc ?_ _)); refine blk_far ?_ NB151_152.out _; (with_reducible repeat (first | refine blk_drewN ?_ _ | refine blk_drew ?_ | refine blk_alloc ?_ _)); refine blk_far ?_ NB151_152.out _; (with_reducible repeat (first | refine blk_drewN ?_ _ | refine blk_drew ?_ | refine blk_alloc ?_ _)); refine blk_far ?_ NB151_152.out _; (with_reducible repeat (first | refine blk_drewN ?_ _ | refine blk_drew ?_ | refine blk_alloc ?_ _)); refine blk_far ?_ NB151_152.out _; (with_reducible repeat (first | refine blk_drewN ?_ _ | refine blk_drew ?_ | refine blk_alloc ?_ _)); exact BK151.out) Try.underlying27 rfl (by kernel_rfl)) rfl ?_
  exact ⟨by first | rfl | (simp [IntKind.wrap_i64, wrap64]; done) | (simp [errW_none, errW_some] <;> rfl) | (simp [*, errW_none, errW_some] <;> rfl), by repeat (first | (with_reducible first | exact HB.out | apply below_alloc | apply pw_below_drewN | apply below_drew1 | refine below_set ?_ GE150.out | refine below_set ?_ GE151.out | refine below_set ?_ GE152.out) | exact HB.out)⟩

/-! ### laws_toGrdCellS: function 15 -/
def laws_toGrdCellS.l0 : Nat → List (S47) → List (S27) → Int → Option ((List (S27)))
  | 0, _, _, _ => none
  | k + 1, x0, x3, x4 => if x4 < (x0.length : Int) then (if 0 ≤ x4 then ((laws_toGrdCell.f ((rd_T47 x0 x4).f0) ((rd_T47 x0 x4).f1) ((rd_T47 x0 x4).f2) ((rd_T47 x0 x4).f3) ((rd_T47 x0 x4).f4)).bind fun bt157 => (if x4 < (x3.length : Int) then (laws_toGrdCellS.l0 k x0 (x3.set (x4 : Int).toNat (⟨bt157.1, bt157.2.1, bt157.2.2.1, bt157.2.2.2.1, bt157.2.2.2.2⟩ : S27)) (wrap64 (x4 + 1))) else (none))) else (none)) else (some x3)
def laws_toGrdCellS.f (k : Nat) (l0 : List (S47)) : Option ((List (S27))) := if 0 ≤ (l0.length : Int) then (if ((l0.length : Int) : Int).toNat ≤ 7036874417766 then (laws_toGrdCellS.l0 k l0 (List.replicate ((l0.length : Int) : Int).toNat z27) 0) else (none)) else (none)
theorem laws_toGrdCellS.mono_l : ∀ k, (∀ y0 y1 y2, LeO (laws_toGrdCellS.l0 k y0 y1 y2) (laws_toGrdCellS.l0 (k + 1) y0 y1 y2))
  | 0 => fun _ _ _ r h => by simp [laws_toGrdCellS.l0] at h
  | k + 1 => by
    have ih0 := laws_toGrdCellS.mono_l k
    · intro y0 y1 y2
      unfold laws_toGrdCellS.l0
      repeat' first
      | (with_reducible exact ih0 _ _ _)
      | (with_reducible exact LeO.refl _)
      | (with_reducible exact LeO.none _)
      | (with_reducible refine LeO.ite ?_ ?_)
      | (with_reducible refine LeO.bind ?_ (fun _ => ?_))
      | exact ih0 _ _ _
      | exact LeO.none _
      | refine LeO.ite ?_ ?_
      | refine LeO.bind ?_ (fun _ => ?_)
theorem laws_toGrdCellS.mono : ∀ a0 k, LeO (laws_toGrdCellS.f k a0) (laws_toGrdCellS.f (k + 1) a0) := by
  intro a0 k
  have ih0 := laws_toGrdCellS.mono_l k
  unfold laws_toGrdCellS.f
  repeat' first
      | (with_reducible exact ih0 _ _ _)
      | (with_reducible exact LeO.refl _)
      | (with_reducible exact LeO.none _)
      | (with_reducible refine LeO.ite ?_ ?_)
      | (with_reducible refine LeO.bind ?_ (fun _ => ?_))
      | exact ih0 _ _ _
      | exact LeO.none _
      | refine LeO.ite ?_ ?_
      | refine LeO.bind ?_ (fun _ => ?_)
set_option maxHeartbeats 8000000 in
set_option maxRecDepth 100000 in
theorem laws_toGrdCellS.calls (k : Nat) (A0 : Option Addr) (c0 : Nat) (l0 : List (S47)) (r : List (S27)) (w : World) (hr0 : Kd.C k47 w A0 l0.length l0) (hc0 : l0.length ≤ c0) (h : laws_toGrdCellS.f k l0 = some r) :
    Calls Try.prog 15 #[.slice A0 l0.length c0] w fun e w' => ∃ v0_ : Value, e = .returned (v0_) ∧ Kd.R k27 27 w' w.heap.size (fun _ => True) v0_ r ∧ Below w.heap.size w w' := by
  have hu47 := Try.underlying47
  have hu27 := Try.underlying27
  have HR0 := Aside0.mk hr0
  have HC0 := Aside0.mk hc0
  clear hr0 hc0
  have HB := Aside0.mk (Below.refl w.heap.size w)
  have H : (if 0 ≤ (l0.length : Int) then (if ((l0.length : Int) : Int).toNat ≤ 7036874417766 then (laws_toGrdCellS.l0 k l0 (List.replicate ((l0.length : Int) : Int).toNat z27) 0) else (none)) else (none)) = some r := h
  clear h
  by_cases c2 : 0 ≤ (l0.length : Int)
  · rw [if_pos c2] at H
    have c2b0 := eq_true c2
    have c2b1 : decide (0 ≤ (l0.length : Int)) = true := decide_eq_true c2
    clear c2
    by_cases c3 : ((l0.length : Int) : Int).toNat ≤ 7036874417766
    · rw [if_pos c3] at H
      have c3b0 := eq_true c3
      have c3b1 : decide (((l0.length : Int) : Int).toNat ≤ 7036874417766) = true := decide_eq_true c3
      clear c3
      obtain ⟨y153, hy153⟩ : ∃ y_ : List (S27), y_ = (List.replicate ((l0.length : Int) : Int).toNat z27) := ⟨_, rfl⟩
      replace H : (laws_toGrdCellS.l0 k l0 y153 0) = some r := by first | (rw [hy153]; with_reducible exact H) | (have H2_ := (Option.bind_some _ _).symm.trans H; rw [hy153]; with_reducible exact H2_) | (have H2_ := (Option.bind_some _ _).symm.trans H; with_reducible exact H2_) | with_reducible exact H | (rw [hy153]; exact H) | exact H
      have Ny153 := Aside0.mk hy153
      clear hy153
      have H' := Aside0.mk H
      clear H
      go_enter Try.func15, Try.ntmps15
      go_wp2_with (first | ((with_reducible refine gate_dst (N := 7) rfl ?_); refine Kd.R_make k27 _ 27 rfl (N := 7) rfl 29 _ _ rfl (l0.length : Int) rfl rfl Try.underlying29 (.agg #[(.int .i64 0), (.int .i64 0), (.int .i64 0), (.int .i64 0), (.int .i64 0)]) 40 info27 rfl (by decide) (by omega) z27 (ok := fun _ => True) (okp := fun _ => True) (k27_mkM _ _ _ z27 ) (fun _ hk => hk) trivial (of_decide_eq_true (by first | (with_reducible assumption) | assumption)) (Nat.le_trans (Nat.mul_le_mul_right _ (of_decide_eq_true (by first | (with_reducible assumption) | assumption) : (l0.length : Int).toNat ≤ 7036874417766)) (by omega)) (Below.refl _ _) (Nat.le_refl _) ?_; intro v154 w4 ho5 hb hg_ hnew_; clear hg_ hnew_; (first | rw [← Ny153.out] at ho5 | (simp only [Int.reduceToNat] at ho5; rw [← Ny153.out] at ho5)); have n0_ := Aside0.mk (Kd.R_lower ho5 (below_size (by repeat (first | (with_reducible first | exact HB.out | apply below_alloc | apply pw_below_drewN | apply below_drew1) | exact HB.out)))); have n1_ := Aside0.mk (below_step (by repeat (first | (with_reducible first | exact HB.out | apply below_alloc | apply pw_below_drewN | apply below_drew1) | exact HB.out)) hb); clear HB; have HO155 := n0_; have HB := n1_; clear n0_ n1_; clear hb ho5))
      go_loopg [4] k (fun kq v4 w' => ∃ (x3_1 : List (S27)) (x4_1 : Int), v4 = .int .i64 x4_1 ∧ Aside0 (laws_toGrdCellS.l0 kq l0 x3_1 x4_1 = some r) ∧ Aside0 (kq ≤ k) ∧ Aside0 (Kd.R k27 27 w' w.heap.size (fun _ => True) v154 x3_1) ∧ Aside0 (Below w.heap.size w w'))
      case atStart => exact ⟨(y153), (0), (by first | rfl | (simp; done) | (simp [*]; done)), H', ⟨Nat.le_refl _⟩, ⟨by (with_reducible repeat (first | apply Kd.R_alloc | apply Kd.R_drewN | apply Kd.R_drew)); exact HO155.out⟩, ⟨by repeat (first | (with_reducible first | exact HB.out | apply below_alloc | apply pw_below_drewN | apply below_drew1) | exact HB.out)⟩⟩
      case round =>
        clear H'
        try clear c1
        try clear c2
        try clear c2b0
        try clear c2b1
        try clear p2
        try clear c3
        try clear c3b0
        try clear c3b1
        obtain ⟨x3_1, x4_1, rfl, HA, HK1, HO_3, HB⟩ := hrel
        cases gk with
        | zero => exact absurd HA.out (by simp [laws_toGrdCellS.l0])
        | succ k1 =>
          have H := HA.out
          clear HA
          simp only [laws_toGrdCellS.l0] at H
          by_cases c6 : x4_1 < (l0.length : Int)
          · rw [if_pos c6] at H
            have c6b0 : decide (x4_1 < (l0.length : Int)) = true := decide_eq_true c6
            clear c6
            by_cases c7 : 0 ≤ x4_1
            · rw [if_pos c7] at H
              have c7b0 : decide (0 ≤ x4_1) = true := decide_eq_true c7
              clear c7
              replace H := Option.bind_eq_some_iff.mp H
              obtain ⟨⟨t157, t158, t159, t160, t161⟩, A80, H⟩ := H
              replace H : (if x4_1 < (x3_1.length : Int) then (laws_toGrdCellS.l0 k1 l0 (x3_1.set (x4_1 : Int).toNat (⟨t157, t158, t159, t160, t161⟩ : S27)) (wrap64 (x4_1 + 1))) else (none)) = some r := H
              have A8 := Aside0.mk A80
              clear A80
              by_cases c9 : x4_1 < (x3_1.length : Int)
              · rw [if_pos c9] at H
                have c9b0 : decide (x4_1 < (x3_1.length : Int)) = true := decide_eq_true c9
                clear c9
                obtain ⟨y162, hy162⟩ : ∃ y_ : List (S27), y_ = (x3_1.set (x4_1 : Int).toNat (⟨t157, t158, t159, t160, t161⟩ : S27)) := ⟨_, rfl⟩
                replace H : (laws_toGrdCellS.l0 k1 l0 y162 (wrap64 (x4_1 + 1))) = some r := by first | (rw [hy162]; with_reducible exact H) | (have H2_ := (Option.bind_some _ _).symm.trans H; rw [hy162]; with_reducible exact H2_) | (have H2_ := (Option.bind_some _ _).symm.trans H; with_reducible exact H2_) | with_reducible exact H | (rw [hy162]; exact H) | exact H
                have Ny162 := Aside0.mk hy162
                clear hy162
                have H' := Aside0.mk H
                clear H
                have p156 : 0 ≤ (x4_1 : Int) := of_decide_eq_true (by first | (with_reducible assumption) | assumption)
                have q156 : x4_1 < (l0.length : Int) := of_decide_eq_true (by first | (with_reducible assumption) | assumption)
                obtain ⟨ad156, e156, hx156_0, hx156_1, hx156_2, hx156_3, hx156_4⟩ := at_T47 HR0.out x4_1 p156 q156
                cases e156
                replace hx156_0 := (HB.out.cell (World.block_lt_of_cell? w _ hx156_0)).trans hx156_0
                replace hx156_1 := (HB.out.cell (World.block_lt_of_cell? w _ hx156_1)).trans hx156_1
                replace hx156_2 := (HB.out.cell (World.block_lt_of_cell? w _ hx156_2)).trans hx156_2
                replace hx156_3 := (HB.out.cell (World.block_lt_of_cell? w _ hx156_3)).trans hx156_3
                replace hx156_4 := (HB.out.cell (World.block_lt_of_cell? w _ hx156_4)).trans hx156_4
                replace p156 := eq_true p156
                replace q156 := eq_true q156
                go_wp2_with (first | ((with_reducible refine gate_callee (f := 23) rfl ?_); refine goesL_ (some 20) rfl rfl Try.func23 (by kernel_rfl) rfl #[.agg #[.int .i64 ((rd_T47 l0 x4_1).f0), .int .i64 ((rd_T47 l0 x4_1).f1), .int .i64 ((rd_T47 l0 x4_1).f2), .int .i64 ((rd_T47 l0 x4_1).f3), .int .i64 ((rd_T47 l0 x4_1).f4)]] rfl (by (try simp only [List.map_toArray, List.map_cons, List.map_nil]); first | done | rfl | (simp only [List.length_drop, List.length_take]; rfl)) ?_; (with_reducible refine (laws_toGrdCell.calls ((rd_T47 l0 x4_1).f0) ((rd_T47 l0 x4_1).f1) ((rd_T47 l0 x4_1).f2) ((rd_T47 l0 x4_1).f3) ((rd_T47 l0 x4_1).f4) t157 t158 t159 t160 t161 _ A8.out).mono ?_); rintro e w11 ⟨rfl, hb⟩; refine ⟨_, rfl, ?_⟩; have n0_ := Aside0.mk (Kd.R_below (by (with_reducible repeat (first | apply Kd.R_alloc | apply Kd.R_drewN | apply Kd.R_drew)); exact HO_3.out) hb); have n1_ := Aside0.mk (below_step (by repeat (first | (with_reducible first | exact HB.out | apply below_alloc | apply pw_below_drewN | apply below_drew1) | exact HB.out)) hb); clear HO_3; clear HB; have HO_3 := n0_; have HB := n1_; clear n0_ n1_; (try clear hb); (try clear hb2); (try clear hk); (try clear hi); have p10 : 0 ≤ (x4_1 : Int) := of_decide_eq_true (by first | (with_reducible assumption) | assumption); have q10 : (x4_1 : Int) < ((x3_1.length : Int) : Int) := of_decide_eq_true (by first | (with_reducible assumption) | assumption); obtain ⟨go10, co10, eo10, gb10, gl10, cl10, HG10⟩ := Kd.R_form HO_3.out (by omega); (first | cases eo10 | (injection eo10 with ea_ en_ ec_; (first | subst ea_ | (injection ea_ with ea_; subst ea_)); subst ec_; clear en_)); have GB10 := Aside0.mk gb10; have GG10 := Aside0.mk HG10; clear gb10 gl10 HG10; obtain ⟨ce10, hcl10, hM10, hcc10, hfr10⟩ := Kd.R_elem HO_3.out z27 (x4_1 : Int) p10 q10; obtain rfl := k27_openM hM10; have hx10_0 : w11.cell? ⟨go10, (x4_1 : Int).toNat * 5, none⟩ = some (.int .i64 ((rd_T27 x3_1 x4_1).f0)) := hcc10 0 _ rfl; have hx10_1 : w11.cell? ⟨go10, (x4_1 : Int).toNat * 5 + 1, none⟩ = some (.int .i64 ((rd_T27 x3_1 x4_1).f1)) := hcc10 1 _ rfl; have hx10_2 : w11.cell? ⟨go10, (x4_1 : Int).toNat * 5 + 2, none⟩ = some (.int .i64 ((rd_T27 x3_1 x4_1).f2)) := hcc10 2 _ rfl; have hx10_3 : w11.cell? ⟨go10, (x4_1 : Int).toNat * 5 + 3, none⟩ = some (.int .i64 ((rd_T27 x3_1 x4_1).f3)) := hcc10 3 _ rfl; have hx10_4 : w11.cell? ⟨go10, (x4_1 : Int).toNat * 5 + 4, none⟩ = some (.int .i64 ((rd_T27 x3_1 x4_1).f4)) := hcc10 4 _ rfl; have hf10_0 : w11.frozen? ⟨go10, (x4_1 : Int).toNat * 5, none⟩ = false := hfr10 0; have hf10_1 : w11.frozen? ⟨go10, (x4_1 : Int).toNat * 5 + 1, none⟩ = false := hfr10 1; have hf10_2 : w11.frozen? ⟨go10, (x4_1 : Int).toNat * 5 + 2, none⟩ = false := hfr10 2; have hf10_3 : w11.frozen? ⟨go10, (x4_1 : Int).toNat * 5 + 3, none⟩ = false := hfr10 3; have hf10_4 : w11.frozen? ⟨go10, (x4_1 : Int).toNat * 5 + 4, none⟩ = false := hfr10 4; clear hcl10 hcc10 hfr10; replace p10 := eq_true p10; replace q10 := eq_true q10; have HX12 := Aside0.mk (show Kd.R k27 27 w11 w.heap.size (fun _ => True) (.slice (some ⟨go10, 0, none⟩) x3_1.length co10) x3_1 from (by (with_reducible repeat (first | apply Kd.R_alloc | apply Kd.R_drewN | apply Kd.R_drew)); exact HO_3.out)); obtain ⟨ce12, hcl12, hM12, hcc12, hfr12⟩ := Kd.R_elem HX12.out z27 (x4_1 : Int) (of_decide_eq_true (by first | (with_reducible assumption) | assumption)) (by have h_ : (x4_1 : Int) < ((x3_1.length : Int) : Int) := of_decide_eq_true (by first | (with_reducible assumption) | assumption); first | exact h_ | (have e_ := (Kd.R_reads' HO_3.out).1; omega) | simpa using h_); obtain rfl := k27_openM hM12; have HP12 := Kd.R_seg HX12.out (x4_1 : Int) (of_decide_eq_true (by first | (with_reducible assumption) | assumption)) (by have h_ : (x4_1 : Int) < ((x3_1.length : Int) : Int) := of_decide_eq_true (by first | (with_reducible assumption) | assumption); first | exact h_ | (have e_ := (Kd.R_reads' HO_3.out).1; omega) | simpa using h_) (seg := [.int .i64 t157, .int .i64 t158, .int .i64 t159, .int .i64 t160, .int .i64 t161]) (j := 0) hcl12 hcc12 (show 5 ≤ 5 from by decide) (x' := (⟨t157, t158, t159, t160, t161⟩ : S27)) (k27_mkM _ _ _ (⟨t157, t158, t159, t160, t161⟩ : S27) ) (fun _ hk => hk); have hx12_0 := hcc12 0 _ rfl; (try simp only [show (k27).sz = 5 from rfl, Nat.mul_one, Nat.add_zero] at hx12_0); have hf12_0 := hfr12 0; (try simp only [show (k27).sz = 5 from rfl, Nat.mul_one, Nat.add_zero] at hf12_0); have hx12_1 := hcc12 1 _ rfl; (try simp only [show (k27).sz = 5 from rfl, Nat.mul_one, Nat.add_zero] at hx12_1); have hf12_1 := hfr12 1; (try simp only [show (k27).sz = 5 from rfl, Nat.mul_one, Nat.add_zero] at hf12_1); have hx12_2 := hcc12 2 _ rfl; (try simp only [show (k27).sz = 5 from rfl, Nat.mul_one, Nat.add_zero] at hx12_2); have hf12_2 := hfr12 2; (try simp only [show (k27).sz = 5 from rfl, Nat.mul_one, Nat.add_zero] at hf12_2); have hx12_3 := hcc12 3 _ rfl; (try simp only [show (k27).sz = 5 from rfl, Nat.mul_one, Nat.add_zero] at hx12_3); have hf12_3 := hfr12 3; (try simp only [show (k27).sz = 5 from rfl, Nat.mul_one, Nat.add_zero] at hf12_3); have hx12_4 := hcc12 4 _ rfl; (try simp only [show (k27).sz = 5 from rfl, Nat.mul_one, Nat.add_zero] at hx12_4); have hf12_4 := hfr12 4; (try simp only [show (k27).sz = 5 from rfl, Nat.mul_one, Nat.add_zero] at hf12_4); clear hcl12 hcc12 hfr12) | ((with_reducible refine gate_store (t := 27) (p := 21) rfl ?_); refine store_event (t := 27) (p := 21) (v := ?vo_w13) (w1 := (((((w11.setCell ⟨go10, (x4_1 : Int).toNat * 5, none⟩ (.int .i64 t157)).setCell ⟨go10, (x4_1 : Int).toNat * 5 + 1, none⟩ (.int .i64 t158)).setCell ⟨go10, (x4_1 : Int).toNat * 5 + 2, none⟩ (.int .i64 t159)).setCell ⟨go10, (x4_1 : Int).toNat * 5 + 3, none⟩ (.int .i64 t160)).setCell ⟨go10, (x4_1 : Int).toNat * 5 + 4, none⟩ (.int .i64 t161))) ?hg ?ho ?hn ?hr ?_; (case ho => rfl); (case hg => rfl); (case hn => rfl); (case hr => first | (go_simp; done) | (go_simp; rfl)); intro w13 hw; have hg : w11.grownBy w13 (some go10) := (by rw [hw]; exact HP12.2); have hp_ : Kd.R k27 27 w13 w.heap.size (fun _ => True) (.slice (some ⟨go10, 0, none⟩) x3_1.length co10) y162 := (by rw [hw, Ny162.out]; exact HP12.1); clear HP12; have n0_ := Aside0.mk (hp_); have n1_ := Aside0.mk ((by rw [hw]; exact below_set (below_set (below_set (below_set (below_set (HB.out) GB10.out) GB10.out) GB10.out) GB10.out) GB10.out : Below w.heap.size w w13)); clear HO_3; clear HB; have HO_3 := n0_; have HB := n1_; clear n0_ n1_; clear hg hw hp_))
                go_roundg k1
                case measure => have := HK1.out; omega
                case rel => exact ⟨(y162), (wrap64 (x4_1 + 1)), (by first | rfl | (simp; done) | (simp [*]; done)), H', ⟨by have := HK1.out; omega⟩, ⟨by (with_reducible repeat (first | apply Kd.R_alloc | apply Kd.R_drewN | apply Kd.R_drew)); exact HO_3.out⟩, ⟨by repeat (first | (with_reducible first | exact HB.out | apply below_alloc | apply pw_below_drewN | apply below_drew1) | exact HB.out)⟩⟩
              · rw [if_neg c9] at H
                exact absurd H (by simp)
            · rw [if_neg c7] at H
              exact absurd H (by simp)
          · rw [if_neg c6] at H
            have c6b0 : decide (x4_1 < (l0.length : Int)) = false := decide_eq_false c6
            clear c6
            obtain rfl := Option.some.inj H
            go_wp2
            go_ret
            exact ⟨_, by first | rfl | (simp [errW_none, errW_some] <;> rfl) | (simp [*, errW_none, errW_some] <;> rfl), by (with_reducible repeat (first | apply Kd.R_alloc | apply Kd.R_drewN | apply Kd.R_drew)); exact HO_3.out, by repeat (first | (with_reducible first | exact HB.out | apply below_alloc | apply pw_below_drewN | apply below_drew1) | exact HB.out)⟩
    · rw [if_neg c3] at H
      exact absurd H (by simp)
  · rw [if_neg c2] at H
    exact absurd H (by simp)

/-! ### laws_toGrdGrid: function 6 -/
def laws_toGrdGrid.f (k : Nat) (a0_0 : Int) (a0_1 : Int) (l0_2 : List (S47)) : Option (Int × Int × (List (S27))) := (laws_toGrdCellS.f k l0_2).bind fun t166 => (some (a0_0, a0_1, t166))
theorem laws_toGrdGrid.mono : ∀ a0 a1 a2 k, LeO (laws_toGrdGrid.f k a0 a1 a2) (laws_toGrdGrid.f (k + 1) a0 a1 a2) := by
  intro a0 a1 a2 k
  unfold laws_toGrdGrid.f
  repeat' first
      | (with_reducible exact laws_toGrdCellS.mono _ _)
      | (with_reducible exact LeO.refl _)
      | (with_reducible exact LeO.none _)
      | (with_reducible refine LeO.ite ?_ ?_)
      | (with_reducible refine LeO.bind ?_ (fun _ => ?_))
      | exact laws_toGrdCellS.mono _ _
      | exact LeO.none _
      | refine LeO.ite ?_ ?_
      | refine LeO.bind ?_ (fun _ => ?_)
set_option maxHeartbeats 8000000 in
set_option maxRecDepth 100000 in
theorem laws_toGrdGrid.calls (k : Nat) (a0_0 : Int) (a0_1 : Int) (A0_2 : Option Addr) (c0_2 : Nat) (l0_2 : List (S47)) (r1 : Int) (r2 : Int) (r3 : List (S27)) (w : World) (hr0_2 : Kd.C k47 w A0_2 l0_2.length l0_2) (hc0_2 : l0_2.length ≤ c0_2) (h : laws_toGrdGrid.f k a0_0 a0_1 l0_2 = some (r1, r2, r3)) :
    Calls Try.prog 6 #[.agg #[.int .i64 a0_0, .int .i64 a0_1, .slice A0_2 l0_2.length c0_2]] w fun e w' => ∃ v2_ : Value, e = .returned (.agg #[.int .i64 r1, .int .i64 r2, v2_]) ∧ Kd.R k27 27 w' w.heap.size (fun _ => True) v2_ r3 ∧ Below w.heap.size w w' := by
  have hu24 := Try.underlying24
  have hu31 := Try.underlying31
  have HR0_2 := Aside0.mk hr0_2
  have HC0_2 := Aside0.mk hc0_2
  clear hr0_2 hc0_2
  have HB := Aside0.mk (Below.refl w.heap.size w)
  have H : ((laws_toGrdCellS.f k l0_2).bind fun t166 => (some (a0_0, a0_1, t166))) = some (r1, r2, r3) := h
  clear h
  replace H := Option.bind_eq_some_iff.mp H
  obtain ⟨t166, A20, H⟩ := H
  replace H : (some (a0_0, a0_1, t166)) = some (r1, r2, r3) := H
  have A2 := Aside0.mk A20
  clear A20
  simp only [Option.some.injEq, Prod.mk.injEq] at H
  obtain ⟨rfl, rfl, rfl⟩ := H
  go_enter Try.func6, Try.ntmps6
  go_wp2_with (first | ((with_reducible refine gate_dst (N := 1) rfl ?_); refine box_event ?hg (N := 1) ?hd (cs := #[.int .i64 a0_0, .int .i64 a0_1, .slice A0_2 l0_2.length c0_2]) (t := 24) ?hr ?_; (case hd => rfl); (case hg => rfl); (case hr => first | (go_simp; done) | (go_simp; rfl)); intro gb163 hg w3 hbox hb; have n0_ := Aside0.mk (below_step (by repeat (first | (with_reducible first | exact HB.out | apply below_alloc | apply pw_below_drewN | apply below_drew1) | exact HB.out)) hb); have n1_ := Aside0.mk (hbox); have n2_ := Aside0.mk ((by rw [hg]; exact (below_size (by repeat (first | (with_reducible first | exact HB.out | apply below_alloc | apply pw_below_drewN | apply below_drew1) | exact HB.out))) : w.heap.size ≤ gb163)); have n3_ := Aside0.mk ((by rw [hg]; exact (below_size (by repeat (first | (with_reducible first | exact HB.out | apply below_alloc | apply pw_below_drewN | apply below_drew1) | exact HB.out))) : w.heap.size ≤ gb163)); clear HB; have HB := n0_; have BK163 := n1_; have GW163 := n2_; have GE163 := n3_; clear n0_ n1_ n2_ n3_; clear hb hbox hg) | ((with_reducible refine gate_dst (N := 2) rfl ?_); refine box_event ?hg (N := 2) ?hd (cs := #[.int .i64 0, .int .i64 0, .slice none 0 0]) (t := 31) ?hr ?_; (case hd => rfl); (case hg => rfl); (case hr => first | (go_simp; done) | (go_simp; rfl)); intro gb164 hg w4 hbox hb; have n0_ := Aside0.mk (blk_below (g := gb163) (o := .cells #[.int .i64 a0_0, .int .i64 a0_1, .slice A0_2 l0_2.length c0_2] 24 (0, 0)) (by (with_reducible repeat (first | refine blk_drewN ?_ _ | refine blk_drew ?_ | refine blk_alloc ?_ _)); exact BK163.out) hb); have n1_ := Aside0.mk (below_step (by repeat (first | (with_reducible first | exact HB.out | apply below_alloc | apply pw_below_drewN | apply below_drew1 | refine below_set ?_ GE163.out) | exact HB.out)) hb); have n2_ := Aside0.mk (hbox); have n3_ := Aside0.mk ((by rw [hg]; exact (below_size (by repeat (first | (with_reducible first | exact HB.out | apply below_alloc | apply pw_below_drewN | apply below_drew1 | refine below_set ?_ GE163.out) | exact HB.out))) : w.heap.size ≤ gb164)); have n4_ := Aside0.mk ((by rw [hg]; exact (below_size (by repeat (first | (with_reducible first | exact HB.out | apply below_alloc | apply pw_below_drewN | apply below_drew1 | refine below_set ?_ GE163.out) | exact HB.out))) : w.heap.size ≤ gb164)); have n5_ := Aside0.mk ((by rw [hg]; exact Nat.ne_of_lt (blk_lt (g := gb163) (o := .cells #[.int .i64 a0_0, .int .i64 a0_1, .slice A0_2 l0_2.length c0_2] 24 (0, 0)) (by (with_reducible repeat (first | refine blk_drewN ?_ _ | refine blk_drew ?_ | refine blk_alloc ?_ _)); exact BK163.out)) : gb163 ≠ gb164)); have n6_ := Aside0.mk ((by rw [hg]; exact Nat.ne_of_gt (blk_lt (g := gb163) (o := .cells #[.int .i64 a0_0, .int .i64 a0_1, .slice A0_2 l0_2.length c0_2] 24 (0, 0)) (by (with_reducible repeat (first | refine blk_drewN ?_ _ | refine blk_drew ?_ | refine blk_alloc ?_ _)); exact BK163.out)) : gb164 ≠ gb163)); clear BK163; clear HB; have BK163 := n0_; have HB := n1_; have BK164 := n2_; have GW164 := n3_; have GE164 := n4_; have NB163_164 := n5_; have NB164_163 := n6_; clear n0_ n1_ n2_ n3_ n4_ n5_ n6_; clear hb hbox hg) | ((with_reducible refine gate_dst (N := 3) rfl ?_); refine box_event ?hg (N := 3) ?hd (cs := #[.int .i64 0, .int .i64 0, .slice none 0 0]) (t := 31) ?hr ?_; (case hd => rfl); (case hg => rfl); (case hr => first | (go_simp; done) | (go_simp; rfl)); intro gb165 hg w5 hbox hb; have n0_ := Aside0.mk (blk_below (g := gb163) (o := .cells #[.int .i64 a0_0, .int .i64 a0_1, .slice A0_2 l0_2.length c0_2] 24 (0, 0)) (by (with_reducible repeat (first | refine blk_drewN ?_ _ | refine blk_drew ?_ | refine blk_alloc ?_ _)); exact BK163.out) hb); have n1_ := Aside0.mk (blk_below (g := gb164) (o := .cells #[.int .i64 0, .int .i64 0, .slice none 0 0] 31 (0, 0)) (by (with_reducible repeat (first | refine blk_drewN ?_ _ | refine blk_drew ?_ | refine blk_alloc ?_ _)); exact BK164.out) hb); have n2_ := Aside0.mk (below_step (by repeat (first | (with_reducible first | exact HB.out | apply below_alloc | apply pw_below_drewN | apply below_drew1 | refine below_set ?_ GE163.out | refine below_set ?_ GE164.out) | exact HB.out)) hb); have n3_ := Aside0.mk (hbox); have n4_ := Aside0.mk ((by rw [hg]; exact (below_size (by repeat (first | (with_reducible first | exact HB.out | apply below_alloc | apply pw_below_drewN | apply below_drew1 | refine below_set ?_ GE163.out | refine below_set ?_ GE164.out) | exact HB.out))) : w.heap.size ≤ gb165)); have n5_ := Aside0.mk ((by rw [hg]; exact (below_size (by repeat (first | (with_reducible first | exact HB.out | apply below_alloc | apply pw_below_drewN | apply below_drew1 | refine below_set ?_ GE163.out | refine below_set ?_ GE164.out) | exact HB.out))) : w.heap.size ≤ gb165)); have n6_ := Aside0.mk ((by rw [hg]; exact Nat.ne_of_lt (blk_lt (g := gb163) (o := .cells #[.int .i64 a0_0, .int .i64 a0_1, .slice A0_2 l0_2.length c0_2] 24 (0, 0)) (by (with_reducible repeat (first | refine blk_drewN ?_ _ | refine blk_drew ?_ | refine blk_alloc ?_ _)); exact BK163.out)) : gb163 ≠ gb165)); have n7_ := Aside0.mk ((by rw [hg]; exact Nat.ne_of_gt (blk_lt (g := gb163) (o := .cells #[.int .i64 a0_0, .int .i64 a0_1, .slice A0_2 l0_2.length c0_2] 24 (0, 0)) (by (with_reducible repeat (first | refine blk_drewN ?_ _ | refine blk_drew ?_ | refine blk_alloc ?_ _)); exact BK163.out)) : gb165 ≠ gb163)); have n8_ := Aside0.mk ((by rw [hg]; exact Nat.ne_of_lt (blk_lt (g := gb164) (o := .cells #[.int .i64 0, .int .i64 0, .slice none 0 0] 31 (0, 0)) (by (with_reducible repeat (first | refine blk_drewN ?_ _ | refine blk_drew ?_ | refine blk_alloc ?_ _)); exact BK164.out)) : gb164 ≠ gb165)); have n9_ := Aside0.mk ((by rw [hg]; exact Nat.ne_of_gt (blk_lt (g := gb164) (o := .cells #[.int .i64 0, .int .i64 0, .slice none 0 0] 31 (0, 0)) (by (with_reducible repeat (first | refine blk_drewN ?_ _ | refine blk_drew ?_ | refine blk_alloc ?_ _)); exact BK164.out)) : gb165 ≠ gb164)); clear BK163; clear BK164; clear HB; have BK163 := n0_; have BK164 := n1_; have HB := n2_; have BK165 := n3_; have GW165 := n4_; have GE165 := n5_; have NB163_165 := n6_; have NB165_163 := n7_; have NB164_165 := n8_; have NB165_164 := n9_; clear n0_ n1_ n2_ n3_ n4_ n5_ n6_ n7_ n8_ n9_; clear hb hbox hg; have hnb6 := NB163_164.out; have hnc6 := NB164_163.out; have hnb7 := NB163_165.out; have hnc7 := NB165_163.out; have hcz8_0 : w5.cell? ⟨gb163, 0, none⟩ = some (.int .i64 a0_0) := (blk_cell BK163.out 0).trans rfl; have hcz8_1 : w5.cell? ⟨gb163, 1, none⟩ = some (.int .i64 a0_1) := (blk_cell BK163.out 1).trans rfl; have hcz8_2 : w5.cell? ⟨gb163, 2, none⟩ = some (.slice A0_2 l0_2.length c0_2) := (blk_cell BK163.out 2).trans rfl; have hfz8_0 := blk_frozen BK163.out 0; have hfz8_1 := blk_frozen BK163.out 1; have hfz8_2 := blk_frozen BK163.out 2; have hnb9 := NB165_164.out; have hnc9 := NB164_165.out; have hcz10_0 : w5.cell? ⟨gb165, 0, none⟩ = some (.int .i64 0) := (blk_cell BK165.out 0).trans rfl; have hcz10_1 : w5.cell? ⟨gb165, 1, none⟩ = some (.int .i64 0) := (blk_cell BK165.out 1).trans rfl; have hcz10_2 : w5.cell? ⟨gb165, 2, none⟩ = some (.slice none 0 0) := (blk_cell BK165.out 2).trans rfl; have hfz10_0 := blk_frozen BK165.out 0; have hfz10_1 := blk_frozen BK165.out 1; have hfz10_2 := blk_frozen BK165.out 2) | ((with_reducible refine gate_callee (f := 15) rfl ?_); refine goesL_ (some 12) rfl rfl Try.func15 (by kernel_rfl) rfl #[.slice A0_2 l0_2.length c0_2] rfl (by (try simp only [List.map_toArray, List.map_cons, List.map_nil]); first | done | rfl | (simp only [List.length_drop, List.length_take]; rfl)) ?_; (with_reducible refine (laws_toGrdCellS.calls k _ _ l0_2 t166 _ ?side1 ?side2 A2.out).mono ?_); (case side1 => exact Kd.C_below HR0_2.out (by repeat (first | (with_reducible first | exact HB.out | apply below_alloc | apply pw_below_drewN | apply below_drew1 | refine below_set ?_ GE163.out | refine below_set ?_ GE164.out | refine below_set ?_ GE165.out) | exact HB.out))); (case side2 => exact HC0_2.out); rintro e w11 ⟨v167, rfl, ho0, hb⟩; refine ⟨_, rfl, ?_⟩; have n0_ := Aside0.mk (Kd.R_lower ho0 (below_size (by repeat (first | (with_reducible first | exact HB.out | apply below_alloc | apply pw_below_drewN | apply below_drew1 | refine below_set ?_ GE163.out | refine below_set ?_ GE164.out | refine below_set ?_ GE165.out) | exact HB.out)))); have n1_ := Aside0.mk (blk_below (g := gb163) (o := .cells #[.int .i64 a0_0, .int .i64 a0_1, .slice A0_2 l0_2.length c0_2] 24 (0, 0)) (by (with_reducible repeat (first | refine blk_drewN ?_ _ | refine blk_drew ?_ | refine blk_alloc ?_ _)); refine blk_far ?_ NB163_165.out _; (with_reducible repeat (first | refine blk_drewN ?_ _ | refine blk_drew ?_ | refine blk_alloc ?_ _)); refine blk_far ?_ NB163_165.out _; (with_reducible repeat (first | refine blk_drewN ?_ _ | refine blk_drew ?_ | refine blk_alloc ?_ _)); exact BK163.out) hb); have n2_ := Aside0.mk (blk_below (g := gb164) (o := .cells #[.int .i64 0, .int .i64 0, .slice none 0 0] 31 (0, 0)) (by (with_reducible repeat (first | refine blk_drewN ?_ _ | refine blk_drew ?_ | refine blk_alloc ?_ _)); refine blk_far ?_ NB164_165.out _; (with_reducible repeat (first | refine blk_drewN ?_ _ | refine blk_drew ?_ | refine blk_alloc ?_ _)); refine blk_far ?_ NB164_165.out _; (with_reducible repeat (first | refine blk_drewN ?_ _ | refine blk_drew ?_ | refine blk_alloc ?_ _)); exact BK164.out) hb); have n3_ := Aside0.mk (blk_below (g := gb165) (o := .cells #[.int .i64 a0_0, .int .i64 a0_1, .slice none 0 0] 31 (0, 0)) (by (with_reducible repeat (first | refine blk_drewN ?_ _ | refine blk_drew ?_ | refine blk_alloc ?_ _)); refine blk_put (cs := #[.int .i64 a0_0, .int .i64 0, .slice none 0 0]) ?_ 1 _ rfl; (with_reducible repeat (first | refine blk_drewN ?_ _ | refine blk_drew ?_ | refine blk_alloc ?_ _)); refine blk_put (cs := #[.int .i64 0, .int .i64 0, .slice none 0 0]) ?_ 0 _ rfl; (with_reducible repeat (first | refine blk_drewN ?_ _ | refine blk_drew ?_ | refine blk_alloc ?_ _)); exact BK165.out) hb); have n4_ := Aside0.mk (below_step (by repeat (first | (with_reducible first | exact HB.out | apply below_alloc | apply pw_below_drewN | apply below_drew1 | refine below_set ?_ GE163.out | refine below_set ?_ GE164.out | refine below_set ?_ GE165.out) | exact HB.out)) hb); clear BK163; clear BK164; clear BK165; clear HB; have HO168 := n0_; have BK163 := n1_; have BK164 := n2_; have BK165 := n3_; have HB := n4_; clear n0_ n1_ n2_ n3_ n4_; (try clear hb); (try clear hb2); (try clear hk); (try clear hi); (try clear ho0); obtain ⟨Ao12, co12, eo12⟩ := Kd.R_slice HO168.out; subst eo12; have hcz13_0 : w11.cell? ⟨gb165, 0, none⟩ = some (.int .i64 a0_0) := (blk_cell BK165.out 0).trans rfl; have hcz13_1 : w11.cell? ⟨gb165, 1, none⟩ = some (.int .i64 a0_1) := (blk_cell BK165.out 1).trans rfl; have hcz13_2 : w11.cell? ⟨gb165, 2, none⟩ = some (.slice none 0 0) := (blk_cell BK165.out 2).trans rfl; have hfz13_0 := blk_frozen BK165.out 0; have hfz13_1 := blk_frozen BK165.out 1; have hfz13_2 := blk_frozen BK165.out 2; have hcz14_0 : w11.cell? ⟨gb164, 0, none⟩ = some (.int .i64 0) := (blk_cell BK164.out 0).trans rfl; have hcz14_1 : w11.cell? ⟨gb164, 1, none⟩ = some (.int .i64 0) := (blk_cell BK164.out 1).trans rfl; have hcz14_2 : w11.cell? ⟨gb164, 2, none⟩ = some (.slice none 0 0) := (blk_cell BK164.out 2).trans rfl; have hfz14_0 := blk_frozen BK164.out 0; have hfz14_1 := blk_frozen BK164.out 1; have hfz14_2 := blk_frozen BK164.out 2))
  refine bodyPost_ret (results_cell_row rfl _ _ gb164 31 #[.int .i64 a0_0, .int .i64 a0_1, .slice Ao12 t166.length co12] (0, 0) _ rfl (by (with_reducible repeat (first | refine blk_drewN ?_ _ | refine blk_drew ?_ | refine blk_alloc ?_ _)); refine blk_put (cs := #[.int .i64 a0_0, .int .i64 a0_1, .slice none 0 0]) ?_ 2 _ rfl; (with_reducible repeat (first | refine blk_drewN ?_ _ | refine blk_drew ?_ | refine blk_alloc ?_ _)); refine blk_put (cs := #[.int .i64 a0_0, .int .i64 0, .slice none 0 0]) ?_ 1 _ rfl; (with_reducible repeat (first | refine blk_drewN ?_ _ | refine blk_drew ?_ | refine blk_alloc ?_ _)); refine blk_put (cs := #[.int .i64 0, .int .i64 0, .slice none 0 0]) ?_ 0 _ rfl; (with_reducible repeat (first | refine blk_drewN ?_ _ | refine blk_drew ?_ | refine blk_alloc ?_ _)); refine blk_far ?_ NB164_165.out _; (with_reducible repeat (first | refine blk_drewN ?_ _ | refine blk_drew ?_ | refine blk_alloc ?_ _)); exact BK164.out) Try.underlying31 rfl (by kernel_rfl)) rfl ?_
  exact ⟨_, by first | rfl | (simp [errW_none, errW_some] <;> rfl) | (simp [*, errW_none, errW_some] <;> rfl), by (with_reducible repeat (first | apply Kd.R_alloc | apply Kd.R_drewN | apply Kd.R_drew)); exact Kd.R_mono (Kd.R_far (p := ⟨gb164, 2, none⟩) (Kd.R_far (p := ⟨gb164, 1, none⟩) (Kd.R_far (p := ⟨gb164, 0, none⟩) (Kd.R_far (p := ⟨gb165, 2, none⟩) (Kd.R_types (Kd.R_types HO168.out BK165.out (by decide)) BK164.out (by decide)) (fun _ hk => hk.1.2) (.slice Ao12 t166.length co12)) (fun _ hk => hk.2) (.int .i64 a0_0)) (fun _ hk => hk.2) (.int .i64 a0_1)) (fun _ hk => hk.2) (.slice Ao12 t166.length co12)) (fun _ hk => trivial), by repeat (first | (with_reducible first | exact HB.out | apply below_alloc | apply pw_below_drewN | apply below_drew1 | refine below_set ?_ GE163.out | refine below_set ?_ GE164.out | refine below_set ?_ GE165.out) | exact HB.out)⟩

/-! ### impl_in: function 17 -/
def impl_in.f (a0 : Int) (a1 : Int) (a2 : Int) : Option (Bool) := if a0 ≥ a1 then (some (decide (a0 ≤ a2))) else (some false)
set_option maxHeartbeats 8000000 in
set_option maxRecDepth 100000 in
theorem impl_in.calls (a0 : Int) (a1 : Int) (a2 : Int) (r : Bool) (w : World) (h : impl_in.f a0 a1 a2 = some r) :
    Calls Try.prog 17 #[.int .i64 a0, .int .i64 a1, .int .i64 a2] w fun e w' => e = .returned (.bool r) ∧ Drawn0 w w' := by
  have H : (if a0 ≥ a1 then (some (decide (a0 ≤ a2))) else (some false)) = some r := h
  clear h
  by_cases c4 : a0 ≥ a1
  · rw [if_pos c4] at H
    have c4b0 : decide (a1 ≤ a0) = true := decide_eq_true c4
    clear c4
    obtain rfl := Option.some.inj H
    go_enter Try.func17, Try.ntmps17
    go_wp2
    go_ret
    exact ⟨by first | rfl | (simp [IntKind.wrap_i64, wrap64]; done) | (simp; done) | (simp [*]; done), by repeat (first | exact Drawn0.refl _ | apply Drawn0.step)⟩
  · rw [if_neg c4] at H
    have c4b0 : decide (a1 ≤ a0) = false := decide_eq_false c4
    clear c4
    obtain rfl := Option.some.inj H
    go_enter Try.func17, Try.ntmps17
    go_wp2
    go_ret
    exact ⟨by first | rfl | (simp [IntKind.wrap_i64, wrap64]; done) | (simp; done) | (simp [*]; done), by repeat (first | exact Drawn0.refl _ | apply Drawn0.step)⟩


end Go.Proofs.Ytobpcokoahgpdaa.Q
