/-
  impl.QryIn answers what spec.QryIn answers, at all numbers.
  Conditions: none but those of the statement.
-/
import Derived.Test.YtchimljcafnljaaPFnExactQryInx1
namespace Go.Proofs.Ytchimljcafnljaa.Pure
open Go.RowKit Go.Proofs.Ytchimljcafnljaa.PFnExactQryIn Go.Proofs.YtchimljcafnljaaW.PrintWords Go.Proofs.YtchimljcafnljaaW.PrintLast Go.Proofs.YtchimljcafnljaaW.PrintMore

theorem pp_wrap_l (a b : Int) : wrap64 (wrap64 a + b) = wrap64 (a + b) := by unfold wrap64; omega
theorem pp_wrap_r (a b : Int) : wrap64 (a + wrap64 b) = wrap64 (a + b) := by unfold wrap64; omega
theorem pp_wrap_id (a : Int) (h : -9223372036854775808 ≤ a) (h' : a ≤ 9223372036854775807) : wrap64 a = a := by unfold wrap64; omega
theorem pp_wrap_0 : wrap64 0 = 0 := by unfold wrap64; omega
theorem pp_wf (a : Int) (h : (Lit.int .i64 a).wf = true) : -9223372036854775808 ≤ a ∧ a ≤ 9223372036854775807 := by
  simp [Lit.wf, IntKind.min, IntKind.max, IntKind.signed, IntKind.bits] at h; omega

/-- Whether a number is one of so many from another one on. -/
def ppAmong (n f m : Int) : Bool := decide (f ≤ n) && (decide (0 < m) && decide (n - f < m))
theorem pp_implAmong (n f m : Int) (hn : (Lit.int .i64 n).wf = true) (hf : (Lit.int .i64 f).wf = true) (hm : (Lit.int .i64 m).wf = true) : impl_among.f n f m = some (ppAmong n f m) := by
  have := pp_wf n hn
  have := pp_wf f hf
  have := pp_wf m hm
  unfold impl_among.f ppAmong
  by_cases h0 : n ≥ f
  · by_cases h1 : m > 0
    · rw [if_pos h0, if_pos h1]
      simp only [IntKind.wrap_u64, Option.some.injEq]
      rw [Bool.eq_iff_iff]
      simp
      omega
    · rw [if_pos h0, if_neg h1]
      simp
      omega
  · rw [if_neg h0]
    simp
    omega
theorem pp_specAmong (n f m : Int) (hn : (Lit.int .i64 n).wf = true) (hf : (Lit.int .i64 f).wf = true) (hm : (Lit.int .i64 m).wf = true) (k : Nat) (hk : 0 < k) : spec_l1Among.f k n f m = some (ppAmong n f m) := by
  have := pp_wf n hn
  have := pp_wf f hf
  have := pp_wf m hm
  obtain ⟨k, rfl⟩ : ∃ q, k = q + 1 := ⟨k - 1, by omega⟩
  unfold spec_l1Among.f ppAmong
  simp only [spec_l1Among.j0]
  by_cases h0 : n < f
  · rw [if_pos h0]
    simp
    omega
  · rw [if_neg h0]
    by_cases h1 : m ≤ 0
    · rw [if_pos (by simpa using h1)]
      simp
      omega
    · rw [if_neg (by simpa using h1)]
      by_cases h2 : f < 0
      · rw [if_pos h2]
        by_cases h3 : n ≥ 0
        · rw [if_pos h3, pp_wrap_id _ (by omega) (by omega)]
          simp only [Option.some.injEq]
          rw [Bool.eq_iff_iff]
          simp
          omega
        · rw [if_neg h3, pp_wrap_id _ (by omega) (by omega)]
          simp only [Option.some.injEq]
          rw [Bool.eq_iff_iff]
          simp
          omega
      · rw [if_neg h2, pp_wrap_id _ (by omega) (by omega)]
        simp only [Option.some.injEq]
        rw [Bool.eq_iff_iff]
        simp
        omega

/-- Whether a place is in a rectangle. -/
def ppIn (X Y W H x y : Int) : Bool := ppAmong x X W && ppAmong y Y H
theorem pp_specQryIn (a b c d x y : Int) (ha : (Lit.int .i64 a).wf = true) (hb : (Lit.int .i64 b).wf = true) (hc : (Lit.int .i64 c).wf = true) (hd : (Lit.int .i64 d).wf = true) (hx : (Lit.int .i64 x).wf = true) (hy : (Lit.int .i64 y).wf = true) (k : Nat) (hk : 0 < k) :
    spec_QryIn.f k a b c d x y = some (ppIn a b c d x y) := by
  unfold spec_QryIn.f ppIn
  rw [pp_specAmong x a c hx ha hc k hk, pp_specAmong y b d hy hb hd k hk]
  simp only [Option.bind_some]
  cases ppAmong x a c <;> simp
theorem pp_implQryIn (a b c d x y : Int) (ha : (Lit.int .i64 a).wf = true) (hb : (Lit.int .i64 b).wf = true) (hc : (Lit.int .i64 c).wf = true) (hd : (Lit.int .i64 d).wf = true) (hx : (Lit.int .i64 x).wf = true) (hy : (Lit.int .i64 y).wf = true) :
    impl_QryIn.f a b c d x y = some (ppIn a b c d x y) := by
  unfold impl_QryIn.f ppIn
  rw [pp_implAmong x a c hx ha hc, pp_implAmong y b d hy hb hd]
  simp only [Option.bind_some]
  cases ppAmong x a c <;> simp

theorem FnExactQryIn : ∀ (a0_0 : Int) (a0_1 : Int) (a0_2 : Int) (a0_3 : Int) (a1 : Int) (a2 : Int), ((Lit.int .i64 a0_0).wf = true) → ((Lit.int .i64 a0_1).wf = true) → ((Lit.int .i64 a0_2).wf = true) → ((Lit.int .i64 a0_3).wf = true) → ((Lit.int .i64 a1).wf = true) → ((Lit.int .i64 a2).wf = true) → ∃ k, laws_FnExactQryIn.f k a0_0 a0_1 a0_2 a0_3 a1 a2 = some true := by
  intro a b c d x y ha hb hc hd hx hy
  refine ⟨2, ?_⟩
  unfold laws_FnExactQryIn.f laws_toQryRect.f
  simp only [Option.bind_some]
  rw [pp_specQryIn a b c d x y ha hb hc hd hx hy 2 (by omega), pp_implQryIn a b c d x y ha hb hc hd hx hy]
  simp

end Go.Proofs.Ytchimljcafnljaa.Pure
