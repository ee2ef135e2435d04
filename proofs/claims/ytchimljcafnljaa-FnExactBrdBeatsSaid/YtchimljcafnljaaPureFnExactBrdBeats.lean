/-
  impl.BrdBeats answers what spec.BrdBeats answers, at all numbers.
  Conditions: none but those of the statement.
-/
import Derived.Test.YtchimljcafnljaaPFnExactBrdBeatsx2
namespace Go.Proofs.Ytchimljcafnljaa.Pure
open Go.RowKit Go.Proofs.Ytchimljcafnljaa.PFnExactBrdBeats Go.Proofs.YtchimljcafnljaaW.PrintWords Go.Proofs.YtchimljcafnljaaW.PrintLast Go.Proofs.YtchimljcafnljaaW.PrintMore

/-- Whether a border beats another one. -/
def ppBeats (s1 w1 s2 w2 : Int) : Bool := if s1 = 4 ∨ s2 = 4 then decide (s1 = 4 ∧ s2 ≠ 4) else if w1 = w2 then decide (s1 > s2) else decide (w1 > w2)
theorem pp_specBeats (a b c d : Int) (k : Nat) (hk : 0 < k) : spec_BrdBeats.f k a b c d = some (ppBeats a b c d) := by
  obtain ⟨k, rfl⟩ : ∃ q, k = q + 1 := ⟨k - 1, by omega⟩
  unfold spec_BrdBeats.f ppBeats
  simp only [spec_BrdBeats.j0, if_true]
  by_cases ha : a = 4 <;> by_cases hc : c = 4 <;> by_cases h : b = d <;> simp [ha, hc, h]
theorem pp_implBeats (a b c d : Int) (k : Nat) (hk : 0 < k) : impl_BrdBeats.f k a b c d = some (ppBeats a b c d) := by
  obtain ⟨k, rfl⟩ : ∃ q, k = q + 1 := ⟨k - 1, by omega⟩
  unfold impl_BrdBeats.f ppBeats
  simp only [impl_BrdBeats.j0, if_true]
  by_cases ha : a = 4 <;> by_cases hc : c = 4 <;> by_cases h : b = d <;> simp [ha, hc, h]

theorem FnExactBrdBeats : ∀ (a0_0 : Int) (a0_1 : Int) (a1_0 : Int) (a1_1 : Int), ((Lit.int .i64 a0_0).wf = true) → ((Lit.int .i64 a0_1).wf = true) → ((Lit.int .i64 a1_0).wf = true) → ((Lit.int .i64 a1_1).wf = true) → ∃ k, laws_FnExactBrdBeats.f k a0_0 a0_1 a1_0 a1_1 = some true := by
  intro a b c d _ _ _ _
  refine ⟨2, ?_⟩
  unfold laws_FnExactBrdBeats.f laws_toBrdLine.f
  simp only [Option.bind_some]
  rw [pp_specBeats a b c d 2 (by omega), pp_implBeats a b c d 2 (by omega)]
  simp

end Go.Proofs.Ytchimljcafnljaa.Pure
