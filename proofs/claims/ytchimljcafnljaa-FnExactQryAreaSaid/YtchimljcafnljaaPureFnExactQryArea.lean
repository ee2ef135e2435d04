/-
  impl.QryArea answers what spec.QryArea answers, at all numbers.
  Conditions: none but those of the statement.
-/
import Derived.Test.YtchimljcafnljaaPFnExactQryAreax1
namespace Go.Proofs.Ytchimljcafnljaa.Pure
open Go.RowKit Go.Proofs.Ytchimljcafnljaa.PFnExactQryArea Go.Proofs.YtchimljcafnljaaW.PrintWords Go.Proofs.YtchimljcafnljaaW.PrintLast Go.Proofs.YtchimljcafnljaaW.PrintMore


theorem FnExactQryArea : ∀ (a0_0 : Int) (a0_1 : Int) (a0_2 : Int) (a0_3 : Int), ((Lit.int .i64 a0_0).wf = true) → ((Lit.int .i64 a0_1).wf = true) → ((Lit.int .i64 a0_2).wf = true) → ((Lit.int .i64 a0_3).wf = true) → laws_FnExactQryArea.f a0_0 a0_1 a0_2 a0_3 = some true := by
  intro a b c d _ _ _ _
  unfold laws_FnExactQryArea.f laws_toQryRect.f spec_QryArea.f impl_QryArea.f
  simp

end Go.Proofs.Ytchimljcafnljaa.Pure
