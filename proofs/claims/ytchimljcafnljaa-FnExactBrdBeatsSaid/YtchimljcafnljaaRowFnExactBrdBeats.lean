/-
  The row of FnExactBrdBeats: whatever the input, the law returns true, and each argument reads behind the call as it read before. No condition.
-/
import Derived.Test.YtchimljcafnljaaRows
import Derived.Test.YtchimljcafnljaaPFnExactBrdBeatsx2
import Derived.Test.YtchimljcafnljaaPureFnExactBrdBeats
import Derived.Test.YtchimljcafnljaaOpens
import Derived.WalkKit
import Derived.ProofKit
import Derived.OpenShut
import Derived.ShutString
import Derived.ChangeOld
import Derived.Below
import Derived.SizedLaws
namespace Go.Proofs.Ytchimljcafnljaa.fnExactBrdBeats
open Go.ChangeShapes Go.WideShapes Go.ChangeAt Go.RowKit Go.Proofs.Ytchimljcafnljaa.Opn Go.Proofs.Ytchimljcafnljaa.PFnExactBrdBeats Go.Proofs.YtchimljcafnljaaW.PrintWords
open Go.ChangeMaps (open_string shut_string)
set_option linter.unusedVariables false
theorem own : ownKnob Try.prog.godebug = none := by kernel_rfl
theorem laidOut : laidOutB Try.prog = true := by kernel_rfl
set_option maxRecDepth 100000 in
theorem lifted (os : Os) (started : os.Started) (H : Type) (enc : TypeId × Value → H) :
    ReturnsInHanded {} Try.checked os 4 .any (Rows.fnExactBrdBeatsSpec.pre6 enc Try.prog Try.f4 Rows.fnExactBrdBeatsRow.domain false) (Rows.fnExactBrdBeatsSpec.post enc Try.prog Try.f4 false true false false) := by
  refine returnsInHanded_of_change_sized (C := Try.checked) own started (by kernel_rfl) Try.func4
    (ChangeSpec.witness6 (enc := enc) (C := Try.checked) false ⟨#[], #[.agg #[.int .i64 0, .int .i64 0], .agg #[.int .i64 0, .int .i64 0]], []⟩ 8 (by kernel_rfl) (by kernel_rfl) (by kernel_rfl) (by kernel_rfl)) ?_
  intro W base args ds gs before hval0 hW hcnd _ _
  have hval : ∀ (j : Nat) t v, Try.f4.params[j]? = some t → args[j]? = some v → Value.okWide Try.prog W .any base t v := hval0
  have hW' := hW
  obtain ⟨p, q, hA0, hV, rfl, hfz, hnd⟩ := hW
  have hA : DataW.TrodAll enc Try.prog W 0 (fun _ => true) true Try.f4.params.toList args.toList ds p := hA0
  rw [Try.params4] at hA hval
  obtain ⟨v0, vs0, d0, ds0, p0, q0, hargs, rfl, rfl, h0, r0⟩ := trodAll_cons hA
  obtain ⟨v1, vs1, d1, ds1, p1, q1, rfl, rfl, rfl, h1, r1⟩ := trodAll_cons r0
  obtain ⟨rfl, rfl, rfl⟩ := trodAll_nil r1
  obtain rfl : args = #[v0, v1] := by cases args; simp_all
  obtain ⟨rfl, rfl⟩ := trodVars_none hV
  obtain ⟨cs0, rfl, hs0⟩ := okWide_struct Try.underlying29 (hval 0 29 v0 rfl rfl)
  have k0 := h0
  have lt0 : ∀ x ∈ p0, x.block < W.heap.size := by obtain ⟨m, hm⟩ := k0; exact DataW.trod_lt m _ _ _ hm
  obtain ⟨x0, K0, w0⟩ := arg_struct (op_struct Try.underlying29 (by kernel_rfl) (fo_cons rfl (by kernel_rfl) (op_int Try.underlying3) (fo_last rfl (by kernel_rfl) (op_int Try.underlying3)))) h0
  obtain ⟨_, _, e0_0, rfl, rfl⟩ := K0
  obtain rfl : cs0 = #[.int .i64 x0.1, .int .i64 x0.2] := by
    apply Array.ext'
    simpa using e0_0
  obtain ⟨cs1, rfl, hs1⟩ := okWide_struct Try.underlying29 (hval 1 29 v1 rfl rfl)
  have k1 := h1
  have lt1 : ∀ x ∈ p1, x.block < W.heap.size := by obtain ⟨m, hm⟩ := k1; exact DataW.trod_lt m _ _ _ hm
  obtain ⟨x1, K1, w1⟩ := arg_struct (op_struct Try.underlying29 (by kernel_rfl) (fo_cons rfl (by kernel_rfl) (op_int Try.underlying3) (fo_last rfl (by kernel_rfl) (op_int Try.underlying3)))) h1
  obtain ⟨_, _, e1_0, rfl, rfl⟩ := K1
  obtain rfl : cs1 = #[.int .i64 x1.1, .int .i64 x1.2] := by
    apply Array.ext'
    simpa using e1_0
  clear hA0 hval0
  obtain ⟨k, hk⟩ := Pure.FnExactBrdBeats (x0.1) (x0.2) (x1.1) (x1.2) w0.1 w0.2 w1.1 w1.2
  refine (laws_FnExactBrdBeats.calls k (x0.1) (x0.2) (x1.1) (x1.2) true W hk).mono fun e W' ⟨he, bel0⟩ => ?_
  have bel : Below W.heap.size W W' := bel0
  subst he
  exact ⟨_, rfl, _, _, _, [], _, [], hW', trodAll_mk1 (shut_bool Try.underlying4 _), (trodAll_cons_mk (Below.trod laidOut (by kernel_rfl) (of_decide_eq_true (by kernel_rfl)) k0 bel lt0) (trodAll_cons_mk (Below.trod laidOut (by kernel_rfl) (of_decide_eq_true (by kernel_rfl)) k1 bel lt1) trodAll_mk0)), rfl, bel.frame _, fun h => by cases h⟩
theorem over : Rows.fnExactBrdBeatsRow.holds Try.pinned (OpenSpec.ofChange Rows.fnExactBrdBeatsSpec) :=
  OpenClaim.holds_of_wide 4 Try.f4 rfl rfl rfl rfl rfl rfl rfl ⟨rfl, rfl, rfl, rfl, rfl⟩ rfl rfl rfl rfl rfl (by kernel_rfl) Try.func4 (by kernel_rfl)
    (of_decide_eq_true (by kernel_rfl)) (by unfold Func.isWrapper; first | (rw [if_pos (by decide +kernel)]; kernel_rfl) | (rw [if_neg (by decide +kernel)]; exact ⟨rfl, rfl⟩))
    (fun os started H enc _ => lifted os started H enc)
theorem proved : Rows.FnExactBrdBeatsSaid := over
#print axioms proved
end Go.Proofs.Ytchimljcafnljaa.fnExactBrdBeats
namespace Go.Proofs.Ytchimljcafnljaa
/-- The row, under a short name, for the claim. -/
theorem fnExactBrdBeats_holds : Rows.FnExactBrdBeatsSaid := fnExactBrdBeats.proved
end Go.Proofs.Ytchimljcafnljaa
