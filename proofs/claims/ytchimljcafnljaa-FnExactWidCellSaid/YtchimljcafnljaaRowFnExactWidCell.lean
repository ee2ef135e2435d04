/-
  The row of FnExactWidCell: whatever the input, the law returns true, and each argument reads behind the call as it read before. No condition.
-/
import Derived.Test.YtchimljcafnljaaRows
import Derived.Test.YtchimljcafnljaaPFnExactWidCellx2
import Derived.Test.YtchimljcafnljaaPureFnExactWidCell
import Derived.Test.YtchimljcafnljaaOpens
import Derived.WalkKit
import Derived.ProofKit
import Derived.OpenShut
import Derived.ShutString
import Derived.ChangeOld
import Derived.Below
import Derived.SizedLaws
namespace Go.Proofs.Ytchimljcafnljaa.fnExactWidCell
open Go.ChangeShapes Go.WideShapes Go.ChangeAt Go.RowKit Go.Proofs.Ytchimljcafnljaa.Opn Go.Proofs.Ytchimljcafnljaa.PFnExactWidCell Go.Proofs.YtchimljcafnljaaW.PrintWords
open Go.ChangeMaps (open_string shut_string)
set_option linter.unusedVariables false
theorem own : ownKnob Try.prog.godebug = none := by kernel_rfl
theorem laidOut : laidOutB Try.prog = true := by kernel_rfl
set_option maxRecDepth 100000 in
theorem lifted (os : Os) (started : os.Started) (H : Type) (enc : TypeId × Value → H) :
    ReturnsInHanded {} Try.checked os 14 .any (Rows.fnExactWidCellSpec.pre6 enc Try.prog Try.f14 Rows.fnExactWidCellRow.domain false) (Rows.fnExactWidCellSpec.post enc Try.prog Try.f14 false true false false) := by
  refine returnsInHanded_of_change_sized (C := Try.checked) own started (by kernel_rfl) Try.func14
    (ChangeSpec.witness6 (enc := enc) (C := Try.checked) false ⟨#[], #[.slice none 0 0, .int .i64 0, .agg #[.int .i64 0, .int .i64 0, .int .i64 0, .int .i64 0, .int .i64 0]], []⟩ 8 (by kernel_rfl) (by kernel_rfl) (by kernel_rfl) (by kernel_rfl)) ?_
  intro W base args ds gs before hval0 hW hcnd _ _
  have hval : ∀ (j : Nat) t v, Try.f14.params[j]? = some t → args[j]? = some v → Value.okWide Try.prog W .any base t v := hval0
  have hW' := hW
  obtain ⟨p, q, hA0, hV, rfl, hfz, hnd⟩ := hW
  have hA : DataW.TrodAll enc Try.prog W 0 (fun _ => true) true Try.f14.params.toList args.toList ds p := hA0
  rw [Try.params14] at hA hval
  obtain ⟨v0, vs0, d0, ds0, p0, q0, hargs, rfl, rfl, h0, r0⟩ := trodAll_cons hA
  obtain ⟨v1, vs1, d1, ds1, p1, q1, rfl, rfl, rfl, h1, r1⟩ := trodAll_cons r0
  obtain ⟨v2, vs2, d2, ds2, p2, q2, rfl, rfl, rfl, h2, r2⟩ := trodAll_cons r1
  obtain ⟨rfl, rfl, rfl⟩ := trodAll_nil r2
  obtain rfl : args = #[v0, v1, v2] := by cases args; simp_all
  obtain ⟨rfl, rfl⟩ := trodVars_none hV
  obtain ⟨A0, n0, c0, rfl⟩ := okWide_slice Try.underlying36 (hval 0 36 v0 rfl rfl)
  have k0 := h0
  have lt0 : ∀ x ∈ p0, x.block < W.heap.size := by obtain ⟨m, hm⟩ := k0; exact DataW.trod_lt m _ _ _ hm
  obtain ⟨l0, rfl, hc0, hr0, w0⟩ := arg_slice (op_slice Try.underlying36 (by kernel_rfl) (op_int Try.underlying3) 0) h0
  obtain ⟨a1, rfl, rfl, rfl, w1⟩ := open_int Try.underlying3 (hval 1 3 v1 rfl rfl) h1
  obtain ⟨cs2, rfl, hs2⟩ := okWide_struct Try.underlying58 (hval 2 58 v2 rfl rfl)
  have k2 := h2
  have lt2 : ∀ x ∈ p2, x.block < W.heap.size := by obtain ⟨m, hm⟩ := k2; exact DataW.trod_lt m _ _ _ hm
  obtain ⟨x2, K2, w2⟩ := arg_struct (op_struct Try.underlying58 (by kernel_rfl) (fo_cons rfl (by kernel_rfl) (op_int Try.underlying3) (fo_cons rfl (by kernel_rfl) (op_int Try.underlying3) (fo_cons rfl (by kernel_rfl) (op_int Try.underlying3) (fo_cons rfl (by kernel_rfl) (op_int Try.underlying3) (fo_last rfl (by kernel_rfl) (op_int Try.underlying3))))))) h2
  obtain ⟨_, _, e2_0, rfl, ⟨_, _, e2_1, rfl, ⟨_, _, e2_2, rfl, ⟨_, _, e2_3, rfl, rfl⟩⟩⟩⟩ := K2
  obtain rfl : cs2 = #[.int .i64 x2.1, .int .i64 x2.2.1, .int .i64 x2.2.2.1, .int .i64 x2.2.2.2.1, .int .i64 x2.2.2.2.2] := by
    apply Array.ext'
    simpa [e2_1, e2_2, e2_3] using e2_0
  clear hA0 hval0
  obtain ⟨k, hk⟩ := Pure.FnExactWidCell l0 a1 (x2.1) (x2.2.1) (x2.2.2.1) (x2.2.2.2.1) (x2.2.2.2.2) w0 w1 w2.1 w2.2.1 w2.2.2.1 w2.2.2.2.1 w2.2.2.2.2
  refine (laws_FnExactWidCell.calls k _ _ l0 a1 (x2.1) (x2.2.1) (x2.2.2.1) (x2.2.2.2.1) (x2.2.2.2.2) true W hr0 hc0 hk).mono fun e W' ⟨he, bel0⟩ => ?_
  have bel : Below W.heap.size W W' := bel0
  subst he
  exact ⟨_, rfl, _, _, _, [], _, [], hW', trodAll_mk1 (shut_bool Try.underlying4 _), (trodAll_cons_mk (Below.trod laidOut (by kernel_rfl) (of_decide_eq_true (by kernel_rfl)) k0 bel lt0) (trodAll_cons_mk (shut_int Try.underlying3 w1) (trodAll_cons_mk (Below.trod laidOut (by kernel_rfl) (of_decide_eq_true (by kernel_rfl)) k2 bel lt2) trodAll_mk0))), rfl, bel.frame _, fun h => by cases h⟩
theorem over : Rows.fnExactWidCellRow.holds Try.pinned (OpenSpec.ofChange Rows.fnExactWidCellSpec) :=
  OpenClaim.holds_of_wide 14 Try.f14 rfl rfl rfl rfl rfl rfl rfl ⟨rfl, rfl, rfl, rfl, rfl⟩ rfl rfl rfl rfl rfl (by kernel_rfl) Try.func14 (by kernel_rfl)
    (of_decide_eq_true (by kernel_rfl)) (by unfold Func.isWrapper; first | (rw [if_pos (by decide +kernel)]; kernel_rfl) | (rw [if_neg (by decide +kernel)]; exact ⟨rfl, rfl⟩))
    (fun os started H enc _ => lifted os started H enc)
theorem proved : Rows.FnExactWidCellSaid := over
#print axioms proved
end Go.Proofs.Ytchimljcafnljaa.fnExactWidCell
namespace Go.Proofs.Ytchimljcafnljaa
/-- The row, under a short name, for the claim. -/
theorem fnExactWidCell_holds : Rows.FnExactWidCellSaid := fnExactWidCell.proved
end Go.Proofs.Ytchimljcafnljaa
