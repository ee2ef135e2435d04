/-
  The row of FnExactQrySlots: whatever the input, the law returns true, and each argument reads behind the call as it read before. No condition.
-/
import Derived.Test.YtobpcokoahgpdabRows
import Derived.Test.YtobpcokoahgpdabQlawsFnExactQrySlots
import Derived.Test.YtobpcokoahgpdabPureFnExactQrySlots
import Derived.Test.YtobpcokoahgpdabOpens
import Derived.WalkKit
import Derived.ProofKit
import Derived.OpenShut
import Derived.ShutString
import Derived.ChangeOld
import Derived.Below
import Derived.SizedLaws
namespace Go.Proofs.Ytobpcokoahgpdab.fnExactQrySlots
open Go.ChangeShapes Go.WideShapes Go.ChangeAt Go.RowKit Go.Proofs.Ytobpcokoahgpdab.Opn Go.Proofs.Ytobpcokoahgpdab.Q Go.Proofs.YtobpcokoahgpdabW.PrintWords
open Go.ChangeMaps (open_string shut_string)
set_option linter.unusedVariables false
theorem own : ownKnob Try.prog.godebug = none := by kernel_rfl
theorem laidOut : laidOutB Try.prog = true := by kernel_rfl
set_option maxRecDepth 100000 in
theorem lifted (os : Os) (started : os.Started) (H : Type) (enc : TypeId × Value → H) :
    ReturnsInHanded {} Try.checked os 3 .any (Rows.fnExactQrySlotsSpec.pre6 enc Try.prog Try.f3 Rows.fnExactQrySlotsRow.domain false) (Rows.fnExactQrySlotsSpec.post enc Try.prog Try.f3 false true false false) := by
  refine returnsInHanded_of_change_sized (C := Try.checked) own started (by kernel_rfl) Try.func3
    (ChangeSpec.witness6 (enc := enc) (C := Try.checked) false ⟨#[], #[.agg #[.int .i64 0, .int .i64 0, .slice none 0 0]], []⟩ 8 (by kernel_rfl) (by kernel_rfl) (by kernel_rfl) (by kernel_rfl)) ?_
  intro W base args ds gs before hval0 hW hcnd _ _
  have hval : ∀ (j : Nat) t v, Try.f3.params[j]? = some t → args[j]? = some v → Value.okWide Try.prog W .any base t v := hval0
  have hW' := hW
  obtain ⟨p, q, hA0, hV, rfl, hfz, hnd⟩ := hW
  have hA : DataW.TrodAll enc Try.prog W 0 (fun _ => true) true Try.f3.params.toList args.toList ds p := hA0
  rw [Try.params3] at hA hval
  obtain ⟨v0, vs0, d0, ds0, p0, q0, hargs, rfl, rfl, h0, r0⟩ := trodAll_cons hA
  obtain ⟨rfl, rfl, rfl⟩ := trodAll_nil r0
  obtain rfl : args = #[v0] := by cases args; simp_all
  obtain ⟨rfl, rfl⟩ := trodVars_none hV
  obtain ⟨cs0, rfl, hs0⟩ := okWide_struct Try.underlying24 (hval 0 24 v0 rfl rfl)
  have k0 := h0
  have lt0 : ∀ x ∈ p0, x.block < W.heap.size := by obtain ⟨m, hm⟩ := k0; exact DataW.trod_lt m _ _ _ hm
  obtain ⟨x0, K0, w0⟩ := arg_struct (op_struct Try.underlying24 (by kernel_rfl) (fo_cons rfl (by kernel_rfl) (op_int Try.underlying3) (fo_cons rfl (by kernel_rfl) (op_int Try.underlying3) (fo_last rfl (by kernel_rfl) (op_slice Try.underlying22 (by kernel_rfl) (op_iso (fun x : S52 => (x.f0, x.f1, x.f2, x.f3, x.f4)) (fun p => (⟨p.1, p.2.1, p.2.2.1, p.2.2.2.1, p.2.2.2.2⟩ : S52)) (fun _ => rfl) (op_struct Try.underlying52 (by kernel_rfl) (fo_cons rfl (by kernel_rfl) (op_int Try.underlying3) (fo_cons rfl (by kernel_rfl) (op_int Try.underlying3) (fo_cons rfl (by kernel_rfl) (op_int Try.underlying3) (fo_cons rfl (by kernel_rfl) (op_int Try.underlying3) (fo_last rfl (by kernel_rfl) (op_int Try.underlying3)))))))) z52))))) h0
  obtain ⟨_, _, e0_0, rfl, ⟨_, _, e0_1, rfl, ⟨A0_2, c0_2, rfl, hc0_2, hr0_2⟩⟩⟩ := K0
  obtain rfl : cs0 = #[.int .i64 x0.1, .int .i64 x0.2.1, .slice A0_2 x0.2.2.length c0_2] := by
    apply Array.ext'
    simpa [e0_1] using e0_0
  clear hA0 hval0
  obtain ⟨k, hk⟩ := Pure.FnExactQrySlots (x0.1) (x0.2.1) (x0.2.2) w0.1 w0.2.1 w0.2.2
  refine (laws_FnExactQrySlots.calls k (x0.1) (x0.2.1) _ _ (x0.2.2) true W hr0_2 hc0_2 hk).mono fun e W' ⟨he, bel0⟩ => ?_
  have bel : Below W.heap.size W W' := bel0
  subst he
  exact ⟨_, rfl, _, _, _, [], _, [], hW', trodAll_mk1 (shut_bool Try.underlying4 _), (trodAll_cons_mk (Below.trod laidOut (by kernel_rfl) (of_decide_eq_true (by kernel_rfl)) k0 bel lt0) trodAll_mk0), rfl, bel.frame _, fun h => by cases h⟩
theorem over : Rows.fnExactQrySlotsRow.holds Try.pinned (OpenSpec.ofChange Rows.fnExactQrySlotsSpec) :=
  OpenClaim.holds_of_wide 3 Try.f3 rfl rfl rfl rfl rfl rfl rfl ⟨rfl, rfl, rfl, rfl, rfl⟩ rfl rfl rfl rfl rfl (by kernel_rfl) Try.func3 (by kernel_rfl)
    (of_decide_eq_true (by kernel_rfl)) (by unfold Func.isWrapper; first | (rw [if_pos (by decide +kernel)]; kernel_rfl) | (rw [if_neg (by decide +kernel)]; exact ⟨rfl, rfl⟩))
    (fun os started H enc _ => lifted os started H enc)
theorem proved : Rows.FnExactQrySlotsSaid := over
#print axioms proved
end Go.Proofs.Ytobpcokoahgpdab.fnExactQrySlots
namespace Go.Proofs.Ytobpcokoahgpdab
/-- The row, under a short name, for the claim. -/
theorem fnExactQrySlots_holds : Rows.FnExactQrySlotsSaid := fnExactQrySlots.proved
end Go.Proofs.Ytobpcokoahgpdab
