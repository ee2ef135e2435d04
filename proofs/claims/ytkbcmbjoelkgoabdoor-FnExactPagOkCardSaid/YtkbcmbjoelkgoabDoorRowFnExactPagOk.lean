/-
  The row of FnExactPagOk: whatever the input, the law returns true, and each argument reads behind the call as it read before. No condition.
-/
import Derived.Test.YtkbcmbjoelkgoabDoorRows
import Derived.Test.YtkbcmbjoelkgoabDoorQlawsFnExactPagOk
import Derived.Test.YtkbcmbjoelkgoabDoorPureFnExactPagOk
import Derived.Test.YtkbcmbjoelkgoabDoorOpens
import Derived.WalkKit
import Derived.ProofKit
import Derived.OpenShut
import Derived.ShutString
import Derived.ChangeOld
import Derived.Below
import Derived.SizedLaws
import Derived.Test.YtkbcmbjoelkgoabDoorCards
import Derived.Test.YtkbcmbjoelkgoabDoorTie
import Derived.Lay
import Derived.SevenTiedAt
import Derived.Handed
import Derived.HandedShaped
namespace Go.Proofs.YtkbcmbjoelkgoabDoor.fnExactPagOk
open Go.ChangeShapes Go.WideShapes Go.ChangeAt Go.RowKit Go.Proofs.YtkbcmbjoelkgoabDoor.Opn Go.Proofs.YtkbcmbjoelkgoabDoor.Q Go.Proofs.YtkbcmbjoelkgoabDoorW.PrintWords
open Go.ChangeMaps (open_string shut_string)
set_option linter.unusedVariables false
theorem own : ownKnob Tryd.prog.godebug = none := by kernel_rfl
theorem laidOut : laidOutB Tryd.prog = true := by kernel_rfl
def laidL : List (String × DataW Unit) := [("unicode/utf8.acceptRanges", Rows.laid_unicode_utf8_acceptRanges), ("unicode/utf8.first", Rows.laid_unicode_utf8_first)]
set_option maxRecDepth 100000 in
theorem lifted (os : Os) (started : os.Started) (H : Type) (enc : TypeId × Value → H) :
    ReturnsInHanded {} Tryd.checked os 3 .any (fun w args => (Rows.fnExactPagOkSpec.pre enc Tryd.prog Tryd.f3 [] false w args ∧ laidMetH Tryd.prog laidL w) ∧ sizedMet enc Tryd.prog Tryd.f3 (OpenSpec.ofChange Rows.fnExactPagOkSpec) false w args) (Rows.fnExactPagOkSpec.post enc Tryd.prog Tryd.f3 false true false false) := by
  refine returnsInHanded_laid (C := Tryd.checked) (X := fun w _ => laidMetH Tryd.prog laidL w) (fun _ _ _ hh h => h.of_heap hh) own started (by kernel_rfl) Tryd.func3
    (ChangeSpec.witness_shaped (enc := enc) (C := Tryd.checked) (os := os) (X := fun w _ => laidMetH Tryd.prog laidL w) false (World.laidAll Tryd.prog os laidL) #[.agg #[.slice none 0 0, .int .i64 0, .int .i64 0, .slice none 0 0, .int .i64 0], .int .i64 0, .slice none 0 0] 8 (World.laidAll_os _ _ _)
      (World.shaped_of_ZipB (by kernel_rfl) (by kernel_rfl)) (by kernel_rfl) (by kernel_rfl) (by kernel_rfl)
      (by rw [MakeChecks.laidMetH_plain _ _ _ (by kernel_rfl)]; exact laidMet_laidAll _ (by kernel_rfl) (by kernel_rfl))) ?_
  intro W base args ds gs before hval0 hW hcnd _ _ hsh _
  have hval : ∀ (j : Nat) t v, Tryd.f3.params[j]? = some t → args[j]? = some v → Value.okWide Tryd.prog W .any base t v := hval0
  have hW' := hW
  obtain ⟨p, q, hA0, hV, rfl, hfz, hnd⟩ := hW
  have hA : DataW.TrodAll enc Tryd.prog W 0 (fun _ => true) true Tryd.f3.params.toList args.toList ds p := hA0
  rw [Tryd.params3] at hA hval
  obtain ⟨v0, vs0, d0, ds0, p0, q0, hargs, rfl, rfl, h0, r0⟩ := trodAll_cons hA
  obtain ⟨v1, vs1, d1, ds1, p1, q1, rfl, rfl, rfl, h1, r1⟩ := trodAll_cons r0
  obtain ⟨v2, vs2, d2, ds2, p2, q2, rfl, rfl, rfl, h2, r2⟩ := trodAll_cons r1
  obtain ⟨rfl, rfl, rfl⟩ := trodAll_nil r2
  obtain rfl : args = #[v0, v1, v2] := by cases args; simp_all
  obtain ⟨rfl, rfl⟩ := trodVars_none hV
  obtain ⟨cs0, rfl, hs0⟩ := okWide_struct Tryd.underlying25 (hval 0 25 v0 rfl rfl)
  have k0 := h0
  have lt0 : ∀ x ∈ p0, x.block < W.heap.size := by obtain ⟨m, hm⟩ := k0; exact DataW.trod_lt m _ _ _ hm
  obtain ⟨x0, K0, w0⟩ := arg_struct (op_struct Tryd.underlying25 (by kernel_rfl) (fo_cons rfl (by kernel_rfl) (op_slice Tryd.underlying22 (by kernel_rfl) (op_iso (fun x : S65 => (x.f0, x.f1)) (fun p => (⟨p.1, p.2⟩ : S65)) (fun _ => rfl) (op_struct Tryd.underlying65 (by kernel_rfl) (fo_cons rfl (by kernel_rfl) (op_int Tryd.underlying3) (fo_last rfl (by kernel_rfl) (op_int Tryd.underlying3))))) z65) (fo_cons rfl (by kernel_rfl) (op_int Tryd.underlying3) (fo_cons rfl (by kernel_rfl) (op_int Tryd.underlying3) (fo_cons rfl (by kernel_rfl) (op_slice Tryd.underlying23 (by kernel_rfl) (op_iso (fun x : S52 => (x.f0, x.f1)) (fun p => (⟨p.1, p.2⟩ : S52)) (fun _ => rfl) (op_struct Tryd.underlying52 (by kernel_rfl) (fo_cons rfl (by kernel_rfl) (op_slice Tryd.underlying50 (by kernel_rfl) (op_iso (fun x : S83 => (x.f0, x.f1, x.f2, x.f3, x.f4, x.f5, x.f6)) (fun p => (⟨p.1, p.2.1, p.2.2.1, p.2.2.2.1, p.2.2.2.2.1, p.2.2.2.2.2.1, p.2.2.2.2.2.2⟩ : S83)) (fun _ => rfl) (op_struct Tryd.underlying83 (by kernel_rfl) (fo_cons rfl (by kernel_rfl) (op_string Tryd.underlying9) (fo_cons rfl (by kernel_rfl) (op_int Tryd.underlying3) (fo_cons rfl (by kernel_rfl) (op_int Tryd.underlying3) (fo_cons rfl (by kernel_rfl) (op_iso (fun x : S81 => (x.f0, x.f1)) (fun p => (⟨p.1, p.2⟩ : S81)) (fun _ => rfl) (op_struct Tryd.underlying81 (by kernel_rfl) (fo_cons rfl (by kernel_rfl) (op_int Tryd.underlying3) (fo_last rfl (by kernel_rfl) (op_int Tryd.underlying3))))) (fo_cons rfl (by kernel_rfl) (op_iso (fun x : S81 => (x.f0, x.f1)) (fun p => (⟨p.1, p.2⟩ : S81)) (fun _ => rfl) (op_struct Tryd.underlying81 (by kernel_rfl) (fo_cons rfl (by kernel_rfl) (op_int Tryd.underlying3) (fo_last rfl (by kernel_rfl) (op_int Tryd.underlying3))))) (fo_cons rfl (by kernel_rfl) (op_iso (fun x : S81 => (x.f0, x.f1)) (fun p => (⟨p.1, p.2⟩ : S81)) (fun _ => rfl) (op_struct Tryd.underlying81 (by kernel_rfl) (fo_cons rfl (by kernel_rfl) (op_int Tryd.underlying3) (fo_last rfl (by kernel_rfl) (op_int Tryd.underlying3))))) (fo_last rfl (by kernel_rfl) (op_iso (fun x : S81 => (x.f0, x.f1)) (fun p => (⟨p.1, p.2⟩ : S81)) (fun _ => rfl) (op_struct Tryd.underlying81 (by kernel_rfl) (fo_cons rfl (by kernel_rfl) (op_int Tryd.underlying3) (fo_last rfl (by kernel_rfl) (op_int Tryd.underlying3)))))))))))))) z83) (fo_last rfl (by kernel_rfl) (op_bool Tryd.underlying4))))) z52) (fo_last rfl (by kernel_rfl) (op_int Tryd.underlying3))))))) h0
  obtain ⟨_, _, e0_0, ⟨A0_0, c0_0, rfl, hc0_0, hr0_0⟩, ⟨_, _, e0_1, rfl, ⟨_, _, e0_2, rfl, ⟨_, _, e0_3, ⟨A0_3, c0_3, rfl, hc0_3, hr0_3⟩, rfl⟩⟩⟩⟩ := K0
  obtain rfl : cs0 = #[.slice A0_0 x0.1.length c0_0, .int .i64 x0.2.1, .int .i64 x0.2.2.1, .slice A0_3 x0.2.2.2.1.length c0_3, .int .i64 x0.2.2.2.2] := by
    apply Array.ext'
    simpa [e0_1, e0_2, e0_3] using e0_0
  obtain ⟨a1, rfl, rfl, rfl, w1⟩ := open_int Tryd.underlying3 (hval 1 3 v1 rfl rfl) h1
  obtain ⟨A2, n2, c2, rfl⟩ := okWide_slice Tryd.underlying26 (hval 2 26 v2 rfl rfl)
  have k2 := h2
  have lt2 : ∀ x ∈ p2, x.block < W.heap.size := by obtain ⟨m, hm⟩ := k2; exact DataW.trod_lt m _ _ _ hm
  obtain ⟨l2, rfl, hc2, hr2, w2⟩ := arg_slice (op_slice Tryd.underlying26 (by kernel_rfl) (op_int Tryd.underlying3) 0) h2
  clear hA0 hval0
  obtain ⟨k, hk⟩ := Pure.FnExactPagOk (x0.1) (x0.2.1) (x0.2.2.1) (x0.2.2.2.1) (x0.2.2.2.2) a1 l2 w0.1 w0.2.1 w0.2.2.1 w0.2.2.2.1 w0.2.2.2.2 w1 w2
  refine (laws_FnExactPagOk.calls k _ _ (x0.1) (x0.2.1) (x0.2.2.1) _ _ (x0.2.2.2.1) (x0.2.2.2.2) a1 _ _ l2 true W hr0_0 hc0_0 hr0_3 hc0_3 hr2 hc2 (Txt.MLen_shaped hsh) hk).mono fun e W' ⟨he, bel0⟩ => ?_
  have bel : Below W.heap.size W W' := bel0
  subst he
  exact ⟨_, rfl, _, _, _, [], _, [], hW', trodAll_mk1 (shut_bool Tryd.underlying4 _), (trodAll_cons_mk (Below.trod laidOut (by kernel_rfl) (of_decide_eq_true (by kernel_rfl)) k0 bel lt0) (trodAll_cons_mk (shut_int Tryd.underlying3 w1) (trodAll_cons_mk (Below.trod laidOut (by kernel_rfl) (of_decide_eq_true (by kernel_rfl)) k2 bel lt2) trodAll_mk0))), rfl, bel.frame _, fun h => by cases h⟩
theorem over : Rows.fnExactPagOkRow.holds Tryd.pinned (OpenSpec.ofChange Rows.fnExactPagOkSpec) :=
  OpenClaim.holds_of_wide 3 Tryd.f3 rfl rfl rfl rfl rfl rfl rfl ⟨rfl, rfl, rfl, rfl, rfl⟩ rfl rfl rfl rfl rfl (by kernel_rfl) Tryd.func3 (by kernel_rfl)
    (of_decide_eq_true (by kernel_rfl)) (by unfold Func.isWrapper; first | (rw [if_pos (by decide +kernel)]; kernel_rfl) | (rw [if_neg (by decide +kernel)]; exact ⟨rfl, rfl⟩))
    (fun os started H enc _ => lifted os started H enc)
theorem proved : Rows.FnExactPagOkSaid := over
#print axioms proved
end Go.Proofs.YtkbcmbjoelkgoabDoor.fnExactPagOk
namespace Go.Proofs.YtkbcmbjoelkgoabDoor
/-- The row, under a short name, for the claim. -/
theorem fnExactPagOk_holds : Rows.FnExactPagOkSaid := fnExactPagOk.proved
/-- The card: the row, and what it lists tied to the program's text. -/
theorem fnExactPagOkCard_holds : Rows.FnExactPagOkCardSaid :=
  Claim7.holds_tied_plain_at .later [] [.data, .pinned] true (true, "c1637eeb2391ea80706e58d1718e2dd321f812a493165f9c60ae0914974224a2") false fnExactPagOk_holds (fun _ h => by cases h) (by kernel_rfl) (fun _ h => by cases h) fnExactPagOk_row_tie rfl ⟨rfl, rfl⟩ (by kernel_rfl) rfl
    (fun f fn hf hfn => by
      obtain rfl : f = 3 := Option.some.inj ((show Tryd.prog.funcNamed "loop.example/panework/laws.FnExactPagOk" = some 3 by kernel_rfl).symm.trans hf) |>.symm
      obtain rfl : fn = Tryd.f3 := (Option.some.inj (Tryd.func3.symm.trans hfn)).symm
      exact ⟨by kernel_rfl, fun j t ht => by
        rw [Tryd.params3] at ht
        have hm : t ∈ [25, 3, 26] := by simpa using Array.mem_of_getElem? ht
        have hall : ([25, 3, 26].all fun u => !Tryd.prog.wantsStandIn u) = true := by kernel_rfl
        exact (show Tryd.prog.wantsStandIn t = false by simpa using List.all_eq_true.1 hall t hm)⟩)
    (by kernel_rfl)
#print axioms fnExactPagOkCard_holds
end Go.Proofs.YtkbcmbjoelkgoabDoor
