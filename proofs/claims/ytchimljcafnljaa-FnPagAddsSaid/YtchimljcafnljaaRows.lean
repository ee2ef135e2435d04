/-
  No cell of these rows narrows 'for every input' (looked for: loops, veiled, ifaces, maps, wideKeys, modest, calm, conditions, laid).
  DERIVED. THE GIVEN ROWS OF THIS SEAT. 12 by the template 'for every input the law returns true; each argument reads behind the call as it read before'; 0 by the template 'total and deterministic' (their statements: YtchimljcafnljaaTotals.lean).
  GIVEN WITH THE SEED: the statements are not yours to turn. If you find one false, say at which input.
  Laid BY PROGRAM, IN A SANDBOX (cutbox-rows.mjs): the forced cells as the released guide's own fill.sh prints them over the translation d77c011708847c7f… (all of the seat's roots in one cut). By AI agents, Wed Nov 11 2026. No macro, syntax, notation, axiom, sorry.
-/
import Derived.Test.YtchimljcafnljaaChecked
import GoSem.Claim
import GoSem.ClaimJoined
import GoSem.ClaimMapViews
import Derived.JoinedTies
import Derived.KernelRfl
namespace Go.Proofs.Ytchimljcafnljaa
/- THE CELL 'sum', in the pinned program and in every row, IS THE sha256 OF THE DUMP (.gsa) THAT YtchimljcafnljaaProg.lean LOADS. Nothing in Lean hashes anything: it is a label: what it is worth is what the hold of that sum in a sandbox is worth. -/
noncomputable def Try.pinned : Pinned := { name := "ytchimljcafnljaa", sum := "d77c011708847c7f303217a9b6bf1472bb6c5fa0949de5cf1f002ae680697e7c", checked := Try.checked }
namespace Rows
def none {H : Type} : Left H := { results := [], args := [] }

/-- 'laws.FnExactQryArea': WHATEVER THE INPUT: true; the input reads as it did. -/
def fnExactQryAreaSpec : ChangeSpec := { name := "fnExactQryArea", fn := fun _ => fun
  | [d] => { results := [.lit (.bool true)], args := [d] }
  | _ => none }
def fnExactQryAreaRow : OpenClaim := { program := "ytchimljcafnljaa", sum := "d77c011708847c7f303217a9b6bf1472bb6c5fa0949de5cf1f002ae680697e7c", func := "loop.example/panework/laws.FnExactQryArea", spec := "fnExactQryArea", apart := false }
def FnExactQryAreaSaid : Prop := fnExactQryAreaRow.holds Try.pinned (OpenSpec.ofChange fnExactQryAreaSpec)

/-- ITS FALSE NEIGHBOUR: 'it returns false'. Refute it at one input. -/
def fnExactQryAreaWrong : ChangeSpec := { name := "fnExactQryArea", fn := fun _ => fun
  | [d] => { results := [.lit (.bool false)], args := [d] }
  | _ => none }
def FnExactQryAreaWrongFalsely : Prop := fnExactQryAreaRow.holds Try.pinned (OpenSpec.ofChange fnExactQryAreaWrong)

/-- 'laws.FnExactBrdBeats': WHATEVER THE INPUT: true; the input reads as it did. -/
def fnExactBrdBeatsSpec : ChangeSpec := { name := "fnExactBrdBeats", fn := fun _ => fun
  | [d1, d2] => { results := [.lit (.bool true)], args := [d1, d2] }
  | _ => none }
def fnExactBrdBeatsRow : OpenClaim := { program := "ytchimljcafnljaa", sum := "d77c011708847c7f303217a9b6bf1472bb6c5fa0949de5cf1f002ae680697e7c", func := "loop.example/panework/laws.FnExactBrdBeats", spec := "fnExactBrdBeats", apart := false }
def FnExactBrdBeatsSaid : Prop := fnExactBrdBeatsRow.holds Try.pinned (OpenSpec.ofChange fnExactBrdBeatsSpec)

/-- ITS FALSE NEIGHBOUR: 'it returns false'. Refute it at one input. -/
def fnExactBrdBeatsWrong : ChangeSpec := { name := "fnExactBrdBeats", fn := fun _ => fun
  | [d1, d2] => { results := [.lit (.bool false)], args := [d1, d2] }
  | _ => none }
def FnExactBrdBeatsWrongFalsely : Prop := fnExactBrdBeatsRow.holds Try.pinned (OpenSpec.ofChange fnExactBrdBeatsWrong)

/-- 'laws.FnExactQryIn': WHATEVER THE INPUT: true; the input reads as it did. -/
def fnExactQryInSpec : ChangeSpec := { name := "fnExactQryIn", fn := fun _ => fun
  | [d1, d2, d3] => { results := [.lit (.bool true)], args := [d1, d2, d3] }
  | _ => none }
def fnExactQryInRow : OpenClaim := { program := "ytchimljcafnljaa", sum := "d77c011708847c7f303217a9b6bf1472bb6c5fa0949de5cf1f002ae680697e7c", func := "loop.example/panework/laws.FnExactQryIn", spec := "fnExactQryIn", apart := false }
def FnExactQryInSaid : Prop := fnExactQryInRow.holds Try.pinned (OpenSpec.ofChange fnExactQryInSpec)

/-- ITS FALSE NEIGHBOUR: 'it returns false'. Refute it at one input. -/
def fnExactQryInWrong : ChangeSpec := { name := "fnExactQryIn", fn := fun _ => fun
  | [d1, d2, d3] => { results := [.lit (.bool false)], args := [d1, d2, d3] }
  | _ => none }
def FnExactQryInWrongFalsely : Prop := fnExactQryInRow.holds Try.pinned (OpenSpec.ofChange fnExactQryInWrong)

/-- 'laws.FnExactWidAt': WHATEVER THE INPUT: true; the input reads as it did. -/
def fnExactWidAtSpec : ChangeSpec := { name := "fnExactWidAt", fn := fun _ => fun
  | [d1, d2, d3] => { results := [.lit (.bool true)], args := [d1, d2, d3] }
  | _ => none }
def fnExactWidAtRow : OpenClaim := { program := "ytchimljcafnljaa", sum := "d77c011708847c7f303217a9b6bf1472bb6c5fa0949de5cf1f002ae680697e7c", func := "loop.example/panework/laws.FnExactWidAt", spec := "fnExactWidAt", apart := false }
def FnExactWidAtSaid : Prop := fnExactWidAtRow.holds Try.pinned (OpenSpec.ofChange fnExactWidAtSpec)

/-- ITS FALSE NEIGHBOUR: 'it returns false'. Refute it at one input. -/
def fnExactWidAtWrong : ChangeSpec := { name := "fnExactWidAt", fn := fun _ => fun
  | [d1, d2, d3] => { results := [.lit (.bool false)], args := [d1, d2, d3] }
  | _ => none }
def FnExactWidAtWrongFalsely : Prop := fnExactWidAtRow.holds Try.pinned (OpenSpec.ofChange fnExactWidAtWrong)

/-- 'laws.FnExactHgtAt': WHATEVER THE INPUT: true; the input reads as it did. -/
def fnExactHgtAtSpec : ChangeSpec := { name := "fnExactHgtAt", fn := fun _ => fun
  | [d1, d2] => { results := [.lit (.bool true)], args := [d1, d2] }
  | _ => none }
def fnExactHgtAtRow : OpenClaim := { program := "ytchimljcafnljaa", sum := "d77c011708847c7f303217a9b6bf1472bb6c5fa0949de5cf1f002ae680697e7c", func := "loop.example/panework/laws.FnExactHgtAt", spec := "fnExactHgtAt", apart := false }
def FnExactHgtAtSaid : Prop := fnExactHgtAtRow.holds Try.pinned (OpenSpec.ofChange fnExactHgtAtSpec)

/-- ITS FALSE NEIGHBOUR: 'it returns false'. Refute it at one input. -/
def fnExactHgtAtWrong : ChangeSpec := { name := "fnExactHgtAt", fn := fun _ => fun
  | [d1, d2] => { results := [.lit (.bool false)], args := [d1, d2] }
  | _ => none }
def FnExactHgtAtWrongFalsely : Prop := fnExactHgtAtRow.holds Try.pinned (OpenSpec.ofChange fnExactHgtAtWrong)

/-- 'laws.FnPagAdds': WHATEVER THE INPUT: true; the input reads as it did. -/
def fnPagAddsSpec : ChangeSpec := { name := "fnPagAdds", fn := fun _ => fun
  | [d] => { results := [.lit (.bool true)], args := [d] }
  | _ => none }
def fnPagAddsRow : OpenClaim := { program := "ytchimljcafnljaa", sum := "d77c011708847c7f303217a9b6bf1472bb6c5fa0949de5cf1f002ae680697e7c", func := "loop.example/panework/laws.FnPagAdds", spec := "fnPagAdds", apart := false }
def FnPagAddsSaid : Prop := fnPagAddsRow.holds Try.pinned (OpenSpec.ofChange fnPagAddsSpec)

/-- ITS FALSE NEIGHBOUR: 'it returns false'. Refute it at one input. -/
def fnPagAddsWrong : ChangeSpec := { name := "fnPagAdds", fn := fun _ => fun
  | [d] => { results := [.lit (.bool false)], args := [d] }
  | _ => none }
def FnPagAddsWrongFalsely : Prop := fnPagAddsRow.holds Try.pinned (OpenSpec.ofChange fnPagAddsWrong)

/-- 'laws.FnExactWidEnd': WHATEVER THE INPUT: true; the input reads as it did. -/
def fnExactWidEndSpec : ChangeSpec := { name := "fnExactWidEnd", fn := fun _ => fun
  | [d1, d2, d3] => { results := [.lit (.bool true)], args := [d1, d2, d3] }
  | _ => none }
def fnExactWidEndRow : OpenClaim := { program := "ytchimljcafnljaa", sum := "d77c011708847c7f303217a9b6bf1472bb6c5fa0949de5cf1f002ae680697e7c", func := "loop.example/panework/laws.FnExactWidEnd", spec := "fnExactWidEnd", apart := false }
def FnExactWidEndSaid : Prop := fnExactWidEndRow.holds Try.pinned (OpenSpec.ofChange fnExactWidEndSpec)

/-- ITS FALSE NEIGHBOUR: 'it returns false'. Refute it at one input. -/
def fnExactWidEndWrong : ChangeSpec := { name := "fnExactWidEnd", fn := fun _ => fun
  | [d1, d2, d3] => { results := [.lit (.bool false)], args := [d1, d2, d3] }
  | _ => none }
def FnExactWidEndWrongFalsely : Prop := fnExactWidEndRow.holds Try.pinned (OpenSpec.ofChange fnExactWidEndWrong)

/-- 'laws.FnExactPagHigh': WHATEVER THE INPUT: true; the input reads as it did. -/
def fnExactPagHighSpec : ChangeSpec := { name := "fnExactPagHigh", fn := fun _ => fun
  | [d] => { results := [.lit (.bool true)], args := [d] }
  | _ => none }
def fnExactPagHighRow : OpenClaim := { program := "ytchimljcafnljaa", sum := "d77c011708847c7f303217a9b6bf1472bb6c5fa0949de5cf1f002ae680697e7c", func := "loop.example/panework/laws.FnExactPagHigh", spec := "fnExactPagHigh", apart := false }
def FnExactPagHighSaid : Prop := fnExactPagHighRow.holds Try.pinned (OpenSpec.ofChange fnExactPagHighSpec)

/-- ITS FALSE NEIGHBOUR: 'it returns false'. Refute it at one input. -/
def fnExactPagHighWrong : ChangeSpec := { name := "fnExactPagHigh", fn := fun _ => fun
  | [d] => { results := [.lit (.bool false)], args := [d] }
  | _ => none }
def FnExactPagHighWrongFalsely : Prop := fnExactPagHighRow.holds Try.pinned (OpenSpec.ofChange fnExactPagHighWrong)

/-- 'laws.FnWidAt': WHATEVER THE INPUT: true; the input reads as it did. -/
def fnWidAtSpec : ChangeSpec := { name := "fnWidAt", fn := fun _ => fun
  | [d] => { results := [.lit (.bool true)], args := [d] }
  | _ => none }
def fnWidAtRow : OpenClaim := { program := "ytchimljcafnljaa", sum := "d77c011708847c7f303217a9b6bf1472bb6c5fa0949de5cf1f002ae680697e7c", func := "loop.example/panework/laws.FnWidAt", spec := "fnWidAt", apart := false }
def FnWidAtSaid : Prop := fnWidAtRow.holds Try.pinned (OpenSpec.ofChange fnWidAtSpec)

/-- ITS FALSE NEIGHBOUR: 'it returns false'. Refute it at one input. -/
def fnWidAtWrong : ChangeSpec := { name := "fnWidAt", fn := fun _ => fun
  | [d] => { results := [.lit (.bool false)], args := [d] }
  | _ => none }
def FnWidAtWrongFalsely : Prop := fnWidAtRow.holds Try.pinned (OpenSpec.ofChange fnWidAtWrong)

/-- 'laws.FnExactHgtCell': WHATEVER THE INPUT: true; the input reads as it did. -/
def fnExactHgtCellSpec : ChangeSpec := { name := "fnExactHgtCell", fn := fun _ => fun
  | [d1, d2] => { results := [.lit (.bool true)], args := [d1, d2] }
  | _ => none }
def fnExactHgtCellRow : OpenClaim := { program := "ytchimljcafnljaa", sum := "d77c011708847c7f303217a9b6bf1472bb6c5fa0949de5cf1f002ae680697e7c", func := "loop.example/panework/laws.FnExactHgtCell", spec := "fnExactHgtCell", apart := false }
def FnExactHgtCellSaid : Prop := fnExactHgtCellRow.holds Try.pinned (OpenSpec.ofChange fnExactHgtCellSpec)

/-- ITS FALSE NEIGHBOUR: 'it returns false'. Refute it at one input. -/
def fnExactHgtCellWrong : ChangeSpec := { name := "fnExactHgtCell", fn := fun _ => fun
  | [d1, d2] => { results := [.lit (.bool false)], args := [d1, d2] }
  | _ => none }
def FnExactHgtCellWrongFalsely : Prop := fnExactHgtCellRow.holds Try.pinned (OpenSpec.ofChange fnExactHgtCellWrong)

/-- 'laws.FnBrdBeats': WHATEVER THE INPUT: true; the input reads as it did. -/
def fnBrdBeatsSpec : ChangeSpec := { name := "fnBrdBeats", fn := fun _ => fun
  | [d1, d2] => { results := [.lit (.bool true)], args := [d1, d2] }
  | _ => none }
def fnBrdBeatsRow : OpenClaim := { program := "ytchimljcafnljaa", sum := "d77c011708847c7f303217a9b6bf1472bb6c5fa0949de5cf1f002ae680697e7c", func := "loop.example/panework/laws.FnBrdBeats", spec := "fnBrdBeats", apart := false }
def FnBrdBeatsSaid : Prop := fnBrdBeatsRow.holds Try.pinned (OpenSpec.ofChange fnBrdBeatsSpec)

/-- ITS FALSE NEIGHBOUR: 'it returns false'. Refute it at one input. -/
def fnBrdBeatsWrong : ChangeSpec := { name := "fnBrdBeats", fn := fun _ => fun
  | [d1, d2] => { results := [.lit (.bool false)], args := [d1, d2] }
  | _ => none }
def FnBrdBeatsWrongFalsely : Prop := fnBrdBeatsRow.holds Try.pinned (OpenSpec.ofChange fnBrdBeatsWrong)

/-- 'laws.FnExactWidCell': WHATEVER THE INPUT: true; the input reads as it did. -/
def fnExactWidCellSpec : ChangeSpec := { name := "fnExactWidCell", fn := fun _ => fun
  | [d1, d2, d3] => { results := [.lit (.bool true)], args := [d1, d2, d3] }
  | _ => none }
def fnExactWidCellRow : OpenClaim := { program := "ytchimljcafnljaa", sum := "d77c011708847c7f303217a9b6bf1472bb6c5fa0949de5cf1f002ae680697e7c", func := "loop.example/panework/laws.FnExactWidCell", spec := "fnExactWidCell", apart := false }
def FnExactWidCellSaid : Prop := fnExactWidCellRow.holds Try.pinned (OpenSpec.ofChange fnExactWidCellSpec)

/-- ITS FALSE NEIGHBOUR: 'it returns false'. Refute it at one input. -/
def fnExactWidCellWrong : ChangeSpec := { name := "fnExactWidCell", fn := fun _ => fun
  | [d1, d2, d3] => { results := [.lit (.bool false)], args := [d1, d2, d3] }
  | _ => none }
def FnExactWidCellWrongFalsely : Prop := fnExactWidCellRow.holds Try.pinned (OpenSpec.ofChange fnExactWidCellWrong)

/- THE SECOND FORM. 'bulk': how many values and letters a reading holds, each counted each time it is reached (what is shared counts as often as it is met; a slice's spare places count too). A statement '..UptoSaid' is the law's where the arguments, and the package variables that the reading takes, are together of bulk at most 1048576: NARROWER than '..Said'. Prove '..Said' where nothing that the law and all that it calls make is longer than what came in: it says more and counts as full. Else prove '..UptoSaid'. A law counts once. -/
mutual
def uptoBulk {H : Type} : DataW H → Nat
  | .lit (.string bytes) => bytes.length + 1
  | .lit _ => 1
  | .nil => 1
  | .ptr d => uptoBulk d + 1
  | .slice elems spare => uptoBulkAll elems + uptoBulkAll spare + 1
  | .agg parts => uptoBulkAll parts + 1
  | .iface _ d => uptoBulk d + 1
  | .map entries => uptoBulkEntries entries + 1
  | .held _ => 1
def uptoBulkAll {H : Type} : List (DataW H) → Nat
  | [] => 0
  | d :: r => uptoBulk d + uptoBulkAll r
def uptoBulkEntries {H : Type} : List (Lit × DataW H) → Nat
  | [] => 0
  | x :: r => uptoBulkEntry x + uptoBulkEntries r
def uptoBulkEntry {H : Type} : Lit × DataW H → Nat
  | (.string bytes, d) => bytes.length + uptoBulk d + 1
  | (_, d) => uptoBulk d + 1
 end
def uptoSmall : (H : Type) → List (DataW H) → Bool := fun _ ds => decide (uptoBulkAll ds ≤ 1048576)
def OpenSpec.upto (s : _root_.Go.ChangeSpec) : _root_.Go.OpenSpec := { _root_.Go.OpenSpec.ofChange s with cond := some uptoSmall }

/-- 'laws.FnExactQryArea', WHERE WHAT IT READS IS OF BULK AT MOST 1048576: true; the input reads as it did. -/
def fnExactQryAreaUptoRow : OpenClaim := { program := "ytchimljcafnljaa", sum := "d77c011708847c7f303217a9b6bf1472bb6c5fa0949de5cf1f002ae680697e7c", func := "loop.example/panework/laws.FnExactQryArea", spec := "fnExactQryArea", apart := false, narrowed := true }
def FnExactQryAreaUptoSaid : Prop := fnExactQryAreaUptoRow.holds Try.pinned (OpenSpec.upto fnExactQryAreaSpec)

/-- 'laws.FnExactBrdBeats', WHERE WHAT IT READS IS OF BULK AT MOST 1048576: true; the input reads as it did. -/
def fnExactBrdBeatsUptoRow : OpenClaim := { program := "ytchimljcafnljaa", sum := "d77c011708847c7f303217a9b6bf1472bb6c5fa0949de5cf1f002ae680697e7c", func := "loop.example/panework/laws.FnExactBrdBeats", spec := "fnExactBrdBeats", apart := false, narrowed := true }
def FnExactBrdBeatsUptoSaid : Prop := fnExactBrdBeatsUptoRow.holds Try.pinned (OpenSpec.upto fnExactBrdBeatsSpec)

/-- 'laws.FnExactQryIn', WHERE WHAT IT READS IS OF BULK AT MOST 1048576: true; the input reads as it did. -/
def fnExactQryInUptoRow : OpenClaim := { program := "ytchimljcafnljaa", sum := "d77c011708847c7f303217a9b6bf1472bb6c5fa0949de5cf1f002ae680697e7c", func := "loop.example/panework/laws.FnExactQryIn", spec := "fnExactQryIn", apart := false, narrowed := true }
def FnExactQryInUptoSaid : Prop := fnExactQryInUptoRow.holds Try.pinned (OpenSpec.upto fnExactQryInSpec)

/-- 'laws.FnExactWidAt', WHERE WHAT IT READS IS OF BULK AT MOST 1048576: true; the input reads as it did. -/
def fnExactWidAtUptoRow : OpenClaim := { program := "ytchimljcafnljaa", sum := "d77c011708847c7f303217a9b6bf1472bb6c5fa0949de5cf1f002ae680697e7c", func := "loop.example/panework/laws.FnExactWidAt", spec := "fnExactWidAt", apart := false, narrowed := true }
def FnExactWidAtUptoSaid : Prop := fnExactWidAtUptoRow.holds Try.pinned (OpenSpec.upto fnExactWidAtSpec)

/-- 'laws.FnExactHgtAt', WHERE WHAT IT READS IS OF BULK AT MOST 1048576: true; the input reads as it did. -/
def fnExactHgtAtUptoRow : OpenClaim := { program := "ytchimljcafnljaa", sum := "d77c011708847c7f303217a9b6bf1472bb6c5fa0949de5cf1f002ae680697e7c", func := "loop.example/panework/laws.FnExactHgtAt", spec := "fnExactHgtAt", apart := false, narrowed := true }
def FnExactHgtAtUptoSaid : Prop := fnExactHgtAtUptoRow.holds Try.pinned (OpenSpec.upto fnExactHgtAtSpec)

/-- 'laws.FnPagAdds', WHERE WHAT IT READS IS OF BULK AT MOST 1048576: true; the input reads as it did. -/
def fnPagAddsUptoRow : OpenClaim := { program := "ytchimljcafnljaa", sum := "d77c011708847c7f303217a9b6bf1472bb6c5fa0949de5cf1f002ae680697e7c", func := "loop.example/panework/laws.FnPagAdds", spec := "fnPagAdds", apart := false, narrowed := true }
def FnPagAddsUptoSaid : Prop := fnPagAddsUptoRow.holds Try.pinned (OpenSpec.upto fnPagAddsSpec)

/-- 'laws.FnExactWidEnd', WHERE WHAT IT READS IS OF BULK AT MOST 1048576: true; the input reads as it did. -/
def fnExactWidEndUptoRow : OpenClaim := { program := "ytchimljcafnljaa", sum := "d77c011708847c7f303217a9b6bf1472bb6c5fa0949de5cf1f002ae680697e7c", func := "loop.example/panework/laws.FnExactWidEnd", spec := "fnExactWidEnd", apart := false, narrowed := true }
def FnExactWidEndUptoSaid : Prop := fnExactWidEndUptoRow.holds Try.pinned (OpenSpec.upto fnExactWidEndSpec)

/-- 'laws.FnExactPagHigh', WHERE WHAT IT READS IS OF BULK AT MOST 1048576: true; the input reads as it did. -/
def fnExactPagHighUptoRow : OpenClaim := { program := "ytchimljcafnljaa", sum := "d77c011708847c7f303217a9b6bf1472bb6c5fa0949de5cf1f002ae680697e7c", func := "loop.example/panework/laws.FnExactPagHigh", spec := "fnExactPagHigh", apart := false, narrowed := true }
def FnExactPagHighUptoSaid : Prop := fnExactPagHighUptoRow.holds Try.pinned (OpenSpec.upto fnExactPagHighSpec)

/-- 'laws.FnWidAt', WHERE WHAT IT READS IS OF BULK AT MOST 1048576: true; the input reads as it did. -/
def fnWidAtUptoRow : OpenClaim := { program := "ytchimljcafnljaa", sum := "d77c011708847c7f303217a9b6bf1472bb6c5fa0949de5cf1f002ae680697e7c", func := "loop.example/panework/laws.FnWidAt", spec := "fnWidAt", apart := false, narrowed := true }
def FnWidAtUptoSaid : Prop := fnWidAtUptoRow.holds Try.pinned (OpenSpec.upto fnWidAtSpec)

/-- 'laws.FnExactHgtCell', WHERE WHAT IT READS IS OF BULK AT MOST 1048576: true; the input reads as it did. -/
def fnExactHgtCellUptoRow : OpenClaim := { program := "ytchimljcafnljaa", sum := "d77c011708847c7f303217a9b6bf1472bb6c5fa0949de5cf1f002ae680697e7c", func := "loop.example/panework/laws.FnExactHgtCell", spec := "fnExactHgtCell", apart := false, narrowed := true }
def FnExactHgtCellUptoSaid : Prop := fnExactHgtCellUptoRow.holds Try.pinned (OpenSpec.upto fnExactHgtCellSpec)

/-- 'laws.FnBrdBeats', WHERE WHAT IT READS IS OF BULK AT MOST 1048576: true; the input reads as it did. -/
def fnBrdBeatsUptoRow : OpenClaim := { program := "ytchimljcafnljaa", sum := "d77c011708847c7f303217a9b6bf1472bb6c5fa0949de5cf1f002ae680697e7c", func := "loop.example/panework/laws.FnBrdBeats", spec := "fnBrdBeats", apart := false, narrowed := true }
def FnBrdBeatsUptoSaid : Prop := fnBrdBeatsUptoRow.holds Try.pinned (OpenSpec.upto fnBrdBeatsSpec)

/-- 'laws.FnExactWidCell', WHERE WHAT IT READS IS OF BULK AT MOST 1048576: true; the input reads as it did. -/
def fnExactWidCellUptoRow : OpenClaim := { program := "ytchimljcafnljaa", sum := "d77c011708847c7f303217a9b6bf1472bb6c5fa0949de5cf1f002ae680697e7c", func := "loop.example/panework/laws.FnExactWidCell", spec := "fnExactWidCell", apart := false, narrowed := true }
def FnExactWidCellUptoSaid : Prop := fnExactWidCellUptoRow.holds Try.pinned (OpenSpec.upto fnExactWidCellSpec)

end Rows
end Go.Proofs.Ytchimljcafnljaa
