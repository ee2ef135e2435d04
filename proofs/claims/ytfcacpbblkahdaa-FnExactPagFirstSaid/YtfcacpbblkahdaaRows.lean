/-
  No cell of these rows narrows 'for every input' (looked for: loops, veiled, ifaces, maps, wideKeys, modest, calm, conditions, laid).
  DERIVED. THE GIVEN ROWS OF THIS SEAT. 9 by the template 'for every input the law returns true; each argument reads behind the call as it read before'; 0 by the template 'total and deterministic' (their statements: YtfcacpbblkahdaaTotals.lean).
  GIVEN WITH THE SEED: the statements are not yours to turn. If you find one false, say at which input.
  Laid BY PROGRAM, IN A SANDBOX (cutbox-rows.mjs): the forced cells as the released guide's own fill.sh prints them over the translation fa686c92ec4cf42a… (all of the seat's roots in one cut). By AI agents, Wed Nov 11 2026. No macro, syntax, notation, axiom, sorry.
-/
import Derived.Test.YtfcacpbblkahdaaChecked
import GoSem.Claim
import GoSem.ClaimJoined
import GoSem.ClaimMapViews
import Derived.JoinedTies
import Derived.KernelRfl
namespace Go.Proofs.Ytfcacpbblkahdaa
/- THE CELL 'sum', in the pinned program and in every row, IS THE sha256 OF THE DUMP (.gsa) THAT YtfcacpbblkahdaaProg.lean LOADS. Nothing in Lean hashes anything: it is a label: what it is worth is what the hold of that sum in a sandbox is worth. -/
noncomputable def Try.pinned : Pinned := { name := "ytfcacpbblkahdaa", sum := "fa686c92ec4cf42a69457e98c82435db3dc0c607fa04c10723e643f64a299668", checked := Try.checked }
namespace Rows
def none {H : Type} : Left H := { results := [], args := [] }

/-- 'laws.FnExactBrdBest': WHATEVER THE INPUT: true; the input reads as it did. -/
def fnExactBrdBestSpec : ChangeSpec := { name := "fnExactBrdBest", fn := fun _ => fun
  | [d] => { results := [.lit (.bool true)], args := [d] }
  | _ => none }
def fnExactBrdBestRow : OpenClaim := { program := "ytfcacpbblkahdaa", sum := "fa686c92ec4cf42a69457e98c82435db3dc0c607fa04c10723e643f64a299668", func := "loop.example/panework/laws.FnExactBrdBest", spec := "fnExactBrdBest", apart := false }
def FnExactBrdBestSaid : Prop := fnExactBrdBestRow.holds Try.pinned (OpenSpec.ofChange fnExactBrdBestSpec)

/-- ITS FALSE NEIGHBOUR: 'it returns false'. Refute it at one input. -/
def fnExactBrdBestWrong : ChangeSpec := { name := "fnExactBrdBest", fn := fun _ => fun
  | [d] => { results := [.lit (.bool false)], args := [d] }
  | _ => none }
def FnExactBrdBestWrongFalsely : Prop := fnExactBrdBestRow.holds Try.pinned (OpenSpec.ofChange fnExactBrdBestWrong)

/-- 'laws.FnExactPagRow': WHATEVER THE INPUT: true; the input reads as it did. -/
def fnExactPagRowSpec : ChangeSpec := { name := "fnExactPagRow", fn := fun _ => fun
  | [d1, d2] => { results := [.lit (.bool true)], args := [d1, d2] }
  | _ => none }
def fnExactPagRowRow : OpenClaim := { program := "ytfcacpbblkahdaa", sum := "fa686c92ec4cf42a69457e98c82435db3dc0c607fa04c10723e643f64a299668", func := "loop.example/panework/laws.FnExactPagRow", spec := "fnExactPagRow", apart := false }
def FnExactPagRowSaid : Prop := fnExactPagRowRow.holds Try.pinned (OpenSpec.ofChange fnExactPagRowSpec)

/-- ITS FALSE NEIGHBOUR: 'it returns false'. Refute it at one input. -/
def fnExactPagRowWrong : ChangeSpec := { name := "fnExactPagRow", fn := fun _ => fun
  | [d1, d2] => { results := [.lit (.bool false)], args := [d1, d2] }
  | _ => none }
def FnExactPagRowWrongFalsely : Prop := fnExactPagRowRow.holds Try.pinned (OpenSpec.ofChange fnExactPagRowWrong)

/-- 'laws.FnExactPagFirst': WHATEVER THE INPUT: true; the input reads as it did. -/
def fnExactPagFirstSpec : ChangeSpec := { name := "fnExactPagFirst", fn := fun _ => fun
  | [d1, d2] => { results := [.lit (.bool true)], args := [d1, d2] }
  | _ => none }
def fnExactPagFirstRow : OpenClaim := { program := "ytfcacpbblkahdaa", sum := "fa686c92ec4cf42a69457e98c82435db3dc0c607fa04c10723e643f64a299668", func := "loop.example/panework/laws.FnExactPagFirst", spec := "fnExactPagFirst", unfollowed := true, recurses := true, apart := false }
def FnExactPagFirstSaid : Prop := fnExactPagFirstRow.holds Try.pinned (OpenSpec.ofChange fnExactPagFirstSpec)

/-- ITS FALSE NEIGHBOUR: 'it returns false'. Refute it at one input. -/
def fnExactPagFirstWrong : ChangeSpec := { name := "fnExactPagFirst", fn := fun _ => fun
  | [d1, d2] => { results := [.lit (.bool false)], args := [d1, d2] }
  | _ => none }
def FnExactPagFirstWrongFalsely : Prop := fnExactPagFirstRow.holds Try.pinned (OpenSpec.ofChange fnExactPagFirstWrong)

/-- 'laws.FnHgtAt': WHATEVER THE INPUT: true; the input reads as it did. -/
def fnHgtAtSpec : ChangeSpec := { name := "fnHgtAt", fn := fun _ => fun
  | [d1, d2] => { results := [.lit (.bool true)], args := [d1, d2] }
  | _ => none }
def fnHgtAtRow : OpenClaim := { program := "ytfcacpbblkahdaa", sum := "fa686c92ec4cf42a69457e98c82435db3dc0c607fa04c10723e643f64a299668", func := "loop.example/panework/laws.FnHgtAt", spec := "fnHgtAt", apart := false }
def FnHgtAtSaid : Prop := fnHgtAtRow.holds Try.pinned (OpenSpec.ofChange fnHgtAtSpec)

/-- ITS FALSE NEIGHBOUR: 'it returns false'. Refute it at one input. -/
def fnHgtAtWrong : ChangeSpec := { name := "fnHgtAt", fn := fun _ => fun
  | [d1, d2] => { results := [.lit (.bool false)], args := [d1, d2] }
  | _ => none }
def FnHgtAtWrongFalsely : Prop := fnHgtAtRow.holds Try.pinned (OpenSpec.ofChange fnHgtAtWrong)

/-- 'laws.FnExactGrdAt': WHATEVER THE INPUT: true; the input reads as it did. -/
def fnExactGrdAtSpec : ChangeSpec := { name := "fnExactGrdAt", fn := fun _ => fun
  | [d1, d2, d3] => { results := [.lit (.bool true)], args := [d1, d2, d3] }
  | _ => none }
def fnExactGrdAtRow : OpenClaim := { program := "ytfcacpbblkahdaa", sum := "fa686c92ec4cf42a69457e98c82435db3dc0c607fa04c10723e643f64a299668", func := "loop.example/panework/laws.FnExactGrdAt", spec := "fnExactGrdAt", unfollowed := true, recurses := true, apart := false }
def FnExactGrdAtSaid : Prop := fnExactGrdAtRow.holds Try.pinned (OpenSpec.ofChange fnExactGrdAtSpec)

/-- ITS FALSE NEIGHBOUR: 'it returns false'. Refute it at one input. -/
def fnExactGrdAtWrong : ChangeSpec := { name := "fnExactGrdAt", fn := fun _ => fun
  | [d1, d2, d3] => { results := [.lit (.bool false)], args := [d1, d2, d3] }
  | _ => none }
def FnExactGrdAtWrongFalsely : Prop := fnExactGrdAtRow.holds Try.pinned (OpenSpec.ofChange fnExactGrdAtWrong)

/-- 'laws.FnExactGrdCol': WHATEVER THE INPUT: true; the input reads as it did. -/
def fnExactGrdColSpec : ChangeSpec := { name := "fnExactGrdCol", fn := fun _ => fun
  | [d1, d2] => { results := [.lit (.bool true)], args := [d1, d2] }
  | _ => none }
def fnExactGrdColRow : OpenClaim := { program := "ytfcacpbblkahdaa", sum := "fa686c92ec4cf42a69457e98c82435db3dc0c607fa04c10723e643f64a299668", func := "loop.example/panework/laws.FnExactGrdCol", spec := "fnExactGrdCol", unfollowed := true, recurses := true, apart := false }
def FnExactGrdColSaid : Prop := fnExactGrdColRow.holds Try.pinned (OpenSpec.ofChange fnExactGrdColSpec)

/-- ITS FALSE NEIGHBOUR: 'it returns false'. Refute it at one input. -/
def fnExactGrdColWrong : ChangeSpec := { name := "fnExactGrdCol", fn := fun _ => fun
  | [d1, d2] => { results := [.lit (.bool false)], args := [d1, d2] }
  | _ => none }
def FnExactGrdColWrongFalsely : Prop := fnExactGrdColRow.holds Try.pinned (OpenSpec.ofChange fnExactGrdColWrong)

/-- 'laws.FnExactGrdRow': WHATEVER THE INPUT: true; the input reads as it did. -/
def fnExactGrdRowSpec : ChangeSpec := { name := "fnExactGrdRow", fn := fun _ => fun
  | [d1, d2] => { results := [.lit (.bool true)], args := [d1, d2] }
  | _ => none }
def fnExactGrdRowRow : OpenClaim := { program := "ytfcacpbblkahdaa", sum := "fa686c92ec4cf42a69457e98c82435db3dc0c607fa04c10723e643f64a299668", func := "loop.example/panework/laws.FnExactGrdRow", spec := "fnExactGrdRow", unfollowed := true, recurses := true, apart := false }
def FnExactGrdRowSaid : Prop := fnExactGrdRowRow.holds Try.pinned (OpenSpec.ofChange fnExactGrdRowSpec)

/-- ITS FALSE NEIGHBOUR: 'it returns false'. Refute it at one input. -/
def fnExactGrdRowWrong : ChangeSpec := { name := "fnExactGrdRow", fn := fun _ => fun
  | [d1, d2] => { results := [.lit (.bool false)], args := [d1, d2] }
  | _ => none }
def FnExactGrdRowWrongFalsely : Prop := fnExactGrdRowRow.holds Try.pinned (OpenSpec.ofChange fnExactGrdRowWrong)

/-- 'laws.FnExactQryRange': WHATEVER THE INPUT: true; the input reads as it did. -/
def fnExactQryRangeSpec : ChangeSpec := { name := "fnExactQryRange", fn := fun _ => fun
  | [d1, d2, d3] => { results := [.lit (.bool true)], args := [d1, d2, d3] }
  | _ => none }
def fnExactQryRangeRow : OpenClaim := { program := "ytfcacpbblkahdaa", sum := "fa686c92ec4cf42a69457e98c82435db3dc0c607fa04c10723e643f64a299668", func := "loop.example/panework/laws.FnExactQryRange", spec := "fnExactQryRange", unfollowed := true, recurses := true, apart := false }
def FnExactQryRangeSaid : Prop := fnExactQryRangeRow.holds Try.pinned (OpenSpec.ofChange fnExactQryRangeSpec)

/-- ITS FALSE NEIGHBOUR: 'it returns false'. Refute it at one input. -/
def fnExactQryRangeWrong : ChangeSpec := { name := "fnExactQryRange", fn := fun _ => fun
  | [d1, d2, d3] => { results := [.lit (.bool false)], args := [d1, d2, d3] }
  | _ => none }
def FnExactQryRangeWrongFalsely : Prop := fnExactQryRangeRow.holds Try.pinned (OpenSpec.ofChange fnExactQryRangeWrong)

/-- 'laws.FnExactQrySlots': WHATEVER THE INPUT: true; the input reads as it did. -/
def fnExactQrySlotsSpec : ChangeSpec := { name := "fnExactQrySlots", fn := fun _ => fun
  | [d] => { results := [.lit (.bool true)], args := [d] }
  | _ => none }
def fnExactQrySlotsRow : OpenClaim := { program := "ytfcacpbblkahdaa", sum := "fa686c92ec4cf42a69457e98c82435db3dc0c607fa04c10723e643f64a299668", func := "loop.example/panework/laws.FnExactQrySlots", spec := "fnExactQrySlots", inPlace := ["internal/bytealg.MakeNoZero"], unfollowed := true, recurses := true, apart := false }
def FnExactQrySlotsSaid : Prop := fnExactQrySlotsRow.holds Try.pinned (OpenSpec.ofChange fnExactQrySlotsSpec)

/-- ITS FALSE NEIGHBOUR: 'it returns false'. Refute it at one input. -/
def fnExactQrySlotsWrong : ChangeSpec := { name := "fnExactQrySlots", fn := fun _ => fun
  | [d] => { results := [.lit (.bool false)], args := [d] }
  | _ => none }
def FnExactQrySlotsWrongFalsely : Prop := fnExactQrySlotsRow.holds Try.pinned (OpenSpec.ofChange fnExactQrySlotsWrong)

/- THE SECOND FORM. 'bulk': how many values and letters a reading holds, each counted each time it is reached (what is shared counts as often as it is met; a slice's spare places count too). A statement '..UptoSaid' is the law's where the arguments, and the package variables that the reading takes, are together of bulk at most 1048576: NARROWER than '..Said'. Prove '..Said' where nothing that the law and all that it calls make is longer than what came in: it says more and counts as full. Else prove '..UptoSaid'. A law counts once. -/
mutual
def uptoBulk {H : Type} : DataW H → Nat
  | .lit (.string bytes) => bytes.length + 1
  | .lit _ => 1
  | .nil => 1
  | .ptr d => uptoBulk d + 1
  | .slice elems spare => uptoBulkAll elems + uptoBulkAll spare + 1
  | .agg parts => uptoBulkAll parts + 1
  | .iface _ d => uptoBulk d + 1
  | .map entries => uptoBulkEntries entries + 1
  | .held _ => 1
def uptoBulkAll {H : Type} : List (DataW H) → Nat
  | [] => 0
  | d :: r => uptoBulk d + uptoBulkAll r
def uptoBulkEntries {H : Type} : List (Lit × DataW H) → Nat
  | [] => 0
  | x :: r => uptoBulkEntry x + uptoBulkEntries r
def uptoBulkEntry {H : Type} : Lit × DataW H → Nat
  | (.string bytes, d) => bytes.length + uptoBulk d + 1
  | (_, d) => uptoBulk d + 1
 end
def uptoSmall : (H : Type) → List (DataW H) → Bool := fun _ ds => decide (uptoBulkAll ds ≤ 1048576)
def OpenSpec.upto (s : _root_.Go.ChangeSpec) : _root_.Go.OpenSpec := { _root_.Go.OpenSpec.ofChange s with cond := some uptoSmall }

/-- 'laws.FnExactBrdBest', WHERE WHAT IT READS IS OF BULK AT MOST 1048576: true; the input reads as it did. -/
def fnExactBrdBestUptoRow : OpenClaim := { program := "ytfcacpbblkahdaa", sum := "fa686c92ec4cf42a69457e98c82435db3dc0c607fa04c10723e643f64a299668", func := "loop.example/panework/laws.FnExactBrdBest", spec := "fnExactBrdBest", apart := false, narrowed := true }
def FnExactBrdBestUptoSaid : Prop := fnExactBrdBestUptoRow.holds Try.pinned (OpenSpec.upto fnExactBrdBestSpec)

/-- 'laws.FnExactPagRow', WHERE WHAT IT READS IS OF BULK AT MOST 1048576: true; the input reads as it did. -/
def fnExactPagRowUptoRow : OpenClaim := { program := "ytfcacpbblkahdaa", sum := "fa686c92ec4cf42a69457e98c82435db3dc0c607fa04c10723e643f64a299668", func := "loop.example/panework/laws.FnExactPagRow", spec := "fnExactPagRow", apart := false, narrowed := true }
def FnExactPagRowUptoSaid : Prop := fnExactPagRowUptoRow.holds Try.pinned (OpenSpec.upto fnExactPagRowSpec)

/-- 'laws.FnExactPagFirst', WHERE WHAT IT READS IS OF BULK AT MOST 1048576: true; the input reads as it did. -/
def fnExactPagFirstUptoRow : OpenClaim := { program := "ytfcacpbblkahdaa", sum := "fa686c92ec4cf42a69457e98c82435db3dc0c607fa04c10723e643f64a299668", func := "loop.example/panework/laws.FnExactPagFirst", spec := "fnExactPagFirst", unfollowed := true, recurses := true, apart := false, narrowed := true }
def FnExactPagFirstUptoSaid : Prop := fnExactPagFirstUptoRow.holds Try.pinned (OpenSpec.upto fnExactPagFirstSpec)

/-- 'laws.FnHgtAt', WHERE WHAT IT READS IS OF BULK AT MOST 1048576: true; the input reads as it did. -/
def fnHgtAtUptoRow : OpenClaim := { program := "ytfcacpbblkahdaa", sum := "fa686c92ec4cf42a69457e98c82435db3dc0c607fa04c10723e643f64a299668", func := "loop.example/panework/laws.FnHgtAt", spec := "fnHgtAt", apart := false, narrowed := true }
def FnHgtAtUptoSaid : Prop := fnHgtAtUptoRow.holds Try.pinned (OpenSpec.upto fnHgtAtSpec)

/-- 'laws.FnExactGrdAt', WHERE WHAT IT READS IS OF BULK AT MOST 1048576: true; the input reads as it did. -/
def fnExactGrdAtUptoRow : OpenClaim := { program := "ytfcacpbblkahdaa", sum := "fa686c92ec4cf42a69457e98c82435db3dc0c607fa04c10723e643f64a299668", func := "loop.example/panework/laws.FnExactGrdAt", spec := "fnExactGrdAt", unfollowed := true, recurses := true, apart := false, narrowed := true }
def FnExactGrdAtUptoSaid : Prop := fnExactGrdAtUptoRow.holds Try.pinned (OpenSpec.upto fnExactGrdAtSpec)

/-- 'laws.FnExactGrdCol', WHERE WHAT IT READS IS OF BULK AT MOST 1048576: true; the input reads as it did. -/
def fnExactGrdColUptoRow : OpenClaim := { program := "ytfcacpbblkahdaa", sum := "fa686c92ec4cf42a69457e98c82435db3dc0c607fa04c10723e643f64a299668", func := "loop.example/panework/laws.FnExactGrdCol", spec := "fnExactGrdCol", unfollowed := true, recurses := true, apart := false, narrowed := true }
def FnExactGrdColUptoSaid : Prop := fnExactGrdColUptoRow.holds Try.pinned (OpenSpec.upto fnExactGrdColSpec)

/-- 'laws.FnExactGrdRow', WHERE WHAT IT READS IS OF BULK AT MOST 1048576: true; the input reads as it did. -/
def fnExactGrdRowUptoRow : OpenClaim := { program := "ytfcacpbblkahdaa", sum := "fa686c92ec4cf42a69457e98c82435db3dc0c607fa04c10723e643f64a299668", func := "loop.example/panework/laws.FnExactGrdRow", spec := "fnExactGrdRow", unfollowed := true, recurses := true, apart := false, narrowed := true }
def FnExactGrdRowUptoSaid : Prop := fnExactGrdRowUptoRow.holds Try.pinned (OpenSpec.upto fnExactGrdRowSpec)

/-- 'laws.FnExactQryRange', WHERE WHAT IT READS IS OF BULK AT MOST 1048576: true; the input reads as it did. -/
def fnExactQryRangeUptoRow : OpenClaim := { program := "ytfcacpbblkahdaa", sum := "fa686c92ec4cf42a69457e98c82435db3dc0c607fa04c10723e643f64a299668", func := "loop.example/panework/laws.FnExactQryRange", spec := "fnExactQryRange", unfollowed := true, recurses := true, apart := false, narrowed := true }
def FnExactQryRangeUptoSaid : Prop := fnExactQryRangeUptoRow.holds Try.pinned (OpenSpec.upto fnExactQryRangeSpec)

/-- 'laws.FnExactQrySlots', WHERE WHAT IT READS IS OF BULK AT MOST 1048576: true; the input reads as it did. -/
def fnExactQrySlotsUptoRow : OpenClaim := { program := "ytfcacpbblkahdaa", sum := "fa686c92ec4cf42a69457e98c82435db3dc0c607fa04c10723e643f64a299668", func := "loop.example/panework/laws.FnExactQrySlots", spec := "fnExactQrySlots", inPlace := ["internal/bytealg.MakeNoZero"], unfollowed := true, recurses := true, apart := false, narrowed := true }
def FnExactQrySlotsUptoSaid : Prop := fnExactQrySlotsUptoRow.holds Try.pinned (OpenSpec.upto fnExactQrySlotsSpec)

end Rows
end Go.Proofs.Ytfcacpbblkahdaa
