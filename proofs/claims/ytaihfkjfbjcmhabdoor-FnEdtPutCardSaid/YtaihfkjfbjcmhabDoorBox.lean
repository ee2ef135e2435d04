/-
  A block of the call's own that is stored into, as a whole or in part: the world behind it is told by what the block holds and that all else is as it was.
  Conditions: the block is known, not frozen, and what is stored fits.
-/
import Derived.Test.YtaihfkjfbjcmhabDoorWMore
import Derived.Laws.Tables
import Derived.Laws.CopyRow
import Derived.Laws.Rows
namespace Go.Proofs.YtaihfkjfbjcmhabDoor.Box
open Go.RowKit Go.Proofs.YtaihfkjfbjcmhabDoorW.PrintWords Go.Proofs.YtaihfkjfbjcmhabDoorW.PrintLast
set_option linter.unusedVariables false

/-- W is w, but that block g holds cs. -/
structure Put (g : Nat) (cs : Array Value) (t : TypeId) (w W : World) : Prop where
  blk : W.heap[g]? = some (.cells cs t (0, 0))
  size : W.heap.size = w.heap.size
  oth : ∀ b, b ≠ g → W.heap[b]? = w.heap[b]?
  os : W.os = w.os
  tape : W.tape = w.tape
  output : W.output = w.output
theorem Put.setRow {w : World} {g : Nat} {old cs : Array Value} {t : TypeId} (hg : w.heap[g]? = some (.cells old t (0, 0))) : Put g cs t w (w.setRow g cs) :=
  ⟨setRow_heap w g old cs t (0, 0) hg, by simp [World.setRow], fun b hb => setRow_other w g b cs hb, rfl, rfl, rfl⟩
theorem Put.grown {w W : World} {g : Nat} {cs : Array Value} {t : TypeId} (h : Put g cs t w W) : w.grownBy W (some g) :=
  ⟨h.os, h.tape, h.output, Nat.le_of_eq h.size.symm, fun k _ hk => h.oth k (fun e => hk (by rw [e]))⟩
theorem Put.keep {w W : World} {g b : Nat} {cs : Array Value} {t : TypeId} {o : Obj} (h : Put g cs t w W) (hb : w.heap[b]? = some o) (hne : b ≠ g) : W.heap[b]? = some o := (h.oth b hne).trans hb
theorem Put.below {w W W0 : World} {g : Nat} {cs : Array Value} {t : TypeId} (h : Put g cs t w W) (hb : Below W0.heap.size W0 w) (hg : W0.heap.size ≤ g) : Below W0.heap.size W0 W :=
  ⟨h.os.trans hb.os, h.tape.trans hb.tape, h.output.trans hb.output, by rw [h.size]; exact hb.size, fun k hk => (h.oth k (by omega)).trans (hb.block k hk)⟩
/-- What a block holds when vs has been stored from off on. -/
def spl (old : Array Value) (off : Nat) (vs : Array Value) : Array Value := (old.toList.take off ++ vs.toList ++ old.toList.drop (off + vs.size)).toArray
section
variable {P : Program}
theorem exec_put {oi : Oper} {ev : Operand → Value} {w : World} (ty : TypeId) (x y : Operand) (ho : oi.op = .store ty x y) (g off : Nat) (hx : ev x = .pointer (some ⟨g, off, none⟩)) (v : Value) (hy : ev y = v) (t : TypeId) (old new : Array Value) (hg : w.heap[g]? = some (.cells old t (0, 0)))
    (hi : (P.info? ty).map (·.size) = some v.cells.size) (hn : Nat.ble (off + v.cells.size) old.size = true) (h1 : (v.cells.toList.all fun u => u.oneCell') = true) (hnew : spl old off v.cells = new) : (execOp ev oi).run P w = .ok .skip (w.setRow g new) := by
  have hn' := Nat.le_of_ble_eq_true hn
  have hr := run_storeCells_at (P := P) g off t v.cells.toList 0 old w hg (by simpa using hn') (fun u hu => List.all_eq_true.1 h1 u hu)
  have he : (old.toList.take (off + 0) ++ v.cells.toList ++ old.toList.drop (off + 0 + v.cells.toList.length)).toArray = new := by rw [← hnew]; simp [spl]
  rw [he] at hr
  unfold execOp
  simp only [ho, hx, hy, Instr.storeAt, Instr.sureAddr, Sem.run_bind, Sem.run_pure, Result.andThen_ok]
  cases hq : P.info? ty with
  | none => simp [hq] at hi
  | some i =>
    have hs : i.size = v.cells.size := by simp [hq] at hi; omega
    simp [storeVar, sizeOf, typeInfo, hq, hs, hr]
variable {ops : Array Oper} {rest : List Oper} {o : Oper} {a : Act} {w : World} {Q : Exit → Act → World → Prop}
/-- A store into a block of the call's own, as an arm of the walk. -/
theorem wpList_put (ty : TypeId) (x y : Operand) (ho : o.op = .store ty x y) (hgd : o.guard = none) (g off : Nat) (hx : a.eval x = .pointer (some ⟨g, off, none⟩)) (v : Value) (hy : a.eval y = v) (t : TypeId) (old new : Array Value) (hg : w.heap[g]? = some (.cells old t (0, 0)))
    (hi : (P.info? ty).map (·.size) = some v.cells.size) (hn : Nat.ble (off + v.cells.size) old.size = true) (h1 : (v.cells.toList.all fun u => u.oneCell') = true) (hnew : spl old off v.cells = new) (h : ∀ W, Put g new t w W → wpList P ops Q rest (a.put o.dst undef) W) : wpList P ops Q (o :: rest) a w := by
  refine wpList_plain hgd fun K hK => ?_
  unfold Oper.wp
  rw [exec_put ty x y ho g off hx v hy t old new hg hi hn h1 hnew]
  exact hK _ _ (h _ (Put.setRow hg))
end
end Go.Proofs.YtaihfkjfbjcmhabDoor.Box
