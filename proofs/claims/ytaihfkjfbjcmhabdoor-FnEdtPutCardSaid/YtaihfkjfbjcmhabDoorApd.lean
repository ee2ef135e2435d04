/-
  append of one element to a row of the call's own, told at the operation: the element lies in a block that is known, wherever that is.
  Conditions: those of the kit's law on append (run_append_own_at).
-/
import Derived.Test.YtaihfkjfbjcmhabDoorBox
import Derived.Test.YtaihfkjfbjcmhabDoorWApart
import Derived.Maps.AppendAt
namespace Go.Proofs.YtaihfkjfbjcmhabDoor.Box
open Go.RowKit Go.Proofs.YtaihfkjfbjcmhabDoorW.PrintWords Go.Proofs.YtaihfkjfbjcmhabDoorW.PrintLast
set_option linter.unusedVariables false
section
variable {P : Program} {α : Type}
theorem exec_append_cells {oi : Oper} {ev : Operand → Value} {W : World} (base : Nat) (s x : Operand) (t e : TypeId) (z : Value) (size bytes : Nat)
    (ho : oi.op = .call { callee := .builtin .append, args := #[s, x], argTypes := #[t, t] }) (ht : P.underlying t = some (.slice e)) (hinfo : (P.info? e).map (fun i => (i.zero, i.size, i.bytes)) = some (some z, size, bytes)) (hz : z.cells.size = size) (hs0 : 0 < size) (hb0 : 0 < bytes)
    (v : Value) (n : Nat) (inner cs : List Value) (C : Nat) (hs : ev s = v) (hx : ev x = .slice (some ⟨C, 0, none⟩) 1 1) (hcs : cs.length = size) (h1 : ∀ u ∈ cs, u.oneCell' = true) (hC : W.heap[C]? = some (.cells cs.toArray e (0, 0)))
    (HO : W.ownsRow base e size v n inner) (hbase : base ≤ W.heap.size) (hl : (n + 1) * bytes ≤ 140737488355328) :
    ∃ v1 w1, (execOp ev oi).run P W = .ok (.value v1) w1 ∧ w1.ownsRow base e size v1 (n + 1) (inner ++ cs) ∧ W.grownBy w1 v.ownBlock ∧ (v1.ownBlock = v.ownBlock ∨ v1.ownBlock = some W.heap.size) := by
  obtain ⟨i0, hi, hzz⟩ := Option.map_eq_some_iff.1 hinfo
  simp only [Prod.mk.injEq] at hzz
  obtain ⟨hz0, hz1, hz2⟩ := hzz
  have hlen : n + 1 ≤ 140737488355328 := Nat.le_trans (Nat.le_mul_of_pos_right _ hb0) hl
  obtain ⟨v1, w1, hr, h2, h3, _, h5⟩ := run_append_own_at (P := P) W base t oi.type e i0 z size bytes ht hi hz0 hz1 hz2 hz hs0 v n inner HO ⟨C, 0, none⟩ 1 1 cs (by simpa using hcs) (fun j u hj => World.news_of_block hC j u (by simpa using hj)) h1 (by simp only [maxLen]; omega) hl hbase
  refine ⟨v1, w1, ?_, h2, h3, h5⟩
  unfold execOp
  simp only [ho, resolve, invoke, builtin, Sem.run_bind, Sem.run_pure, Result.andThen_ok, List.map_toArray, List.map_cons, List.map_nil, hs, hx, hr]
theorem exec_append_R {oi : Oper} {ev : Operand → Value} {W : World} (d : Kd α) (base : Nat) (s x : Operand) (t e : TypeId) (z : Value) (bytes : Nat)
    (ho : oi.op = .call { callee := .builtin .append, args := #[s, x], argTypes := #[t, t] }) (ht : P.underlying t = some (.slice e)) (hinfo : (P.info? e).map (fun i => (i.zero, i.size, i.bytes)) = some (some z, d.sz, bytes)) (hz : z.cells.size = d.sz) (hs0 : 0 < d.sz) (hb0 : 0 < bytes)
    (v : Value) (xs : List α) (p : α) (cs : List Value) (C : Nat) (ok okp : Nat → Prop) (hs : ev s = v) (hx : ev x = .slice (some ⟨C, 0, none⟩) 1 1) (hC : W.heap[C]? = some (.cells cs.toArray e (0, 0))) (hp : d.M W base okp p cs) (hokp : ∀ k, okp k → ok k ∧ some k ≠ v.ownBlock) (hfresh : ∀ k, W.heap.size ≤ k → ok k)
    (HO : d.R e W base ok v xs) (hbase : base ≤ W.heap.size) (hl : (xs.length + 1) * bytes ≤ 140737488355328) :
    ∃ v1 w1, (execOp ev oi).run P W = .ok (.value v1) w1 ∧ d.R e w1 base ok v1 (xs ++ [p]) ∧ W.grownBy w1 v.ownBlock ∧ (v1.ownBlock = v.ownBlock ∨ v1.ownBlock = some W.heap.size) := by
  obtain ⟨h0, inner, hown, hr⟩ := HO
  obtain ⟨v1, w1, h1, h2, h3, h4⟩ := exec_append_cells (P := P) (oi := oi) (ev := ev) base s x t e z d.sz bytes ho ht hinfo hz hs0 hb0 v xs.length inner cs C hs hx (d.K_len (d.K_of_M hp)) (d.K_one (d.K_of_M hp)) hC hown hbase hl
  exact ⟨v1, w1, h1, Kd.R_appended h0 hr hp hokp hfresh h2 h3 (h4.imp_right fun h => ⟨_, h, Nat.le_refl _⟩), h3, h4⟩
theorem exec_append_S {oi : Oper} {ev : Operand → Value} {W : World} (d : Kd α) (base : Nat) (s x : Operand) (t e : TypeId) (z : Value) (bytes : Nat)
    (ho : oi.op = .call { callee := .builtin .append, args := #[s, x], argTypes := #[t, t] }) (ht : P.underlying t = some (.slice e)) (hinfo : (P.info? e).map (fun i => (i.zero, i.size, i.bytes)) = some (some z, d.sz, bytes)) (hz : z.cells.size = d.sz) (hs0 : 0 < d.sz) (hb0 : 0 < bytes)
    (v : Value) (xs : List α) (p : α) (cs : List Value) (C : Nat) (ok okp : Nat → Prop) (hs : ev s = v) (hx : ev x = .slice (some ⟨C, 0, none⟩) 1 1) (hC : W.heap[C]? = some (.cells cs.toArray e (0, 0))) (hp : d.M W base okp p cs) (hokp : ∀ k, okp k → ok k ∧ some k ≠ v.ownBlock) (hfresh : ∀ k, W.heap.size ≤ k → ok k)
    (HO : Kd.S d e W base (fun k => ok k ∧ ¬ okp k) v xs) (hbase : base ≤ W.heap.size) (hl : (xs.length + 1) * bytes ≤ 140737488355328) :
    ∃ v1 w1, (execOp ev oi).run P W = .ok (.value v1) w1 ∧ Kd.S d e w1 base ok v1 (xs ++ [p]) ∧ W.grownBy w1 v.ownBlock ∧ (v1.ownBlock = v.ownBlock ∨ v1.ownBlock = some W.heap.size) := by
  obtain ⟨f, hf, hR⟩ := Kd.S_tag HO xs.length okp (fun _ hk h2 => h2.2 hk)
  obtain ⟨v1, w1, h1, h2, h3, h4⟩ := exec_append_R (P := P) (oi := oi) (ev := ev) (Kd.tag f d) base s x t e z bytes ho ht hinfo hz hs0 hb0 v xs.zipIdx (p, xs.length) cs C ok okp hs hx hC (d.M_mono (fun k hk => ⟨hk, hf k hk⟩) hp) hokp hfresh (Kd.R_mono hR (fun _ hk => hk.1)) hbase (by rw [List.length_zipIdx]; exact hl)
  rw [← Kd.zip_snoc] at h2
  exact ⟨v1, w1, h1, ⟨f, h2⟩, h3, h4⟩
variable {ops : Array Oper} {rest : List Oper} {o : Oper} {a : Act} {w : World} {Q : Exit → Act → World → Prop}
/-- An operation of the walk whose run is told. -/
theorem wpList_run {v : Value} {w1 : World} (hgd : o.guard = none) (hr : (execOp a.eval o).run P w = .ok (.value v) w1) (h : wpList P ops Q rest (a.put o.dst v) w1) : wpList P ops Q (o :: rest) a w := by
  refine wpList_plain hgd fun K hK => ?_
  unfold Oper.wp
  rw [hr]
  exact hK _ _ h
theorem wpList_append_R {W : World} (d : Kd α) (base : Nat) (s x : Operand) (t e : TypeId) (z : Value) (bytes : Nat) (ho : o.op = .call { callee := .builtin .append, args := #[s, x], argTypes := #[t, t] }) (hgd : o.guard = none) (ht : P.underlying t = some (.slice e)) (hinfo : (P.info? e).map (fun i => (i.zero, i.size, i.bytes)) = some (some z, d.sz, bytes)) (hz : z.cells.size = d.sz) (hs0 : 0 < d.sz) (hb0 : 0 < bytes)
    (v : Value) (xs : List α) (p : α) (cs : List Value) (C : Nat) (ok okp : Nat → Prop) (hs : a.eval s = v) (hx : a.eval x = .slice (some ⟨C, 0, none⟩) 1 1) (hC : W.heap[C]? = some (.cells cs.toArray e (0, 0))) (hp : d.M W base okp p cs) (hokp : ∀ k, okp k → ok k ∧ some k ≠ v.ownBlock) (hfresh : ∀ k, W.heap.size ≤ k → ok k)
    (HO : d.R e W base ok v xs) (hbase : base ≤ W.heap.size) (hl : (xs.length + 1) * bytes ≤ 140737488355328)
    (h : ∀ v1 w1, d.R e w1 base ok v1 (xs ++ [p]) → W.grownBy w1 v.ownBlock → (v1.ownBlock = v.ownBlock ∨ v1.ownBlock = some W.heap.size) → wpList P ops Q rest (a.put o.dst v1) w1) : wpList P ops Q (o :: rest) a W := by
  obtain ⟨v1, w1, h1, h2, h3, h4⟩ := exec_append_R (P := P) (oi := o) (ev := a.eval) d base s x t e z bytes ho ht hinfo hz hs0 hb0 v xs p cs C ok okp hs hx hC hp hokp hfresh HO hbase hl
  exact wpList_run hgd h1 (h v1 w1 h2 h3 h4)
theorem wpList_append_S {W : World} (d : Kd α) (base : Nat) (s x : Operand) (t e : TypeId) (z : Value) (bytes : Nat) (ho : o.op = .call { callee := .builtin .append, args := #[s, x], argTypes := #[t, t] }) (hgd : o.guard = none) (ht : P.underlying t = some (.slice e)) (hinfo : (P.info? e).map (fun i => (i.zero, i.size, i.bytes)) = some (some z, d.sz, bytes)) (hz : z.cells.size = d.sz) (hs0 : 0 < d.sz) (hb0 : 0 < bytes)
    (v : Value) (xs : List α) (p : α) (cs : List Value) (C : Nat) (ok okp : Nat → Prop) (hs : a.eval s = v) (hx : a.eval x = .slice (some ⟨C, 0, none⟩) 1 1) (hC : W.heap[C]? = some (.cells cs.toArray e (0, 0))) (hp : d.M W base okp p cs) (hokp : ∀ k, okp k → ok k ∧ some k ≠ v.ownBlock) (hfresh : ∀ k, W.heap.size ≤ k → ok k)
    (HO : Kd.S d e W base (fun k => ok k ∧ ¬ okp k) v xs) (hbase : base ≤ W.heap.size) (hl : (xs.length + 1) * bytes ≤ 140737488355328)
    (h : ∀ v1 w1, Kd.S d e w1 base ok v1 (xs ++ [p]) → W.grownBy w1 v.ownBlock → (v1.ownBlock = v.ownBlock ∨ v1.ownBlock = some W.heap.size) → wpList P ops Q rest (a.put o.dst v1) w1) : wpList P ops Q (o :: rest) a W := by
  obtain ⟨v1, w1, h1, h2, h3, h4⟩ := exec_append_S (P := P) (oi := o) (ev := a.eval) d base s x t e z bytes ho ht hinfo hz hs0 hb0 v xs p cs C ok okp hs hx hC hp hokp hfresh HO hbase hl
  exact wpList_run hgd h1 (h v1 w1 h2 h3 h4)
end
/-! What is owned lives on: behind a call that turns nothing but the reader; behind a store into a block of another type. -/
section
variable {α : Type} {d : Kd α} {e base g : Nat} {W W' : World} {ok : Nat → Prop} {v : Value} {xs : List α}
theorem R_keepG (h : d.R e W base ok v xs) (hg : g < base) (hk : KeepBut W W' g none) : d.R e W' base ok v xs := Kd.R_mono (Kd.R_keep (Kd.R_bound h) hk (fun k hk => by have := hk.2.1; omega)) (fun _ h => h.1)
theorem S_keepG (h : Kd.S d e W base ok v xs) (hg : g < base) (hk : KeepBut W W' g none) : Kd.S d e W' base ok v xs := Kd.S_mono (Kd.S_keep (Kd.S_bound h) hk (fun k hk => by have := hk.2.1; omega)) (fun _ h => h.1)
theorem R_put (h : d.R e W base ok v xs) {b t t' : Nat} {old cs : Array Value} (hb : W.heap[b]? = some (.cells old t (0, 0))) (hp : Put b cs t' W W') (ht : ∀ q, q ∈ e :: d.E → q ≠ t) : d.R e W' base ok v xs := Kd.R_mono (Kd.R_grown (Kd.R_types h hb ht) hp.grown (fun k hk e => hk.2 (by injection e))) (fun _ h => h.1)
theorem S_put (h : Kd.S d e W base ok v xs) {b t t' : Nat} {old cs : Array Value} (hb : W.heap[b]? = some (.cells old t (0, 0))) (hp : Put b cs t' W W') (ht : ∀ q, q ∈ e :: d.E → q ≠ t) : Kd.S d e W' base ok v xs := Kd.S_mono (Kd.S_grown (Kd.S_types h hb ht) hp.grown (fun k hk e => hk.2 (by injection e))) (fun _ h => h.1)
/-- A store into a block that is none of its. -/
theorem S_putN (h : Kd.S d e W base ok v xs) {b t' : Nat} {cs : Array Value} (hp : Put b cs t' W W') (hb : ∀ k, ok k → k ≠ b) : Kd.S d e W' base ok v xs := Kd.S_grown h hp.grown (fun k hk e => hb k hk (by injection e))
theorem R_putN (h : d.R e W base ok v xs) {b t' : Nat} {cs : Array Value} (hp : Put b cs t' W W') (hb : ∀ k, ok k → k ≠ b) : d.R e W' base ok v xs := Kd.R_grown h hp.grown (fun k hk e => hb k hk (by injection e))
/-- The blocks are the base's or later. -/
theorem R_from (h : d.R e W base ok v xs) : d.R e W base (fun k => ok k ∧ base ≤ k) v xs := Kd.R_mono (Kd.R_bound h) (fun _ hk => ⟨hk.1, hk.2.1⟩)
theorem R_upto (h : d.R e W base ok v xs) : d.R e W base (fun k => ok k ∧ k < W.heap.size) v xs := Kd.R_mono (Kd.R_bound h) (fun _ hk => ⟨hk.1, hk.2.2.1⟩)
theorem S_upto (h : Kd.S d e W base ok v xs) : Kd.S d e W base (fun k => ok k ∧ k < W.heap.size) v xs := Kd.S_mono (Kd.S_bound h) (fun _ hk => ⟨hk.1, hk.2.2.1⟩)
theorem S_own_ok (h : Kd.S d e W base ok v xs) : ∀ k, v.ownBlock = some k → ok k := by obtain ⟨f, h⟩ := h; exact h.1
/-- A block of another type is not the row's. -/
theorem own_ne_of {b t : Nat} {cs : Array Value} (h : d.R e W base ok v xs) (hb : W.heap[b]? = some (.cells cs t (0, 0))) (ht : e ≠ t) : some b ≠ v.ownBlock := Kd.R_ne h hb ht
end
end Go.Proofs.YtaihfkjfbjcmhabDoor.Box
