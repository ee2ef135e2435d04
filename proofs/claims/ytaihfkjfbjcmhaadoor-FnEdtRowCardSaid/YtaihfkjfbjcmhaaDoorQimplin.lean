-- Told by a program of this session (uprint.py, ulay.py).
import Derived.Test.YtaihfkjfbjcmhaaDoorQ0
import Derived.Test.YtaihfkjfbjcmhaaDoorReg
import Derived.Deep.RegionLaw
import Derived.Laws.Externs
import Derived.Laws.NewBlocks
import Derived.Lib.AppendZerosOnto
import Derived.Lib.Overlaps
namespace Go.Proofs.YtaihfkjfbjcmhaaDoor.Q
open Go.RowKit Go.Proofs.YtaihfkjfbjcmhaaDoorW.PrintWords Go.Proofs.YtaihfkjfbjcmhaaDoorW.PrintLast Go.Proofs.YtaihfkjfbjcmhaaDoorW.PrintMore Go.Proofs.YtaihfkjfbjcmhaaDoor.Reg Go.Proofs.YtaihfkjfbjcmhaaDoor.Box
attribute [local go_sem] max2_int min2_int max_two min_two max_three min_three max_four min_four
set_option linter.unusedVariables false
set_option linter.unusedSimpArgs false

/-! ### impl_in: function 19 -/
def impl_in.f (a0 : Int) (a1 : Int) (a2 : Int) : Option (Bool) := if a0 ≥ a1 then (some (decide (a0 ≤ a2))) else (some false)
set_option maxHeartbeats 8000000 in
set_option maxRecDepth 100000 in
theorem impl_in.calls (a0 : Int) (a1 : Int) (a2 : Int) (r : Bool) (w : World) (h : impl_in.f a0 a1 a2 = some r) :
    Calls Tryd.prog 19 #[.int .i64 a0, .int .i64 a1, .int .i64 a2] w fun e w' => e = .returned (.bool r) ∧ Drawn0 w w' := by
  have H : (if a0 ≥ a1 then (some (decide (a0 ≤ a2))) else (some false)) = some r := h
  clear h
  by_cases c4 : a0 ≥ a1
  · rw [if_pos c4] at H
    have c4b0 : decide (a1 ≤ a0) = true := decide_eq_true c4
    clear c4
    obtain rfl := Option.some.inj H
    go_enter Tryd.func19, Tryd.ntmps19
    go_wp2
    go_ret
    exact ⟨by first | rfl | (simp [IntKind.wrap_i64, wrap64]; done) | (simp; done) | (simp [*]; done), by repeat (first | exact Drawn0.refl _ | apply Drawn0.step)⟩
  · rw [if_neg c4] at H
    have c4b0 : decide (a1 ≤ a0) = false := decide_eq_false c4
    clear c4
    obtain rfl := Option.some.inj H
    go_enter Tryd.func19, Tryd.ntmps19
    go_wp2
    go_ret
    exact ⟨by first | rfl | (simp [IntKind.wrap_i64, wrap64]; done) | (simp; done) | (simp [*]; done), by repeat (first | exact Drawn0.refl _ | apply Drawn0.step)⟩

theorem grown_step {W W2 W3 : World} {row : Option Nat} (hb : Below W.heap.size W W2) (hg : W2.grownBy W3 row) : W.grownBy W3 row := ⟨hg.os.trans hb.os, hg.tape.trans hb.tape, hg.output.trans hb.output, Nat.le_trans hb.size hg.size, fun k hk hr => (hg.block k (Nat.lt_of_lt_of_le hk hb.size) hr).trans (hb.block k hk)⟩
theorem in_dec (x c d : Int) : impl_in.f x c d = some (decide (c ≤ x ∧ x ≤ d)) := by
  unfold impl_in.f
  split
  · congr 1; exact decide_eq_decide.2 (by omega)
  · congr 1; symm; exact decide_eq_false (by omega)

abbrev l3A (v0 v3 : Value) (hd ft gp : Int) : Array Value := #[v0, .int .i64 hd, .int .i64 ft, v3, .int .i64 gp]

/-- A closure that turns a table of its own: what it answers, and what lies behind it. -/
def TabFn (g : Nat) (lb : Array Value) (W0 : World) (cols : List S52) (hd ft : Int) (rows : List S37) (gp : Int) (cols' : List S52) (hd' ft' : Int) (rows' : List S37) (gp' : Int) (q : Bool) : Prop :=
  ∀ (W : World) (b : Nat) (vc vr : Value), Below W0.heap.size W0 W → W.heap[b]? = some (.cells (l3A vc vr hd ft gp) 26 (0, 0)) → W0.heap.size ≤ b → Kd.R k52 52 W W0.heap.size (fun _ => True) vc cols → Kd.S k37 37 W W0.heap.size (fun _ => True) vr rows →
    Calls Tryd.prog g (#[.pointer (some ⟨b, 0, none⟩)] ++ lb) W fun e W' => ∃ vc' vr', e = .returned (.bool q) ∧ W'.heap[b]? = some (.cells (l3A vc' vr' hd' ft' gp') 26 (0, 0)) ∧ Kd.R k52 52 W' W0.heap.size (fun _ => True) vc' cols' ∧ Kd.S k37 37 W' W0.heap.size (fun _ => True) vr' rows' ∧ Below W0.heap.size W0 W' ∧
      ∀ (j : Nat) (cs : Array Value), j ≠ b → W.heap[j]? = some (.cells cs 26 (0, 0)) → W'.heap[j]? = some (.cells cs 26 (0, 0))

/-- A slice's elements copied, whatever their size. -/
theorem run_copy_sz {P : Program} (w : World) (dT sT ty elem : TypeId) (g o dLen dCap : Nat) (a : Addr) (sLen sCap : Nat) (sz : Nat) (cur : Array Value) (t : TypeId) (cs : List Value)
    (hu : P.underlying dT = some (.slice elem)) (hs : (P.info? elem).map (·.size) = some sz)
    (hg : w.heap[g]? = some (.cells cur t (0, 0))) (m : Nat) (hm : m = Nat.min sLen dLen) (hn : cs.length = m * sz)
    (hsrc : ∀ j v, cs[j]? = some v → w.cell? (a.add j) = some v) (hfit : o + cs.length ≤ cur.size) (h1 : ∀ v ∈ cs, v.oneCell' = true) :
    (Builtin.copy_ #[dT, sT] ty #[.slice (some ⟨g, o, none⟩) dLen dCap, .slice (some a) sLen sCap]).run P w =
      .ok (goInt m) (w.setRow g (cur.toList.take o ++ cs ++ cur.toList.drop (o + cs.length)).toArray) := by
  have hl := run_loadCells_list (P := P) w a cs hsrc
  have hst := run_storeCells_at P g o t cs 0 cur w hg (by simpa using hfit) h1
  cases hq : P.info? elem with
  | none => simp [hq] at hs
  | some i =>
    have hi : i.size = sz := by simpa [hq] using hs
    have hd : ∀ A : Option Addr, (Builtin.lenOf (.slice A sLen sCap)).run P w = .ok sLen w := fun A => by simp [Builtin.lenOf]
    simp [Builtin.copy_, run_underlying hu, Builtin.lenOf, Builtin.firstCells, sizeOf, typeInfo, hq, hi, ← hm, ← hn, hl, hst]
/-- A run of copy as a step of the walk. -/
theorem wpList_copy_w {P : Program} (w : World) {ops : Array Oper} {rest : List Oper} {o : Oper} {a : Act} {Q : Exit → Act → World → Prop} (hgd : o.guard = none) (d s : Operand) (t t' : TypeId)
    (ho : o.op = .call { callee := .builtin .copy, args := #[d, s], argTypes := #[t, t'] }) (v u : Value) (hd : a.eval d = v) (hs : a.eval s = u) {v' : Value} {w' : World}
    (hr : (Builtin.copy_ #[t, t'] o.type #[v, u]).run P w = .ok v' w') (h : wpList P ops Q rest (a.put o.dst v') w') : wpList P ops Q (o :: rest) a w :=
  wpList_plain hgd fun K hK => by
    unfold Oper.wp
    simp [execOp, ho, resolve, invoke, builtin, hd, hs, hr, Result.andThen]
    exact hK _ _ h
theorem step_copy_w {P : Program} {ops : Array Oper} {o : Oper} {a : Act} {w : World} {K : Act → World → Prop} {Q : Exit → Act → World → Prop} {E : Prop}
    (hg : o.guard = none) (d x : Operand) (dT sT : TypeId) (hop : o.op = Op.call { callee := Callee.builtin Builtin.copy, args := #[d, x], argTypes := #[dT, sT] })
    (v u : Value) (hd : a.eval d = v) (hx : a.eval x = u) {v' : Value} {w' : World} (hr : (Builtin.copy_ #[dT, sT] o.type #[v, u]).run P w = .ok v' w') (hK : K (a.put o.dst v') w') :
    if Region.wanted o (yielded ops a.tmps) = true then Oper.wp P o a w K Q else E := by
  have hw : Region.wanted o (yielded ops a.tmps) = true := by simp [Region.wanted, hg]
  rw [if_pos hw]
  unfold Oper.wp
  simp [execOp, hop, resolve, invoke, builtin, hd, hx, hr, Result.andThen]
  exact hK
/-- A row and the same row as cells: what is done to the cells, done to the row. -/
theorem R_moved {α : Type} {d : Kd α} {e base : Nat} {w : World} {v : Value} {xs : List α} (h : d.R e w base (fun _ => True) v xs) : ∃ rows : List (List Value), rows.length = xs.length ∧ (Kd.raw d.sz).R e w base (fun _ => True) v rows ∧
    ∀ {w' : World} {v' : Value} {xs' : List α} {rows' : List (List Value)}, rows'.length = xs'.length → (Kd.raw d.sz).R e w' base (fun _ => True) v' rows' → w.grownBy w' v.ownBlock → (v'.ownBlock = v.ownBlock ∨ ∃ b, v'.ownBlock = some b ∧ w.heap.size ≤ b) →
      (∀ (j : Nat) (x : α), xs'[j]? = some x → (∃ m : Nat, xs[m]? = some x ∧ rows'[j]? = rows[m]?) ∨ ∃ c, rows'[j]? = some c ∧ ∀ okq, d.M w' base okq x c) → d.R e w' base (fun _ => True) v' xs' := by
  obtain ⟨hok, inner, hown, hr⟩ := h
  have hget : ∀ (m : Nat) (x : α), xs[m]? = some x → ((List.range xs.length).map fun j => (inner.drop (j * d.sz)).take d.sz)[m]? = some ((inner.drop (m * d.sz)).take d.sz) := by
    intro m x hx
    have hm := (List.getElem?_eq_some_iff.1 hx).1
    rw [List.getElem?_map, List.getElem?_range hm]
    rfl
  refine ⟨(List.range xs.length).map fun j => (inner.drop (j * d.sz)).take d.sz, by simp, ⟨fun _ _ => trivial, inner, by rw [List.length_map, List.length_range]; exact hown, by rw [List.length_map, List.length_range]; exact hr.1, fun j p hj => ?_⟩, ?_⟩
  · have hl : j < xs.length := by
      have := (List.getElem?_eq_some_iff.1 hj).1
      simpa using this
    have hx := List.getElem?_eq_getElem hl
    have hM := hr.2 j _ hx
    rw [hget j _ hx] at hj
    have hp := Option.some.inj hj
    have hK := d.K_of_M hM
    exact ⟨hp, d.K_len hK, d.K_one hK⟩
  · intro w' v' xs' rows' hl hR' hg hat hp
    obtain ⟨_, inner', hown', hr'⟩ := hR'
    refine ⟨fun _ _ => trivial, inner', by rw [← hl]; exact hown', by rw [← hl]; exact hr'.1, fun j x hx => ?_⟩
    rcases hp j x hx with ⟨m, hm, he⟩ | ⟨c, hc, hM⟩
    · rw [hget m x hm] at he
      have hc : (inner'.drop (j * d.sz)).take d.sz = _ := (hr'.2 j _ he).1
      rw [hc]
      refine d.M_mono (fun k hk => ⟨trivial, ?_⟩) (d.M_move (fun k hk => hg.block k hk.2.2.1 hk.1.2) (d.M_bound (hr.2 m x hm)))
      rcases hat with hat | ⟨b, hb, hlt⟩
      · rw [hat]; exact hk.1.2
      · rw [hb]
        intro hkb
        have := Option.some.inj hkb
        have := hk.2.2.1
        omega
    · have hc' : (inner'.drop (j * d.sz)).take d.sz = _ := (hr'.2 j _ hc).1
      rw [hc']
      exact hM _
open Classical in
/-- A row with marks, no two alike: no two elements lead to one block. -/
theorem S_pairs {α : Type} {d : Kd α} {e base : Nat} {w : World} {ok : Nat → Prop} {v : Value} {f : Nat → Nat} {zs : List (α × Nat)} (h : (Kd.tag f d).R e w base ok v zs) (hn : ∀ (i j : Nat) (x y : α) (k : Nat), zs[i]? = some (x, k) → zs[j]? = some (y, k) → i = j) : Kd.S d e w base ok v (zs.map (·.1)) := by
  obtain ⟨hok, inner, hown, hr⟩ := h
  refine ⟨fun b => if h : ∃ j x, zs[j]? = some (x, f b) then h.choose else 0, hok, inner, by rw [List.length_zipIdx, List.length_map]; exact hown, by rw [List.length_zipIdx, List.length_map]; exact hr.1, fun j p hj => ?_⟩
  rw [List.getElem?_zipIdx, List.getElem?_map, Option.map_map] at hj
  obtain ⟨⟨x, k⟩, hz, rfl⟩ := Option.map_eq_some_iff.1 hj
  have hM := hr.2 j _ hz
  refine d.M_mono (fun b hb => ⟨hb.1, ?_⟩) hM
  have hfb : f b = k := hb.2
  have hex : ∃ j x, zs[j]? = some (x, f b) := ⟨j, x, by rw [hfb]; exact hz⟩
  show (if h : ∃ j x, zs[j]? = some (x, f b) then h.choose else 0) = 0 + j
  rw [dif_pos hex, Nat.zero_add]
  obtain ⟨y, hy⟩ := hex.choose_spec
  exact hn _ _ _ _ _ hy (hfb.symm ▸ hz)
theorem flat_chunk {sz : Nat} : ∀ (rows : List (List Value)), (∀ r ∈ rows, r.length = sz) → rows.flatten.length = rows.length * sz ∧ ∀ (j : Nat) (p : List Value), rows[j]? = some p → (rows.flatten.drop (j * sz)).take sz = p
  | [], _ => ⟨by simp, fun j p h => by simp at h⟩
  | r :: rows, h => by
    have hr := h r (by simp)
    obtain ⟨h1, h2⟩ := flat_chunk rows (fun q hq => h q (by simp [hq]))
    refine ⟨by simp [hr, h1, Nat.add_mul, Nat.add_comm], fun j p hj => ?_⟩
    cases j with
    | zero =>
      simp only [List.getElem?_cons_zero, Option.some.injEq] at hj
      subst hj
      simp [← hr]
    | succ j =>
      rw [List.getElem?_cons_succ] at hj
      rw [List.flatten_cons, Nat.succ_mul, Nat.add_comm, ← List.drop_drop, ← hr, List.drop_left, hr]
      exact h2 j p hj
theorem flat_len {sz : Nat} {rows : List (List Value)} (h : ∀ r ∈ rows, r.length = sz) : rows.flatten.length = rows.length * sz := (flat_chunk rows h).1
theorem flat_take {sz : Nat} {rows : List (List Value)} (h : ∀ r ∈ rows, r.length = sz) {i : Nat} (hi : i ≤ rows.length) : (rows.take i).flatten = rows.flatten.take (i * sz) ∧ (rows.drop i).flatten = rows.flatten.drop (i * sz) := by
  have hl : (rows.take i).flatten.length = i * sz := by
    rw [flat_len (fun r hr => h r (List.mem_of_mem_take hr)), List.length_take, Nat.min_eq_left hi]
  have e : rows.flatten = (rows.take i).flatten ++ (rows.drop i).flatten := by rw [← List.flatten_append, List.take_append_drop]
  rw [e, ← hl]
  simp
/-- A row of cells, and its block. -/
structure RawB (z e base : Nat) (w : World) (g n cap : Nat) (cur : Array Value) (rows : List (List Value)) : Prop where
  blk : w.heap[g]? = some (.cells cur e (0, 0))
  bg : base ≤ g
  len : n = rows.length
  le : n ≤ cap
  mx : cap ≤ maxLen
  sz : cur.size = cap * z
  tk : cur.toList.take (n * z) = rows.flatten
  el : ∀ r ∈ rows, r.length = z
  one : ∀ r ∈ rows, ∀ u ∈ r, u.oneCell' = true
theorem raw_block {sz e base n cap : Nat} {w : World} {ok : Nat → Prop} {ad : Addr} {rows : List (List Value)} (h : (Kd.raw sz).R e w base ok (.slice (some ad) n cap) rows) : ∃ g cur, ad = ⟨g, 0, none⟩ ∧ RawB sz e base w g n cap cur rows := by
  have hn := (Kd.R_reads' h).1
  obtain ⟨_, inner, hown, hr⟩ := h
  have hel : ∀ r ∈ rows, r.length = sz ∧ ∀ u ∈ r, u.oneCell' = true := by
    intro r hm
    obtain ⟨j, hj, rfl⟩ := List.getElem_of_mem hm
    have h3 := hr.2 j _ (List.getElem?_eq_getElem hj)
    exact ⟨h3.1 ▸ h3.2.1, fun u hu => h3.2.2 u (h3.1 ▸ hu)⟩
  have hfl : inner = rows.flatten := by
    obtain ⟨f1, f2⟩ := flat_chunk rows (fun r hr => (hel r hr).1)
    have hl : inner.length = rows.length * sz := hr.1
    rcases Nat.eq_zero_or_pos sz with h0 | h0
    · rw [h0, Nat.mul_zero] at hl f1
      rw [List.eq_nil_of_length_eq_zero hl, List.eq_nil_of_length_eq_zero f1]
    apply List.ext_getElem?
    intro k
    rcases Nat.lt_or_ge k (rows.length * sz) with hk | hk
    · have hj : k / sz < rows.length := by rw [Nat.div_lt_iff_lt_mul h0]; exact hk
      have hx := List.getElem?_eq_getElem hj
      have e1 : (inner.drop (k / sz * sz)).take sz = rows[k / sz] := (hr.2 _ _ hx).1
      have e2 := f2 _ _ hx
      have hkm : k = k / sz * sz + k % sz := by rw [Nat.mul_comm]; exact (Nat.div_add_mod k sz).symm
      have hm := Nat.mod_lt k h0
      have e3 := congrArg (fun l => l[k % sz]?) (e1.trans e2.symm)
      simp only [List.getElem?_take, List.getElem?_drop] at e3
      rw [if_pos hm, if_pos hm] at e3
      rw [← hkm] at e3
      exact e3
    · rw [List.getElem?_eq_none (by omega), List.getElem?_eq_none (by omega)]
  rcases hown.2 with ⟨hv, _⟩ | ⟨g, cap', cur, hv, hb, hh, hnc, hcm, hcs, htake⟩
  · cases hv
  injection hv with ha _ hc
  injection ha with ha
  subst hc
  exact ⟨g, cur, ha, hh, hb, hn, by omega, hcm, hcs, by rw [hn, ← hfl]; exact htake, fun r hm => (hel r hm).1, fun r hm => (hel r hm).2⟩
theorem RawB.raw {sz e base g n cap : Nat} {w : World} {cur : Array Value} {rows : List (List Value)} (h : RawB sz e base w g n cap cur rows) : (Kd.raw sz).R e w base (fun _ => True) (.slice (some ⟨g, 0, none⟩) n cap) rows := by
  obtain ⟨f1, f2⟩ := flat_chunk (sz := sz) rows h.el
  refine ⟨fun _ _ => trivial, rows.flatten, ⟨f1, .inr ⟨g, cap, cur, by rw [h.len], h.bg, h.blk, by rw [← h.len]; exact h.le, h.mx, h.sz, by rw [← h.len]; exact h.tk⟩⟩, f1, fun j p hj => ?_⟩
  have hm := List.mem_of_getElem? hj
  have e : (rows.flatten.drop (j * sz)).take sz = p := f2 j p hj
  exact ⟨e, e.symm ▸ h.el p hm, e.symm ▸ h.one p hm⟩
theorem RawB.cells {sz e base g n cap : Nat} {w : World} {cur : Array Value} {rows : List (List Value)} (h : RawB sz e base w g n cap cur rows) (j : Nat) (u : Value) (hu : rows.flatten[j]? = some u) : w.cell? ⟨g, j, none⟩ = some u := by
  rw [blk_cell h.blk j]
  rw [← h.tk, List.getElem?_take] at hu
  split at hu
  · simpa using hu
  · cases hu
theorem RawB.flat1 {sz e base g n cap : Nat} {w : World} {cur : Array Value} {rows : List (List Value)} (h : RawB sz e base w g n cap cur rows) : ∀ u ∈ rows.flatten, u.oneCell' = true := by
  intro u hu
  obtain ⟨r, hr, hur⟩ := List.mem_flatten.1 hu
  exact h.one r hr u hur
/-- The lists of an element put between. -/
theorem splice_in (C F x : List Value) (o2 o1 m : Nat) (hC : C.take o2 = F.take o2) (hl : o2 ≤ F.length) (h1 : o1 = o2 + x.length) (hm : m = o1 + (F.length - o2)) (hCl : m ≤ C.length) (hCo : o2 ≤ C.length) :
    ((((C.take o1 ++ F.drop o2 ++ C.drop (o1 + (F.drop o2).length)).take o2) ++ x ++ (C.take o1 ++ F.drop o2 ++ C.drop (o1 + (F.drop o2).length)).drop (o2 + x.length)).take m) = F.take o2 ++ (x ++ F.drop o2) := by
  have e1 : (C.take o1 ++ F.drop o2 ++ C.drop (o1 + (F.drop o2).length)).take o2 = F.take o2 := by
    rw [List.append_assoc, List.take_append_of_le_length (by rw [List.length_take]; omega), List.take_take, Nat.min_eq_left (by omega), hC]
  have e2 : (C.take o1 ++ F.drop o2 ++ C.drop (o1 + (F.drop o2).length)).drop (o2 + x.length) = F.drop o2 ++ C.drop (o1 + (F.drop o2).length) := by
    have hlt : (C.take o1).length = o2 + x.length := by rw [List.length_take]; omega
    rw [List.append_assoc, ← hlt, List.drop_left]
  rw [e1, e2]
  have hll : (F.take o2 ++ x ++ F.drop o2).length = m := by
    rw [List.length_append, List.length_append, List.length_take, List.length_drop]; omega
  rw [← List.append_assoc, ← hll, List.take_left, List.append_assoc]
theorem splice_in2 (C F x : List Value) (o2 o1 m : Nat) (hC : C.take o2 = F.take o2) (hl : o2 ≤ F.length) (h1 : o1 = o2 + x.length) (hm : m = o1 + (F.length - o2)) (hCl : m ≤ C.length) :
    ((((C.take o2 ++ x ++ C.drop (o2 + x.length)).take o1) ++ F.drop o2 ++ (C.take o2 ++ x ++ C.drop (o2 + x.length)).drop (o1 + (F.drop o2).length)).take m) = F.take o2 ++ (x ++ F.drop o2) := by
  have e1 : (C.take o2 ++ x ++ C.drop (o2 + x.length)).take o1 = F.take o2 ++ x := by
    have hlt : (C.take o2 ++ x).length = o1 := by rw [List.length_append, List.length_take]; omega
    rw [← hlt, List.take_left, hC]
  rw [e1]
  have hll : (F.take o2 ++ x ++ F.drop o2).length = m := by
    rw [List.length_append, List.length_append, List.length_take, List.length_drop]; omega
  rw [← hll, List.take_left, List.append_assoc]
/-- One element cleared. -/
theorem run_clear_sz {P : Program} (w : World) (t e ty : TypeId) (z : Value) (sz : Nat) (ht : P.underlying t = some (.slice e)) (hv : ∀ w, (zeroValue e).run P w = .ok z w) (hz : z.cells.size = sz) (h0 : 0 < sz) (h1 : ∀ u ∈ z.cells.toList, u.oneCell' = true) (g o c : Nat) (cur : Array Value) (t' : TypeId) (hg : w.heap[g]? = some (.cells cur t' (0, 0))) (hfit : o + sz ≤ cur.size) :
    (Builtin.clear_ #[t] ty #[.slice (some ⟨g, o, none⟩) 1 c]).run P w = .ok (.tuple #[]) (w.setRow g (cur.toList.take o ++ z.cells.toList ++ cur.toList.drop (o + sz)).toArray) := by
  have hzc : (Builtin.zeroCells z.cells 1).toList = z.cells.toList := by
    apply List.ext_getElem
    · simp [Builtin.zeroCells]
    · intro i h2 h3
      simp only [Array.length_toList] at h3
      simp [Builtin.zeroCells, Nat.mod_eq_of_lt h3, h3]
  have hl : z.cells.toList.length = sz := by rw [Array.length_toList]; exact hz
  have hst := run_storeCells_at P g o t' z.cells.toList 0 cur w hg (by rw [hl]; simpa using hfit) h1
  rw [hl] at hst
  simp only [Nat.add_zero] at hst
  simp [Builtin.clear_, run_underlying ht, hv, hzc, hst]
theorem wpList_clear_w {P : Program} (w : World) {ops : Array Oper} {rest : List Oper} {o : Oper} {a : Act} {Q : Exit → Act → World → Prop} (hgd : o.guard = none) (d : Operand) (t : TypeId)
    (ho : o.op = .call { callee := .builtin .clear, args := #[d], argTypes := #[t] }) (v : Value) (hd : a.eval d = v) {v' : Value} {w' : World}
    (hr : (Builtin.clear_ #[t] o.type #[v]).run P w = .ok v' w') (h : wpList P ops Q rest (a.put o.dst v') w') : wpList P ops Q (o :: rest) a w :=
  wpList_plain hgd fun K hK => by
    unfold Oper.wp
    simp [execOp, ho, resolve, invoke, builtin, hd, hr, Result.andThen]
    exact hK _ _ h
theorem grown_step_row {w w1 : World} {g : Nat} {cs : Array Value} (h : w.grownBy w1 (some g)) : w.grownBy (w1.setRow g cs) (some g) := ⟨h.os, h.tape, h.output, Nat.le_trans h.size (by simp [World.setRow]), fun k hk hr => (setRow_other w1 g k cs (fun e => hr (by rw [e]))).trans (h.block k hk hr)⟩
theorem ins_at {α : Type} (l : List α) (a : α) (i : Nat) (hi : i ≤ l.length) (j : Nat) : (l.take i ++ a :: l.drop i)[j]? = if j < i then l[j]? else if j = i then some a else l[j - 1]? := by
  have hl : (l.take i).length = i := by rw [List.length_take]; omega
  rcases Nat.lt_trichotomy j i with h | h | h
  · rw [List.getElem?_append_left (by omega), List.getElem?_take, if_pos h, if_pos h]
  · subst h
    rw [List.getElem?_append_right (by omega), hl]
    simp
  · rw [List.getElem?_append_right (by omega), hl, if_neg (by omega), if_neg (by omega)]
    obtain ⟨k, rfl⟩ : ∃ k, j = i + 1 + k := ⟨j - i - 1, by omega⟩
    rw [show i + 1 + k - i = k + 1 by omega, List.getElem?_cons_succ, List.getElem?_drop, show i + 1 + k - 1 = i + k by omega]
theorem ins_len {α : Type} (l : List α) (a : α) (i : Nat) (hi : i ≤ l.length) : (l.take i ++ a :: l.drop i).length = l.length + 1 := by
  rw [List.length_append, List.length_cons, List.length_take, List.length_drop]
  omega
theorem ins_moved {α : Type} {xs : List α} {rows : List (List Value)} {x : α} {c : List Value} {i : Nat} {q : α → List Value → Prop} (hl : rows.length = xs.length) (hi : i ≤ xs.length) (hq : q x c) (j : Nat) (y : α) (hy : (xs.take i ++ x :: xs.drop i)[j]? = some y) :
    (∃ m : Nat, xs[m]? = some y ∧ (rows.take i ++ c :: rows.drop i)[j]? = rows[m]?) ∨ ∃ c', (rows.take i ++ c :: rows.drop i)[j]? = some c' ∧ q y c' := by
  rw [ins_at xs x i hi] at hy
  rw [ins_at rows c i (by omega)]
  by_cases h1 : j < i
  · rw [if_pos h1] at hy ⊢
    exact .inl ⟨j, hy, rfl⟩
  · rw [if_neg h1] at hy ⊢
    by_cases h2 : j = i
    · rw [if_pos h2] at hy ⊢
      obtain rfl := Option.some.inj hy
      exact .inr ⟨c, rfl, hq⟩
    · rw [if_neg h2] at hy ⊢
      exact .inl ⟨j - 1, hy, rfl⟩

/-- A step of the walk by a step's rule. -/
theorem wpList_step {P : Program} {ops : Array Oper} {Q : Exit → Act → World → Prop} {a : Act} {w : World} {rest : List Oper} {o : Oper} (h : if Region.wanted o (yielded ops a.tmps) = true then Oper.wp P o a w (wpList P ops Q rest) Q else wpList P ops Q rest (a.put o.dst undef) w) : wpList P ops Q (o :: rest) a w := by
  show (if Region.wanted o (yielded ops a.tmps) = true then (Oper.wp P o a w (wpList P ops Q rest) Q ∨ _) else _)
  split at h
  · rename_i e
    rw [if_pos e]
    exact .inl h
  · rename_i e
    rw [if_neg e]
    exact h
theorem nil_eq {P : Program} {t e : TypeId} (hu : P.underlying t = some (.slice e)) (n c : Nat) (w : World) : (binOp .eql t (.slice none n c) (.slice none 0 0)).run P w = .ok (.bool true) w := by
  have h : ∀ d : Nat, (Op.equalIn (d + 1) t (.slice none n c) (.slice none 0 0)).run P w = .ok true w := fun d => by simp [Op.equalIn, run_underlying hu]
  have h2 : (Op.equal t (.slice none n c) (.slice none 0 0)).run P w = .ok true w := h 9999
  show (do pure (Value.bool (← Op.equal t (.slice none n c) (.slice none 0 0))) : Sem Value).run P w = _
  simp [h2]
theorem nil_ne {P : Program} {t e : TypeId} (hu : P.underlying t = some (.slice e)) (ad : Addr) (n c : Nat) (w : World) : (binOp .eql t (.slice (some ad) n c) (.slice none 0 0)).run P w = .ok (.bool false) w := by
  have h : ∀ d : Nat, (Op.equalIn (d + 1) t (.slice (some ad) n c) (.slice none 0 0)).run P w = .ok false w := fun d => by simp [Op.equalIn, run_underlying hu]
  have h2 : (Op.equal t (.slice (some ad) n c) (.slice none 0 0)).run P w = .ok false w := h 9999
  show (do pure (Value.bool (← Op.equal t (.slice (some ad) n c) (.slice none 0 0))) : Sem Value).run P w = _
  simp [h2]

-- imports: Derived.Lib.Overlaps Derived.Lib.AppendZerosOnto Derived.Laws.Externs Derived.Deep.RegionLaw Derived.Laws.NewBlocks
set_option maxHeartbeats 4000000 in
set_option maxRecDepth 100000 in
/-- slices.Insert of one element, the row as cells. -/
theorem ins_row (w : World) (base : Nat) (v : Value) (rows : List (List Value)) (x : List Value) (vb i : Nat) (hR : (Kd.raw 2).R 37 w base (fun _ => True) v rows) (hi : i ≤ rows.length) (hx : w.heap[vb]? = some (.cells x.toArray 37 (0, 0))) (hxl : x.length = 2) (hx1 : ∀ u ∈ x, u.oneCell' = true) (hvb : some vb ≠ v.ownBlock) (hbase : base ≤ w.heap.size) (hbig : rows.length < 1000000) :
    Calls Tryd.prog 20 #[v, .int .i64 i, .slice (some ⟨vb, 0, none⟩) 1 1] w fun e_ w' => ∃ v', e_ = .returned v' ∧ (Kd.raw 2).R 37 w' base (fun _ => True) v' (rows.take i ++ x :: rows.drop i) ∧ w.grownBy w' v.ownBlock ∧ (v'.ownBlock = v.ownBlock ∨ ∃ b, v'.ownBlock = some b ∧ w.heap.size ≤ b) := by
  have hu := Tryd.underlying24
  have hsz : (Tryd.prog.info? 37).map (·.size) = some 2 := by kernel_rfl
  obtain ⟨A, c, rfl⟩ := Kd.R_slice hR
  have hxc : ∀ j u, x[j]? = some u → w.cell? ⟨vb, j, none⟩ = some u := fun j u hj => by rw [blk_cell hx j]; simpa using hj
  by_cases hin : i = rows.length
  · subst hin
    have hXC : ReadsRow ((Kd.raw 2).K w) 2 w (some ⟨vb, 0, none⟩) 1 [x] := ⟨rfl, by decide, fun _ => ⟨_, rfl, fun j p hj => by
      cases j with
      | succ j => simp at hj
      | zero =>
        simp only [List.getElem?_cons_zero, Option.some.injEq] at hj
        subst hj
        exact ⟨x, hxl, ⟨rfl, hxl, hx1⟩, fun t u hu => by rw [add_at]; simpa using hxc t u hu⟩⟩⟩
    have hlast : rows.take rows.length ++ x :: rows.drop rows.length = rows ++ [x] := by simp
    rw [hlast]
    have HR := Aside0.mk hR
    have HX := Aside0.mk hXC
    clear hlast hXC hx hxc hxl hx1 hvb hi
    cases A with
    | none =>
      have hz : rows.length = 0 := by
        rcases Nat.eq_zero_or_pos rows.length with h | h
        · exact h
        · obtain ⟨ad, e, _⟩ := (Kd.R_reads' hR).2.2.2.2 h
          cases e
      have hl0 : rows = [] := List.length_eq_zero_iff.1 hz
      subst hl0
      obtain rfl : c = 0 := by
        obtain ⟨_, _, ho, _⟩ := hR
        rcases ho.2 with ⟨hv, _⟩ | ⟨_, _, _, hv, _⟩
        · injection hv
        · cases hv
      clear hR hz hsz
      go_enter Tryd.func20, Tryd.ntmps20
      go_wp2_with (at_builtin; refine wpList_step (Kd.R_append_rows_step (Kd.raw 2) (w0 := w) base (by rfl) (.tmp 23) (.tmp 24) 24 37 (Value.agg #[(.slice none 0 0), (.bool false)]) 32 rfl hu (by kernel_rfl) rfl (by decide) (by decide) (.slice none 0 0) [] [x] (some ⟨vb, 0, none⟩) 1 1 (fun _ => True) (fun _ => False) rfl rfl HR.out HX.out (fun _ _ h => h) (fun _ h => h.elim) (fun _ _ => trivial) (Below.refl _ _) hbase (by simp) ?_); intro v1 w1 hr1 hb1 hg1 hat1)
      go_ret
      exact ⟨_, rfl, hr1, hg1, hat1⟩
    | some ad =>
      obtain ⟨g, cur, rfl, hB⟩ := raw_block hR
      have hle := hB.le
      have hnb : (rows.length : Int) < 1000000 := by omega
      by_cases hcn : c = rows.length
      · clear hR hB hsz hle
        go_enter Tryd.func20, Tryd.ntmps20
        go_wp2_with (at_builtin; refine wpList_step (Kd.R_append_rows_step (Kd.raw 2) (w0 := w) base (by rfl) (.tmp 23) (.tmp 24) 24 37 (Value.agg #[(.slice none 0 0), (.bool false)]) 32 rfl hu (by kernel_rfl) rfl (by decide) (by decide) (.slice (some ⟨g, 0, none⟩) rows.length c) rows [x] (some ⟨vb, 0, none⟩) 1 1 (fun _ => True) (fun _ => False) rfl rfl HR.out HX.out (fun _ _ h => h) (fun _ h => h.elim) (fun _ _ => trivial) (Below.refl _ _) hbase (by omega) ?_); intro v1 w1 hr1 hb1 hg1 hat1)
        go_ret
        exact ⟨_, rfl, hr1, hg1, hat1⟩
      · clear hR hB hsz
        go_enter Tryd.func20, Tryd.ntmps20
        go_wp2_with (at_builtin; refine wpList_step (Kd.R_append_rows_step (Kd.raw 2) (w0 := w) base (by rfl) (.tmp 23) (.tmp 24) 24 37 (Value.agg #[(.slice none 0 0), (.bool false)]) 32 rfl hu (by kernel_rfl) rfl (by decide) (by decide) (.slice (some ⟨g, 0, none⟩) rows.length c) rows [x] (some ⟨vb, 0, none⟩) 1 1 (fun _ => True) (fun _ => False) rfl rfl HR.out HX.out (fun _ _ h => h) (fun _ h => h.elim) (fun _ _ => trivial) (Below.refl _ _) hbase (by omega) ?_); intro v1 w1 hr1 hb1 hg1 hat1)
        go_ret
        exact ⟨_, rfl, hr1, hg1, hat1⟩
  have hlt : i < rows.length := by omega
  have hz2 : ¬ ((i : Int) = (rows.length : Int)) := by omega
  have hin2 : i ≤ rows.length := hi
  have hw1 : IntKind.i64.wrap ((i : Int) + 1) = (i : Int) + 1 := by rw [IntKind.wrap_i64]; omega
  have hw2 : wrap64 ((i : Int) + 1) = (i : Int) + 1 := by unfold wrap64; omega
  have hw3 : wrap64 ((rows.length : Int) + 1) = (rows.length : Int) + 1 := by unfold wrap64; omega
  have hw4 : IntKind.i64.wrap ((rows.length : Int) + 1) = (rows.length : Int) + 1 := by rw [IntKind.wrap_i64]; omega
  have htn : ((i : Int) + 1).toNat = i + 1 := by omega
  have htm : ((rows.length : Int) + 1).toNat = rows.length + 1 := by omega
  have hb0 : (0 : Int) ≤ (i : Int) + 1 := by omega
  have hb1 : (0 : Int) ≤ (rows.length : Int) + 1 := by omega
  obtain ⟨ad, hA⟩ : ∃ ad, A = some ad := by
    obtain ⟨ad, e, _⟩ := (Kd.R_reads' hR).2.2.2.2 (by omega)
    exact ⟨ad, e⟩
  subst hA
  obtain ⟨g, cur, rfl, hB⟩ := raw_block hR
  have hle := hB.le
  have hvg : vb ≠ g := fun e => hvb (by rw [e]; rfl)
  have hfl := flat_len hB.el
  have hcz := hB.sz
  have hmul : (i + 1) * 2 = i * 2 + 2 := Nat.succ_mul _ _
  have hile : i * 2 ≤ rows.length * 2 := Nat.mul_le_mul_right _ hi
  have hi1le : (i + 1) * 2 ≤ rows.length * 2 := Nat.mul_le_mul_right _ hlt
  have hdl : (rows.flatten.drop (i * 2)).length = (rows.length - i) * 2 := by rw [List.length_drop, hfl, Nat.sub_mul]
  have hst : ∀ u ∈ rows.flatten.drop (i * 2), u.oneCell' = true := fun u hu => hB.flat1 u (List.mem_of_mem_drop hu)
  have hins : (rows.take i ++ x :: rows.drop i).flatten = rows.flatten.take (i * 2) ++ (x ++ rows.flatten.drop (i * 2)) := by
    obtain ⟨t1, t2⟩ := flat_take hB.el hi
    rw [List.flatten_append, List.flatten_cons, t1, t2]
  have hnew : (rows.take i ++ x :: rows.drop i).length = rows.length + 1 := by simp; omega
  have hel2 : ∀ r ∈ rows.take i ++ x :: rows.drop i, r.length = 2 := by
    intro r hr
    rcases List.mem_append.1 hr with h | h
    · exact hB.el r (List.mem_of_mem_take h)
    · rcases List.mem_cons.1 h with h | h
      · rw [h]; exact hxl
      · exact hB.el r (List.mem_of_mem_drop h)
  have hone2 : ∀ r ∈ rows.take i ++ x :: rows.drop i, ∀ u ∈ r, u.oneCell' = true := by
    intro r hr
    rcases List.mem_append.1 hr with h | h
    · exact hB.one r (List.mem_of_mem_take h)
    · rcases List.mem_cons.1 h with h | h
      · rw [h]; exact hx1
      · exact hB.one r (List.mem_of_mem_drop h)
  have hci : ¬ (c = i) := by omega
  have hcsz : cur.toList.length = c * 2 := by rw [Array.length_toList]; exact hcz
  have hcle : rows.length * 2 ≤ c * 2 := Nat.mul_le_mul_right _ hle
  have hctk : cur.toList.take (i * 2) = rows.flatten.take (i * 2) := by
    rw [← hB.tk, List.take_take, Nat.min_eq_left hile]
  have hbg := hB.bg
  by_cases hroom : rows.length + 1 ≤ c
  · -- in place
    have hrle : (rows.length + 1) * 2 ≤ c * 2 := Nat.mul_le_mul_right _ hroom
    have hrm : (rows.length + 1) * 2 = rows.length * 2 + 2 := Nat.succ_mul _ _
    have hci1 : ¬ (c = i + 1) := by omega
    have hz3 : ¬ ((c : Int) < (rows.length : Int) + 1) := by omega
    have hb3 : (rows.length : Int) + 1 ≤ (c : Int) := by omega
    have hb4 : (i : Int) + 1 ≤ (rows.length : Int) + 1 := by omega
    have hb5 : (i : Int) ≤ (rows.length : Int) + 1 := by omega
    have hb6 : i + 1 ≤ rows.length + 1 := by omega
    have hb7 : i ≤ rows.length + 1 := by omega
    have hov : ∀ lb cb, (callFunc 38 #[.slice (some ⟨vb, 0, none⟩) 1 1, .slice (some ⟨g, (i + 1) * 2, none⟩) lb cb]).run Tryd.prog w = .ok (.value (.bool false)) w := fun lb cb => by
      have hsv : w.shape? vb = some (37, x.toArray.size) := by simp [World.shape?, hx]
      have hsg : w.shape? g = some (37, cur.size) := by simp [World.shape?, hB.blk]
      rw [run_callFunc_extern Tryd.func38 (by kernel_rfl) (by kernel_rfl) (by kernel_rfl) (e := Extern.SlicesOverlaps.overlaps #[24, 24] #[4]) (by kernel_rfl),
        Lib.run_overlaps_apart w 24 4 37 hu 2 (fun w => by obtain ⟨i0, hi0, hz0⟩ := Option.map_eq_some_iff.1 hsz; simp [Go.sizeOf, typeInfo, hi0, hz0]) ⟨vb, 0, none⟩ ⟨g, (i + 1) * 2, none⟩ 1 1 lb cb hvg 37 37 _ _ hsv hsg (by omega) (blk_frozen hx 0) (by simp [World.frozen?, hx])]
      rfl
    obtain ⟨C1, hC1⟩ : ∃ C1, C1 = (cur.toList.take ((i + 1) * 2) ++ rows.flatten.drop (i * 2) ++ cur.toList.drop ((i + 1) * 2 + (rows.flatten.drop (i * 2)).length)) := ⟨_, rfl⟩
    have hC1l : C1.length = c * 2 := by
      rw [hC1, List.length_append, List.length_append, List.length_take, hdl, List.length_drop, hcsz]
      have : (rows.length - i) * 2 = rows.length * 2 - i * 2 := Nat.sub_mul _ _ _
      omega
    obtain ⟨C2, hC2⟩ : ∃ C2, C2 = (C1.take (i * 2) ++ x ++ C1.drop (i * 2 + x.length)) := ⟨_, rfl⟩
    have hC2l : C2.length = c * 2 := by
      rw [hC2, List.length_append, List.length_append, List.length_take, List.length_drop, hC1l, hxl]
      omega
    have hC2t : C2.take ((rows.length + 1) * 2) = (rows.take i ++ x :: rows.drop i).flatten := by
      rw [hins, hC2, hC1]
      exact splice_in cur.toList rows.flatten x (i * 2) ((i + 1) * 2) _ hctk (by omega) (by omega) (by omega) (by omega) (by omega)
    have hcp1 : ∀ (W : World), W.heap[g]? = some (.cells cur 37 (0, 0)) → ∀ ty dc sc, (Builtin.copy_ #[24, 24] ty #[.slice (some ⟨g, (i + 1) * 2, none⟩) (rows.length - i) dc, .slice (some ⟨g, i * 2, none⟩) (rows.length + 1 - i) sc]).run Tryd.prog W = .ok (goInt ((rows.length - i : Nat) : Int)) (W.setRow g C1.toArray) := fun W hW ty dc sc => by
      rw [hC1]
      refine run_copy_sz W _ _ ty 37 g _ _ dc ⟨g, i * 2, none⟩ _ sc 2 cur 37 (rows.flatten.drop (i * 2)) hu hsz hW (rows.length - i) (by simp only [Nat.min_def]; split <;> omega) hdl (fun j u hj => ?_) (by rw [hdl, hcz]; have : (rows.length - i) * 2 = rows.length * 2 - i * 2 := Nat.sub_mul _ _ _; omega) hst
      rw [add_at, blk_cell hW]
      rw [List.getElem?_drop, ← hB.tk, List.getElem?_take] at hj
      split at hj
      · simpa using hj
      · cases hj
    have hcp2 : ∀ (W : World), W.heap[g]? = some (.cells C1.toArray 37 (0, 0)) → W.heap[vb]? = some (.cells x.toArray 37 (0, 0)) → ∀ ty dc, (Builtin.copy_ #[24, 24] ty #[.slice (some ⟨g, i * 2, none⟩) (rows.length + 1 - i) dc, .slice (some ⟨vb, 0, none⟩) 1 1]).run Tryd.prog W = .ok (goInt ((1 : Nat) : Int)) (W.setRow g C2.toArray) := fun W hW hV ty dc => by
      rw [hC2]
      exact run_copy_sz W _ _ ty 37 g _ _ dc ⟨vb, 0, none⟩ 1 1 2 C1.toArray 37 x hu hsz hW 1 (by simp only [Nat.min_def]; split <;> omega) (by rw [hxl]) (fun j u hj => by rw [add_at, blk_cell hV]; simpa using hj) (by rw [List.size_toArray, hC1l, hxl]; omega) hx1
    have HB := Aside0.mk hB
    have HC1 := Aside0.mk hC2l
    have HC2 := Aside0.mk hC2t
    have HEL := Aside0.mk hel2
    have HON := Aside0.mk hone2
    have HNW := Aside0.mk hnew
    have HX := Aside0.mk hx
    have HP1 := Aside0.mk hcp1
    have HP2 := Aside0.mk hcp2
    have hR0 : w.drew.setRow g C1.toArray = (w.setRow g C1.toArray).drew := rfl
    clear hR hB hC1 hC2 hC1l hC2l hC2t hcp1 hcp2 hel2 hone2 hnew hins hctk hdl hst hfl hcz hcsz hmul hile hi1le hcle hrle hrm hxl hx1 hxc hx
    go_enter Tryd.func20, Tryd.ntmps20
    go_upto_region 15 with (simp only [hov])
    go_region_law (go_loud (refine step_copy_w rfl (.tmp 73) (.tmp 76) 24 24 rfl (.slice (some ⟨g, (i + 1) * 2, none⟩) (rows.length - i) (c - (i + 1))) (.slice (some ⟨g, i * 2, none⟩) (rows.length + 1 - i) (c - i)) (by simp [Act.eval, Act.put]) (by simp [Act.eval, Act.put]) (HP1.out w.drew HB.out.blk _ _ _) ?_))
    go_wp2_with (show wpList _ _ _ (Oper.mk (some 82) _ _ _ _ _ :: _) _ _; refine wpList_copy_w _ rfl _ _ 24 24 rfl _ _ rfl rfl (HP2.out (w.drew.setRow g C1.toArray) (setRow_heap w.drew g _ _ 37 _ HB.out.blk) ((setRow_other w.drew g vb _ hvg).trans HX.out) _ _) ?_)
    go_ret
    have e : (rows.take i ++ x :: rows.drop i).length = rows.length + 1 := HNW.out
    refine ⟨_, rfl, RawB.raw (cur := C2.toArray) ⟨setRow_heap _ g _ _ 37 _ (setRow_heap _ g _ _ 37 _ HB.out.blk), hbg, e.symm, hroom, HB.out.mx, by rw [List.size_toArray]; exact HC1.out, by rw [List.toList_toArray]; exact HC2.out, HEL.out, HON.out⟩, ⟨rfl, rfl, rfl, by simp [World.setRow], fun k hk hne => (setRow_other _ g k _ (fun e => hne (by rw [e]; rfl))).trans (setRow_other _ g k _ (fun e => hne (by rw [e]; rfl)))⟩, .inl rfl⟩
  · -- a new row
    obtain rfl : c = rows.length := by omega
    obtain ⟨i0, hi0, hz0, hzs, hzb⟩ := info_parts (P := Tryd.prog) (e := 37) (z := (Value.agg #[(.slice none 0 0), (.bool false)])) (size := 2) (bytes := 32) (by kernel_rfl)
    have hti := Tryd.underlying3
    have hgw : g < w.heap.size := blk_lt hB.blk
    have hvw : vb < w.heap.size := blk_lt hx
    have hkk : (rows.length : Int) + 1 - (i : Int) = ((rows.length + 1 - i : Nat) : Int) := by omega
    have hik : i + (rows.length + 1 - i) = rows.length + 1 := by omega
    have hold : (Builtin.firstCells i0.size i (.slice (some ⟨g, 0, none⟩) i rows.length)).run Tryd.prog w.drew = .ok (rows.flatten.take (i * 2)).toArray w.drew := by
      rw [hzs]
      exact run_firstCells_some w.drew 2 i ⟨g, 0, none⟩ i rows.length (rows.flatten.take (i * 2)) (by rw [List.length_take, hfl]; omega) (fun j u hj => by
        rw [add_at, Nat.zero_add]
        rw [List.getElem?_take] at hj
        split at hj
        · exact hB.cells j u hj
        · cases hj)
    obtain ⟨G, hG⟩ : ∃ G, G = grownCap w (rows.length + 1) rows.length 37 := ⟨_, rfl⟩
    obtain ⟨ROW, hROW⟩ : ∃ ROW : Array Value, ROW = (rows.flatten.take (i * 2)).toArray ++ Builtin.zeroCells (Value.agg #[(.slice none 0 0), (.bool false)]).cells (rows.length + 1 - i) ++ Builtin.zeroCells (Value.agg #[(.slice none 0 0), (.bool false)]).cells (G - (rows.length + 1)) := ⟨_, rfl⟩
    have hrz : ∀ ty, (Builtin.append_ #[24, 3] ty #[.slice (some ⟨g, 0, none⟩) i rows.length, .int .i64 ((rows.length : Int) + 1 - (i : Int))]).run Tryd.prog w = .ok (.slice (some ⟨w.heap.size, 0, none⟩) (rows.length + 1) G) (w.drew.alloc (.cells ROW 37)) := fun ty => by
      have h := Lib.run_append_grow_zeros w 24 3 ty 37 i0 _ .i64 .i64 hu hti hi0 hz0 (some ⟨g, 0, none⟩) i rows.length _ hold (rows.length + 1 - i) (by omega) (by omega) (by omega) (by omega) (by rw [hzb]; omega) (by rw [hzb, hik]; exact growslice_fits (by omega) (by omega))
      rw [hik, ← hG, ← hROW] at h
      rw [hkk]
      exact h
    have hGn : rows.length + 1 ≤ G := by rw [hG]; exact grownCap_ge w _ _ _
    have hGm : G ≤ maxLen := by rw [hG]; exact grownCap_le_maxLen w _ _ _ (by unfold maxLen; omega)
    have hzl : ∀ m, (Builtin.zeroCells (Value.agg #[(.slice none 0 0), (.bool false)]).cells m).size = m * 2 := fun m => by have hz_ : (Value.agg #[(.slice none 0 0), (.bool false)]).cells.size = 2 := rfl; simp [Builtin.zeroCells, hz_]
    have hRs : ROW.toList.length = G * 2 := by
      rw [Array.length_toList, hROW, Array.size_append, Array.size_append, hzl, hzl, List.size_toArray, List.length_take, hfl, Nat.min_eq_left hile, Nat.sub_mul, Nat.sub_mul]
      have h1 := Nat.mul_le_mul_right 2 hGn
      have h2 : i * 2 ≤ (rows.length + 1) * 2 := Nat.mul_le_mul_right _ (by omega)
      omega
    have hRt : ROW.toList.take (i * 2) = rows.flatten.take (i * 2) := by
      have hl : (rows.flatten.take (i * 2)).length = i * 2 := by rw [List.length_take, hfl]; omega
      rw [hROW, Array.toList_append, Array.toList_append, List.append_assoc, List.toList_toArray]
      exact List.take_left' hl
    have hGle : (rows.length + 1) * 2 ≤ G * 2 := Nat.mul_le_mul_right _ hGn
    have hrm : (rows.length + 1) * 2 = rows.length * 2 + 2 := Nat.succ_mul _ _
    have hsub : (rows.length - i) * 2 = rows.length * 2 - i * 2 := Nat.sub_mul _ _ _
    obtain ⟨C1, hC1⟩ : ∃ C1, C1 = (ROW.toList.take (i * 2) ++ x ++ ROW.toList.drop (i * 2 + x.length)) := ⟨_, rfl⟩
    have hC1l : C1.length = G * 2 := by
      rw [hC1, List.length_append, List.length_append, List.length_take, List.length_drop, hRs, hxl]
      omega
    obtain ⟨C2, hC2⟩ : ∃ C2, C2 = (C1.take ((i + 1) * 2) ++ rows.flatten.drop (i * 2) ++ C1.drop ((i + 1) * 2 + (rows.flatten.drop (i * 2)).length)) := ⟨_, rfl⟩
    have hC2l : C2.length = G * 2 := by
      rw [hC2, List.length_append, List.length_append, List.length_take, hdl, List.length_drop, hC1l]
      omega
    have hC2t : C2.take ((rows.length + 1) * 2) = (rows.take i ++ x :: rows.drop i).flatten := by
      rw [hins, hC2, hC1]
      exact splice_in2 ROW.toList rows.flatten x (i * 2) ((i + 1) * 2) _ hRt (by omega) (by omega) (by omega) (by omega)
    have hcp1 : ∀ (W : World), W.heap[w.heap.size]? = some (.cells ROW 37 (0, 0)) → W.heap[vb]? = some (.cells x.toArray 37 (0, 0)) → ∀ ty dc, (Builtin.copy_ #[24, 24] ty #[.slice (some ⟨w.heap.size, i * 2, none⟩) (rows.length + 1 - i) dc, .slice (some ⟨vb, 0, none⟩) 1 1]).run Tryd.prog W = .ok (goInt ((1 : Nat) : Int)) (W.setRow w.heap.size C1.toArray) := fun W hW hV ty dc => by
      rw [hC1]
      exact run_copy_sz W _ _ ty 37 w.heap.size _ _ dc ⟨vb, 0, none⟩ 1 1 2 ROW 37 x hu hsz hW 1 (by simp only [Nat.min_def]; split <;> omega) (by rw [hxl]) (fun j u hj => by rw [add_at, blk_cell hV]; simpa using hj) (by rw [← Array.length_toList, hRs, hxl]; omega) hx1
    have hcp2 : ∀ (W : World), W.heap[w.heap.size]? = some (.cells C1.toArray 37 (0, 0)) → W.heap[g]? = some (.cells cur 37 (0, 0)) → ∀ ty dc sc, (Builtin.copy_ #[24, 24] ty #[.slice (some ⟨w.heap.size, (i + 1) * 2, none⟩) (rows.length - i) dc, .slice (some ⟨g, i * 2, none⟩) (rows.length - i) sc]).run Tryd.prog W = .ok (goInt ((rows.length - i : Nat) : Int)) (W.setRow w.heap.size C2.toArray) := fun W hW hV ty dc sc => by
      rw [hC2]
      refine run_copy_sz W _ _ ty 37 w.heap.size _ _ dc ⟨g, i * 2, none⟩ _ sc 2 C1.toArray 37 (rows.flatten.drop (i * 2)) hu hsz hW (rows.length - i) (by simp only [Nat.min_def]; split <;> omega) hdl (fun j u hj => ?_) (by rw [List.size_toArray, hdl, hC1l]; omega) hst
      rw [add_at, blk_cell hV]
      rw [List.getElem?_drop, ← hB.tk, List.getElem?_take] at hj
      split at hj
      · simpa using hj
      · cases hj
    have hci1 : ¬ (rows.length = i + 1) ∨ True := .inr trivial
    have hGi : ¬ (G = i) := by omega
    have hGi1 : ¬ (G = i + 1) := by omega
    have hb3 : (rows.length : Int) < (rows.length : Int) + 1 := by omega
    have hb4 : (i : Int) + 1 ≤ (rows.length : Int) + 1 := by omega
    have hb5 : (i : Int) ≤ (rows.length : Int) + 1 := by omega
    have hb8 : (i : Int) ≤ (rows.length : Int) := by omega
    have hb6 : i + 1 ≤ rows.length + 1 := by omega
    have hb7 : i ≤ rows.length + 1 := by omega
    have hw5 : wrap64 ((rows.length : Int) + 1 - (i : Int)) = (rows.length : Int) + 1 - (i : Int) := by unfold wrap64; omega
    have hw6 : IntKind.i64.wrap ((rows.length : Int) + 1 - (i : Int)) = (rows.length : Int) + 1 - (i : Int) := by rw [IntKind.wrap_i64]; omega
    have HB := Aside0.mk hB
    have HC1 := Aside0.mk hC2l
    have HC2 := Aside0.mk hC2t
    have HEL := Aside0.mk hel2
    have HON := Aside0.mk hone2
    have HNW := Aside0.mk hnew
    have HX := Aside0.mk hx
    have HP1 := Aside0.mk hcp1
    have HP2 := Aside0.mk hcp2
    have HRZ := Aside0.mk hrz
    have HGM := Aside0.mk hGm
    have HN0 := Aside0.mk (show (w.alloc (.cells ROW 37)).heap[w.heap.size]? = some (.cells ROW 37 (0, 0)) from blk_new w _)
    have HV0 := Aside0.mk (show (w.alloc (.cells ROW 37)).heap[vb]? = some (.cells x.toArray 37 (0, 0)) from blk_alloc hx _)
    have HG0 := Aside0.mk (show (w.alloc (.cells ROW 37)).heap[g]? = some (.cells cur 37 (0, 0)) from blk_alloc hB.blk _)
    have hgn : g ≠ w.heap.size := by omega
    have hszn : w.heap.size ≤ (w.alloc (.cells ROW 37)).heap.size := by simp
    have HOT : Aside0 (∀ k, k < w.heap.size → (w.alloc (.cells ROW 37)).heap[k]? = w.heap[k]?) := ⟨fun k hk => Below.heap_alloc w _ k hk⟩
    clear hR hB hC1 hC2 hC1l hC2l hC2t hcp1 hcp2 hel2 hone2 hnew hins hctk hdl hst hfl hcz hcsz hmul hile hi1le hcle hrm hxl hx1 hxc hx hrz hGm hG hROW hRs hRt hzl hold hGle hsub hkk hik hi0 hz0 hzs hzb
    go_enter Tryd.func20, Tryd.ntmps20
    go_upto_region 11 with (first | (at_builtin; refine Lib.wpList_append_run _ rfl _ _ _ _ rfl _ _ rfl rfl _ _ (HRZ.out _) ?_) | (show wpList _ _ _ (Oper.mk (some 45) _ _ _ _ _ :: _) _ _; refine wpList_copy_w _ rfl _ _ 24 24 rfl _ _ rfl rfl (HP1.out (w.alloc (.cells ROW 37)).drew HN0.out HV0.out _ _) ?_))
    go_region_law (go_loud (refine step_copy_w rfl (.tmp 50) (.tmp 53) 24 24 rfl (.slice (some ⟨w.heap.size, (i + 1) * 2, none⟩) (rows.length - i) (G - (i + 1))) (.slice (some ⟨g, i * 2, none⟩) (rows.length - i) (rows.length - i)) (by simp [Act.eval, Act.put]) (by simp [Act.eval, Act.put]) (HP2.out ((w.alloc (.cells ROW 37)).drew.setRow w.heap.size C1.toArray).drew (setRow_heap (w.alloc (.cells ROW 37)).drew w.heap.size _ _ 37 _ HN0.out) ((setRow_other (w.alloc (.cells ROW 37)).drew w.heap.size g _ hgn).trans HG0.out) _ _ _) ?_))
    go_wp2
    go_ret
    have e : (rows.take i ++ x :: rows.drop i).length = rows.length + 1 := HNW.out
    refine ⟨_, rfl, RawB.raw (cur := C2.toArray) ⟨setRow_heap _ w.heap.size _ _ 37 _ (setRow_heap _ w.heap.size _ _ 37 _ HN0.out), hbase, e.symm, hGn, HGM.out, by rw [List.size_toArray]; exact HC1.out, by rw [List.toList_toArray]; exact HC2.out, HEL.out, HON.out⟩, ⟨rfl, rfl, rfl, by simp [World.setRow], fun k hk hne => (setRow_other _ _ k _ (by omega)).trans ((setRow_other _ _ k _ (by omega)).trans (HOT.out k hk))⟩, .inr ⟨_, rfl, Nat.le_refl _⟩⟩
/-- slices.Insert of an empty row into the rows of one's own. -/
theorem ins_rowS (w : World) (base : Nat) (v : Value) (xs : List S37) (vb i : Nat) (hS : Kd.S k37 37 w base (fun _ => True) v xs) (hi : i ≤ xs.length) (hx : w.heap[vb]? = some (.cells #[.slice none 0 0, .bool false] 37 (0, 0))) (hvb : some vb ≠ v.ownBlock) (hbase : base ≤ w.heap.size) (hbig : xs.length < 1000000) :
    Calls Tryd.prog 20 #[v, .int .i64 i, .slice (some ⟨vb, 0, none⟩) 1 1] w fun e_ w' => ∃ v', e_ = .returned v' ∧ Kd.S k37 37 w' base (fun _ => True) v' (xs.take i ++ (⟨[], false⟩ : S37) :: xs.drop i) ∧ w.grownBy w' v.ownBlock ∧ (v'.ownBlock = v.ownBlock ∨ ∃ b, v'.ownBlock = some b ∧ w.heap.size ≤ b) := by
  obtain ⟨f, hR⟩ := hS
  obtain ⟨rows, hl, hraw, hback⟩ := R_moved hR
  have hz : xs.zipIdx.length = xs.length := List.length_zipIdx
  rw [hz] at hl
  have hmk : ∀ W ok, k37.M W base ok (⟨[], false⟩ : S37) [.slice none 0 0, .bool false] := fun W ok => k37_mkM W base ok (⟨[], false⟩ : S37) (Kd.R_nil _ _ _ _ _)
  have hK := k37.K_of_M (hmk w (fun _ => True))
  refine (ins_row w base v rows _ vb i hraw (by omega) hx (k37.K_len hK) (k37.K_one hK) hvb hbase (by omega)).mono ?_
  rintro e_ w' ⟨v', rfl, hr, hg, hat⟩
  have hnew := hback (xs' := xs.zipIdx.take i ++ ((⟨[], false⟩ : S37), xs.length) :: xs.zipIdx.drop i) (by rw [ins_len _ _ _ (by omega), ins_len _ _ _ (by omega), hl, hz]) hr hg hat (ins_moved (q := fun y c => ∀ okq, (Kd.tag f k37).M w' base okq y c) (hl.trans hz.symm) (by omega) (fun okq => hmk w' _))
  have hs := S_pairs hnew (fun a b x y k ha hb => by
    rw [ins_at _ _ _ (by omega)] at ha hb
    have hzip : ∀ (m : Nat) (q : S37), xs.zipIdx[m]? = some (q, k) → k = m ∧ m < xs.length := fun m q hm => by
      have hlt := (List.getElem?_eq_some_iff.1 hm).1
      rw [hz] at hlt
      rw [List.getElem?_zipIdx, Nat.zero_add] at hm
      obtain ⟨_, _, e⟩ := Option.map_eq_some_iff.1 hm
      injection e with _ e
      exact ⟨e.symm, hlt⟩
    split at ha <;> split at hb
    · have h1 := hzip _ _ ha; have h2 := hzip _ _ hb; omega
    · split at hb
      · have h1 := hzip _ _ ha
        injection hb with hb
        injection hb with _ hb
        omega
      · have h1 := hzip _ _ ha; have h2 := hzip _ _ hb; omega
    · split at ha
      · have h2 := hzip _ _ hb
        injection ha with ha
        injection ha with _ ha
        omega
      · have h1 := hzip _ _ ha; have h2 := hzip _ _ hb; omega
    · split at ha <;> split at hb
      · omega
      · have h2 := hzip _ _ hb
        injection ha with ha
        injection ha with _ ha
        omega
      · have h1 := hzip _ _ ha
        injection hb with hb
        injection hb with _ hb
        omega
      · have h1 := hzip _ _ ha; have h2 := hzip _ _ hb; omega)
  refine ⟨v', rfl, ?_, hg, hat⟩
  rw [List.map_append, List.map_cons, List.map_take, List.map_drop, List.zipIdx_map_fst] at hs
  exact hs

/-- The place of the first of which p holds; -1, if there is none. -/
def ppIdx {α : Type} (p : α → Bool) (l : List α) : Int := match l.findIdx? p with
  | some i => (i : Int)
  | none => -1
theorem ppIdx_hit {α : Type} (p : α → Bool) (l : List α) (i : Nat) (h : i < l.length) (hp : p l[i] = true) (hn : ∀ j (hj : j < l.length), j < i → p l[j] = false) : ppIdx p l = (i : Int) := by
  unfold ppIdx
  have : l.findIdx? p = some i := by
    rw [List.findIdx?_eq_some_iff_getElem]
    exact ⟨h, hp, fun j hj => by simpa using hn j (by omega) hj⟩
  rw [this]
theorem ppIdx_miss {α : Type} (p : α → Bool) (l : List α) (hn : ∀ j (hj : j < l.length), p l[j] = false) : ppIdx p l = -1 := by
  unfold ppIdx
  have : l.findIdx? p = none := by
    rw [List.findIdx?_eq_none_iff]
    intro x hx
    obtain ⟨j, hj, rfl⟩ := List.getElem_of_mem hx
    exact hn j hj
  rw [this]
theorem keepc {W W' : World} {p : Addr} {v : Value} (h : W.cell? p = some v) (hb : Below W.heap.size W W') : W'.cell? p = some v := (hb.cell (World.block_lt_of_cell? W _ h)).trans h
theorem first_block (W X : World) (o : Obj) (h : X.heap = W.heap.push o) : X.heap[W.heap.size]? = some o := by rw [h]; simp
theorem alloc_cell {W : World} {C : Nat} {o : Obj} (h : W.heap[C]? = some o) : ∀ (o' : Obj) (i : Nat), (W.alloc o').cell? ⟨C, i, none⟩ = W.cell? ⟨C, i, none⟩ := fun o' i => (below_alloc (Below.refl _ W) o').cell (p := ⟨C, i, none⟩) (blk_lt h)
theorem blk_new2 (w : World) (a b : Obj) : ((w.alloc a).alloc b).heap[w.heap.size + 1]? = some b := by
  have h := blk_new (w.alloc a) b
  simpa using h

/-- A world in which all that w has stands as it stands in w. -/
structure Ext (w : World) where
  world : World
  below : Below w.heap.size w world
instance (w : World) : Inhabited (Ext w) := ⟨⟨w, Below.refl _ w⟩⟩
theorem Ext.cell {w : World} {p : Addr} {v : Value} (h : w.cell? p = some v) : ∀ u : Ext w, u.world.cell? p = some v := fun u => keepc h u.below
theorem Calls.ext {P : Program} {f : FuncId} {args : Array Value} {w : World} {u : Ext w} {v : Value} (h : Calls P f args u.world fun e w' => e = .returned v ∧ Below u.world.heap.size u.world w') : Calls P f args u.world fun e w'' => e = .returned v ∧ ∃ u' : Ext w, w'' = u'.world :=
  h.mono fun _ w' ⟨he, hb⟩ => ⟨he, ⟨w', below_step u.below hb⟩, rfl⟩
theorem Calls.ext0 {P : Program} {f : FuncId} {args : Array Value} {w : World} {u : Ext w} {v : Value} (h : Calls P f args u.world fun e w' => e = .returned v ∧ Drawn0 u.world w') : Calls P f args u.world fun e w'' => e = .returned v ∧ ∃ u' : Ext w, w'' = u'.world :=
  h.mono fun _ w' ⟨he, hb⟩ => ⟨he, ⟨w', below_step u.below hb.below⟩, rfl⟩
/-- A region of open order whose operations read, or call what makes memory at most: walked once, in the order of the text. -/
theorem region_ext {P : Program} {id : Nat} {Q : Exit → Act → World → Prop} {a : Act} {w : World} {l : List Oper} (hm : P.follows .mixedOrders = true) (hB : Region.lexB .any l.toArray = true)
    (h : wpQuiet P l.toArray (fun w' => ∃ u : Ext w, w' = u.world) (fun a' => ∀ w', (∃ u : Ext w, w' = u.world) → Q .normal a' w') l a) : (Code.region id l.toArray true).wp P Q a w :=
  wp_region_quiet (C := fun w' => ∃ u : Ext w, w' = u.world) hm hB ⟨⟨_, below_drew1 (Below.refl _ w)⟩, rfl⟩ (by simpa using h)
/-- The walk's world, told by what is known of it. -/
theorem wp_letter {P : Program} {c : Code} {Q : Exit → Act → World → Prop} {a : Act} {W : World} (F : World → Prop) (hF : F W) (h : ∀ W0, F W0 → c.wp P Q a W0) : c.wp P Q a W := h W hF

/-- A row may come at the place. -/
def rowP (hd ft : Int) (rows : List S37) (pl : Int) : Prop := (hd ≤ pl ∧ pl ≤ (rows.length : Int) - ft) ∧ ¬ ((rows.length : Int) = 8)
instance (hd ft : Int) (rows : List S37) (pl : Int) : Decidable (rowP hd ft rows pl) := by unfold rowP; infer_instance
def rowRows (rows : List S37) (pl : Int) : List S37 := rows.take pl.toNat ++ (⟨[], false⟩ : S37) :: rows.drop pl.toNat
def clo_Row.T3 : Bool × List (List Nat × List Nat) := (true, [([], []), ([], []), ([1], [1]), ([2], [2]), ([3], [3]), ([], []), ([], []), ([6], [6]), ([4, 5, 7], [4, 5, 7]), ([0, 0, 1, 2, 3, 4, 5, 6, 7, 8], [0]), ([9, 0, 1, 2, 3, 4, 5, 6, 7, 8], [9]), ([10, 8, 8, 0, 1, 2, 3, 4, 5, 6, 7, 8], [8, 10])])
def clo_Row.B3 : List Nat := [0, 0, 2, 6, 14, 0, 0, 64, 254, 511, 1023, 2047]
def clo_Row.L3 : List (Nat × Tmp) := [(0, 29), (1, 30), (2, 31), (3, 32), (4, 33), (5, 34), (6, 35), (7, 36), (8, 37), (9, 38), (10, 39)]
def clo_Row.O3 : List Nat := [0, 1, 2, 3, 4, 5, 6, 7, 8, 9, 10, 11]
theorem clo_Row.tab3 : rtab .any (opsOf Tryd.f18 3) = clo_Row.T3 := by kernel_rfl
theorem clo_Row.bits3 : waitsOk clo_Row.T3.2 clo_Row.B3 = true := by kernel_rfl
theorem clo_Row.base3 : baseOk clo_Row.T3.2 clo_Row.O3 = true := by kernel_rfl
theorem clo_Row.lof3 : (lof clo_Row.T3.2.length clo_Row.O3 (fun _ => false) == List.replicate clo_Row.T3.2.length false && clo_Row.O3.length == clo_Row.T3.2.length) = true := by kernel_rfl
theorem clo_Row.ents3 : chkL (opsOf Tryd.f18 3) clo_Row.O3 clo_Row.L3 = true := by kernel_rfl
theorem clo_Row.last3 : lastOk clo_Row.B3 clo_Row.O3 11 = true := by kernel_rfl
/-- What is known of the values of the region that puts the row. -/
def clo_Row.P3 (w5 : World) (base : Nat) (l' : List S37) (V : Nat → Value) : Nat → Value → World → Prop
  | 7, v, W => ∃ g, v = .slice (some ⟨g, 0, none⟩) 1 1 ∧ w5.heap.size ≤ g ∧ W.heap[g]? = some (.cells #[.slice none 0 0, .bool false] 37 (0, 0))
  | 8, v, W => ∃ A c, v = .slice A l'.length c ∧ Kd.S k37 37 W base (fun _ => True) (.slice A l'.length c) l'
  | j, v, _ => v = V j
def clo_Row.V3 (b i : Nat) (A : Option Addr) (n c : Nat) : Nat → Value
  | 0 | 1 | 2 | 9 => .pointer (some ⟨b, 0, none⟩)
  | 3 | 10 => .pointer (some ⟨b, 3, none⟩)
  | 4 => .slice A n c
  | 5 => .int .i64 (i : Int)
  | 6 => .agg #[.slice none 0 0, .bool false]
  | _ => undef
set_option maxHeartbeats 4000000 in
set_option maxRecDepth 100000 in
/-- EdtRow's own closure. -/
theorem clo_Row (pl : Int) (ba : Nat) (cols : List S52) (hd ft : Int) (rows : List S37) (gp : Int) (q : Bool) (W0 : World) (h3 : W0.cell? ⟨ba, 0, none⟩ = some (.int .i64 pl)) (hq : decide (rowP hd ft rows pl) = q) (hbig : 0 ≤ hd ∧ 0 ≤ ft ∧ ft ≤ (rows.length : Int) ∧ rows.length < 1000000) :
    TabFn 18 #[.pointer (some ⟨ba, 0, none⟩)] W0 cols hd ft rows gp cols hd ft (if q = true then rowRows rows pl else rows) gp q := by
  intro W b vc vr hb hX hWb hrc hsr
  obtain ⟨A, c, rfl⟩ := Kd.R_slice (Kd.S_R hsr)
  have HX := Aside0.mk hX
  have HRC := Aside0.mk hrc
  have HSR := Aside0.mk hsr
  have HB := Aside0.mk hb
  have hx3 := (hb.cell (World.block_lt_of_cell? W0 _ h3)).trans h3
  have X3 := Aside0.mk hx3
  have X1 := Aside0.mk (show W.cell? ⟨b, 1, none⟩ = some (Value.int .i64 hd) from (blk_cell hX 1).trans rfl)
  have X2 := Aside0.mk (show W.cell? ⟨b, 2, none⟩ = some (Value.int .i64 ft) from (blk_cell hX 2).trans rfl)
  have X4 := Aside0.mk (show W.cell? ⟨b, 3, none⟩ = some (Value.slice A rows.length c) from (blk_cell hX 3).trans rfl)
  have L3 := Aside0.mk (show ba < W0.heap.size from World.block_lt_of_cell? W0 _ h3)
  obtain ⟨hb1, hb2, hb3, hb4⟩ := hbig
  have w1 : wrap64 ((rows.length : Int) - ft) = (rows.length : Int) - ft := by unfold wrap64; omega
  have A1 := Aside0.mk (in_dec pl hd ((rows.length : Int) - ft))
  have GNA := Aside0.mk (show b ≠ ba from by have := L3.out; omega)
  clear hX hrc hsr hb h3 hx3
  have HCON : Aside0 (∀ (W9 : World), Below W.heap.size W W9 → ∃ vc' vr', W9.heap[b]? = some (.cells (l3A vc' vr' hd ft gp) 26 (0, 0)) ∧ Kd.R k52 52 W9 W0.heap.size (fun _ => True) vc' cols ∧ Kd.S k37 37 W9 W0.heap.size (fun _ => True) vr' rows ∧ Below W0.heap.size W0 W9 ∧
      ∀ (j : Nat) (cs : Array Value), ¬ j = b → W.heap[j]? = some (.cells cs 26 (0, 0)) → W9.heap[j]? = some (.cells cs 26 (0, 0))) :=
    ⟨fun W9 hb3 => ⟨_, _, blk_below HX.out hb3, Kd.R_below HRC.out hb3, Kd.S_below HSR.out hb3, below_step HB.out hb3, fun j cs _ hj => blk_below hj hb3⟩⟩
  have x1 := Ext.cell X1.out
  have x2 := Ext.cell X2.out
  have x3 := Ext.cell X3.out
  have x4 := Ext.cell X4.out
  by_cases hsec : hd ≤ pl ∧ pl ≤ (rows.length : Int) - ft
  rotate_left
  · obtain rfl : false = q := by rw [← hq]; exact (decide_eq_false (fun h => hsec h.1)).symm
    rw [decide_eq_false hsec] at A1
    clear hsec hq
    go_enter Tryd.func18, Tryd.ntmps18
    go_upto_region 1 with (fail)
    refine region_ext (by kernel_rfl) (by kernel_rfl) ?_
    repeat (go_big_quiet_step (first | (go_at_call 19; exact Calls.ext0 (impl_in.calls _ _ _ _ _ A1.out))))
    refine wpQuiet_nil ?_
    rintro W2 ⟨⟨_, hb2⟩, rfl⟩
    go_wp2
    go_ret
    exact ⟨rfl, HCON.out _ hb2⟩
  rw [decide_eq_true hsec] at A1
  by_cases hfive : (rows.length : Int) = 8
  · obtain rfl : false = q := by rw [← hq]; exact (decide_eq_false (fun h => h.2 hfive)).symm
    have h5 : ((rows.length : Int) == 8) = true := by rw [beq_iff_eq]; exact hfive
    clear hsec hq hfive
    go_enter Tryd.func18, Tryd.ntmps18
    go_upto_region 1 with (fail)
    refine region_ext (by kernel_rfl) (by kernel_rfl) ?_
    repeat (go_big_quiet_step (first | (go_at_call 19; exact Calls.ext0 (impl_in.calls _ _ _ _ _ A1.out))))
    refine wpQuiet_nil ?_
    rintro W2 ⟨⟨_, hb2⟩, rfl⟩
    go_wp2
    go_ret
    exact ⟨rfl, HCON.out _ hb2⟩
  obtain rfl : true = q := by rw [← hq]; exact (decide_eq_true ⟨hsec, hfive⟩).symm
  obtain ⟨i, rfl⟩ : ∃ i : Nat, pl = (i : Int) := ⟨pl.toNat, by omega⟩
  have hil : i ≤ rows.length := by omega
  clear hsec hq
  go_enter Tryd.func18, Tryd.ntmps18
  go_upto_region 1 with (fail)
  refine region_ext (by kernel_rfl) (by kernel_rfl) ?_
  repeat (go_big_quiet_step (first | (go_at_call 19; exact Calls.ext0 (impl_in.calls _ _ _ _ _ A1.out))))
  refine wpQuiet_nil ?_
  rintro W5 ⟨⟨_, hb5⟩, rfl⟩
  go_upto_region 3 with (fail)
  clear x1 x2 x3 x4
  have hS5 := Kd.S_below HSR.out hb5
  have hbox := blk_below HX.out hb5
  have NA := Aside0.mk (show some ba ≠ (Value.slice A rows.length c).ownBlock from fun e => by have := Kd.S_base hS5 ba e.symm; have := L3.out; omega)
  have NB := Aside0.mk (Kd.S_ne hS5 hbox (by decide))
  have HS5 := Aside0.mk hS5
  have HBX := Aside0.mk hbox
  have HB5 := Aside0.mk (below_step HB.out hb5)
  have HRC5 := Aside0.mk (Kd.R_below HRC.out hb5)
  have HBZ := Aside0.mk HB5.out.size
  have s1 : W5.cell? ⟨ba, 0, none⟩ = some (.int .i64 (i : Int)) := keepc (W := W) X3.out hb5
  have s2 : W5.cell? ⟨b, 3, none⟩ = some (.slice A rows.length c) := keepc (W := W) X4.out hb5
  obtain ⟨l', hl'⟩ : ∃ l', l' = rows.take i ++ (⟨[], false⟩ : S37) :: rows.drop i := ⟨_, rfl⟩
  have HL' := Aside0.mk hl'
  have S1 := Aside0.mk s1
  have S2 := Aside0.mk s2
  have hrowlt := Kd.S_lt hS5
  clear hS5 hbox hl' s1 s2
  refine region_envF (T := clo_Row.T3) (B := clo_Row.B3) clo_Row.O3 clo_Row.L3 11 (clo_Row.P3 W5 W0.heap.size l' (clo_Row.V3 b i A rows.length c))
    (fun bb W => W5.grownBy W (Value.slice A rows.length c).ownBlock ∧ (bb 8 = false → Below W5.heap.size W5 W))
    (fun _ W => ∃ w1 A' c', Put b (l3A vc (.slice A' l'.length c') hd ft gp) 26 w1 W ∧ W5.grownBy w1 (Value.slice A rows.length c).ownBlock ∧ Kd.S k37 37 w1 W0.heap.size (fun _ => True) (.slice A' l'.length c') l')
    rfl clo_Row.tab3 clo_Row.bits3 clo_Row.base3 clo_Row.lof3 clo_Row.ents3 clo_Row.last3 ⟨grown_of_below (below_drew1 (Below.refl _ _)) _, fun _ => below_drew1 (Below.refl _ _)⟩ ?_ ?_ ?_
  · have hst : ∀ j v W W', j ∉ [8] → clo_Row.P3 W5 W0.heap.size l' (clo_Row.V3 b i A rows.length c) j v W → W.grownBy W' (Value.slice A rows.length c).ownBlock → clo_Row.P3 W5 W0.heap.size l' (clo_Row.V3 b i A rows.length c) j v W' := by
      intro j v W W' hj h hg
      unfold clo_Row.P3 at h ⊢
      split at h
      · obtain ⟨g, e, hlt, hb⟩ := h
        exact ⟨g, e, hlt, blk_grown hb hg (fun e' => by have := hrowlt g e'.symm; omega)⟩
      · exact absurd (by simp) hj
      · exact h
    refine alln_cons (EStepF.pure fun b_ E a' W ha hG hP => ?_) ?_
    · have s0 : a'.tmps[0]? = some (.pointer (some ⟨b, 0, none⟩)) := (slot_off ha rfl).trans rfl
      exact ⟨_, .pointer (some ⟨b, 0, none⟩), rfl, rfl, by clear ha hG hP; go_simp; try first | rfl | exact i64_w _, rfl, hG⟩
    refine alln_cons (EStepF.pure fun b_ E a' W ha hG hP => ?_) ?_
    · have s0 : a'.tmps[0]? = some (.pointer (some ⟨b, 0, none⟩)) := (slot_off ha rfl).trans rfl
      exact ⟨_, .pointer (some ⟨b, 0, none⟩), rfl, rfl, by clear ha hG hP; go_simp; try first | rfl | exact i64_w _, rfl, hG⟩
    refine alln_cons (EStepF.pure fun b_ E a' W ha hG hP => ?_) ?_
    · have s30 : a'.tmps[30]? = some (.pointer (some ⟨b, 0, none⟩)) := slotv ha (hP 1 rfl).1 rfl (hP 1 rfl).2
      exact ⟨_, .pointer (some ⟨b, 0, none⟩), rfl, rfl, by clear ha hG hP; go_simp; try first | rfl | exact i64_w _, rfl, hG⟩
    refine alln_cons (EStepF.pure fun b_ E a' W ha hG hP => ?_) ?_
    · have s31 : a'.tmps[31]? = some (.pointer (some ⟨b, 0, none⟩)) := slotv ha (hP 2 rfl).1 rfl (hP 2 rfl).2
      exact ⟨_, .pointer (some ⟨b, 3, none⟩), rfl, rfl, by clear ha hG hP; go_simp; try first | rfl | exact i64_w _, rfl, hG⟩
    refine alln_cons (EStepF.pure fun b_ E a' W ha hG hP => ?_) ?_
    · have s32 : a'.tmps[32]? = some (.pointer (some ⟨b, 3, none⟩)) := slotv ha (hP 3 rfl).1 rfl (hP 3 rfl).2
      have hc := cell_grown hG.1 S2.out NB.out
      exact ⟨_, .slice A rows.length c, rfl, rfl, by clear ha hG hP; go_simp, rfl, hG⟩
    refine alln_cons (EStepF.pure fun b_ E a' W ha hG hP => ?_) ?_
    · have s1' : a'.tmps[1]? = some (.pointer (some ⟨ba, 0, none⟩)) := (slot_off ha rfl).trans rfl
      have hc := cell_grown hG.1 S1.out NA.out
      exact ⟨_, .int .i64 (i : Int), rfl, rfl, by clear ha hG hP; go_simp, rfl, hG⟩
    refine alln_cons (EStepF.pure fun b_ E a' W ha hG hP => ?_) ?_
    · exact ⟨_, .agg #[.slice none 0 0, .bool false], rfl, rfl, by clear ha hG hP; go_simp; try first | rfl | exact i64_w _, rfl, hG⟩
    refine alln_cons (EStepF.step [8] hst rfl fun b_ E a' W ha hG hP hoff hb => ?_) ?_
    · have s35 : a'.tmps[35]? = some (.agg #[.slice none 0 0, .bool false]) := slotv ha (hP 6 rfl).1 rfl (hP 6 rfl).2
      have hbl := hG.2 (hoff 8 rfl)
      exact ⟨_, .slice (some ⟨W.heap.size, 0, none⟩) 1 1, W.alloc (.cells #[.slice none 0 0, .bool false] 37), rfl, rfl, by clear ha hG hP hoff hb hbl; go_simp; try rfl, ⟨W.heap.size, rfl, hbl.size, blk_new W _⟩, grown_of_below (below_alloc (Below.refl _ _) _) _, grown_of_below (below_alloc hbl _) _, fun _ => below_alloc hbl _⟩
    refine alln_cons (EStepF.call [8] hst rfl Tryd.func20 (by kernel_rfl) rfl ⟨_, rfl, rfl, rfl⟩ fun b_ E a' W ha hG hP hoff hb => ⟨#[.slice A rows.length c, .int .i64 (i : Int), E 7], ?_, ?_⟩) ?_
    · have s33 : a'.tmps[33]? = some (.slice A rows.length c) := slotv ha (hP 4 rfl).1 rfl (hP 4 rfl).2
      have s34 : a'.tmps[34]? = some (.int .i64 (i : Int)) := slotv ha (hP 5 rfl).1 rfl (hP 5 rfl).2
      have s36 : a'.tmps[36]? = some (E 7) := slotv ha (hP 7 rfl).1 rfl rfl
      clear ha hG hP hoff hb
      simp [Act.eval, Array.getD_eq_getD_getElem?, s33, s34, s36]
    · obtain ⟨g, e7, hlt7, hb7⟩ := (hP 7 rfl).2
      rw [e7]
      have hbl := hG.2 hb
      refine (ins_rowS W W0.heap.size (.slice A rows.length c) rows g i (Kd.S_below HS5.out hbl) hil hb7 (fun e => by have := hrowlt g e.symm; omega) (Nat.le_trans HBZ.out hbl.size) hb4).mono ?_
      rintro e_ W6 ⟨v', rfl, hr6, hg6, hat6⟩
      rw [← HL'.out] at hr6
      obtain ⟨A3', c3', rfl⟩ := Kd.S_slice hr6
      exact ⟨_, rfl, ⟨A3', c3', rfl, hr6⟩, hg6, grown_step hbl hg6, fun h => (by rw [up_self] at h; cases h)⟩
    refine alln_cons (EStepF.pure fun b_ E a' W ha hG hP => ?_) ?_
    · have s29 : a'.tmps[29]? = some (.pointer (some ⟨b, 0, none⟩)) := slotv ha (hP 0 rfl).1 rfl (hP 0 rfl).2
      exact ⟨_, .pointer (some ⟨b, 0, none⟩), rfl, rfl, by clear ha hG hP; go_simp; try first | rfl | exact i64_w _, rfl, hG⟩
    refine alln_cons (EStepF.pure fun b_ E a' W ha hG hP => ?_) alln_last
    · have s38 : a'.tmps[38]? = some (.pointer (some ⟨b, 0, none⟩)) := slotv ha (hP 9 rfl).1 rfl (hP 9 rfl).2
      exact ⟨_, .pointer (some ⟨b, 3, none⟩), rfl, rfl, by clear ha hG hP; go_simp; try first | rfl | exact i64_w _, rfl, hG⟩
  · intro b_ E a' W ha hG hP hb
    have s39 : a'.tmps[39]? = some (.pointer (some ⟨b, 3, none⟩)) := slotv ha (hP 10 rfl (by decide)).1 rfl (hP 10 rfl (by decide)).2
    obtain ⟨A', c', h8, hS8⟩ := (hP 8 rfl (by decide)).2
    have s37 : a'.tmps[37]? = some (.slice A' l'.length c') := slotv ha (hP 8 rfl (by decide)).1 rfl h8
    have hxb := blk_grown HBX.out hG.1 NB.out
    have hp := Put.setRow (cs := l3A vc (.slice A' l'.length c') hd ft gp) hxb
    exact ⟨_, rfl, fun K hK => skip_ rfl rfl (exec_put 24 _ _ rfl b 3 (by simp [Act.eval, Array.getD_eq_getD_getElem?, s39]) (.slice A' l'.length c') (by simp [Act.eval, Array.getD_eq_getD_getElem?, s37]) 26 _ (l3A vc (.slice A' l'.length c') hd ft gp) hxb (by kernel_rfl) rfl rfl rfl) (hK.out undef _ ⟨W, A', c', hp, hG.1, hS8⟩)⟩
  · intro E b_ W9 hall hF
    obtain ⟨W6, A', c', hp, hgW, hr6⟩ := hF
    rw [putSel_all (fun x hx => hall x.1 (by revert x; decide))]
    simp only [clo_Row.L3, List.foldl, Act.put, List.setIfInBounds_toArray, List.set_cons_zero, List.set_cons_succ]
    clear hall
    go_wp2
    go_ret
    have hput : rowRows rows (i : Int) = l' := by
      unfold rowRows
      rw [HL'.out, Int.toNat_natCast]
    rw [hput]
    have hgf2 := blk_grown HBX.out hgW NB.out
    have hbW := pw_below_grown HB5.out _ HBZ.out hgW (fun k hk => Kd.S_base HS5.out k hk)
    exact ⟨rfl, _, _, hp.blk, R_put (Kd.R_over' HRC5.out (Kd.S_typed HS5.out) (by decide) hgW) hgf2 hp (by decide), S_put hr6 hgf2 hp (by decide), pw_below_grown hbW _ (Nat.le_trans HBZ.out hgW.size) hp.grown (fun k hk => by injection hk with hk; omega), fun j cs hj hT => hp.keep (blk_grown (blk_below hT hb5) hgW (Kd.S_ne HS5.out (blk_below hT hb5) (by decide))) hj⟩

/-- The table as it was handed over, and the box of the answer. -/
structure E3 (w : World) (pa : Array Value) (W : World) : Prop where
  bl : Below w.heap.size w W
  pb : W.heap[w.heap.size]? = some (.cells pa 26 (0, 0))
  zb : W.heap[w.heap.size + 1]? = some (.cells (l3A (.slice none 0 0) (.slice none 0 0) 0 0 0) 26 (0, 0))
theorem E3.size {w W : World} {pa : Array Value} (h : E3 w pa W) : w.heap.size + 2 ≤ W.heap.size := Nat.succ_le_of_lt (blk_lt h.zb)
theorem E3.below {w W W' : World} {pa : Array Value} (h : E3 w pa W) (hb : Below W.heap.size W W') : E3 w pa W' := ⟨below_step h.bl hb, (hb.block _ (blk_lt h.pb)).trans h.pb, (hb.block _ (blk_lt h.zb)).trans h.zb⟩
theorem E3.alloc {w W : World} {pa : Array Value} (h : E3 w pa W) (o : Obj) : E3 w pa (W.alloc o) := ⟨below_alloc h.bl o, blk_alloc h.pb o, blk_alloc h.zb o⟩
/-- There is a cell at the place. -/
def hasP (rows : List S37) (row pl : Int) : Prop := (0 ≤ row ∧ row ≤ (rows.length : Int) - 1) ∧ 0 ≤ pl ∧ pl ≤ ((rd_T37 rows row).f0.length : Int) - 1
instance (rows : List S37) (row pl : Int) : Decidable (hasP rows row pl) := by unfold hasP; infer_instance

/-! ### impl_TblCol_ok: function 28 -/
def impl_TblCol_ok.f (a0_0 : Int) (a0_1 : Int) : Option (Bool) := if a0_0 = 0 then (some (a0_1 == 0)) else (if a0_0 = 1 then ((impl_in.f a0_1 0 60).bind fun t252 => (some t252)) else (if a0_0 = 2 then ((impl_in.f a0_1 1 100).bind fun t253 => (some t253)) else (some false)))
set_option maxHeartbeats 8000000 in
set_option maxRecDepth 100000 in
theorem impl_TblCol_ok.calls (a0_0 : Int) (a0_1 : Int) (r : Bool) (w : World) (h : impl_TblCol_ok.f a0_0 a0_1 = some r) :
    Calls Tryd.prog 28 #[.agg #[.int .i64 a0_0, .int .i64 a0_1]] w fun e w' => e = .returned (.bool r) ∧ Below w.heap.size w w' := by
  have hu52 := Tryd.underlying52
  have HB := Aside0.mk (Below.refl w.heap.size w)
  have H : (if a0_0 = 0 then (some (a0_1 == 0)) else (if a0_0 = 1 then ((impl_in.f a0_1 0 60).bind fun t252 => (some t252)) else (if a0_0 = 2 then ((impl_in.f a0_1 1 100).bind fun t253 => (some t253)) else (some false)))) = some r := h
  clear h
  by_cases c2 : a0_0 = 0
  · rw [if_pos c2] at H
    have c2b0 : (a0_0 == 0) = true := beq_iff_eq.mpr c2
    have c2b1 : (a0_0 != 0) = false := bne_eq_false_iff_eq.mpr c2
    clear c2
    obtain rfl := Option.some.inj H
    go_enter Tryd.func28, Tryd.ntmps28
    go_wp2_with (first | ((with_reducible refine gate_dst (N := 1) rfl ?_); refine box_event ?hg (N := 1) ?hd (cs := #[.int .i64 a0_0, .int .i64 a0_1]) (t := 52) ?hr ?_; (case hd => rfl); (case hg => rfl); (case hr => first | (go_simp; done) | (go_simp; rfl)); intro gb251 hg w3 hbox hb; have n0_ := Aside0.mk (below_step (by repeat (first | (with_reducible first | exact HB.out | apply below_alloc | apply pw_below_drewN | apply below_drew1) | exact HB.out)) hb); have n1_ := Aside0.mk (hbox); have n2_ := Aside0.mk ((by rw [hg]; exact (below_size (by repeat (first | (with_reducible first | exact HB.out | apply below_alloc | apply pw_below_drewN | apply below_drew1) | exact HB.out))) : w.heap.size ≤ gb251)); have n3_ := Aside0.mk ((by rw [hg]; exact (below_size (by repeat (first | (with_reducible first | exact HB.out | apply below_alloc | apply pw_below_drewN | apply below_drew1) | exact HB.out))) : w.heap.size ≤ gb251)); clear HB; have HB := n0_; have BK251 := n1_; have GW251 := n2_; have GE251 := n3_; clear n0_ n1_ n2_ n3_; clear hb hbox hg; have hcz4_0 : w3.cell? ⟨gb251, 0, none⟩ = some (.int .i64 a0_0) := (blk_cell BK251.out 0).trans rfl; have hcz4_1 : w3.cell? ⟨gb251, 1, none⟩ = some (.int .i64 a0_1) := (blk_cell BK251.out 1).trans rfl; have hfz4_0 := blk_frozen BK251.out 0; have hfz4_1 := blk_frozen BK251.out 1))
    go_ret
    exact ⟨by first | rfl | (simp [IntKind.wrap_i64, wrap64]; done) | (simp [errW_none, errW_some] <;> rfl) | (simp [*, errW_none, errW_some] <;> rfl), by repeat (first | (with_reducible first | exact HB.out | apply below_alloc | apply pw_below_drewN | apply below_drew1 | refine below_set ?_ GE251.out) | exact HB.out)⟩
  · rw [if_neg c2] at H
    have c2b0 : (a0_0 == 0) = false := beq_eq_false_iff_ne.mpr c2
    have c2b1 : (a0_0 != 0) = true := bne_iff_ne.mpr c2
    by_cases c5 : a0_0 = 1
    · rw [if_pos c5] at H
      have c5b0 : (a0_0 == 1) = true := beq_iff_eq.mpr c5
      have c5b1 : (a0_0 != 1) = false := bne_eq_false_iff_eq.mpr c5
      clear c5
      replace H := Option.bind_eq_some_iff.mp H
      obtain ⟨t252, A60, H⟩ := H
      replace H : (some t252) = some r := H
      have A6 := Aside0.mk A60
      clear A60
      obtain rfl := Option.some.inj H
      go_enter Tryd.func28, Tryd.ntmps28
      go_wp2_with (first | ((with_reducible refine gate_dst (N := 1) rfl ?_); refine box_event ?hg (N := 1) ?hd (cs := #[.int .i64 a0_0, .int .i64 a0_1]) (t := 52) ?hr ?_; (case hd => rfl); (case hg => rfl); (case hr => first | (go_simp; done) | (go_simp; rfl)); intro gb251 hg w7 hbox hb; have n0_ := Aside0.mk (below_step (by repeat (first | (with_reducible first | exact HB.out | apply below_alloc | apply pw_below_drewN | apply below_drew1) | exact HB.out)) hb); have n1_ := Aside0.mk (hbox); have n2_ := Aside0.mk ((by rw [hg]; exact (below_size (by repeat (first | (with_reducible first | exact HB.out | apply below_alloc | apply pw_below_drewN | apply below_drew1) | exact HB.out))) : w.heap.size ≤ gb251)); have n3_ := Aside0.mk ((by rw [hg]; exact (below_size (by repeat (first | (with_reducible first | exact HB.out | apply below_alloc | apply pw_below_drewN | apply below_drew1) | exact HB.out))) : w.heap.size ≤ gb251)); clear HB; have HB := n0_; have BK251 := n1_; have GW251 := n2_; have GE251 := n3_; clear n0_ n1_ n2_ n3_; clear hb hbox hg; have hcz8_0 : w7.cell? ⟨gb251, 0, none⟩ = some (.int .i64 a0_0) := (blk_cell BK251.out 0).trans rfl; have hcz8_1 : w7.cell? ⟨gb251, 1, none⟩ = some (.int .i64 a0_1) := (blk_cell BK251.out 1).trans rfl; have hfz8_0 := blk_frozen BK251.out 0; have hfz8_1 := blk_frozen BK251.out 1) | ((with_reducible refine gate_callee (f := 19) rfl ?_); refine goesL_ (some 14) rfl rfl Tryd.func19 (by kernel_rfl) rfl #[.int .i64 a0_1, .int .i64 0, .int .i64 60] rfl (by (try simp only [List.map_toArray, List.map_cons, List.map_nil]); first | done | rfl | (simp only [List.length_drop, List.length_take]; rfl)) ?_; (with_reducible refine (impl_in.calls a0_1 0 60 t252 _ A6.out).mono ?_); rintro e w' ⟨rfl, ⟨nd, rfl⟩⟩; refine ⟨_, rfl, ?_⟩))
      go_ret
      exact ⟨by first | rfl | (simp [IntKind.wrap_i64, wrap64]; done) | (simp [errW_none, errW_some] <;> rfl) | (simp [*, errW_none, errW_some] <;> rfl), by repeat (first | (with_reducible first | exact HB.out | apply below_alloc | apply pw_below_drewN | apply below_drew1 | refine below_set ?_ GE251.out) | exact HB.out)⟩
    · rw [if_neg c5] at H
      have c5b0 : (a0_0 == 1) = false := beq_eq_false_iff_ne.mpr c5
      have c5b1 : (a0_0 != 1) = true := bne_iff_ne.mpr c5
      by_cases c9 : a0_0 = 2
      · rw [if_pos c9] at H
        have c9b0 : (a0_0 == 2) = true := beq_iff_eq.mpr c9
        have c9b1 : (a0_0 != 2) = false := bne_eq_false_iff_eq.mpr c9
        clear c9
        replace H := Option.bind_eq_some_iff.mp H
        obtain ⟨t253, A100, H⟩ := H
        replace H : (some t253) = some r := H
        have A10 := Aside0.mk A100
        clear A100
        obtain rfl := Option.some.inj H
        go_enter Tryd.func28, Tryd.ntmps28
        go_wp2_with (first | ((with_reducible refine gate_dst (N := 1) rfl ?_); refine box_event ?hg (N := 1) ?hd (cs := #[.int .i64 a0_0, .int .i64 a0_1]) (t := 52) ?hr ?_; (case hd => rfl); (case hg => rfl); (case hr => first | (go_simp; done) | (go_simp; rfl)); intro gb251 hg w11 hbox hb; have n0_ := Aside0.mk (below_step (by repeat (first | (with_reducible first | exact HB.out | apply below_alloc | apply pw_below_drewN | apply below_drew1) | exact HB.out)) hb); have n1_ := Aside0.mk (hbox); have n2_ := Aside0.mk ((by rw [hg]; exact (below_size (by repeat (first | (with_reducible first | exact HB.out | apply below_alloc | apply pw_below_drewN | apply below_drew1) | exact HB.out))) : w.heap.size ≤ gb251)); have n3_ := Aside0.mk ((by rw [hg]; exact (below_size (by repeat (first | (with_reducible first | exact HB.out | apply below_alloc | apply pw_below_drewN | apply below_drew1) | exact HB.out))) : w.heap.size ≤ gb251)); clear HB; have HB := n0_; have BK251 := n1_; have GW251 := n2_; have GE251 := n3_; clear n0_ n1_ n2_ n3_; clear hb hbox hg; have hcz12_0 : w11.cell? ⟨gb251, 0, none⟩ = some (.int .i64 a0_0) := (blk_cell BK251.out 0).trans rfl; have hcz12_1 : w11.cell? ⟨gb251, 1, none⟩ = some (.int .i64 a0_1) := (blk_cell BK251.out 1).trans rfl; have hfz12_0 := blk_frozen BK251.out 0; have hfz12_1 := blk_frozen BK251.out 1) | ((with_reducible refine gate_callee (f := 19) rfl ?_); refine goesL_ (some 19) rfl rfl Tryd.func19 (by kernel_rfl) rfl #[.int .i64 a0_1, .int .i64 1, .int .i64 100] rfl (by (try simp only [List.map_toArray, List.map_cons, List.map_nil]); first | done | rfl | (simp only [List.length_drop, List.length_take]; rfl)) ?_; (with_reducible refine (impl_in.calls a0_1 1 100 t253 _ A10.out).mono ?_); rintro e w' ⟨rfl, ⟨nd, rfl⟩⟩; refine ⟨_, rfl, ?_⟩))
        go_ret
        exact ⟨by first | rfl | (simp [IntKind.wrap_i64, wrap64]; done) | (simp [errW_none, errW_some] <;> rfl) | (simp [*, errW_none, errW_some] <;> rfl), by repeat (first | (with_reducible first | exact HB.out | apply below_alloc | apply pw_below_drewN | apply below_drew1 | refine below_set ?_ GE251.out) | exact HB.out)⟩
      · rw [if_neg c9] at H
        have c9b0 : (a0_0 == 2) = false := beq_eq_false_iff_ne.mpr c9
        have c9b1 : (a0_0 != 2) = true := bne_iff_ne.mpr c9
        obtain rfl := Option.some.inj H
        go_enter Tryd.func28, Tryd.ntmps28
        go_wp2_with (first | ((with_reducible refine gate_dst (N := 1) rfl ?_); refine box_event ?hg (N := 1) ?hd (cs := #[.int .i64 a0_0, .int .i64 a0_1]) (t := 52) ?hr ?_; (case hd => rfl); (case hg => rfl); (case hr => first | (go_simp; done) | (go_simp; rfl)); intro gb251 hg w13 hbox hb; have n0_ := Aside0.mk (below_step (by repeat (first | (with_reducible first | exact HB.out | apply below_alloc | apply pw_below_drewN | apply below_drew1) | exact HB.out)) hb); have n1_ := Aside0.mk (hbox); have n2_ := Aside0.mk ((by rw [hg]; exact (below_size (by repeat (first | (with_reducible first | exact HB.out | apply below_alloc | apply pw_below_drewN | apply below_drew1) | exact HB.out))) : w.heap.size ≤ gb251)); have n3_ := Aside0.mk ((by rw [hg]; exact (below_size (by repeat (first | (with_reducible first | exact HB.out | apply below_alloc | apply pw_below_drewN | apply below_drew1) | exact HB.out))) : w.heap.size ≤ gb251)); clear HB; have HB := n0_; have BK251 := n1_; have GW251 := n2_; have GE251 := n3_; clear n0_ n1_ n2_ n3_; clear hb hbox hg; have hcz14_0 : w13.cell? ⟨gb251, 0, none⟩ = some (.int .i64 a0_0) := (blk_cell BK251.out 0).trans rfl; have hcz14_1 : w13.cell? ⟨gb251, 1, none⟩ = some (.int .i64 a0_1) := (blk_cell BK251.out 1).trans rfl; have hfz14_0 := blk_frozen BK251.out 0; have hfz14_1 := blk_frozen BK251.out 1))
        go_ret
        exact ⟨by first | rfl | (simp [IntKind.wrap_i64, wrap64]; done) | (simp [errW_none, errW_some] <;> rfl) | (simp [*, errW_none, errW_some] <;> rfl), by repeat (first | (with_reducible first | exact HB.out | apply below_alloc | apply pw_below_drewN | apply below_drew1 | refine below_set ?_ GE251.out) | exact HB.out)⟩

/-! ### impl_TxtOk: function 25 (by hand) -/
def impl_TxtOk.f (a0 : ByteArray) : Option Bool := if a0.size < 4294967281 then some (Txt.ppTxtOk a0) else none
set_option maxHeartbeats 2000000 in
set_option maxRecDepth 100000 in
theorem impl_TxtOk.calls (a0 : ByteArray) (r : Bool) (w : World) (hM : Txt.MLen w) (h : impl_TxtOk.f a0 = some r) :
    Calls Tryd.prog 25 #[.string a0] w fun e w' => e = .returned (.bool r) ∧ Below w.heap.size w w' := by
  unfold impl_TxtOk.f at h
  split at h
  · rename_i hs
    have hr := Option.some.inj h
    have HM := Aside0.mk hM
    have HS := Aside0.mk hs
    clear hM hs h
    by_cases h0 : a0.toList.isEmpty = true
    · have e0 : a0.toList.isEmpty = true := h0
      have er : Txt.ppTxtOk a0 = true := by unfold Txt.ppTxtOk; rw [e0]; rfl
      rw [er] at hr
      subst hr
      clear er h0
      go_enter Tryd.func25, Tryd.ntmps25
      go_wp2
      go_ret
      exact ⟨rfl, Below.refl _ _⟩
    · have e0 : a0.toList.isEmpty = false := Bool.eq_false_iff.2 h0
      have er : Txt.ppTxtOk a0 = ((Txt.ppWords a0).all Txt.ppWordOk && decide ((a0.size : Int) ≤ 30)) := by unfold Txt.ppTxtOk; rw [e0]; rfl
      rw [er] at hr
      clear er h0
      obtain ⟨L, hL⟩ : ∃ L, Txt.ppWords a0 = L := ⟨_, rfl⟩
      have hsp := Txt.split_sp a0 w HM.out HS.out
      have hsz : ∀ x ∈ L, x.size ≤ 9223372036854775807 := fun x hx => by
        have := Txt.ppWords_le a0 x (hL ▸ hx)
        have := HS.out
        omega
      have hln : L.length ≤ 4294967281 := by
        have := Txt.ppWords_len a0
        have := HS.out
        rw [hL] at *
        omega
      have HLN := Aside0.mk hln
      clear hln
      rw [hL] at hsp hr
      have HE := Aside0.mk hr
      clear hr
      have HSP := Aside0.mk hsp
      have HSZ := Aside0.mk hsz
      clear hsp hsz hL
      go_enter Tryd.func25, Tryd.ntmps25
      go_wp2_with (go_at_call 42; (with_reducible refine HSP.out.mono ?_); rintro e w' ⟨rfl, rfl⟩)
      go_loopg [10] L.length (fun gg v10 wr => ∃ kk : Nat, kk ≤ L.length ∧ L.length - kk ≤ gg ∧ v10 = .int .i64 kk ∧ Aside0 (Below w.heap.size w wr) ∧ Aside0 (wr.heap[w.heap.size]? = some (.cells (L.map Value.string).toArray 9 (0, 0))) ∧ Aside0 (∀ j (h : j < L.length), j < kk → Txt.ppWordOk L[j] = true))
      case atStart => exact ⟨0, Nat.zero_le _, by omega, rfl, ⟨below_alloc (Below.refl _ _) _⟩, ⟨blk_new _ _⟩, ⟨fun j _ hj => absurd hj (Nat.not_lt_zero _)⟩⟩
      case round =>
        obtain ⟨kk, hkk, hg, rfl, HB, BK, AA⟩ := hrel
        by_cases hlt : kk < L.length
        · have hltz : (kk : Int) < (L.length : Int) := by omega
          have hcell : wr.cell? ⟨w.heap.size, kk, none⟩ = some (.string L[kk]) := (blk_cell BK.out kk).trans (by simp [hlt])
          have hfz := blk_frozen BK.out kk
          have hsk := HSZ.out L[kk] (List.getElem_mem hlt)
          have htrim := fun W => Txt.trim_az L[kk] W hsk
          have HT := Aside0.mk htrim
          obtain ⟨y, hy⟩ : ∃ y, L[kk] = y := ⟨_, rfl⟩
          have HY := Aside0.mk hy
          rw [hy] at hcell HT
          clear hsk htrim hy
          obtain ⟨z, hz⟩ : ∃ z, Txt.ppRest y = z := ⟨_, rfl⟩
          rw [hz] at HT
          have HZ := Aside0.mk hz
          clear hz
          by_cases h1 : y.toList.isEmpty = true
          · have e1 : y.toList.isEmpty = true := h1
            have hno : (L.all Txt.ppWordOk && decide ((a0.size : Int) ≤ 30)) = false := by
              have : L.all Txt.ppWordOk = false := List.all_eq_false.2 ⟨L[kk], List.getElem_mem hlt, by rw [HY.out]; unfold Txt.ppWordOk; rw [e1]; simp⟩
              rw [this]; rfl
            have HNO := Aside0.mk hno
            clear hno h1
            go_wp2
            go_ret
            exact ⟨by rw [← HE.out, HNO.out]; rfl, HB.out⟩
          · have e1 : y.toList.isEmpty = false := Bool.eq_false_iff.2 h1
            clear h1
            by_cases h2 : z.toList.isEmpty = true
            · have e2 : z.toList.isEmpty = true := h2
              have hyes : Txt.ppWordOk L[kk] = true := by rw [HY.out]; unfold Txt.ppWordOk; rw [HZ.out, e1, e2]; rfl
              have HYES := Aside0.mk hyes
              clear hyes h2
              go_wp2_with (go_at_call 43; (with_reducible refine (HT.out _).mono ?_); rintro e w' ⟨rfl, hb⟩)
              go_roundg (L.length - (kk + 1))
              case measure => omega
              case rel =>
                refine ⟨kk + 1, by omega, by omega, (by have := HLN.out; show Value.int .i64 (wrap64 ((kk : Int) + 1)) = Value.int .i64 ((kk + 1 : Nat) : Int); congr 1; unfold wrap64; omega), ⟨below_step HB.out hb⟩, ⟨blk_below BK.out hb⟩, ⟨fun j h hj => ?_⟩⟩
                by_cases e : j = kk
                · subst e
                  exact HYES.out
                · exact AA.out j h (by omega)
            · have e2 : z.toList.isEmpty = false := Bool.eq_false_iff.2 h2
              have hno : (L.all Txt.ppWordOk && decide ((a0.size : Int) ≤ 30)) = false := by
                have : L.all Txt.ppWordOk = false := List.all_eq_false.2 ⟨L[kk], List.getElem_mem hlt, by rw [HY.out]; unfold Txt.ppWordOk; rw [HZ.out, e1, e2]; simp⟩
                rw [this]; rfl
              have HNO := Aside0.mk hno
              clear hno h2
              go_wp2_with (go_at_call 43; (with_reducible refine (HT.out _).mono ?_); rintro e w' ⟨rfl, hb⟩)
              go_ret
              exact ⟨by rw [← HE.out, HNO.out]; rfl, below_step HB.out hb⟩
        · have hltz : ¬ (kk : Int) < (L.length : Int) := by omega
          have hk : kk = L.length := by omega
          have hall : (L.all Txt.ppWordOk && decide ((a0.size : Int) ≤ 30)) = decide ((a0.size : Int) ≤ 30) := by
            have : L.all Txt.ppWordOk = true := List.all_eq_true.2 (fun x hx => by
              obtain ⟨j, hj, rfl⟩ := List.getElem_of_mem hx
              exact AA.out j hj (by omega))
            rw [this]; rfl
          have HALL := Aside0.mk hall
          clear hall
          go_wp2
          go_ret
          exact ⟨by rw [← HE.out, HALL.out]; rfl, HB.out⟩
  · exact absurd h (by simp)

/-! ### impl_BrdLine_drawn: function 62 -/
def impl_BrdLine_drawn.f (a0_0 : Int) (a0_1 : Int) : Option (Bool) := (impl_in.f a0_0 1 3).bind fun t255 => (some t255)
set_option maxHeartbeats 8000000 in
set_option maxRecDepth 100000 in
theorem impl_BrdLine_drawn.calls (a0_0 : Int) (a0_1 : Int) (r : Bool) (w : World) (h : impl_BrdLine_drawn.f a0_0 a0_1 = some r) :
    Calls Tryd.prog 62 #[.agg #[.int .i64 a0_0, .int .i64 a0_1]] w fun e w' => e = .returned (.bool r) ∧ Below w.heap.size w w' := by
  have hu56 := Tryd.underlying56
  have HB := Aside0.mk (Below.refl w.heap.size w)
  have H : ((impl_in.f a0_0 1 3).bind fun t255 => (some t255)) = some r := h
  clear h
  replace H := Option.bind_eq_some_iff.mp H
  obtain ⟨t255, A20, H⟩ := H
  replace H : (some t255) = some r := H
  have A2 := Aside0.mk A20
  clear A20
  obtain rfl := Option.some.inj H
  go_enter Tryd.func62, Tryd.ntmps62
  go_wp2_with (first | ((with_reducible refine gate_dst (N := 1) rfl ?_); refine box_event ?hg (N := 1) ?hd (cs := #[.int .i64 a0_0, .int .i64 a0_1]) (t := 56) ?hr ?_; (case hd => rfl); (case hg => rfl); (case hr => first | (go_simp; done) | (go_simp; rfl)); intro gb254 hg w3 hbox hb; have n0_ := Aside0.mk (below_step (by repeat (first | (with_reducible first | exact HB.out | apply below_alloc | apply pw_below_drewN | apply below_drew1) | exact HB.out)) hb); have n1_ := Aside0.mk (hbox); have n2_ := Aside0.mk ((by rw [hg]; exact (below_size (by repeat (first | (with_reducible first | exact HB.out | apply below_alloc | apply pw_below_drewN | apply below_drew1) | exact HB.out))) : w.heap.size ≤ gb254)); have n3_ := Aside0.mk ((by rw [hg]; exact (below_size (by repeat (first | (with_reducible first | exact HB.out | apply below_alloc | apply pw_below_drewN | apply below_drew1) | exact HB.out))) : w.heap.size ≤ gb254)); clear HB; have HB := n0_; have BK254 := n1_; have GW254 := n2_; have GE254 := n3_; clear n0_ n1_ n2_ n3_; clear hb hbox hg; have hcz4_0 : w3.cell? ⟨gb254, 0, none⟩ = some (.int .i64 a0_0) := (blk_cell BK254.out 0).trans rfl; have hcz4_1 : w3.cell? ⟨gb254, 1, none⟩ = some (.int .i64 a0_1) := (blk_cell BK254.out 1).trans rfl; have hfz4_0 := blk_frozen BK254.out 0; have hfz4_1 := blk_frozen BK254.out 1) | ((with_reducible refine gate_callee (f := 19) rfl ?_); refine goesL_ (some 5) rfl rfl Tryd.func19 (by kernel_rfl) rfl #[.int .i64 a0_0, .int .i64 1, .int .i64 3] rfl (by (try simp only [List.map_toArray, List.map_cons, List.map_nil]); first | done | rfl | (simp only [List.length_drop, List.length_take]; rfl)) ?_; (with_reducible refine (impl_in.calls a0_0 1 3 t255 _ A2.out).mono ?_); rintro e w' ⟨rfl, ⟨nd, rfl⟩⟩; refine ⟨_, rfl, ?_⟩))
  go_ret
  exact ⟨by first | rfl | (simp [IntKind.wrap_i64, wrap64]; done) | (simp [errW_none, errW_some] <;> rfl) | (simp [*, errW_none, errW_some] <;> rfl), by repeat (first | (with_reducible first | exact HB.out | apply below_alloc | apply pw_below_drewN | apply below_drew1 | refine below_set ?_ GE254.out) | exact HB.out)⟩

/-! ### impl_BrdOk: function 45 -/
def impl_BrdOk.f (a0_0 : Int) (a0_1 : Int) : Option (Bool) := (impl_BrdLine_drawn.f a0_0 a0_1).bind fun t257 => (if t257 = true then ((impl_in.f a0_1 1 3).bind fun t258 => (some t258)) else (if a0_0 = 0 then (some (a0_1 == 0)) else (if a0_0 = 4 then (some (a0_1 == 0)) else (some false))))
set_option maxHeartbeats 8000000 in
set_option maxRecDepth 100000 in
theorem impl_BrdOk.calls (a0_0 : Int) (a0_1 : Int) (r : Bool) (w : World) (h : impl_BrdOk.f a0_0 a0_1 = some r) :
    Calls Tryd.prog 45 #[.agg #[.int .i64 a0_0, .int .i64 a0_1]] w fun e w' => e = .returned (.bool r) ∧ Below w.heap.size w w' := by
  have hu56 := Tryd.underlying56
  have HB := Aside0.mk (Below.refl w.heap.size w)
  have H : ((impl_BrdLine_drawn.f a0_0 a0_1).bind fun t257 => (if t257 = true then ((impl_in.f a0_1 1 3).bind fun t258 => (some t258)) else (if a0_0 = 0 then (some (a0_1 == 0)) else (if a0_0 = 4 then (some (a0_1 == 0)) else (some false))))) = some r := h
  clear h
  replace H := Option.bind_eq_some_iff.mp H
  obtain ⟨t257, A20, H⟩ := H
  replace H : (if t257 = true then ((impl_in.f a0_1 1 3).bind fun t258 => (some t258)) else (if a0_0 = 0 then (some (a0_1 == 0)) else (if a0_0 = 4 then (some (a0_1 == 0)) else (some false)))) = some r := H
  have A2 := Aside0.mk A20
  clear A20
  by_cases c3 : t257 = true
  · subst c3
    have H1 : ((impl_in.f a0_1 1 3).bind fun t258 => (some t258)) = some r := by rw [if_pos rfl] at H; exact H
    clear H
    have H := H1
    clear H1
    replace H := Option.bind_eq_some_iff.mp H
    obtain ⟨t258, A40, H⟩ := H
    replace H : (some t258) = some r := H
    have A4 := Aside0.mk A40
    clear A40
    obtain rfl := Option.some.inj H
    go_enter Tryd.func45, Tryd.ntmps45
    go_wp2_with (first | ((with_reducible refine gate_dst (N := 1) rfl ?_); refine box_event ?hg (N := 1) ?hd (cs := #[.int .i64 a0_0, .int .i64 a0_1]) (t := 56) ?hr ?_; (case hd => rfl); (case hg => rfl); (case hr => first | (go_simp; done) | (go_simp; rfl)); intro gb256 hg w5 hbox hb; have n0_ := Aside0.mk (below_step (by repeat (first | (with_reducible first | exact HB.out | apply below_alloc | apply pw_below_drewN | apply below_drew1) | exact HB.out)) hb); have n1_ := Aside0.mk (hbox); have n2_ := Aside0.mk ((by rw [hg]; exact (below_size (by repeat (first | (with_reducible first | exact HB.out | apply below_alloc | apply pw_below_drewN | apply below_drew1) | exact HB.out))) : w.heap.size ≤ gb256)); have n3_ := Aside0.mk ((by rw [hg]; exact (below_size (by repeat (first | (with_reducible first | exact HB.out | apply below_alloc | apply pw_below_drewN | apply below_drew1) | exact HB.out))) : w.heap.size ≤ gb256)); clear HB; have HB := n0_; have BK256 := n1_; have GW256 := n2_; have GE256 := n3_; clear n0_ n1_ n2_ n3_; clear hb hbox hg; have hcz6_0 : w5.cell? ⟨gb256, 0, none⟩ = some (.int .i64 a0_0) := (blk_cell BK256.out 0).trans rfl; have hcz6_1 : w5.cell? ⟨gb256, 1, none⟩ = some (.int .i64 a0_1) := (blk_cell BK256.out 1).trans rfl; have hfz6_0 := blk_frozen BK256.out 0; have hfz6_1 := blk_frozen BK256.out 1) | ((with_reducible refine gate_callee (f := 62) rfl ?_); refine goesL_ (some 4) rfl rfl Tryd.func62 (by kernel_rfl) rfl #[.agg #[.int .i64 a0_0, .int .i64 a0_1]] rfl (by (try simp only [List.map_toArray, List.map_cons, List.map_nil]); first | done | rfl | (simp only [List.length_drop, List.length_take]; rfl)) ?_; (with_reducible refine (impl_BrdLine_drawn.calls a0_0 a0_1 true _ A2.out).mono ?_); rintro e w7 ⟨rfl, hb⟩; refine ⟨_, rfl, ?_⟩; have n0_ := Aside0.mk (blk_below (g := gb256) (o := .cells #[.int .i64 a0_0, .int .i64 a0_1] 56 (0, 0)) (by (with_reducible repeat (first | refine blk_drewN ?_ _ | refine blk_drew ?_ | refine blk_alloc ?_ _)); exact BK256.out) hb); have n1_ := Aside0.mk (below_step (by repeat (first | (with_reducible first | exact HB.out | apply below_alloc | apply pw_below_drewN | apply below_drew1 | refine below_set ?_ GE256.out) | exact HB.out)) hb); clear BK256; clear HB; have BK256 := n0_; have HB := n1_; clear n0_ n1_; (try clear hb); (try clear hb2); (try clear hk); (try clear hi); have hcz8_0 : w7.cell? ⟨gb256, 0, none⟩ = some (.int .i64 a0_0) := (blk_cell BK256.out 0).trans rfl; have hcz8_1 : w7.cell? ⟨gb256, 1, none⟩ = some (.int .i64 a0_1) := (blk_cell BK256.out 1).trans rfl; have hfz8_0 := blk_frozen BK256.out 0; have hfz8_1 := blk_frozen BK256.out 1) | ((with_reducible refine gate_callee (f := 19) rfl ?_); refine goesL_ (some 7) rfl rfl Tryd.func19 (by kernel_rfl) rfl #[.int .i64 a0_1, .int .i64 1, .int .i64 3] rfl (by (try simp only [List.map_toArray, List.map_cons, List.map_nil]); first | done | rfl | (simp only [List.length_drop, List.length_take]; rfl)) ?_; (with_reducible refine (impl_in.calls a0_1 1 3 t258 _ A4.out).mono ?_); rintro e w' ⟨rfl, ⟨nd, rfl⟩⟩; refine ⟨_, rfl, ?_⟩))
    go_ret
    exact ⟨by first | rfl | (simp [IntKind.wrap_i64, wrap64]; done) | (simp [errW_none, errW_some] <;> rfl) | (simp [*, errW_none, errW_some] <;> rfl), by repeat (first | (with_reducible first | exact HB.out | apply below_alloc | apply pw_below_drewN | apply below_drew1 | refine below_set ?_ GE256.out) | exact HB.out)⟩
  · replace c3 := Bool.eq_false_iff.mpr c3
    subst c3
    have H1 : (if a0_0 = 0 then (some (a0_1 == 0)) else (if a0_0 = 4 then (some (a0_1 == 0)) else (some false))) = some r := by rw [if_neg (show ¬ (false = true) by decide)] at H; exact H
    clear H
    have H := H1
    clear H1
    by_cases c9 : a0_0 = 0
    · rw [if_pos c9] at H
      have c9b0 : (a0_0 == 0) = true := beq_iff_eq.mpr c9
      have c9b1 : (a0_0 != 0) = false := bne_eq_false_iff_eq.mpr c9
      clear c9
      obtain rfl := Option.some.inj H
      go_enter Tryd.func45, Tryd.ntmps45
      go_wp2_with (first | ((with_reducible refine gate_dst (N := 1) rfl ?_); refine box_event ?hg (N := 1) ?hd (cs := #[.int .i64 a0_0, .int .i64 a0_1]) (t := 56) ?hr ?_; (case hd => rfl); (case hg => rfl); (case hr => first | (go_simp; done) | (go_simp; rfl)); intro gb256 hg w10 hbox hb; have n0_ := Aside0.mk (below_step (by repeat (first | (with_reducible first | exact HB.out | apply below_alloc | apply pw_below_drewN | apply below_drew1) | exact HB.out)) hb); have n1_ := Aside0.mk (hbox); have n2_ := Aside0.mk ((by rw [hg]; exact (below_size (by repeat (first | (with_reducible first | exact HB.out | apply below_alloc | apply pw_below_drewN | apply below_drew1) | exact HB.out))) : w.heap.size ≤ gb256)); have n3_ := Aside0.mk ((by rw [hg]; exact (below_size (by repeat (first | (with_reducible first | exact HB.out | apply below_alloc | apply pw_below_drewN | apply below_drew1) | exact HB.out))) : w.heap.size ≤ gb256)); clear HB; have HB := n0_; have BK256 := n1_; have GW256 := n2_; have GE256 := n3_; clear n0_ n1_ n2_ n3_; clear hb hbox hg; have hcz11_0 : w10.cell? ⟨gb256, 0, none⟩ = some (.int .i64 a0_0) := (blk_cell BK256.out 0).trans rfl; have hcz11_1 : w10.cell? ⟨gb256, 1, none⟩ = some (.int .i64 a0_1) := (blk_cell BK256.out 1).trans rfl; have hfz11_0 := blk_frozen BK256.out 0; have hfz11_1 := blk_frozen BK256.out 1) | ((with_reducible refine gate_callee (f := 62) rfl ?_); refine goesL_ (some 4) rfl rfl Tryd.func62 (by kernel_rfl) rfl #[.agg #[.int .i64 a0_0, .int .i64 a0_1]] rfl (by (try simp only [List.map_toArray, List.map_cons, List.map_nil]); first | done | rfl | (simp only [List.length_drop, List.length_take]; rfl)) ?_; (with_reducible refine (impl_BrdLine_drawn.calls a0_0 a0_1 false _ A2.out).mono ?_); rintro e w12 ⟨rfl, hb⟩; refine ⟨_, rfl, ?_⟩; have n0_ := Aside0.mk (blk_below (g := gb256) (o := .cells #[.int .i64 a0_0, .int .i64 a0_1] 56 (0, 0)) (by (with_reducible repeat (first | refine blk_drewN ?_ _ | refine blk_drew ?_ | refine blk_alloc ?_ _)); exact BK256.out) hb); have n1_ := Aside0.mk (below_step (by repeat (first | (with_reducible first | exact HB.out | apply below_alloc | apply pw_below_drewN | apply below_drew1 | refine below_set ?_ GE256.out) | exact HB.out)) hb); clear BK256; clear HB; have BK256 := n0_; have HB := n1_; clear n0_ n1_; (try clear hb); (try clear hb2); (try clear hk); (try clear hi); have hcz13_0 : w12.cell? ⟨gb256, 0, none⟩ = some (.int .i64 a0_0) := (blk_cell BK256.out 0).trans rfl; have hcz13_1 : w12.cell? ⟨gb256, 1, none⟩ = some (.int .i64 a0_1) := (blk_cell BK256.out 1).trans rfl; have hfz13_0 := blk_frozen BK256.out 0; have hfz13_1 := blk_frozen BK256.out 1))
      go_ret
      exact ⟨by first | rfl | (simp [IntKind.wrap_i64, wrap64]; done) | (simp [errW_none, errW_some] <;> rfl) | (simp [*, errW_none, errW_some] <;> rfl), by repeat (first | (with_reducible first | exact HB.out | apply below_alloc | apply pw_below_drewN | apply below_drew1 | refine below_set ?_ GE256.out) | exact HB.out)⟩
    · rw [if_neg c9] at H
      have c9b0 : (a0_0 == 0) = false := beq_eq_false_iff_ne.mpr c9
      have c9b1 : (a0_0 != 0) = true := bne_iff_ne.mpr c9
      by_cases c14 : a0_0 = 4
      · rw [if_pos c14] at H
        have c14b0 : (a0_0 == 4) = true := beq_iff_eq.mpr c14
        have c14b1 : (a0_0 != 4) = false := bne_eq_false_iff_eq.mpr c14
        clear c14
        obtain rfl := Option.some.inj H
        go_enter Tryd.func45, Tryd.ntmps45
        go_wp2_with (first | ((with_reducible refine gate_dst (N := 1) rfl ?_); refine box_event ?hg (N := 1) ?hd (cs := #[.int .i64 a0_0, .int .i64 a0_1]) (t := 56) ?hr ?_; (case hd => rfl); (case hg => rfl); (case hr => first | (go_simp; done) | (go_simp; rfl)); intro gb256 hg w15 hbox hb; have n0_ := Aside0.mk (below_step (by repeat (first | (with_reducible first | exact HB.out | apply below_alloc | apply pw_below_drewN | apply below_drew1) | exact HB.out)) hb); have n1_ := Aside0.mk (hbox); have n2_ := Aside0.mk ((by rw [hg]; exact (below_size (by repeat (first | (with_reducible first | exact HB.out | apply below_alloc | apply pw_below_drewN | apply below_drew1) | exact HB.out))) : w.heap.size ≤ gb256)); have n3_ := Aside0.mk ((by rw [hg]; exact (below_size (by repeat (first | (with_reducible first | exact HB.out | apply below_alloc | apply pw_below_drewN | apply below_drew1) | exact HB.out))) : w.heap.size ≤ gb256)); clear HB; have HB := n0_; have BK256 := n1_; have GW256 := n2_; have GE256 := n3_; clear n0_ n1_ n2_ n3_; clear hb hbox hg; have hcz16_0 : w15.cell? ⟨gb256, 0, none⟩ = some (.int .i64 a0_0) := (blk_cell BK256.out 0).trans rfl; have hcz16_1 : w15.cell? ⟨gb256, 1, none⟩ = some (.int .i64 a0_1) := (blk_cell BK256.out 1).trans rfl; have hfz16_0 := blk_frozen BK256.out 0; have hfz16_1 := blk_frozen BK256.out 1) | ((with_reducible refine gate_callee (f := 62) rfl ?_); refine goesL_ (some 4) rfl rfl Tryd.func62 (by kernel_rfl) rfl #[.agg #[.int .i64 a0_0, .int .i64 a0_1]] rfl (by (try simp only [List.map_toArray, List.map_cons, List.map_nil]); first | done | rfl | (simp only [List.length_drop, List.length_take]; rfl)) ?_; (with_reducible refine (impl_BrdLine_drawn.calls a0_0 a0_1 false _ A2.out).mono ?_); rintro e w17 ⟨rfl, hb⟩; refine ⟨_, rfl, ?_⟩; have n0_ := Aside0.mk (blk_below (g := gb256) (o := .cells #[.int .i64 a0_0, .int .i64 a0_1] 56 (0, 0)) (by (with_reducible repeat (first | refine blk_drewN ?_ _ | refine blk_drew ?_ | refine blk_alloc ?_ _)); exact BK256.out) hb); have n1_ := Aside0.mk (below_step (by repeat (first | (with_reducible first | exact HB.out | apply below_alloc | apply pw_below_drewN | apply below_drew1 | refine below_set ?_ GE256.out) | exact HB.out)) hb); clear BK256; clear HB; have BK256 := n0_; have HB := n1_; clear n0_ n1_; (try clear hb); (try clear hb2); (try clear hk); (try clear hi); have hcz18_0 : w17.cell? ⟨gb256, 0, none⟩ = some (.int .i64 a0_0) := (blk_cell BK256.out 0).trans rfl; have hcz18_1 : w17.cell? ⟨gb256, 1, none⟩ = some (.int .i64 a0_1) := (blk_cell BK256.out 1).trans rfl; have hfz18_0 := blk_frozen BK256.out 0; have hfz18_1 := blk_frozen BK256.out 1))
        go_ret
        exact ⟨by first | rfl | (simp [IntKind.wrap_i64, wrap64]; done) | (simp [errW_none, errW_some] <;> rfl) | (simp [*, errW_none, errW_some] <;> rfl), by repeat (first | (with_reducible first | exact HB.out | apply below_alloc | apply pw_below_drewN | apply below_drew1 | refine below_set ?_ GE256.out) | exact HB.out)⟩
      · rw [if_neg c14] at H
        have c14b0 : (a0_0 == 4) = false := beq_eq_false_iff_ne.mpr c14
        have c14b1 : (a0_0 != 4) = true := bne_iff_ne.mpr c14
        obtain rfl := Option.some.inj H
        go_enter Tryd.func45, Tryd.ntmps45
        go_wp2_with (first | ((with_reducible refine gate_dst (N := 1) rfl ?_); refine box_event ?hg (N := 1) ?hd (cs := #[.int .i64 a0_0, .int .i64 a0_1]) (t := 56) ?hr ?_; (case hd => rfl); (case hg => rfl); (case hr => first | (go_simp; done) | (go_simp; rfl)); intro gb256 hg w19 hbox hb; have n0_ := Aside0.mk (below_step (by repeat (first | (with_reducible first | exact HB.out | apply below_alloc | apply pw_below_drewN | apply below_drew1) | exact HB.out)) hb); have n1_ := Aside0.mk (hbox); have n2_ := Aside0.mk ((by rw [hg]; exact (below_size (by repeat (first | (with_reducible first | exact HB.out | apply below_alloc | apply pw_below_drewN | apply below_drew1) | exact HB.out))) : w.heap.size ≤ gb256)); have n3_ := Aside0.mk ((by rw [hg]; exact (below_size (by repeat (first | (with_reducible first | exact HB.out | apply below_alloc | apply pw_below_drewN | apply below_drew1) | exact HB.out))) : w.heap.size ≤ gb256)); clear HB; have HB := n0_; have BK256 := n1_; have GW256 := n2_; have GE256 := n3_; clear n0_ n1_ n2_ n3_; clear hb hbox hg; have hcz20_0 : w19.cell? ⟨gb256, 0, none⟩ = some (.int .i64 a0_0) := (blk_cell BK256.out 0).trans rfl; have hcz20_1 : w19.cell? ⟨gb256, 1, none⟩ = some (.int .i64 a0_1) := (blk_cell BK256.out 1).trans rfl; have hfz20_0 := blk_frozen BK256.out 0; have hfz20_1 := blk_frozen BK256.out 1) | ((with_reducible refine gate_callee (f := 62) rfl ?_); refine goesL_ (some 4) rfl rfl Tryd.func62 (by kernel_rfl) rfl #[.agg #[.int .i64 a0_0, .int .i64 a0_1]] rfl (by (try simp only [List.map_toArray, List.map_cons, List.map_nil]); first | done | rfl | (simp only [List.length_drop, List.length_take]; rfl)) ?_; (with_reducible refine (impl_BrdLine_drawn.calls a0_0 a0_1 false _ A2.out).mono ?_); rintro e w21 ⟨rfl, hb⟩; refine ⟨_, rfl, ?_⟩; have n0_ := Aside0.mk (blk_below (g := gb256) (o := .cells #[.int .i64 a0_0, .int .i64 a0_1] 56 (0, 0)) (by (with_reducible repeat (first | refine blk_drewN ?_ _ | refine blk_drew ?_ | refine blk_alloc ?_ _)); exact BK256.out) hb); have n1_ := Aside0.mk (below_step (by repeat (first | (with_reducible first | exact HB.out | apply below_alloc | apply pw_below_drewN | apply below_drew1 | refine below_set ?_ GE256.out) | exact HB.out)) hb); clear BK256; clear HB; have BK256 := n0_; have HB := n1_; clear n0_ n1_; (try clear hb); (try clear hb2); (try clear hk); (try clear hi); have hcz22_0 : w21.cell? ⟨gb256, 0, none⟩ = some (.int .i64 a0_0) := (blk_cell BK256.out 0).trans rfl; have hcz22_1 : w21.cell? ⟨gb256, 1, none⟩ = some (.int .i64 a0_1) := (blk_cell BK256.out 1).trans rfl; have hfz22_0 := blk_frozen BK256.out 0; have hfz22_1 := blk_frozen BK256.out 1))
        go_ret
        exact ⟨by first | rfl | (simp [IntKind.wrap_i64, wrap64]; done) | (simp [errW_none, errW_some] <;> rfl) | (simp [*, errW_none, errW_some] <;> rfl), by repeat (first | (with_reducible first | exact HB.out | apply below_alloc | apply pw_below_drewN | apply below_drew1 | refine below_set ?_ GE256.out) | exact HB.out)⟩


end Go.Proofs.YtaihfkjfbjcmhaaDoor.Q
