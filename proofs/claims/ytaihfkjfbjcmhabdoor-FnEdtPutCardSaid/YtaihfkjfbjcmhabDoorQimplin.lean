-- Told by a program of this session (uprint.py, ulay.py).
import Derived.Test.YtaihfkjfbjcmhabDoorQ0
import Derived.Test.YtaihfkjfbjcmhabDoorReg
import Derived.Deep.RegionLaw
import Derived.Laws.Externs
import Derived.Laws.NewBlocks
namespace Go.Proofs.YtaihfkjfbjcmhabDoor.Q
open Go.RowKit Go.Proofs.YtaihfkjfbjcmhabDoorW.PrintWords Go.Proofs.YtaihfkjfbjcmhabDoorW.PrintLast Go.Proofs.YtaihfkjfbjcmhabDoorW.PrintMore Go.Proofs.YtaihfkjfbjcmhabDoor.Reg Go.Proofs.YtaihfkjfbjcmhabDoor.Box
attribute [local go_sem] max2_int min2_int max_two min_two max_three min_three max_four min_four
set_option linter.unusedVariables false
set_option linter.unusedSimpArgs false

/-! ### impl_in: function 20 -/
def impl_in.f (a0 : Int) (a1 : Int) (a2 : Int) : Option (Bool) := if a0 ≥ a1 then (some (decide (a0 ≤ a2))) else (some false)
set_option maxHeartbeats 8000000 in
set_option maxRecDepth 100000 in
theorem impl_in.calls (a0 : Int) (a1 : Int) (a2 : Int) (r : Bool) (w : World) (h : impl_in.f a0 a1 a2 = some r) :
    Calls Tryd.prog 20 #[.int .i64 a0, .int .i64 a1, .int .i64 a2] w fun e w' => e = .returned (.bool r) ∧ Drawn0 w w' := by
  have H : (if a0 ≥ a1 then (some (decide (a0 ≤ a2))) else (some false)) = some r := h
  clear h
  by_cases c4 : a0 ≥ a1
  · rw [if_pos c4] at H
    have c4b0 : decide (a1 ≤ a0) = true := decide_eq_true c4
    clear c4
    obtain rfl := Option.some.inj H
    go_enter Tryd.func20, Tryd.ntmps20
    go_wp2
    go_ret
    exact ⟨by first | rfl | (simp [IntKind.wrap_i64, wrap64]; done) | (simp; done) | (simp [*]; done), by repeat (first | exact Drawn0.refl _ | apply Drawn0.step)⟩
  · rw [if_neg c4] at H
    have c4b0 : decide (a1 ≤ a0) = false := decide_eq_false c4
    clear c4
    obtain rfl := Option.some.inj H
    go_enter Tryd.func20, Tryd.ntmps20
    go_wp2
    go_ret
    exact ⟨by first | rfl | (simp [IntKind.wrap_i64, wrap64]; done) | (simp; done) | (simp [*]; done), by repeat (first | exact Drawn0.refl _ | apply Drawn0.step)⟩

theorem grown_step {W W2 W3 : World} {row : Option Nat} (hb : Below W.heap.size W W2) (hg : W2.grownBy W3 row) : W.grownBy W3 row := ⟨hg.os.trans hb.os, hg.tape.trans hb.tape, hg.output.trans hb.output, Nat.le_trans hb.size hg.size, fun k hk hr => (hg.block k (Nat.lt_of_lt_of_le hk hb.size) hr).trans (hb.block k hk)⟩
theorem in_dec (x c d : Int) : impl_in.f x c d = some (decide (c ≤ x ∧ x ≤ d)) := by
  unfold impl_in.f
  split
  · congr 1; exact decide_eq_decide.2 (by omega)
  · congr 1; symm; exact decide_eq_false (by omega)

abbrev l3A (v0 v3 : Value) (hd ft gp : Int) : Array Value := #[v0, .int .i64 hd, .int .i64 ft, v3, .int .i64 gp]

/-- The table as it was handed over, and the box of the answer. -/
structure E3 (w : World) (pa : Array Value) (W : World) : Prop where
  bl : Below w.heap.size w W
  pb : W.heap[w.heap.size]? = some (.cells pa 26 (0, 0))
  zb : W.heap[w.heap.size + 1]? = some (.cells (l3A (.slice none 0 0) (.slice none 0 0) 0 0 0) 26 (0, 0))
theorem E3.size {w W : World} {pa : Array Value} (h : E3 w pa W) : w.heap.size + 2 ≤ W.heap.size := Nat.succ_le_of_lt (blk_lt h.zb)
theorem E3.below {w W W' : World} {pa : Array Value} (h : E3 w pa W) (hb : Below W.heap.size W W') : E3 w pa W' := ⟨below_step h.bl hb, (hb.block _ (blk_lt h.pb)).trans h.pb, (hb.block _ (blk_lt h.zb)).trans h.zb⟩
theorem E3.alloc {w W : World} {pa : Array Value} (h : E3 w pa W) (o : Obj) : E3 w pa (W.alloc o) := ⟨below_alloc h.bl o, blk_alloc h.pb o, blk_alloc h.zb o⟩
/-- There is a cell at the place. -/
def hasP (rows : List S42) (row pl : Int) : Prop := (0 ≤ row ∧ row ≤ (rows.length : Int) - 1) ∧ 0 ≤ pl ∧ pl ≤ ((rd_T42 rows row).f0.length : Int) - 1
instance (rows : List S42) (row pl : Int) : Decidable (hasP rows row pl) := by unfold hasP; infer_instance

set_option maxHeartbeats 4000000 in
set_option maxRecDepth 100000 in
theorem has_calls (b : Nat) (vc : Value) (hd ft gp : Int) (A : Option Addr) (c : Nat) (rows : List S42) (row pl : Int) (w : World) (hX : w.heap[b]? = some (.cells (l3A vc (.slice A rows.length c) hd ft gp) 26 (0, 0))) (hr : Kd.C k42 w A rows.length rows) :
    Calls Tryd.prog 29 #[.pointer (some ⟨b, 0, none⟩), .int .i64 row, .int .i64 pl] w fun e w' => e = .returned (.bool (decide (hasP rows row pl))) ∧ Below w.heap.size w w' := by
  obtain ⟨q, hq⟩ : ∃ q, decide (hasP rows row pl) = q := ⟨_, rfl⟩
  rw [hq]
  have hbig := hr.2.1
  have w1 : wrap64 ((rows.length : Int) - 1) = (rows.length : Int) - 1 := by unfold wrap64; omega
  have x3 : w.cell? ⟨b, 3, none⟩ = some (Value.slice A rows.length c) := (blk_cell hX 3).trans rfl
  go_enter Tryd.func29, Tryd.ntmps29
  go_upto_region 1 with (fail)
  have A1 := Aside0.mk (in_dec row 0 ((rows.length : Int) - 1))
  by_cases h1 : 0 ≤ row ∧ row ≤ (rows.length : Int) - 1
  · rw [decide_eq_true h1] at A1
    obtain ⟨ad, A2, c2, hA, p0, p1, e2, hC2⟩ := at_T42 hr row h1.1 (by omega)
    subst hA
    have hbig2 := hC2.2.1
    obtain ⟨x, hx⟩ : ∃ x, rd_T42 rows row = x := ⟨_, rfl⟩
    rw [hx] at p0 hbig2
    have w2 : wrap64 ((x.f0.length : Int) - 1) = (x.f0.length : Int) - 1 := by unfold wrap64; omega
    have A3 := Aside0.mk (in_dec pl 0 ((x.f0.length : Int) - 1))
    have e : decide (0 ≤ pl ∧ pl ≤ (x.f0.length : Int) - 1) = q := by
      rw [← hq]
      exact decide_eq_decide.2 ⟨fun h => by unfold hasP; rw [hx]; exact ⟨h1, h⟩, fun h => by unfold hasP at h; rw [hx] at h; exact h.2⟩
    rw [e] at A3
    have hrow0 : 0 ≤ row := h1.1
    have hrow1 : row < (rows.length : Int) := by omega
    clear e h1 hC2 hr hX p1 hx e2 hq
    go_wp2_with (go_at_call 20; (first | (with_reducible refine (impl_in.calls _ _ _ _ _ A1.out).mono ?_) | (with_reducible refine (impl_in.calls _ _ _ _ _ A3.out).mono ?_)); rintro e_ W' ⟨rfl, ⟨nd, rfl⟩⟩)
    go_ret
    exact ⟨rfl, by repeat (with_reducible first | exact Below.refl _ _ | apply below_alloc | apply pw_below_drewN | apply below_drew1)⟩
  · rw [decide_eq_false h1] at A1
    obtain rfl : false = q := by rw [← hq]; exact (decide_eq_false (fun h => h1 h.1)).symm
    clear hq h1 hr hX
    go_wp2_with (go_at_call 20; (with_reducible refine (impl_in.calls _ _ _ _ _ A1.out).mono ?_); rintro e_ W' ⟨rfl, ⟨nd, rfl⟩⟩)
    go_ret
    exact ⟨rfl, by repeat (with_reducible first | exact Below.refl _ _ | apply below_alloc | apply pw_below_drewN | apply below_drew1)⟩

/-- A closure that turns a table of its own: what it answers, and what lies behind it. -/
def TabFn (g : Nat) (lb : Array Value) (W0 : World) (cols : List S57) (hd ft : Int) (rows : List S42) (gp : Int) (cols' : List S57) (hd' ft' : Int) (rows' : List S42) (gp' : Int) (q : Bool) : Prop :=
  ∀ (W : World) (b : Nat) (vc vr : Value), Below W0.heap.size W0 W → W.heap[b]? = some (.cells (l3A vc vr hd ft gp) 26 (0, 0)) → W0.heap.size ≤ b → Kd.R k57 57 W W0.heap.size (fun _ => True) vc cols → Kd.S k42 42 W W0.heap.size (fun _ => True) vr rows →
    Calls Tryd.prog g (#[.pointer (some ⟨b, 0, none⟩)] ++ lb) W fun e W' => ∃ vc' vr', e = .returned (.bool q) ∧ W'.heap[b]? = some (.cells (l3A vc' vr' hd' ft' gp') 26 (0, 0)) ∧ Kd.R k57 57 W' W0.heap.size (fun _ => True) vc' cols' ∧ Kd.S k42 42 W' W0.heap.size (fun _ => True) vr' rows' ∧ Below W0.heap.size W0 W' ∧
      ∀ (j : Nat) (cs : Array Value), j ≠ b → W.heap[j]? = some (.cells cs 26 (0, 0)) → W'.heap[j]? = some (.cells cs 26 (0, 0))

/-- A slice's elements copied, whatever their size. -/
theorem run_copy_sz {P : Program} (w : World) (dT sT ty elem : TypeId) (g o dLen dCap : Nat) (a : Addr) (sLen sCap : Nat) (sz : Nat) (cur : Array Value) (t : TypeId) (cs : List Value)
    (hu : P.underlying dT = some (.slice elem)) (hs : (P.info? elem).map (·.size) = some sz)
    (hg : w.heap[g]? = some (.cells cur t (0, 0))) (m : Nat) (hm : m = Nat.min sLen dLen) (hn : cs.length = m * sz)
    (hsrc : ∀ j v, cs[j]? = some v → w.cell? (a.add j) = some v) (hfit : o + cs.length ≤ cur.size) (h1 : ∀ v ∈ cs, v.oneCell' = true) :
    (Builtin.copy_ #[dT, sT] ty #[.slice (some ⟨g, o, none⟩) dLen dCap, .slice (some a) sLen sCap]).run P w =
      .ok (goInt m) (w.setRow g (cur.toList.take o ++ cs ++ cur.toList.drop (o + cs.length)).toArray) := by
  have hl := run_loadCells_list (P := P) w a cs hsrc
  have hst := run_storeCells_at P g o t cs 0 cur w hg (by simpa using hfit) h1
  cases hq : P.info? elem with
  | none => simp [hq] at hs
  | some i =>
    have hi : i.size = sz := by simpa [hq] using hs
    have hd : ∀ A : Option Addr, (Builtin.lenOf (.slice A sLen sCap)).run P w = .ok sLen w := fun A => by simp [Builtin.lenOf]
    simp [Builtin.copy_, run_underlying hu, Builtin.lenOf, Builtin.firstCells, sizeOf, typeInfo, hq, hi, ← hm, ← hn, hl, hst]
/-- A run of copy as a step of the walk. -/
theorem wpList_copy_w {P : Program} (w : World) {ops : Array Oper} {rest : List Oper} {o : Oper} {a : Act} {Q : Exit → Act → World → Prop} (hgd : o.guard = none) (d s : Operand) (t t' : TypeId)
    (ho : o.op = .call { callee := .builtin .copy, args := #[d, s], argTypes := #[t, t'] }) (v u : Value) (hd : a.eval d = v) (hs : a.eval s = u) {v' : Value} {w' : World}
    (hr : (Builtin.copy_ #[t, t'] o.type #[v, u]).run P w = .ok v' w') (h : wpList P ops Q rest (a.put o.dst v') w') : wpList P ops Q (o :: rest) a w :=
  wpList_plain hgd fun K hK => by
    unfold Oper.wp
    simp [execOp, ho, resolve, invoke, builtin, hd, hs, hr, Result.andThen]
    exact hK _ _ h
theorem step_copy_w {P : Program} {ops : Array Oper} {o : Oper} {a : Act} {w : World} {K : Act → World → Prop} {Q : Exit → Act → World → Prop} {E : Prop}
    (hg : o.guard = none) (d x : Operand) (dT sT : TypeId) (hop : o.op = Op.call { callee := Callee.builtin Builtin.copy, args := #[d, x], argTypes := #[dT, sT] })
    (v u : Value) (hd : a.eval d = v) (hx : a.eval x = u) {v' : Value} {w' : World} (hr : (Builtin.copy_ #[dT, sT] o.type #[v, u]).run P w = .ok v' w') (hK : K (a.put o.dst v') w') :
    if Region.wanted o (yielded ops a.tmps) = true then Oper.wp P o a w K Q else E := by
  have hw : Region.wanted o (yielded ops a.tmps) = true := by simp [Region.wanted, hg]
  rw [if_pos hw]
  unfold Oper.wp
  simp [execOp, hop, resolve, invoke, builtin, hd, hx, hr, Result.andThen]
  exact hK
/-- A row and the same row as cells: what is done to the cells, done to the row. -/
theorem R_moved {α : Type} {d : Kd α} {e base : Nat} {w : World} {v : Value} {xs : List α} (h : d.R e w base (fun _ => True) v xs) : ∃ rows : List (List Value), rows.length = xs.length ∧ (Kd.raw d.sz).R e w base (fun _ => True) v rows ∧
    ∀ {w' : World} {v' : Value} {xs' : List α} {rows' : List (List Value)}, rows'.length = xs'.length → (Kd.raw d.sz).R e w' base (fun _ => True) v' rows' → w.grownBy w' v.ownBlock → (v'.ownBlock = v.ownBlock ∨ ∃ b, v'.ownBlock = some b ∧ w.heap.size ≤ b) →
      (∀ (j : Nat) (x : α), xs'[j]? = some x → (∃ m : Nat, xs[m]? = some x ∧ rows'[j]? = rows[m]?) ∨ ∃ c, rows'[j]? = some c ∧ ∀ okq, d.M w' base okq x c) → d.R e w' base (fun _ => True) v' xs' := by
  obtain ⟨hok, inner, hown, hr⟩ := h
  have hget : ∀ (m : Nat) (x : α), xs[m]? = some x → ((List.range xs.length).map fun j => (inner.drop (j * d.sz)).take d.sz)[m]? = some ((inner.drop (m * d.sz)).take d.sz) := by
    intro m x hx
    have hm := (List.getElem?_eq_some_iff.1 hx).1
    rw [List.getElem?_map, List.getElem?_range hm]
    rfl
  refine ⟨(List.range xs.length).map fun j => (inner.drop (j * d.sz)).take d.sz, by simp, ⟨fun _ _ => trivial, inner, by rw [List.length_map, List.length_range]; exact hown, by rw [List.length_map, List.length_range]; exact hr.1, fun j p hj => ?_⟩, ?_⟩
  · have hl : j < xs.length := by
      have := (List.getElem?_eq_some_iff.1 hj).1
      simpa using this
    have hx := List.getElem?_eq_getElem hl
    have hM := hr.2 j _ hx
    rw [hget j _ hx] at hj
    have hp := Option.some.inj hj
    have hK := d.K_of_M hM
    exact ⟨hp, d.K_len hK, d.K_one hK⟩
  · intro w' v' xs' rows' hl hR' hg hat hp
    obtain ⟨_, inner', hown', hr'⟩ := hR'
    refine ⟨fun _ _ => trivial, inner', by rw [← hl]; exact hown', by rw [← hl]; exact hr'.1, fun j x hx => ?_⟩
    rcases hp j x hx with ⟨m, hm, he⟩ | ⟨c, hc, hM⟩
    · rw [hget m x hm] at he
      have hc : (inner'.drop (j * d.sz)).take d.sz = _ := (hr'.2 j _ he).1
      rw [hc]
      refine d.M_mono (fun k hk => ⟨trivial, ?_⟩) (d.M_move (fun k hk => hg.block k hk.2.2.1 hk.1.2) (d.M_bound (hr.2 m x hm)))
      rcases hat with hat | ⟨b, hb, hlt⟩
      · rw [hat]; exact hk.1.2
      · rw [hb]
        intro hkb
        have := Option.some.inj hkb
        have := hk.2.2.1
        omega
    · have hc' : (inner'.drop (j * d.sz)).take d.sz = _ := (hr'.2 j _ hc).1
      rw [hc']
      exact hM _
open Classical in
/-- A row with marks, no two alike: no two elements lead to one block. -/
theorem S_pairs {α : Type} {d : Kd α} {e base : Nat} {w : World} {ok : Nat → Prop} {v : Value} {f : Nat → Nat} {zs : List (α × Nat)} (h : (Kd.tag f d).R e w base ok v zs) (hn : ∀ (i j : Nat) (x y : α) (k : Nat), zs[i]? = some (x, k) → zs[j]? = some (y, k) → i = j) : Kd.S d e w base ok v (zs.map (·.1)) := by
  obtain ⟨hok, inner, hown, hr⟩ := h
  refine ⟨fun b => if h : ∃ j x, zs[j]? = some (x, f b) then h.choose else 0, hok, inner, by rw [List.length_zipIdx, List.length_map]; exact hown, by rw [List.length_zipIdx, List.length_map]; exact hr.1, fun j p hj => ?_⟩
  rw [List.getElem?_zipIdx, List.getElem?_map, Option.map_map] at hj
  obtain ⟨⟨x, k⟩, hz, rfl⟩ := Option.map_eq_some_iff.1 hj
  have hM := hr.2 j _ hz
  refine d.M_mono (fun b hb => ⟨hb.1, ?_⟩) hM
  have hfb : f b = k := hb.2
  have hex : ∃ j x, zs[j]? = some (x, f b) := ⟨j, x, by rw [hfb]; exact hz⟩
  show (if h : ∃ j x, zs[j]? = some (x, f b) then h.choose else 0) = 0 + j
  rw [dif_pos hex, Nat.zero_add]
  obtain ⟨y, hy⟩ := hex.choose_spec
  exact hn _ _ _ _ _ hy (hfb.symm ▸ hz)
theorem flat_chunk {sz : Nat} : ∀ (rows : List (List Value)), (∀ r ∈ rows, r.length = sz) → rows.flatten.length = rows.length * sz ∧ ∀ (j : Nat) (p : List Value), rows[j]? = some p → (rows.flatten.drop (j * sz)).take sz = p
  | [], _ => ⟨by simp, fun j p h => by simp at h⟩
  | r :: rows, h => by
    have hr := h r (by simp)
    obtain ⟨h1, h2⟩ := flat_chunk rows (fun q hq => h q (by simp [hq]))
    refine ⟨by simp [hr, h1, Nat.add_mul, Nat.add_comm], fun j p hj => ?_⟩
    cases j with
    | zero =>
      simp only [List.getElem?_cons_zero, Option.some.injEq] at hj
      subst hj
      simp [← hr]
    | succ j =>
      rw [List.getElem?_cons_succ] at hj
      rw [List.flatten_cons, Nat.succ_mul, Nat.add_comm, ← List.drop_drop, ← hr, List.drop_left, hr]
      exact h2 j p hj
theorem flat_len {sz : Nat} {rows : List (List Value)} (h : ∀ r ∈ rows, r.length = sz) : rows.flatten.length = rows.length * sz := (flat_chunk rows h).1
theorem flat_take {sz : Nat} {rows : List (List Value)} (h : ∀ r ∈ rows, r.length = sz) {i : Nat} (hi : i ≤ rows.length) : (rows.take i).flatten = rows.flatten.take (i * sz) ∧ (rows.drop i).flatten = rows.flatten.drop (i * sz) := by
  have hl : (rows.take i).flatten.length = i * sz := by
    rw [flat_len (fun r hr => h r (List.mem_of_mem_take hr)), List.length_take, Nat.min_eq_left hi]
  have e : rows.flatten = (rows.take i).flatten ++ (rows.drop i).flatten := by rw [← List.flatten_append, List.take_append_drop]
  rw [e, ← hl]
  simp
/-- A row of cells, and its block. -/
structure RawB (z e base : Nat) (w : World) (g n cap : Nat) (cur : Array Value) (rows : List (List Value)) : Prop where
  blk : w.heap[g]? = some (.cells cur e (0, 0))
  bg : base ≤ g
  len : n = rows.length
  le : n ≤ cap
  mx : cap ≤ maxLen
  sz : cur.size = cap * z
  tk : cur.toList.take (n * z) = rows.flatten
  el : ∀ r ∈ rows, r.length = z
  one : ∀ r ∈ rows, ∀ u ∈ r, u.oneCell' = true
theorem raw_block {sz e base n cap : Nat} {w : World} {ok : Nat → Prop} {ad : Addr} {rows : List (List Value)} (h : (Kd.raw sz).R e w base ok (.slice (some ad) n cap) rows) : ∃ g cur, ad = ⟨g, 0, none⟩ ∧ RawB sz e base w g n cap cur rows := by
  have hn := (Kd.R_reads' h).1
  obtain ⟨_, inner, hown, hr⟩ := h
  have hel : ∀ r ∈ rows, r.length = sz ∧ ∀ u ∈ r, u.oneCell' = true := by
    intro r hm
    obtain ⟨j, hj, rfl⟩ := List.getElem_of_mem hm
    have h3 := hr.2 j _ (List.getElem?_eq_getElem hj)
    exact ⟨h3.1 ▸ h3.2.1, fun u hu => h3.2.2 u (h3.1 ▸ hu)⟩
  have hfl : inner = rows.flatten := by
    obtain ⟨f1, f2⟩ := flat_chunk rows (fun r hr => (hel r hr).1)
    have hl : inner.length = rows.length * sz := hr.1
    rcases Nat.eq_zero_or_pos sz with h0 | h0
    · rw [h0, Nat.mul_zero] at hl f1
      rw [List.eq_nil_of_length_eq_zero hl, List.eq_nil_of_length_eq_zero f1]
    apply List.ext_getElem?
    intro k
    rcases Nat.lt_or_ge k (rows.length * sz) with hk | hk
    · have hj : k / sz < rows.length := by rw [Nat.div_lt_iff_lt_mul h0]; exact hk
      have hx := List.getElem?_eq_getElem hj
      have e1 : (inner.drop (k / sz * sz)).take sz = rows[k / sz] := (hr.2 _ _ hx).1
      have e2 := f2 _ _ hx
      have hkm : k = k / sz * sz + k % sz := by rw [Nat.mul_comm]; exact (Nat.div_add_mod k sz).symm
      have hm := Nat.mod_lt k h0
      have e3 := congrArg (fun l => l[k % sz]?) (e1.trans e2.symm)
      simp only [List.getElem?_take, List.getElem?_drop] at e3
      rw [if_pos hm, if_pos hm] at e3
      rw [← hkm] at e3
      exact e3
    · rw [List.getElem?_eq_none (by omega), List.getElem?_eq_none (by omega)]
  rcases hown.2 with ⟨hv, _⟩ | ⟨g, cap', cur, hv, hb, hh, hnc, hcm, hcs, htake⟩
  · cases hv
  injection hv with ha _ hc
  injection ha with ha
  subst hc
  exact ⟨g, cur, ha, hh, hb, hn, by omega, hcm, hcs, by rw [hn, ← hfl]; exact htake, fun r hm => (hel r hm).1, fun r hm => (hel r hm).2⟩
theorem RawB.raw {sz e base g n cap : Nat} {w : World} {cur : Array Value} {rows : List (List Value)} (h : RawB sz e base w g n cap cur rows) : (Kd.raw sz).R e w base (fun _ => True) (.slice (some ⟨g, 0, none⟩) n cap) rows := by
  obtain ⟨f1, f2⟩ := flat_chunk (sz := sz) rows h.el
  refine ⟨fun _ _ => trivial, rows.flatten, ⟨f1, .inr ⟨g, cap, cur, by rw [h.len], h.bg, h.blk, by rw [← h.len]; exact h.le, h.mx, h.sz, by rw [← h.len]; exact h.tk⟩⟩, f1, fun j p hj => ?_⟩
  have hm := List.mem_of_getElem? hj
  have e : (rows.flatten.drop (j * sz)).take sz = p := f2 j p hj
  exact ⟨e, e.symm ▸ h.el p hm, e.symm ▸ h.one p hm⟩
theorem RawB.cells {sz e base g n cap : Nat} {w : World} {cur : Array Value} {rows : List (List Value)} (h : RawB sz e base w g n cap cur rows) (j : Nat) (u : Value) (hu : rows.flatten[j]? = some u) : w.cell? ⟨g, j, none⟩ = some u := by
  rw [blk_cell h.blk j]
  rw [← h.tk, List.getElem?_take] at hu
  split at hu
  · simpa using hu
  · cases hu
theorem RawB.flat1 {sz e base g n cap : Nat} {w : World} {cur : Array Value} {rows : List (List Value)} (h : RawB sz e base w g n cap cur rows) : ∀ u ∈ rows.flatten, u.oneCell' = true := by
  intro u hu
  obtain ⟨r, hr, hur⟩ := List.mem_flatten.1 hu
  exact h.one r hr u hur
/-- The lists of an element put between. -/
theorem splice_in (C F x : List Value) (o2 o1 m : Nat) (hC : C.take o2 = F.take o2) (hl : o2 ≤ F.length) (h1 : o1 = o2 + x.length) (hm : m = o1 + (F.length - o2)) (hCl : m ≤ C.length) (hCo : o2 ≤ C.length) :
    ((((C.take o1 ++ F.drop o2 ++ C.drop (o1 + (F.drop o2).length)).take o2) ++ x ++ (C.take o1 ++ F.drop o2 ++ C.drop (o1 + (F.drop o2).length)).drop (o2 + x.length)).take m) = F.take o2 ++ (x ++ F.drop o2) := by
  have e1 : (C.take o1 ++ F.drop o2 ++ C.drop (o1 + (F.drop o2).length)).take o2 = F.take o2 := by
    rw [List.append_assoc, List.take_append_of_le_length (by rw [List.length_take]; omega), List.take_take, Nat.min_eq_left (by omega), hC]
  have e2 : (C.take o1 ++ F.drop o2 ++ C.drop (o1 + (F.drop o2).length)).drop (o2 + x.length) = F.drop o2 ++ C.drop (o1 + (F.drop o2).length) := by
    have hlt : (C.take o1).length = o2 + x.length := by rw [List.length_take]; omega
    rw [List.append_assoc, ← hlt, List.drop_left]
  rw [e1, e2]
  have hll : (F.take o2 ++ x ++ F.drop o2).length = m := by
    rw [List.length_append, List.length_append, List.length_take, List.length_drop]; omega
  rw [← List.append_assoc, ← hll, List.take_left, List.append_assoc]
theorem splice_in2 (C F x : List Value) (o2 o1 m : Nat) (hC : C.take o2 = F.take o2) (hl : o2 ≤ F.length) (h1 : o1 = o2 + x.length) (hm : m = o1 + (F.length - o2)) (hCl : m ≤ C.length) :
    ((((C.take o2 ++ x ++ C.drop (o2 + x.length)).take o1) ++ F.drop o2 ++ (C.take o2 ++ x ++ C.drop (o2 + x.length)).drop (o1 + (F.drop o2).length)).take m) = F.take o2 ++ (x ++ F.drop o2) := by
  have e1 : (C.take o2 ++ x ++ C.drop (o2 + x.length)).take o1 = F.take o2 ++ x := by
    have hlt : (C.take o2 ++ x).length = o1 := by rw [List.length_append, List.length_take]; omega
    rw [← hlt, List.take_left, hC]
  rw [e1]
  have hll : (F.take o2 ++ x ++ F.drop o2).length = m := by
    rw [List.length_append, List.length_append, List.length_take, List.length_drop]; omega
  rw [← hll, List.take_left, List.append_assoc]
/-- One element cleared. -/
theorem run_clear_sz {P : Program} (w : World) (t e ty : TypeId) (z : Value) (sz : Nat) (ht : P.underlying t = some (.slice e)) (hv : ∀ w, (zeroValue e).run P w = .ok z w) (hz : z.cells.size = sz) (h0 : 0 < sz) (h1 : ∀ u ∈ z.cells.toList, u.oneCell' = true) (g o c : Nat) (cur : Array Value) (t' : TypeId) (hg : w.heap[g]? = some (.cells cur t' (0, 0))) (hfit : o + sz ≤ cur.size) :
    (Builtin.clear_ #[t] ty #[.slice (some ⟨g, o, none⟩) 1 c]).run P w = .ok (.tuple #[]) (w.setRow g (cur.toList.take o ++ z.cells.toList ++ cur.toList.drop (o + sz)).toArray) := by
  have hzc : (Builtin.zeroCells z.cells 1).toList = z.cells.toList := by
    apply List.ext_getElem
    · simp [Builtin.zeroCells]
    · intro i h2 h3
      simp only [Array.length_toList] at h3
      simp [Builtin.zeroCells, Nat.mod_eq_of_lt h3, h3]
  have hl : z.cells.toList.length = sz := by rw [Array.length_toList]; exact hz
  have hst := run_storeCells_at P g o t' z.cells.toList 0 cur w hg (by rw [hl]; simpa using hfit) h1
  rw [hl] at hst
  simp only [Nat.add_zero] at hst
  simp [Builtin.clear_, run_underlying ht, hv, hzc, hst]
theorem wpList_clear_w {P : Program} (w : World) {ops : Array Oper} {rest : List Oper} {o : Oper} {a : Act} {Q : Exit → Act → World → Prop} (hgd : o.guard = none) (d : Operand) (t : TypeId)
    (ho : o.op = .call { callee := .builtin .clear, args := #[d], argTypes := #[t] }) (v : Value) (hd : a.eval d = v) {v' : Value} {w' : World}
    (hr : (Builtin.clear_ #[t] o.type #[v]).run P w = .ok v' w') (h : wpList P ops Q rest (a.put o.dst v') w') : wpList P ops Q (o :: rest) a w :=
  wpList_plain hgd fun K hK => by
    unfold Oper.wp
    simp [execOp, ho, resolve, invoke, builtin, hd, hr, Result.andThen]
    exact hK _ _ h
theorem grown_step_row {w w1 : World} {g : Nat} {cs : Array Value} (h : w.grownBy w1 (some g)) : w.grownBy (w1.setRow g cs) (some g) := ⟨h.os, h.tape, h.output, Nat.le_trans h.size (by simp [World.setRow]), fun k hk hr => (setRow_other w1 g k cs (fun e => hr (by rw [e]))).trans (h.block k hk hr)⟩
theorem ins_at {α : Type} (l : List α) (a : α) (i : Nat) (hi : i ≤ l.length) (j : Nat) : (l.take i ++ a :: l.drop i)[j]? = if j < i then l[j]? else if j = i then some a else l[j - 1]? := by
  have hl : (l.take i).length = i := by rw [List.length_take]; omega
  rcases Nat.lt_trichotomy j i with h | h | h
  · rw [List.getElem?_append_left (by omega), List.getElem?_take, if_pos h, if_pos h]
  · subst h
    rw [List.getElem?_append_right (by omega), hl]
    simp
  · rw [List.getElem?_append_right (by omega), hl, if_neg (by omega), if_neg (by omega)]
    obtain ⟨k, rfl⟩ : ∃ k, j = i + 1 + k := ⟨j - i - 1, by omega⟩
    rw [show i + 1 + k - i = k + 1 by omega, List.getElem?_cons_succ, List.getElem?_drop, show i + 1 + k - 1 = i + k by omega]
theorem ins_len {α : Type} (l : List α) (a : α) (i : Nat) (hi : i ≤ l.length) : (l.take i ++ a :: l.drop i).length = l.length + 1 := by
  rw [List.length_append, List.length_cons, List.length_take, List.length_drop]
  omega
theorem ins_moved {α : Type} {xs : List α} {rows : List (List Value)} {x : α} {c : List Value} {i : Nat} {q : α → List Value → Prop} (hl : rows.length = xs.length) (hi : i ≤ xs.length) (hq : q x c) (j : Nat) (y : α) (hy : (xs.take i ++ x :: xs.drop i)[j]? = some y) :
    (∃ m : Nat, xs[m]? = some y ∧ (rows.take i ++ c :: rows.drop i)[j]? = rows[m]?) ∨ ∃ c', (rows.take i ++ c :: rows.drop i)[j]? = some c' ∧ q y c' := by
  rw [ins_at xs x i hi] at hy
  rw [ins_at rows c i (by omega)]
  by_cases h1 : j < i
  · rw [if_pos h1] at hy ⊢
    exact .inl ⟨j, hy, rfl⟩
  · rw [if_neg h1] at hy ⊢
    by_cases h2 : j = i
    · rw [if_pos h2] at hy ⊢
      obtain rfl := Option.some.inj hy
      exact .inr ⟨c, rfl, hq⟩
    · rw [if_neg h2] at hy ⊢
      exact .inl ⟨j - 1, hy, rfl⟩

-- imports: Derived.Laws.Externs Derived.Deep.RegionLaw Derived.Laws.NewBlocks
set_option maxHeartbeats 4000000 in
set_option maxRecDepth 100000 in
/-- slices.Delete of one element, the row as cells. -/
theorem del_cell (w : World) (base g c : Nat) (rows : List (List Value)) (i : Nat) (hR : (Kd.raw 11).R 30 w base (fun _ => True) (.slice (some ⟨g, 0, none⟩) rows.length c) rows) (hi : i < rows.length) (hbase : base ≤ w.heap.size) (hbig : rows.length < 1000000) :
    Calls Tryd.prog 30 #[.slice (some ⟨g, 0, none⟩) rows.length c, .int .i64 i, .int .i64 ((i : Int) + 1)] w fun e_ w' => e_ = .returned (.slice (some ⟨g, 0, none⟩) (rows.length - 1) c) ∧ (Kd.raw 11).R 30 w' base (fun _ => True) (.slice (some ⟨g, 0, none⟩) (rows.length - 1) c) (rows.eraseIdx i) ∧ w.grownBy w' (some g) := by
  have hu := Tryd.underlying40
  obtain ⟨i0, hi0, hz0, hzs, hzb⟩ := info_parts (P := Tryd.prog) (e := 30) (z := (Value.agg #[(.string ⟨#[]⟩), (.int .i64 0), (.int .i64 0), (.int .i64 0), (.int .i64 0), (.int .i64 0), (.int .i64 0), (.int .i64 0), (.int .i64 0), (.int .i64 0), (.int .i64 0)])) (size := 11) (bytes := 96) (by kernel_rfl)
  have hzv : ∀ w, (zeroValue 30).run Tryd.prog w = .ok (Value.agg #[(.string ⟨#[]⟩), (.int .i64 0), (.int .i64 0), (.int .i64 0), (.int .i64 0), (.int .i64 0), (.int .i64 0), (.int .i64 0), (.int .i64 0), (.int .i64 0), (.int .i64 0)]) w := fun w => by simp [zeroValue, typeInfo, hi0, hz0]
  have hle : rows.length ≤ c := (Kd.R_reads' hR).2.1
  have hz2 : ¬ ((i : Int) = (i : Int) + 1) := by omega
  have hb0 : (0 : Int) ≤ (i : Int) + 1 := by omega
  have hb1 : (i : Int) ≤ (rows.length : Int) := by omega
  have hb2 : (i : Int) + 1 ≤ (rows.length : Int) := by omega
  have hb3 : (i : Int) ≤ (i : Int) + 1 := by omega
  have hb4 : i ≤ i + 1 := by omega
  have hb5 : i + 1 ≤ rows.length := by omega
  have hb6 : i ≤ rows.length := by omega
  have hb7 : i ≤ c := by omega
  have hb8 : rows.length - 1 ≤ rows.length := by omega
  have hb9 : ((rows.length - 1 : Nat) : Int) ≤ (rows.length : Int) := by omega
  have hb10 : rows.length - (rows.length - 1) = 1 := by omega
  have htn : ((i : Int) + 1).toNat = i + 1 := by omega
  have hci : ¬ (c = i) := by omega
  have hcn : ¬ (c = rows.length - 1) := by omega
  have hri : ¬ (rows.length = i) := by omega
  have HR := Aside0.mk hR
  clear hR hi0 hz0 hzs hzb
  by_cases hc1 : c = i + 1
  · subst hc1
    go_enter Tryd.func30, Tryd.ntmps30
    go_upto_region 5 with (fail)
    go_region_law (refine Kd.R_delete_step (Kd.raw 11) (w0 := w) base (by rfl) (.tmp 22) (.tmp 25) 40 30 rfl hu (by kernel_rfl) (g := g) (n := rows.length) (c := i + 1) (k := i) (m := rows.length - (i + 1)) (c2 := 0) (A := some ⟨g, 0, none⟩) (xs := rows) (ok := fun _ => True) (by simp [Act.eval, Act.put]) (by simp [Act.eval, Act.put]; try omega) (by rw [if_pos rfl]) rfl (Kd.R_drew HR.out) hi (below_drew (Below.refl _ _)) hbase ?_; intro w1 hr1 hb1_ hg1)
    obtain ⟨g', cur, hgg, hB⟩ := raw_block hr1
    obtain rfl : g = g' := by injection hgg
    have hel : (rows.eraseIdx i).length = rows.length - 1 := by rw [List.length_eraseIdx, if_pos hi]
    have hcz : cur.toList.length = (i + 1) * 11 := by rw [Array.length_toList]; exact hB.sz
    have hml : (rows.length - 1) * 11 + 11 ≤ (i + 1) * 11 := by
      have := Nat.mul_le_mul_right 11 (show rows.length - 1 + 1 ≤ i + 1 by omega)
      rw [Nat.succ_mul] at this
      exact this
    obtain ⟨Z, hZ⟩ : ∃ Z : List Value, Z = (Value.agg #[(.string ⟨#[]⟩), (.int .i64 0), (.int .i64 0), (.int .i64 0), (.int .i64 0), (.int .i64 0), (.int .i64 0), (.int .i64 0), (.int .i64 0), (.int .i64 0), (.int .i64 0)]).cells.toList := ⟨_, rfl⟩
    have hZl : Z.length = 11 := by rw [hZ]; rfl
    obtain ⟨C2, hC2⟩ : ∃ C2, C2 = cur.toList.take ((rows.length - 1) * 11) ++ Z ++ cur.toList.drop ((rows.length - 1) * 11 + 11) := ⟨_, rfl⟩
    have hcl : ∀ ty cc, (Builtin.clear_ #[40] ty #[.slice (some ⟨g, (rows.length - 1) * 11, none⟩) 1 cc]).run Tryd.prog w1 = .ok (.tuple #[]) (w1.setRow g C2.toArray) := fun ty cc => by
      rw [hC2, hZ]
      exact run_clear_sz (P := Tryd.prog) w1 40 30 ty _ 11 hu hzv rfl (by decide) (by intro u hu_; simp [Value.cells] at hu_; rcases hu_ with h | h <;> subst h <;> rfl) g ((rows.length - 1) * 11) cc cur 30 hB.blk (by rw [← Array.length_toList]; omega)
    have hC2l : C2.length = (i + 1) * 11 := by
      rw [hC2, List.length_append, List.length_append, List.length_take, List.length_drop, hZl, hcz]
      omega
    have hC2t : C2.take ((rows.length - 1) * 11) = (rows.eraseIdx i).flatten := by
      have hl_ : (cur.toList.take ((rows.length - 1) * 11)).length = (rows.length - 1) * 11 := by
        rw [List.length_take, hcz]
        omega
      rw [hC2, List.append_assoc, List.take_left' hl_]
      exact hB.tk
    have HCL := Aside0.mk hcl
    have HB := Aside0.mk hB
    have HG := Aside0.mk (show w.grownBy w1 (some g) from ⟨hg1.os, hg1.tape, hg1.output, hg1.size, hg1.block⟩)
    have HL := Aside0.mk hC2l
    have HT := Aside0.mk hC2t
    clear hr1 hB hg1 hel hcz hml hb1_ hgg hZ hZl hC2 hC2l hC2t hcl
    go_wp2_with (show wpList _ _ _ (Oper.mk none _ _ _ _ _ :: _) _ _; refine wpList_clear_w _ rfl (.tmp 31) 40 rfl _ rfl (HCL.out _ _) ?_)
    go_ret
    refine ⟨rfl, RawB.raw (cur := C2.toArray) ⟨setRow_heap w1 g _ _ 30 _ HB.out.blk, HB.out.bg, HB.out.len, HB.out.le, HB.out.mx, by rw [List.size_toArray]; exact HL.out, by rw [List.toList_toArray]; exact HT.out, HB.out.el, HB.out.one⟩, grown_step_row HG.out⟩
  · go_enter Tryd.func30, Tryd.ntmps30
    go_upto_region 5 with (fail)
    go_region_law (refine Kd.R_delete_step (Kd.raw 11) (w0 := w) base (by rfl) (.tmp 22) (.tmp 25) 40 30 rfl hu (by kernel_rfl) (g := g) (n := rows.length) (c := c) (k := i) (m := rows.length - (i + 1)) (c2 := c - (i + 1)) (A := some ⟨g, (i + 1) * 11, none⟩) (xs := rows) (ok := fun _ => True) (by simp [Act.eval, Act.put]) (by simp [Act.eval, Act.put]) (by rw [if_neg hc1, Option.map_some, add_plain]; rfl) rfl (Kd.R_drew HR.out) hi (below_drew (Below.refl _ _)) hbase ?_; intro w1 hr1 hb1_ hg1)
    obtain ⟨g', cur, hgg, hB⟩ := raw_block hr1
    obtain rfl : g = g' := by injection hgg
    have hel : (rows.eraseIdx i).length = rows.length - 1 := by rw [List.length_eraseIdx, if_pos hi]
    have hcz : cur.toList.length = (c) * 11 := by rw [Array.length_toList]; exact hB.sz
    have hml : (rows.length - 1) * 11 + 11 ≤ (c) * 11 := by
      have := Nat.mul_le_mul_right 11 (show rows.length - 1 + 1 ≤ c by omega)
      rw [Nat.succ_mul] at this
      exact this
    obtain ⟨Z, hZ⟩ : ∃ Z : List Value, Z = (Value.agg #[(.string ⟨#[]⟩), (.int .i64 0), (.int .i64 0), (.int .i64 0), (.int .i64 0), (.int .i64 0), (.int .i64 0), (.int .i64 0), (.int .i64 0), (.int .i64 0), (.int .i64 0)]).cells.toList := ⟨_, rfl⟩
    have hZl : Z.length = 11 := by rw [hZ]; rfl
    obtain ⟨C2, hC2⟩ : ∃ C2, C2 = cur.toList.take ((rows.length - 1) * 11) ++ Z ++ cur.toList.drop ((rows.length - 1) * 11 + 11) := ⟨_, rfl⟩
    have hcl : ∀ ty cc, (Builtin.clear_ #[40] ty #[.slice (some ⟨g, (rows.length - 1) * 11, none⟩) 1 cc]).run Tryd.prog w1 = .ok (.tuple #[]) (w1.setRow g C2.toArray) := fun ty cc => by
      rw [hC2, hZ]
      exact run_clear_sz (P := Tryd.prog) w1 40 30 ty _ 11 hu hzv rfl (by decide) (by intro u hu_; simp [Value.cells] at hu_; rcases hu_ with h | h <;> subst h <;> rfl) g ((rows.length - 1) * 11) cc cur 30 hB.blk (by rw [← Array.length_toList]; omega)
    have hC2l : C2.length = (c) * 11 := by
      rw [hC2, List.length_append, List.length_append, List.length_take, List.length_drop, hZl, hcz]
      omega
    have hC2t : C2.take ((rows.length - 1) * 11) = (rows.eraseIdx i).flatten := by
      have hl_ : (cur.toList.take ((rows.length - 1) * 11)).length = (rows.length - 1) * 11 := by
        rw [List.length_take, hcz]
        omega
      rw [hC2, List.append_assoc, List.take_left' hl_]
      exact hB.tk
    have HCL := Aside0.mk hcl
    have HB := Aside0.mk hB
    have HG := Aside0.mk (show w.grownBy w1 (some g) from ⟨hg1.os, hg1.tape, hg1.output, hg1.size, hg1.block⟩)
    have HL := Aside0.mk hC2l
    have HT := Aside0.mk hC2t
    clear hr1 hB hg1 hel hcz hml hb1_ hgg hZ hZl hC2 hC2l hC2t hcl
    go_wp2_with (show wpList _ _ _ (Oper.mk none _ _ _ _ _ :: _) _ _; refine wpList_clear_w _ rfl (.tmp 31) 40 rfl _ rfl (HCL.out _ _) ?_)
    go_ret
    refine ⟨rfl, RawB.raw (cur := C2.toArray) ⟨setRow_heap w1 g _ _ 30 _ HB.out.blk, HB.out.bg, HB.out.len, HB.out.le, HB.out.mx, by rw [List.size_toArray]; exact HL.out, by rw [List.toList_toArray]; exact HT.out, HB.out.el, HB.out.one⟩, grown_step_row HG.out⟩
/-- slices.Delete of a cell of a row of one's own. -/
theorem del_cellR (w : World) (base g c n : Nat) (xs : List S30) (i : Nat) (hR : Kd.R k30 30 w base (fun _ => True) (.slice (some ⟨g, 0, none⟩) n c) xs) (hn : n = xs.length) (hi : i < n) (hbase : base ≤ w.heap.size) (hbig : n < 1000000) :
    Calls Tryd.prog 30 #[.slice (some ⟨g, 0, none⟩) n c, .int .i64 i, .int .i64 ((i : Int) + 1)] w fun e_ w' => e_ = .returned (.slice (some ⟨g, 0, none⟩) (n - 1) c) ∧ Kd.R k30 30 w' base (fun _ => True) (.slice (some ⟨g, 0, none⟩) (n - 1) c) (xs.eraseIdx i) ∧ w.grownBy w' (some g) := by
  obtain ⟨rows, hl, hraw, hback⟩ := R_moved hR
  obtain rfl : n = rows.length := by omega
  refine (del_cell w base g c rows i hraw hi hbase hbig).mono ?_
  rintro e_ w' ⟨rfl, hr, hg⟩
  refine ⟨rfl, hback (by rw [List.length_eraseIdx, List.length_eraseIdx, hl]) hr hg (.inl rfl) (fun j y hy => ?_), hg⟩
  rw [List.getElem?_eraseIdx] at hy ⊢
  split at hy
  · rename_i h
    rw [if_pos h]
    exact .inl ⟨j, hy, rfl⟩
  · rename_i h
    rw [if_neg h]
    exact .inl ⟨j + 1, hy, rfl⟩

open Classical in
/-- A row that is read, as cells. -/
theorem C_raw {α : Type} {d : Kd α} {w : World} {A : Option Addr} {n : Nat} {xs : List α} (h : d.C w A n xs) : ∃ rows : List (List Value), rows.length = xs.length ∧ (Kd.raw d.sz).C w A n rows ∧ ∀ (j : Nat) (x : α) (c : List Value), xs[j]? = some x → rows[j]? = some c → d.K w x c := by
  obtain ⟨hn, hb, hc⟩ := h
  rcases Nat.eq_zero_or_pos n with h0 | h0
  · subst h0
    obtain rfl := List.eq_nil_of_length_eq_zero hn
    exact ⟨[], rfl, ⟨rfl, hb, fun h => absurd h (by omega)⟩, fun j x c hx _ => by simp at hx⟩
  · obtain ⟨ad, rfl, hj⟩ := hc h0
    have hex : ∀ j, ∃ c : List Value, ∀ p, xs[j]? = some p → c.length = d.sz ∧ d.K w p c ∧ ∀ i u, c[i]? = some u → w.cell? (ad.add (j * d.sz + i)) = some u := by
      intro j
      by_cases hl : j < xs.length
      · obtain ⟨c, h1⟩ := hj j _ (List.getElem?_eq_getElem hl)
        exact ⟨c, fun p hp => by rw [List.getElem?_eq_getElem hl] at hp; obtain rfl := Option.some.inj hp; exact h1⟩
      · exact ⟨[], fun p hp => by rw [List.getElem?_eq_none (by omega)] at hp; cases hp⟩
    have hget : ∀ j c, ((List.range xs.length).map fun j => (hex j).choose)[j]? = some c → ∃ x, xs[j]? = some x ∧ c = (hex j).choose := by
      intro j c hjc
      rw [List.getElem?_map] at hjc
      obtain ⟨k, hk, rfl⟩ := Option.map_eq_some_iff.1 hjc
      have hl := (List.getElem?_eq_some_iff.1 hk).1
      rw [List.length_range] at hl
      rw [List.getElem?_range hl] at hk
      obtain rfl := Option.some.inj hk
      exact ⟨_, List.getElem?_eq_getElem hl, rfl⟩
    refine ⟨(List.range xs.length).map fun j => (hex j).choose, by simp, ⟨by simpa using hn, hb, fun _ => ⟨ad, rfl, fun j p hp => ?_⟩⟩, fun j x c hx hc => ?_⟩
    · obtain ⟨x, hx, rfl⟩ := hget j p hp
      obtain ⟨h1, h2, h3⟩ := (hex j).choose_spec x hx
      exact ⟨_, h1, ⟨rfl, h1, d.K_one h2⟩, h3⟩
    · obtain ⟨x', hx', rfl⟩ := hget j c hc
      rw [hx] at hx'
      obtain rfl := Option.some.inj hx'
      exact ((hex j).choose_spec x hx).2.1
/-- Cells that are read, as a row. -/
theorem raw_C {α : Type} {d : Kd α} {w : World} {A : Option Addr} {n : Nat} {xs : List α} {rows : List (List Value)} (h : (Kd.raw d.sz).C w A n rows) (hl : rows.length = xs.length) (hk : ∀ (j : Nat) (x : α) (c : List Value), xs[j]? = some x → rows[j]? = some c → d.K w x c) : d.C w A n xs := by
  obtain ⟨hn, hb, hc⟩ := h
  refine ⟨by omega, hb, fun h0 => ?_⟩
  obtain ⟨ad, rfl, hj⟩ := hc h0
  refine ⟨ad, rfl, fun j p hp => ?_⟩
  have hlt : j < rows.length := by rw [hl]; exact (List.getElem?_eq_some_iff.1 hp).1
  have hr := List.getElem?_eq_getElem hlt
  obtain ⟨c, h1, h2, h3⟩ := hj j _ hr
  have hKp := hk j p _ hp hr
  exact ⟨c, h1, h2.1.symm ▸ hKp, h3⟩
theorem RawB.alloc {sz e base g n cap : Nat} {w : World} {cur : Array Value} {rows : List (List Value)} (h : RawB sz e base w g n cap cur rows) (o : Obj) : RawB sz e base (w.alloc o) g n cap cur rows := ⟨blk_alloc h.blk o, h.bg, h.len, h.le, h.mx, h.sz, h.tk, h.el, h.one⟩
theorem RawB.grown {sz e base g n cap b : Nat} {w w1 : World} {cur : Array Value} {rows : List (List Value)} (h : RawB sz e base w g n cap cur rows) (hg : w.grownBy w1 (some b)) (hne : g ≠ b) : RawB sz e base w1 g n cap cur rows := ⟨blk_grown h.blk hg (fun e => hne (Option.some.inj e)), h.bg, h.len, h.le, h.mx, h.sz, h.tk, h.el, h.one⟩
/-- What a step leaves of rows that have no more than N elements. -/
def StN (sz e base N : Nat) (W W1 : World) : Prop := ∀ (g n cap : Nat) (cur : Array Value) (rows : List (List Value)), RawB sz e base W g n cap cur rows → n ≤ N → ∃ cur2, RawB sz e base W1 g n cap cur2 rows
theorem StN.alloc (sz e base N : Nat) (W : World) (o : Obj) : StN sz e base N W (W.alloc o) := fun _ _ _ cur _ h _ => ⟨cur, h.alloc o⟩
theorem C_same {α : Type} {d : Kd α} {w : World} {A : Option Addr} {n : Nat} {xs : List α} {rows : List (List Value)} (h : d.C w A n xs) (hr : (Kd.raw d.sz).C w A n rows) (j : Nat) (x : α) (c : List Value) (hx : xs[j]? = some x) (hc : rows[j]? = some c) : d.K w x c := by
  have hn : 0 < n := by
    have := (List.getElem?_eq_some_iff.1 hx).1
    have := h.1
    omega
  obtain ⟨ad, rfl, h1⟩ := h.2.2 hn
  obtain ⟨ad', he, h2⟩ := hr.2.2 hn
  obtain rfl := Option.some.inj he
  obtain ⟨c1, l1, k1, e1⟩ := h1 j x hx
  obtain ⟨c2, l2, k2, e2⟩ := h2 j c hc
  have l2' : c2.length = d.sz := l2
  have hcc : c2 = c := k2.1
  have : c1 = c2 := by
    apply List.ext_getElem (by rw [l1, l2'])
    intro i i1 i2
    have a1 := e1 i _ (List.getElem?_eq_getElem i1)
    have a2 := e2 i _ (List.getElem?_eq_getElem i2)
    have a3 : some c1[i] = some c2[i] := a1.symm.trans a2
    exact Option.some.inj a3
  rw [← hcc, ← this]
  exact k1
theorem raw_C_grown {sz n b : Nat} {w w1 : World} {ad : Addr} {rows : List (List Value)} (h : (Kd.raw sz).C w (some ad) n rows) (hg : w.grownBy w1 (some b)) (hne : ∀ m, (ad.add m).block ≠ b) : (Kd.raw sz).C w1 (some ad) n rows := by
  obtain ⟨h1, h2, h3⟩ := h
  refine ⟨h1, h2, fun h0 => ?_⟩
  obtain ⟨ad', he, hj⟩ := h3 h0
  obtain rfl := Option.some.inj he
  refine ⟨ad, rfl, fun j p hp => ?_⟩
  obtain ⟨c, l, k, e⟩ := hj j p hp
  exact ⟨c, l, k, fun i u hu => cell_grown hg (e i u hu) (fun e' => hne _ (Option.some.inj e'))⟩
theorem mix_at {α : Type} (X Y : List α) (a : α) (i : Nat) (hx : i ≤ X.length) (j : Nat) : (X.take i ++ [a] ++ Y.drop i)[j]? = if j < i then X[j]? else if j = i then some a else Y[j - 1]? := by
  have hl : (X.take i).length = i := by rw [List.length_take]; omega
  rw [List.append_assoc, List.singleton_append]
  rcases Nat.lt_trichotomy j i with h | h | h
  · rw [List.getElem?_append_left (by omega), List.getElem?_take, if_pos h, if_pos h]
  · subst h
    rw [List.getElem?_append_right (by omega), hl]
    simp
  · rw [List.getElem?_append_right (by omega), hl, if_neg (by omega), if_neg (by omega)]
    obtain ⟨k, rfl⟩ : ∃ k, j = i + 1 + k := ⟨j - i - 1, by omega⟩
    rw [show i + 1 + k - i = k + 1 by omega, List.getElem?_cons_succ, List.getElem?_drop, show i + 1 + k - 1 = i + k by omega]
/-- Cells of one's own, as a row of one's own. -/
theorem raw_R {α : Type} {d : Kd α} {e base : Nat} {w : World} {v : Value} {xs : List α} {rows : List (List Value)} (h : (Kd.raw d.sz).R e w base (fun _ => True) v rows) (hl : rows.length = xs.length) (hk : ∀ (j : Nat) (x : α) (c : List Value), xs[j]? = some x → rows[j]? = some c → ∀ okq, d.M w base okq x c) : d.R e w base (fun _ => True) v xs := by
  obtain ⟨_, inner, hown, hr⟩ := h
  refine ⟨fun _ _ => trivial, inner, by rw [← hl]; exact hown, by rw [← hl]; exact hr.1, fun j x hx => ?_⟩
  have hlt : j < rows.length := by rw [hl]; exact (List.getElem?_eq_some_iff.1 hx).1
  have hrj := List.getElem?_eq_getElem hlt
  have hc : (inner.drop (j * d.sz)).take d.sz = rows[j] := (hr.2 j _ hrj).1
  rw [hc]
  exact hk j x _ hx hrj _
theorem R_size {α : Type} {d : Kd α} {e base g n cap : Nat} {w : World} {ok : Nat → Prop} {xs : List α} (h : d.R e w base ok (.slice (some ⟨g, 0, none⟩) n cap) xs) {cells : Array Value} {t : TypeId} {fr : Nat × Nat} (hb : w.heap[g]? = some (.cells cells t fr)) : cells.size = cap * d.sz ∧ n ≤ cap := by
  have hn := (Kd.R_reads' h).2.1
  obtain ⟨_, inner, hown, _⟩ := h
  rcases hown.2 with ⟨hv, _⟩ | ⟨g', cap', cur, hv, _, hh, _, _, hcs, _⟩
  · cases hv
  · injection hv with ha _ hc
    injection ha with ha
    injection ha with ha
    subst ha
    subst hc
    rw [hh] at hb
    injection hb with hb
    injection hb with hb
    subst hb
    exact ⟨hcs, hn⟩

/-- The place of the first of which p holds; -1, if there is none. -/
def ppIdx {α : Type} (p : α → Bool) (l : List α) : Int := match l.findIdx? p with
  | some i => (i : Int)
  | none => -1
theorem ppIdx_hit {α : Type} (p : α → Bool) (l : List α) (i : Nat) (h : i < l.length) (hp : p l[i] = true) (hn : ∀ j (hj : j < l.length), j < i → p l[j] = false) : ppIdx p l = (i : Int) := by
  unfold ppIdx
  have : l.findIdx? p = some i := by
    rw [List.findIdx?_eq_some_iff_getElem]
    exact ⟨h, hp, fun j hj => by simpa using hn j (by omega) hj⟩
  rw [this]
theorem ppIdx_miss {α : Type} (p : α → Bool) (l : List α) (hn : ∀ j (hj : j < l.length), p l[j] = false) : ppIdx p l = -1 := by
  unfold ppIdx
  have : l.findIdx? p = none := by
    rw [List.findIdx?_eq_none_iff]
    intro x hx
    obtain ⟨j, hj, rfl⟩ := List.getElem_of_mem hx
    exact hn j hj
  rw [this]
theorem keepc {W W' : World} {p : Addr} {v : Value} (h : W.cell? p = some v) (hb : Below W.heap.size W W') : W'.cell? p = some v := (hb.cell (World.block_lt_of_cell? W _ h)).trans h
theorem first_block (W X : World) (o : Obj) (h : X.heap = W.heap.push o) : X.heap[W.heap.size]? = some o := by rw [h]; simp
theorem alloc_cell {W : World} {C : Nat} {o : Obj} (h : W.heap[C]? = some o) : ∀ (o' : Obj) (i : Nat), (W.alloc o').cell? ⟨C, i, none⟩ = W.cell? ⟨C, i, none⟩ := fun o' i => (below_alloc (Below.refl _ W) o').cell (p := ⟨C, i, none⟩) (blk_lt h)
theorem blk_new2 (w : World) (a b : Obj) : ((w.alloc a).alloc b).heap[w.heap.size + 1]? = some b := by
  have h := blk_new (w.alloc a) b
  simpa using h


/-- A state of type 68 at block g of W; what its slices lead to came in by w0. -/
def IsS68 (w0 W : World) (g : Nat) (f0 : List Int) (f1 : Int) : Prop := ∃ A0 c0, W.heap[g]? = some (.cells #[.slice A0 f0.length c0, .int .i64 f1] 68 (0, 0)) ∧ w0.heap.size ≤ g ∧ Kd.C (Kd.int .u8) w0 A0 f0.length f0
theorem IsS68.grown {w0 W : World} {g : Nat} {f0 : List Int} {f1 : Int} {W1 : World} {row : Option Nat} (h : IsS68 w0 W g f0 f1) (hw : W.grownBy W1 row) (hne : some g ≠ row) : IsS68 w0 W1 g f0 f1 := by
  obtain ⟨A0, c0, hb, hg, hr0⟩ := h
  exact ⟨A0, c0, blk_grown hb hw hne, hg, hr0⟩
theorem IsS68.own_neN {w0 W : World} {g : Nat} {f0 : List Int} {f1 : Int} {α : Type} {d : Kd α} {e : Nat} {base : Nat} {ok : Nat → Prop} {v : Value} {xs : List α} (h : IsS68 w0 W g f0 f1) (ho : Kd.N d e W base ok v xs) (ht : e ≠ 68) : some g ≠ v.ownBlock := by
  obtain ⟨A0, c0, hb, hg, hr0⟩ := h
  exact Kd.N_ne ho hb ht
theorem IsS68.fresh {w0 W : World} {g : Nat} {f0 : List Int} {f1 : Int} (h : IsS68 w0 W g f0 f1) : ∀ k, W.heap.size ≤ k → k ≠ g := by
  obtain ⟨A0, c0, hb, hg, hr0⟩ := h
  exact Kd.freshB hb
theorem IsS68.kept {w0 W : World} {g : Nat} {f0 : List Int} {f1 : Int} {W1 : World} {S : Nat → Prop} (h : IsS68 w0 W g f0 f1) (hk : Kept W W1 S) (hne : ¬ S g) : IsS68 w0 W1 g f0 f1 := by
  obtain ⟨A0, c0, hb, hg, hr0⟩ := h
  exact ⟨A0, c0, blk_kept hb hk hne, hg, hr0⟩
theorem IsS68.below {w0 W : World} {g : Nat} {f0 : List Int} {f1 : Int} {W1 : World} (h : IsS68 w0 W g f0 f1) (hw : Below W.heap.size W W1) : IsS68 w0 W1 g f0 f1 := h.grown (grown_of_below hw none) (by simp)
theorem IsS68.alloc {w0 W : World} {g : Nat} {f0 : List Int} {f1 : Int} (h : IsS68 w0 W g f0 f1) (o : Obj) : IsS68 w0 (W.alloc o) g f0 f1 := h.below (below_alloc (Below.refl _ _) o)
theorem IsS68.drewN {w0 W : World} {g : Nat} {f0 : List Int} {f1 : Int} (h : IsS68 w0 W g f0 f1) (m : Nat) : IsS68 w0 (W.drewN m) g f0 f1 := h
theorem IsS68.drew {w0 W : World} {g : Nat} {f0 : List Int} {f1 : Int} (h : IsS68 w0 W g f0 f1) : IsS68 w0 W.drew g f0 f1 := h
theorem IsS68.at_ {w0 W : World} {g : Nat} {f0 : List Int} {f1 : Int} {w' : World} {m : Nat} (hq : W.drewN m = w') (h : IsS68 w0 W g f0 f1) : IsS68 w0 w' g f0 f1 := by subst hq; exact IsS68.drewN h m
theorem IsS68.apart {w0 W : World} {g : Nat} {f0 : List Int} {f1 : Int} {α : Type} {d : Kd α} {e : Nat} {base : Nat} {ok : Nat → Prop} {v : Value} {xs : List α} (h : IsS68 w0 W g f0 f1) (ho : d.R e W base ok v xs) (ht : ∀ q, q ∈ e :: d.E → q ≠ 68) : d.R e W base (fun k => ok k ∧ k ≠ g) v xs := by
  obtain ⟨A0, c0, hb, hg, hr0⟩ := h
  exact Kd.R_types ho hb ht
theorem IsS68.own_ne {w0 W : World} {g : Nat} {f0 : List Int} {f1 : Int} {α : Type} {d : Kd α} {e : Nat} {base : Nat} {ok : Nat → Prop} {v : Value} {xs : List α} (h : IsS68 w0 W g f0 f1) (ho : d.R e W base ok v xs) (ht : e ≠ 68) : some g ≠ v.ownBlock := by
  obtain ⟨A0, c0, hb, hg, hr0⟩ := h
  exact Kd.R_ne ho hb ht
theorem IsS68.apartQ {w0 W : World} {g : Nat} {f0 : List Int} {f1 : Int} {α : Type} {d : Kd α} {e : Nat} {base : Nat} {ok : Nat → Prop} {v : Value} {xs : List α} (h : IsS68 w0 W g f0 f1) (ho : d.Q e W base ok v xs) (ht : ∀ q, q ∈ e :: d.E → q ≠ 68) : d.Q e W base (fun k => ok k ∧ k ≠ g) v xs := by
  obtain ⟨A0, c0, hb, hg, hr0⟩ := h
  exact Kd.Q_types ho hb ht
theorem IsS68.own_neQ {w0 W : World} {g : Nat} {f0 : List Int} {f1 : Int} {α : Type} {d : Kd α} {e : Nat} {base : Nat} {ok : Nat → Prop} {v : Value} {xs : List α} (h : IsS68 w0 W g f0 f1) (ho : d.Q e W base ok v xs) (ht : e ≠ 68) : some g ≠ v.ownBlock := by
  obtain ⟨A0, c0, hb, hg, hr0⟩ := h
  exact Kd.Q_ne ho hb ht
theorem IsS68.apartS {w0 W : World} {g : Nat} {f0 : List Int} {f1 : Int} {α : Type} {d : Kd α} {e : Nat} {base : Nat} {ok : Nat → Prop} {v : Value} {xs : List α} (h : IsS68 w0 W g f0 f1) (ho : d.S e W base ok v xs) (ht : ∀ q, q ∈ e :: d.E → q ≠ 68) : d.S e W base (fun k => ok k ∧ k ≠ g) v xs := by
  obtain ⟨A0, c0, hb, hg, hr0⟩ := h
  exact Kd.S_types ho hb ht
theorem IsS68.own_neS {w0 W : World} {g : Nat} {f0 : List Int} {f1 : Int} {α : Type} {d : Kd α} {e : Nat} {base : Nat} {ok : Nat → Prop} {v : Value} {xs : List α} (h : IsS68 w0 W g f0 f1) (ho : d.S e W base ok v xs) (ht : e ≠ 68) : some g ≠ v.ownBlock := by
  obtain ⟨A0, c0, hb, hg, hr0⟩ := h
  exact Kd.S_ne ho hb ht
theorem IsS68.lt {w0 W : World} {g : Nat} {f0 : List Int} {f1 : Int} (h : IsS68 w0 W g f0 f1) : g < W.heap.size := by
  obtain ⟨A0, c0, hb, hg, hr0⟩ := h
  exact blk_lt hb
theorem IsS68.ge {w0 W : World} {g : Nat} {f0 : List Int} {f1 : Int} (h : IsS68 w0 W g f0 f1) : w0.heap.size ≤ g := by
  obtain ⟨A0, c0, hb, hg, hr0⟩ := h
  exact hg
theorem IsS68.ne_blk {w0 W : World} {g : Nat} {f0 : List Int} {f1 : Int} {a : Nat} {cs : Array Value} {t : TypeId} {fr : Nat × Nat} (h : IsS68 w0 W g f0 f1) (hb2 : W.heap[a]? = some (.cells cs t fr)) (ht : t ≠ 68) : g ≠ a := by
  obtain ⟨A0, c0, hb, hg, hr0⟩ := h
  rintro rfl
  rw [hb] at hb2
  injection hb2 with hb2
  injection hb2 with _ ht2
  exact ht ht2.symm
theorem IsS68.far {w0 W : World} {g : Nat} {f0 : List Int} {f1 : Int} {p : Addr} (h : IsS68 w0 W g f0 f1) (hne : g ≠ p.block) (u : Value) : IsS68 w0 (W.setCell p u) g f0 f1 := by
  obtain ⟨A0, c0, hb, hg, hr0⟩ := h
  exact ⟨A0, c0, blk_far hb hne u, hg, hr0⟩
theorem cellS68_0 {W : World} {g : Nat} {A0 : Option Addr} {c0 : Nat} {f0 : List Int} {f1 : Int} (h : W.heap[g]? = some (.cells #[.slice A0 f0.length c0, .int .i64 f1] 68 (0, 0))) : W.cell? ⟨g, 0, none⟩ = some (.slice A0 f0.length c0) := (blk_cell h 0).trans rfl
theorem cellS68_1 {W : World} {g : Nat} {A0 : Option Addr} {c0 : Nat} {f0 : List Int} {f1 : Int} (h : W.heap[g]? = some (.cells #[.slice A0 f0.length c0, .int .i64 f1] 68 (0, 0))) : W.cell? ⟨g, 1, none⟩ = some (.int .i64 f1) := (blk_cell h 1).trans rfl
theorem IsS68.set_1 {w0 W : World} {g : Nat} {f0 : List Int} {f1 : Int} (h : IsS68 w0 W g f0 f1) (x : Int) : IsS68 w0 (W.setCell ⟨g, 1, none⟩ (.int .i64 x)) g f0 x := by
  obtain ⟨A0, c0, hb, hg, hr0⟩ := h
  exact ⟨A0, c0, by simpa using blk_set hb 1 (.int .i64 x), hg, hr0⟩
theorem IsS68.new (w0 W : World) (A0 : Option Addr) (c0 : Nat) (f0 : List Int) (f1 : Int) (hB : Below w0.heap.size w0 W) (hr0 : Kd.C (Kd.int .u8) w0 A0 f0.length f0) : IsS68 w0 (W.alloc (.cells #[.slice A0 f0.length c0, .int .i64 f1] 68)) W.heap.size f0 f1 := ⟨A0, c0, by simpa using heap_alloc_new W _, hB.size, hr0⟩

/-! ### spec_l20Rd_pick: function 15 -/
def spec_l20Rd_pick.j0 : Nat → Int → Bool → List Int → Int → Option (Int × Int)
  | 0, _, _, _, _ => none
  | k + 1, x1, x24, x1000, x1001 => if x24 = true then (some (0, x1001)) else (if (wrap64 (x1001 - 1)) < (x1000.length : Int) then (if 0 ≤ (wrap64 (x1001 - 1)) then (if x1 = 0 then (none) else (some (Int.tmod (wrap64 (rd x1000 (wrap64 (x1001 - 1)))) x1, x1001))) else (none)) else (if (x1000.length : Int) = 0 then (none) else (if 0 ≤ (Int.tmod (wrap64 (x1001 - 1)) (x1000.length : Int)) then (if (Int.tmod (wrap64 (x1001 - 1)) (x1000.length : Int)) < (x1000.length : Int) then (if 0 ≤ (Int.tmod (wrap64 ((wrap64 ((wrap64 (x1001 - 1)) * 7)) + 3)) (x1000.length : Int)) then (if (Int.tmod (wrap64 ((wrap64 ((wrap64 (x1001 - 1)) * 7)) + 3)) (x1000.length : Int)) < (x1000.length : Int) then (if x1 = 0 then (none) else (some (Int.tmod (Go.bits .xor .i64 (wrap64 ((wrap64 ((wrap64 ((wrap64 ((wrap64 (rd x1000 (Int.tmod (wrap64 (x1001 - 1)) (x1000.length : Int)))) * 131)) + (wrap64 ((wrap64 (rd x1000 (Int.tmod (wrap64 ((wrap64 ((wrap64 (x1001 - 1)) * 7)) + 3)) (x1000.length : Int)))) * 1117)))) + (wrap64 ((wrap64 (x1001 - 1)) * 29)))) + (wrap64 ((wrap64 (Int.tdiv (wrap64 (x1001 - 1)) (x1000.length : Int))) * 53)))) (wrap64 (Int.tdiv (wrap64 ((wrap64 ((wrap64 ((wrap64 ((wrap64 (rd x1000 (Int.tmod (wrap64 (x1001 - 1)) (x1000.length : Int)))) * 131)) + (wrap64 ((wrap64 (rd x1000 (Int.tmod (wrap64 ((wrap64 ((wrap64 (x1001 - 1)) * 7)) + 3)) (x1000.length : Int)))) * 1117)))) + (wrap64 ((wrap64 (x1001 - 1)) * 29)))) + (wrap64 ((wrap64 (Int.tdiv (wrap64 (x1001 - 1)) (x1000.length : Int))) * 53)))) 64))) x1, x1001))) else (none)) else (none)) else (none)) else (none))))
def spec_l20Rd_pick.f (k : Nat) (s0_0 : List Int) (s0_1 : Int) (a1 : Int) : Option (Int × Int) := if a1 < 1 then (spec_l20Rd_pick.j0 k a1 true s0_0 (wrap64 (s0_1 + 1))) else (spec_l20Rd_pick.j0 k a1 ((s0_0.length : Int) == 0) s0_0 (wrap64 (s0_1 + 1)))
theorem spec_l20Rd_pick.mono_l : ∀ k, (∀ y0 y1 y2 y3, LeO (spec_l20Rd_pick.j0 k y0 y1 y2 y3) (spec_l20Rd_pick.j0 (k + 1) y0 y1 y2 y3))
  | 0 => fun _ _ _ _ r h => by simp [spec_l20Rd_pick.j0] at h
  | k + 1 => by
    have ih0 := spec_l20Rd_pick.mono_l k
    · intro y0 y1 y2 y3
      unfold spec_l20Rd_pick.j0
      repeat' first
      | (with_reducible exact ih0 _ _ _ _)
      | (with_reducible exact LeO.refl _)
      | (with_reducible exact LeO.none _)
      | (with_reducible refine LeO.ite ?_ ?_)
      | (with_reducible refine LeO.bind ?_ (fun _ => ?_))
      | exact ih0 _ _ _ _
      | exact LeO.none _
      | refine LeO.ite ?_ ?_
      | refine LeO.bind ?_ (fun _ => ?_)
theorem spec_l20Rd_pick.mono : ∀ a0 a1 a2 k, LeO (spec_l20Rd_pick.f k a0 a1 a2) (spec_l20Rd_pick.f (k + 1) a0 a1 a2) := by
  intro a0 a1 a2 k
  have ih0 := spec_l20Rd_pick.mono_l k
  unfold spec_l20Rd_pick.f
  repeat' first
      | (with_reducible exact ih0 _ _ _ _)
      | (with_reducible exact LeO.refl _)
      | (with_reducible exact LeO.none _)
      | (with_reducible refine LeO.ite ?_ ?_)
      | (with_reducible refine LeO.bind ?_ (fun _ => ?_))
      | exact ih0 _ _ _ _
      | exact LeO.none _
      | refine LeO.ite ?_ ?_
      | refine LeO.bind ?_ (fun _ => ?_)
set_option maxHeartbeats 8000000 in
set_option maxRecDepth 100000 in
theorem spec_l20Rd_pick.calls (k : Nat) (g : Nat) (s0_0 : List Int) (s0_1 : Int) (a1 : Int) (r1 : Int) (r2 : Int) (w0 w : World) (hI : IsS68 w0 w g s0_0 s0_1) (hB : Below w0.heap.size w0 w) (h : spec_l20Rd_pick.f k s0_0 s0_1 a1 = some (r1, r2)) :
    Calls Tryd.prog 15 #[.pointer (some ⟨g, 0, none⟩), .int .i64 a1] w fun e w' => e = .returned (.int .i64 r1) ∧ IsS68 w0 w' g s0_0 r2 ∧ Below w0.heap.size w0 w' ∧ KeepBut w w' g none := by
  have HI0 := Aside0.mk hI
  have HK := Aside0.mk (KeepBut.refl w g none)
  have HL := Aside0.mk hB.size
  clear hI
  have HW0 := Aside0.mk hB.size
  have HB := Aside0.mk hB
  clear hB
  have H : (if a1 < 1 then (spec_l20Rd_pick.j0 k a1 true s0_0 (wrap64 (s0_1 + 1))) else (spec_l20Rd_pick.j0 k a1 ((s0_0.length : Int) == 0) s0_0 (wrap64 (s0_1 + 1)))) = some (r1, r2) := h
  clear h
  have HC3 := Aside0.mk H
  clear H
  obtain ⟨ASz4_0, cSz4_0, HGz4, hgz4, HSz4_0⟩ := HI0.out
  have hcz4_0 := cellS68_0 HGz4
  have hcz4_1 := cellS68_1 HGz4
  have hfz4_1 := blk_frozen HGz4 1
  clear HGz4 hgz4
  go_enter Tryd.func15, Tryd.ntmps15
  go_upto_region 2 with (fail)
  repeat (go_quiet (fail); go_upto_region 2 with (fail))
  go_cut [24] (fun v24 wc => ∃ (kq : Nat) (x24_2 : Bool), v24 = .bool x24_2 ∧ Aside0 (spec_l20Rd_pick.j0 kq a1 x24_2 s0_0 (wrap64 (s0_1 + 1)) = some (r1, r2)) ∧ Aside0 (kq ≤ k) ∧ Aside0 (IsS68 w0 wc g s0_0 (wrap64 (s0_1 + 1))) ∧ Aside0 (KeepBut w wc g none) ∧ Aside0 (Below w0.heap.size w0 wc))
  case first =>
    have H := HC3.out
    clear HC3
    by_cases c5 : a1 < 1
    · rw [if_pos c5] at H
      have c5b0 : decide (a1 < 1) = true := decide_eq_true c5
      clear c5
      (first | rw [c5b0] | (simp only [i64_w, i32_w]; rw [c5b0]) | skip)
      have H' := Aside0.mk H
      clear H
      go_wp2
      repeat (go_quiet (fail); try go_wp2)
      go_meet
      case rel => exact ⟨_, (true), (by first | rfl | (simp; done) | (simp [*]; done)), H', ⟨by first | omega | exact Nat.le_refl _⟩, ⟨by repeat (first | (with_reducible first | exact HI0.out | apply IsS68.alloc | apply IsS68.drewN | apply IsS68.drew | apply IsS68.set_1) | exact HI0.out)⟩, ⟨by repeat (first | (with_reducible first | exact HK.out | apply KeepBut.set_ | apply keep_drewN | apply keep_drew | apply keep_alloc) | exact HK.out)⟩, ⟨by repeat (first | (with_reducible first | exact HB.out | apply below_alloc | apply pw_below_drewN | apply below_drew1 | refine below_set ?_ (IsS68.ge HI0.out)) | exact HB.out)⟩⟩
    · rw [if_neg c5] at H
      have c5b0 : decide (a1 < 1) = false := decide_eq_false c5
      clear c5
      (first | rw [c5b0] | (simp only [i64_w, i32_w]; rw [c5b0]) | skip)
      have H' := Aside0.mk H
      clear H
      obtain ⟨ASz6_0, cSz6_0, HGz6, hgz6, HSz6_0⟩ := HI0.out
      have hcz6_0 := cellS68_0 HGz6
      have hcz6_1 := cellS68_1 HGz6
      have hfz6_1 := blk_frozen HGz6 1
      clear HGz6 hgz6
      go_wp2
      repeat (go_quiet (fail); try go_wp2)
      go_meet
      case rel => exact ⟨_, (((s0_0.length : Int) == 0)), (by first | rfl | (simp; done) | (simp [*]; done)), H', ⟨by first | omega | exact Nat.le_refl _⟩, ⟨by repeat (first | (with_reducible first | exact HI0.out | apply IsS68.alloc | apply IsS68.drewN | apply IsS68.drew | apply IsS68.set_1) | exact HI0.out)⟩, ⟨by repeat (first | (with_reducible first | exact HK.out | apply KeepBut.set_ | apply keep_drewN | apply keep_drew | apply keep_alloc) | exact HK.out)⟩, ⟨by repeat (first | (with_reducible first | exact HB.out | apply below_alloc | apply pw_below_drewN | apply below_drew1 | refine below_set ?_ (IsS68.ge HI0.out)) | exact HB.out)⟩⟩
  case rest =>
    clear HC3
    try clear c1
    try clear p2
    try clear c5
    try clear c5b0
    try clear p6
    try clear hcz4_0
    try clear hcz4_1
    try clear hcz6_0
    try clear hcz6_1
    try clear hfz4_1
    try clear hfz6_1
    obtain ⟨kq, x24_2, rfl, HA, HJ2, HI0, HK, HB⟩ := hcut
    cases kq with
    | zero => exact absurd HA.out (by simp [spec_l20Rd_pick.j0])
    | succ kj2 =>
      have H := HA.out
      clear HA
      simp only [spec_l20Rd_pick.j0] at H
      by_cases c7 : x24_2 = true
      · subst c7
        have H1 : (some (0, (wrap64 (s0_1 + 1)))) = some (r1, r2) := by rw [if_pos rfl] at H; exact H
        clear H
        have H := H1
        clear H1
        simp only [Option.some.injEq, Prod.mk.injEq] at H
        obtain ⟨rfl, rfl⟩ := H
        go_wp2
        repeat (go_quiet (fail); try go_wp2)
        go_ret
        exact ⟨by first | rfl | (simp [IntKind.wrap_i64, wrap64]; done) | (simp [errW_none, errW_some] <;> rfl) | (simp [*, errW_none, errW_some] <;> rfl), by repeat (first | (with_reducible first | exact HI0.out | apply IsS68.alloc | apply IsS68.drewN | apply IsS68.drew | apply IsS68.set_1) | exact HI0.out), by repeat (first | (with_reducible first | exact HB.out | apply below_alloc | apply pw_below_drewN | apply below_drew1 | refine below_set ?_ (IsS68.ge HI0.out)) | exact HB.out), by repeat (first | (with_reducible first | exact HK.out | apply KeepBut.set_ | apply keep_drewN | apply keep_drew | apply keep_alloc) | exact HK.out)⟩
      · replace c7 := Bool.eq_false_iff.mpr c7
        subst c7
        have H1 : (if (wrap64 ((wrap64 (s0_1 + 1)) - 1)) < (s0_0.length : Int) then (if 0 ≤ (wrap64 ((wrap64 (s0_1 + 1)) - 1)) then (if a1 = 0 then (none) else (some (Int.tmod (wrap64 (rd s0_0 (wrap64 ((wrap64 (s0_1 + 1)) - 1)))) a1, (wrap64 (s0_1 + 1))))) else (none)) else (if (s0_0.length : Int) = 0 then (none) else (if 0 ≤ (Int.tmod (wrap64 ((wrap64 (s0_1 + 1)) - 1)) (s0_0.length : Int)) then (if (Int.tmod (wrap64 ((wrap64 (s0_1 + 1)) - 1)) (s0_0.length : Int)) < (s0_0.length : Int) then (if 0 ≤ (Int.tmod (wrap64 ((wrap64 ((wrap64 ((wrap64 (s0_1 + 1)) - 1)) * 7)) + 3)) (s0_0.length : Int)) then (if (Int.tmod (wrap64 ((wrap64 ((wrap64 ((wrap64 (s0_1 + 1)) - 1)) * 7)) + 3)) (s0_0.length : Int)) < (s0_0.length : Int) then (if a1 = 0 then (none) else (some (Int.tmod (Go.bits .xor .i64 (wrap64 ((wrap64 ((wrap64 ((wrap64 ((wrap64 (rd s0_0 (Int.tmod (wrap64 ((wrap64 (s0_1 + 1)) - 1)) (s0_0.length : Int)))) * 131)) + (wrap64 ((wrap64 (rd s0_0 (Int.tmod (wrap64 ((wrap64 ((wrap64 ((wrap64 (s0_1 + 1)) - 1)) * 7)) + 3)) (s0_0.length : Int)))) * 1117)))) + (wrap64 ((wrap64 ((wrap64 (s0_1 + 1)) - 1)) * 29)))) + (wrap64 ((wrap64 (Int.tdiv (wrap64 ((wrap64 (s0_1 + 1)) - 1)) (s0_0.length : Int))) * 53)))) (wrap64 (Int.tdiv (wrap64 ((wrap64 ((wrap64 ((wrap64 ((wrap64 (rd s0_0 (Int.tmod (wrap64 ((wrap64 (s0_1 + 1)) - 1)) (s0_0.length : Int)))) * 131)) + (wrap64 ((wrap64 (rd s0_0 (Int.tmod (wrap64 ((wrap64 ((wrap64 ((wrap64 (s0_1 + 1)) - 1)) * 7)) + 3)) (s0_0.length : Int)))) * 1117)))) + (wrap64 ((wrap64 ((wrap64 (s0_1 + 1)) - 1)) * 29)))) + (wrap64 ((wrap64 (Int.tdiv (wrap64 ((wrap64 (s0_1 + 1)) - 1)) (s0_0.length : Int))) * 53)))) 64))) a1, (wrap64 (s0_1 + 1))))) else (none)) else (none)) else (none)) else (none)))) = some (r1, r2) := by rw [if_neg (show ¬ (false = true) by decide)] at H; exact H
        clear H
        have H := H1
        clear H1
        by_cases c8 : (wrap64 ((wrap64 (s0_1 + 1)) - 1)) < (s0_0.length : Int)
        · rw [if_pos c8] at H
          have c8b0 : decide ((wrap64 ((wrap64 (s0_1 + 1)) - 1)) < (s0_0.length : Int)) = true := decide_eq_true c8
          clear c8
          obtain ⟨ji9, hji9⟩ : ∃ j_ : Int, (wrap64 ((wrap64 (s0_1 + 1)) - 1)) = j_ := ⟨_, rfl⟩
          replace H : (if 0 ≤ (ji9) then (if a1 = 0 then (none) else (some (Int.tmod (wrap64 (rd s0_0 (ji9))) a1, (wrap64 (s0_1 + 1))))) else (none)) = some (r1, r2) := by first | (rw [hji9] at H; exact H) | (simp only [hji9] at H ⊢; exact H)
          (try rw [hji9] at c8b0)
          have hji9w : (IntKind.i64.wrap ((wrap64 (s0_1 + 1)) - 1)) = ji9 := (i64_w _).trans hji9
          by_cases c10 : 0 ≤ (ji9)
          · rw [if_pos c10] at H
            have c10b0 : decide (0 ≤ (ji9)) = true := decide_eq_true c10
            clear c10
            by_cases c11 : a1 = 0
            · rw [if_pos c11] at H
              exact absurd H (by simp)
            · rw [if_neg c11] at H
              have c11b0 : (a1 == 0) = false := beq_eq_false_iff_ne.mpr c11
              have c11b1 : (a1 != 0) = true := bne_iff_ne.mpr c11
              simp only [Option.some.injEq, Prod.mk.injEq] at H
              obtain ⟨rfl, rfl⟩ := H
              obtain ⟨ASz12_0, cSz12_0, HGz12, hgz12, HSz12_0⟩ := HI0.out
              have hcz12_0 := cellS68_0 HGz12
              have hcz12_1 := cellS68_1 HGz12
              have hfz12_1 := blk_frozen HGz12 1
              clear HGz12 hgz12
              have p104 : 0 ≤ ((ji9) : Int) := of_decide_eq_true (by first | (with_reducible assumption) | assumption)
              have q104 : (ji9) < (s0_0.length : Int) := of_decide_eq_true (by first | (with_reducible assumption) | assumption)
              obtain ⟨ad104, e104, hx104_0⟩ := Kd.at_int HSz12_0 (ji9) p104 q104
              cases e104
              replace hx104_0 := pw_cell_below HB.out hx104_0
              replace p104 := eq_true p104
              replace q104 := eq_true q104
              go_wp2
              repeat (go_quiet (fail); try go_wp2)
              go_ret
              exact ⟨by first | rfl | (simp [IntKind.wrap_i64, wrap64]; done) | (simp [errW_none, errW_some] <;> rfl) | (simp only [← hji9]; first | rfl | (simp [errW_none, errW_some] <;> rfl)) | (simp [*, errW_none, errW_some] <;> rfl), by repeat (first | (with_reducible first | exact HI0.out | apply IsS68.alloc | apply IsS68.drewN | apply IsS68.drew | apply IsS68.set_1) | exact HI0.out), by repeat (first | (with_reducible first | exact HB.out | apply below_alloc | apply pw_below_drewN | apply below_drew1 | refine below_set ?_ (IsS68.ge HI0.out)) | exact HB.out), by repeat (first | (with_reducible first | exact HK.out | apply KeepBut.set_ | apply keep_drewN | apply keep_drew | apply keep_alloc) | exact HK.out)⟩
          · rw [if_neg c10] at H
            exact absurd H (by simp)
        · rw [if_neg c8] at H
          have c8b0 : decide ((wrap64 ((wrap64 (s0_1 + 1)) - 1)) < (s0_0.length : Int)) = false := decide_eq_false c8
          clear c8
          by_cases c13 : (s0_0.length : Int) = 0
          · rw [if_pos c13] at H
            exact absurd H (by simp)
          · rw [if_neg c13] at H
            have c13b0 : ((s0_0.length : Int) == 0) = false := beq_eq_false_iff_ne.mpr c13
            have c13b1 : ((s0_0.length : Int) != 0) = true := bne_iff_ne.mpr c13
            have c13b2 : ¬ (s0_0 = []) := fun h_ => c13 (by rw [h_]; rfl)
            obtain ⟨ji14, hji14⟩ : ∃ j_ : Int, (Int.tmod (wrap64 ((wrap64 (s0_1 + 1)) - 1)) (s0_0.length : Int)) = j_ := ⟨_, rfl⟩
            replace H : (if 0 ≤ (ji14) then (if (ji14) < (s0_0.length : Int) then (if 0 ≤ (Int.tmod (wrap64 ((wrap64 ((wrap64 ((wrap64 (s0_1 + 1)) - 1)) * 7)) + 3)) (s0_0.length : Int)) then (if (Int.tmod (wrap64 ((wrap64 ((wrap64 ((wrap64 (s0_1 + 1)) - 1)) * 7)) + 3)) (s0_0.length : Int)) < (s0_0.length : Int) then (if a1 = 0 then (none) else (some (Int.tmod (Go.bits .xor .i64 (wrap64 ((wrap64 ((wrap64 ((wrap64 ((wrap64 (rd s0_0 (ji14))) * 131)) + (wrap64 ((wrap64 (rd s0_0 (Int.tmod (wrap64 ((wrap64 ((wrap64 ((wrap64 (s0_1 + 1)) - 1)) * 7)) + 3)) (s0_0.length : Int)))) * 1117)))) + (wrap64 ((wrap64 ((wrap64 (s0_1 + 1)) - 1)) * 29)))) + (wrap64 ((wrap64 (Int.tdiv (wrap64 ((wrap64 (s0_1 + 1)) - 1)) (s0_0.length : Int))) * 53)))) (wrap64 (Int.tdiv (wrap64 ((wrap64 ((wrap64 ((wrap64 ((wrap64 (rd s0_0 (ji14))) * 131)) + (wrap64 ((wrap64 (rd s0_0 (Int.tmod (wrap64 ((wrap64 ((wrap64 ((wrap64 (s0_1 + 1)) - 1)) * 7)) + 3)) (s0_0.length : Int)))) * 1117)))) + (wrap64 ((wrap64 ((wrap64 (s0_1 + 1)) - 1)) * 29)))) + (wrap64 ((wrap64 (Int.tdiv (wrap64 ((wrap64 (s0_1 + 1)) - 1)) (s0_0.length : Int))) * 53)))) 64))) a1, (wrap64 (s0_1 + 1))))) else (none)) else (none)) else (none)) else (none)) = some (r1, r2) := by first | (rw [hji14] at H; exact H) | (simp only [hji14] at H ⊢; exact H)
            by_cases c15 : 0 ≤ (ji14)
            · rw [if_pos c15] at H
              have c15b0 : decide (0 ≤ (ji14)) = true := decide_eq_true c15
              clear c15
              by_cases c16 : (ji14) < (s0_0.length : Int)
              · rw [if_pos c16] at H
                have c16b0 : decide ((ji14) < (s0_0.length : Int)) = true := decide_eq_true c16
                clear c16
                obtain ⟨ji17, hji17⟩ : ∃ j_ : Int, (Int.tmod (wrap64 ((wrap64 ((wrap64 ((wrap64 (s0_1 + 1)) - 1)) * 7)) + 3)) (s0_0.length : Int)) = j_ := ⟨_, rfl⟩
                replace H : (if 0 ≤ (ji17) then (if (ji17) < (s0_0.length : Int) then (if a1 = 0 then (none) else (some (Int.tmod (Go.bits .xor .i64 (wrap64 ((wrap64 ((wrap64 ((wrap64 ((wrap64 (rd s0_0 (ji14))) * 131)) + (wrap64 ((wrap64 (rd s0_0 (ji17))) * 1117)))) + (wrap64 ((wrap64 ((wrap64 (s0_1 + 1)) - 1)) * 29)))) + (wrap64 ((wrap64 (Int.tdiv (wrap64 ((wrap64 (s0_1 + 1)) - 1)) (s0_0.length : Int))) * 53)))) (wrap64 (Int.tdiv (wrap64 ((wrap64 ((wrap64 ((wrap64 ((wrap64 (rd s0_0 (ji14))) * 131)) + (wrap64 ((wrap64 (rd s0_0 (ji17))) * 1117)))) + (wrap64 ((wrap64 ((wrap64 (s0_1 + 1)) - 1)) * 29)))) + (wrap64 ((wrap64 (Int.tdiv (wrap64 ((wrap64 (s0_1 + 1)) - 1)) (s0_0.length : Int))) * 53)))) 64))) a1, (wrap64 (s0_1 + 1))))) else (none)) else (none)) = some (r1, r2) := by first | (rw [hji17] at H; exact H) | (simp only [hji17] at H ⊢; exact H)
                by_cases c18 : 0 ≤ (ji17)
                · rw [if_pos c18] at H
                  have c18b0 : decide (0 ≤ (ji17)) = true := decide_eq_true c18
                  clear c18
                  by_cases c19 : (ji17) < (s0_0.length : Int)
                  · rw [if_pos c19] at H
                    have c19b0 : decide ((ji17) < (s0_0.length : Int)) = true := decide_eq_true c19
                    clear c19
                    by_cases c20 : a1 = 0
                    · rw [if_pos c20] at H
                      exact absurd H (by simp)
                    · rw [if_neg c20] at H
                      have c20b0 : (a1 == 0) = false := beq_eq_false_iff_ne.mpr c20
                      have c20b1 : (a1 != 0) = true := bne_iff_ne.mpr c20
                      simp only [Option.some.injEq, Prod.mk.injEq] at H
                      obtain ⟨rfl, rfl⟩ := H
                      obtain ⟨ASz21_0, cSz21_0, HGz21, hgz21, HSz21_0⟩ := HI0.out
                      have hcz21_0 := cellS68_0 HGz21
                      have hcz21_1 := cellS68_1 HGz21
                      have hfz21_1 := blk_frozen HGz21 1
                      clear HGz21 hgz21
                      have p105 : 0 ≤ ((ji14) : Int) := of_decide_eq_true (by first | (with_reducible assumption) | assumption)
                      have q105 : (ji14) < (s0_0.length : Int) := of_decide_eq_true (by first | (with_reducible assumption) | assumption)
                      obtain ⟨ad105, e105, hx105_0⟩ := Kd.at_int HSz21_0 (ji14) p105 q105
                      cases e105
                      replace hx105_0 := pw_cell_below HB.out hx105_0
                      replace p105 := eq_true p105
                      replace q105 := eq_true q105
                      have p106 : 0 ≤ ((ji17) : Int) := of_decide_eq_true (by first | (with_reducible assumption) | assumption)
                      have q106 : (ji17) < (s0_0.length : Int) := of_decide_eq_true (by first | (with_reducible assumption) | assumption)
                      obtain ⟨ad106, e106, hx106_0⟩ := Kd.at_int HSz21_0 (ji17) p106 q106
                      obtain rfl : ad105 = ad106 := (by injection e106)
                      replace hx106_0 := pw_cell_below HB.out hx106_0
                      replace p106 := eq_true p106
                      replace q106 := eq_true q106
                      go_wp2
                      repeat (go_quiet (fail); try go_wp2)
                      go_ret
                      exact ⟨by first | rfl | (simp [IntKind.wrap_i64, wrap64]; done) | (simp [errW_none, errW_some] <;> rfl) | (simp only [← hji14, ← hji17]; first | rfl | (simp [errW_none, errW_some] <;> rfl)) | (simp [*, errW_none, errW_some] <;> rfl), by repeat (first | (with_reducible first | exact HI0.out | apply IsS68.alloc | apply IsS68.drewN | apply IsS68.drew | apply IsS68.set_1) | exact HI0.out), by repeat (first | (with_reducible first | exact HB.out | apply below_alloc | apply pw_below_drewN | apply below_drew1 | refine below_set ?_ (IsS68.ge HI0.out)) | exact HB.out), by repeat (first | (with_reducible first | exact HK.out | apply KeepBut.set_ | apply keep_drewN | apply keep_drew | apply keep_alloc) | exact HK.out)⟩
                  · rw [if_neg c19] at H
                    exact absurd H (by simp)
                · rw [if_neg c18] at H
                  exact absurd H (by simp)
              · rw [if_neg c16] at H
                exact absurd H (by simp)
            · rw [if_neg c15] at H
              exact absurd H (by simp)

/-! ### spec_l20Text: function 39 (by hand) -/
/-- What draws keep: the reader stands at p; what is old is as it was, but for the reader's block. -/
structure Rds (w0 w : World) (g : Nat) (s : List Int) (p : Int) (W : World) : Prop where
  st : IsS68 w0 W g s p
  bl : Below w0.heap.size w0 W
  kp : KeepBut w W g none
  lt : g < w.heap.size
  le : w0.heap.size ≤ w.heap.size
section
variable {w0 w W : World} {g : Nat} {s : List Int} {p : Int}
theorem Rds.new (hI : IsS68 w0 w g s p) (hB : Below w0.heap.size w0 w) : Rds w0 w g s p w := ⟨hI, hB, KeepBut.refl _ _ _, hI.lt, hB.size⟩
theorem Rds.alloc (h : Rds w0 w g s p W) (o : Obj) : Rds w0 w g s p (W.alloc o) := ⟨h.st.alloc o, below_alloc h.bl o, keep_alloc h.kp o, h.lt, h.le⟩
theorem Rds.drewN (h : Rds w0 w g s p W) (n : Nat) : Rds w0 w g s p (W.drewN n) := ⟨h.st.drewN n, pw_below_drewN h.bl n, keep_drewN h.kp n, h.lt, h.le⟩
theorem Rds.drew (h : Rds w0 w g s p W) : Rds w0 w g s p W.drew := ⟨h.st.drew, below_drew1 h.bl, keep_drew h.kp, h.lt, h.le⟩
theorem Rds.far (h : Rds w0 w g s p W) {q : Addr} (hq : w.heap.size ≤ q.block) (u : Value) : Rds w0 w g s p (W.setCell q u) :=
  ⟨h.st.far (by have := h.lt; omega) u, h.bl.setCell (Nat.le_trans h.le hq) _, keep_far h.kp hq u, h.lt, h.le⟩
theorem Rds.call (h : Rds w0 w g s p W) {W' : World} {q : Int} (hi : IsS68 w0 W' g s q) (hb : Below w0.heap.size w0 W') (hk : KeepBut W W' g none) : Rds w0 w g s q W' := ⟨hi, hb, h.kp.trans hk (.inl rfl), h.lt, h.le⟩
theorem Rds.grown (h : Rds w0 w g s p W) {W' : World} {row : Option Nat} (hg : W.grownBy W' row) (hr : ∀ k, row = some k → w.heap.size ≤ k) : Rds w0 w g s p W' :=
  ⟨h.st.grown hg (fun e => by have := hr g e.symm; have := h.lt; omega), pw_below_grown h.bl row (Nat.le_trans h.le h.kp.1) hg (fun k hk => Nat.le_trans h.le (hr k hk)), h.kp.trans (KeepBut.of_grown hg g) (by
    cases row with
    | none => exact .inl rfl
    | some b => exact .inr ⟨b, rfl, hr b rfl⟩), h.lt, h.le⟩
theorem Rds.put (h : Rds w0 w g s p W) {W' : World} {b : Nat} {cs : Array Value} {t : TypeId} (hp : Put b cs t W W') (hb : w.heap.size ≤ b) : Rds w0 w g s p W' := h.grown hp.grown (fun k hk => by injection hk with hk; omega)
theorem Rds.size (h : Rds w0 w g s p W) : w.heap.size ≤ W.heap.size := h.kp.1
theorem Rds.ne (h : Rds w0 w g s p W) {b : Nat} (hb : w.heap.size ≤ b) : b ≠ g := by have := h.lt; omega
/-- A block that the call made lives on behind a call that turns nothing but the reader. -/
theorem Rds.blk (h : Rds w0 w g s p W) {W' : World} {b : Nat} {o : Obj} (hk : KeepBut W W' g none) (hb : W.heap[b]? = some o) (hw : w.heap.size ≤ b) : W'.heap[b]? = some o := hk.blk hb (h.ne hw) (by simp)
end
/-- The words that are drawn. -/
def ppW7 : List ByteArray := [⟨#[97]⟩, ⟨#[97, 110]⟩, ⟨#[116, 104, 101]⟩, ⟨#[111, 118, 101, 114]⟩, ⟨#[117, 110, 100, 101, 114]⟩, ⟨#[109, 101, 97, 100, 111, 119]⟩, ⟨#[108, 105, 103, 104, 116, 104, 111, 117, 115, 101]⟩]
theorem ppW7_size (i : Nat) : (ppW7.getD i ByteArray.empty).size ≤ 10 := by
  match i with
  | 0 | 1 | 2 | 3 | 4 | 5 | 6 => decide
  | i + 7 => simp [ppW7]
theorem ppW7_at {i : Nat} (h : i < 7) : (ppW7.map Value.string).toArray[i]? = some (.string (ppW7.getD i ByteArray.empty)) := by
  have : i < ppW7.length := h
  simp [List.getD_eq_getElem?_getD, List.getElem?_eq_getElem this]
/-- One word more, if it fits. -/
def ppJoin (x y : ByteArray) : ByteArray := if x.toList.isEmpty = true then y else if (x.size : Int) + 1 + (y.size : Int) ≤ 30 then x ++ (⟨#[32]⟩ : ByteArray) ++ y else x
def spec_l20Text.l (k : Nat) (s : List Int) : Nat → ByteArray → Int → Option (ByteArray × Int)
  | 0, x, p => some (x, p)
  | n + 1, x, p => (spec_l20Rd_pick.f k s p 7).bind fun c => if 0 ≤ c.1 ∧ c.1 < 7 ∧ x.size ≤ 30 then spec_l20Text.l k s n (ppJoin x (ppW7.getD c.1.toNat ByteArray.empty)) c.2 else none
def spec_l20Text.f (k : Nat) (s : List Int) (p : Int) : Option (ByteArray × Int) := (spec_l20Rd_pick.f k s p 6).bind fun c => if 0 ≤ c.1 ∧ c.1 < 9223372036854775807 then spec_l20Text.l k s c.1.toNat ⟨#[]⟩ c.2 else none
theorem spec_l20Text.mono_l (k : Nat) (s : List Int) : ∀ n x p, LeO (spec_l20Text.l k s n x p) (spec_l20Text.l (k + 1) s n x p)
  | 0, _, _ => LeO.refl _
  | n + 1, x, p => by
    unfold spec_l20Text.l
    exact LeO.bind (spec_l20Rd_pick.mono _ _ _ _) fun c => LeO.ite (spec_l20Text.mono_l k s n _ _) (LeO.none _)
theorem spec_l20Text.mono : ∀ a0 a1 k, LeO (spec_l20Text.f k a0 a1) (spec_l20Text.f (k + 1) a0 a1) := fun _ _ k => by
  unfold spec_l20Text.f
  exact LeO.bind (spec_l20Rd_pick.mono _ _ _ _) fun c => LeO.ite (spec_l20Text.mono_l k _ _ _ _) (LeO.none _)
set_option maxHeartbeats 4000000 in
set_option maxRecDepth 100000 in
theorem spec_l20Text.calls (k : Nat) (g : Nat) (s0_0 : List Int) (s0_1 : Int) (r1 : ByteArray) (r2 : Int) (w0 w : World) (hI : IsS68 w0 w g s0_0 s0_1) (hB : Below w0.heap.size w0 w) (h : spec_l20Text.f k s0_0 s0_1 = some (r1, r2)) :
    Calls Tryd.prog 39 #[.pointer (some ⟨g, 0, none⟩)] w fun e w' => e = .returned (.string r1) ∧ IsS68 w0 w' g s0_0 r2 ∧ Below w0.heap.size w0 w' ∧ KeepBut w w' g none := by
  have HR := Aside0.mk (Rds.new hI hB)
  clear hI hB
  unfold spec_l20Text.f at h
  rw [Option.bind_eq_some_iff] at h
  obtain ⟨⟨c, p1⟩, hc, h⟩ := h
  have AC := Aside0.mk hc
  clear hc
  simp only at h
  split at h
  · rename_i hc0
    obtain ⟨n, rfl⟩ : ∃ n : Nat, c = n := ⟨c.toNat, by omega⟩
    have hn := hc0.2
    clear hc0
    rw [Int.toNat_natCast] at h
    have HL := Aside0.mk h
    clear h
    go_enter Tryd.func39, Tryd.ntmps39
    go_wp2_with (go_at_call 15; (with_reducible refine (spec_l20Rd_pick.calls k g s0_0 s0_1 6 n p1 w0 _ (IsS68.alloc HR.out.st _) (below_alloc HR.out.bl _) AC.out).mono ?_); rintro e w1 ⟨rfl, hi, hb, hk⟩; have HB1 := Aside0.mk (hk.blk (blk_new w _) (HR.out.ne (Nat.le_refl _)) (by simp)); have HR1 := Aside0.mk ((HR.out.alloc _).call hi hb hk); clear hi hb hk)
    go_loopg [4, 5] n (fun gg s4 s5 wr => ∃ (m : Nat) (x : ByteArray) (q : Int), m ≤ gg ∧ m ≤ n ∧ s4 = .string x ∧ s5 = .int .i64 m ∧ Aside0 (spec_l20Text.l k s0_0 m x q = some (r1, r2)) ∧ Aside0 (Rds w0 w g s0_0 q wr) ∧ Aside0 (wr.heap[w.heap.size]? = some (.cells (ppW7.map Value.string).toArray 9 (0, 0))))
    case atStart => exact ⟨n, ⟨#[]⟩, p1, Nat.le_refl _, Nat.le_refl _, rfl, rfl, HL, HR1, HB1⟩
    case round =>
      obtain ⟨m, x, q, hg, hmn, rfl, rfl, HH, HQ, HB⟩ := hrel
      cases m with
      | zero =>
        have he := HH.out
        unfold spec_l20Text.l at he
        replace he := Option.some.inj he
        injection he with h1 h2
        subst h1 h2
        have hlt : ¬ (0 : Int) < ((0 : Nat) : Int) := by omega
        go_wp2
        go_ret
        exact ⟨rfl, HQ.out.st, HQ.out.bl, HQ.out.kp⟩
      | succ m =>
        have he := HH.out
        unfold spec_l20Text.l at he
        rw [Option.bind_eq_some_iff] at he
        obtain ⟨⟨c, q1⟩, hc, he⟩ := he
        have AC2 := Aside0.mk hc
        clear hc
        simp only at he
        split at he
        · rename_i hc0
          obtain ⟨i, rfl⟩ : ∃ i : Nat, c = i := ⟨c.toNat, by omega⟩
          obtain ⟨hi0, hi7, hx⟩ := hc0
          rw [Int.toNat_natCast] at he
          obtain ⟨y, hy⟩ : ∃ y, ppW7.getD i ByteArray.empty = y := ⟨_, rfl⟩
          have hys := ppW7_size i
          rw [hy] at he hys
          have HY := Aside0.mk hy
          have HE := Aside0.mk he
          clear hy he HH HL HR1 HB1 AC hi0
          have hz1 : x.size + 1 ≤ 9223372036854775807 := by omega
          have hz2 : x.size + 1 + y.size ≤ 9223372036854775807 := by omega
          have hgt : (0 : Int) < ((m + 1 : Nat) : Int) := by omega
          have hi7z : (i : Int) < (7 : Int) := by omega
          have HI7 := Aside0.mk (show i < 7 by omega)
          clear hi7
          by_cases h1 : x.toList.isEmpty = true
          · have e1 : x.toList.isEmpty = true := h1
            have hj : ppJoin x y = y := if_pos h1
            have HJ := Aside0.mk hj
            clear h1 hj
            go_wp2_with (go_at_call 15; (with_reducible refine (spec_l20Rd_pick.calls k g s0_0 q 7 i q1 w0 _ HQ.out.st HQ.out.bl AC2.out).mono ?_); rintro e w2 ⟨rfl, hi, hb, hk⟩; have HB2 := Aside0.mk (HQ.out.blk hk HB.out (Nat.le_refl _)); have HR2 := Aside0.mk (HQ.out.call hi hb hk); clear hi hb hk; have hcell : w2.cell? ⟨w.heap.size, i, none⟩ = some (.string y) := (blk_cell HB2.out i).trans ((ppW7_at HI7.out).trans (by rw [HY.out])))
            go_roundg m
            case measure => omega
            case rel => exact ⟨m, y, q1, Nat.le_refl _, by omega, rfl, by go_num, ⟨by rw [← HJ.out]; exact HE.out⟩, HR2, HB2⟩
          · have e1 : x.toList.isEmpty = false := Bool.eq_false_iff.2 h1
            by_cases h2 : (x.size : Int) + 1 + (y.size : Int) ≤ 30
            · have hj : ppJoin x y = x ++ (⟨#[32]⟩ : ByteArray) ++ y := by unfold ppJoin; rw [if_neg h1, if_pos h2]
              have HJ := Aside0.mk hj
              clear h1 hj
              go_wp2_with (go_at_call 15; (with_reducible refine (spec_l20Rd_pick.calls k g s0_0 q 7 i q1 w0 _ HQ.out.st HQ.out.bl AC2.out).mono ?_); rintro e w2 ⟨rfl, hi, hb, hk⟩; have HB2 := Aside0.mk (HQ.out.blk hk HB.out (Nat.le_refl _)); have HR2 := Aside0.mk (HQ.out.call hi hb hk); clear hi hb hk; have hcell : w2.cell? ⟨w.heap.size, i, none⟩ = some (.string y) := (blk_cell HB2.out i).trans ((ppW7_at HI7.out).trans (by rw [HY.out])))
              go_roundg m
              case measure => omega
              case rel => exact ⟨m, _, q1, Nat.le_refl _, by omega, rfl, by go_num, ⟨by rw [← HJ.out]; exact HE.out⟩, HR2, HB2⟩
            · have hj : ppJoin x y = x := by unfold ppJoin; rw [if_neg h1, if_neg h2]
              have HJ := Aside0.mk hj
              have h3 : decide ((x.size : Int) + 1 + (y.size : Int) ≤ 30) = false := decide_eq_false h2
              clear h1 hj h2
              go_wp2_with (go_at_call 15; (with_reducible refine (spec_l20Rd_pick.calls k g s0_0 q 7 i q1 w0 _ HQ.out.st HQ.out.bl AC2.out).mono ?_); rintro e w2 ⟨rfl, hi, hb, hk⟩; have HB2 := Aside0.mk (HQ.out.blk hk HB.out (Nat.le_refl _)); have HR2 := Aside0.mk (HQ.out.call hi hb hk); clear hi hb hk; have hcell : w2.cell? ⟨w.heap.size, i, none⟩ = some (.string y) := (blk_cell HB2.out i).trans ((ppW7_at HI7.out).trans (by rw [HY.out])))
              go_roundg m
              case measure => omega
              case rel => exact ⟨m, x, q1, Nat.le_refl _, by omega, rfl, by go_num, ⟨by rw [← HJ.out]; exact HE.out⟩, HR2, HB2⟩
        · cases he
  · cases h


end Go.Proofs.YtaihfkjfbjcmhabDoor.Q
