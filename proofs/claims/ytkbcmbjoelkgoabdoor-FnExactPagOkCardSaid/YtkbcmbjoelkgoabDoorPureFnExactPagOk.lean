/-
  impl.PagOk answers what spec.PagOk answers, of every table, every width and all heights.
  Conditions: none but those of the statement.
-/
import Derived.Test.YtkbcmbjoelkgoabDoorQlawsFnExactPagOk
namespace Go.Proofs.YtkbcmbjoelkgoabDoor.Pure
open Go.RowKit Go.Proofs.YtkbcmbjoelkgoabDoor.Q Go.Proofs.YtkbcmbjoelkgoabDoorW.PrintWords Go.Proofs.YtkbcmbjoelkgoabDoorW.PrintLast Go.Proofs.YtkbcmbjoelkgoabDoorW.PrintMore
set_option linter.unusedVariables false
set_option linter.unusedSimpArgs false

theorem pp_wrap_id (a : Int) (h : -9223372036854775808 ≤ a) (h' : a ≤ 9223372036854775807) : wrap64 a = a := by unfold wrap64; omega
/-- With enough rounds g answers, and P holds of the answer. -/
def Evs {α : Type} (g : Nat → Option α) (P : α → Prop) : Prop := ∃ r K, P r ∧ ∀ k, K ≤ k → g k = some r
theorem Evs.now {α : Type} {P : α → Prop} {r : α} (h : P r) : Evs (fun _ => some r) P := ⟨r, 0, h, fun _ _ => rfl⟩
theorem Evs.bnd {α β : Type} {g : Nat → Option α} {f : Nat → α → Option β} {P : α → Prop} {Q : β → Prop} (h : Evs g P) (k : ∀ a, P a → Evs (fun n => f n a) Q) : Evs (fun n => (g n).bind (f n)) Q := by
  obtain ⟨a, K, hP, h⟩ := h
  obtain ⟨r, K', hQ, k⟩ := k a hP
  refine ⟨r, max K K', hQ, fun n hn => ?_⟩
  show (g n).bind (f n) = some r
  rw [h n (by omega)]
  exact k n (by omega)
theorem Evs.step {α : Type} {g f : Nat → Option α} {P : α → Prop} (h : ∀ k, g (k + 1) = f k) (k : Evs f P) : Evs g P := by
  obtain ⟨r, K, hP, k⟩ := k
  refine ⟨r, K + 1, hP, fun n hn => ?_⟩
  obtain ⟨m, rfl⟩ : ∃ m, n = m + 1 := ⟨n - 1, by omega⟩
  rw [h]
  exact k m (by omega)
theorem Evs.cong {α : Type} {g f : Nat → Option α} {P : α → Prop} (h : ∀ k, g k = f k) (k : Evs f P) : Evs g P := by
  obtain ⟨r, K, hP, k⟩ := k
  exact ⟨r, K, hP, fun n hn => (h n).trans (k n hn)⟩
theorem Evs.imp {α : Type} {g : Nat → Option α} {P Q : α → Prop} (h : Evs g P) (hq : ∀ r, P r → Q r) : Evs g Q := by
  obtain ⟨r, K, hP, k⟩ := h
  exact ⟨r, K, hq r hP, k⟩
theorem Evs.of {α : Type} {g : Nat → Option α} {r : α} (K : Nat) (h : ∀ k, K ≤ k → g k = some r) : Evs g (fun q => q = r) := ⟨r, K, rfl, h⟩
theorem Evs.ends {α : Type} {g : Nat → Option α} {r : α} (h : Evs g (fun q => q = r)) : ∃ k, g k = some r := by
  obtain ⟨q, K, rfl, k⟩ := h
  exact ⟨K, k K (Nat.le_refl _)⟩
theorem Evs.pos {α : Type} {g f : Nat → Option α} {c : Prop} [Decidable c] {P : α → Prop} (hc : c) (h : Evs g P) : Evs (fun k => if c then g k else f k) P := h.cong (fun k => if_pos hc)
theorem Evs.neg {α : Type} {g f : Nat → Option α} {c : Prop} [Decidable c] {P : α → Prop} (hc : ¬ c) (h : Evs f P) : Evs (fun k => if c then g k else f k) P := h.cong (fun k => if_neg hc)
theorem Evs.ite {α : Type} {g f : Nat → Option α} {c : Prop} [Decidable c] {P : α → Prop} (h : c → Evs g P) (h' : ¬ c → Evs f P) : Evs (fun k => if c then g k else f k) P := by
  by_cases hc : c
  · exact Evs.pos hc (h hc)
  · exact Evs.neg hc (h' hc)
/-- A loop that counts up. -/
theorem Evs.up {σ ρ : Type} (E : Nat → σ → Int → Option ρ) (n : Nat) (Inv : Nat → σ → Prop) (Post : ρ → Prop)
    (hs : ∀ s (i : Nat), i < n → Inv i s → (∀ s', Inv (i + 1) s' → Evs (fun k => E k s' ((i : Int) + 1)) Post) → Evs (fun k => E k s (i : Int)) Post)
    (he : ∀ s, Inv n s → Evs (fun k => E k s (n : Int)) Post) : ∀ s, Inv 0 s → Evs (fun k => E k s 0) Post := by
  have key : ∀ (d i : Nat) (s : σ), n - i = d → i ≤ n → Inv i s → Evs (fun k => E k s (i : Int)) Post := by
    intro d
    induction d with
    | zero =>
      intro i s hd hi hI
      obtain rfl : i = n := by omega
      exact he s hI
    | succ d ih =>
      intro i s hd hi hI
      exact hs s i (by omega) hI (fun s' hI' => by simpa using ih (i + 1) s' (by omega) (by omega) hI')
  intro s hI
  simpa using key n 0 s (by omega) (by omega) hI

theorem pp_getD {α : Type} (l : List α) (i : Nat) (z : α) (h : i < l.length) : l.getD (i : Int).toNat z = l[i] := by
  simp [List.getD_eq_getElem?_getD, List.getElem?_eq_getElem h]
theorem pp_rdLTL {l : List S65} {i : Nat} (h : i < l.length) : rd_T65 l (i : Int) = l[i] := pp_getD l i _ h
theorem pp_rdLTR {l : List S52} {i : Nat} (h : i < l.length) : rd_T52 l (i : Int) = l[i] := pp_getD l i _ h
theorem pp_rdLTC {l : List S83} {i : Nat} (h : i < l.length) : rd_T83 l (i : Int) = l[i] := pp_getD l i _ h
theorem pp_rdTR {l : List S58} {i : Nat} (h : i < l.length) : rd_T58 l (i : Int) = l[i] := pp_getD l i _ h
def ppTC (x : S83) : S63 := ⟨x.f0, x.f1, x.f2, ⟨x.f3.f0, x.f3.f1⟩, ⟨x.f4.f0, x.f4.f1⟩, ⟨x.f5.f0, x.f5.f1⟩, ⟨x.f6.f0, x.f6.f1⟩⟩
def ppTR (x : S52) : S58 := ⟨x.f0.map ppTC, x.f1⟩
def ppTL (x : S65) : S55 := ⟨x.f0, x.f1⟩
theorem pp_szTblCellS (l : List S83) (hl : l.length ≤ 9223372036854775807) (hx : ∀ c ∈ l, c.f0.size ≤ 9223372036854775807) (a : Int) (h0 : 0 ≤ a) (h1 : a ≤ 1048576) :
    Evs (fun k => laws_szTblCellS.f k l a) (fun r => r < 0 ∨ (r ≤ a ∧ l.length ≤ 1048576 ∧ ∀ c ∈ l, c.f0.size ≤ 1048576)) := by
  unfold laws_szTblCellS.f
  rw [pp_wrap_id (a - (l.length : Int)) (by omega) (by omega)]
  refine Evs.ite (fun _ => Evs.now (.inl (by omega))) (fun hn0 => ?_)
  refine Evs.up (fun k (s : Int) i => laws_szTblCellS.l0 k l s i) l.length (fun i s => 0 ≤ s ∧ s ≤ a ∧ ∀ j (hj : j < l.length), j < i → l[j].f0.size ≤ 1048576) _ ?_ ?_ _ ⟨by omega, by omega, fun j _ h => absurd h (Nat.not_lt_zero _)⟩
  · intro s i hi ⟨g1, g2, g3⟩ hn
    have hxi := hx _ (List.getElem_mem hi)
    have e : laws_szTblCell.f l[i].f0 l[i].f1 l[i].f2 l[i].f3.f0 l[i].f3.f1 l[i].f4.f0 l[i].f4.f1 l[i].f5.f0 l[i].f5.f1 l[i].f6.f0 l[i].f6.f1 s = some (if s - (l[i].f0.size : Int) < 0 then -1 else s - (l[i].f0.size : Int)) := by
      unfold laws_szTblCell.f
      rw [pp_wrap_id (s - (l[i].f0.size : Int)) (by omega) (by omega)]
      split <;> rfl
    refine Evs.step (fun k => by simp only [laws_szTblCellS.l0]; rw [if_pos (by omega), if_pos (by omega), pp_rdLTC hi, e, pp_wrap_id ((i : Int) + 1) (by omega) (by omega)]; try rfl) ?_
    simp only [Option.bind_some]
    by_cases hlt : s - (l[i].f0.size : Int) < 0
    · rw [if_pos hlt]
      exact Evs.pos (by omega) (Evs.now (.inl (by omega)))
    · rw [if_neg hlt]
      refine Evs.neg (by omega) (hn _ ⟨by omega, by omega, fun j hj hji => ?_⟩)
      by_cases e : j = i
      · subst e; omega
      · exact g3 j hj (by omega)
  · intro s ⟨g1, g2, g3⟩
    refine Evs.step (f := fun _ => some s) (fun k => by simp only [laws_szTblCellS.l0]; rw [if_neg (by omega)]) (Evs.now (.inr ⟨g2, by omega, fun x hxm => ?_⟩))
    obtain ⟨j, hj, rfl⟩ := List.getElem_of_mem hxm
    exact g3 j hj hj
/-- Nothing of a table is larger than a megabyte, if its size is told. -/
theorem pp_szTblTable (cs : List S65) (hd ft : Int) (rs : List S52) (gp : Int) (hc : cs.length ≤ 9223372036854775807) (hr : rs.length ≤ 9223372036854775807) (hx : ∀ x ∈ rs, x.f0.length ≤ 9223372036854775807 ∧ ∀ c ∈ x.f0, c.f0.size ≤ 9223372036854775807) :
    Evs (fun k => laws_szTblTable.f k cs hd ft rs gp 1048576) (fun r => r < 0 ∨ (cs.length ≤ 1048576 ∧ rs.length ≤ 1048576 ∧ ∀ x ∈ rs, x.f0.length ≤ 1048576 ∧ ∀ c ∈ x.f0, c.f0.size ≤ 1048576)) := by
  unfold laws_szTblTable.f laws_szTblColS.f
  rw [pp_wrap_id (1048576 - (cs.length : Int)) (by omega) (by omega)]
  by_cases h1 : 1048576 - (cs.length : Int) < 0
  · rw [if_pos h1]
    simp only [Option.bind_some]
    exact Evs.pos (by omega) (Evs.now (.inl (by omega)))
  rw [if_neg h1]
  simp only [Option.bind_some]
  refine Evs.neg (by omega) ?_
  have hrows : Evs (fun k => laws_szTblRowS.f k rs (1048576 - (cs.length : Int))) (fun r => r < 0 ∨ (rs.length ≤ 1048576 ∧ ∀ x ∈ rs, x.f0.length ≤ 1048576 ∧ ∀ c ∈ x.f0, c.f0.size ≤ 1048576)) := by
    unfold laws_szTblRowS.f
    rw [pp_wrap_id (1048576 - (cs.length : Int) - (rs.length : Int)) (by omega) (by omega)]
    refine Evs.ite (fun _ => Evs.now (.inl (by omega))) (fun hn0 => ?_)
    refine Evs.up (fun k (s : Int) i => laws_szTblRowS.l0 k rs s i) rs.length (fun i s => 0 ≤ s ∧ s ≤ 1048576 ∧ ∀ j (hj : j < rs.length), j < i → rs[j].f0.length ≤ 1048576 ∧ ∀ c ∈ rs[j].f0, c.f0.size ≤ 1048576) _ ?_ ?_ _ ⟨by omega, by omega, fun j _ h => absurd h (Nat.not_lt_zero _)⟩
    · intro s i hi ⟨g1, g2, g3⟩ hn
      obtain ⟨x1, x2⟩ := hx _ (List.getElem_mem hi)
      refine Evs.step (fun k => by simp only [laws_szTblRowS.l0]; rw [if_pos (by omega), if_pos (by omega), pp_rdLTR hi, pp_wrap_id ((i : Int) + 1) (by omega) (by omega)]; try rfl) ?_
      have hrow : Evs (fun k => laws_szTblRow.f k rs[i].f0 rs[i].f1 s) (fun r => r < 0 ∨ (r ≤ s ∧ rs[i].f0.length ≤ 1048576 ∧ ∀ c ∈ rs[i].f0, c.f0.size ≤ 1048576)) := by
        unfold laws_szTblRow.f
        exact Evs.bnd (pp_szTblCellS _ x1 x2 s g1 g2) (fun r h => Evs.ite (fun _ => Evs.now (.inl (by omega))) (fun _ => Evs.now h))
      refine Evs.bnd hrow (fun r h => Evs.ite (fun _ => Evs.now (.inl (by omega))) (fun hr0 => ?_))
      rcases h with h | ⟨h2, h3, h4⟩
      · exact absurd h hr0
      · refine hn _ ⟨by omega, by omega, fun j hj hji => ?_⟩
        by_cases e : j = i
        · subst e; exact ⟨h3, h4⟩
        · exact g3 j hj (by omega)
    · intro s ⟨g1, g2, g3⟩
      refine Evs.step (f := fun _ => some s) (fun k => by simp only [laws_szTblRowS.l0]; rw [if_neg (by omega)]) (Evs.now (.inr ⟨by omega, fun x hxm => ?_⟩))
      obtain ⟨j, hj, rfl⟩ := List.getElem_of_mem hxm
      exact g3 j hj hj
  refine Evs.bnd hrows (fun r h => Evs.ite (fun _ => Evs.now (.inl (by omega))) (fun hr0 => Evs.now ?_))
  rcases h with h | h
  · exact absurd h hr0
  · exact .inr ⟨by omega, h⟩
theorem pp_toTblColS (l : List S65) (hl : l.length ≤ 1048576) : Evs (fun k => laws_toTblColS.f k l) (fun r => r = l.map ppTL) := by
  unfold laws_toTblColS.f
  refine Evs.pos (by omega) (Evs.pos (by omega) ?_)
  refine Evs.up (fun k (s : List S55) i => laws_toTblColS.l0 k l s i) l.length (fun i out => out.length = l.length ∧ out.take i = (l.map ppTL).take i) _ ?_ ?_ _ ⟨by simp, by simp⟩
  · intro s i hi ⟨h1, h2⟩ hn
    refine Evs.step (fun k => by simp only [laws_toTblColS.l0, laws_toTblCol.f, Option.bind_some]; rw [if_pos (by omega), if_pos (by omega), if_pos (by omega), pp_rdLTL hi, pp_wrap_id ((i : Int) + 1) (by omega) (by omega)]; try rfl) (hn _ ⟨by simpa using h1, ?_⟩)
    rw [Int.toNat_natCast, List.take_succ_eq_append_getElem (by simpa [h1] using hi), List.take_succ_eq_append_getElem (by simpa using hi), List.take_set_of_le (by omega), h2]
    simp [ppTL]
  · intro s ⟨h1, h2⟩
    refine Evs.step (f := fun _ => some s) (fun k => by simp only [laws_toTblColS.l0]; rw [if_neg (by omega)]) (Evs.now ?_)
    rw [List.take_of_length_le (by omega), List.take_of_length_le (by simp)] at h2
    exact h2
theorem pp_toTblCellS (l : List S83) (hl : l.length ≤ 1048576) : Evs (fun k => laws_toTblCellS.f k l) (fun r => r = l.map ppTC) := by
  unfold laws_toTblCellS.f
  refine Evs.pos (by omega) (Evs.pos (by omega) ?_)
  refine Evs.up (fun k (s : List S63) i => laws_toTblCellS.l0 k l s i) l.length (fun i out => out.length = l.length ∧ out.take i = (l.map ppTC).take i) _ ?_ ?_ _ ⟨by simp, by simp⟩
  · intro s i hi ⟨h1, h2⟩ hn
    refine Evs.step (fun k => by simp only [laws_toTblCellS.l0, laws_toTblCell.f, laws_toBrdLine.f, Option.bind_some]; rw [if_pos (by omega), if_pos (by omega), if_pos (by omega), pp_rdLTC hi, pp_wrap_id ((i : Int) + 1) (by omega) (by omega)]; try rfl) (hn _ ⟨by simpa using h1, ?_⟩)
    rw [Int.toNat_natCast, List.take_succ_eq_append_getElem (by simpa [h1] using hi), List.take_succ_eq_append_getElem (by simpa using hi), List.take_set_of_le (by omega), h2]
    simp [ppTC]
  · intro s ⟨h1, h2⟩
    refine Evs.step (f := fun _ => some s) (fun k => by simp only [laws_toTblCellS.l0]; rw [if_neg (by omega)]) (Evs.now ?_)
    rw [List.take_of_length_le (by omega), List.take_of_length_le (by simp)] at h2
    exact h2
theorem pp_toTblRowS (l : List S52) (hl : l.length ≤ 1048576) (hx : ∀ x ∈ l, x.f0.length ≤ 1048576) : Evs (fun k => laws_toTblRowS.f k l) (fun r => r = l.map ppTR) := by
  unfold laws_toTblRowS.f
  refine Evs.pos (by omega) (Evs.pos (by omega) ?_)
  refine Evs.up (fun k (s : List S58) i => laws_toTblRowS.l0 k l s i) l.length (fun i out => out.length = l.length ∧ out.take i = (l.map ppTR).take i) _ ?_ ?_ _ ⟨by simp, by simp⟩
  · intro s i hi ⟨h1, h2⟩ hn
    have hxi := hx _ (List.getElem_mem hi)
    refine Evs.step (fun k => by simp only [laws_toTblRowS.l0, laws_toTblRow.f]; rw [if_pos (by omega), if_pos (by omega), pp_rdLTR hi, pp_wrap_id ((i : Int) + 1) (by omega) (by omega)]; try rfl) ?_
    have hrow : Evs (fun k => (laws_toTblCellS.f k l[i].f0).bind fun t => some (t, l[i].f1)) (fun r => r = (l[i].f0.map ppTC, l[i].f1)) := Evs.bnd (pp_toTblCellS _ hxi) (fun r h => Evs.now (by rw [h]))
    refine Evs.bnd hrow ?_
    rintro _ rfl
    refine Evs.pos (by omega) (hn _ ⟨by simpa using h1, ?_⟩)
    rw [Int.toNat_natCast, List.take_succ_eq_append_getElem (by simpa [h1] using hi), List.take_succ_eq_append_getElem (by simpa using hi), List.take_set_of_le (by omega), h2]
    simp [ppTR]
  · intro s ⟨h1, h2⟩
    refine Evs.step (f := fun _ => some s) (fun k => by simp only [laws_toTblRowS.l0]; rw [if_neg (by omega)]) (Evs.now ?_)
    rw [List.take_of_length_le (by omega), List.take_of_length_le (by simp)] at h2
    exact h2
theorem pp_toTblTable (cs : List S65) (hd ft : Int) (rs : List S52) (gp : Int) (h1 : cs.length ≤ 1048576) (h2 : rs.length ≤ 1048576) (h3 : ∀ x ∈ rs, x.f0.length ≤ 1048576) : Evs (fun k => laws_toTblTable.f k cs hd ft rs gp) (fun r => r = (cs.map ppTL, hd, ft, rs.map ppTR, gp)) := by
  unfold laws_toTblTable.f
  refine Evs.bnd (pp_toTblColS cs h1) ?_
  rintro _ rfl
  refine Evs.bnd (pp_toTblRowS rs h2 h3) ?_
  rintro _ rfl
  exact Evs.now rfl
theorem pp_eqTblColS (l : List S55) (hl : l.length ≤ 1048576) : Evs (fun k => laws_eqTblColS.f k l l) (fun r => r = true) := by
  unfold laws_eqTblColS.f
  refine Evs.pos rfl ?_
  refine Evs.up (fun k (_ : Unit) i => laws_eqTblColS.l0 k l l i) l.length (fun _ _ => True) _ ?_ ?_ () trivial
  · intro s i hi _ hn
    refine Evs.step (fun k => by simp only [laws_eqTblColS.l0, laws_eqTblCol.f, if_true, Option.bind_some]; rw [if_pos (by omega), if_pos (by omega), if_pos (by omega), pp_wrap_id ((i : Int) + 1) (by omega) (by omega)]; try rfl) (hn () trivial)
  · intro s _
    exact Evs.step (f := fun _ => some true) (fun k => by simp only [laws_eqTblColS.l0]; rw [if_neg (by omega)]) (Evs.now rfl)
theorem pp_eqTblCellS (l : List S63) (hl : l.length ≤ 1048576) : Evs (fun k => laws_eqTblCellS.f k l l) (fun r => r = true) := by
  unfold laws_eqTblCellS.f
  refine Evs.pos rfl ?_
  refine Evs.up (fun k (_ : Unit) i => laws_eqTblCellS.l0 k l l i) l.length (fun _ _ => True) _ ?_ ?_ () trivial
  · intro s i hi _ hn
    refine Evs.step (fun k => by simp only [laws_eqTblCellS.l0, laws_eqTblCell.f, laws_eqBrdLine.f, if_true, Option.bind_some]; rw [if_pos (by omega), if_pos (by omega), if_pos (by omega), pp_wrap_id ((i : Int) + 1) (by omega) (by omega)]; try rfl) (hn () trivial)
  · intro s _
    exact Evs.step (f := fun _ => some true) (fun k => by simp only [laws_eqTblCellS.l0]; rw [if_neg (by omega)]) (Evs.now rfl)
theorem pp_eqTblRowS (l : List S58) (hl : l.length ≤ 1048576) (hx : ∀ x ∈ l, x.f0.length ≤ 1048576) : Evs (fun k => laws_eqTblRowS.f k l l) (fun r => r = true) := by
  unfold laws_eqTblRowS.f
  refine Evs.pos rfl ?_
  refine Evs.up (fun k (_ : Unit) i => laws_eqTblRowS.l0 k l l i) l.length (fun _ _ => True) _ ?_ ?_ () trivial
  · intro s i hi _ hn
    have hxi := hx _ (List.getElem_mem hi)
    refine Evs.step (fun k => by simp only [laws_eqTblRowS.l0, laws_eqTblRow.f]; rw [if_pos (by omega), if_pos (by omega), if_pos (by omega), pp_rdTR hi, pp_wrap_id ((i : Int) + 1) (by omega) (by omega)]; try rfl) ?_
    have hrow : Evs (fun k => (laws_eqTblCellS.f k l[i].f0 l[i].f0).bind fun t => if t = true then (if (l[i].f1 != l[i].f1) = true then some false else some true) else some false) (fun r => r = true) :=
      Evs.bnd (pp_eqTblCellS _ hxi) (fun r h => Evs.pos h (Evs.neg (by simp) (Evs.now rfl)))
    exact Evs.bnd hrow (fun r h => Evs.pos h (hn () trivial))
  · intro s _
    exact Evs.step (f := fun _ => some true) (fun k => by simp only [laws_eqTblRowS.l0]; rw [if_neg (by omega)]) (Evs.now rfl)
theorem pp_eqTblTable (cs : List S55) (hd ft : Int) (rs : List S58) (gp : Int) (h1 : cs.length ≤ 1048576) (h2 : rs.length ≤ 1048576) (h3 : ∀ x ∈ rs, x.f0.length ≤ 1048576) : Evs (fun k => laws_eqTblTable.f k cs hd ft rs gp cs hd ft rs gp) (fun r => r = true) := by
  unfold laws_eqTblTable.f
  exact Evs.bnd (pp_eqTblColS cs h1) (fun r h => Evs.pos h (Evs.pos rfl (Evs.pos rfl (Evs.bnd (pp_eqTblRowS rs h2 h3) (fun r h => Evs.pos h (Evs.pos rfl (Evs.now rfl)))))))

/-- A small letter. -/
def ppLow (c : UInt8) : Bool := decide (97 ≤ c.toNat ∧ c.toNat ≤ 122)
/-- A text, byte by byte; b: its beginning or a blank stands ahead. -/
def ppOkL : Bool → List UInt8 → Bool
  | b, [] => !b
  | b, c :: r => if c = 32 then !b && ppOkL true r else ppLow c && ppOkL false r
/-- Whether a text is ok. -/
def ppTxtB (x : ByteArray) : Bool := decide (x.size ≤ 30) && (decide (x.size = 0) || ppOkL true x.data.toList)
/-- A text's pieces between its blanks. -/
def ppPcs : List UInt8 → List (List UInt8)
  | [] => [[]]
  | c :: r => if c = 32 then [] :: ppPcs r else match ppPcs r with
    | h :: t => (c :: h) :: t
    | [] => [[c]]
theorem ppPcs_split : ∀ l : List UInt8, Lib.splitK [32] 0 (Lib.count l [32]) l = ppPcs l
  | [] => by rw [Lib.count_one]; rfl
  | c :: r => by
    have ih := ppPcs_split r
    by_cases h : c = 32
    · subst h
      rw [Lib.count_cons_eq, Nat.add_comm]
      have hix : Lib.index (32 :: r) [32] = 0 := by rw [Lib.index]; simp [List.isPrefixOf]
      unfold Lib.splitK ppPcs
      rw [hix, if_neg (by decide), if_pos rfl, ← ih]
      simp
    · rw [Lib.count_cons_ne c 32 r h]
      have hp : ([32] : List UInt8).isPrefixOf (c :: r) = false := by simp [List.isPrefixOf, Ne.symm h]
      have hix : Lib.index (c :: r) [32] = if Lib.index r [32] == -1 then -1 else Lib.index r [32] + 1 := by rw [Lib.index, hp]; simp
      unfold ppPcs
      rw [if_neg h, ← ih]
      by_cases hm : Lib.index r [32] = -1
      · rw [Lib.count_miss hm]
        rfl
      · have hge := Lib.index_ge r [32]
        obtain ⟨j, hj⟩ : ∃ j : Nat, Lib.index r [32] = j := ⟨(Lib.index r [32]).toNat, by omega⟩
        have hc := Lib.count_hit (s := r) (sub := [32]) (by simp) hj
        rw [hc, Nat.add_comm]
        have e1 : ¬ ((j : Int) == -1) = true := fun e => by have := beq_iff_eq.1 e; omega
        have e2 : ¬ ((j : Int) + 1 == -1) = true := fun e => by have := beq_iff_eq.1 e; omega
        have e3 : ((j : Int) + 1).toNat = j + 1 := by omega
        unfold Lib.splitK
        rw [hix, hj, if_neg e1, if_neg e2, if_neg e1, e3]
        simp
def ppWordL (x : List UInt8) : Bool := !x.isEmpty && x.all ppLow
theorem ppPcs_ok : ∀ (l : List UInt8) (b : Bool), ∃ h t, ppPcs l = h :: t ∧ ppOkL b l = ((!(b && h.isEmpty)) && h.all ppLow && t.all ppWordL)
  | [], b => ⟨[], [], rfl, by cases b <;> rfl⟩
  | c :: r, b => by
    by_cases h : c = 32
    · obtain ⟨h', t', e, q⟩ := ppPcs_ok r true
      refine ⟨[], h' :: t', by unfold ppPcs; rw [if_pos h, e], ?_⟩
      unfold ppOkL
      rw [if_pos h, q]
      simp only [List.all_cons, ppWordL, List.isEmpty_nil, List.all_nil, Bool.and_true, Bool.true_and]
    · obtain ⟨h', t', e, q⟩ := ppPcs_ok r false
      refine ⟨c :: h', t', by unfold ppPcs; rw [if_neg h, e], ?_⟩
      unfold ppOkL
      rw [if_neg h, q]
      simp only [List.all_cons, List.isEmpty_cons, Bool.and_false, Bool.not_false, Bool.false_and, Bool.true_and, Bool.and_assoc]
theorem ppPcs_all (l : List UInt8) : (ppPcs l).all ppWordL = ppOkL true l := by
  obtain ⟨h, t, e, q⟩ := ppPcs_ok l true
  rw [e, q]
  simp only [List.all_cons, ppWordL, Bool.true_and]
theorem ppAz_low : ∀ c : UInt8, Txt.ppAz.contains c = ppLow c := by
  have h : ∀ n : Fin 256, Txt.ppAz.contains (UInt8.ofNat n.val) = ppLow (UInt8.ofNat n.val) := by decide +kernel
  intro c
  have := h ⟨c.toNat, c.toNat_lt⟩
  simpa using this
theorem ppDrop_head {α : Type} (p : α → Bool) : ∀ (l : List α) (a : α) (t : List α), l.dropWhile p = a :: t → p a = false
  | [], _, _, h => by simp at h
  | b :: r, a, t, h => by
    rw [List.dropWhile_cons] at h
    by_cases hb : p b = true
    · rw [if_pos hb] at h
      exact ppDrop_head p r a t h
    · rw [if_neg hb] at h
      injection h with h1 h2
      rw [← h1]
      simpa using hb
theorem ppDrop_nil {α : Type} (p : α → Bool) : ∀ l : List α, l.dropWhile p = [] ↔ ∀ x ∈ l, p x = true
  | [] => by simp
  | b :: r => by
    rw [List.dropWhile_cons]
    by_cases hb : p b = true
    · rw [if_pos hb, ppDrop_nil p r]
      simp [hb]
    · rw [if_neg hb]
      simp [hb]
theorem ppTrim_nil (l cs : List UInt8) : (Lib.trimS l cs).isEmpty = l.all (cs.contains ·) := by
  have hall : (Lib.trimS l cs) = [] ↔ ∀ x ∈ l, cs.contains x = true := by
    unfold Lib.trimS Lib.trimLeftS Lib.trimRightS
    cases hy : l.reverse.dropWhile (cs.contains ·) with
    | nil =>
      have h2 := (ppDrop_nil _ _).1 hy
      exact ⟨fun _ x hx => h2 x (List.mem_reverse.2 hx), fun _ => rfl⟩
    | cons a t =>
      have ha := ppDrop_head _ _ _ _ hy
      have hm : a ∈ l := List.mem_reverse.1 ((List.dropWhile_suffix _).subset (hy ▸ List.mem_cons_self))
      refine ⟨fun h => ?_, fun h => ?_⟩
      · have := (ppDrop_nil _ _).1 h a (by simp)
        rw [this] at ha
        cases ha
      · have := h a hm
        rw [this] at ha
        cases ha
  rw [Bool.eq_iff_iff, List.isEmpty_iff, hall, List.all_eq_true]
theorem ppWord_eq (x : ByteArray) : Txt.ppWordOk x = ppWordL x.data.toList := by
  unfold Txt.ppWordOk ppWordL Txt.ppRest
  rw [Lib.toList_data, Lib.toList_data]
  have e : ∀ l : List UInt8, (⟨l.toArray⟩ : ByteArray).data.toList = l := fun l => by simp
  rw [e, ppTrim_nil]
  congr 1
  exact List.all_congr rfl (fun c => ppAz_low c)
theorem ppTxt_eq (x : ByteArray) : Txt.ppTxtOk x = ppTxtB x := by
  unfold Txt.ppTxtOk ppTxtB
  have hw : (Txt.ppWords x).all Txt.ppWordOk = ppOkL true x.data.toList := by
    have h1 : (Txt.ppWords x).all Txt.ppWordOk = ((Txt.ppWords x).map (·.data.toList)).all ppWordL := by
      rw [List.all_map]
      exact List.all_congr rfl (fun c => ppWord_eq c)
    rw [h1]
    unfold Txt.ppWords
    rw [Lib.splitB_data]
    rw [← ppPcs_all, ← ppPcs_split]
  rw [hw, Lib.toList_data]
  have hs := Lib.size_eq x
  by_cases h0 : x.size = 0
  · have : x.data.toList = [] := List.eq_nil_of_length_eq_zero (by omega)
    rw [this, h0]
    rfl
  · have : x.data.toList.isEmpty = false := by
      rw [List.isEmpty_eq_false_iff]
      intro e
      rw [e] at hs
      exact h0 hs
    rw [this, decide_eq_false h0, Bool.false_or, Bool.false_or, Bool.and_comm]
    congr 1
    exact decide_eq_decide.2 (by omega)
/-- The byte at a place, as a number. -/
theorem pp_bt (x : ByteArray) (i : Nat) (h : i < x.size) : bt x (i : Int) = ((x.data.toList[i]'(by rw [← Lib.size_eq]; exact h)).toNat : Int) := by
  unfold bt
  rw [dif_pos (by simpa using h)]
  congr 2

theorem pp_inS (x c d : Int) : spec_l1In.f x c d = some (decide (c ≤ x ∧ x ≤ d)) := by
  unfold spec_l1In.f
  split
  · congr 1; exact decide_eq_decide.2 (by omega)
  · congr 1; symm; exact decide_eq_false (by omega)
theorem pp_inP (x c d : Int) : impl_in.f x c d = some (decide (c ≤ x ∧ x ≤ d)) := by
  unfold impl_in.f
  split
  · congr 1; exact decide_eq_decide.2 (by omega)
  · congr 1; symm; exact decide_eq_false (by omega)
theorem ppList_getElem {α : Type} (l : List α) (i : Nat) (h : i < l.length) : l.drop i = l[i] :: l.drop (i + 1) := List.drop_eq_getElem_cons h
/-- spec.TxtOk, exactly. -/
theorem pp_txtS (x : ByteArray) : Evs (fun k => spec_TxtOk.f k x) (fun r => r = ppTxtB x) := by
  unfold spec_TxtOk.f
  have hsz := Lib.size_eq x
  refine Evs.ite (fun h => Evs.now ?_) (fun hx => ?_)
  · unfold ppTxtB
    rw [decide_eq_false (by omega)]
    rfl
  have e30 : decide (x.size ≤ 30) = true := decide_eq_true (by omega)
  have loop : ∀ (d i : Nat) (b : Bool), x.size - i = d → i ≤ x.size → (b = true ↔ (i = 0 ∨ bt x ((i : Int) - 1) = 32)) → (i = x.size → 0 < i → b = false) → Evs (fun k => spec_TxtOk.l0 k x (i : Int)) (fun r => r = (decide (i = x.size) || ppOkL b (x.data.toList.drop i))) := by
    intro d
    induction d with
    | zero =>
      intro i b hd hi hb hend
      refine Evs.step (f := fun _ => some true) (fun k => by simp only [spec_TxtOk.l0]; rw [if_neg (by omega)]) (Evs.now ?_)
      rw [decide_eq_true (show i = x.size by omega)]
      rfl
    | succ d ih =>
      intro i b hd hi hb hend
      have hil : i < x.data.toList.length := by omega
      have hbt := pp_bt x i (by omega)
      have hdr := ppList_getElem x.data.toList i hil
      generalize hc : x.data.toList[i] = c at hbt hdr
      have hcn : c.toNat < 256 := c.toNat_lt
      have c32 : c = 32 ↔ (c.toNat : Int) = 32 := by
        constructor
        · intro h; rw [h]; rfl
        · intro h; exact UInt8.toNat_inj.1 (show c.toNat = (32 : UInt8).toNat from by show c.toNat = 32; omega)
      have hne : decide (i = x.size) = false := decide_eq_false (by omega)
      -- behind the first test
      have J : ∀ w, (w = true → (decide (i = x.size) || ppOkL b (x.data.toList.drop i)) = false) → (w = false → c = 32 → b = false ∧ i + 1 < x.size) → Evs (fun k => spec_TxtOk.j1 k x (i : Int) w) (fun r => r = (decide (i = x.size) || ppOkL b (x.data.toList.drop i))) := by
        intro w hw1 hw2
        refine Evs.step (fun k => by simp only [spec_TxtOk.j1]; rfl) ?_
        refine Evs.ite (fun hw => Evs.now (hw1 hw).symm) (fun hw => Evs.pos (by omega) (Evs.pos (by omega) ?_))
        have hw : w = false := by simpa using hw
        rw [hbt, pp_wrap_id ((i : Int) + 1) (by omega) (by omega), pp_wrap_id (c.toNat : Int) (by omega) (by omega)]
        rw [hdr, hne]
        unfold ppOkL
        refine Evs.ite (fun h32 => ?_) (fun h32 => ?_)
        · obtain ⟨hb0, hlt⟩ := hw2 hw (c32.2 h32)
          rw [if_pos (c32.2 h32), hb0]
          have n := ih (i + 1) true (by omega) (by omega) ⟨fun _ => .inr (by rw [show (((i + 1 : Nat)) : Int) - 1 = (i : Int) by omega, hbt]; exact h32), fun _ => rfl⟩ (fun h => by omega)
          rw [decide_eq_false (show ¬ i + 1 = x.size by omega)] at n
          exact n
        · rw [if_neg (fun h => h32 (c32.1 h)), pp_inS]
          simp only [Option.bind_some]
          have n := ih (i + 1) false (by omega) (by omega) ⟨fun h => (by cases h), fun h => (by
            rcases h with h | h
            · omega
            · rw [show (((i + 1 : Nat)) : Int) - 1 = (i : Int) by omega, hbt] at h
              exact absurd h h32)⟩ (fun _ _ => rfl)
          refine Evs.ite (fun hin => ?_) (fun hin => Evs.now ?_)
          · have hin := of_decide_eq_true hin
            refine n.imp fun r hr => ?_
            rw [hr]
            have hl : ppLow c = true := decide_eq_true (by omega)
            rw [hl]
            by_cases he : i + 1 = x.size
            · rw [decide_eq_true he, List.drop_of_length_le (by omega)]
              rfl
            · rw [decide_eq_false he]
              rfl
          · have hin : ¬ (97 ≤ (c.toNat : Int) ∧ (c.toNat : Int) ≤ 122) := fun h => hin (decide_eq_true h)
            have hl : ppLow c = false := decide_eq_false (by omega)
            rw [hl]
            rfl
      refine Evs.step (fun k => by simp only [spec_TxtOk.l0]; rfl) ?_
      refine Evs.pos (by omega) (Evs.pos (by omega) ?_)
      rw [hbt]
      refine Evs.ite (fun h32 => ?_) (fun h32 => J false (fun h => (by cases h)) (fun _ h => absurd (c32.1 h) h32))
      have hpos : ppOkL b (x.data.toList.drop i) = (!b && ppOkL true (x.data.toList.drop (i + 1))) := by
        rw [hdr]
        show (if c = 32 then _ else _) = _
        rw [if_pos (c32.2 h32)]
      refine Evs.ite (fun h0 => J true (fun _ => ?_) (fun h => (by cases h))) (fun h0 => ?_)
      · rw [hne, hpos, hb.2 (.inl (by omega))]
        rfl
      rw [pp_wrap_id ((x.size : Int) - 1) (by omega) (by omega), pp_wrap_id ((i : Int) - 1) (by omega) (by omega)]
      refine Evs.ite (fun h1 => J true (fun _ => ?_) (fun h => (by cases h))) (fun h1 => Evs.pos (by omega) (Evs.pos (by omega) (J _ (fun h => ?_) (fun h _ => ?_))))
      · rw [hne, hpos, List.drop_of_length_le (show x.data.toList.length ≤ i + 1 by omega)]
        simp [ppOkL]
      · rw [hne, hpos, hb.2 (.inr (by simpa using h))]
        rfl
      · refine ⟨?_, by omega⟩
        rw [← Bool.not_eq_true]
        intro hbt'
        rcases hb.1 hbt' with h' | h'
        · omega
        · rw [h'] at h
          simp at h
  refine (loop _ 0 true rfl (by omega) ⟨fun _ => .inl rfl, fun _ => rfl⟩ (fun _ h => absurd h (Nat.lt_irrefl _))).imp fun r hr => ?_
  rw [hr]
  unfold ppTxtB
  rw [e30, List.drop_zero, Bool.true_and]
  congr 1
  exact decide_eq_decide.2 ⟨fun h => h.symm, fun h => h.symm⟩
def ppBrdB (a b : Int) : Bool := decide ((a = 0 ∨ a = 4) ∧ b = 0 ∨ (1 ≤ a ∧ a ≤ 3) ∧ 1 ≤ b ∧ b ≤ 3)
theorem pp_brdS (a b : Int) : Evs (fun k => spec_BrdOk.f k a b) (fun r => r = ppBrdB a b) := by
  have J : ∀ w, (w = true ↔ (a = 0 ∨ a = 4)) → Evs (fun k => spec_BrdOk.j0 k w a b) (fun r => r = ppBrdB a b) := by
    intro w hw
    refine Evs.step (fun k => by simp only [spec_BrdOk.j0]; rfl) ?_
    unfold ppBrdB
    refine Evs.ite (fun h => Evs.now ?_) (fun h => ?_)
    · have := hw.1 h
      rw [show (b == 0) = decide (b = 0) from rfl]
      exact decide_eq_decide.2 (by omega)
    · have : ¬ (a = 0 ∨ a = 4) := fun q => h (hw.2 q)
      rw [pp_inS, pp_inS]
      simp only [Option.bind_some]
      refine Evs.ite (fun h1 => Evs.now ?_) (fun h1 => Evs.now ?_)
      · have h1 := of_decide_eq_true h1
        exact decide_eq_decide.2 (by omega)
      · have h1 : ¬ (1 ≤ a ∧ a ≤ 3) := fun q => h1 (decide_eq_true q)
        exact (decide_eq_false (by omega)).symm
  unfold spec_BrdOk.f
  exact Evs.ite (fun h => J true (by simp [h])) (fun h => J _ (by simp [h]))
theorem pp_brdP (a b : Int) : impl_BrdOk.f a b = some (ppBrdB a b) := by
  unfold impl_BrdOk.f impl_BrdLine_drawn.f ppBrdB
  rw [pp_inP, pp_inP]
  simp only [Option.bind_some]
  by_cases h : 1 ≤ a ∧ a ≤ 3
  · rw [decide_eq_true h, if_pos rfl]
    congr 1
    exact decide_eq_decide.2 (by omega)
  · rw [decide_eq_false h, if_neg (by decide)]
    by_cases h0 : a = 0
    · rw [if_pos h0]
      congr 1
      rw [show (b == 0) = decide (b = 0) from rfl]
      exact decide_eq_decide.2 (by omega)
    · rw [if_neg h0]
      by_cases h4 : a = 4
      · rw [if_pos h4]
        congr 1
        rw [show (b == 0) = decide (b = 0) from rfl]
        exact decide_eq_decide.2 (by omega)
      · rw [if_neg h4]
        congr 1
        exact (decide_eq_false (by omega)).symm
/-- Whether a cell is ok. -/
def ppCellB (x : S63) : Bool := ppTxtB x.f0 && decide (1 ≤ x.f1 ∧ x.f1 ≤ 4) && decide (1 ≤ x.f2 ∧ x.f2 ≤ 4) && ppBrdB x.f3.f0 x.f3.f1 && ppBrdB x.f4.f0 x.f4.f1 && ppBrdB x.f5.f0 x.f5.f1 && ppBrdB x.f6.f0 x.f6.f1
theorem pp_cellS (x : S63) : Evs (fun k => spec_CellOk.f k x.f0 x.f1 x.f2 x.f3.f0 x.f3.f1 x.f4.f0 x.f4.f1 x.f5.f0 x.f5.f1 x.f6.f0 x.f6.f1) (fun r => r = ppCellB x) := by
  unfold spec_CellOk.f ppCellB
  rw [pp_inS, pp_inS]
  refine Evs.bnd (pp_txtS _) ?_
  rintro _ rfl
  refine Evs.ite (fun h1 => ?_) (fun h1 => Evs.now (by rw [(by simpa using h1 : ppTxtB x.f0 = false)]; simp))
  rw [h1]
  simp only [Option.bind_some]
  refine Evs.ite (fun h2 => ?_) (fun h2 => Evs.now (by rw [Bool.eq_false_iff.2 h2]; simp))
  rw [h2]
  refine Evs.ite (fun h3 => ?_) (fun h3 => Evs.now (by rw [Bool.eq_false_iff.2 h3]; simp))
  rw [h3]
  refine Evs.bnd (pp_brdS _ _) ?_
  rintro _ rfl
  refine Evs.ite (fun h4 => ?_) (fun h4 => Evs.now (by rw [Bool.eq_false_iff.2 h4]; simp))
  rw [h4]
  refine Evs.bnd (pp_brdS _ _) ?_
  rintro _ rfl
  refine Evs.ite (fun h5 => ?_) (fun h5 => Evs.now (by rw [Bool.eq_false_iff.2 h5]; simp))
  rw [h5]
  refine Evs.bnd (pp_brdS _ _) ?_
  rintro _ rfl
  refine Evs.ite (fun h6 => ?_) (fun h6 => Evs.now (by rw [Bool.eq_false_iff.2 h6]; simp))
  rw [h6]
  refine Evs.bnd (pp_brdS _ _) ?_
  rintro _ rfl
  exact Evs.now (by simp)
theorem pp_cellP (x : S63) (hs : x.f0.size < 4294967281) : impl_CellOk.f x.f0 x.f1 x.f2 x.f3.f0 x.f3.f1 x.f4.f0 x.f4.f1 x.f5.f0 x.f5.f1 x.f6.f0 x.f6.f1 = some (ppCellB x) := by
  unfold impl_CellOk.f impl_TxtOk.f ppCellB
  rw [if_pos hs, ppTxt_eq, pp_inP, pp_inP, pp_brdP, pp_brdP, pp_brdP, pp_brdP]
  simp only [Option.bind_some]
  cases ppTxtB x.f0 <;> cases decide (1 ≤ x.f1 ∧ x.f1 ≤ 4) <;> cases decide (1 ≤ x.f2 ∧ x.f2 ≤ 4) <;> cases ppBrdB x.f3.f0 x.f3.f1 <;> cases ppBrdB x.f4.f0 x.f4.f1 <;> cases ppBrdB x.f5.f0 x.f5.f1 <;> rfl
def ppColB (x : S55) : Bool := decide (x.f0 = 0 ∧ x.f1 = 0 ∨ x.f0 = 1 ∧ 0 ≤ x.f1 ∧ x.f1 ≤ 60 ∨ x.f0 = 2 ∧ 1 ≤ x.f1 ∧ x.f1 ≤ 100)
theorem pp_colS (x : S55) : spec_l2Col.f x.f0 x.f1 = some (ppColB x) := by
  unfold spec_l2Col.f ppColB
  rw [pp_inS, pp_inS]
  simp only [Option.bind_some]
  repeat' split
  · congr 1; rw [show (x.f1 == 0) = decide (x.f1 = 0) from rfl]; exact decide_eq_decide.2 (by omega)
  · congr 1; exact decide_eq_decide.2 (by omega)
  · congr 1; exact decide_eq_decide.2 (by omega)
  · congr 1; exact (decide_eq_false (by omega)).symm
theorem pp_colP (x : S55) : impl_TblCol_ok.f x.f0 x.f1 = some (ppColB x) := by
  unfold impl_TblCol_ok.f ppColB
  rw [pp_inP, pp_inP]
  simp only [Option.bind_some]
  repeat' split
  · congr 1; rw [show (x.f1 == 0) = decide (x.f1 = 0) from rfl]; exact decide_eq_decide.2 (by omega)
  · congr 1; exact decide_eq_decide.2 (by omega)
  · congr 1; exact decide_eq_decide.2 (by omega)
  · congr 1; exact (decide_eq_false (by omega)).symm
def ppRowB (r : S58) : Bool := decide (r.f0.length ≤ 5) && r.f0.all ppCellB
/-- Whether a table is ok. -/
def ppTblB (cs : List S55) (hd ft : Int) (rs : List S58) (gp : Int) : Bool :=
  decide ((1 ≤ rs.length ∧ rs.length ≤ 8) ∧ cs.length ≤ 8 ∧ (0 ≤ hd ∧ hd ≤ rs.length) ∧ (0 ≤ ft ∧ ft ≤ rs.length - hd) ∧ 0 ≤ gp ∧ gp ≤ 3) && cs.all ppColB && rs.all ppRowB
theorem ppAll_step {α : Type} (p : α → Bool) (l : List α) (i : Nat) (h : i < l.length) (hi : (l.take i).all p = true) : l.all p = (p l[i] && (l.drop (i + 1)).all p) := by
  have e : l = l.take i ++ (l[i] :: l.drop (i + 1)) := by rw [← List.drop_eq_getElem_cons h, List.take_append_drop]
  have : l.all p = ((l.take i).all p && (p l[i] && (l.drop (i + 1)).all p)) := by
    conv => lhs; rw [e]
    rw [List.all_append, List.all_cons]
  rw [this, hi, Bool.true_and]
theorem ppAll_take {α : Type} (p : α → Bool) (l : List α) (i : Nat) (h : i < l.length) (hi : (l.take i).all p = true) (hp : p l[i] = true) : (l.take (i + 1)).all p = true := by
  rw [List.take_succ_eq_append_getElem h, List.all_append, hi]
  simp [hp]
theorem pp_tblS (cs : List S55) (hd ft : Int) (rs : List S58) (gp : Int) : Evs (fun k => spec_TblOk.f k cs hd ft rs gp) (fun r => r = ppTblB cs hd ft rs gp) := by
  generalize hT : ppTblB cs hd ft rs gp = T
  have F : (rs.all ppRowB = false ∨ cs.all ppColB = false) → T = false := by
    intro h
    rw [← hT]
    unfold ppTblB
    rcases h with h | h <;> rw [h] <;> simp
  have L : rs.length ≤ 8 → (cs.all ppColB = true) → (rs.all ppRowB = true → T = true) → ∀ (d i : Nat), rs.length - i = d → i ≤ rs.length → (rs.take i).all ppRowB = true → Evs (fun k => spec_TblOk.l1 k (i : Int) cs hd ft rs gp) (fun r => r = T) := by
    intro h8 hcs hyes d
    induction d with
    | zero =>
      intro i hd' hi hI
      rw [List.take_of_length_le (by omega)] at hI
      exact Evs.step (f := fun _ => some true) (fun k => by simp only [spec_TblOk.l1]; rw [if_neg (by omega)]) (Evs.now (hyes hI).symm)
    | succ d ih =>
      intro i hd' hi hI
      have hil : i < rs.length := by omega
      have hir : rd_T58 rs (i : Int) = rs[i] := pp_getD rs i _ hil
      have hstep := ppAll_step ppRowB rs i hil hI
      refine Evs.step (fun k => by simp only [spec_TblOk.l1]; rfl) ?_
      refine Evs.pos (by omega) (Evs.pos (by omega) ?_)
      rw [hir]
      refine Evs.ite (fun h5 => Evs.now ?_) (fun h5 => ?_)
      · refine (F (.inl ?_)).symm
        rw [hstep]
        unfold ppRowB
        rw [decide_eq_false (by omega)]
        rfl
      have n := fun (hc : rs[i].f0.all ppCellB = true) => ih (i + 1) (by omega) (by omega) (ppAll_take ppRowB rs i hil hI (by unfold ppRowB; rw [hc, decide_eq_true (by omega)]; rfl))
      rw [show (((i + 1 : Nat)) : Int) = wrap64 ((i : Int) + 1) by rw [pp_wrap_id _ (by omega) (by omega)]; rfl] at n
      have M : ∀ (d j : Nat), rs[i].f0.length - j = d → j ≤ rs[i].f0.length → (rs[i].f0.take j).all ppCellB = true → Evs (fun k => spec_TblOk.l2 k (i : Int) (j : Int) cs hd ft rs gp) (fun r => r = T) := by
        intro d
        induction d with
        | zero =>
          intro j hd2 hj hJ
          rw [List.take_of_length_le (by omega)] at hJ
          refine Evs.step (fun k => by simp only [spec_TblOk.l2]; rw [hir]) ?_
          exact Evs.pos (by omega) (Evs.pos (by omega) (Evs.neg (by omega) (n hJ)))
        | succ d ih2 =>
          intro j hd2 hj hJ
          have hjl : j < rs[i].f0.length := by omega
          have hjr : rd_T63 rs[i].f0 (j : Int) = rs[i].f0[j] := pp_getD rs[i].f0 j _ hjl
          refine Evs.step (fun k => by simp only [spec_TblOk.l2]; rw [hir, hjr]) ?_
          refine Evs.pos (by omega) (Evs.pos (by omega) (Evs.pos (by omega) (Evs.pos (by omega) ?_)))
          refine Evs.bnd (pp_cellS _) ?_
          rintro _ rfl
          refine Evs.ite (fun h => ?_) (fun h => Evs.now ?_)
          · have n2 := ih2 (j + 1) (by omega) (by omega) (ppAll_take ppCellB rs[i].f0 j hjl hJ h)
            rw [show (((j + 1 : Nat)) : Int) = wrap64 ((j : Int) + 1) by rw [pp_wrap_id _ (by omega) (by omega)]; rfl] at n2
            exact n2
          · refine (F (.inl ?_)).symm
            rw [hstep]
            unfold ppRowB
            rw [ppAll_step ppCellB rs[i].f0 j hjl hJ, Bool.eq_false_iff.2 h]
            simp
      exact M _ 0 rfl (by omega) rfl
  have K : cs.length ≤ 8 → rs.length ≤ 8 → (cs.all ppColB = true → rs.all ppRowB = true → T = true) → ∀ (d i : Nat), cs.length - i = d → i ≤ cs.length → (cs.take i).all ppColB = true → Evs (fun k => spec_TblOk.l0 k (i : Int) cs hd ft rs gp) (fun r => r = T) := by
    intro h8 h8' hyes d
    induction d with
    | zero =>
      intro i hd' hi hI
      rw [List.take_of_length_le (by omega)] at hI
      exact Evs.step (f := fun k => spec_TblOk.l1 k ((0 : Nat) : Int) cs hd ft rs gp) (fun k => by simp only [spec_TblOk.l0]; rw [if_neg (by omega)]; rfl) (L h8' hI (hyes hI) _ 0 rfl (by omega) rfl)
    | succ d ih =>
      intro i hd' hi hI
      have hil : i < cs.length := by omega
      have hir : rd_T55 cs (i : Int) = cs[i] := pp_getD cs i _ hil
      refine Evs.step (fun k => by simp only [spec_TblOk.l0]; rw [hir, pp_colS]) ?_
      simp only [Option.bind_some]
      refine Evs.pos (by omega) (Evs.pos (by omega) (Evs.ite (fun h => ?_) (fun h => Evs.now ?_)))
      · have n := ih (i + 1) (by omega) (by omega) (ppAll_take ppColB cs i hil hI h)
        rw [show (((i + 1 : Nat)) : Int) = wrap64 ((i : Int) + 1) by rw [pp_wrap_id _ (by omega) (by omega)]; rfl] at n
        exact n
      · refine (F (.inr ?_)).symm
        rw [ppAll_step ppColB cs i hil hI, Bool.eq_false_iff.2 h]
        rfl
  have J0 : T = false → Evs (fun k => spec_TblOk.j0 k true cs hd ft rs gp) (fun r => r = T) := fun h => Evs.step (f := fun _ => some false) (fun k => by simp only [spec_TblOk.j0]; rfl) (Evs.now h.symm)
  have no : ¬ ((1 ≤ rs.length ∧ rs.length ≤ 8) ∧ cs.length ≤ 8 ∧ (0 ≤ hd ∧ hd ≤ rs.length) ∧ (0 ≤ ft ∧ ft ≤ rs.length - hd) ∧ 0 ≤ gp ∧ gp ≤ 3) → T = false := by
    intro h
    rw [← hT]
    unfold ppTblB
    rw [decide_eq_false h]
    rfl
  unfold spec_TblOk.f
  rw [pp_inS, pp_inS, pp_inS, pp_inS]
  simp only [Option.bind_some]
  refine Evs.ite (fun h1 => ?_) (fun h1 => J0 (no fun q => h1 (decide_eq_true ⟨by omega, by omega⟩)))
  have h1 := of_decide_eq_true h1
  refine Evs.ite (fun h2 => J0 (no fun q => by omega)) (fun h2 => ?_)
  refine Evs.ite (fun h3 => ?_) (fun h3 => J0 (no fun q => h3 (decide_eq_true ⟨by omega, by omega⟩)))
  have h3 := of_decide_eq_true h3
  rw [pp_wrap_id ((rs.length : Int) - hd) (by omega) (by omega)]
  refine Evs.ite (fun h4 => ?_) (fun h4 => J0 (no fun q => h4 (decide_eq_true ⟨by omega, by omega⟩)))
  have h4 := of_decide_eq_true h4
  by_cases h5 : 0 ≤ gp ∧ gp ≤ 3
  · rw [decide_eq_true h5]
    refine Evs.step (fun k => by simp only [spec_TblOk.j0]; rfl) ?_
    refine Evs.neg (by decide) (K (by omega) (by omega) (fun c r => ?_) _ 0 rfl (by omega) rfl)
    rw [← hT]
    unfold ppTblB
    rw [decide_eq_true ⟨by omega, by omega, by omega, by omega, h5⟩, c, r]
    rfl
  · rw [decide_eq_false h5]
    exact J0 (no fun q => h5 q.2.2.2.2)
theorem ppIdx_neg {α : Type} (p : α → Bool) (l : List α) : decide (0 ≤ ppIdx (fun x => !p x) l) = !l.all p := by
  by_cases h : l.all p = true
  · rw [h, ppIdx_miss _ _ (fun j hj => by simp [List.all_eq_true.1 h _ (List.getElem_mem hj)])]
    rfl
  · rw [Bool.eq_false_iff.2 h]
    have : ∃ x ∈ l, p x = false := by simpa using h
    obtain ⟨x, hx, hp⟩ := this
    refine decide_eq_true ?_
    unfold ppIdx
    cases e : l.findIdx? (fun x => !p x) with
    | some i => exact Int.natCast_nonneg _
    | none =>
      rw [List.findIdx?_eq_none_iff] at e
      have := e x hx
      rw [hp] at this
      cases this
/-- impl.TblOk, exactly, of texts that are not too long. -/
theorem pp_tblP (cs : List S55) (hd ft : Int) (rs : List S58) (gp : Int) (hf : ∀ x ∈ rs, ∀ c ∈ x.f0, c.f0.size < 4294967281) (k : Nat) : impl_TblOk.f k cs hd ft rs gp = some (ppTblB cs hd ft rs gp) := by
  unfold impl_TblOk.f
  have hfits : impl_TblOk.fits rs = true := by
    unfold impl_TblOk.fits
    simpa using hf
  rw [if_pos hfits, pp_inP, pp_inP, pp_inP, pp_inP]
  simp only [Option.bind_some]
  have hcol : (fun c : S55 => !impl_TblOk.colB c) = (fun c => !ppColB c) := by
    funext c
    unfold impl_TblOk.colB
    rw [pp_colP]
    rfl
  have hrow : decide (0 ≤ ppIdx impl_TblOk.rowW rs) = !rs.all ppRowB := by
    rw [← ppIdx_neg]
    congr 2
    have key : ∀ x ∈ rs, impl_TblOk.rowW x = !ppRowB x := by
      intro x hx
      unfold impl_TblOk.rowW ppRowB
      have hcell : ppIdx (fun c => !impl_TblOk.cellB c) x.f0 = ppIdx (fun c => !ppCellB c) x.f0 := by
        unfold ppIdx
        have : x.f0.findIdx? (fun c => !impl_TblOk.cellB c) = x.f0.findIdx? (fun c => !ppCellB c) := by
          have h := hf x hx
          generalize x.f0 = l at h
          induction l with
          | nil => rfl
          | cons y ys ih =>
            rw [List.findIdx?_cons, List.findIdx?_cons, ih (fun c hc => h c (List.mem_cons_of_mem _ hc))]
            have : impl_TblOk.cellB y = ppCellB y := by
              unfold impl_TblOk.cellB
              rw [pp_cellP y (h y List.mem_cons_self)]
              rfl
            rw [this]
        rw [this]
      rw [hcell, ppIdx_neg]
      by_cases h5 : x.f0.length ≤ 5
      · rw [decide_eq_true h5, decide_eq_false (by omega)]
        simp
      · rw [decide_eq_false h5, decide_eq_true (by omega)]
        simp
    unfold ppIdx
    have : rs.findIdx? impl_TblOk.rowW = rs.findIdx? (fun x => !ppRowB x) := by
      clear hfits hf hcol
      induction rs with
      | nil => rfl
      | cons y ys ih =>
        rw [List.findIdx?_cons, List.findIdx?_cons, ih (fun c hc => key c (List.mem_cons_of_mem _ hc)), key y List.mem_cons_self]
    rw [this]
  rw [hcol, hrow]
  have hcs : (¬ 0 ≤ ppIdx (fun c => !ppColB c) cs) ↔ cs.all ppColB = true := by
    have := ppIdx_neg ppColB cs
    cases h : cs.all ppColB
    · rw [h] at this
      simp at this
      simp; omega
    · rw [h] at this
      simp at this
      simp; omega
  unfold ppTblB
  by_cases h1 : (1 : Int) ≤ (rs.length : Int) ∧ (rs.length : Int) ≤ 8
  · rw [decide_eq_true h1, if_pos rfl]
    by_cases h2 : (cs.length : Int) ≤ 8
    · rw [if_pos h2]
      by_cases h5 : 0 ≤ gp ∧ gp ≤ 3
      · rw [decide_eq_true h5, if_pos rfl]
        by_cases h3 : 0 ≤ hd ∧ hd ≤ (rs.length : Int)
        · rw [decide_eq_true h3, if_pos rfl, pp_wrap_id ((rs.length : Int) - hd) (by omega) (by omega)]
          by_cases h4 : 0 ≤ ft ∧ ft ≤ (rs.length : Int) - hd
          · rw [decide_eq_true h4, if_pos rfl, decide_eq_true ⟨by omega, by omega, h3, h4, h5⟩]
            by_cases h6 : cs.all ppColB = true
            · rw [if_pos (hcs.2 h6), h6]
              simp
            · rw [if_neg (fun q => h6 (hcs.1 q)), Bool.eq_false_iff.2 h6]
              simp
          · rw [decide_eq_false h4, if_neg (by decide), decide_eq_false (fun q => h4 q.2.2.2.1)]
            rfl
        · rw [decide_eq_false h3, if_neg (by decide), decide_eq_false (fun q => h3 q.2.2.1)]
          rfl
      · rw [decide_eq_false h5, if_neg (by decide), decide_eq_false (fun q => h5 q.2.2.2.2)]
        rfl
    · rw [if_neg h2, decide_eq_false (fun q => h2 (by omega))]
      rfl
  · rw [decide_eq_false h1, if_neg (by decide), decide_eq_false (fun q => h1 (by omega))]
    rfl

theorem pp_toIntS_loop (l : List Int) (hl : l.length ≤ 9223372036854775807) : ∀ (d i k : Nat) (out : List Int), l.length - i = d → i ≤ l.length → d < k → out.length = l.length → out.take i = l.take i →
    laws_toIntS.l0 k l out (i : Int) = some l := by
  intro d
  induction d with
  | zero =>
    intro i k out hd hi hk ho ht
    obtain ⟨k, rfl⟩ : ∃ m, k = m + 1 := ⟨k - 1, by omega⟩
    have hil : i = l.length := by omega
    simp only [laws_toIntS.l0]
    rw [if_neg (by omega)]
    rw [hil, List.take_of_length_le (by omega), List.take_length] at ht
    rw [ht]
  | succ d ih =>
    intro i k out hd hi hk ho ht
    obtain ⟨k, rfl⟩ : ∃ m, k = m + 1 := ⟨k - 1, by omega⟩
    have hlt : i < l.length := by omega
    simp only [laws_toIntS.l0]
    rw [if_pos (by omega), if_pos (by omega), if_pos (by omega), pp_wrap_id _ (by omega) (by omega)]
    have e := ih (i + 1) k (out.set i (rd l i)) (by omega) (by omega) (by omega) (by simpa using ho) (by
      rw [List.take_succ_eq_append_getElem (by simpa [ho] using hlt), List.take_succ_eq_append_getElem hlt, List.take_set_of_le (by omega), ht]
      simp [rd, List.getD_eq_getElem?_getD, List.getElem?_eq_getElem hlt])
    simpa using e
theorem pp_toIntS (l : List Int) (hl : l.length ≤ 1048576) (k : Nat) (hk : l.length < k) : laws_toIntS.f k l = some l := by
  unfold laws_toIntS.f
  rw [if_pos (by omega), if_pos (by omega)]
  have := pp_toIntS_loop l (by omega) l.length 0 k (List.replicate l.length 0) (by omega) (by omega) hk (by simp) (by simp)
  simpa using this

theorem pp_eqIntS_loop (l : List Int) (hl : l.length ≤ 9223372036854775807) : ∀ (d i k : Nat), l.length - i = d → i ≤ l.length → d < k → laws_eqIntS.l0 k l l (i : Int) = some true := by
  intro d
  induction d with
  | zero =>
    intro i k hd hi hk
    obtain ⟨k, rfl⟩ : ∃ m, k = m + 1 := ⟨k - 1, by omega⟩
    simp only [laws_eqIntS.l0]
    rw [if_neg (by omega)]
  | succ d ih =>
    intro i k hd hi hk
    obtain ⟨k, rfl⟩ : ∃ m, k = m + 1 := ⟨k - 1, by omega⟩
    simp only [laws_eqIntS.l0]
    rw [if_pos (by omega), if_pos (by omega), if_pos (by omega), if_pos trivial, pp_wrap_id _ (by omega) (by omega)]
    have := ih (i + 1) k (by omega) (by omega) (by omega)
    simpa using this
theorem pp_eqIntS (l : List Int) (hl : l.length ≤ 1048576) (k : Nat) (hk : l.length < k) : laws_eqIntS.f k l l = some true := by
  unfold laws_eqIntS.f
  rw [if_pos rfl]
  have := pp_eqIntS_loop l (by omega) l.length 0 k (by omega) (by omega) hk
  simpa using this

theorem pp_pagS (cs : List S55) (hd ft : Int) (rs : List S58) (gp wd : Int) (l : List Int) (hl : l.length ≤ 1048576) : Evs (fun k => spec_PagOk.f k cs hd ft rs gp wd l) (fun r => r = (ppTblB cs hd ft rs gp && decide (0 ≤ wd ∧ wd ≤ 300) && decide (1 ≤ l.length ∧ l.length ≤ 60) && l.all fun n => decide (0 ≤ n ∧ n ≤ 100))) := by
  unfold spec_PagOk.f
  have loop : ∀ (d i : Nat), l.length - i = d → i ≤ l.length → (l.take i).all (fun n => decide (0 ≤ n ∧ n ≤ 100)) = true → Evs (fun k => spec_PagOk.l0 k l (i : Int)) (fun r => r = l.all fun n => decide (0 ≤ n ∧ n ≤ 100)) := by
    intro d
    induction d with
    | zero =>
      intro i hd hi hI
      rw [List.take_of_length_le (by omega)] at hI
      exact Evs.step (f := fun _ => some true) (fun k => by simp only [spec_PagOk.l0]; rw [if_neg (by omega)]) (Evs.now hI.symm)
    | succ d ih =>
      intro i hd hi hI
      have hil : i < l.length := by omega
      have hir : rd l (i : Int) = l[i] := pp_getD l i _ hil
      refine Evs.step (fun k => by simp only [spec_PagOk.l0]; rw [hir, pp_inS]) ?_
      simp only [Option.bind_some]
      refine Evs.pos (by omega) (Evs.pos (by omega) (Evs.ite (fun h => ?_) (fun h => Evs.now ?_)))
      · have n := ih (i + 1) (by omega) (by omega) (ppAll_take (fun n => decide (0 ≤ n ∧ n ≤ 100)) l i hil hI h)
        rw [show (((i + 1 : Nat)) : Int) = wrap64 ((i : Int) + 1) by rw [pp_wrap_id _ (by omega) (by omega)]; rfl] at n
        exact n
      · rw [ppAll_step (fun n => decide (0 ≤ n ∧ n ≤ 100)) l i hil hI, Bool.eq_false_iff.2 h]
        rfl
  have J : ∀ v, Evs (fun k => spec_PagOk.j0 k l v) (fun r => r = (!v && l.all fun n => decide (0 ≤ n ∧ n ≤ 100))) := by
    intro v
    refine Evs.step (fun k => by simp only [spec_PagOk.j0]; rfl) ?_
    refine Evs.ite (fun h => Evs.now (by rw [h]; rfl)) (fun h => ?_)
    rw [show v = false by simpa using h]
    exact loop _ 0 rfl (by omega) rfl
  refine Evs.bnd (pp_tblS cs hd ft rs gp) ?_
  rintro _ rfl
  rw [pp_inS, pp_inS]
  simp only [Option.bind_some]
  have e60 : decide ((1 : Int) ≤ (l.length : Int) ∧ (l.length : Int) ≤ 60) = decide (1 ≤ l.length ∧ l.length ≤ 60) := decide_eq_decide.2 (by omega)
  rw [e60]
  refine Evs.ite (fun h => ?_) (fun h => (J true).imp fun r hr => by rw [hr, Bool.eq_false_iff.2 h]; rfl)
  rw [h]
  refine Evs.ite (fun h => ?_) (fun h => (J true).imp fun r hr => by rw [hr, Bool.eq_false_iff.2 h]; rfl)
  rw [h]
  exact (J _).imp fun r hr => by rw [hr]; simp
theorem pp_pagP (cs : List S55) (hd ft : Int) (rs : List S58) (gp wd : Int) (l : List Int) (hf : ∀ x ∈ rs, ∀ c ∈ x.f0, c.f0.size < 4294967281) (k : Nat) : impl_PagOk.f k cs hd ft rs gp wd l = some (ppTblB cs hd ft rs gp && decide (0 ≤ wd ∧ wd ≤ 300) && decide (1 ≤ l.length ∧ l.length ≤ 60) && l.all fun n => decide (0 ≤ n ∧ n ≤ 100)) := by
  unfold impl_PagOk.f impl_widthOk.f
  rw [pp_tblP cs hd ft rs gp hf k, pp_inP, pp_inP]
  simp only [Option.bind_some]
  have e60 : decide ((1 : Int) ≤ (l.length : Int) ∧ (l.length : Int) ≤ 60) = decide (1 ≤ l.length ∧ l.length ≤ 60) := decide_eq_decide.2 (by omega)
  have hw : impl_PagOk.wrong = fun n => !decide (0 ≤ n ∧ n ≤ 100) := by
    funext n
    unfold impl_PagOk.wrong
    rw [pp_inP]
    rfl
  rw [e60, hw, ppIdx_neg]
  cases ppTblB cs hd ft rs gp <;> cases decide (0 ≤ wd ∧ wd ≤ 300) <;> cases decide (1 ≤ l.length ∧ l.length ≤ 60) <;> simp
theorem FnExactPagOk : ∀ (l0_0 : List (S65)) (a0_1 : Int) (a0_2 : Int) (l0_3 : List (S52)) (a0_4 : Int) (a1 : Int) (l2 : List (Int)), (l0_0.length ≤ 9223372036854775807 ∧ ∀ (x : S65), x ∈ l0_0 → (((Lit.int .i64 x.f0).wf = true) ∧ ((Lit.int .i64 x.f1).wf = true))) → ((Lit.int .i64 a0_1).wf = true) → ((Lit.int .i64 a0_2).wf = true) → (l0_3.length ≤ 9223372036854775807 ∧ ∀ (x : S52), x ∈ l0_3 → ((x.f0.length ≤ 9223372036854775807 ∧ ∀ (y : S83), y ∈ x.f0 → ((y.f0.size ≤ maxLen) ∧ (((Lit.int .i64 y.f1).wf = true) ∧ (((Lit.int .i64 y.f2).wf = true) ∧ (((((Lit.int .i64 y.f3.f0).wf = true) ∧ ((Lit.int .i64 y.f3.f1).wf = true))) ∧ (((((Lit.int .i64 y.f4.f0).wf = true) ∧ ((Lit.int .i64 y.f4.f1).wf = true))) ∧ (((((Lit.int .i64 y.f5.f0).wf = true) ∧ ((Lit.int .i64 y.f5.f1).wf = true))) ∧ ((((Lit.int .i64 y.f6.f0).wf = true) ∧ ((Lit.int .i64 y.f6.f1).wf = true)))))))))) ∧ (True))) → ((Lit.int .i64 a0_4).wf = true) → ((Lit.int .i64 a1).wf = true) → (l2.length ≤ 9223372036854775807 ∧ ∀ (x : Int), x ∈ l2 → (Lit.int .i64 x).wf = true) → ∃ k, laws_FnExactPagOk.f k l0_0 a0_1 a0_2 l0_3 a0_4 a1 l2 = some true := by
  intro cs hd ft rs gp wd l ⟨hc, _⟩ _ _ ⟨hr, hx⟩ _ _ ⟨hl, _⟩
  refine Evs.ends (r := true) ?_
  unfold laws_FnExactPagOk.f
  refine Evs.ite (fun _ => Evs.now rfl) (fun hl1 => ?_)
  refine Evs.bnd (pp_szTblTable cs hd ft rs gp hc hr (fun x h => ⟨(hx x h).1.1, fun c h2 => by have := ((hx x h).1.2 c h2).1; unfold maxLen at this; exact this⟩)) (fun n hn => ?_)
  refine Evs.ite (fun _ => Evs.now rfl) (fun h0 => ?_)
  obtain ⟨g1, g2, g3⟩ := hn.resolve_left h0
  have hto := pp_toTblTable cs hd ft rs gp g1 g2 (fun x h => (g3 x h).1)
  have hint := Evs.of (g := fun k => laws_toIntS.f k l) (l.length + 1) fun k hk => pp_toIntS l (by omega) k (by omega)
  have hsz : ∀ x ∈ rs.map ppTR, x.f0.length ≤ 1048576 ∧ ∀ c ∈ x.f0, c.f0.size < 4294967281 := by
    intro x h
    obtain ⟨y, hy, rfl⟩ := List.mem_map.1 h
    refine ⟨by simpa [ppTR] using (g3 y hy).1, fun c h2 => ?_⟩
    obtain ⟨d, hd, rfl⟩ := List.mem_map.1 h2
    have := (g3 y hy).2 d hd
    show d.f0.size < _
    omega
  refine Evs.bnd hto ?_
  rintro _ rfl
  refine Evs.bnd hint (fun r hr => ?_)
  obtain rfl := hr.symm
  clear hr
  refine Evs.bnd (pp_pagS _ _ _ _ _ _ _ (by omega)) ?_
  rintro _ rfl
  refine Evs.bnd hto ?_
  rintro _ rfl
  refine Evs.bnd hint (fun r hr => ?_)
  obtain rfl := hr.symm
  clear hr
  refine Evs.bnd (Evs.of 0 fun k _ => pp_pagP _ _ _ _ _ _ _ (fun x h => (hsz x h).2) k) ?_
  rintro _ rfl
  refine Evs.neg (by simp) ?_
  refine Evs.bnd hto ?_
  rintro _ rfl
  refine Evs.bnd (pp_eqTblTable _ _ _ _ _ (by simpa using g1) (by simpa using g2) (fun x h => (hsz x h).1)) (fun r hr => Evs.pos hr ?_)
  refine Evs.bnd hint (fun r hr => ?_)
  obtain rfl := hr.symm
  clear hr
  exact Evs.bnd (Evs.of (l.length + 1) fun k hk => pp_eqIntS l (by omega) k (by omega)) (fun r hr => Evs.pos hr (Evs.now rfl))

end Go.Proofs.YtkbcmbjoelkgoabDoor.Pure
