/-
  impl.GrdAt answers what spec.GrdAt answers, of every grid, at every slot: the first cell that has it, or -1.
  Conditions: none but those of the statement.
-/
import Derived.Test.YtfcacpbblkahdaaPFnExactGrdAtx4
namespace Go.Proofs.Ytfcacpbblkahdaa.Pure
open Go.RowKit Go.Proofs.Ytfcacpbblkahdaa.PFnExactGrdAt Go.Proofs.YtfcacpbblkahdaaW.PrintWords Go.Proofs.YtfcacpbblkahdaaW.PrintLast Go.Proofs.YtfcacpbblkahdaaW.PrintMore
set_option linter.unusedVariables false
set_option linter.unusedSimpArgs false

theorem pp_wrap_l (a b : Int) : wrap64 (wrap64 a + b) = wrap64 (a + b) := by unfold wrap64; omega
theorem pp_wrap_r (a b : Int) : wrap64 (a + wrap64 b) = wrap64 (a + b) := by unfold wrap64; omega
theorem pp_wrap_id (a : Int) (h : -9223372036854775808 ≤ a) (h' : a ≤ 9223372036854775807) : wrap64 a = a := by unfold wrap64; omega
theorem pp_wrap_0 : wrap64 0 = 0 := by unfold wrap64; omega
theorem pp_wf (a : Int) (h : (Lit.int .i64 a).wf = true) : -9223372036854775808 ≤ a ∧ a ≤ 9223372036854775807 := by
  simp [Lit.wf, IntKind.min, IntKind.max, IntKind.signed, IntKind.bits] at h; omega

/-- A loop that counts up: rounds keep Inv or leave with Post; at the end it leaves with Post. -/
theorem pp_lp {σ ρ : Type} (E : Nat → σ → Int → Option ρ) (n : Nat) (Inv : Nat → σ → Prop) (Post : ρ → Prop)
    (hs : ∀ k s (i : Nat), i < n → Inv i s → (∃ s', Inv (i + 1) s' ∧ E (k + 1) s (i : Int) = E k s' ((i : Int) + 1)) ∨ ∃ r, Post r ∧ E (k + 1) s (i : Int) = some r)
    (he : ∀ k s, Inv n s → ∃ r, Post r ∧ E (k + 1) s (n : Int) = some r) :
    ∀ (d i : Nat) (s : σ) (k : Nat), n - i = d → i ≤ n → Inv i s → d < k → ∃ r, Post r ∧ E k s (i : Int) = some r := by
  intro d
  induction d with
  | zero =>
    intro i s k hd hi hI hk
    obtain ⟨k, rfl⟩ : ∃ m, k = m + 1 := ⟨k - 1, by omega⟩
    obtain rfl : i = n := by omega
    exact he k s hI
  | succ d ih =>
    intro i s k hd hi hI hk
    obtain ⟨k, rfl⟩ : ∃ m, k = m + 1 := ⟨k - 1, by omega⟩
    rcases hs k s i (by omega) hI with ⟨s', hI', he'⟩ | h
    · obtain ⟨r, hr, e⟩ := ih (i + 1) s' k (by omega) (by omega) hI' (by omega)
      exact ⟨r, hr, by rw [he']; simpa using e⟩
    · exact h
/-- .. whose state is known at each place. -/
theorem pp_lpE {σ ρ : Type} (E : Nat → σ → Int → Option ρ) (n : Nat) (st : Nat → σ) (r : ρ)
    (hs : ∀ k (i : Nat), i < n → E (k + 1) (st i) (i : Int) = E k (st (i + 1)) ((i : Int) + 1)) (he : ∀ k, E (k + 1) (st n) (n : Int) = some r) (k : Nat) (hk : n < k) : E k (st 0) 0 = some r := by
  obtain ⟨q, hq, h⟩ := pp_lp E n (fun i s => s = st i) (fun q => q = r) (fun k s i hi h => .inl ⟨st (i + 1), rfl, by rw [h]; exact hs k i hi⟩) (fun k s h => ⟨r, rfl, by rw [h]; exact he k⟩) n 0 (st 0) k (by omega) (by omega) rfl hk
  rw [← hq]; simpa using h
/-- .. that fills a row. -/
theorem pp_fill {α β : Type} (L : Nat → List β → Int → Option (List β)) (g : α → β) (xs : List α) (z : β)
    (hs : ∀ k out (i : Nat) (h : i < xs.length), out.length = xs.length → L (k + 1) out (i : Int) = L k (out.set i (g xs[i])) ((i : Int) + 1)) (he : ∀ k out, L (k + 1) out (xs.length : Int) = some out)
    (k : Nat) (hk : xs.length < k) : L k (List.replicate xs.length z) 0 = some (xs.map g) := by
  obtain ⟨r, hr, h⟩ := pp_lp L xs.length (fun i out => out.length = xs.length ∧ out.take i = (xs.map g).take i) (fun r => r = xs.map g)
    (fun k out i hi ⟨h1, h2⟩ => .inl ⟨out.set i (g xs[i]), ⟨by simpa using h1, by
      rw [List.take_succ_eq_append_getElem (by simpa [h1] using hi), List.take_succ_eq_append_getElem (by simpa using hi), List.take_set_of_le (by omega), h2]
      simp⟩, hs k out i hi h1⟩)
    (fun k out ⟨h1, h2⟩ => ⟨out, by
      rw [List.take_of_length_le (by omega), List.take_of_length_le (by simp)] at h2
      exact h2, he k out⟩) xs.length 0 (List.replicate xs.length z) k (by omega) (by omega) ⟨by simp, by simp⟩ hk
  rw [← hr]; simpa using h
theorem pp_getD {α : Type} (l : List α) (i : Nat) (z : α) (h : i < l.length) : l.getD (i : Int).toNat z = l[i] := by
  simp [List.getD_eq_getElem?_getD, List.getElem?_eq_getElem h]
theorem pp_rd {l : List Int} {i : Nat} (h : i < l.length) : rd l (i : Int) = l[i] := pp_getD l i 0 h

/-- The same cell, of the other type. -/
def ppGC (x : S122) : S46 := ⟨x.f0, x.f1, x.f2, x.f3, x.f4⟩
theorem pp_rdLGC {l : List S122} {i : Nat} (h : i < l.length) : rd_T122 l (i : Int) = l[i] := pp_getD l i _ h
theorem pp_rdGC {l : List S46} {i : Nat} (h : i < l.length) : rd_T46 l (i : Int) = l[i] := pp_getD l i _ h
theorem pp_toGrdCellS (l : List S122) (hl : l.length ≤ 1048576) (k : Nat) (hk : l.length < k) : laws_toGrdCellS.f k l = some (l.map ppGC) := by
  unfold laws_toGrdCellS.f
  rw [if_pos (by omega), if_pos (by omega)]
  have := pp_fill (fun k out i => laws_toGrdCellS.l0 k l out i) ppGC l z46 (fun k out i hi ho => by
      simp only [laws_toGrdCellS.l0, laws_toGrdCell.f]
      rw [if_pos (by omega), if_pos (by omega)]
      simp only [Option.bind_some]
      rw [if_pos (by omega), pp_rdLGC hi, pp_wrap_id _ (by omega) (by omega)]
      rfl)
    (fun k out => by
      simp only [laws_toGrdCellS.l0]
      rw [if_neg (by omega)]) k hk
  simpa using this
theorem pp_eqGrdCellS (l : List S46) (hl : l.length ≤ 1048576) (k : Nat) (hk : l.length < k) : laws_eqGrdCellS.f k l l = some true := by
  unfold laws_eqGrdCellS.f
  rw [if_pos rfl]
  exact pp_lpE (fun k (_ : Unit) i => laws_eqGrdCellS.l0 k l l i) l.length (fun _ => ()) true
    (fun k i hi => by
      simp only [laws_eqGrdCellS.l0, laws_eqGrdCell.f]
      rw [if_pos (by omega), if_pos (by omega), if_pos (by omega), pp_wrap_id _ (by omega) (by omega)]
      simp)
    (fun k => by
      simp only [laws_eqGrdCellS.l0]
      rw [if_neg (by omega)]) k hk
theorem pp_toGrdGrid (a b : Int) (l : List S122) (hl : l.length ≤ 1048576) (k : Nat) (hk : l.length < k) : laws_toGrdGrid.f k a b l = some (a, b, l.map ppGC) := by
  unfold laws_toGrdGrid.f
  rw [pp_toGrdCellS l hl k hk]
  rfl
theorem pp_eqGrdGrid (a b : Int) (l : List S46) (hl : l.length ≤ 1048576) (k : Nat) (hk : l.length < k) : laws_eqGrdGrid.f k a b l a b l = some true := by
  unfold laws_eqGrdGrid.f
  rw [if_pos rfl, if_pos rfl, pp_eqGrdCellS l hl k hk]
  rfl
theorem pp_szGrdGrid (a b : Int) (l : List S122) (hl : l.length ≤ 9223372036854775807) : laws_szGrdGrid.f a b l 1048576 = some (if 1048576 < (l.length : Int) then -1 else 1048576 - (l.length : Int)) := by
  unfold laws_szGrdGrid.f laws_szGrdCellS.f
  rw [pp_wrap_id _ (by omega) (by omega)]
  by_cases h : 1048576 < (l.length : Int)
  · rw [if_pos (by omega), if_pos h]
    rfl
  · rw [if_neg (by omega), if_neg h]
    simp only [Option.bind_some]
    rw [if_neg (by omega)]

/-- Whether a number is one of so many from another one on. -/
def ppAmong (n f m : Int) : Bool := decide (f ≤ n) && (decide (0 < m) && decide (n - f < m))
theorem pp_implAmong (n f m : Int) (hn : (Lit.int .i64 n).wf = true) (hf : (Lit.int .i64 f).wf = true) (hm : (Lit.int .i64 m).wf = true) : impl_among.f n f m = some (ppAmong n f m) := by
  have := pp_wf n hn
  have := pp_wf f hf
  have := pp_wf m hm
  unfold impl_among.f ppAmong
  by_cases h0 : n ≥ f
  · by_cases h1 : m > 0
    · rw [if_pos h0, if_pos h1]
      simp only [IntKind.wrap_u64, Option.some.injEq]
      rw [Bool.eq_iff_iff]
      simp
      omega
    · rw [if_pos h0, if_neg h1]
      simp
      omega
  · rw [if_neg h0]
    simp
    omega
theorem pp_specAmong (n f m : Int) (hn : (Lit.int .i64 n).wf = true) (hf : (Lit.int .i64 f).wf = true) (hm : (Lit.int .i64 m).wf = true) (k : Nat) (hk : 0 < k) : spec_l1Among.f k n f m = some (ppAmong n f m) := by
  have := pp_wf n hn
  have := pp_wf f hf
  have := pp_wf m hm
  obtain ⟨k, rfl⟩ : ∃ q, k = q + 1 := ⟨k - 1, by omega⟩
  unfold spec_l1Among.f ppAmong
  simp only [spec_l1Among.j0]
  by_cases h0 : n < f
  · rw [if_pos h0]
    simp
    omega
  · rw [if_neg h0]
    by_cases h1 : m ≤ 0
    · rw [if_pos (by simpa using h1)]
      simp
      omega
    · rw [if_neg (by simpa using h1)]
      by_cases h2 : f < 0
      · rw [if_pos h2]
        by_cases h3 : n ≥ 0
        · rw [if_pos h3, pp_wrap_id _ (by omega) (by omega)]
          simp only [Option.some.injEq]
          rw [Bool.eq_iff_iff]
          simp
          omega
        · rw [if_neg h3, pp_wrap_id _ (by omega) (by omega)]
          simp only [Option.some.injEq]
          rw [Bool.eq_iff_iff]
          simp
          omega
      · rw [if_neg h2, pp_wrap_id _ (by omega) (by omega)]
        simp only [Option.some.injEq]
        rw [Bool.eq_iff_iff]
        simp
        omega

/-- All numbers of a cell are Go's. -/
def ppWfC (x : S46) : Prop := (Lit.int .i64 x.f0).wf = true ∧ (Lit.int .i64 x.f1).wf = true ∧ (Lit.int .i64 x.f2).wf = true ∧ (Lit.int .i64 x.f3).wf = true ∧ (Lit.int .i64 x.f4).wf = true
/-- The cell has the slot. -/
def ppHold (x : S46) (row col : Int) : Bool := ppAmong row x.f0 x.f2 && ppAmong col x.f1 x.f3
theorem pp_hasB (x : S46) (row col : Int) (hx : ppWfC x) (hr : (Lit.int .i64 row).wf = true) (hc : (Lit.int .i64 col).wf = true) : ppHasB x row col = ppHold x row col := by
  unfold ppHasB impl_GrdCell_has.f ppHold
  rw [pp_implAmong row x.f0 x.f2 hr hx.1 hx.2.2.1, pp_implAmong col x.f1 x.f3 hc hx.2.1 hx.2.2.2.1]
  simp only [Option.bind_some]
  cases ppAmong row x.f0 x.f2 <;> rfl
theorem pp_holds (x : S46) (row col : Int) (hx : ppWfC x) (hr : (Lit.int .i64 row).wf = true) (hc : (Lit.int .i64 col).wf = true) (k : Nat) (hk : 0 < k) : spec_l3Holds.f k x.f0 x.f1 x.f2 x.f3 x.f4 row col = some (ppHold x row col) := by
  unfold spec_l3Holds.f ppHold
  rw [pp_specAmong row x.f0 x.f2 hr hx.1 hx.2.2.1 k hk, pp_specAmong col x.f1 x.f3 hc hx.2.1 hx.2.2.2.1 k hk]
  simp only [Option.bind_some]
  cases ppAmong row x.f0 x.f2 <;> rfl
/-- The first cell that has a slot. -/
def ppAt (l : List S46) (row col : Int) : Int := ppIdx (fun x => ppHold x row col) l
theorem ppIdx_congr {α : Type} (p q : α → Bool) (l : List α) (h : ∀ x ∈ l, p x = q x) : ppIdx p l = ppIdx q l := by
  unfold ppIdx
  have : l.findIdx? p = l.findIdx? q := by
    induction l with
    | nil => rfl
    | cons x xs ih =>
      rw [List.findIdx?_cons, List.findIdx?_cons, h x List.mem_cons_self, ih (fun y hy => h y (List.mem_cons_of_mem _ hy))]
  rw [this]
theorem pp_implGrdAt (a b : Int) (l : List S46) (row col : Int) (hl : ∀ x ∈ l, ppWfC x) (hr : (Lit.int .i64 row).wf = true) (hc : (Lit.int .i64 col).wf = true) (k : Nat) : impl_GrdAt.f k a b l row col = some (ppAt l row col) := by
  unfold impl_GrdAt.f ppAt
  rw [ppIdx_congr _ _ l (fun x hx => pp_hasB x row col (hl x hx) hr hc)]
theorem pp_specGrdAt (a b : Int) (l : List S46) (row col : Int) (hn : l.length ≤ 9223372036854775807) (hl : ∀ x ∈ l, ppWfC x) (hr : (Lit.int .i64 row).wf = true) (hc : (Lit.int .i64 col).wf = true) (k : Nat) (hk : l.length + 1 < k) :
    spec_GrdAt.f k a b l row col = some (ppAt l row col) := by
  unfold spec_GrdAt.f
  obtain ⟨r, hr', h⟩ := pp_lp (fun k (_ : Unit) i => spec_GrdAt.l0 (k + 1) row col i a b l) l.length (fun i _ => ∀ j (hj : j < l.length), j < i → ppHold l[j] row col = false) (fun r => r = ppAt l row col)
    (fun k s i hi hI => by
      simp only [spec_GrdAt.l0]
      rw [if_pos (by omega), if_pos (by omega), pp_rdGC hi, pp_holds l[i] row col (hl _ (List.getElem_mem hi)) hr hc (k + 1) (by omega), pp_wrap_id _ (by omega) (by omega)]
      simp only [Option.bind_some]
      cases hp : ppHold l[i] row col with
      | true => exact .inr ⟨i, by unfold ppAt; rw [ppIdx_hit _ l i hi hp hI], by simp⟩
      | false => exact .inl ⟨(), fun j hj hji => by
          by_cases e : j = i
          · subst e; exact hp
          · exact hI j hj (by omega), by simp [spec_GrdAt.l0]⟩)
    (fun k s hI => by
      simp only [spec_GrdAt.l0]
      rw [if_neg (by omega)]
      exact ⟨-1, by unfold ppAt; rw [ppIdx_miss _ l (fun j hj => hI j hj hj)], rfl⟩) l.length 0 () (k - 1) (by omega) (by omega) (fun j _ h => absurd h (Nat.not_lt_zero _)) (by omega)
  rw [← hr', ← h]
  obtain ⟨k, rfl⟩ : ∃ q, k = q + 1 := ⟨k - 1, by omega⟩
  rfl

theorem FnExactGrdAt : ∀ (a0_0 : Int) (a0_1 : Int) (l0_2 : List (S122)) (a1 : Int) (a2 : Int), ((Lit.int .i64 a0_0).wf = true) → ((Lit.int .i64 a0_1).wf = true) → (l0_2.length ≤ 9223372036854775807 ∧ ∀ x ∈ l0_2, (((Lit.int .i64 x.f0).wf = true) ∧ (((Lit.int .i64 x.f1).wf = true) ∧ (((Lit.int .i64 x.f2).wf = true) ∧ (((Lit.int .i64 x.f3).wf = true) ∧ ((Lit.int .i64 x.f4).wf = true)))))) → ((Lit.int .i64 a1).wf = true) → ((Lit.int .i64 a2).wf = true) → ∃ k, laws_FnExactGrdAt.f k a0_0 a0_1 l0_2 a1 a2 = some true := by
  intro a b l row col _ _ ⟨hl, hw⟩ hr hc
  refine ⟨l.length + 2, ?_⟩
  have hw' : ∀ x ∈ l.map ppGC, ppWfC x := by
    intro x hx
    obtain ⟨y, hy, rfl⟩ := List.mem_map.1 hx
    exact hw y hy
  unfold laws_FnExactGrdAt.f
  rw [pp_szGrdGrid a b l hl]
  simp only [Option.bind_some]
  by_cases h : 1048576 < (l.length : Int)
  · rw [if_pos h, if_pos (by omega)]
  · rw [if_neg h, if_neg (by omega), pp_toGrdGrid a b l (by omega) _ (by omega)]
    simp only [Option.bind_some]
    rw [pp_specGrdAt a b _ row col (by simp; omega) hw' hr hc _ (by simp), pp_implGrdAt a b _ row col hw' hr hc]
    simp only [Option.bind_some, if_true]
    rw [pp_eqGrdGrid a b _ (by simp; omega) _ (by simp)]
    rfl

end Go.Proofs.Ytfcacpbblkahdaa.Pure
