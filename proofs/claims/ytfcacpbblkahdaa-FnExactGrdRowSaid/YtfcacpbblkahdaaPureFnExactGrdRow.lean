/-
  impl.GrdRow answers what spec.GrdRow answers, of every grid: each cell of the row once, where it begins.
  Conditions: none but those of the statement.
-/
import Derived.Test.YtfcacpbblkahdaaPFnExactGrdRowx7
namespace Go.Proofs.Ytfcacpbblkahdaa.Pure
open Go.RowKit Go.Proofs.Ytfcacpbblkahdaa.PFnExactGrdRow Go.Proofs.YtfcacpbblkahdaaW.PrintWords Go.Proofs.YtfcacpbblkahdaaW.PrintLast Go.Proofs.YtfcacpbblkahdaaW.PrintMore
set_option linter.unusedVariables false
set_option linter.unusedSimpArgs false

theorem pp_wrap_l (a b : Int) : wrap64 (wrap64 a + b) = wrap64 (a + b) := by unfold wrap64; omega
theorem pp_wrap_r (a b : Int) : wrap64 (a + wrap64 b) = wrap64 (a + b) := by unfold wrap64; omega
theorem pp_wrap_id (a : Int) (h : -9223372036854775808 ≤ a) (h' : a ≤ 9223372036854775807) : wrap64 a = a := by unfold wrap64; omega
theorem pp_wrap_0 : wrap64 0 = 0 := by unfold wrap64; omega
theorem pp_wf (a : Int) (h : (Lit.int .i64 a).wf = true) : -9223372036854775808 ≤ a ∧ a ≤ 9223372036854775807 := by
  simp [Lit.wf, IntKind.min, IntKind.max, IntKind.signed, IntKind.bits] at h; omega
theorem pp_wfi (a : Int) (h : -9223372036854775808 ≤ a) (h' : a ≤ 9223372036854775807) : (Lit.int .i64 a).wf = true := by
  simp [Lit.wf, IntKind.min, IntKind.max, IntKind.signed, IntKind.bits]; omega

/-- A loop that counts up: rounds keep Inv or leave with Post; at the end it leaves with Post. -/
theorem pp_lp {σ ρ : Type} (E : Nat → σ → Int → Option ρ) (n : Nat) (Inv : Nat → σ → Prop) (Post : ρ → Prop)
    (hs : ∀ k s (i : Nat), i < n → Inv i s → (∃ s', Inv (i + 1) s' ∧ E (k + 1) s (i : Int) = E k s' ((i : Int) + 1)) ∨ ∃ r, Post r ∧ E (k + 1) s (i : Int) = some r)
    (he : ∀ k s, Inv n s → ∃ r, Post r ∧ E (k + 1) s (n : Int) = some r) :
    ∀ (d i : Nat) (s : σ) (k : Nat), n - i = d → i ≤ n → Inv i s → d < k → ∃ r, Post r ∧ E k s (i : Int) = some r := by
  intro d
  induction d with
  | zero =>
    intro i s k hd hi hI hk
    obtain ⟨k, rfl⟩ : ∃ m, k = m + 1 := ⟨k - 1, by omega⟩
    obtain rfl : i = n := by omega
    exact he k s hI
  | succ d ih =>
    intro i s k hd hi hI hk
    obtain ⟨k, rfl⟩ : ∃ m, k = m + 1 := ⟨k - 1, by omega⟩
    rcases hs k s i (by omega) hI with ⟨s', hI', he'⟩ | h
    · obtain ⟨r, hr, e⟩ := ih (i + 1) s' k (by omega) (by omega) hI' (by omega)
      exact ⟨r, hr, by rw [he']; simpa using e⟩
    · exact h
/-- .. whose state is known at each place. -/
theorem pp_lpE {σ ρ : Type} (E : Nat → σ → Int → Option ρ) (n : Nat) (st : Nat → σ) (r : ρ)
    (hs : ∀ k (i : Nat), i < n → E (k + 1) (st i) (i : Int) = E k (st (i + 1)) ((i : Int) + 1)) (he : ∀ k, E (k + 1) (st n) (n : Int) = some r) (k : Nat) (hk : n < k) : E k (st 0) 0 = some r := by
  obtain ⟨q, hq, h⟩ := pp_lp E n (fun i s => s = st i) (fun q => q = r) (fun k s i hi h => .inl ⟨st (i + 1), rfl, by rw [h]; exact hs k i hi⟩) (fun k s h => ⟨r, rfl, by rw [h]; exact he k⟩) n 0 (st 0) k (by omega) (by omega) rfl hk
  rw [← hq]; simpa using h
/-- .. that fills a row. -/
theorem pp_fill {α β : Type} (L : Nat → List β → Int → Option (List β)) (g : α → β) (xs : List α) (z : β)
    (hs : ∀ k out (i : Nat) (h : i < xs.length), out.length = xs.length → L (k + 1) out (i : Int) = L k (out.set i (g xs[i])) ((i : Int) + 1)) (he : ∀ k out, L (k + 1) out (xs.length : Int) = some out)
    (k : Nat) (hk : xs.length < k) : L k (List.replicate xs.length z) 0 = some (xs.map g) := by
  obtain ⟨r, hr, h⟩ := pp_lp L xs.length (fun i out => out.length = xs.length ∧ out.take i = (xs.map g).take i) (fun r => r = xs.map g)
    (fun k out i hi ⟨h1, h2⟩ => .inl ⟨out.set i (g xs[i]), ⟨by simpa using h1, by
      rw [List.take_succ_eq_append_getElem (by simpa [h1] using hi), List.take_succ_eq_append_getElem (by simpa using hi), List.take_set_of_le (by omega), h2]
      simp⟩, hs k out i hi h1⟩)
    (fun k out ⟨h1, h2⟩ => ⟨out, by
      rw [List.take_of_length_le (by omega), List.take_of_length_le (by simp)] at h2
      exact h2, he k out⟩) xs.length 0 (List.replicate xs.length z) k (by omega) (by omega) ⟨by simp, by simp⟩ hk
  rw [← hr]; simpa using h
theorem pp_getD {α : Type} (l : List α) (i : Nat) (z : α) (h : i < l.length) : l.getD (i : Int).toNat z = l[i] := by
  simp [List.getD_eq_getElem?_getD, List.getElem?_eq_getElem h]
theorem pp_rd {l : List Int} {i : Nat} (h : i < l.length) : rd l (i : Int) = l[i] := pp_getD l i 0 h

/-- The same cell, of the other type. -/
def ppGC (x : S122) : S46 := ⟨x.f0, x.f1, x.f2, x.f3, x.f4⟩
theorem pp_rdLGC {l : List S122} {i : Nat} (h : i < l.length) : rd_T122 l (i : Int) = l[i] := pp_getD l i _ h
theorem pp_rdGC {l : List S46} {i : Nat} (h : i < l.length) : rd_T46 l (i : Int) = l[i] := pp_getD l i _ h
theorem pp_toGrdCellS (l : List S122) (hl : l.length ≤ 1048576) (k : Nat) (hk : l.length < k) : laws_toGrdCellS.f k l = some (l.map ppGC) := by
  unfold laws_toGrdCellS.f
  rw [if_pos (by omega), if_pos (by omega)]
  have := pp_fill (fun k out i => laws_toGrdCellS.l0 k l out i) ppGC l z46 (fun k out i hi ho => by
      simp only [laws_toGrdCellS.l0, laws_toGrdCell.f]
      rw [if_pos (by omega), if_pos (by omega)]
      simp only [Option.bind_some]
      rw [if_pos (by omega), pp_rdLGC hi, pp_wrap_id _ (by omega) (by omega)]
      rfl)
    (fun k out => by
      simp only [laws_toGrdCellS.l0]
      rw [if_neg (by omega)]) k hk
  simpa using this
theorem pp_eqGrdCellS (l : List S46) (hl : l.length ≤ 1048576) (k : Nat) (hk : l.length < k) : laws_eqGrdCellS.f k l l = some true := by
  unfold laws_eqGrdCellS.f
  rw [if_pos rfl]
  exact pp_lpE (fun k (_ : Unit) i => laws_eqGrdCellS.l0 k l l i) l.length (fun _ => ()) true
    (fun k i hi => by
      simp only [laws_eqGrdCellS.l0, laws_eqGrdCell.f]
      rw [if_pos (by omega), if_pos (by omega), if_pos (by omega), pp_wrap_id _ (by omega) (by omega)]
      simp)
    (fun k => by
      simp only [laws_eqGrdCellS.l0]
      rw [if_neg (by omega)]) k hk
theorem pp_toGrdGrid (a b : Int) (l : List S122) (hl : l.length ≤ 1048576) (k : Nat) (hk : l.length < k) : laws_toGrdGrid.f k a b l = some (a, b, l.map ppGC) := by
  unfold laws_toGrdGrid.f
  rw [pp_toGrdCellS l hl k hk]
  rfl
theorem pp_eqGrdGrid (a b : Int) (l : List S46) (hl : l.length ≤ 1048576) (k : Nat) (hk : l.length < k) : laws_eqGrdGrid.f k a b l a b l = some true := by
  unfold laws_eqGrdGrid.f
  rw [if_pos rfl, if_pos rfl, pp_eqGrdCellS l hl k hk]
  rfl
theorem pp_szGrdGrid (a b : Int) (l : List S122) (hl : l.length ≤ 9223372036854775807) : laws_szGrdGrid.f a b l 1048576 = some (if 1048576 < (l.length : Int) then -1 else 1048576 - (l.length : Int)) := by
  unfold laws_szGrdGrid.f laws_szGrdCellS.f
  rw [pp_wrap_id _ (by omega) (by omega)]
  by_cases h : 1048576 < (l.length : Int)
  · rw [if_pos (by omega), if_pos h]
    rfl
  · rw [if_neg (by omega), if_neg h]
    simp only [Option.bind_some]
    rw [if_neg (by omega)]

/-- Whether a number is one of so many from another one on. -/
def ppAmong (n f m : Int) : Bool := decide (f ≤ n) && (decide (0 < m) && decide (n - f < m))
theorem pp_implAmong (n f m : Int) (hn : (Lit.int .i64 n).wf = true) (hf : (Lit.int .i64 f).wf = true) (hm : (Lit.int .i64 m).wf = true) : impl_among.f n f m = some (ppAmong n f m) := by
  have := pp_wf n hn
  have := pp_wf f hf
  have := pp_wf m hm
  unfold impl_among.f ppAmong
  by_cases h0 : n ≥ f
  · by_cases h1 : m > 0
    · rw [if_pos h0, if_pos h1]
      simp only [IntKind.wrap_u64, Option.some.injEq]
      rw [Bool.eq_iff_iff]
      simp
      omega
    · rw [if_pos h0, if_neg h1]
      simp
      omega
  · rw [if_neg h0]
    simp
    omega
theorem pp_specAmong (n f m : Int) (hn : (Lit.int .i64 n).wf = true) (hf : (Lit.int .i64 f).wf = true) (hm : (Lit.int .i64 m).wf = true) (k : Nat) (hk : 0 < k) : spec_l1Among.f k n f m = some (ppAmong n f m) := by
  have := pp_wf n hn
  have := pp_wf f hf
  have := pp_wf m hm
  obtain ⟨k, rfl⟩ : ∃ q, k = q + 1 := ⟨k - 1, by omega⟩
  unfold spec_l1Among.f ppAmong
  simp only [spec_l1Among.j0]
  by_cases h0 : n < f
  · rw [if_pos h0]
    simp
    omega
  · rw [if_neg h0]
    by_cases h1 : m ≤ 0
    · rw [if_pos (by simpa using h1)]
      simp
      omega
    · rw [if_neg (by simpa using h1)]
      by_cases h2 : f < 0
      · rw [if_pos h2]
        by_cases h3 : n ≥ 0
        · rw [if_pos h3, pp_wrap_id _ (by omega) (by omega)]
          simp only [Option.some.injEq]
          rw [Bool.eq_iff_iff]
          simp
          omega
        · rw [if_neg h3, pp_wrap_id _ (by omega) (by omega)]
          simp only [Option.some.injEq]
          rw [Bool.eq_iff_iff]
          simp
          omega
      · rw [if_neg h2, pp_wrap_id _ (by omega) (by omega)]
        simp only [Option.some.injEq]
        rw [Bool.eq_iff_iff]
        simp
        omega

/-- All numbers of a cell are Go's. -/
def ppWfC (x : S46) : Prop := (Lit.int .i64 x.f0).wf = true ∧ (Lit.int .i64 x.f1).wf = true ∧ (Lit.int .i64 x.f2).wf = true ∧ (Lit.int .i64 x.f3).wf = true ∧ (Lit.int .i64 x.f4).wf = true
/-- The cell has the slot. -/
def ppHold (x : S46) (row col : Int) : Bool := ppAmong row x.f0 x.f2 && ppAmong col x.f1 x.f3
theorem pp_hasB (x : S46) (row col : Int) (hx : ppWfC x) (hr : (Lit.int .i64 row).wf = true) (hc : (Lit.int .i64 col).wf = true) : ppHasB x row col = ppHold x row col := by
  unfold ppHasB impl_GrdCell_has.f ppHold
  rw [pp_implAmong row x.f0 x.f2 hr hx.1 hx.2.2.1, pp_implAmong col x.f1 x.f3 hc hx.2.1 hx.2.2.2.1]
  simp only [Option.bind_some]
  cases ppAmong row x.f0 x.f2 <;> rfl
theorem pp_holds (x : S46) (row col : Int) (hx : ppWfC x) (hr : (Lit.int .i64 row).wf = true) (hc : (Lit.int .i64 col).wf = true) (k : Nat) (hk : 0 < k) : spec_l3Holds.f k x.f0 x.f1 x.f2 x.f3 x.f4 row col = some (ppHold x row col) := by
  unfold spec_l3Holds.f ppHold
  rw [pp_specAmong row x.f0 x.f2 hr hx.1 hx.2.2.1 k hk, pp_specAmong col x.f1 x.f3 hc hx.2.1 hx.2.2.2.1 k hk]
  simp only [Option.bind_some]
  cases ppAmong row x.f0 x.f2 <;> rfl
/-- The first cell that has a slot. -/
def ppAt (l : List S46) (row col : Int) : Int := ppIdx (fun x => ppHold x row col) l
theorem ppIdx_congr {α : Type} (p q : α → Bool) (l : List α) (h : ∀ x ∈ l, p x = q x) : ppIdx p l = ppIdx q l := by
  unfold ppIdx
  have : l.findIdx? p = l.findIdx? q := by
    induction l with
    | nil => rfl
    | cons x xs ih =>
      rw [List.findIdx?_cons, List.findIdx?_cons, h x List.mem_cons_self, ih (fun y hy => h y (List.mem_cons_of_mem _ hy))]
  rw [this]
theorem pp_implGrdAt (a b : Int) (l : List S46) (row col : Int) (hl : ∀ x ∈ l, ppWfC x) (hr : (Lit.int .i64 row).wf = true) (hc : (Lit.int .i64 col).wf = true) (k : Nat) : impl_GrdAt.f k a b l row col = some (ppAt l row col) := by
  unfold impl_GrdAt.f ppAt
  rw [ppIdx_congr _ _ l (fun x hx => pp_hasB x row col (hl x hx) hr hc)]
theorem pp_specGrdAt (a b : Int) (l : List S46) (row col : Int) (hn : l.length ≤ 9223372036854775807) (hl : ∀ x ∈ l, ppWfC x) (hr : (Lit.int .i64 row).wf = true) (hc : (Lit.int .i64 col).wf = true) (k : Nat) (hk : l.length + 1 < k) :
    spec_GrdAt.f k a b l row col = some (ppAt l row col) := by
  unfold spec_GrdAt.f
  obtain ⟨r, hr', h⟩ := pp_lp (fun k (_ : Unit) i => spec_GrdAt.l0 (k + 1) row col i a b l) l.length (fun i _ => ∀ j (hj : j < l.length), j < i → ppHold l[j] row col = false) (fun r => r = ppAt l row col)
    (fun k s i hi hI => by
      simp only [spec_GrdAt.l0]
      rw [if_pos (by omega), if_pos (by omega), pp_rdGC hi, pp_holds l[i] row col (hl _ (List.getElem_mem hi)) hr hc (k + 1) (by omega), pp_wrap_id _ (by omega) (by omega)]
      simp only [Option.bind_some]
      cases hp : ppHold l[i] row col with
      | true => exact .inr ⟨i, by unfold ppAt; rw [ppIdx_hit _ l i hi hp hI], by simp⟩
      | false => exact .inl ⟨(), fun j hj hji => by
          by_cases e : j = i
          · subst e; exact hp
          · exact hI j hj (by omega), by simp [spec_GrdAt.l0]⟩)
    (fun k s hI => by
      simp only [spec_GrdAt.l0]
      rw [if_neg (by omega)]
      exact ⟨-1, by unfold ppAt; rw [ppIdx_miss _ l (fun j hj => hI j hj hj)], rfl⟩) l.length 0 () (k - 1) (by omega) (by omega) (fun j _ h => absurd h (Nat.not_lt_zero _)) (by omega)
  rw [← hr', ← h]
  obtain ⟨k, rfl⟩ : ∃ q, k = q + 1 := ⟨k - 1, by omega⟩
  rfl

/-- The numbers from one on. -/
def ppFrom (k : Int) : Nat → List Int
  | 0 => []
  | n + 1 => ppFrom k n ++ [k + (n : Int)]
theorem ppFrom_len (k : Int) (n : Nat) : (ppFrom k n).length = n := by induction n with
  | zero => rfl
  | succ n ih => simp [ppFrom, ih]
theorem ppFrom_get (k : Int) (n i : Nat) (h : i < n) : (ppFrom k n)[i]? = some (k + (i : Int)) := by
  induction n with
  | zero => omega
  | succ n ih =>
    unfold ppFrom
    by_cases e : i < n
    · rw [List.getElem?_append_left (by rw [ppFrom_len]; exact e), ih e]
    · obtain rfl : i = n := by omega
      rw [List.getElem?_append_right (by rw [ppFrom_len]; omega), ppFrom_len]
      simp
theorem pp_markIntS (l : List Int) (hl : l.length ≤ 1048576) (k : Nat) (hk : l.length < k) : laws_markIntS.f k l 1 = some (1 + (l.length : Int), ppFrom 1 l.length) := by
  unfold laws_markIntS.f
  obtain ⟨r, hr, h⟩ := pp_lp (fun k (s : List Int × Int) i => laws_markIntS.l0 k s.1 s.2 i) l.length (fun i s => s.1.length = l.length ∧ s.2 = 1 + (i : Int) ∧ s.1.take i = ppFrom 1 i) (fun r => r = (1 + (l.length : Int), ppFrom 1 l.length))
    (fun k s i hi ⟨h1, h2, h3⟩ => .inl ⟨(s.1.set i s.2, s.2 + 1), ⟨by simpa using h1, by simp [h2]; omega, by
      simp only
      rw [List.take_succ_eq_append_getElem (by simpa [h1] using hi), List.take_set_of_le (by omega), h3]
      simp [ppFrom, h2]⟩, by
      simp only [laws_markIntS.l0]
      rw [if_pos (by rw [h1]; omega), if_pos (by omega), pp_wrap_id (s.2 + 1) (by omega) (by omega), pp_wrap_id ((i : Int) + 1) (by omega) (by omega)]
      simp⟩)
    (fun k s ⟨h1, h2, h3⟩ => ⟨(s.2, s.1), by
      rw [List.take_of_length_le (by omega)] at h3
      rw [h2, h3], by
      simp only [laws_markIntS.l0]
      rw [if_neg (by rw [h1]; omega)]⟩) l.length 0 (l, 1) k (by omega) (by omega) ⟨rfl, by simp, by simp [ppFrom]⟩ hk
  rw [← hr]; simpa using h
theorem pp_heldIntS (n : Nat) (hl : n ≤ 1048576) (k : Nat) (hk : n < k) : laws_heldIntS.f k (ppFrom 1 n) 1 = some (1 + (n : Int)) := by
  unfold laws_heldIntS.f
  have := pp_lpE (fun k (s : Int) i => laws_heldIntS.l0 k (ppFrom 1 n) s i) n (fun i => 1 + (i : Int)) (1 + (n : Int))
    (fun k i hi => by
      have e : rd (ppFrom 1 n) (i : Int) = 1 + (i : Int) := by
        unfold rd
        simp only [Int.toNat_natCast, List.getD_eq_getElem?_getD]
        rw [ppFrom_get 1 n i hi]
        rfl
      simp only [laws_heldIntS.l0]
      rw [if_pos (by rw [ppFrom_len]; omega), if_pos (by omega), if_pos e, pp_wrap_id (1 + (i : Int) + 1) (by omega) (by omega), pp_wrap_id ((i : Int) + 1) (by omega) (by omega)]
      congr 1 <;> omega)
    (fun k => by
      simp only [laws_heldIntS.l0]
      rw [if_neg (by rw [ppFrom_len]; omega)]) k hk
  simpa using this

/-- With enough rounds g answers, and P holds of the answer. -/
def Evs {α : Type} (g : Nat → Option α) (P : α → Prop) : Prop := ∃ r K, P r ∧ ∀ k, K ≤ k → g k = some r
theorem Evs.now {α : Type} {P : α → Prop} {r : α} (h : P r) : Evs (fun _ => some r) P := ⟨r, 0, h, fun _ _ => rfl⟩
theorem Evs.bnd {α β : Type} {g : Nat → Option α} {f : Nat → α → Option β} {P : α → Prop} {Q : β → Prop} (h : Evs g P) (k : ∀ a, P a → Evs (fun n => f n a) Q) : Evs (fun n => (g n).bind (f n)) Q := by
  obtain ⟨a, K, hP, h⟩ := h
  obtain ⟨r, K', hQ, k⟩ := k a hP
  refine ⟨r, max K K', hQ, fun n hn => ?_⟩
  show (g n).bind (f n) = some r
  rw [h n (by omega)]
  exact k n (by omega)
theorem Evs.step {α : Type} {g f : Nat → Option α} {P : α → Prop} (h : ∀ k, g (k + 1) = f k) (k : Evs f P) : Evs g P := by
  obtain ⟨r, K, hP, k⟩ := k
  refine ⟨r, K + 1, hP, fun n hn => ?_⟩
  obtain ⟨m, rfl⟩ : ∃ m, n = m + 1 := ⟨n - 1, by omega⟩
  rw [h]
  exact k m (by omega)
theorem Evs.cong {α : Type} {g f : Nat → Option α} {P : α → Prop} (h : ∀ k, g k = f k) (k : Evs f P) : Evs g P := by
  obtain ⟨r, K, hP, k⟩ := k
  exact ⟨r, K, hP, fun n hn => (h n).trans (k n hn)⟩
theorem Evs.imp {α : Type} {g : Nat → Option α} {P Q : α → Prop} (h : Evs g P) (hq : ∀ r, P r → Q r) : Evs g Q := by
  obtain ⟨r, K, hP, k⟩ := h
  exact ⟨r, K, hq r hP, k⟩
theorem Evs.of {α : Type} {g : Nat → Option α} {r : α} (K : Nat) (h : ∀ k, K ≤ k → g k = some r) : Evs g (fun q => q = r) := ⟨r, K, rfl, h⟩
theorem Evs.ends {α : Type} {g : Nat → Option α} {r : α} (h : Evs g (fun q => q = r)) : ∃ k, g k = some r := by
  obtain ⟨q, K, rfl, k⟩ := h
  exact ⟨K, k K (Nat.le_refl _)⟩
theorem Evs.pos {α : Type} {g f : Nat → Option α} {c : Prop} [Decidable c] {P : α → Prop} (hc : c) (h : Evs g P) : Evs (fun k => if c then g k else f k) P := h.cong (fun k => if_pos hc)
theorem Evs.neg {α : Type} {g f : Nat → Option α} {c : Prop} [Decidable c] {P : α → Prop} (hc : ¬ c) (h : Evs f P) : Evs (fun k => if c then g k else f k) P := h.cong (fun k => if_neg hc)
theorem Evs.ite {α : Type} {g f : Nat → Option α} {c : Prop} [Decidable c] {P : α → Prop} (h : c → Evs g P) (h' : ¬ c → Evs f P) : Evs (fun k => if c then g k else f k) P := by
  by_cases hc : c
  · exact Evs.pos hc (h hc)
  · exact Evs.neg hc (h' hc)
/-- A loop that counts up. -/
theorem Evs.up {σ ρ : Type} (E : Nat → σ → Int → Option ρ) (n : Nat) (Inv : Nat → σ → Prop) (Post : ρ → Prop)
    (hs : ∀ s (i : Nat), i < n → Inv i s → (∀ s', Inv (i + 1) s' → Evs (fun k => E k s' ((i : Int) + 1)) Post) → Evs (fun k => E k s (i : Int)) Post)
    (he : ∀ s, Inv n s → Evs (fun k => E k s (n : Int)) Post) : ∀ s, Inv 0 s → Evs (fun k => E k s 0) Post := by
  have key : ∀ (d i : Nat) (s : σ), n - i = d → i ≤ n → Inv i s → Evs (fun k => E k s (i : Int)) Post := by
    intro d
    induction d with
    | zero =>
      intro i s hd hi hI
      obtain rfl : i = n := by omega
      exact he s hI
    | succ d ih =>
      intro i s hd hi hI
      exact hs s i (by omega) hI (fun s' hI' => by simpa using ih (i + 1) s' (by omega) (by omega) hI')
  intro s hI
  simpa using key n 0 s (by omega) (by omega) hI

theorem pp_markGrdCellS (l : List S46) (hl : l.length ≤ 1048576) : Evs (fun k => laws_markGrdCellS.f k l 1) (fun r => 0 ≤ r.1) := by
  unfold laws_markGrdCellS.f
  refine Evs.up (fun k (s : List S46 × Int) i => laws_markGrdCellS.l0 k s.1 s.2 i) l.length (fun i s => s.1.length = l.length ∧ s.2 = 1 + 5 * (i : Int)) _ ?_ ?_ (l, 1) ⟨rfl, by simp⟩
  · rintro ⟨s, m⟩ i hi ⟨h1, h2⟩ next
    dsimp only at h1 h2
    refine Evs.step (f := fun k => laws_markGrdCellS.l0 k _ (m + 5) ((i : Int) + 1)) (fun k => by
      simp only [laws_markGrdCellS.l0, Option.bind_some]
      rw [if_pos (by omega), if_pos (by omega), pp_wrap_id ((i : Int) + 1) (by omega) (by omega)]
      rw [pp_wrap_id (m + 1) (by omega) (by omega), pp_wrap_id (m + 1 + 1) (by omega) (by omega), pp_wrap_id (m + 1 + 1 + 1) (by omega) (by omega), pp_wrap_id (m + 1 + 1 + 1 + 1) (by omega) (by omega), pp_wrap_id (m + 1 + 1 + 1 + 1 + 1) (by omega) (by omega)]
      rw [show m + 1 + 1 + 1 + 1 + 1 = m + 5 by omega]) (next (_, m + 5) ⟨by simp [h1], by dsimp only; omega⟩)
  · rintro ⟨s, m⟩ ⟨h1, h2⟩
    dsimp only at h1 h2
    exact Evs.step (f := fun k => some (m, s)) (fun k => by simp only [laws_markGrdCellS.l0]; rw [if_neg (by omega)]) (Evs.now (by dsimp only; omega))
theorem pp_markGrdGrid (a b : Int) (l : List S46) (hl : l.length ≤ 1048576) : Evs (fun k => laws_markGrdGrid.f k a b l 1) (fun r => 0 ≤ r.1) := by
  unfold laws_markGrdGrid.f
  refine Evs.bnd (pp_markGrdCellS l hl) ?_
  intro r hr
  exact Evs.now hr

/-- What stood ahead. -/
def ppAhd (at_ : Int → Int) : Nat → Int
  | 0 => -1
  | n + 1 => at_ (n : Int)
/-- The cells of slots, where they are others than ahead. -/
def ppChg (at_ : Int → Int) : Nat → List Int
  | 0 => []
  | n + 1 => if 0 ≤ at_ (n : Int) ∧ at_ (n : Int) ≠ ppAhd at_ n then ppChg at_ n ++ [at_ (n : Int)] else ppChg at_ n
theorem ppChg_len (at_ : Int → Int) (n : Nat) : (ppChg at_ n).length ≤ n := by
  induction n with
  | zero => simp [ppChg]
  | succ n ih =>
    unfold ppChg
    split
    · rw [List.length_append]; simp; omega
    · omega
theorem pp_changes (at_ : Int → Int) (n : Nat) (hn : n ≤ 1048576) : Evs (fun k => impl_changes.f at_ k (n : Int)) (fun r => r = ppChg at_ n) := by
  unfold impl_changes.f
  refine Evs.up (fun k (s : List Int × Int) i => impl_changes.l0 at_ k s.1 s.2 (n : Int) i) n (fun i s => s = (ppChg at_ i, ppAhd at_ i)) _ ?_ ?_ (([] : List Int), -1) rfl
  · rintro s i hi rfl next
    have hlen := ppChg_len at_ i
    have nx : Evs (fun k => impl_changes.l0 at_ k (ppChg at_ (i + 1)) (at_ (i : Int)) (n : Int) ((i : Int) + 1)) (fun r => r = ppChg at_ n) := next (_, _) rfl
    by_cases h1 : 0 ≤ at_ (i : Int)
    · by_cases h2 : at_ (i : Int) = ppAhd at_ i
      · have e : ppChg at_ (i + 1) = ppChg at_ i := by
          show (if _ then _ else _) = _
          rw [if_neg (fun h => h.2 h2)]
        rw [e] at nx
        exact Evs.step (fun k => by simp only [impl_changes.l0]; rw [if_pos (by omega), if_pos h1, if_pos h2, pp_wrap_id ((i : Int) + 1) (by omega) (by omega)]) nx
      · have e : ppChg at_ (i + 1) = ppChg at_ i ++ [at_ (i : Int)] := by
          show (if _ then _ else _) = _
          rw [if_pos ⟨h1, h2⟩]
        rw [e] at nx
        exact Evs.step (fun k => by simp only [impl_changes.l0]; rw [if_pos (by omega), if_pos h1, if_neg h2, if_pos (by omega), pp_wrap_id ((i : Int) + 1) (by omega) (by omega)]) nx
    · have e : ppChg at_ (i + 1) = ppChg at_ i := by
        show (if _ then _ else _) = _
        rw [if_neg (fun h => h1 h.1)]
      rw [e] at nx
      exact Evs.step (fun k => by simp only [impl_changes.l0]; rw [if_pos (by omega), if_neg h1, pp_wrap_id ((i : Int) + 1) (by omega) (by omega)]) nx
  · rintro s rfl
    exact Evs.step (f := fun _ => some (ppChg at_ n)) (fun k => by simp only [impl_changes.l0]; rw [if_neg (by omega)]) (Evs.now rfl)
theorem ppChg_last (at_ : Int → Int) (i : Nat) (h : 0 ≤ ppAhd at_ i) : (ppChg at_ i).getLast? = some (ppAhd at_ i) := by
  induction i with
  | zero => simp [ppAhd] at h
  | succ i ih =>
    simp only [ppAhd] at h ⊢
    unfold ppChg
    by_cases e : at_ (i : Int) = ppAhd at_ i
    · rw [if_neg (fun q => q.2 e), ih (by omega), e]
    · rw [if_pos ⟨h, e⟩]
      simp
theorem ppChg_in (at_ : Int → Int) (i : Nat) (c : Int) (h : (ppChg at_ i).getLast? = some c) : 0 ≤ c ∧ ∃ m : Nat, m < i ∧ at_ (m : Int) = c := by
  induction i with
  | zero => simp [ppChg] at h
  | succ i ih =>
    unfold ppChg at h
    split at h
    · rename_i q
      simp at h
      exact ⟨by omega, i, by omega, h⟩
    · obtain ⟨h0, m, hm, e⟩ := ih h
      exact ⟨h0, m, by omega, e⟩
/-- What is the same at two slots is so between. -/
def ppNoGap (at_ : Int → Int) : Prop := ∀ m p i : Nat, m < p → p < i → at_ (m : Int) = at_ (i : Int) → 0 ≤ at_ (i : Int) → 0 ≤ at_ (p : Int)
theorem ppChg_same (at_ : Int → Int) (hg : ppNoGap at_) (i : Nat) (h0 : 0 ≤ at_ (i : Int)) (h : (ppChg at_ i).getLast? = some (at_ (i : Int))) : at_ (i : Int) = ppAhd at_ i := by
  by_cases ha : 0 ≤ ppAhd at_ i
  · have := ppChg_last at_ i ha
    rw [h] at this
    exact Option.some.inj this
  · obtain ⟨_, m, hm, e⟩ := ppChg_in at_ i _ h
    cases i with
    | zero => omega
    | succ i =>
      simp only [ppAhd] at ha
      have hmi : m < i := by
        by_cases q : m = i
        · subst q; omega
        · omega
      exact absurd (hg m i (i + 1) hmi (by omega) e h0) ha
theorem pp_lastrd (l : List Int) (h : l ≠ []) : l.getLast? = some (rd l ((l.length : Int) - 1)) := by
  have hl : 0 < l.length := List.length_pos_iff.2 h
  rw [List.getLast?_eq_getElem?]
  unfold rd
  rw [show ((l.length : Int) - 1).toNat = l.length - 1 by omega, List.getD_eq_getElem?_getD, List.getElem?_eq_getElem (by omega)]
  rfl
theorem ppIdx_at {α : Type} (p : α → Bool) (l : List α) (h : 0 ≤ ppIdx p l) : ∃ q : (ppIdx p l).toNat < l.length, p l[(ppIdx p l).toNat] = true := by
  unfold ppIdx at h ⊢
  cases hf : l.findIdx? p with
  | none => rw [hf] at h; simp at h
  | some i =>
    rw [List.findIdx?_eq_some_iff_getElem] at hf
    obtain ⟨q, hp, _⟩ := hf
    exact ⟨by simpa using q, by simpa using hp⟩
theorem ppIdx_some {α : Type} (p : α → Bool) (l : List α) (j : Nat) (hj : j < l.length) (h : p l[j] = true) : 0 ≤ ppIdx p l := by
  unfold ppIdx
  cases hf : l.findIdx? p with
  | none =>
    rw [List.findIdx?_eq_none_iff] at hf
    have := hf _ (List.getElem_mem hj)
    rw [h] at this
    exact absurd this (by simp)
  | some i => simp
theorem ppNoGap_idx {α : Type} (p : Int → α → Bool) (l : List α) (hc : ∀ x (m q i : Int), m < q → q < i → p m x = true → p i x = true → p q x = true) : ppNoGap (fun j => ppIdx (p j) l) := by
  intro m q i h1 h2 e h0
  obtain ⟨ha, hb⟩ := ppIdx_at (p (i : Int)) l h0
  obtain ⟨ha', hb'⟩ := ppIdx_at (p (m : Int)) l (by dsimp only at e h0; rw [e]; exact h0)
  dsimp only at e
  have hb'' : p (m : Int) l[(ppIdx (p (i : Int)) l).toNat] = true := by
    simp only [e] at hb'
    exact hb'
  exact ppIdx_some _ l _ ha (hc _ m q i (by omega) (by omega) hb'' hb)

theorem pp_eqIntS_loop (l : List Int) (hl : l.length ≤ 9223372036854775807) : ∀ (d i k : Nat), l.length - i = d → i ≤ l.length → d < k → laws_eqIntS.l0 k l l (i : Int) = some true := by
  intro d
  induction d with
  | zero =>
    intro i k hd hi hk
    obtain ⟨k, rfl⟩ : ∃ m, k = m + 1 := ⟨k - 1, by omega⟩
    simp only [laws_eqIntS.l0]
    rw [if_neg (by omega)]
  | succ d ih =>
    intro i k hd hi hk
    obtain ⟨k, rfl⟩ : ∃ m, k = m + 1 := ⟨k - 1, by omega⟩
    simp only [laws_eqIntS.l0]
    rw [if_pos (by omega), if_pos (by omega), if_pos (by omega), if_pos trivial, pp_wrap_id _ (by omega) (by omega)]
    have := ih (i + 1) k (by omega) (by omega) (by omega)
    simpa using this
theorem pp_eqIntS (l : List Int) (hl : l.length ≤ 1048576) (k : Nat) (hk : l.length < k) : laws_eqIntS.f k l l = some true := by
  unfold laws_eqIntS.f
  rw [if_pos rfl]
  have := pp_eqIntS_loop l (by omega) l.length 0 k (by omega) (by omega) hk
  simpa using this

theorem pp_nogapRow (L : List S46) (z : Int) : ppNoGap (fun j => ppAt L z j) := by
  refine ppNoGap_idx (fun j x => ppHold x z j) L ?_
  intro x m q i h1 h2 hm hi
  simp only [ppHold, ppAmong, Bool.and_eq_true, decide_eq_true_eq] at hm hi ⊢
  omega
theorem pp_specGrdRow (a b : Int) (L : List S46) (z : Int) (hn : L.length ≤ 1048576) (hw : ∀ x ∈ L, ppWfC x) (hz : (Lit.int .i64 z).wf = true) (ha : (Lit.int .i64 b).wf = true) :
    Evs (fun k => spec_GrdRow.f k a b L z) (fun r => r = ppChg (fun j => ppAt L z j) (min (b).toNat 94)) := by
  unfold spec_GrdRow.f
  refine Evs.up (fun k (s : List Int) i => spec_GrdRow.l0 k z s i a b L) (min (b).toNat 94) (fun i s => s = ppChg (fun j => ppAt L z j) i) _ ?_ ?_ [] rfl
  · rintro s i hi rfl next
    have hg := pp_nogapRow L z
    generalize hat : (fun j => ppAt L z j) = at_ at next hg ⊢
    have hati : at_ (i : Int) = (fun j => ppAt L z j) (i : Int) := by rw [hat]
    have hlen := ppChg_len at_ i
    have nx : Evs (fun k => spec_GrdRow.l0 k z (ppChg at_ (i + 1)) ((i : Int) + 1) a b L) (fun r => r = ppChg at_ (min (b).toNat 94)) := next _ rfl
    refine Evs.step (f := fun k => spec_GrdRow.j1 k z (ppChg at_ i) (i : Int) true a b L) (fun k => by simp only [spec_GrdRow.l0]; rw [if_pos (by omega), decide_eq_true (by omega : (i : Int) < 94)]) ?_
    refine Evs.step (fun k => by simp only [spec_GrdRow.j1]; rw [if_pos trivial, pp_wrap_id ((i : Int) + 1) (by omega) (by omega), pp_wrap_id (((ppChg at_ i).length : Int) - 1) (by omega) (by omega)]) ?_
    refine Evs.bnd (Evs.of (L.length + 2) fun k hk => pp_specGrdAt a b L z (i : Int) (by omega) hw hz (pp_wfi _ (by omega) (by omega)) k (by omega)) ?_
    rintro _ rfl
    have hati' : ppAt L z (i : Int) = at_ (i : Int) := hati.symm
    simp only [hati']
    refine Evs.ite (fun h1 => ?_) (fun h1 => ?_)
    · refine Evs.ite (fun h2 => ?_) (fun h2 => ?_)
      · have hnil : ppChg at_ i = [] := List.eq_nil_of_length_eq_zero (by omega)
        have e : ppChg at_ (i + 1) = ppChg at_ i ++ [at_ (i : Int)] := by
          show (if _ then _ else _) = _
          rw [if_pos ⟨h1, fun q => by
            have := ppChg_last at_ i (by rw [← q]; exact h1)
            rw [hnil] at this
            exact absurd this (by simp)⟩]
        rw [e] at nx
        exact Evs.pos (by omega) nx
      · have hne : ppChg at_ i ≠ [] := fun q => h2 (by rw [q]; rfl)
        have hpos : 0 < (ppChg at_ i).length := List.length_pos_iff.2 hne
        refine Evs.pos (by omega) (Evs.pos (by omega) ?_)
        have hl := pp_lastrd _ hne
        refine Evs.ite (fun h3 => ?_) (fun h3 => ?_)
        · have e : ppChg at_ (i + 1) = ppChg at_ i := by
            show (if _ then _ else _) = _
            rw [if_neg (fun q => q.2 (ppChg_same at_ hg i h1 (by rw [hl, h3])))]
          rw [e] at nx
          exact nx
        · have e : ppChg at_ (i + 1) = ppChg at_ i ++ [at_ (i : Int)] := by
            show (if _ then _ else _) = _
            rw [if_pos ⟨h1, fun q => by
              have := ppChg_last at_ i (by rw [← q]; exact h1)
              rw [hl, ← q] at this
              exact h3 (Option.some.inj this)⟩]
          rw [e] at nx
          exact Evs.pos (by omega) nx
    · have e : ppChg at_ (i + 1) = ppChg at_ i := by
        show (if _ then _ else _) = _
        rw [if_neg (fun q => h1 q.1)]
      rw [e] at nx
      exact nx
  · rintro s rfl
    have hz' := pp_wf _ ha
    by_cases h : ((min (b).toNat 94 : Nat) : Int) < b
    · refine Evs.step (f := fun k => spec_GrdRow.j1 k z _ _ false a b L) (fun k => by simp only [spec_GrdRow.l0]; rw [if_pos h, decide_eq_false (by omega)]) ?_
      exact Evs.step (f := fun _ => some _) (fun k => by simp only [spec_GrdRow.j1]; rw [if_neg (by simp)]) (Evs.now rfl)
    · refine Evs.step (f := fun k => spec_GrdRow.j1 k z _ _ false a b L) (fun k => by simp only [spec_GrdRow.l0]; rw [if_neg h]) ?_
      exact Evs.step (f := fun _ => some _) (fun k => by simp only [spec_GrdRow.j1]; rw [if_neg (by simp)]) (Evs.now rfl)
theorem pp_implGrdRow (a b : Int) (L : List S46) (z : Int) (hw : ∀ x ∈ L, ppWfC x) (hz : (Lit.int .i64 z).wf = true) :
    Evs (fun k => impl_GrdRow.f k a b L z) (fun r => r = ppChg (fun j => ppAt L z j) (min (b).toNat 94)) := by
  unfold impl_GrdRow.f
  have e : (if (94 : Int) < (if b < 0 then 0 else b) then (94 : Int) else (if b < 0 then 0 else b)) = ((min (b).toNat 94 : Nat) : Int) := by
    by_cases h : b < 0
    · simp only [if_pos h]; omega
    · simp only [if_neg h]; split <;> omega
  rw [e]
  refine (pp_changes _ _ (by omega)).imp ?_
  rintro _ rfl
  have key : ∀ n : Nat, n ≤ 94 → ppChg (fun j => ppIdx (fun x => ppHasB x z j) L) n = ppChg (fun j => ppAt L z j) n ∧ ppAhd (fun j => ppIdx (fun x => ppHasB x z j) L) n = ppAhd (fun j => ppAt L z j) n := by
    intro n
    induction n with
    | zero => intro _; exact ⟨rfl, rfl⟩
    | succ n ih =>
      intro hn
      obtain ⟨i1, i2⟩ := ih (by omega)
      have hj : (Lit.int .i64 (n : Int)).wf = true := pp_wfi _ (by omega) (by omega)
      have q : ppIdx (fun x => ppHasB x z (n : Int)) L = ppAt L z (n : Int) := ppIdx_congr _ _ L (fun x hx => pp_hasB x z (n : Int) (hw x hx) hz hj)
      refine ⟨?_, q⟩
      unfold ppChg
      rw [i1, i2]
      simp only [q]
  exact (key _ (by omega)).1
theorem FnExactGrdRow : ∀ (a0_0 : Int) (a0_1 : Int) (l0_2 : List (S122)) (a1 : Int), ((Lit.int .i64 a0_0).wf = true) → ((Lit.int .i64 a0_1).wf = true) → (l0_2.length ≤ 9223372036854775807 ∧ ∀ (x : S122), x ∈ l0_2 → (((Lit.int .i64 x.f0).wf = true) ∧ (((Lit.int .i64 x.f1).wf = true) ∧ (((Lit.int .i64 x.f2).wf = true) ∧ (((Lit.int .i64 x.f3).wf = true) ∧ ((Lit.int .i64 x.f4).wf = true)))))) → ((Lit.int .i64 a1).wf = true) → ∃ k, laws_FnExactGrdRow.f k a0_0 a0_1 l0_2 a1 = some true := by
  intro a b l z ha hb ⟨hl, hw⟩ hz
  refine Evs.ends ?_
  have hw' : ∀ x ∈ l.map ppGC, ppWfC x := by
    intro x hx
    obtain ⟨y, hy, rfl⟩ := List.mem_map.1 hx
    exact hw y hy
  unfold laws_FnExactGrdRow.f
  rw [pp_szGrdGrid a b l hl]
  simp only [Option.bind_some]
  by_cases h : 1048576 < (l.length : Int)
  · rw [if_pos h]
    exact Evs.pos (by omega) (Evs.now rfl)
  · rw [if_neg h]
    refine Evs.neg (by omega) ?_
    have hto : Evs (fun k => laws_toGrdGrid.f k a b l) (fun r => r = (a, b, l.map ppGC)) := Evs.of (l.length + 1) fun k hk => pp_toGrdGrid a b l (by omega) k (by omega)
    have hn : (l.map ppGC).length ≤ 1048576 := by simp; omega
    have himp := pp_implGrdRow a b (l.map ppGC) z hw' hz
    have hC := ppChg_len (fun j => ppAt (l.map ppGC) z j) (min (b).toNat 94)
    refine Evs.bnd hto ?_
    rintro _ rfl
    refine Evs.bnd (pp_specGrdRow a b (l.map ppGC) z hn hw' hz hb) ?_
    rintro _ rfl
    refine Evs.bnd hto ?_
    rintro _ rfl
    refine Evs.bnd himp ?_
    rintro _ rfl
    generalize ppChg (fun j => ppAt (l.map ppGC) z j) (min (b).toNat 94) = C at himp hC ⊢
    have heq : Evs (fun k => laws_eqIntS.f k C C) (fun r => r = true) := Evs.of (C.length + 1) fun k hk => pp_eqIntS C (by omega) k (by omega)
    have hheld : Evs (fun k => laws_heldIntS.f k (ppFrom 1 C.length) 1) (fun r => r = 1 + (C.length : Int)) := Evs.of (C.length + 1) fun k hk => pp_heldIntS C.length (by omega) k (by omega)
    refine Evs.bnd heq ?_
    rintro _ rfl
    refine Evs.pos rfl ?_
    refine Evs.bnd hto ?_
    rintro _ rfl
    refine Evs.bnd (Evs.of (l.length + 1) fun k hk => pp_eqGrdGrid a b _ hn k (by simp; omega)) ?_
    rintro _ rfl
    refine Evs.pos rfl ?_
    refine Evs.bnd (pp_markGrdGrid a b _ hn) ?_
    intro r hr
    refine Evs.neg (by omega) ?_
    refine Evs.bnd heq ?_
    rintro _ rfl
    refine Evs.step (fun k => by simp only [laws_FnExactGrdRow.j0]; rw [if_neg (by simp)]) ?_
    refine Evs.bnd (Evs.of (C.length + 1) fun k hk => pp_markIntS C (by omega) k (by omega)) ?_
    rintro _ rfl
    refine Evs.bnd hheld ?_
    rintro _ rfl
    refine Evs.neg (by omega) (Evs.pos rfl ?_)
    refine Evs.bnd hto ?_
    rintro _ rfl
    refine Evs.bnd himp ?_
    rintro _ rfl
    refine Evs.bnd heq ?_
    rintro _ rfl
    refine Evs.pos rfl ?_
    refine Evs.bnd hheld ?_
    rintro _ rfl
    exact Evs.neg (by omega) (Evs.pos rfl (Evs.now rfl))

end Go.Proofs.Ytfcacpbblkahdaa.Pure
