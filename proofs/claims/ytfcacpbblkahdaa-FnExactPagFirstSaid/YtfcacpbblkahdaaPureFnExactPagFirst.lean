/-
  impl.PagFirst answers what spec.PagFirst answers, of all pages: the first with a slice of the row, or -1.
  Conditions: none but those of the statement.
-/
import Derived.Test.YtfcacpbblkahdaaPFnExactPagFirstx4
namespace Go.Proofs.Ytfcacpbblkahdaa.Pure
open Go.RowKit Go.Proofs.Ytfcacpbblkahdaa.PFnExactPagFirst Go.Proofs.YtfcacpbblkahdaaW.PrintWords Go.Proofs.YtfcacpbblkahdaaW.PrintLast Go.Proofs.YtfcacpbblkahdaaW.PrintMore
set_option linter.unusedVariables false
set_option linter.unusedSimpArgs false

theorem pp_wrap_l (a b : Int) : wrap64 (wrap64 a + b) = wrap64 (a + b) := by unfold wrap64; omega
theorem pp_wrap_r (a b : Int) : wrap64 (a + wrap64 b) = wrap64 (a + b) := by unfold wrap64; omega
theorem pp_wrap_id (a : Int) (h : -9223372036854775808 ≤ a) (h' : a ≤ 9223372036854775807) : wrap64 a = a := by unfold wrap64; omega
theorem pp_wrap_0 : wrap64 0 = 0 := by unfold wrap64; omega
theorem pp_wf (a : Int) (h : (Lit.int .i64 a).wf = true) : -9223372036854775808 ≤ a ∧ a ≤ 9223372036854775807 := by
  simp [Lit.wf, IntKind.min, IntKind.max, IntKind.signed, IntKind.bits] at h; omega
theorem pp_wfi (a : Int) (h : -9223372036854775808 ≤ a) (h' : a ≤ 9223372036854775807) : (Lit.int .i64 a).wf = true := by
  simp [Lit.wf, IntKind.min, IntKind.max, IntKind.signed, IntKind.bits]; omega

/-- A loop that counts up: rounds keep Inv or leave with Post; at the end it leaves with Post. -/
theorem pp_lp {σ ρ : Type} (E : Nat → σ → Int → Option ρ) (n : Nat) (Inv : Nat → σ → Prop) (Post : ρ → Prop)
    (hs : ∀ k s (i : Nat), i < n → Inv i s → (∃ s', Inv (i + 1) s' ∧ E (k + 1) s (i : Int) = E k s' ((i : Int) + 1)) ∨ ∃ r, Post r ∧ E (k + 1) s (i : Int) = some r)
    (he : ∀ k s, Inv n s → ∃ r, Post r ∧ E (k + 1) s (n : Int) = some r) :
    ∀ (d i : Nat) (s : σ) (k : Nat), n - i = d → i ≤ n → Inv i s → d < k → ∃ r, Post r ∧ E k s (i : Int) = some r := by
  intro d
  induction d with
  | zero =>
    intro i s k hd hi hI hk
    obtain ⟨k, rfl⟩ : ∃ m, k = m + 1 := ⟨k - 1, by omega⟩
    obtain rfl : i = n := by omega
    exact he k s hI
  | succ d ih =>
    intro i s k hd hi hI hk
    obtain ⟨k, rfl⟩ : ∃ m, k = m + 1 := ⟨k - 1, by omega⟩
    rcases hs k s i (by omega) hI with ⟨s', hI', he'⟩ | h
    · obtain ⟨r, hr, e⟩ := ih (i + 1) s' k (by omega) (by omega) hI' (by omega)
      exact ⟨r, hr, by rw [he']; simpa using e⟩
    · exact h
/-- .. whose state is known at each place. -/
theorem pp_lpE {σ ρ : Type} (E : Nat → σ → Int → Option ρ) (n : Nat) (st : Nat → σ) (r : ρ)
    (hs : ∀ k (i : Nat), i < n → E (k + 1) (st i) (i : Int) = E k (st (i + 1)) ((i : Int) + 1)) (he : ∀ k, E (k + 1) (st n) (n : Int) = some r) (k : Nat) (hk : n < k) : E k (st 0) 0 = some r := by
  obtain ⟨q, hq, h⟩ := pp_lp E n (fun i s => s = st i) (fun q => q = r) (fun k s i hi h => .inl ⟨st (i + 1), rfl, by rw [h]; exact hs k i hi⟩) (fun k s h => ⟨r, rfl, by rw [h]; exact he k⟩) n 0 (st 0) k (by omega) (by omega) rfl hk
  rw [← hq]; simpa using h
/-- .. that fills a row. -/
theorem pp_fill {α β : Type} (L : Nat → List β → Int → Option (List β)) (g : α → β) (xs : List α) (z : β)
    (hs : ∀ k out (i : Nat) (h : i < xs.length), out.length = xs.length → L (k + 1) out (i : Int) = L k (out.set i (g xs[i])) ((i : Int) + 1)) (he : ∀ k out, L (k + 1) out (xs.length : Int) = some out)
    (k : Nat) (hk : xs.length < k) : L k (List.replicate xs.length z) 0 = some (xs.map g) := by
  obtain ⟨r, hr, h⟩ := pp_lp L xs.length (fun i out => out.length = xs.length ∧ out.take i = (xs.map g).take i) (fun r => r = xs.map g)
    (fun k out i hi ⟨h1, h2⟩ => .inl ⟨out.set i (g xs[i]), ⟨by simpa using h1, by
      rw [List.take_succ_eq_append_getElem (by simpa [h1] using hi), List.take_succ_eq_append_getElem (by simpa using hi), List.take_set_of_le (by omega), h2]
      simp⟩, hs k out i hi h1⟩)
    (fun k out ⟨h1, h2⟩ => ⟨out, by
      rw [List.take_of_length_le (by omega), List.take_of_length_le (by simp)] at h2
      exact h2, he k out⟩) xs.length 0 (List.replicate xs.length z) k (by omega) (by omega) ⟨by simp, by simp⟩ hk
  rw [← hr]; simpa using h
theorem pp_getD {α : Type} (l : List α) (i : Nat) (z : α) (h : i < l.length) : l.getD (i : Int).toNat z = l[i] := by
  simp [List.getD_eq_getElem?_getD, List.getElem?_eq_getElem h]
theorem pp_rd {l : List Int} {i : Nat} (h : i < l.length) : rd l (i : Int) = l[i] := pp_getD l i 0 h

/-- With enough rounds g answers, and P holds of the answer. -/
def Evs {α : Type} (g : Nat → Option α) (P : α → Prop) : Prop := ∃ r K, P r ∧ ∀ k, K ≤ k → g k = some r
theorem Evs.now {α : Type} {P : α → Prop} {r : α} (h : P r) : Evs (fun _ => some r) P := ⟨r, 0, h, fun _ _ => rfl⟩
theorem Evs.bnd {α β : Type} {g : Nat → Option α} {f : Nat → α → Option β} {P : α → Prop} {Q : β → Prop} (h : Evs g P) (k : ∀ a, P a → Evs (fun n => f n a) Q) : Evs (fun n => (g n).bind (f n)) Q := by
  obtain ⟨a, K, hP, h⟩ := h
  obtain ⟨r, K', hQ, k⟩ := k a hP
  refine ⟨r, max K K', hQ, fun n hn => ?_⟩
  show (g n).bind (f n) = some r
  rw [h n (by omega)]
  exact k n (by omega)
theorem Evs.step {α : Type} {g f : Nat → Option α} {P : α → Prop} (h : ∀ k, g (k + 1) = f k) (k : Evs f P) : Evs g P := by
  obtain ⟨r, K, hP, k⟩ := k
  refine ⟨r, K + 1, hP, fun n hn => ?_⟩
  obtain ⟨m, rfl⟩ : ∃ m, n = m + 1 := ⟨n - 1, by omega⟩
  rw [h]
  exact k m (by omega)
theorem Evs.cong {α : Type} {g f : Nat → Option α} {P : α → Prop} (h : ∀ k, g k = f k) (k : Evs f P) : Evs g P := by
  obtain ⟨r, K, hP, k⟩ := k
  exact ⟨r, K, hP, fun n hn => (h n).trans (k n hn)⟩
theorem Evs.imp {α : Type} {g : Nat → Option α} {P Q : α → Prop} (h : Evs g P) (hq : ∀ r, P r → Q r) : Evs g Q := by
  obtain ⟨r, K, hP, k⟩ := h
  exact ⟨r, K, hq r hP, k⟩
theorem Evs.of {α : Type} {g : Nat → Option α} {r : α} (K : Nat) (h : ∀ k, K ≤ k → g k = some r) : Evs g (fun q => q = r) := ⟨r, K, rfl, h⟩
theorem Evs.ends {α : Type} {g : Nat → Option α} {r : α} (h : Evs g (fun q => q = r)) : ∃ k, g k = some r := by
  obtain ⟨q, K, rfl, k⟩ := h
  exact ⟨K, k K (Nat.le_refl _)⟩
theorem Evs.pos {α : Type} {g f : Nat → Option α} {c : Prop} [Decidable c] {P : α → Prop} (hc : c) (h : Evs g P) : Evs (fun k => if c then g k else f k) P := h.cong (fun k => if_pos hc)
theorem Evs.neg {α : Type} {g f : Nat → Option α} {c : Prop} [Decidable c] {P : α → Prop} (hc : ¬ c) (h : Evs f P) : Evs (fun k => if c then g k else f k) P := h.cong (fun k => if_neg hc)
theorem Evs.ite {α : Type} {g f : Nat → Option α} {c : Prop} [Decidable c] {P : α → Prop} (h : c → Evs g P) (h' : ¬ c → Evs f P) : Evs (fun k => if c then g k else f k) P := by
  by_cases hc : c
  · exact Evs.pos hc (h hc)
  · exact Evs.neg hc (h' hc)
/-- A loop that counts up. -/
theorem Evs.up {σ ρ : Type} (E : Nat → σ → Int → Option ρ) (n : Nat) (Inv : Nat → σ → Prop) (Post : ρ → Prop)
    (hs : ∀ s (i : Nat), i < n → Inv i s → (∀ s', Inv (i + 1) s' → Evs (fun k => E k s' ((i : Int) + 1)) Post) → Evs (fun k => E k s (i : Int)) Post)
    (he : ∀ s, Inv n s → Evs (fun k => E k s (n : Int)) Post) : ∀ s, Inv 0 s → Evs (fun k => E k s 0) Post := by
  have key : ∀ (d i : Nat) (s : σ), n - i = d → i ≤ n → Inv i s → Evs (fun k => E k s (i : Int)) Post := by
    intro d
    induction d with
    | zero =>
      intro i s hd hi hI
      obtain rfl : i = n := by omega
      exact he s hI
    | succ d ih =>
      intro i s hd hi hI
      exact hs s i (by omega) hI (fun s' hI' => by simpa using ih (i + 1) s' (by omega) (by omega) hI')
  intro s hI
  simpa using key n 0 s (by omega) (by omega) hI

theorem pp_rdP {l : List S84} {i : Nat} (h : i < l.length) : rd_T84 l (i : Int) = l[i] := pp_getD l i _ h
theorem pp_rdPP {l : List (List S84)} {i : Nat} (h : i < l.length) : rd_L4 l (i : Int) = l[i] := pp_getD l i _ h

/-- The first page with a slice of a row. -/
def ppPagFirst (l : List (List S84)) (row : Int) : Int := ppIdx (fun x => decide (0 ≤ ppIdx (fun s : S84 => s.f0 == row) x)) l
theorem pp_specPagFirst (l : List (List S84)) (row : Int) (hl : l.length ≤ 9223372036854775807) (hx : ∀ x ∈ l, x.length ≤ 9223372036854775807) : Evs (fun k => spec_PagFirst.f k l row) (fun r => r = ppPagFirst l row) := by
  unfold spec_PagFirst.f
  refine Evs.up (fun k (_ : Unit) i => spec_PagFirst.l0 k l row i) l.length (fun i _ => ∀ j (hj : j < l.length), j < i → decide (0 ≤ ppIdx (fun s : S84 => s.f0 == row) l[j]) = false) _ ?_ ?_ () (fun j _ h => absurd h (Nat.not_lt_zero _))
  · intro s i hi hI hn
    have hxi := hx _ (List.getElem_mem hi)
    refine Evs.step (fun k => by simp only [spec_PagFirst.l0]; rw [if_pos (by omega)]; try rfl) ?_
    refine Evs.up (fun k (_ : Unit) j => spec_PagFirst.l1 k l row (i : Int) j) l[i].length (fun j _ => ∀ m (hm : m < l[i].length), m < j → (l[i][m].f0 == row) = false) _ ?_ ?_ () (fun j _ h => absurd h (Nat.not_lt_zero _))
    · intro s j hj hJ hm
      refine Evs.step (fun k => by simp only [spec_PagFirst.l1]; rw [if_pos (by omega), if_pos (by omega), pp_rdPP hi, if_pos (by omega), if_pos (by omega), pp_rdP hj, pp_wrap_id ((j : Int) + 1) (by omega) (by omega)]; try rfl) ?_
      refine Evs.ite (fun he => ?_) (fun he => ?_)
      · have h0 : 0 ≤ ppIdx (fun s : S84 => s.f0 == row) l[i] := by
          rw [ppIdx_hit (fun s : S84 => s.f0 == row) l[i] j hj (beq_iff_eq.2 he) hJ]
          omega
        refine Evs.now ?_
        unfold ppPagFirst
        rw [ppIdx_hit _ l i hi (decide_eq_true h0) hI]
      · refine hm () (fun m hm' hlt => ?_)
        by_cases e : m = j
        · subst e; exact beq_eq_false_iff_ne.2 he
        · exact hJ m hm' (by omega)
    · intro s hJ
      refine Evs.step (fun k => by simp only [spec_PagFirst.l1]; rw [if_pos (by omega), if_pos (by omega), pp_rdPP hi, if_neg (by omega), pp_wrap_id ((i : Int) + 1) (by omega) (by omega)]; try rfl) ?_
      refine hn () (fun j hj hlt => ?_)
      by_cases e : j = i
      · subst e
        rw [ppIdx_miss (fun s : S84 => s.f0 == row) l[j] (fun m hm' => hJ m hm' hm')]
        rfl
      · exact hI j hj (by omega)
  · intro s hI
    refine Evs.step (f := fun _ => some (-1)) (fun k => by simp only [spec_PagFirst.l0]; rw [if_neg (by omega)]) (Evs.now ?_)
    unfold ppPagFirst
    rw [ppIdx_miss _ l (fun j hj => hI j hj hj)]

/-- The same slice, of the other type. -/
def ppPS (x : S116) : S84 := ⟨x.f0, x.f1, x.f2⟩
theorem pp_rdLPS {l : List S116} {i : Nat} (h : i < l.length) : rd_T116 l (i : Int) = l[i] := pp_getD l i _ h
theorem pp_toPagSliceS (l : List S116) (hl : l.length ≤ 1048576) (k : Nat) (hk : l.length < k) : laws_toPagSliceS.f k l = some (l.map ppPS) := by
  unfold laws_toPagSliceS.f
  rw [if_pos (by omega), if_pos (by omega)]
  have := pp_fill (fun k out i => laws_toPagSliceS.l0 k l out i) ppPS l z84 (fun k out i hi ho => by
      simp only [laws_toPagSliceS.l0, laws_toPagSlice.f]
      rw [if_pos (by omega), if_pos (by omega)]
      simp only [Option.bind_some]
      rw [if_pos (by omega), pp_rdLPS hi, pp_wrap_id _ (by omega) (by omega)]
      rfl)
    (fun k out => by
      simp only [laws_toPagSliceS.l0]
      rw [if_neg (by omega)]) k hk
  simpa using this
theorem pp_eqPagSliceS (l : List S84) (hl : l.length ≤ 1048576) (k : Nat) (hk : l.length < k) : laws_eqPagSliceS.f k l l = some true := by
  unfold laws_eqPagSliceS.f
  rw [if_pos rfl]
  exact pp_lpE (fun k (_ : Unit) i => laws_eqPagSliceS.l0 k l l i) l.length (fun _ => ()) true
    (fun k i hi => by
      simp only [laws_eqPagSliceS.l0, laws_eqPagSlice.f]
      rw [if_pos (by omega), if_pos (by omega), if_pos (by omega), pp_wrap_id _ (by omega) (by omega)]
      simp)
    (fun k => by
      simp only [laws_eqPagSliceS.l0]
      rw [if_neg (by omega)]) k hk
theorem pp_szPagSliceS (l : List S116) (hl : l.length ≤ 9223372036854775807) (n : Int) (h0 : 0 ≤ n) (hn : n ≤ 1048576) : laws_szPagSliceS.f l n = some (if n < (l.length : Int) then -1 else n - (l.length : Int)) := by
  unfold laws_szPagSliceS.f
  rw [pp_wrap_id _ (by omega) (by omega)]
  by_cases h : n < (l.length : Int)
  · rw [if_pos (by omega), if_pos h]
  · rw [if_neg (by omega), if_neg h]

theorem pp_rdLPP {l : List (List S116)} {i : Nat} (h : i < l.length) : rd_L2 l (i : Int) = l[i] := pp_getD l i _ h
theorem pp_rdIPP {l : List (List S84)} {i : Nat} (h : i < l.length) : rd_L4 l (i : Int) = l[i] := pp_getD l i _ h
/-- What is left of n, if all pages and slices are taken from it: -1, if it does not reach. -/
theorem pp_szPagSliceSS (l : List (List S116)) (hl : l.length ≤ 9223372036854775807) (hx : ∀ x ∈ l, x.length ≤ 9223372036854775807) :
    Evs (fun k => laws_szPagSliceSS.f k l 1048576) (fun r => r < 0 ∨ (l.length ≤ 1048576 ∧ ∀ x ∈ l, x.length ≤ 1048576)) := by
  unfold laws_szPagSliceSS.f
  rw [pp_wrap_id _ (by omega) (by omega)]
  refine Evs.ite (fun _ => Evs.now (.inl (by omega))) (fun h0 => ?_)
  refine Evs.up (fun k (s : Int) i => laws_szPagSliceSS.l0 k l s i) l.length (fun i s => 0 ≤ s ∧ s ≤ 1048576 ∧ ∀ j (hj : j < l.length), j < i → l[j].length ≤ 1048576) _ ?_ ?_ _ ⟨by omega, by omega, fun j _ h => absurd h (Nat.not_lt_zero _)⟩
  · intro s i hi ⟨h1, h2, h3⟩ hn
    refine Evs.step (fun k => by simp only [laws_szPagSliceSS.l0]; rw [if_pos (by omega), if_pos (by omega), pp_rdLPP hi, pp_szPagSliceS _ (hx _ (List.getElem_mem hi)) s h1 h2, pp_wrap_id ((i : Int) + 1) (by omega) (by omega)]; try rfl) ?_
    simp only [Option.bind_some]
    by_cases hlt : s < (l[i].length : Int)
    · rw [if_pos hlt]
      exact Evs.pos (by omega) (Evs.now (.inl (by omega)))
    · rw [if_neg hlt]
      refine Evs.neg (by omega) (hn _ ⟨by omega, by omega, fun j hj hji => ?_⟩)
      by_cases e : j = i
      · subst e; omega
      · exact h3 j hj (by omega)
  · intro s ⟨h1, h2, h3⟩
    refine Evs.step (f := fun _ => some s) (fun k => by simp only [laws_szPagSliceSS.l0]; rw [if_neg (by omega)]) (Evs.now (.inr ⟨by omega, fun x hxm => ?_⟩))
    obtain ⟨j, hj, rfl⟩ := List.getElem_of_mem hxm
    exact h3 j hj hj
theorem pp_toPagSliceSS (l : List (List S116)) (hl : l.length ≤ 1048576) (hx : ∀ x ∈ l, x.length ≤ 1048576) : Evs (fun k => laws_toPagSliceSS.f k l) (fun r => r = l.map fun x => x.map ppPS) := by
  unfold laws_toPagSliceSS.f
  refine Evs.pos (by omega) (Evs.pos (by omega) ?_)
  refine Evs.up (fun k (s : List (List S84)) i => laws_toPagSliceSS.l0 k l s i) l.length (fun i out => out.length = l.length ∧ out.take i = (l.map fun x => x.map ppPS).take i) _ ?_ ?_ _ ⟨by simp, by simp⟩
  · intro s i hi ⟨h1, h2⟩ hn
    have hxi := hx _ (List.getElem_mem hi)
    refine Evs.step (fun k => by simp only [laws_toPagSliceSS.l0]; rw [if_pos (by omega), if_pos (by omega), pp_rdLPP hi, pp_wrap_id ((i : Int) + 1) (by omega) (by omega)]; try rfl) ?_
    refine Evs.bnd (Evs.of (l[i].length + 1) fun k hk => pp_toPagSliceS l[i] hxi k (by omega)) ?_
    rintro _ rfl
    refine Evs.pos (by omega) (hn _ ⟨by simpa using h1, ?_⟩)
    rw [Int.toNat_natCast, List.take_succ_eq_append_getElem (by simpa [h1] using hi), List.take_succ_eq_append_getElem (by simpa using hi), List.take_set_of_le (by omega), h2]
    simp
  · intro s ⟨h1, h2⟩
    refine Evs.step (f := fun _ => some s) (fun k => by simp only [laws_toPagSliceSS.l0]; rw [if_neg (by omega)]) (Evs.now ?_)
    rw [List.take_of_length_le (by omega), List.take_of_length_le (by simp)] at h2
    exact h2
theorem pp_eqPagSliceSS (l : List (List S84)) (hl : l.length ≤ 1048576) (hx : ∀ x ∈ l, x.length ≤ 1048576) : Evs (fun k => laws_eqPagSliceSS.f k l l) (fun r => r = true) := by
  unfold laws_eqPagSliceSS.f
  refine Evs.pos rfl ?_
  refine Evs.up (fun k (_ : Unit) i => laws_eqPagSliceSS.l0 k l l i) l.length (fun _ _ => True) _ ?_ ?_ () trivial
  · intro s i hi _ hn
    have hxi := hx _ (List.getElem_mem hi)
    refine Evs.step (fun k => by simp only [laws_eqPagSliceSS.l0]; rw [if_pos (by omega), if_pos (by omega), if_pos (by omega), pp_rdIPP hi, pp_wrap_id ((i : Int) + 1) (by omega) (by omega)]; try rfl) ?_
    refine Evs.bnd (Evs.of (l[i].length + 1) fun k hk => pp_eqPagSliceS l[i] hxi k (by omega)) ?_
    rintro _ rfl
    exact Evs.pos rfl (hn () trivial)
  · intro s _
    exact Evs.step (f := fun _ => some true) (fun k => by simp only [laws_eqPagSliceSS.l0]; rw [if_neg (by omega)]) (Evs.now rfl)

theorem FnExactPagFirst : ∀ (l0 : List (List (S116))) (a1 : Int), (l0.length ≤ 9223372036854775807 ∧ ∀ (x : List (S116)), x ∈ l0 → x.length ≤ 9223372036854775807 ∧ ∀ (y : S116), y ∈ x → (((Lit.int .i64 y.f0).wf = true) ∧ (((Lit.int .i64 y.f1).wf = true) ∧ ((Lit.int .i64 y.f2).wf = true)))) → ((Lit.int .i64 a1).wf = true) → ∃ k, laws_FnExactPagFirst.f k l0 a1 = some true := by
  intro l row ⟨hl, hw⟩ _
  refine Evs.ends ?_
  unfold laws_FnExactPagFirst.f
  refine Evs.bnd (pp_szPagSliceSS l hl (fun x hx => (hw x hx).1)) ?_
  intro n hn
  refine Evs.ite (fun _ => Evs.now rfl) (fun h0 => ?_)
  obtain ⟨h1, h2⟩ := hn.resolve_left h0
  refine Evs.bnd (pp_toPagSliceSS l h1 h2) ?_
  rintro _ rfl
  have g1 : (l.map fun x => x.map ppPS).length ≤ 1048576 := by simpa using h1
  have g2 : ∀ x ∈ (l.map fun x => x.map ppPS), x.length ≤ 1048576 := by
    intro x hx
    obtain ⟨y, hy, rfl⟩ := List.mem_map.1 hx
    simpa using h2 y hy
  refine Evs.bnd (pp_specPagFirst _ row (by omega) (fun x hx => by have := g2 x hx; omega)) ?_
  rintro _ rfl
  refine Evs.bnd (pp_toPagSliceSS l h1 h2) ?_
  rintro _ rfl
  refine Evs.bnd (Evs.of (r := ppPagFirst (l.map fun x => x.map ppPS) row) 0 fun k _ => rfl) ?_
  rintro _ rfl
  refine Evs.pos rfl ?_
  refine Evs.bnd (pp_toPagSliceSS l h1 h2) ?_
  rintro _ rfl
  refine Evs.bnd (pp_eqPagSliceSS _ g1 g2) ?_
  rintro _ rfl
  exact Evs.pos rfl (Evs.now rfl)

end Go.Proofs.Ytfcacpbblkahdaa.Pure
