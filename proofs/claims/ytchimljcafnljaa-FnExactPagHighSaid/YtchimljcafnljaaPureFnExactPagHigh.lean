/-
  impl.PagHigh answers what spec.PagHigh answers, at all slices: what all are high, as Go's 64-bit sum.
  Conditions: none but those of the statement.
-/
import Derived.Test.YtchimljcafnljaaPFnExactPagHighx2
namespace Go.Proofs.Ytchimljcafnljaa.Pure
open Go.RowKit Go.Proofs.Ytchimljcafnljaa.PFnExactPagHigh Go.Proofs.YtchimljcafnljaaW.PrintWords Go.Proofs.YtchimljcafnljaaW.PrintLast Go.Proofs.YtchimljcafnljaaW.PrintMore

theorem pp_wrap_l (a b : Int) : wrap64 (wrap64 a + b) = wrap64 (a + b) := by unfold wrap64; omega
theorem pp_wrap_r (a b : Int) : wrap64 (a + wrap64 b) = wrap64 (a + b) := by unfold wrap64; omega
theorem pp_wrap_id (a : Int) (h : -9223372036854775808 ≤ a) (h' : a ≤ 9223372036854775807) : wrap64 a = a := by unfold wrap64; omega
theorem pp_wrap_0 : wrap64 0 = 0 := by unfold wrap64; omega
theorem pp_wf (a : Int) (h : (Lit.int .i64 a).wf = true) : -9223372036854775808 ≤ a ∧ a ≤ 9223372036854775807 := by
  simp [Lit.wf, IntKind.min, IntKind.max, IntKind.signed, IntKind.bits] at h; omega

/-- A loop that counts up: rounds keep Inv or leave with Post; at the end it leaves with Post. -/
theorem pp_lp {σ ρ : Type} (E : Nat → σ → Int → Option ρ) (n : Nat) (Inv : Nat → σ → Prop) (Post : ρ → Prop)
    (hs : ∀ k s (i : Nat), i < n → Inv i s → (∃ s', Inv (i + 1) s' ∧ E (k + 1) s (i : Int) = E k s' ((i : Int) + 1)) ∨ ∃ r, Post r ∧ E (k + 1) s (i : Int) = some r)
    (he : ∀ k s, Inv n s → ∃ r, Post r ∧ E (k + 1) s (n : Int) = some r) :
    ∀ (d i : Nat) (s : σ) (k : Nat), n - i = d → i ≤ n → Inv i s → d < k → ∃ r, Post r ∧ E k s (i : Int) = some r := by
  intro d
  induction d with
  | zero =>
    intro i s k hd hi hI hk
    obtain ⟨k, rfl⟩ : ∃ m, k = m + 1 := ⟨k - 1, by omega⟩
    obtain rfl : i = n := by omega
    exact he k s hI
  | succ d ih =>
    intro i s k hd hi hI hk
    obtain ⟨k, rfl⟩ : ∃ m, k = m + 1 := ⟨k - 1, by omega⟩
    rcases hs k s i (by omega) hI with ⟨s', hI', he'⟩ | h
    · obtain ⟨r, hr, e⟩ := ih (i + 1) s' k (by omega) (by omega) hI' (by omega)
      exact ⟨r, hr, by rw [he']; simpa using e⟩
    · exact h
/-- .. whose state is known at each place. -/
theorem pp_lpE {σ ρ : Type} (E : Nat → σ → Int → Option ρ) (n : Nat) (st : Nat → σ) (r : ρ)
    (hs : ∀ k (i : Nat), i < n → E (k + 1) (st i) (i : Int) = E k (st (i + 1)) ((i : Int) + 1)) (he : ∀ k, E (k + 1) (st n) (n : Int) = some r) (k : Nat) (hk : n < k) : E k (st 0) 0 = some r := by
  obtain ⟨q, hq, h⟩ := pp_lp E n (fun i s => s = st i) (fun q => q = r) (fun k s i hi h => .inl ⟨st (i + 1), rfl, by rw [h]; exact hs k i hi⟩) (fun k s h => ⟨r, rfl, by rw [h]; exact he k⟩) n 0 (st 0) k (by omega) (by omega) rfl hk
  rw [← hq]; simpa using h
/-- .. that fills a row. -/
theorem pp_fill {α β : Type} (L : Nat → List β → Int → Option (List β)) (g : α → β) (xs : List α) (z : β)
    (hs : ∀ k out (i : Nat) (h : i < xs.length), out.length = xs.length → L (k + 1) out (i : Int) = L k (out.set i (g xs[i])) ((i : Int) + 1)) (he : ∀ k out, L (k + 1) out (xs.length : Int) = some out)
    (k : Nat) (hk : xs.length < k) : L k (List.replicate xs.length z) 0 = some (xs.map g) := by
  obtain ⟨r, hr, h⟩ := pp_lp L xs.length (fun i out => out.length = xs.length ∧ out.take i = (xs.map g).take i) (fun r => r = xs.map g)
    (fun k out i hi ⟨h1, h2⟩ => .inl ⟨out.set i (g xs[i]), ⟨by simpa using h1, by
      rw [List.take_succ_eq_append_getElem (by simpa [h1] using hi), List.take_succ_eq_append_getElem (by simpa using hi), List.take_set_of_le (by omega), h2]
      simp⟩, hs k out i hi h1⟩)
    (fun k out ⟨h1, h2⟩ => ⟨out, by
      rw [List.take_of_length_le (by omega), List.take_of_length_le (by simp)] at h2
      exact h2, he k out⟩) xs.length 0 (List.replicate xs.length z) k (by omega) (by omega) ⟨by simp, by simp⟩ hk
  rw [← hr]; simpa using h
theorem pp_getD {α : Type} (l : List α) (i : Nat) (z : α) (h : i < l.length) : l.getD (i : Int).toNat z = l[i] := by
  simp [List.getD_eq_getElem?_getD, List.getElem?_eq_getElem h]
theorem pp_rd {l : List Int} {i : Nat} (h : i < l.length) : rd l (i : Int) = l[i] := pp_getD l i 0 h

/-- How high slices are together. -/
def ppHigh (l : List S48) : Int := (l.map fun s => s.f2 - s.f1).sum
theorem pp_high_take (l : List S48) (i : Nat) (h : i < l.length) : ppHigh (l.take (i + 1)) = ppHigh (l.take i) + (l[i].f2 - l[i].f1) := by
  unfold ppHigh
  rw [List.take_succ_eq_append_getElem h, List.map_append, List.sum_append]
  simp
theorem pp_rdPS {l : List S48} {i : Nat} (h : i < l.length) : rd_T48 l (i : Int) = l[i] := pp_getD l i _ h
theorem pp_implPagHigh (l : List S48) (hl : l.length ≤ 9223372036854775807) (k : Nat) (hk : l.length < k) : impl_PagHigh.f k l = some (wrap64 (ppHigh l)) := by
  unfold impl_PagHigh.f
  have := pp_lpE (fun k (s : Int) i => impl_PagHigh.l0 k s l (l.length : Int) i) l.length (fun i => wrap64 (ppHigh (l.take i))) (wrap64 (ppHigh l))
    (fun k i hi => by
      simp only [impl_PagHigh.l0]
      rw [if_pos (by omega), if_pos (by omega), if_pos (by omega), pp_rdPS hi, pp_wrap_id ((i : Int) + 1) (by omega) (by omega), pp_wrap_r, pp_wrap_l, pp_high_take l i hi])
    (fun k => by
      simp only [impl_PagHigh.l0]
      rw [if_neg (by omega), List.take_of_length_le (by omega)]) k hk
  simpa [ppHigh, pp_wrap_0] using this
theorem pp_specPagHigh (l : List S48) (hl : l.length ≤ 9223372036854775807) (k : Nat) (hk : l.length < k) : spec_PagHigh.f k l = some (wrap64 (ppHigh l)) := by
  unfold spec_PagHigh.f spec_l9High.f
  have := pp_lpE (fun k (s : Int) i => spec_l9High.l0 k l s i) l.length (fun i => wrap64 (ppHigh (l.take i))) (wrap64 (ppHigh l))
    (fun k i hi => by
      simp only [spec_l9High.l0]
      rw [if_pos (by omega), if_pos (by omega), pp_rdPS hi, pp_wrap_id ((i : Int) + 1) (by omega) (by omega), pp_high_take l i hi]
      congr 1
      unfold wrap64
      omega)
    (fun k => by
      simp only [spec_l9High.l0]
      rw [if_neg (by omega), List.take_of_length_le (by omega)]) k hk
  have e : spec_l9High.l0 k l 0 0 = some (wrap64 (ppHigh l)) := by simpa [ppHigh, pp_wrap_0] using this
  rw [e]
  rfl

/-- The same slice, of the other type. -/
def ppPS (x : S75) : S48 := ⟨x.f0, x.f1, x.f2⟩
theorem pp_rdLPS {l : List S75} {i : Nat} (h : i < l.length) : rd_T75 l (i : Int) = l[i] := pp_getD l i _ h
theorem pp_toPagSliceS (l : List S75) (hl : l.length ≤ 1048576) (k : Nat) (hk : l.length < k) : laws_toPagSliceS.f k l = some (l.map ppPS) := by
  unfold laws_toPagSliceS.f
  rw [if_pos (by omega), if_pos (by omega)]
  have := pp_fill (fun k out i => laws_toPagSliceS.l0 k l out i) ppPS l z48 (fun k out i hi ho => by
      simp only [laws_toPagSliceS.l0, laws_toPagSlice.f]
      rw [if_pos (by omega), if_pos (by omega)]
      simp only [Option.bind_some]
      rw [if_pos (by omega), pp_rdLPS hi, pp_wrap_id _ (by omega) (by omega)]
      rfl)
    (fun k out => by
      simp only [laws_toPagSliceS.l0]
      rw [if_neg (by omega)]) k hk
  simpa using this
theorem pp_eqPagSliceS (l : List S48) (hl : l.length ≤ 1048576) (k : Nat) (hk : l.length < k) : laws_eqPagSliceS.f k l l = some true := by
  unfold laws_eqPagSliceS.f
  rw [if_pos rfl]
  exact pp_lpE (fun k (_ : Unit) i => laws_eqPagSliceS.l0 k l l i) l.length (fun _ => ()) true
    (fun k i hi => by
      simp only [laws_eqPagSliceS.l0, laws_eqPagSlice.f]
      rw [if_pos (by omega), if_pos (by omega), if_pos (by omega), pp_wrap_id _ (by omega) (by omega)]
      simp)
    (fun k => by
      simp only [laws_eqPagSliceS.l0]
      rw [if_neg (by omega)]) k hk
theorem pp_szPagSliceS (l : List S75) (hl : l.length ≤ 9223372036854775807) (n : Int) (h0 : 0 ≤ n) (hn : n ≤ 1048576) : laws_szPagSliceS.f l n = some (if n < (l.length : Int) then -1 else n - (l.length : Int)) := by
  unfold laws_szPagSliceS.f
  rw [pp_wrap_id _ (by omega) (by omega)]
  by_cases h : n < (l.length : Int)
  · rw [if_pos (by omega), if_pos h]
  · rw [if_neg (by omega), if_neg h]

theorem FnExactPagHigh : ∀ (l0 : List (S75)), (l0.length ≤ 9223372036854775807 ∧ ∀ x ∈ l0, (((Lit.int .i64 x.f0).wf = true) ∧ (((Lit.int .i64 x.f1).wf = true) ∧ ((Lit.int .i64 x.f2).wf = true)))) → ∃ k, laws_FnExactPagHigh.f k l0 = some true := by
  intro l ⟨hl, _⟩
  refine ⟨l.length + 1, ?_⟩
  unfold laws_FnExactPagHigh.f
  rw [pp_szPagSliceS l hl _ (by omega) (by omega)]
  simp only [Option.bind_some]
  by_cases h : (1048576 : Int) < (l.length : Int)
  · rw [if_pos h, if_pos (by omega)]
  · rw [if_neg h, if_neg (by omega), pp_toPagSliceS l (by omega) _ (by omega)]
    simp only [Option.bind_some]
    rw [pp_specPagHigh _ (by simp; omega) _ (by simp), pp_implPagHigh _ (by simp; omega) _ (by simp), pp_eqPagSliceS _ (by simp; omega) _ (by simp)]
    simp only [Option.bind_some, if_true]

end Go.Proofs.Ytchimljcafnljaa.Pure
