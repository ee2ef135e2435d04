/-
  impl.BrdBest answers what spec.BrdBest answers, of every list: the first border that no other one beats; none, of cell -1, of none.
  Conditions: none but those of the statement.
-/
import Derived.Test.YtfcacpbblkahdaaPFnExactBrdBestx5
namespace Go.Proofs.Ytfcacpbblkahdaa.Pure
open Go.RowKit Go.Proofs.Ytfcacpbblkahdaa.PFnExactBrdBest Go.Proofs.YtfcacpbblkahdaaW.PrintWords Go.Proofs.YtfcacpbblkahdaaW.PrintLast Go.Proofs.YtfcacpbblkahdaaW.PrintMore
set_option linter.unusedVariables false
set_option linter.unusedSimpArgs false

theorem pp_wrap_l (a b : Int) : wrap64 (wrap64 a + b) = wrap64 (a + b) := by unfold wrap64; omega
theorem pp_wrap_r (a b : Int) : wrap64 (a + wrap64 b) = wrap64 (a + b) := by unfold wrap64; omega
theorem pp_wrap_id (a : Int) (h : -9223372036854775808 ≤ a) (h' : a ≤ 9223372036854775807) : wrap64 a = a := by unfold wrap64; omega
theorem pp_wrap_0 : wrap64 0 = 0 := by unfold wrap64; omega
theorem pp_wf (a : Int) (h : (Lit.int .i64 a).wf = true) : -9223372036854775808 ≤ a ∧ a ≤ 9223372036854775807 := by
  simp [Lit.wf, IntKind.min, IntKind.max, IntKind.signed, IntKind.bits] at h; omega

/-- A loop that counts up: rounds keep Inv or leave with Post; at the end it leaves with Post. -/
theorem pp_lp {σ ρ : Type} (E : Nat → σ → Int → Option ρ) (n : Nat) (Inv : Nat → σ → Prop) (Post : ρ → Prop)
    (hs : ∀ k s (i : Nat), i < n → Inv i s → (∃ s', Inv (i + 1) s' ∧ E (k + 1) s (i : Int) = E k s' ((i : Int) + 1)) ∨ ∃ r, Post r ∧ E (k + 1) s (i : Int) = some r)
    (he : ∀ k s, Inv n s → ∃ r, Post r ∧ E (k + 1) s (n : Int) = some r) :
    ∀ (d i : Nat) (s : σ) (k : Nat), n - i = d → i ≤ n → Inv i s → d < k → ∃ r, Post r ∧ E k s (i : Int) = some r := by
  intro d
  induction d with
  | zero =>
    intro i s k hd hi hI hk
    obtain ⟨k, rfl⟩ : ∃ m, k = m + 1 := ⟨k - 1, by omega⟩
    obtain rfl : i = n := by omega
    exact he k s hI
  | succ d ih =>
    intro i s k hd hi hI hk
    obtain ⟨k, rfl⟩ : ∃ m, k = m + 1 := ⟨k - 1, by omega⟩
    rcases hs k s i (by omega) hI with ⟨s', hI', he'⟩ | h
    · obtain ⟨r, hr, e⟩ := ih (i + 1) s' k (by omega) (by omega) hI' (by omega)
      exact ⟨r, hr, by rw [he']; simpa using e⟩
    · exact h
/-- .. whose state is known at each place. -/
theorem pp_lpE {σ ρ : Type} (E : Nat → σ → Int → Option ρ) (n : Nat) (st : Nat → σ) (r : ρ)
    (hs : ∀ k (i : Nat), i < n → E (k + 1) (st i) (i : Int) = E k (st (i + 1)) ((i : Int) + 1)) (he : ∀ k, E (k + 1) (st n) (n : Int) = some r) (k : Nat) (hk : n < k) : E k (st 0) 0 = some r := by
  obtain ⟨q, hq, h⟩ := pp_lp E n (fun i s => s = st i) (fun q => q = r) (fun k s i hi h => .inl ⟨st (i + 1), rfl, by rw [h]; exact hs k i hi⟩) (fun k s h => ⟨r, rfl, by rw [h]; exact he k⟩) n 0 (st 0) k (by omega) (by omega) rfl hk
  rw [← hq]; simpa using h
/-- .. that fills a row. -/
theorem pp_fill {α β : Type} (L : Nat → List β → Int → Option (List β)) (g : α → β) (xs : List α) (z : β)
    (hs : ∀ k out (i : Nat) (h : i < xs.length), out.length = xs.length → L (k + 1) out (i : Int) = L k (out.set i (g xs[i])) ((i : Int) + 1)) (he : ∀ k out, L (k + 1) out (xs.length : Int) = some out)
    (k : Nat) (hk : xs.length < k) : L k (List.replicate xs.length z) 0 = some (xs.map g) := by
  obtain ⟨r, hr, h⟩ := pp_lp L xs.length (fun i out => out.length = xs.length ∧ out.take i = (xs.map g).take i) (fun r => r = xs.map g)
    (fun k out i hi ⟨h1, h2⟩ => .inl ⟨out.set i (g xs[i]), ⟨by simpa using h1, by
      rw [List.take_succ_eq_append_getElem (by simpa [h1] using hi), List.take_succ_eq_append_getElem (by simpa using hi), List.take_set_of_le (by omega), h2]
      simp⟩, hs k out i hi h1⟩)
    (fun k out ⟨h1, h2⟩ => ⟨out, by
      rw [List.take_of_length_le (by omega), List.take_of_length_le (by simp)] at h2
      exact h2, he k out⟩) xs.length 0 (List.replicate xs.length z) k (by omega) (by omega) ⟨by simp, by simp⟩ hk
  rw [← hr]; simpa using h
theorem pp_getD {α : Type} (l : List α) (i : Nat) (z : α) (h : i < l.length) : l.getD (i : Int).toNat z = l[i] := by
  simp [List.getD_eq_getElem?_getD, List.getElem?_eq_getElem h]
theorem pp_rd {l : List Int} {i : Nat} (h : i < l.length) : rd l (i : Int) = l[i] := pp_getD l i 0 h

/-- With enough rounds g answers, and P holds of the answer. -/
def Evs {α : Type} (g : Nat → Option α) (P : α → Prop) : Prop := ∃ r K, P r ∧ ∀ k, K ≤ k → g k = some r
theorem Evs.now {α : Type} {P : α → Prop} {r : α} (h : P r) : Evs (fun _ => some r) P := ⟨r, 0, h, fun _ _ => rfl⟩
theorem Evs.bnd {α β : Type} {g : Nat → Option α} {f : Nat → α → Option β} {P : α → Prop} {Q : β → Prop} (h : Evs g P) (k : ∀ a, P a → Evs (fun n => f n a) Q) : Evs (fun n => (g n).bind (f n)) Q := by
  obtain ⟨a, K, hP, h⟩ := h
  obtain ⟨r, K', hQ, k⟩ := k a hP
  refine ⟨r, max K K', hQ, fun n hn => ?_⟩
  show (g n).bind (f n) = some r
  rw [h n (by omega)]
  exact k n (by omega)
theorem Evs.step {α : Type} {g f : Nat → Option α} {P : α → Prop} (h : ∀ k, g (k + 1) = f k) (k : Evs f P) : Evs g P := by
  obtain ⟨r, K, hP, k⟩ := k
  refine ⟨r, K + 1, hP, fun n hn => ?_⟩
  obtain ⟨m, rfl⟩ : ∃ m, n = m + 1 := ⟨n - 1, by omega⟩
  rw [h]
  exact k m (by omega)
theorem Evs.cong {α : Type} {g f : Nat → Option α} {P : α → Prop} (h : ∀ k, g k = f k) (k : Evs f P) : Evs g P := by
  obtain ⟨r, K, hP, k⟩ := k
  exact ⟨r, K, hP, fun n hn => (h n).trans (k n hn)⟩
theorem Evs.imp {α : Type} {g : Nat → Option α} {P Q : α → Prop} (h : Evs g P) (hq : ∀ r, P r → Q r) : Evs g Q := by
  obtain ⟨r, K, hP, k⟩ := h
  exact ⟨r, K, hq r hP, k⟩
theorem Evs.of {α : Type} {g : Nat → Option α} {r : α} (K : Nat) (h : ∀ k, K ≤ k → g k = some r) : Evs g (fun q => q = r) := ⟨r, K, rfl, h⟩
theorem Evs.ends {α : Type} {g : Nat → Option α} {r : α} (h : Evs g (fun q => q = r)) : ∃ k, g k = some r := by
  obtain ⟨q, K, rfl, k⟩ := h
  exact ⟨K, k K (Nat.le_refl _)⟩
theorem Evs.pos {α : Type} {g f : Nat → Option α} {c : Prop} [Decidable c] {P : α → Prop} (hc : c) (h : Evs g P) : Evs (fun k => if c then g k else f k) P := h.cong (fun k => if_pos hc)
theorem Evs.neg {α : Type} {g f : Nat → Option α} {c : Prop} [Decidable c] {P : α → Prop} (hc : ¬ c) (h : Evs f P) : Evs (fun k => if c then g k else f k) P := h.cong (fun k => if_neg hc)
theorem Evs.ite {α : Type} {g f : Nat → Option α} {c : Prop} [Decidable c] {P : α → Prop} (h : c → Evs g P) (h' : ¬ c → Evs f P) : Evs (fun k => if c then g k else f k) P := by
  by_cases hc : c
  · exact Evs.pos hc (h hc)
  · exact Evs.neg hc (h' hc)
/-- A loop that counts up. -/
theorem Evs.up {σ ρ : Type} (E : Nat → σ → Int → Option ρ) (n : Nat) (Inv : Nat → σ → Prop) (Post : ρ → Prop)
    (hs : ∀ s (i : Nat), i < n → Inv i s → (∀ s', Inv (i + 1) s' → Evs (fun k => E k s' ((i : Int) + 1)) Post) → Evs (fun k => E k s (i : Int)) Post)
    (he : ∀ s, Inv n s → Evs (fun k => E k s (n : Int)) Post) : ∀ s, Inv 0 s → Evs (fun k => E k s 0) Post := by
  have key : ∀ (d i : Nat) (s : σ), n - i = d → i ≤ n → Inv i s → Evs (fun k => E k s (i : Int)) Post := by
    intro d
    induction d with
    | zero =>
      intro i s hd hi hI
      obtain rfl : i = n := by omega
      exact he s hI
    | succ d ih =>
      intro i s hd hi hI
      exact hs s i (by omega) hI (fun s' hI' => by simpa using ih (i + 1) s' (by omega) (by omega) hI')
  intro s hI
  simpa using key n 0 s (by omega) (by omega) hI

/-- Whether a border beats another one. -/
def ppBeats (s1 w1 s2 w2 : Int) : Bool := if s1 = 4 ∨ s2 = 4 then decide (s1 = 4 ∧ s2 ≠ 4) else if w1 = w2 then decide (s1 > s2) else decide (w1 > w2)
theorem pp_specBeats (a b c d : Int) (k : Nat) (hk : 0 < k) : spec_BrdBeats.f k a b c d = some (ppBeats a b c d) := by
  obtain ⟨k, rfl⟩ : ∃ q, k = q + 1 := ⟨k - 1, by omega⟩
  unfold spec_BrdBeats.f ppBeats
  simp only [spec_BrdBeats.j0, if_true]
  by_cases ha : a = 4 <;> by_cases hc : c = 4 <;> by_cases h : b = d <;> simp [ha, hc, h]
theorem pp_implBeats (a b c d : Int) (k : Nat) (hk : 0 < k) : impl_BrdBeats.f k a b c d = some (ppBeats a b c d) := by
  obtain ⟨k, rfl⟩ : ∃ q, k = q + 1 := ⟨k - 1, by omega⟩
  unfold impl_BrdBeats.f ppBeats
  simp only [impl_BrdBeats.j0, if_true]
  by_cases ha : a = 4 <;> by_cases hc : c = 4 <;> by_cases h : b = d <;> simp [ha, hc, h]

theorem pp_rdBF {l : List S27} {i : Nat} (h : i < l.length) : rd_T27 l (i : Int) = l[i] := pp_getD l i _ h
/-- The better of two: the first one, if the other one does not beat it. -/
def ppBetter (a b : S27) : S27 := if ppBeats b.f0.f0 b.f0.f1 a.f0.f0 a.f0.f1 = true then b else a
theorem ppBetter_pos (a b : S27) (h : ppBeats b.f0.f0 b.f0.f1 a.f0.f0 a.f0.f1 = true) : ppBetter a b = b := if_pos h
theorem ppBetter_neg (a b : S27) (h : ¬ ppBeats b.f0.f0 b.f0.f1 a.f0.f0 a.f0.f1 = true) : ppBetter a b = a := if_neg h
/-- The best of a list. -/
def ppBest : List S27 → S27
  | [] => ⟨⟨0, 0⟩, -1⟩
  | x :: xs => xs.foldl ppBetter x
def ppT (x : S27) : Int × Int × Int := (x.f0.f0, x.f0.f1, x.f1)
theorem pp_best_take (x : S27) (xs : List S27) (i : Nat) (h : i < xs.length) : (xs.take (i + 1)).foldl ppBetter x = ppBetter ((xs.take i).foldl ppBetter x) xs[i] := by
  rw [List.take_succ_eq_append_getElem h, List.foldl_append]
  rfl
theorem ppBeats_self (a b : Int) : ppBeats a b a b = false := by
  unfold ppBeats
  by_cases h : a = 4 <;> simp [h]
theorem pp_implBest (l : List S27) (hl : l.length ≤ 9223372036854775807) : Evs (fun k => impl_BrdBest.f k l) (fun r => r = ppT (ppBest l)) := by
  unfold impl_BrdBest.f
  cases l with
  | nil => exact Evs.pos rfl (Evs.now rfl)
  | cons x xs =>
    have hL : (x :: xs).length = xs.length + 1 := rfl
    have h0 : rd_T27 (x :: xs) 0 = x := rfl
    refine Evs.neg (by omega) (Evs.pos (by omega) ?_)
    rw [h0]
    refine Evs.up (fun k (s : Int × Int × Int) i => impl_BrdBest.l0 k (x :: xs) ((x :: xs).length : Int) i s.1 s.2.1 s.2.2) (x :: xs).length (fun i s => s = ppT ((xs.take (i - 1)).foldl ppBetter x)) _ ?_ ?_ (x.f0.f0, x.f0.f1, x.f1) rfl
    · intro s i hi hI hn
      refine Evs.step (fun k => by simp only [impl_BrdBest.l0]; rw [if_pos (by omega), if_pos (by omega), if_pos (by omega), pp_rdBF hi, pp_wrap_id _ (by omega) (by omega)]; try rfl) ?_
      refine Evs.bnd (Evs.of 1 fun k hk => pp_implBeats _ _ _ _ k (by omega)) ?_
      rintro _ rfl
      by_cases hz : i = 0
      · subst hz
        rw [hI]
        refine Evs.neg (by simp [ppT, ppBeats_self]) (hn _ (by simp))
      · obtain ⟨j, rfl⟩ : ∃ j, i = j + 1 := ⟨i - 1, by omega⟩
        have hj : j < xs.length := by omega
        have e : (x :: xs)[j + 1] = xs[j] := rfl
        rw [hI, e]
        simp only [Nat.add_sub_cancel] at hn ⊢
        refine Evs.ite (fun hb => hn (xs[j].f0.f0, xs[j].f0.f1, xs[j].f1) ?_) (fun hb => hn _ ?_)
        · rw [pp_best_take x xs j hj]
          rw [ppBetter_pos _ _ hb]
          rfl
        · rw [pp_best_take x xs j hj]
          rw [ppBetter_neg _ _ hb]
    · intro s hI
      refine Evs.step (f := fun _ => some s) (fun k => by simp only [impl_BrdBest.l0]; rw [if_neg (by omega)]) (Evs.now ?_)
      rw [hI, List.take_of_length_le (by simp)]
      rfl
theorem pp_specBest (l : List S27) (hl : l.length ≤ 9223372036854775807) : Evs (fun k => spec_BrdBest.f k l) (fun r => r = ppT (ppBest l)) := by
  unfold spec_BrdBest.f
  refine Evs.up (fun k (s : Int × Int × Int) i => spec_BrdBest.l0 k l i s.1 s.2.1 s.2.2) l.length (fun i s => s = ppT (ppBest (l.take i))) _ ?_ ?_ (0, 0, -1) (by simp [ppBest, ppT])
  · intro s i hi hI hn
    refine Evs.step (fun k => by simp only [spec_BrdBest.l0]; rw [if_pos (by omega), pp_rdBF hi, pp_wrap_id _ (by omega) (by omega)]; try rfl) ?_
    refine Evs.ite (fun hz => Evs.pos (by omega) (hn (l[i].f0.f0, l[i].f0.f1, l[i].f1) ?_)) (fun hz => Evs.pos (by omega) ?_)
    · have hz' : i = 0 := by omega
      subst hz'
      rw [List.take_succ_eq_append_getElem hi]
      simp [ppBest, ppT]
    · refine Evs.bnd (Evs.of 1 fun k hk => pp_specBeats _ _ _ _ k (by omega)) ?_
      rintro _ rfl
      cases l with
      | nil => simp at hi
      | cons x xs =>
        obtain ⟨j, rfl⟩ : ∃ j, i = j + 1 := ⟨i - 1, by omega⟩
        have hj : j < xs.length := by simpa using hi
        have e : (x :: xs)[j + 1] = xs[j] := rfl
        have e1 : ppBest ((x :: xs).take (j + 1)) = (xs.take j).foldl ppBetter x := rfl
        have e2 : ppBest ((x :: xs).take (j + 1 + 1)) = (xs.take (j + 1)).foldl ppBetter x := rfl
        rw [hI, e, e1]
        refine Evs.ite (fun hb => hn (xs[j].f0.f0, xs[j].f0.f1, xs[j].f1) ?_) (fun hb => hn _ ?_)
        · rw [e2, pp_best_take x xs j hj]
          rw [ppBetter_pos _ _ hb]
          rfl
        · rw [e2, pp_best_take x xs j hj]
          rw [ppBetter_neg _ _ hb]
  · intro s hI
    refine Evs.step (f := fun _ => some s) (fun k => by simp only [spec_BrdBest.l0]; rw [if_neg (by omega)]) (Evs.now ?_)
    rw [hI, List.take_of_length_le (Nat.le_refl _)]

/-- The same border, of the other type. -/
def ppBF (x : S78) : S27 := ⟨⟨x.f0.f0, x.f0.f1⟩, x.f1⟩
theorem pp_rdLBF {l : List S78} {i : Nat} (h : i < l.length) : rd_T78 l (i : Int) = l[i] := pp_getD l i _ h
theorem pp_toBrdFromS (l : List S78) (hl : l.length ≤ 1048576) (k : Nat) (hk : l.length < k) : laws_toBrdFromS.f k l = some (l.map ppBF) := by
  unfold laws_toBrdFromS.f
  rw [if_pos (by omega), if_pos (by omega)]
  have := pp_fill (fun k out i => laws_toBrdFromS.l0 k l out i) ppBF l z27 (fun k out i hi ho => by
      simp only [laws_toBrdFromS.l0, laws_toBrdFrom.f, laws_toBrdLine.f]
      rw [if_pos (by omega), if_pos (by omega)]
      simp only [Option.bind_some]
      rw [if_pos (by omega), pp_rdLBF hi, pp_wrap_id _ (by omega) (by omega)]
      rfl)
    (fun k out => by
      simp only [laws_toBrdFromS.l0]
      rw [if_neg (by omega)]) k hk
  simpa using this
theorem pp_eqBrdFrom (a b c : Int) : laws_eqBrdFrom.f a b c a b c = some true := by
  unfold laws_eqBrdFrom.f laws_eqBrdLine.f
  simp
theorem pp_eqBrdFromS (l : List S27) (hl : l.length ≤ 1048576) (k : Nat) (hk : l.length < k) : laws_eqBrdFromS.f k l l = some true := by
  unfold laws_eqBrdFromS.f
  rw [if_pos rfl]
  exact pp_lpE (fun k (_ : Unit) i => laws_eqBrdFromS.l0 k l l i) l.length (fun _ => ()) true
    (fun k i hi => by
      simp only [laws_eqBrdFromS.l0, pp_eqBrdFrom]
      rw [if_pos (by omega), if_pos (by omega), if_pos (by omega), pp_wrap_id _ (by omega) (by omega)]
      simp)
    (fun k => by
      simp only [laws_eqBrdFromS.l0]
      rw [if_neg (by omega)]) k hk
theorem pp_szBrdFromS (l : List S78) (hl : l.length ≤ 9223372036854775807) : laws_szBrdFromS.f l 1048576 = some (if 1048576 < (l.length : Int) then -1 else 1048576 - (l.length : Int)) := by
  unfold laws_szBrdFromS.f
  rw [pp_wrap_id _ (by omega) (by omega)]
  by_cases h : 1048576 < (l.length : Int)
  · rw [if_pos (by omega), if_pos h]
  · rw [if_neg (by omega), if_neg h]

theorem FnExactBrdBest : ∀ (l0 : List (S78)), (l0.length ≤ 9223372036854775807 ∧ ∀ (x : S78), x ∈ l0 → (((((Lit.int .i64 x.f0.f0).wf = true) ∧ ((Lit.int .i64 x.f0.f1).wf = true))) ∧ ((Lit.int .i64 x.f1).wf = true))) → ∃ k, laws_FnExactBrdBest.f k l0 = some true := by
  intro l ⟨hl, _⟩
  refine Evs.ends ?_
  unfold laws_FnExactBrdBest.f
  rw [pp_szBrdFromS l hl]
  simp only [Option.bind_some]
  by_cases h : (1048576 : Int) < (l.length : Int)
  · rw [if_pos h]
    exact Evs.pos (by omega) (Evs.now rfl)
  · rw [if_neg h]
    refine Evs.neg (by omega) ?_
    have hto : Evs (fun k => laws_toBrdFromS.f k l) (fun r => r = l.map ppBF) := Evs.of (l.length + 1) fun k hk => pp_toBrdFromS l (by omega) k (by omega)
    refine Evs.bnd hto ?_
    rintro _ rfl
    refine Evs.bnd (pp_specBest _ (by simp; omega)) ?_
    rintro _ rfl
    refine Evs.bnd hto ?_
    rintro _ rfl
    refine Evs.bnd (pp_implBest _ (by simp; omega)) ?_
    rintro _ rfl
    rw [pp_eqBrdFrom]
    simp only [Option.bind_some]
    refine Evs.pos trivial (Evs.bnd hto ?_)
    rintro _ rfl
    refine Evs.bnd (Evs.of (l.length + 1) fun k hk => pp_eqBrdFromS _ (by simp; omega) k (by simp; omega)) ?_
    rintro _ rfl
    exact Evs.pos rfl (Evs.now rfl)

end Go.Proofs.Ytfcacpbblkahdaa.Pure
