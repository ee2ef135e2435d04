/-
  impl.QryRange answers what spec.QryRange answers, of every grid and every two cells: passes over the cells until nothing turns.
  Conditions: none but those of the statement.
-/
import Derived.Test.YtobpcokoahgpdaaQlawsFnExactQryRange
namespace Go.Proofs.Ytobpcokoahgpdaa.Pure
open Go.RowKit Go.Proofs.Ytobpcokoahgpdaa.Q Go.Proofs.YtobpcokoahgpdaaW.PrintWords Go.Proofs.YtobpcokoahgpdaaW.PrintLast Go.Proofs.YtobpcokoahgpdaaW.PrintMore
set_option linter.unusedVariables false
set_option linter.unusedSimpArgs false

theorem pp_wrap_l (a b : Int) : wrap64 (wrap64 a + b) = wrap64 (a + b) := by unfold wrap64; omega
theorem pp_wrap_r (a b : Int) : wrap64 (a + wrap64 b) = wrap64 (a + b) := by unfold wrap64; omega
theorem pp_wrap_id (a : Int) (h : -9223372036854775808 ≤ a) (h' : a ≤ 9223372036854775807) : wrap64 a = a := by unfold wrap64; omega
theorem pp_wrap_0 : wrap64 0 = 0 := by unfold wrap64; omega
theorem pp_wf (a : Int) (h : (Lit.int .i64 a).wf = true) : -9223372036854775808 ≤ a ∧ a ≤ 9223372036854775807 := by
  simp [Lit.wf, IntKind.min, IntKind.max, IntKind.signed, IntKind.bits] at h; omega
theorem pp_wfi (a : Int) (h : -9223372036854775808 ≤ a) (h' : a ≤ 9223372036854775807) : (Lit.int .i64 a).wf = true := by
  simp [Lit.wf, IntKind.min, IntKind.max, IntKind.signed, IntKind.bits]; omega

/-- With enough rounds g answers, and P holds of the answer. -/
def Evs {α : Type} (g : Nat → Option α) (P : α → Prop) : Prop := ∃ r K, P r ∧ ∀ k, K ≤ k → g k = some r
theorem Evs.now {α : Type} {P : α → Prop} {r : α} (h : P r) : Evs (fun _ => some r) P := ⟨r, 0, h, fun _ _ => rfl⟩
theorem Evs.bnd {α β : Type} {g : Nat → Option α} {f : Nat → α → Option β} {P : α → Prop} {Q : β → Prop} (h : Evs g P) (k : ∀ a, P a → Evs (fun n => f n a) Q) : Evs (fun n => (g n).bind (f n)) Q := by
  obtain ⟨a, K, hP, h⟩ := h
  obtain ⟨r, K', hQ, k⟩ := k a hP
  refine ⟨r, max K K', hQ, fun n hn => ?_⟩
  show (g n).bind (f n) = some r
  rw [h n (by omega)]
  exact k n (by omega)
theorem Evs.step {α : Type} {g f : Nat → Option α} {P : α → Prop} (h : ∀ k, g (k + 1) = f k) (k : Evs f P) : Evs g P := by
  obtain ⟨r, K, hP, k⟩ := k
  refine ⟨r, K + 1, hP, fun n hn => ?_⟩
  obtain ⟨m, rfl⟩ : ∃ m, n = m + 1 := ⟨n - 1, by omega⟩
  rw [h]
  exact k m (by omega)
theorem Evs.cong {α : Type} {g f : Nat → Option α} {P : α → Prop} (h : ∀ k, g k = f k) (k : Evs f P) : Evs g P := by
  obtain ⟨r, K, hP, k⟩ := k
  exact ⟨r, K, hP, fun n hn => (h n).trans (k n hn)⟩
theorem Evs.imp {α : Type} {g : Nat → Option α} {P Q : α → Prop} (h : Evs g P) (hq : ∀ r, P r → Q r) : Evs g Q := by
  obtain ⟨r, K, hP, k⟩ := h
  exact ⟨r, K, hq r hP, k⟩
theorem Evs.of {α : Type} {g : Nat → Option α} {r : α} (K : Nat) (h : ∀ k, K ≤ k → g k = some r) : Evs g (fun q => q = r) := ⟨r, K, rfl, h⟩
theorem Evs.ends {α : Type} {g : Nat → Option α} {r : α} (h : Evs g (fun q => q = r)) : ∃ k, g k = some r := by
  obtain ⟨q, K, rfl, k⟩ := h
  exact ⟨K, k K (Nat.le_refl _)⟩
theorem Evs.pos {α : Type} {g f : Nat → Option α} {c : Prop} [Decidable c] {P : α → Prop} (hc : c) (h : Evs g P) : Evs (fun k => if c then g k else f k) P := h.cong (fun k => if_pos hc)
theorem Evs.neg {α : Type} {g f : Nat → Option α} {c : Prop} [Decidable c] {P : α → Prop} (hc : ¬ c) (h : Evs f P) : Evs (fun k => if c then g k else f k) P := h.cong (fun k => if_neg hc)
theorem Evs.ite {α : Type} {g f : Nat → Option α} {c : Prop} [Decidable c] {P : α → Prop} (h : c → Evs g P) (h' : ¬ c → Evs f P) : Evs (fun k => if c then g k else f k) P := by
  by_cases hc : c
  · exact Evs.pos hc (h hc)
  · exact Evs.neg hc (h' hc)
/-- A loop that counts up. -/
theorem Evs.up {σ ρ : Type} (E : Nat → σ → Int → Option ρ) (n : Nat) (Inv : Nat → σ → Prop) (Post : ρ → Prop)
    (hs : ∀ s (i : Nat), i < n → Inv i s → (∀ s', Inv (i + 1) s' → Evs (fun k => E k s' ((i : Int) + 1)) Post) → Evs (fun k => E k s (i : Int)) Post)
    (he : ∀ s, Inv n s → Evs (fun k => E k s (n : Int)) Post) : ∀ s, Inv 0 s → Evs (fun k => E k s 0) Post := by
  have key : ∀ (d i : Nat) (s : σ), n - i = d → i ≤ n → Inv i s → Evs (fun k => E k s (i : Int)) Post := by
    intro d
    induction d with
    | zero =>
      intro i s hd hi hI
      obtain rfl : i = n := by omega
      exact he s hI
    | succ d ih =>
      intro i s hd hi hI
      exact hs s i (by omega) hI (fun s' hI' => by simpa using ih (i + 1) s' (by omega) (by omega) hI')
  intro s hI
  simpa using key n 0 s (by omega) (by omega) hI

/-- A loop that counts up: rounds keep Inv or leave with Post; at the end it leaves with Post. -/
theorem pp_lp {σ ρ : Type} (E : Nat → σ → Int → Option ρ) (n : Nat) (Inv : Nat → σ → Prop) (Post : ρ → Prop)
    (hs : ∀ k s (i : Nat), i < n → Inv i s → (∃ s', Inv (i + 1) s' ∧ E (k + 1) s (i : Int) = E k s' ((i : Int) + 1)) ∨ ∃ r, Post r ∧ E (k + 1) s (i : Int) = some r)
    (he : ∀ k s, Inv n s → ∃ r, Post r ∧ E (k + 1) s (n : Int) = some r) :
    ∀ (d i : Nat) (s : σ) (k : Nat), n - i = d → i ≤ n → Inv i s → d < k → ∃ r, Post r ∧ E k s (i : Int) = some r := by
  intro d
  induction d with
  | zero =>
    intro i s k hd hi hI hk
    obtain ⟨k, rfl⟩ : ∃ m, k = m + 1 := ⟨k - 1, by omega⟩
    obtain rfl : i = n := by omega
    exact he k s hI
  | succ d ih =>
    intro i s k hd hi hI hk
    obtain ⟨k, rfl⟩ : ∃ m, k = m + 1 := ⟨k - 1, by omega⟩
    rcases hs k s i (by omega) hI with ⟨s', hI', he'⟩ | h
    · obtain ⟨r, hr, e⟩ := ih (i + 1) s' k (by omega) (by omega) hI' (by omega)
      exact ⟨r, hr, by rw [he']; simpa using e⟩
    · exact h
/-- .. whose state is known at each place. -/
theorem pp_lpE {σ ρ : Type} (E : Nat → σ → Int → Option ρ) (n : Nat) (st : Nat → σ) (r : ρ)
    (hs : ∀ k (i : Nat), i < n → E (k + 1) (st i) (i : Int) = E k (st (i + 1)) ((i : Int) + 1)) (he : ∀ k, E (k + 1) (st n) (n : Int) = some r) (k : Nat) (hk : n < k) : E k (st 0) 0 = some r := by
  obtain ⟨q, hq, h⟩ := pp_lp E n (fun i s => s = st i) (fun q => q = r) (fun k s i hi h => .inl ⟨st (i + 1), rfl, by rw [h]; exact hs k i hi⟩) (fun k s h => ⟨r, rfl, by rw [h]; exact he k⟩) n 0 (st 0) k (by omega) (by omega) rfl hk
  rw [← hq]; simpa using h
/-- .. that fills a row. -/
theorem pp_fill {α β : Type} (L : Nat → List β → Int → Option (List β)) (g : α → β) (xs : List α) (z : β)
    (hs : ∀ k out (i : Nat) (h : i < xs.length), out.length = xs.length → L (k + 1) out (i : Int) = L k (out.set i (g xs[i])) ((i : Int) + 1)) (he : ∀ k out, L (k + 1) out (xs.length : Int) = some out)
    (k : Nat) (hk : xs.length < k) : L k (List.replicate xs.length z) 0 = some (xs.map g) := by
  obtain ⟨r, hr, h⟩ := pp_lp L xs.length (fun i out => out.length = xs.length ∧ out.take i = (xs.map g).take i) (fun r => r = xs.map g)
    (fun k out i hi ⟨h1, h2⟩ => .inl ⟨out.set i (g xs[i]), ⟨by simpa using h1, by
      rw [List.take_succ_eq_append_getElem (by simpa [h1] using hi), List.take_succ_eq_append_getElem (by simpa using hi), List.take_set_of_le (by omega), h2]
      simp⟩, hs k out i hi h1⟩)
    (fun k out ⟨h1, h2⟩ => ⟨out, by
      rw [List.take_of_length_le (by omega), List.take_of_length_le (by simp)] at h2
      exact h2, he k out⟩) xs.length 0 (List.replicate xs.length z) k (by omega) (by omega) ⟨by simp, by simp⟩ hk
  rw [← hr]; simpa using h
theorem pp_getD {α : Type} (l : List α) (i : Nat) (z : α) (h : i < l.length) : l.getD (i : Int).toNat z = l[i] := by
  simp [List.getD_eq_getElem?_getD, List.getElem?_eq_getElem h]
theorem pp_rd {l : List Int} {i : Nat} (h : i < l.length) : rd l (i : Int) = l[i] := pp_getD l i 0 h

theorem pp_rdc {l : List S27} {i : Nat} (h : i < l.length) : rd_T27 l (i : Int) = l[i] := pp_getD l i _ h
/-- The cell lies in a grid of so many rows and columns. -/
def ppLies (a b : Int) (x : S27) : Prop := 0 ≤ x.f0 ∧ x.f0 ≤ a - 1 ∧ 0 ≤ x.f1 ∧ x.f1 ≤ b - 1 ∧ 1 ≤ x.f2 ∧ x.f2 ≤ a - x.f0 ∧ 1 ≤ x.f3 ∧ x.f3 ≤ b - x.f1 ∧ 0 ≤ x.f4 ∧ x.f4 ≤ 4
/-- Two cells share a slot. -/
def ppMeet (x y : S27) : Prop := x.f0 < y.f0 + y.f2 ∧ y.f0 < x.f0 + x.f2 ∧ x.f1 < y.f1 + y.f3 ∧ y.f1 < x.f1 + x.f3
/-- The grid is ok. -/
def ppGood (a b : Int) (l : List S27) : Prop := (1 ≤ a ∧ a ≤ 8) ∧ (1 ≤ b ∧ b ≤ 94) ∧ l.length ≤ 40 ∧ (∀ x ∈ l, ppLies a b x) ∧ l.Pairwise (fun x y => ¬ ppMeet x y)
theorem ppMeet_comm (x y : S27) : ppMeet x y ↔ ppMeet y x := by unfold ppMeet; omega
theorem pp_meetS (a b : Int) (x y : S27) (ha : 1 ≤ a ∧ a ≤ 8) (hb : 1 ≤ b ∧ b ≤ 94) (hx : ppLies a b x) (hy : ppLies a b y) : ∃ r, spec_l3Meets.f x.f0 x.f1 x.f2 x.f3 x.f4 y.f0 y.f1 y.f2 y.f3 y.f4 = some r ∧ (r = true ↔ ppMeet x y) := by
  unfold ppLies at hx hy
  unfold spec_l3Meets.f ppMeet
  rw [pp_wrap_id (y.f0 + y.f2) (by omega) (by omega), pp_wrap_id (x.f0 + x.f2) (by omega) (by omega), pp_wrap_id (y.f1 + y.f3) (by omega) (by omega), pp_wrap_id (x.f1 + x.f3) (by omega) (by omega)]
  split
  · split
    · split
      · exact ⟨_, rfl, by simp; omega⟩
      · exact ⟨_, rfl, by simp; omega⟩
    · exact ⟨_, rfl, by simp; omega⟩
  · exact ⟨_, rfl, by simp; omega⟩
theorem pp_meetI (a b : Int) (x y : S27) (ha : 1 ≤ a ∧ a ≤ 8) (hb : 1 ≤ b ∧ b ≤ 94) (hx : ppLies a b x) (hy : ppLies a b y) : ppMeetB x y = true ↔ ppMeet x y := by
  unfold ppLies at hx hy
  unfold ppMeetB impl_GrdCell_meets.f ppMeet
  rw [pp_wrap_id (y.f0 + y.f2) (by omega) (by omega), pp_wrap_id (x.f0 + x.f2) (by omega) (by omega), pp_wrap_id (y.f1 + y.f3) (by omega) (by omega), pp_wrap_id (x.f1 + x.f3) (by omega) (by omega)]
  split
  · split
    · split
      · simp; omega
      · simp; omega
    · simp; omega
  · simp; omega
/-- Cells of l up to i: they lie in the grid, none meets one ahead of it. -/
def ppTo (a b : Int) (l : List S27) (i : Nat) : Prop := (∀ x ∈ l.take i, ppLies a b x) ∧ (l.take i).Pairwise (fun x y => ¬ ppMeet x y)
theorem ppTo_succ (a b : Int) (l : List S27) (i : Nat) (h : i < l.length) : ppTo a b l (i + 1) ↔ ppTo a b l i ∧ ppLies a b l[i] ∧ ∀ y ∈ l.take i, ¬ ppMeet y l[i] := by
  unfold ppTo
  rw [List.take_succ_eq_append_getElem h, List.pairwise_append]
  simp only [List.mem_append, List.mem_singleton, List.pairwise_singleton, true_and]
  constructor
  · rintro ⟨h1, h2, h3⟩
    exact ⟨⟨fun x hx => h1 x (.inl hx), h2⟩, h1 _ (.inr rfl), fun y hy => h3 y hy _ rfl⟩
  · rintro ⟨⟨h1, h2⟩, h3, h4⟩
    exact ⟨fun x hx => by rcases hx with hx | rfl; exact h1 x hx; exact h3, h2, fun y hy z hz => by subst hz; exact h4 y hy⟩
theorem ppTo_mono (a b : Int) (l : List S27) {i j : Nat} (h : i ≤ j) (hj : ppTo a b l j) : ppTo a b l i := by
  have e : l.take i = (l.take j).take i := by rw [List.take_take, Nat.min_eq_left h]
  unfold ppTo
  rw [e]
  exact ⟨fun x hx => hj.1 x (List.mem_of_mem_take hx), hj.2.sublist (List.take_sublist _ _)⟩
theorem ppTo_all (a b : Int) (l : List S27) : ppTo a b l l.length ↔ (∀ x ∈ l, ppLies a b x) ∧ l.Pairwise (fun x y => ¬ ppMeet x y) := by unfold ppTo; rw [List.take_length]
theorem pp_inE (x c d : Int) : spec_l1In.f x c d = some (decide (c ≤ x ∧ x ≤ d)) := by
  unfold spec_l1In.f
  split
  · congr 1; rw [Bool.eq_iff_iff]; simp; omega
  · congr 1; rw [Bool.eq_iff_iff]; simp; omega
theorem pp_inI (x c d : Int) : impl_in.f x c d = some (decide (c ≤ x ∧ x ≤ d)) := by
  unfold impl_in.f
  split
  · congr 1; rw [Bool.eq_iff_iff]; simp; omega
  · congr 1; rw [Bool.eq_iff_iff]; simp; omega
theorem pp_freeE (a b : Int) (x : S27) (ha : 1 ≤ a ∧ a ≤ 8) (hb : 1 ≤ b ∧ b ≤ 94) (hx : ppLies a b x) (l : List S27) (hl : l.length ≤ 1000) (h : ∀ y ∈ l, ppLies a b y) :
    Evs (fun k => spec_l3Free.f k l x.f0 x.f1 x.f2 x.f3 x.f4) (fun r => r = true ↔ ∀ y ∈ l, ¬ ppMeet y x) := by
  unfold spec_l3Free.f
  have loop : ∀ (d i : Nat), l.length - i = d → i ≤ l.length → (∀ j (hj : j < l.length), j < i → ¬ ppMeet l[j] x) → Evs (fun k => spec_l3Free.l0 k l (i : Int) x.f0 x.f1 x.f2 x.f3 x.f4) (fun r => r = true ↔ ∀ y ∈ l, ¬ ppMeet y x) := by
    intro d
    induction d with
    | zero =>
      intro i hd hi hI
      refine Evs.step (f := fun _ => some true) (fun k => by simp only [spec_l3Free.l0]; rw [if_neg (by omega)]) (Evs.now ⟨fun _ y hy => ?_, fun _ => rfl⟩)
      obtain ⟨j, hj, rfl⟩ := List.getElem_of_mem hy
      exact hI j hj (by omega)
    | succ d ih =>
      intro i hd hi hI
      have hil : i < l.length := by omega
      obtain ⟨r, hr, hm⟩ := pp_meetS a b l[i] x ha hb (h _ (List.getElem_mem _)) hx
      refine Evs.step (f := fun k => if r = true then some false else spec_l3Free.l0 k l (((i + 1 : Nat)) : Int) x.f0 x.f1 x.f2 x.f3 x.f4) (fun k => by
        simp only [spec_l3Free.l0]
        rw [if_pos (by omega), if_pos (by omega), pp_rdc hil, hr, pp_wrap_id _ (by omega) (by omega)]
        rfl) ?_
      refine Evs.ite (fun ht => Evs.now ⟨fun h => (by cases h), fun hall => absurd (hm.1 ht) (hall _ (List.getElem_mem _))⟩) (fun ht => ?_)
      refine ih (i + 1) (by omega) (by omega) (fun j hj hji => ?_)
      by_cases e : j = i
      · subst e; exact fun q => ht (hm.2 q)
      · exact hI j hj (by omega)
  exact loop _ 0 rfl (by omega) (fun j _ h => absurd h (Nat.not_lt_zero _))
theorem pp_cells (a b : Int) (x : S27) (ha : 1 ≤ a ∧ a ≤ 8) (hb : 1 ≤ b ∧ b ≤ 94) (hx : ppLies a b x) (l : List S27) (h : ∀ y ∈ l, ppLies a b y) (k : Nat) :
    ∃ r, impl_ccells.f k l x.f0 x.f1 x.f2 x.f3 x.f4 = some r ∧ (r = false ↔ ∀ y ∈ l, ¬ ppMeet y x) := by
  refine ⟨_, rfl, ?_⟩
  by_cases hall : ∀ y ∈ l, ¬ ppMeet y x
  · rw [ppIdx_miss _ _ (fun j hj => by
      have := hall l[j] (List.getElem_mem _)
      rw [ppMeet_comm] at this
      rw [← Bool.not_eq_true]
      exact fun q => this ((pp_meetI a b ⟨x.f0, x.f1, x.f2, x.f3, x.f4⟩ l[j] ha hb hx (h _ (List.getElem_mem _))).1 q))]
    simpa using hall
  · have : ∃ j, ∃ hj : j < l.length, ppMeetB ⟨x.f0, x.f1, x.f2, x.f3, x.f4⟩ l[j] = true := by
      simp only [Classical.not_forall, Classical.not_not] at hall
      obtain ⟨y, hy, hm⟩ := hall
      obtain ⟨j, hj, rfl⟩ := List.getElem_of_mem hy
      exact ⟨j, hj, (pp_meetI a b ⟨x.f0, x.f1, x.f2, x.f3, x.f4⟩ l[j] ha hb hx (h _ (List.getElem_mem _))).2 ((ppMeet_comm _ _).1 hm)⟩
    have hp : 0 ≤ ppIdx (fun y => ppMeetB ⟨x.f0, x.f1, x.f2, x.f3, x.f4⟩ y) l := by
      unfold ppIdx
      cases e : l.findIdx? (fun y => ppMeetB ⟨x.f0, x.f1, x.f2, x.f3, x.f4⟩ y) with
      | some i => exact Int.natCast_nonneg _
      | none =>
        rw [List.findIdx?_eq_none_iff] at e
        obtain ⟨j, hj, hm⟩ := this
        rw [e _ (List.getElem_mem hj)] at hm
        cases hm
    rw [decide_eq_true hp]
    exact ⟨fun h => (by cases h), fun q => absurd q hall⟩
theorem pp_specOk (a b : Int) (l : List S27) : Evs (fun k => spec_GrdOk.f k a b l) (fun r => r = true ↔ ppGood a b l) := by
  unfold spec_GrdOk.f
  have F : ∀ b', b' = true → ¬ ppGood a b l → Evs (fun k => spec_GrdOk.j0 k b' a b l) (fun r => r = true ↔ ppGood a b l) := by
    intro b' hb' hn
    subst hb'
    exact Evs.step (f := fun _ => some false) (fun k => by simp only [spec_GrdOk.j0]; rfl) (Evs.now ⟨fun h => (by cases h), fun h => absurd h hn⟩)
  rw [pp_inE, pp_inE]
  simp only [Option.bind_some]
  refine Evs.ite (fun ha => Evs.ite (fun hb => ?_) (fun hb => F _ rfl (fun g => hb (decide_eq_true g.2.1)))) (fun ha => F _ rfl (fun g => ha (decide_eq_true g.1)))
  have ha := of_decide_eq_true ha
  have hb := of_decide_eq_true hb
  by_cases hl : l.length ≤ 40
  · rw [decide_eq_false (by omega)]
    refine Evs.step (f := fun k => spec_GrdOk.l0 k ((0 : Nat) : Int) a b l) (fun k => by simp only [spec_GrdOk.j0]; rfl) ?_
    have out : ∀ i, i < l.length → ¬ ppTo a b l (i + 1) → Evs (fun _ => some false) (fun r => r = true ↔ ppGood a b l) := fun i hi hn => Evs.now ⟨fun h => (by cases h), fun g => absurd (ppTo_mono a b l (by omega) ((ppTo_all a b l).2 g.2.2.2)) hn⟩
    have loop : ∀ (d i : Nat), l.length - i = d → i ≤ l.length → ppTo a b l i → Evs (fun k => spec_GrdOk.l0 k (i : Int) a b l) (fun r => r = true ↔ ppGood a b l) := by
      intro d
      induction d with
      | zero =>
        intro i hd hi hI
        obtain rfl : i = l.length := by omega
        exact Evs.step (f := fun _ => some true) (fun k => by simp only [spec_GrdOk.l0]; rw [if_neg (by omega)]) (Evs.now ⟨fun _ => ⟨ha, hb, hl, (ppTo_all a b l).1 hI⟩, fun _ => rfl⟩)
      | succ d ih =>
        intro i hd hi hI
        have hil : i < l.length := by omega
        have O := out i hil
        rw [ppTo_succ a b l i hil] at O
        refine Evs.step (fun k => by simp only [spec_GrdOk.l0]; rw [if_pos (by omega), if_pos (by omega), pp_rdc hil, pp_inE, pp_inE, pp_inE, pp_inE, pp_inE]) ?_
        simp only [Option.bind_some]
        rw [pp_wrap_id (a - 1) (by omega) (by omega), pp_wrap_id (b - 1) (by omega) (by omega)]
        refine Evs.ite (fun h0 => ?_) (fun h0 => O (fun q => h0 (decide_eq_true ⟨q.2.1.1, q.2.1.2.1⟩)))
        have h0 := of_decide_eq_true h0
        refine Evs.ite (fun h1 => ?_) (fun h1 => O (fun q => h1 (decide_eq_true ⟨q.2.1.2.2.1, q.2.1.2.2.2.1⟩)))
        have h1 := of_decide_eq_true h1
        rw [pp_wrap_id (a - l[i].f0) (by omega) (by omega), pp_wrap_id (b - l[i].f1) (by omega) (by omega)]
        refine Evs.ite (fun h2 => ?_) (fun h2 => O (fun q => h2 (decide_eq_true ⟨q.2.1.2.2.2.2.1, q.2.1.2.2.2.2.2.1⟩)))
        have h2 := of_decide_eq_true h2
        refine Evs.ite (fun h3 => ?_) (fun h3 => O (fun q => h3 (decide_eq_true ⟨q.2.1.2.2.2.2.2.2.1, q.2.1.2.2.2.2.2.2.2.1⟩)))
        have h3 := of_decide_eq_true h3
        refine Evs.ite (fun h4 => ?_) (fun h4 => O (fun q => h4 (decide_eq_true ⟨q.2.1.2.2.2.2.2.2.2.2.1, q.2.1.2.2.2.2.2.2.2.2.2⟩)))
        have h4 := of_decide_eq_true h4
        have hx : ppLies a b l[i] := ⟨h0.1, h0.2, h1.1, h1.2, h2.1, h2.2, h3.1, h3.2, h4.1, h4.2⟩
        refine Evs.pos (by omega) ?_
        rw [Int.toNat_natCast]
        refine Evs.bnd (pp_freeE a b l[i] ha hb hx (l.take i) (by simp; omega) hI.1) (fun r hr => ?_)
        refine Evs.ite (fun ht => ?_) (fun ht => O (fun q => ht (hr.2 q.2.2)))
        rw [pp_wrap_id _ (by omega) (by omega)]
        exact ih (i + 1) (by omega) (by omega) ((ppTo_succ a b l i hil).2 ⟨hI, hx, hr.1 ht⟩)
    exact loop _ 0 rfl (by omega) ⟨by simp, by simp⟩
  · exact F _ (decide_eq_true (by omega)) (fun g => hl g.2.2.1)
theorem pp_implOk (a b : Int) (l : List S27) : Evs (fun k => impl_GrdOk.f k a b l) (fun r => r = true ↔ ppGood a b l) := by
  unfold impl_GrdOk.f
  have F : ∀ b', b' = true → ¬ ppGood a b l → Evs (fun k => impl_GrdOk.j0 k b' a b l) (fun r => r = true ↔ ppGood a b l) := by
    intro b' hb' hn
    subst hb'
    exact Evs.step (f := fun _ => some false) (fun k => by simp only [impl_GrdOk.j0]; rfl) (Evs.now ⟨fun h => (by cases h), fun h => absurd h hn⟩)
  rw [pp_inI, pp_inI]
  simp only [Option.bind_some]
  refine Evs.ite (fun ha => Evs.ite (fun hb => ?_) (fun hb => F _ rfl (fun g => hb (decide_eq_true g.2.1)))) (fun ha => F _ rfl (fun g => ha (decide_eq_true g.1)))
  have ha := of_decide_eq_true ha
  have hb := of_decide_eq_true hb
  by_cases hl : l.length ≤ 40
  · rw [decide_eq_false (by omega)]
    refine Evs.step (f := fun k => impl_GrdOk.l0 k l (l.length : Int) ((0 : Nat) : Int) a b l) (fun k => by simp only [impl_GrdOk.j0]; rfl) ?_
    have loop : ∀ (d i : Nat), l.length - i = d → i ≤ l.length → ppTo a b l i → Evs (fun k => impl_GrdOk.l0 k l (l.length : Int) (i : Int) a b l) (fun r => r = true ↔ ppGood a b l) := by
      intro d
      induction d with
      | zero =>
        intro i hd hi hI
        obtain rfl : i = l.length := by omega
        exact Evs.step (f := fun _ => some true) (fun k => by simp only [impl_GrdOk.l0]; rw [if_neg (by omega)]) (Evs.now ⟨fun _ => ⟨ha, hb, hl, (ppTo_all a b l).1 hI⟩, fun _ => rfl⟩)
      | succ d ih =>
        intro i hd hi hI
        have hil : i < l.length := by omega
        have hg : ¬ ppTo a b l (i + 1) → ¬ ppGood a b l := fun hn g => absurd (ppTo_mono a b l (by omega) ((ppTo_all a b l).2 g.2.2.2)) hn
        rw [ppTo_succ a b l i hil] at hg
        have O : ∀ b', b' = true → ¬ ppGood a b l → Evs (fun k => impl_GrdOk.j2 k (i : Int) l (l.length : Int) (i : Int) b' a b l l[i].f0 l[i].f1 l[i].f2 l[i].f3 l[i].f4) (fun r => r = true ↔ ppGood a b l) := by
          intro b' hb' hn
          subst hb'
          exact Evs.step (f := fun _ => some false) (fun k => by simp only [impl_GrdOk.j2]; rfl) (Evs.now ⟨fun h => (by cases h), fun h => absurd h hn⟩)
        refine Evs.step (fun k => by simp only [impl_GrdOk.l0]; rw [if_pos (by omega), if_pos (by omega), if_pos (by omega), pp_rdc hil, pp_inI, pp_inI, pp_inI, pp_inI]) ?_
        simp only [Option.bind_some]
        rw [pp_wrap_id (a - 1) (by omega) (by omega), pp_wrap_id (b - 1) (by omega) (by omega)]
        refine Evs.ite (fun h0 => ?_) (fun h0 => O _ rfl (hg (fun q => h0 (decide_eq_true ⟨q.2.1.1, q.2.1.2.1⟩))))
        have h0 := of_decide_eq_true h0
        rw [pp_wrap_id (a - l[i].f0) (by omega) (by omega)]
        refine Evs.ite (fun h2 => ?_) (fun h2 => O _ rfl (hg (fun q => h2 (decide_eq_true ⟨q.2.1.2.2.2.2.1, q.2.1.2.2.2.2.2.1⟩))))
        have h2 := of_decide_eq_true h2
        refine Evs.ite (fun h1 => ?_) (fun h1 => O _ rfl (hg (fun q => h1 (decide_eq_true ⟨q.2.1.2.2.1, q.2.1.2.2.2.1⟩))))
        have h1 := of_decide_eq_true h1
        rw [pp_wrap_id (b - l[i].f1) (by omega) (by omega)]
        by_cases h3 : 1 ≤ l[i].f3 ∧ l[i].f3 ≤ b - l[i].f1
        · rw [decide_eq_true h3]
          refine Evs.step (fun k => by simp only [impl_GrdOk.j2]; rw [pp_inI]) ?_
          simp only [Option.bind_some]
          refine Evs.neg (by decide) ?_
          refine Evs.ite (fun h4 => ?_) (fun h4 => Evs.now ⟨fun h => (by cases h), fun g => absurd g (hg (fun q => h4 (decide_eq_true ⟨q.2.1.2.2.2.2.2.2.2.2.1, q.2.1.2.2.2.2.2.2.2.2.2⟩)))⟩)
          have h4 := of_decide_eq_true h4
          have hx : ppLies a b l[i] := ⟨h0.1, h0.2, h1.1, h1.2, h2.1, h2.2, h3.1, h3.2, h4.1, h4.2⟩
          refine Evs.pos (by omega) (Evs.pos (by omega) ?_)
          rw [Int.toNat_natCast]
          obtain ⟨r, hr, hm⟩ := pp_cells a b l[i] ha hb hx (l.take i) hI.1 0
          have hr' : ∀ k, impl_ccells.f k (l.take i) l[i].f0 l[i].f1 l[i].f2 l[i].f3 l[i].f4 = some r := fun _ => hr
          refine Evs.cong (fun k => by rw [hr']) ?_
          simp only [Option.bind_some]
          cases r with
          | true => exact Evs.pos rfl (Evs.now ⟨fun h => (by cases h), fun g => absurd g (hg (fun q => by have := hm.2 q.2.2; cases this))⟩)
          | false =>
            refine Evs.neg (by decide) ?_
            rw [pp_wrap_id _ (by omega) (by omega)]
            exact ih (i + 1) (by omega) (by omega) ((ppTo_succ a b l i hil).2 ⟨hI, hx, hm.1 rfl⟩)
        · rw [decide_eq_false h3]
          exact O _ rfl (hg (fun q => h3 ⟨q.2.1.2.2.2.2.2.2.1, q.2.1.2.2.2.2.2.2.2.1⟩))
    exact loop _ 0 rfl (by omega) ⟨by simp, by simp⟩
  · exact F _ (decide_eq_true (by omega)) (fun g => hl g.2.2.1)

/-- The least part that has both. -/
def ppHull (x y : S27) : S27 := ⟨min x.f0 y.f0, min x.f1 y.f1, max (x.f0 + x.f2) (y.f0 + y.f2) - min x.f0 y.f0, max (x.f1 + x.f3) (y.f1 + y.f3) - min x.f1 y.f1, 0⟩
/-- y lies in x. -/
def ppIn (x y : S27) : Prop := x.f0 ≤ y.f0 ∧ y.f0 + y.f2 ≤ x.f0 + x.f2 ∧ x.f1 ≤ y.f1 ∧ y.f1 + y.f3 ≤ x.f1 + x.f3
instance (x y : S27) : Decidable (ppIn x y) := by unfold ppIn; infer_instance
instance (x y : S27) : Decidable (ppMeet x y) := by unfold ppMeet; infer_instance
def ppStp (x c : S27) : S27 := if ppMeet x c then ppHull x c else x
def ppPass (l : List S27) (x : S27) : S27 := l.foldl ppStp x
/-- How many of l lie in x. -/
def ppN (l : List S27) (x : S27) : Nat := (l.filter fun c => decide (ppIn x c)).length
theorem ppIn_hullL (x y : S27) : ppIn (ppHull x y) x := by unfold ppIn ppHull; simp only; omega
theorem ppIn_hullR (x y : S27) : ppIn (ppHull x y) y := by unfold ppIn ppHull; simp only; omega
theorem ppIn_refl (x : S27) : ppIn x x := by unfold ppIn; omega
theorem ppIn_trans {x y z : S27} (h : ppIn x y) (h' : ppIn y z) : ppIn x z := by unfold ppIn at *; omega
theorem ppIn_stp (x c : S27) : ppIn (ppStp x c) x := by
  unfold ppStp
  split
  · exact ppIn_hullL x c
  · exact ppIn_refl x
theorem ppHull_same {x c : S27} (h4 : x.f4 = 0) (h : ppIn x c) : ppHull x c = x := by
  unfold ppIn at h
  obtain ⟨a, b, d, e, f⟩ := x
  simp only at h h4
  unfold ppHull
  simp only [h4]
  congr 1 <;> omega
theorem ppHull_comm (x c : S27) : ppHull x c = ppHull c x := by unfold ppHull; simp only [Int.min_comm, Int.max_comm]
theorem ppStp_zero {x c : S27} (h4 : x.f4 = 0) : (ppStp x c).f4 = 0 := by
  unfold ppStp
  split
  · rfl
  · exact h4
theorem ppPass_zero (l : List S27) : ∀ {x : S27}, x.f4 = 0 → (ppPass l x).f4 = 0 := by
  induction l with
  | nil => exact fun h => h
  | cons c l ih => exact fun h => ih (ppStp_zero h)
theorem ppIn_pass (l : List S27) : ∀ x : S27, ppIn (ppPass l x) x := by
  induction l with
  | nil => exact ppIn_refl
  | cons c l ih => exact fun x => ppIn_trans (ih (ppStp x c)) (ppIn_stp x c)
theorem ppN_mono (l : List S27) {x y : S27} (h : ppIn x y) : ppN l y ≤ ppN l x := by
  unfold ppN
  induction l with
  | nil => exact Nat.le_refl _
  | cons c l ih =>
    rw [List.filter_cons, List.filter_cons]
    by_cases hy : ppIn y c
    · rw [if_pos (decide_eq_true hy), if_pos (decide_eq_true (ppIn_trans h hy))]
      exact Nat.succ_le_succ ih
    · rw [if_neg (by simpa using hy)]
      split
      · exact Nat.le_succ_of_le ih
      · exact ih
theorem ppN_lt (l : List S27) {x y c : S27} (h : ppIn x y) (hc : c ∈ l) (h1 : ppIn x c) (h2 : ¬ ppIn y c) : ppN l y < ppN l x := by
  obtain ⟨a, b, rfl⟩ := List.append_of_mem hc
  have ha := ppN_mono a h
  have hb := ppN_mono b h
  unfold ppN at *
  rw [List.filter_append, List.filter_append, List.filter_cons, List.filter_cons, if_pos (decide_eq_true h1), if_neg (by simpa using h2)]
  simp only [List.length_append, List.length_cons]
  omega
theorem ppN_le (l : List S27) (x : S27) : ppN l x ≤ l.length := List.length_filter_le _ _
/-- A step that turns x takes in a cell that was not in it. -/
theorem ppStp_ne {x c : S27} (h4 : x.f4 = 0) (h : ppStp x c ≠ x) : ppMeet x c ∧ ¬ ppIn x c ∧ ppIn (ppStp x c) c := by
  unfold ppStp at *
  split at h
  · rename_i hm
    exact ⟨hm, fun q => h (ppHull_same h4 q), by rw [if_pos hm]; exact ppIn_hullR x c⟩
  · exact absurd rfl h
/-- A pass over part of the cells that turns x somewhere takes in one. -/
theorem ppPass_ne (L : List S27) (l : List S27) (hl : ∀ c ∈ l, c ∈ L) : ∀ {x : S27}, x.f4 = 0 → ppPass l x ≠ x → ppN L x < ppN L (ppPass l x) := by
  induction l with
  | nil => exact fun _ h => absurd rfl h
  | cons c l ih =>
    intro x h4 h
    have hin : ppIn (ppPass l (ppStp x c)) (ppStp x c) := ppIn_pass l _
    by_cases e : ppStp x c = x
    · have h' : ppPass l x ≠ x := by
        intro q
        apply h
        show ppPass l (ppStp x c) = x
        rw [e]; exact q
      have := ih (fun c hc => hl c (List.mem_cons_of_mem _ hc)) h4 h'
      show _ < ppN L (ppPass l (ppStp x c))
      rw [e]; exact this
    · obtain ⟨_, h1, h2⟩ := ppStp_ne h4 e
      exact Nat.lt_of_lt_of_le (ppN_lt L (ppIn_stp x c) (hl c List.mem_cons_self) h2 h1) (ppN_mono L hin)
/-- So many passes. -/
def ppIter (l : List S27) : Nat → S27 → S27
  | 0, x => x
  | n + 1, x => ppIter l n (ppPass l x)
theorem ppIter_succ (l : List S27) : ∀ (n : Nat) (x : S27), ppIter l (n + 1) x = ppPass l (ppIter l n x)
  | 0, _ => rfl
  | n + 1, x => ppIter_succ l n (ppPass l x)
theorem ppIter_fix (l : List S27) {x : S27} (h : ppPass l x = x) : ∀ n, ppIter l n x = x
  | 0 => rfl
  | n + 1 => by
    show ppIter l n (ppPass l x) = x
    rw [h]
    exact ppIter_fix l h n
/-- With as many passes as cells nothing turns any more. -/
theorem ppIter_end (l : List S27) : ∀ (m : Nat) (x : S27), x.f4 = 0 → l.length ≤ ppN l x + m → ppPass l (ppIter l m x) = ppIter l m x := by
  intro m
  induction m with
  | zero =>
    intro x h4 h
    by_cases e : ppPass l x = x
    · exact e
    · have := ppPass_ne l l (fun _ h => h) h4 e
      have := ppN_le l (ppPass l x)
      omega
  | succ m ih =>
    intro x h4 h
    by_cases e : ppPass l x = x
    · rw [ppIter_fix l e, e]
    · have := ppPass_ne l l (fun _ h => h) h4 e
      exact ih (ppPass l x) (ppPass_zero l h4) (by omega)
/-- The end of all passes. -/
def ppFix (l : List S27) (x : S27) : S27 := ppIter l l.length x
theorem ppFix_end (l : List S27) (x : S27) (h4 : x.f4 = 0) : ppPass l (ppFix l x) = ppFix l x := ppIter_end l _ x h4 (by omega)
theorem ppFix_pass (l : List S27) (x : S27) (h4 : x.f4 = 0) : ppFix l (ppPass l x) = ppFix l x := by
  show ppIter l (l.length + 1) x = _
  rw [ppIter_succ]
  exact ppFix_end l x h4
theorem ppFix_fix (l : List S27) {x : S27} (h : ppPass l x = x) : ppFix l x = x := ppIter_fix l h _
theorem ppFix_zero (l : List S27) {x : S27} (h4 : x.f4 = 0) : (ppFix l x).f4 = 0 := by
  have : ∀ n, (ppIter l n x).f4 = 0 := by
    intro n
    induction n with
    | zero => exact h4
    | succ n ih => rw [ppIter_succ]; exact ppPass_zero l ih
  exact this _
theorem ppIn_fix (l : List S27) (x : S27) : ppIn (ppFix l x) x := by
  have : ∀ n, ppIn (ppIter l n x) x := by
    intro n
    induction n with
    | zero => exact ppIn_refl x
    | succ n ih => rw [ppIter_succ]; exact ppIn_trans (ppIn_pass l _) ih
  exact this _
/-- A part that no pass turns has of each cell all or nothing. -/
theorem ppPass_all (l : List S27) {x : S27} (h4 : x.f4 = 0) (h : ppPass l x = x) : ∀ c ∈ l, ppMeet x c → ppIn x c := by
  have key : ∀ (m : List S27), (∀ c ∈ m, c ∈ l) → ppPass m x = x → ∀ c ∈ m, ppMeet x c → ppIn x c := by
    intro m
    induction m with
    | nil => intro _ _ c hc; cases hc
    | cons d m ih =>
      intro hm hp c hc hmt
      by_cases e : ppStp x d = x
      · have hp' : ppPass m x = x := by
          have : ppPass m (ppStp x d) = x := hp
          rw [e] at this; exact this
        rcases List.mem_cons.1 hc with rfl | hc
        · unfold ppStp at e
          rw [if_pos hmt] at e
          rw [← e]; exact ppIn_hullR _ _
        · exact ih (fun c hc => hm c (List.mem_cons_of_mem _ hc)) hp' c hc hmt
      · exfalso
        obtain ⟨_, h1, h2⟩ := ppStp_ne h4 e
        have hin : ppIn (ppPass m (ppStp x d)) (ppStp x d) := ppIn_pass m _
        have hp' : ppPass m (ppStp x d) = x := hp
        rw [hp'] at hin
        exact h1 (ppIn_trans hin h2)
  exact key l (fun _ h => h) h

def ppTup (x : S27) : Int × Int × Int × Int × Int := (x.f0, x.f1, x.f2, x.f3, x.f4)
theorem ppLies_hull {a b : Int} {x y : S27} (hx : ppLies a b x) (hy : ppLies a b y) : ppLies a b (ppHull x y) := by
  unfold ppLies at *; unfold ppHull; simp only; omega
theorem ppLies_stp {a b : Int} {x y : S27} (hx : ppLies a b x) (hy : ppLies a b y) : ppLies a b (ppStp x y) := by
  unfold ppStp
  split
  · exact ppLies_hull hx hy
  · exact hx
theorem ppLies_pass {a b : Int} (l : List S27) (h : ∀ y ∈ l, ppLies a b y) : ∀ {x : S27}, ppLies a b x → ppLies a b (ppPass l x) := by
  induction l with
  | nil => exact fun h => h
  | cons c l ih => exact fun hx => ih (fun y hy => h y (List.mem_cons_of_mem _ hy)) (ppLies_stp hx (h c List.mem_cons_self))
theorem ppLies_fix {a b : Int} (l : List S27) (h : ∀ y ∈ l, ppLies a b y) {x : S27} (hx : ppLies a b x) : ppLies a b (ppFix l x) := by
  have : ∀ n, ppLies a b (ppIter l n x) := by
    intro n
    induction n with
    | zero => exact hx
    | succ n ih => rw [ppIter_succ]; exact ppLies_pass l h ih
  exact this _
theorem pp_max (x y : Int) : spec_l1Max.f x y = some (max x y) := by
  unfold spec_l1Max.f
  split
  · congr 1; omega
  · congr 1; omega
theorem pp_span {a b : Int} {x y : S27} (ha : a ≤ 8) (hb : b ≤ 94) (hx : ppLies a b x) (hy : ppLies a b y) :
    spec_l10Span.f x.f0 x.f1 x.f2 x.f3 x.f4 y.f0 y.f1 y.f2 y.f3 y.f4 = some (ppTup { ppHull x y with f4 := x.f4 }) := by
  unfold ppLies at hx hy
  unfold spec_l10Span.f ppTup ppHull
  rw [pp_wrap_id (x.f0 + x.f2) (by omega) (by omega), pp_wrap_id (y.f0 + y.f2) (by omega) (by omega), pp_wrap_id (x.f1 + x.f3) (by omega) (by omega), pp_wrap_id (y.f1 + y.f3) (by omega) (by omega), pp_max, pp_max]
  simp only [Option.bind_some]
  rw [pp_wrap_id _ (by omega) (by omega), pp_wrap_id _ (by omega) (by omega), pp_wrap_id _ (by omega) (by omega), pp_wrap_id _ (by omega) (by omega)]
  (repeat' split) <;> (simp only [Option.some.injEq, Prod.mk.injEq, and_true]; omega)
theorem pp_hull {a b : Int} {x y : S27} (ha : a ≤ 8) (hb : b ≤ 94) (hx : ppLies a b x) (hy : ppLies a b y) :
    impl_GrdCell_hull.f x.f0 x.f1 x.f2 x.f3 x.f4 y.f0 y.f1 y.f2 y.f3 y.f4 = some (ppTup (ppHull x y)) := by
  have hmn : ∀ p q : Int, mn p q = min p q := fun p q => by unfold mn; split <;> omega
  have hmx : ∀ p q : Int, mx p q = max p q := fun p q => by unfold mx; split <;> omega
  unfold ppLies at hx hy
  unfold impl_GrdCell_hull.f ppTup ppHull
  rw [pp_wrap_id (x.f0 + x.f2) (by omega) (by omega), pp_wrap_id (y.f0 + y.f2) (by omega) (by omega), pp_wrap_id (x.f1 + x.f3) (by omega) (by omega), pp_wrap_id (y.f1 + y.f3) (by omega) (by omega), hmn, hmn, hmx, hmx]
  rw [pp_wrap_id _ (by omega) (by omega), pp_wrap_id _ (by omega) (by omega)]
/-- The cells' numbers are there. -/
def ppBoth (l : List S27) (x y : Int) : Prop := (0 ≤ x ∧ x < l.length) ∧ 0 ≤ y ∧ y < l.length
/-- What QryRange answers. -/
def ppRange (l : List S27) (x y : Int) : S27 := ppFix l (ppHull (rd_T27 l x) (rd_T27 l y))
theorem pp_rdIn {a b : Int} {l : List S27} (h : ∀ y ∈ l, ppLies a b y) {x : Int} (h0 : 0 ≤ x) (h1 : x < l.length) : ppLies a b (rd_T27 l x) := by
  obtain ⟨n, rfl⟩ : ∃ n : Nat, x = n := ⟨x.toNat, by omega⟩
  rw [pp_rdc (by omega)]
  exact h _ (List.getElem_mem _)
theorem pp_specPass {a b : Int} {l : List S27} (hg : ppGood a b l) (n : Int) (P : Int × Int × Int × Int × Int → Prop) : ∀ (d i : Nat) (x : S27), l.length - i = d → i ≤ l.length → ppLies a b x → x.f4 = 0 →
    Evs (fun k => spec_QryRange.l0 k (wrap64 (n + 1)) a b l (ppPass (l.drop i) x).f0 (ppPass (l.drop i) x).f1 (ppPass (l.drop i) x).f2 (ppPass (l.drop i) x).f3 (ppPass (l.drop i) x).f4) P →
    Evs (fun k => spec_QryRange.l1 k n (i : Int) a b l x.f0 x.f1 x.f2 x.f3 x.f4) P := by
  obtain ⟨ha, hb, hl, hf, _⟩ := hg
  intro d
  induction d with
  | zero =>
    intro i x hd hi hx h4 hn
    rw [List.drop_of_length_le (by omega)] at hn
    refine Evs.step (fun k => by simp only [spec_QryRange.l1]; rw [if_neg (by omega)]) ?_
    exact hn
  | succ d ih =>
    intro i x hd hi hx h4 hn
    have hil : i < l.length := by omega
    have hy := hf l[i] (List.getElem_mem _)
    rw [List.drop_eq_getElem_cons hil] at hn
    obtain ⟨r, hr, hm⟩ := pp_meetS a b x l[i] ha hb hx hy
    refine Evs.step (fun k => by simp only [spec_QryRange.l1]; rw [if_pos (by omega), if_pos (by omega), pp_rdc hil, hr, pp_wrap_id ((i : Int) + 1) (by omega) (by omega)]) ?_
    simp only [Option.bind_some]
    have nx := ih (i + 1) (ppStp x l[i]) (by omega) (by omega) (ppLies_stp hx hy) (ppStp_zero h4) hn
    refine Evs.ite (fun ht => ?_) (fun ht => ?_)
    · rw [pp_span ha.2 hb.2 hx hy]
      simp only [Option.bind_some, ppTup]
      have e : ppStp x l[i] = { ppHull x l[i] with f4 := x.f4 } := by
        unfold ppStp
        rw [if_pos (hm.1 ht), h4]
        rfl
      rw [e] at nx
      exact nx
    · have e : ppStp x l[i] = x := by unfold ppStp; rw [if_neg (fun q => ht (hm.2 q))]
      rw [e] at nx
      exact nx
theorem pp_specRange (a b : Int) (l : List S27) (x y : Int) : Evs (fun k => spec_QryRange.f k a b l x y) (fun r => (ppGood a b l ∧ ppBoth l x y → r = ppTup (ppRange l x y)) ∧ (¬ (ppGood a b l ∧ ppBoth l x y) → r = (0, 0, 0, 0, 0))) := by
  have F : ∀ b', b' = true → ¬ (ppGood a b l ∧ ppBoth l x y) → Evs (fun k => spec_QryRange.j0 k x y b' a b l) (fun r => (ppGood a b l ∧ ppBoth l x y → r = ppTup (ppRange l x y)) ∧ (¬ (ppGood a b l ∧ ppBoth l x y) → r = (0, 0, 0, 0, 0))) := by
    intro b' hb' hn
    subst hb'
    exact Evs.step (f := fun _ => some (0, 0, 0, 0, 0)) (fun k => by simp only [spec_QryRange.j0]; rfl) (Evs.now ⟨fun h => absurd h hn, fun _ => rfl⟩)
  unfold spec_QryRange.f
  refine Evs.bnd (pp_specOk a b l) (fun t ht => ?_)
  refine Evs.ite (fun h => ?_) (fun h => F _ rfl (fun q => h (ht.2 q.1)))
  have hg := ht.1 h
  obtain ⟨ha, hb, hl, hf, _⟩ := id hg
  rw [pp_inE, pp_inE, pp_wrap_id _ (by omega) (by omega)]
  simp only [Option.bind_some]
  refine Evs.ite (fun hx => ?_) (fun hx => F _ rfl (fun q => hx (decide_eq_true ⟨q.2.1.1, by have := q.2.1.2; omega⟩)))
  have hx := of_decide_eq_true hx
  by_cases hy : 0 ≤ y ∧ y ≤ (l.length : Int) - 1
  · rw [decide_eq_true hy]
    have hxl := pp_rdIn hf (x := x) (by omega) (by omega)
    have hyl := pp_rdIn hf (x := y) (by omega) (by omega)
    refine Evs.step (fun k => by simp only [spec_QryRange.j0]; rw [if_neg (by decide), if_pos (by omega), if_pos (by omega), if_pos (by omega), if_pos (by omega), pp_span ha.2 hb.2 hxl hyl]) ?_
    simp only [Option.bind_some, ppTup]
    have loop : ∀ (d n : Nat) (z : S27), l.length - n = d → n ≤ l.length → ppLies a b z → z.f4 = 0 → Evs (fun k => spec_QryRange.l0 k (n : Int) a b l z.f0 z.f1 z.f2 z.f3 z.f4) (fun r => r = ppTup (ppIter l d z)) := by
      intro d
      induction d with
      | zero =>
        intro n z hd hn hz h4
        exact Evs.step (f := fun _ => some (ppTup z)) (fun k => by simp only [spec_QryRange.l0]; rw [if_neg (by omega)]; rfl) (Evs.now rfl)
      | succ d ih =>
        intro n z hd hn hz h4
        refine Evs.step (fun k => by simp only [spec_QryRange.l0]; rw [if_pos (by omega)]) ?_
        refine pp_specPass hg (n : Int) _ _ 0 z rfl (by omega) hz h4 ?_
        rw [pp_wrap_id _ (by omega) (by omega), List.drop_zero]
        exact ih (n + 1) (ppPass l z) (by omega) (by omega) (ppLies_pass l hf hz) (ppPass_zero l h4)
    refine (loop _ 0 (ppHull (rd_T27 l x) (rd_T27 l y)) rfl (by omega) (ppLies_hull hxl hyl) rfl).imp fun r hr => ⟨fun _ => hr, fun q => absurd ⟨hg, ⟨hx.1, by omega⟩, hy.1, by omega⟩ q⟩
  · rw [decide_eq_false hy]
    exact F _ rfl (fun q => hy ⟨q.2.2.1, by have := q.2.2.2; omega⟩)
/-- What a pass turned stays turned. -/
theorem ppPass_turn (m : List S27) {x c : S27} (h4 : x.f4 = 0) (e : ppStp x c ≠ x) : ppPass m (ppStp x c) ≠ x := by
  obtain ⟨_, h1, h2⟩ := ppStp_ne h4 e
  intro q
  have hin : ppIn (ppPass m (ppStp x c)) (ppStp x c) := ppIn_pass m _
  rw [q] at hin
  exact h1 (ppIn_trans hin h2)
theorem ppCell_ext {x y : S27} (h : x.f0 = y.f0 ∧ x.f1 = y.f1 ∧ x.f2 = y.f2 ∧ x.f3 = y.f3 ∧ x.f4 = y.f4) : x = y := by
  obtain ⟨a, b, c, d, e⟩ := x
  obtain ⟨a', b', c', d', e'⟩ := y
  simp only at h
  obtain ⟨rfl, rfl, rfl, rfl, rfl⟩ := h
  rfl
theorem ppCell_ne (x y : S27) : (!(x.f0 == y.f0) || (!(x.f1 == y.f1) || (!(x.f2 == y.f2) || (!(x.f3 == y.f3) || (!(x.f4 == y.f4)))))) = true ↔ x ≠ y := by
  constructor
  · intro h e
    subst e
    simp at h
  · intro h
    by_cases h0 : x.f0 = y.f0
    · by_cases h1 : x.f1 = y.f1
      · by_cases h2 : x.f2 = y.f2
        · by_cases h3 : x.f3 = y.f3
          · by_cases h4 : x.f4 = y.f4
            · exact absurd (ppCell_ext ⟨h0, h1, h2, h3, h4⟩) h
            · simp [h4]
          · simp [h3]
        · simp [h2]
      · simp [h1]
    · simp [h0]
theorem pp_implPass {a b : Int} {l : List S27} (hg : ppGood a b l) (P : Int × Int × Int × Int × Int → Prop) : ∀ (d i : Nat) (x : S27) (c : Bool), l.length - i = d → i ≤ l.length → ppLies a b x → x.f4 = 0 →
    (∀ c', (c' = true ↔ c = true ∨ ppPass (l.drop i) x ≠ x) → Evs (fun k => impl_QryRange.l0 k c' a b l (ppPass (l.drop i) x).f0 (ppPass (l.drop i) x).f1 (ppPass (l.drop i) x).f2 (ppPass (l.drop i) x).f3 (ppPass (l.drop i) x).f4) P) →
    Evs (fun k => impl_QryRange.l1 k c l (l.length : Int) (i : Int) a b l x.f0 x.f1 x.f2 x.f3 x.f4) P := by
  obtain ⟨ha, hb, hl, hf, _⟩ := hg
  intro d
  induction d with
  | zero =>
    intro i x c hd hi hx h4 hn
    rw [List.drop_of_length_le (by omega)] at hn
    refine Evs.step (fun k => by simp only [impl_QryRange.l1]; rw [if_neg (by omega)]) ?_
    exact hn c ⟨fun h => .inl h, fun h => h.elim id (fun q => absurd rfl q)⟩
  | succ d ih =>
    intro i x c hd hi hx h4 hn
    have hil : i < l.length := by omega
    have hy := hf l[i] (List.getElem_mem _)
    rw [List.drop_eq_getElem_cons hil] at hn
    have hm := pp_meetI a b x l[i] ha hb hx hy
    have hms := ppMeet_some x l[i]
    refine Evs.step (fun k => by simp only [impl_QryRange.l1]; rw [if_pos (by omega), if_pos (by omega), if_pos (by omega), pp_rdc hil, pp_hull ha.2 hb.2 hx hy, hms, pp_wrap_id ((i : Int) + 1) (by omega) (by omega)]) ?_
    simp only [Option.bind_some, ppTup]
    have hne := ppCell_ne (ppHull x l[i]) x
    have nx := fun (c : Bool) => ih (i + 1) (ppStp x l[i]) c (by omega) (by omega) (ppLies_stp hx hy) (ppStp_zero h4)
    refine Evs.ite (fun ht => ?_) (fun ht => ?_)
    · have e : ppStp x l[i] = ppHull x l[i] := by unfold ppStp; rw [if_pos (hm.1 ht)]
      refine Evs.ite (fun hq => ?_) (fun hq => ?_)
      · have hh := hne.1 hq
        have n2 := nx true (fun c' hc' => hn c' ⟨fun _ => .inr (ppPass_turn (l.drop (i + 1)) h4 (by rw [e]; exact hh)), fun _ => hc'.2 (.inl rfl)⟩)
        rw [e] at n2
        exact n2
      · have hh : ppHull x l[i] = x := Classical.byContradiction fun q => hq (hne.2 q)
        have e' : ppStp x l[i] = x := e.trans hh
        have n2 := nx c (fun c' hc' => hn c' (by rw [hc', e']; exact Iff.of_eq (by rw [show ppPass (l[i] :: List.drop (i + 1) l) x = ppPass (List.drop (i + 1) l) (ppStp x l[i]) from rfl, e'])))
        rw [e'] at n2
        exact n2
    · have e' : ppStp x l[i] = x := by unfold ppStp; rw [if_neg (fun q => ht (hm.2 q))]
      have n2 := nx c (fun c' hc' => hn c' (by rw [hc', e']; exact Iff.of_eq (by rw [show ppPass (l[i] :: List.drop (i + 1) l) x = ppPass (List.drop (i + 1) l) (ppStp x l[i]) from rfl, e'])))
      rw [e'] at n2
      exact n2
theorem pp_implRange (a b : Int) (l : List S27) (x y : Int) : Evs (fun k => impl_QryRange.f k a b l x y) (fun r => (ppGood a b l ∧ ppBoth l x y → r = ppTup (ppRange l x y)) ∧ (¬ (ppGood a b l ∧ ppBoth l x y) → r = (0, 0, 0, 0, 0))) := by
  have F : ∀ b', b' = true → ¬ (ppGood a b l ∧ ppBoth l x y) → Evs (fun k => impl_QryRange.j0 k x y b' a b l) (fun r => (ppGood a b l ∧ ppBoth l x y → r = ppTup (ppRange l x y)) ∧ (¬ (ppGood a b l ∧ ppBoth l x y) → r = (0, 0, 0, 0, 0))) := by
    intro b' hb' hn
    subst hb'
    exact Evs.step (f := fun _ => some (0, 0, 0, 0, 0)) (fun k => by simp only [impl_QryRange.j0]; rfl) (Evs.now ⟨fun h => absurd h hn, fun _ => rfl⟩)
  unfold impl_QryRange.f
  refine Evs.bnd (pp_implOk a b l) (fun t ht => ?_)
  refine Evs.ite (fun h => ?_) (fun h => F _ rfl (fun q => h (ht.2 q.1)))
  have hg := ht.1 h
  obtain ⟨ha, hb, hl, hf, _⟩ := id hg
  rw [pp_inI, pp_inI, pp_wrap_id _ (by omega) (by omega)]
  simp only [Option.bind_some]
  refine Evs.ite (fun hx => ?_) (fun hx => F _ rfl (fun q => hx (decide_eq_true ⟨q.2.1.1, by have := q.2.1.2; omega⟩)))
  have hx := of_decide_eq_true hx
  by_cases hy : 0 ≤ y ∧ y ≤ (l.length : Int) - 1
  · rw [decide_eq_true hy]
    have hxl := pp_rdIn hf (x := x) (by omega) (by omega)
    have hyl := pp_rdIn hf (x := y) (by omega) (by omega)
    refine Evs.step (fun k => by simp only [impl_QryRange.j0]; rw [if_neg (by decide), if_pos (by omega), if_pos (by omega), if_pos (by omega), if_pos (by omega), pp_hull ha.2 hb.2 hxl hyl]) ?_
    simp only [Option.bind_some, ppTup]
    have loop : ∀ (m : Nat) (z : S27), ppLies a b z → z.f4 = 0 → l.length ≤ ppN l z + m → Evs (fun k => impl_QryRange.l0 k true a b l z.f0 z.f1 z.f2 z.f3 z.f4) (fun r => r = ppTup (ppFix l z)) := by
      intro m
      induction m with
      | zero =>
        intro z hz h4 hN
        have e : ppPass l z = z := Classical.byContradiction fun e => by
          have := ppPass_ne l l (fun _ h => h) h4 e
          have := ppN_le l (ppPass l z)
          omega
        refine Evs.step (fun k => by simp only [impl_QryRange.l0]; rw [if_pos trivial]) ?_
        refine pp_implPass hg _ _ 0 z false rfl (by omega) hz h4 (fun c' hc' => ?_)
        rw [List.drop_zero] at hc' ⊢
        have : c' = false := by
          cases c' with
          | false => rfl
          | true => exact (hc'.1 rfl).elim (fun q => (by cases q)) (fun q => absurd e q)
        subst this
        exact Evs.step (f := fun _ => some (ppTup (ppPass l z))) (fun k => by simp only [impl_QryRange.l0]; rw [if_neg (by decide)]; rfl) (Evs.now (by rw [e, ppFix_fix l e]))
      | succ m ih =>
        intro z hz h4 hN
        refine Evs.step (fun k => by simp only [impl_QryRange.l0]; rw [if_pos trivial]) ?_
        refine pp_implPass hg _ _ 0 z false rfl (by omega) hz h4 (fun c' hc' => ?_)
        rw [List.drop_zero] at hc' ⊢
        cases c' with
        | false =>
          have e : ppPass l z = z := Classical.byContradiction fun e => by have := hc'.2 (.inr e); cases this
          exact Evs.step (f := fun _ => some (ppTup (ppPass l z))) (fun k => by simp only [impl_QryRange.l0]; rw [if_neg (by decide)]; rfl) (Evs.now (by rw [e, ppFix_fix l e]))
        | true =>
          have e : ppPass l z ≠ z := (hc'.1 rfl).elim (fun q => (by cases q)) id
          have := ppPass_ne l l (fun _ h => h) h4 e
          rw [← ppFix_pass l z h4]
          exact ih (ppPass l z) (ppLies_pass l hf hz) (ppPass_zero l h4) (by omega)
    refine (loop l.length (ppHull (rd_T27 l x) (rd_T27 l y)) (ppLies_hull hxl hyl) rfl (by omega)).imp fun r hr => ⟨fun _ => hr, fun q => absurd ⟨hg, ⟨hx.1, by omega⟩, hy.1, by omega⟩ q⟩
  · rw [decide_eq_false hy]
    exact F _ rfl (fun q => hy ⟨q.2.2.1, by have := q.2.2.2; omega⟩)

/-- The same cell, of the other type. -/
def ppGC (x : S47) : S27 := ⟨x.f0, x.f1, x.f2, x.f3, x.f4⟩
theorem pp_rdLGC {l : List S47} {i : Nat} (h : i < l.length) : rd_T47 l (i : Int) = l[i] := pp_getD l i _ h
theorem pp_rdGC {l : List S27} {i : Nat} (h : i < l.length) : rd_T27 l (i : Int) = l[i] := pp_getD l i _ h
theorem pp_toGrdCellS (l : List S47) (hl : l.length ≤ 1048576) (k : Nat) (hk : l.length < k) : laws_toGrdCellS.f k l = some (l.map ppGC) := by
  unfold laws_toGrdCellS.f
  rw [if_pos (by omega), if_pos (by omega)]
  have := pp_fill (fun k out i => laws_toGrdCellS.l0 k l out i) ppGC l z27 (fun k out i hi ho => by
      simp only [laws_toGrdCellS.l0, laws_toGrdCell.f]
      rw [if_pos (by omega), if_pos (by omega)]
      simp only [Option.bind_some]
      rw [if_pos (by omega), pp_rdLGC hi, pp_wrap_id _ (by omega) (by omega)]
      rfl)
    (fun k out => by
      simp only [laws_toGrdCellS.l0]
      rw [if_neg (by omega)]) k hk
  simpa using this
theorem pp_eqGrdCellS (l : List S27) (hl : l.length ≤ 1048576) (k : Nat) (hk : l.length < k) : laws_eqGrdCellS.f k l l = some true := by
  unfold laws_eqGrdCellS.f
  rw [if_pos rfl]
  exact pp_lpE (fun k (_ : Unit) i => laws_eqGrdCellS.l0 k l l i) l.length (fun _ => ()) true
    (fun k i hi => by
      simp only [laws_eqGrdCellS.l0, laws_eqGrdCell.f]
      rw [if_pos (by omega), if_pos (by omega), if_pos (by omega), pp_wrap_id _ (by omega) (by omega)]
      simp)
    (fun k => by
      simp only [laws_eqGrdCellS.l0]
      rw [if_neg (by omega)]) k hk
theorem pp_toGrdGrid (a b : Int) (l : List S47) (hl : l.length ≤ 1048576) (k : Nat) (hk : l.length < k) : laws_toGrdGrid.f k a b l = some (a, b, l.map ppGC) := by
  unfold laws_toGrdGrid.f
  rw [pp_toGrdCellS l hl k hk]
  rfl
theorem pp_eqGrdGrid (a b : Int) (l : List S27) (hl : l.length ≤ 1048576) (k : Nat) (hk : l.length < k) : laws_eqGrdGrid.f k a b l a b l = some true := by
  unfold laws_eqGrdGrid.f
  rw [if_pos rfl, if_pos rfl, pp_eqGrdCellS l hl k hk]
  rfl
theorem pp_szGrdGrid (a b : Int) (l : List S47) (hl : l.length ≤ 9223372036854775807) : laws_szGrdGrid.f a b l 1048576 = some (if 1048576 < (l.length : Int) then -1 else 1048576 - (l.length : Int)) := by
  unfold laws_szGrdGrid.f laws_szGrdCellS.f
  rw [pp_wrap_id _ (by omega) (by omega)]
  by_cases h : 1048576 < (l.length : Int)
  · rw [if_pos (by omega), if_pos h]
    rfl
  · rw [if_neg (by omega), if_neg h]
    simp only [Option.bind_some]
    rw [if_neg (by omega)]

-- stmt: ∀ (a0_0 : Int) (a0_1 : Int) (l0_2 : List (S47)) (a1 : Int) (a2 : Int), ((Lit.int .i64 a0_0).wf = true) → ((Lit.int .i64 a0_1).wf = true) → (l0_2.length ≤ 9223372036854775807 ∧ ∀ (x : S47), x ∈ l0_2 → (((Lit.int .i64 x.f0).wf = true) ∧ (((Lit.int .i64 x.f1).wf = true)))) → ((Lit.int .i64 a1).wf = true) → ((Lit.int .i64 a2).wf = true) → ∃ k, laws_FnExactQryRange.f k a0_0 a0_1 l0_2 a1 a2 = some true
theorem FnExactQryRange : ∀ (a0_0 : Int) (a0_1 : Int) (l0_2 : List (S47)) (a1 : Int) (a2 : Int), ((Lit.int .i64 a0_0).wf = true) → ((Lit.int .i64 a0_1).wf = true) → (l0_2.length ≤ 9223372036854775807 ∧ ∀ (x : S47), x ∈ l0_2 → (((Lit.int .i64 x.f0).wf = true) ∧ (((Lit.int .i64 x.f1).wf = true) ∧ (((Lit.int .i64 x.f2).wf = true) ∧ (((Lit.int .i64 x.f3).wf = true) ∧ ((Lit.int .i64 x.f4).wf = true)))))) → ((Lit.int .i64 a1).wf = true) → ((Lit.int .i64 a2).wf = true) → ∃ k, laws_FnExactQryRange.f k a0_0 a0_1 l0_2 a1 a2 = some true := by
  intro a b l x y _ _ ⟨hl, _⟩ _ _
  refine Evs.ends (r := true) ?_
  unfold laws_FnExactQryRange.f
  rw [pp_szGrdGrid a b l hl]
  simp only [Option.bind_some]
  by_cases h : 1048576 < (l.length : Int)
  · rw [if_pos h]
    exact Evs.pos (by omega) (Evs.now rfl)
  · rw [if_neg h]
    refine Evs.neg (by omega) ?_
    have hto : Evs (fun k => laws_toGrdGrid.f k a b l) (fun r => r = (a, b, l.map ppGC)) := Evs.of (l.length + 1) fun k hk => pp_toGrdGrid a b l (by omega) k (by omega)
    have hn : (l.map ppGC).length ≤ 1048576 := by simp; omega
    refine Evs.bnd hto ?_
    rintro _ rfl
    refine Evs.bnd (pp_specRange a b (l.map ppGC) x y) (fun u hu => ?_)
    refine Evs.bnd hto ?_
    rintro _ rfl
    refine Evs.bnd (pp_implRange a b (l.map ppGC) x y) (fun v hv => ?_)
    have huv : v = u := by
      by_cases g : ppGood a b (l.map ppGC) ∧ ppBoth (l.map ppGC) x y
      · rw [hu.1 g, hv.1 g]
      · rw [hu.2 g, hv.2 g]
    subst huv
    have he : laws_eqGrdCell.f v.1 v.2.1 v.2.2.1 v.2.2.2.1 v.2.2.2.2 v.1 v.2.1 v.2.2.1 v.2.2.2.1 v.2.2.2.2 = some true := by unfold laws_eqGrdCell.f; simp
    rw [he]
    simp only [Option.bind_some]
    refine Evs.pos trivial ?_
    refine Evs.bnd hto ?_
    rintro _ rfl
    refine Evs.bnd (Evs.of (l.length + 1) fun k hk => pp_eqGrdGrid a b _ hn k (by simp; omega)) ?_
    rintro _ rfl
    exact Evs.pos rfl (Evs.now rfl)

end Go.Proofs.Ytobpcokoahgpdaa.Pure
