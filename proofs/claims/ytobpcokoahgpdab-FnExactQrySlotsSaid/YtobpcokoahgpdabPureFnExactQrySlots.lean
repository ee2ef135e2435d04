/-
  impl.QrySlots answers what spec.QrySlots answers, of every grid, and its answer is memory of its own.
  Conditions: none but those of the statement.
-/
import Derived.Test.YtobpcokoahgpdabQlawsFnExactQrySlots
namespace Go.Proofs.Ytobpcokoahgpdab.Pure
open Go.RowKit Go.Proofs.Ytobpcokoahgpdab.Q Go.Proofs.YtobpcokoahgpdabW.PrintWords Go.Proofs.YtobpcokoahgpdabW.PrintLast Go.Proofs.YtobpcokoahgpdabW.PrintMore
set_option linter.unusedVariables false
set_option linter.unusedSimpArgs false

theorem pp_wrap_l (a b : Int) : wrap64 (wrap64 a + b) = wrap64 (a + b) := by unfold wrap64; omega
theorem pp_wrap_r (a b : Int) : wrap64 (a + wrap64 b) = wrap64 (a + b) := by unfold wrap64; omega
theorem pp_wrap_id (a : Int) (h : -9223372036854775808 ≤ a) (h' : a ≤ 9223372036854775807) : wrap64 a = a := by unfold wrap64; omega
theorem pp_wrap_0 : wrap64 0 = 0 := by unfold wrap64; omega
theorem pp_wf (a : Int) (h : (Lit.int .i64 a).wf = true) : -9223372036854775808 ≤ a ∧ a ≤ 9223372036854775807 := by
  simp [Lit.wf, IntKind.min, IntKind.max, IntKind.signed, IntKind.bits] at h; omega
theorem pp_wfi (a : Int) (h : -9223372036854775808 ≤ a) (h' : a ≤ 9223372036854775807) : (Lit.int .i64 a).wf = true := by
  simp [Lit.wf, IntKind.min, IntKind.max, IntKind.signed, IntKind.bits]; omega

/-- With enough rounds g answers, and P holds of the answer. -/
def Evs {α : Type} (g : Nat → Option α) (P : α → Prop) : Prop := ∃ r K, P r ∧ ∀ k, K ≤ k → g k = some r
theorem Evs.now {α : Type} {P : α → Prop} {r : α} (h : P r) : Evs (fun _ => some r) P := ⟨r, 0, h, fun _ _ => rfl⟩
theorem Evs.bnd {α β : Type} {g : Nat → Option α} {f : Nat → α → Option β} {P : α → Prop} {Q : β → Prop} (h : Evs g P) (k : ∀ a, P a → Evs (fun n => f n a) Q) : Evs (fun n => (g n).bind (f n)) Q := by
  obtain ⟨a, K, hP, h⟩ := h
  obtain ⟨r, K', hQ, k⟩ := k a hP
  refine ⟨r, max K K', hQ, fun n hn => ?_⟩
  show (g n).bind (f n) = some r
  rw [h n (by omega)]
  exact k n (by omega)
theorem Evs.step {α : Type} {g f : Nat → Option α} {P : α → Prop} (h : ∀ k, g (k + 1) = f k) (k : Evs f P) : Evs g P := by
  obtain ⟨r, K, hP, k⟩ := k
  refine ⟨r, K + 1, hP, fun n hn => ?_⟩
  obtain ⟨m, rfl⟩ : ∃ m, n = m + 1 := ⟨n - 1, by omega⟩
  rw [h]
  exact k m (by omega)
theorem Evs.cong {α : Type} {g f : Nat → Option α} {P : α → Prop} (h : ∀ k, g k = f k) (k : Evs f P) : Evs g P := by
  obtain ⟨r, K, hP, k⟩ := k
  exact ⟨r, K, hP, fun n hn => (h n).trans (k n hn)⟩
theorem Evs.imp {α : Type} {g : Nat → Option α} {P Q : α → Prop} (h : Evs g P) (hq : ∀ r, P r → Q r) : Evs g Q := by
  obtain ⟨r, K, hP, k⟩ := h
  exact ⟨r, K, hq r hP, k⟩
theorem Evs.of {α : Type} {g : Nat → Option α} {r : α} (K : Nat) (h : ∀ k, K ≤ k → g k = some r) : Evs g (fun q => q = r) := ⟨r, K, rfl, h⟩
theorem Evs.ends {α : Type} {g : Nat → Option α} {r : α} (h : Evs g (fun q => q = r)) : ∃ k, g k = some r := by
  obtain ⟨q, K, rfl, k⟩ := h
  exact ⟨K, k K (Nat.le_refl _)⟩
theorem Evs.pos {α : Type} {g f : Nat → Option α} {c : Prop} [Decidable c] {P : α → Prop} (hc : c) (h : Evs g P) : Evs (fun k => if c then g k else f k) P := h.cong (fun k => if_pos hc)
theorem Evs.neg {α : Type} {g f : Nat → Option α} {c : Prop} [Decidable c] {P : α → Prop} (hc : ¬ c) (h : Evs f P) : Evs (fun k => if c then g k else f k) P := h.cong (fun k => if_neg hc)
theorem Evs.ite {α : Type} {g f : Nat → Option α} {c : Prop} [Decidable c] {P : α → Prop} (h : c → Evs g P) (h' : ¬ c → Evs f P) : Evs (fun k => if c then g k else f k) P := by
  by_cases hc : c
  · exact Evs.pos hc (h hc)
  · exact Evs.neg hc (h' hc)
/-- A loop that counts up. -/
theorem Evs.up {σ ρ : Type} (E : Nat → σ → Int → Option ρ) (n : Nat) (Inv : Nat → σ → Prop) (Post : ρ → Prop)
    (hs : ∀ s (i : Nat), i < n → Inv i s → (∀ s', Inv (i + 1) s' → Evs (fun k => E k s' ((i : Int) + 1)) Post) → Evs (fun k => E k s (i : Int)) Post)
    (he : ∀ s, Inv n s → Evs (fun k => E k s (n : Int)) Post) : ∀ s, Inv 0 s → Evs (fun k => E k s 0) Post := by
  have key : ∀ (d i : Nat) (s : σ), n - i = d → i ≤ n → Inv i s → Evs (fun k => E k s (i : Int)) Post := by
    intro d
    induction d with
    | zero =>
      intro i s hd hi hI
      obtain rfl : i = n := by omega
      exact he s hI
    | succ d ih =>
      intro i s hd hi hI
      exact hs s i (by omega) hI (fun s' hI' => by simpa using ih (i + 1) s' (by omega) (by omega) hI')
  intro s hI
  simpa using key n 0 s (by omega) (by omega) hI

/-- A loop that counts up: rounds keep Inv or leave with Post; at the end it leaves with Post. -/
theorem pp_lp {σ ρ : Type} (E : Nat → σ → Int → Option ρ) (n : Nat) (Inv : Nat → σ → Prop) (Post : ρ → Prop)
    (hs : ∀ k s (i : Nat), i < n → Inv i s → (∃ s', Inv (i + 1) s' ∧ E (k + 1) s (i : Int) = E k s' ((i : Int) + 1)) ∨ ∃ r, Post r ∧ E (k + 1) s (i : Int) = some r)
    (he : ∀ k s, Inv n s → ∃ r, Post r ∧ E (k + 1) s (n : Int) = some r) :
    ∀ (d i : Nat) (s : σ) (k : Nat), n - i = d → i ≤ n → Inv i s → d < k → ∃ r, Post r ∧ E k s (i : Int) = some r := by
  intro d
  induction d with
  | zero =>
    intro i s k hd hi hI hk
    obtain ⟨k, rfl⟩ : ∃ m, k = m + 1 := ⟨k - 1, by omega⟩
    obtain rfl : i = n := by omega
    exact he k s hI
  | succ d ih =>
    intro i s k hd hi hI hk
    obtain ⟨k, rfl⟩ : ∃ m, k = m + 1 := ⟨k - 1, by omega⟩
    rcases hs k s i (by omega) hI with ⟨s', hI', he'⟩ | h
    · obtain ⟨r, hr, e⟩ := ih (i + 1) s' k (by omega) (by omega) hI' (by omega)
      exact ⟨r, hr, by rw [he']; simpa using e⟩
    · exact h
/-- .. whose state is known at each place. -/
theorem pp_lpE {σ ρ : Type} (E : Nat → σ → Int → Option ρ) (n : Nat) (st : Nat → σ) (r : ρ)
    (hs : ∀ k (i : Nat), i < n → E (k + 1) (st i) (i : Int) = E k (st (i + 1)) ((i : Int) + 1)) (he : ∀ k, E (k + 1) (st n) (n : Int) = some r) (k : Nat) (hk : n < k) : E k (st 0) 0 = some r := by
  obtain ⟨q, hq, h⟩ := pp_lp E n (fun i s => s = st i) (fun q => q = r) (fun k s i hi h => .inl ⟨st (i + 1), rfl, by rw [h]; exact hs k i hi⟩) (fun k s h => ⟨r, rfl, by rw [h]; exact he k⟩) n 0 (st 0) k (by omega) (by omega) rfl hk
  rw [← hq]; simpa using h
/-- .. that fills a row. -/
theorem pp_fill {α β : Type} (L : Nat → List β → Int → Option (List β)) (g : α → β) (xs : List α) (z : β)
    (hs : ∀ k out (i : Nat) (h : i < xs.length), out.length = xs.length → L (k + 1) out (i : Int) = L k (out.set i (g xs[i])) ((i : Int) + 1)) (he : ∀ k out, L (k + 1) out (xs.length : Int) = some out)
    (k : Nat) (hk : xs.length < k) : L k (List.replicate xs.length z) 0 = some (xs.map g) := by
  obtain ⟨r, hr, h⟩ := pp_lp L xs.length (fun i out => out.length = xs.length ∧ out.take i = (xs.map g).take i) (fun r => r = xs.map g)
    (fun k out i hi ⟨h1, h2⟩ => .inl ⟨out.set i (g xs[i]), ⟨by simpa using h1, by
      rw [List.take_succ_eq_append_getElem (by simpa [h1] using hi), List.take_succ_eq_append_getElem (by simpa using hi), List.take_set_of_le (by omega), h2]
      simp⟩, hs k out i hi h1⟩)
    (fun k out ⟨h1, h2⟩ => ⟨out, by
      rw [List.take_of_length_le (by omega), List.take_of_length_le (by simp)] at h2
      exact h2, he k out⟩) xs.length 0 (List.replicate xs.length z) k (by omega) (by omega) ⟨by simp, by simp⟩ hk
  rw [← hr]; simpa using h
theorem pp_getD {α : Type} (l : List α) (i : Nat) (z : α) (h : i < l.length) : l.getD (i : Int).toNat z = l[i] := by
  simp [List.getD_eq_getElem?_getD, List.getElem?_eq_getElem h]
theorem pp_rd {l : List Int} {i : Nat} (h : i < l.length) : rd l (i : Int) = l[i] := pp_getD l i 0 h

theorem pp_rdc {l : List S48} {i : Nat} (h : i < l.length) : rd_T48 l (i : Int) = l[i] := pp_getD l i _ h
/-- The cell lies in a grid of so many rows and columns. -/
def ppLies (a b : Int) (x : S48) : Prop := 0 ≤ x.f0 ∧ x.f0 ≤ a - 1 ∧ 0 ≤ x.f1 ∧ x.f1 ≤ b - 1 ∧ 1 ≤ x.f2 ∧ x.f2 ≤ a - x.f0 ∧ 1 ≤ x.f3 ∧ x.f3 ≤ b - x.f1 ∧ 0 ≤ x.f4 ∧ x.f4 ≤ 4
/-- Two cells share a slot. -/
def ppMeet (x y : S48) : Prop := x.f0 < y.f0 + y.f2 ∧ y.f0 < x.f0 + x.f2 ∧ x.f1 < y.f1 + y.f3 ∧ y.f1 < x.f1 + x.f3
/-- The grid is ok. -/
def ppGood (a b : Int) (l : List S48) : Prop := (1 ≤ a ∧ a ≤ 8) ∧ (1 ≤ b ∧ b ≤ 94) ∧ l.length ≤ 40 ∧ (∀ x ∈ l, ppLies a b x) ∧ l.Pairwise (fun x y => ¬ ppMeet x y)
theorem ppMeet_comm (x y : S48) : ppMeet x y ↔ ppMeet y x := by unfold ppMeet; omega
theorem pp_meetS (a b : Int) (x y : S48) (ha : 1 ≤ a ∧ a ≤ 8) (hb : 1 ≤ b ∧ b ≤ 94) (hx : ppLies a b x) (hy : ppLies a b y) : ∃ r, spec_l3Meets.f x.f0 x.f1 x.f2 x.f3 x.f4 y.f0 y.f1 y.f2 y.f3 y.f4 = some r ∧ (r = true ↔ ppMeet x y) := by
  unfold ppLies at hx hy
  unfold spec_l3Meets.f ppMeet
  rw [pp_wrap_id (y.f0 + y.f2) (by omega) (by omega), pp_wrap_id (x.f0 + x.f2) (by omega) (by omega), pp_wrap_id (y.f1 + y.f3) (by omega) (by omega), pp_wrap_id (x.f1 + x.f3) (by omega) (by omega)]
  split
  · split
    · split
      · exact ⟨_, rfl, by simp; omega⟩
      · exact ⟨_, rfl, by simp; omega⟩
    · exact ⟨_, rfl, by simp; omega⟩
  · exact ⟨_, rfl, by simp; omega⟩
theorem pp_meetI (a b : Int) (x y : S48) (ha : 1 ≤ a ∧ a ≤ 8) (hb : 1 ≤ b ∧ b ≤ 94) (hx : ppLies a b x) (hy : ppLies a b y) : ppMeetB x y = true ↔ ppMeet x y := by
  unfold ppLies at hx hy
  unfold ppMeetB impl_GrdCell_meets.f ppMeet
  rw [pp_wrap_id (y.f0 + y.f2) (by omega) (by omega), pp_wrap_id (x.f0 + x.f2) (by omega) (by omega), pp_wrap_id (y.f1 + y.f3) (by omega) (by omega), pp_wrap_id (x.f1 + x.f3) (by omega) (by omega)]
  split
  · split
    · split
      · simp; omega
      · simp; omega
    · simp; omega
  · simp; omega
/-- Cells of l up to i: they lie in the grid, none meets one ahead of it. -/
def ppTo (a b : Int) (l : List S48) (i : Nat) : Prop := (∀ x ∈ l.take i, ppLies a b x) ∧ (l.take i).Pairwise (fun x y => ¬ ppMeet x y)
theorem ppTo_succ (a b : Int) (l : List S48) (i : Nat) (h : i < l.length) : ppTo a b l (i + 1) ↔ ppTo a b l i ∧ ppLies a b l[i] ∧ ∀ y ∈ l.take i, ¬ ppMeet y l[i] := by
  unfold ppTo
  rw [List.take_succ_eq_append_getElem h, List.pairwise_append]
  simp only [List.mem_append, List.mem_singleton, List.pairwise_singleton, true_and]
  constructor
  · rintro ⟨h1, h2, h3⟩
    exact ⟨⟨fun x hx => h1 x (.inl hx), h2⟩, h1 _ (.inr rfl), fun y hy => h3 y hy _ rfl⟩
  · rintro ⟨⟨h1, h2⟩, h3, h4⟩
    exact ⟨fun x hx => by rcases hx with hx | rfl; exact h1 x hx; exact h3, h2, fun y hy z hz => by subst hz; exact h4 y hy⟩
theorem ppTo_mono (a b : Int) (l : List S48) {i j : Nat} (h : i ≤ j) (hj : ppTo a b l j) : ppTo a b l i := by
  have e : l.take i = (l.take j).take i := by rw [List.take_take, Nat.min_eq_left h]
  unfold ppTo
  rw [e]
  exact ⟨fun x hx => hj.1 x (List.mem_of_mem_take hx), hj.2.sublist (List.take_sublist _ _)⟩
theorem ppTo_all (a b : Int) (l : List S48) : ppTo a b l l.length ↔ (∀ x ∈ l, ppLies a b x) ∧ l.Pairwise (fun x y => ¬ ppMeet x y) := by unfold ppTo; rw [List.take_length]
theorem pp_inE (x c d : Int) : spec_l1In.f x c d = some (decide (c ≤ x ∧ x ≤ d)) := by
  unfold spec_l1In.f
  split
  · congr 1; rw [Bool.eq_iff_iff]; simp; omega
  · congr 1; rw [Bool.eq_iff_iff]; simp; omega
theorem pp_inI (x c d : Int) : impl_in.f x c d = some (decide (c ≤ x ∧ x ≤ d)) := by
  unfold impl_in.f
  split
  · congr 1; rw [Bool.eq_iff_iff]; simp; omega
  · congr 1; rw [Bool.eq_iff_iff]; simp; omega
theorem pp_freeE (a b : Int) (x : S48) (ha : 1 ≤ a ∧ a ≤ 8) (hb : 1 ≤ b ∧ b ≤ 94) (hx : ppLies a b x) (l : List S48) (hl : l.length ≤ 1000) (h : ∀ y ∈ l, ppLies a b y) :
    Evs (fun k => spec_l3Free.f k l x.f0 x.f1 x.f2 x.f3 x.f4) (fun r => r = true ↔ ∀ y ∈ l, ¬ ppMeet y x) := by
  unfold spec_l3Free.f
  have loop : ∀ (d i : Nat), l.length - i = d → i ≤ l.length → (∀ j (hj : j < l.length), j < i → ¬ ppMeet l[j] x) → Evs (fun k => spec_l3Free.l0 k l (i : Int) x.f0 x.f1 x.f2 x.f3 x.f4) (fun r => r = true ↔ ∀ y ∈ l, ¬ ppMeet y x) := by
    intro d
    induction d with
    | zero =>
      intro i hd hi hI
      refine Evs.step (f := fun _ => some true) (fun k => by simp only [spec_l3Free.l0]; rw [if_neg (by omega)]) (Evs.now ⟨fun _ y hy => ?_, fun _ => rfl⟩)
      obtain ⟨j, hj, rfl⟩ := List.getElem_of_mem hy
      exact hI j hj (by omega)
    | succ d ih =>
      intro i hd hi hI
      have hil : i < l.length := by omega
      obtain ⟨r, hr, hm⟩ := pp_meetS a b l[i] x ha hb (h _ (List.getElem_mem _)) hx
      refine Evs.step (f := fun k => if r = true then some false else spec_l3Free.l0 k l (((i + 1 : Nat)) : Int) x.f0 x.f1 x.f2 x.f3 x.f4) (fun k => by
        simp only [spec_l3Free.l0]
        rw [if_pos (by omega), if_pos (by omega), pp_rdc hil, hr, pp_wrap_id _ (by omega) (by omega)]
        rfl) ?_
      refine Evs.ite (fun ht => Evs.now ⟨fun h => (by cases h), fun hall => absurd (hm.1 ht) (hall _ (List.getElem_mem _))⟩) (fun ht => ?_)
      refine ih (i + 1) (by omega) (by omega) (fun j hj hji => ?_)
      by_cases e : j = i
      · subst e; exact fun q => ht (hm.2 q)
      · exact hI j hj (by omega)
  exact loop _ 0 rfl (by omega) (fun j _ h => absurd h (Nat.not_lt_zero _))
theorem pp_cells (a b : Int) (x : S48) (ha : 1 ≤ a ∧ a ≤ 8) (hb : 1 ≤ b ∧ b ≤ 94) (hx : ppLies a b x) (l : List S48) (h : ∀ y ∈ l, ppLies a b y) (k : Nat) :
    ∃ r, impl_ccells.f k l x.f0 x.f1 x.f2 x.f3 x.f4 = some r ∧ (r = false ↔ ∀ y ∈ l, ¬ ppMeet y x) := by
  refine ⟨_, rfl, ?_⟩
  by_cases hall : ∀ y ∈ l, ¬ ppMeet y x
  · rw [ppIdx_miss _ _ (fun j hj => by
      have := hall l[j] (List.getElem_mem _)
      rw [ppMeet_comm] at this
      rw [← Bool.not_eq_true]
      exact fun q => this ((pp_meetI a b ⟨x.f0, x.f1, x.f2, x.f3, x.f4⟩ l[j] ha hb hx (h _ (List.getElem_mem _))).1 q))]
    simpa using hall
  · have : ∃ j, ∃ hj : j < l.length, ppMeetB ⟨x.f0, x.f1, x.f2, x.f3, x.f4⟩ l[j] = true := by
      simp only [Classical.not_forall, Classical.not_not] at hall
      obtain ⟨y, hy, hm⟩ := hall
      obtain ⟨j, hj, rfl⟩ := List.getElem_of_mem hy
      exact ⟨j, hj, (pp_meetI a b ⟨x.f0, x.f1, x.f2, x.f3, x.f4⟩ l[j] ha hb hx (h _ (List.getElem_mem _))).2 ((ppMeet_comm _ _).1 hm)⟩
    have hp : 0 ≤ ppIdx (fun y => ppMeetB ⟨x.f0, x.f1, x.f2, x.f3, x.f4⟩ y) l := by
      unfold ppIdx
      cases e : l.findIdx? (fun y => ppMeetB ⟨x.f0, x.f1, x.f2, x.f3, x.f4⟩ y) with
      | some i => exact Int.natCast_nonneg _
      | none =>
        rw [List.findIdx?_eq_none_iff] at e
        obtain ⟨j, hj, hm⟩ := this
        rw [e _ (List.getElem_mem hj)] at hm
        cases hm
    rw [decide_eq_true hp]
    exact ⟨fun h => (by cases h), fun q => absurd q hall⟩
theorem pp_specOk (a b : Int) (l : List S48) : Evs (fun k => spec_GrdOk.f k a b l) (fun r => r = true ↔ ppGood a b l) := by
  unfold spec_GrdOk.f
  have F : ∀ b', b' = true → ¬ ppGood a b l → Evs (fun k => spec_GrdOk.j0 k b' a b l) (fun r => r = true ↔ ppGood a b l) := by
    intro b' hb' hn
    subst hb'
    exact Evs.step (f := fun _ => some false) (fun k => by simp only [spec_GrdOk.j0]; rfl) (Evs.now ⟨fun h => (by cases h), fun h => absurd h hn⟩)
  rw [pp_inE, pp_inE]
  simp only [Option.bind_some]
  refine Evs.ite (fun ha => Evs.ite (fun hb => ?_) (fun hb => F _ rfl (fun g => hb (decide_eq_true g.2.1)))) (fun ha => F _ rfl (fun g => ha (decide_eq_true g.1)))
  have ha := of_decide_eq_true ha
  have hb := of_decide_eq_true hb
  by_cases hl : l.length ≤ 40
  · rw [decide_eq_false (by omega)]
    refine Evs.step (f := fun k => spec_GrdOk.l0 k ((0 : Nat) : Int) a b l) (fun k => by simp only [spec_GrdOk.j0]; rfl) ?_
    have out : ∀ i, i < l.length → ¬ ppTo a b l (i + 1) → Evs (fun _ => some false) (fun r => r = true ↔ ppGood a b l) := fun i hi hn => Evs.now ⟨fun h => (by cases h), fun g => absurd (ppTo_mono a b l (by omega) ((ppTo_all a b l).2 g.2.2.2)) hn⟩
    have loop : ∀ (d i : Nat), l.length - i = d → i ≤ l.length → ppTo a b l i → Evs (fun k => spec_GrdOk.l0 k (i : Int) a b l) (fun r => r = true ↔ ppGood a b l) := by
      intro d
      induction d with
      | zero =>
        intro i hd hi hI
        obtain rfl : i = l.length := by omega
        exact Evs.step (f := fun _ => some true) (fun k => by simp only [spec_GrdOk.l0]; rw [if_neg (by omega)]) (Evs.now ⟨fun _ => ⟨ha, hb, hl, (ppTo_all a b l).1 hI⟩, fun _ => rfl⟩)
      | succ d ih =>
        intro i hd hi hI
        have hil : i < l.length := by omega
        have O := out i hil
        rw [ppTo_succ a b l i hil] at O
        refine Evs.step (fun k => by simp only [spec_GrdOk.l0]; rw [if_pos (by omega), if_pos (by omega), pp_rdc hil, pp_inE, pp_inE, pp_inE, pp_inE, pp_inE]) ?_
        simp only [Option.bind_some]
        rw [pp_wrap_id (a - 1) (by omega) (by omega), pp_wrap_id (b - 1) (by omega) (by omega)]
        refine Evs.ite (fun h0 => ?_) (fun h0 => O (fun q => h0 (decide_eq_true ⟨q.2.1.1, q.2.1.2.1⟩)))
        have h0 := of_decide_eq_true h0
        refine Evs.ite (fun h1 => ?_) (fun h1 => O (fun q => h1 (decide_eq_true ⟨q.2.1.2.2.1, q.2.1.2.2.2.1⟩)))
        have h1 := of_decide_eq_true h1
        rw [pp_wrap_id (a - l[i].f0) (by omega) (by omega), pp_wrap_id (b - l[i].f1) (by omega) (by omega)]
        refine Evs.ite (fun h2 => ?_) (fun h2 => O (fun q => h2 (decide_eq_true ⟨q.2.1.2.2.2.2.1, q.2.1.2.2.2.2.2.1⟩)))
        have h2 := of_decide_eq_true h2
        refine Evs.ite (fun h3 => ?_) (fun h3 => O (fun q => h3 (decide_eq_true ⟨q.2.1.2.2.2.2.2.2.1, q.2.1.2.2.2.2.2.2.2.1⟩)))
        have h3 := of_decide_eq_true h3
        refine Evs.ite (fun h4 => ?_) (fun h4 => O (fun q => h4 (decide_eq_true ⟨q.2.1.2.2.2.2.2.2.2.2.1, q.2.1.2.2.2.2.2.2.2.2.2⟩)))
        have h4 := of_decide_eq_true h4
        have hx : ppLies a b l[i] := ⟨h0.1, h0.2, h1.1, h1.2, h2.1, h2.2, h3.1, h3.2, h4.1, h4.2⟩
        refine Evs.pos (by omega) ?_
        rw [Int.toNat_natCast]
        refine Evs.bnd (pp_freeE a b l[i] ha hb hx (l.take i) (by simp; omega) hI.1) (fun r hr => ?_)
        refine Evs.ite (fun ht => ?_) (fun ht => O (fun q => ht (hr.2 q.2.2)))
        rw [pp_wrap_id _ (by omega) (by omega)]
        exact ih (i + 1) (by omega) (by omega) ((ppTo_succ a b l i hil).2 ⟨hI, hx, hr.1 ht⟩)
    exact loop _ 0 rfl (by omega) ⟨by simp, by simp⟩
  · exact F _ (decide_eq_true (by omega)) (fun g => hl g.2.2.1)
theorem pp_implOk (a b : Int) (l : List S48) : Evs (fun k => impl_GrdOk.f k a b l) (fun r => r = true ↔ ppGood a b l) := by
  unfold impl_GrdOk.f
  have F : ∀ b', b' = true → ¬ ppGood a b l → Evs (fun k => impl_GrdOk.j0 k b' a b l) (fun r => r = true ↔ ppGood a b l) := by
    intro b' hb' hn
    subst hb'
    exact Evs.step (f := fun _ => some false) (fun k => by simp only [impl_GrdOk.j0]; rfl) (Evs.now ⟨fun h => (by cases h), fun h => absurd h hn⟩)
  rw [pp_inI, pp_inI]
  simp only [Option.bind_some]
  refine Evs.ite (fun ha => Evs.ite (fun hb => ?_) (fun hb => F _ rfl (fun g => hb (decide_eq_true g.2.1)))) (fun ha => F _ rfl (fun g => ha (decide_eq_true g.1)))
  have ha := of_decide_eq_true ha
  have hb := of_decide_eq_true hb
  by_cases hl : l.length ≤ 40
  · rw [decide_eq_false (by omega)]
    refine Evs.step (f := fun k => impl_GrdOk.l0 k l (l.length : Int) ((0 : Nat) : Int) a b l) (fun k => by simp only [impl_GrdOk.j0]; rfl) ?_
    have loop : ∀ (d i : Nat), l.length - i = d → i ≤ l.length → ppTo a b l i → Evs (fun k => impl_GrdOk.l0 k l (l.length : Int) (i : Int) a b l) (fun r => r = true ↔ ppGood a b l) := by
      intro d
      induction d with
      | zero =>
        intro i hd hi hI
        obtain rfl : i = l.length := by omega
        exact Evs.step (f := fun _ => some true) (fun k => by simp only [impl_GrdOk.l0]; rw [if_neg (by omega)]) (Evs.now ⟨fun _ => ⟨ha, hb, hl, (ppTo_all a b l).1 hI⟩, fun _ => rfl⟩)
      | succ d ih =>
        intro i hd hi hI
        have hil : i < l.length := by omega
        have hg : ¬ ppTo a b l (i + 1) → ¬ ppGood a b l := fun hn g => absurd (ppTo_mono a b l (by omega) ((ppTo_all a b l).2 g.2.2.2)) hn
        rw [ppTo_succ a b l i hil] at hg
        have O : ∀ b', b' = true → ¬ ppGood a b l → Evs (fun k => impl_GrdOk.j2 k (i : Int) l (l.length : Int) (i : Int) b' a b l l[i].f0 l[i].f1 l[i].f2 l[i].f3 l[i].f4) (fun r => r = true ↔ ppGood a b l) := by
          intro b' hb' hn
          subst hb'
          exact Evs.step (f := fun _ => some false) (fun k => by simp only [impl_GrdOk.j2]; rfl) (Evs.now ⟨fun h => (by cases h), fun h => absurd h hn⟩)
        refine Evs.step (fun k => by simp only [impl_GrdOk.l0]; rw [if_pos (by omega), if_pos (by omega), if_pos (by omega), pp_rdc hil, pp_inI, pp_inI, pp_inI, pp_inI]) ?_
        simp only [Option.bind_some]
        rw [pp_wrap_id (a - 1) (by omega) (by omega), pp_wrap_id (b - 1) (by omega) (by omega)]
        refine Evs.ite (fun h0 => ?_) (fun h0 => O _ rfl (hg (fun q => h0 (decide_eq_true ⟨q.2.1.1, q.2.1.2.1⟩))))
        have h0 := of_decide_eq_true h0
        rw [pp_wrap_id (a - l[i].f0) (by omega) (by omega)]
        refine Evs.ite (fun h2 => ?_) (fun h2 => O _ rfl (hg (fun q => h2 (decide_eq_true ⟨q.2.1.2.2.2.2.1, q.2.1.2.2.2.2.2.1⟩))))
        have h2 := of_decide_eq_true h2
        refine Evs.ite (fun h1 => ?_) (fun h1 => O _ rfl (hg (fun q => h1 (decide_eq_true ⟨q.2.1.2.2.1, q.2.1.2.2.2.1⟩))))
        have h1 := of_decide_eq_true h1
        rw [pp_wrap_id (b - l[i].f1) (by omega) (by omega)]
        by_cases h3 : 1 ≤ l[i].f3 ∧ l[i].f3 ≤ b - l[i].f1
        · rw [decide_eq_true h3]
          refine Evs.step (fun k => by simp only [impl_GrdOk.j2]; rw [pp_inI]) ?_
          simp only [Option.bind_some]
          refine Evs.neg (by decide) ?_
          refine Evs.ite (fun h4 => ?_) (fun h4 => Evs.now ⟨fun h => (by cases h), fun g => absurd g (hg (fun q => h4 (decide_eq_true ⟨q.2.1.2.2.2.2.2.2.2.2.1, q.2.1.2.2.2.2.2.2.2.2.2⟩)))⟩)
          have h4 := of_decide_eq_true h4
          have hx : ppLies a b l[i] := ⟨h0.1, h0.2, h1.1, h1.2, h2.1, h2.2, h3.1, h3.2, h4.1, h4.2⟩
          refine Evs.pos (by omega) (Evs.pos (by omega) ?_)
          rw [Int.toNat_natCast]
          obtain ⟨r, hr, hm⟩ := pp_cells a b l[i] ha hb hx (l.take i) hI.1 0
          have hr' : ∀ k, impl_ccells.f k (l.take i) l[i].f0 l[i].f1 l[i].f2 l[i].f3 l[i].f4 = some r := fun _ => hr
          refine Evs.cong (fun k => by rw [hr']) ?_
          simp only [Option.bind_some]
          cases r with
          | true => exact Evs.pos rfl (Evs.now ⟨fun h => (by cases h), fun g => absurd g (hg (fun q => by have := hm.2 q.2.2; cases this))⟩)
          | false =>
            refine Evs.neg (by decide) ?_
            rw [pp_wrap_id _ (by omega) (by omega)]
            exact ih (i + 1) (by omega) (by omega) ((ppTo_succ a b l i hil).2 ⟨hI, hx, hm.1 rfl⟩)
        · rw [decide_eq_false h3]
          exact O _ rfl (hg (fun q => h3 ⟨q.2.1.2.2.2.2.2.2.1, q.2.1.2.2.2.2.2.2.2.1⟩))
    exact loop _ 0 rfl (by omega) ⟨by simp, by simp⟩
  · exact F _ (decide_eq_true (by omega)) (fun g => hl g.2.2.1)

/-- Whether a number is one of so many from another one on. -/
def ppAmong (n f m : Int) : Bool := decide (f ≤ n) && (decide (0 < m) && decide (n - f < m))
theorem pp_implAmong (n f m : Int) (hn : (Lit.int .i64 n).wf = true) (hf : (Lit.int .i64 f).wf = true) (hm : (Lit.int .i64 m).wf = true) : impl_among.f n f m = some (ppAmong n f m) := by
  have := pp_wf n hn
  have := pp_wf f hf
  have := pp_wf m hm
  unfold impl_among.f ppAmong
  by_cases h0 : n ≥ f
  · by_cases h1 : m > 0
    · rw [if_pos h0, if_pos h1]
      simp only [IntKind.wrap_u64, Option.some.injEq]
      rw [Bool.eq_iff_iff]
      simp
      omega
    · rw [if_pos h0, if_neg h1]
      simp
      omega
  · rw [if_neg h0]
    simp
    omega
theorem pp_specAmong (n f m : Int) (hn : (Lit.int .i64 n).wf = true) (hf : (Lit.int .i64 f).wf = true) (hm : (Lit.int .i64 m).wf = true) (k : Nat) (hk : 0 < k) : spec_l1Among.f k n f m = some (ppAmong n f m) := by
  have := pp_wf n hn
  have := pp_wf f hf
  have := pp_wf m hm
  obtain ⟨k, rfl⟩ : ∃ q, k = q + 1 := ⟨k - 1, by omega⟩
  unfold spec_l1Among.f ppAmong
  simp only [spec_l1Among.j0]
  by_cases h0 : n < f
  · rw [if_pos h0]
    simp
    omega
  · rw [if_neg h0]
    by_cases h1 : m ≤ 0
    · rw [if_pos (by simpa using h1)]
      simp
      omega
    · rw [if_neg (by simpa using h1)]
      by_cases h2 : f < 0
      · rw [if_pos h2]
        by_cases h3 : n ≥ 0
        · rw [if_pos h3, pp_wrap_id _ (by omega) (by omega)]
          simp only [Option.some.injEq]
          rw [Bool.eq_iff_iff]
          simp
          omega
        · rw [if_neg h3, pp_wrap_id _ (by omega) (by omega)]
          simp only [Option.some.injEq]
          rw [Bool.eq_iff_iff]
          simp
          omega
      · rw [if_neg h2, pp_wrap_id _ (by omega) (by omega)]
        simp only [Option.some.injEq]
        rw [Bool.eq_iff_iff]
        simp
        omega

/-- The same cell, of the other type. -/
def ppGC (x : S52) : S48 := ⟨x.f0, x.f1, x.f2, x.f3, x.f4⟩
theorem pp_rdLGC {l : List S52} {i : Nat} (h : i < l.length) : rd_T52 l (i : Int) = l[i] := pp_getD l i _ h
theorem pp_rdGC {l : List S48} {i : Nat} (h : i < l.length) : rd_T48 l (i : Int) = l[i] := pp_getD l i _ h
theorem pp_toGrdCellS (l : List S52) (hl : l.length ≤ 1048576) (k : Nat) (hk : l.length < k) : laws_toGrdCellS.f k l = some (l.map ppGC) := by
  unfold laws_toGrdCellS.f
  rw [if_pos (by omega), if_pos (by omega)]
  have := pp_fill (fun k out i => laws_toGrdCellS.l0 k l out i) ppGC l z48 (fun k out i hi ho => by
      simp only [laws_toGrdCellS.l0, laws_toGrdCell.f]
      rw [if_pos (by omega), if_pos (by omega)]
      simp only [Option.bind_some]
      rw [if_pos (by omega), pp_rdLGC hi, pp_wrap_id _ (by omega) (by omega)]
      rfl)
    (fun k out => by
      simp only [laws_toGrdCellS.l0]
      rw [if_neg (by omega)]) k hk
  simpa using this
theorem pp_eqGrdCellS (l : List S48) (hl : l.length ≤ 1048576) (k : Nat) (hk : l.length < k) : laws_eqGrdCellS.f k l l = some true := by
  unfold laws_eqGrdCellS.f
  rw [if_pos rfl]
  exact pp_lpE (fun k (_ : Unit) i => laws_eqGrdCellS.l0 k l l i) l.length (fun _ => ()) true
    (fun k i hi => by
      simp only [laws_eqGrdCellS.l0, laws_eqGrdCell.f]
      rw [if_pos (by omega), if_pos (by omega), if_pos (by omega), pp_wrap_id _ (by omega) (by omega)]
      simp)
    (fun k => by
      simp only [laws_eqGrdCellS.l0]
      rw [if_neg (by omega)]) k hk
theorem pp_toGrdGrid (a b : Int) (l : List S52) (hl : l.length ≤ 1048576) (k : Nat) (hk : l.length < k) : laws_toGrdGrid.f k a b l = some (a, b, l.map ppGC) := by
  unfold laws_toGrdGrid.f
  rw [pp_toGrdCellS l hl k hk]
  rfl
theorem pp_eqGrdGrid (a b : Int) (l : List S48) (hl : l.length ≤ 1048576) (k : Nat) (hk : l.length < k) : laws_eqGrdGrid.f k a b l a b l = some true := by
  unfold laws_eqGrdGrid.f
  rw [if_pos rfl, if_pos rfl, pp_eqGrdCellS l hl k hk]
  rfl
theorem pp_szGrdGrid (a b : Int) (l : List S52) (hl : l.length ≤ 9223372036854775807) : laws_szGrdGrid.f a b l 1048576 = some (if 1048576 < (l.length : Int) then -1 else 1048576 - (l.length : Int)) := by
  unfold laws_szGrdGrid.f laws_szGrdCellS.f
  rw [pp_wrap_id _ (by omega) (by omega)]
  by_cases h : 1048576 < (l.length : Int)
  · rw [if_pos (by omega), if_pos h]
    rfl
  · rw [if_neg (by omega), if_neg h]
    simp only [Option.bind_some]
    rw [if_neg (by omega)]

/-- All numbers of a cell are Go's. -/
def ppWfC (x : S48) : Prop := (Lit.int .i64 x.f0).wf = true ∧ (Lit.int .i64 x.f1).wf = true ∧ (Lit.int .i64 x.f2).wf = true ∧ (Lit.int .i64 x.f3).wf = true ∧ (Lit.int .i64 x.f4).wf = true
/-- The cell has the slot. -/
def ppHold (x : S48) (row col : Int) : Bool := ppAmong row x.f0 x.f2 && ppAmong col x.f1 x.f3
theorem pp_hasB (x : S48) (row col : Int) (hx : ppWfC x) (hr : (Lit.int .i64 row).wf = true) (hc : (Lit.int .i64 col).wf = true) : ppHasB x row col = ppHold x row col := by
  unfold ppHasB impl_GrdCell_has.f ppHold
  rw [pp_implAmong row x.f0 x.f2 hr hx.1 hx.2.2.1, pp_implAmong col x.f1 x.f3 hc hx.2.1 hx.2.2.2.1]
  simp only [Option.bind_some]
  cases ppAmong row x.f0 x.f2 <;> rfl
theorem pp_holds (x : S48) (row col : Int) (hx : ppWfC x) (hr : (Lit.int .i64 row).wf = true) (hc : (Lit.int .i64 col).wf = true) (k : Nat) (hk : 0 < k) : spec_l3Holds.f k x.f0 x.f1 x.f2 x.f3 x.f4 row col = some (ppHold x row col) := by
  unfold spec_l3Holds.f ppHold
  rw [pp_specAmong row x.f0 x.f2 hr hx.1 hx.2.2.1 k hk, pp_specAmong col x.f1 x.f3 hc hx.2.1 hx.2.2.2.1 k hk]
  simp only [Option.bind_some]
  cases ppAmong row x.f0 x.f2 <;> rfl
/-- The first cell that has a slot. -/
def ppAt (l : List S48) (row col : Int) : Int := ppIdx (fun x => ppHold x row col) l
theorem ppIdx_congr {α : Type} (p q : α → Bool) (l : List α) (h : ∀ x ∈ l, p x = q x) : ppIdx p l = ppIdx q l := by
  unfold ppIdx
  have : l.findIdx? p = l.findIdx? q := by
    induction l with
    | nil => rfl
    | cons x xs ih =>
      rw [List.findIdx?_cons, List.findIdx?_cons, h x List.mem_cons_self, ih (fun y hy => h y (List.mem_cons_of_mem _ hy))]
  rw [this]
theorem pp_implGrdAt (a b : Int) (l : List S48) (row col : Int) (hl : ∀ x ∈ l, ppWfC x) (hr : (Lit.int .i64 row).wf = true) (hc : (Lit.int .i64 col).wf = true) (k : Nat) : impl_GrdAt.f k a b l row col = some (ppAt l row col) := by
  unfold impl_GrdAt.f ppAt
  rw [ppIdx_congr _ _ l (fun x hx => pp_hasB x row col (hl x hx) hr hc)]
theorem pp_specGrdAt (a b : Int) (l : List S48) (row col : Int) (hn : l.length ≤ 9223372036854775807) (hl : ∀ x ∈ l, ppWfC x) (hr : (Lit.int .i64 row).wf = true) (hc : (Lit.int .i64 col).wf = true) (k : Nat) (hk : l.length + 1 < k) :
    spec_GrdAt.f k a b l row col = some (ppAt l row col) := by
  unfold spec_GrdAt.f
  obtain ⟨r, hr', h⟩ := pp_lp (fun k (_ : Unit) i => spec_GrdAt.l0 (k + 1) row col i a b l) l.length (fun i _ => ∀ j (hj : j < l.length), j < i → ppHold l[j] row col = false) (fun r => r = ppAt l row col)
    (fun k s i hi hI => by
      simp only [spec_GrdAt.l0]
      rw [if_pos (by omega), if_pos (by omega), pp_rdGC hi, pp_holds l[i] row col (hl _ (List.getElem_mem hi)) hr hc (k + 1) (by omega), pp_wrap_id _ (by omega) (by omega)]
      simp only [Option.bind_some]
      cases hp : ppHold l[i] row col with
      | true => exact .inr ⟨i, by unfold ppAt; rw [ppIdx_hit _ l i hi hp hI], by simp⟩
      | false => exact .inl ⟨(), fun j hj hji => by
          by_cases e : j = i
          · subst e; exact hp
          · exact hI j hj (by omega), by simp [spec_GrdAt.l0]⟩)
    (fun k s hI => by
      simp only [spec_GrdAt.l0]
      rw [if_neg (by omega)]
      exact ⟨-1, by unfold ppAt; rw [ppIdx_miss _ l (fun j hj => hI j hj hj)], rfl⟩) l.length 0 () (k - 1) (by omega) (by omega) (fun j _ h => absurd h (Nat.not_lt_zero _)) (by omega)
  rw [← hr', ← h]
  obtain ⟨k, rfl⟩ : ∃ q, k = q + 1 := ⟨k - 1, by omega⟩
  rfl

theorem ppGood_wf {a b : Int} {l : List S48} (hg : ppGood a b l) : ∀ x ∈ l, ppWfC x := by
  obtain ⟨ha, hb, _, hf, _⟩ := hg
  intro x hx
  have := hf x hx
  unfold ppLies at this
  exact ⟨pp_wfi _ (by omega) (by omega), pp_wfi _ (by omega) (by omega), pp_wfi _ (by omega) (by omega), pp_wfi _ (by omega) (by omega), pp_wfi _ (by omega) (by omega)⟩
/-- The byte of a slot. -/
def ppCh (k : Int) : Int := if 0 ≤ k then (wrap64 (97 + (Int.tmod k 26))) % 256 else 46
/-- A row's bytes. -/
def ppLine (l : List S48) (r : Int) (n : Nat) : List Int := (List.range n).map fun (j : Nat) => ppCh (ppAt l r (j : Int))
/-- A grid's rows. -/
def ppLines (l : List S48) (b m : Nat) : List ByteArray := (List.range m).map fun (i : Nat) => strOfNums (ppLine l (i : Int) b)
theorem ppLine_len (l : List S48) (r : Int) (n : Nat) : (ppLine l r n).length = n := by simp [ppLine]
theorem ppLine_ext {l : List S48} {r : Int} {n : Nat} {x : List Int} (hl : x.length = n) (h : ∀ j, j < n → x[j]? = some (ppCh (ppAt l r (j : Int)))) : x = ppLine l r n := by
  apply List.ext_getElem?
  intro j
  by_cases hj : j < n
  · rw [h j hj]
    unfold ppLine
    rw [List.getElem?_map, List.getElem?_range hj]
    rfl
  · rw [List.getElem?_eq_none (by omega), List.getElem?_eq_none (by rw [ppLine_len]; omega)]
theorem ppLines_succ (l : List S48) (b m : Nat) : ppLines l b (m + 1) = ppLines l b m ++ [strOfNums (ppLine l (m : Int) b)] := by
  unfold ppLines
  rw [List.range_succ, List.map_append]
  rfl
theorem ppLines_len (l : List S48) (b m : Nat) : (ppLines l b m).length = m := by simp [ppLines]
theorem pp_specSlots (a b : Int) (l : List S48) : Evs (fun k => spec_QrySlots.f k a b l) (fun r => (ppGood a b l → r = ppLines l b.toNat a.toNat) ∧ (¬ ppGood a b l → r = [])) := by
  unfold spec_QrySlots.f
  simp only [Option.bind_some]
  refine Evs.bnd (pp_specOk a b l) (fun t ht => Evs.ite (fun h => ?_) (fun h => Evs.now ⟨fun g => absurd (ht.2 g) h, fun _ => rfl⟩))
  have hg := ht.1 h
  have hw := ppGood_wf hg
  refine Evs.imp ?_ (fun r e => ⟨fun _ => e, fun n => absurd hg n⟩)
  obtain ⟨ha, hb, hl, hf, _⟩ := id hg
  obtain ⟨a, rfl⟩ : ∃ n : Nat, a = n := ⟨a.toNat, by omega⟩
  obtain ⟨b, rfl⟩ : ∃ n : Nat, b = n := ⟨b.toNat, by omega⟩
  rw [Int.toNat_natCast, Int.toNat_natCast]
  refine Evs.up (fun k (s : List ByteArray) i => spec_QrySlots.l0 k s i a b l) a (fun i s => s = ppLines l b i) _ ?_ ?_ [] rfl
  · rintro s i hi rfl next
    have nx := next _ rfl
    rw [ppLines_succ] at nx
    have hll := ppLines_len l b i
    refine Evs.step (fun k => by simp only [spec_QrySlots.l0]; rw [if_pos (by omega), if_pos (by omega), if_pos (by omega), Int.toNat_natCast]) ?_
    refine Evs.up (fun k (s : List Int) j => spec_QrySlots.l1 k (ppLines l b i) (i : Int) s j a b l) b (fun j s => s.length = b ∧ ∀ q, q < j → s[q]? = some (ppCh (ppAt l (i : Int) (q : Int)))) _ ?_ ?_ (List.replicate b 0) ⟨by simp, fun q h => absurd h (Nat.not_lt_zero _)⟩
    · rintro s j hj ⟨h1, h2⟩ next2
      refine Evs.step (fun k => by simp only [spec_QrySlots.l1]; rw [if_pos (by omega), if_pos (by omega), if_pos (by omega), pp_wrap_id ((j : Int) + 1) (by omega) (by omega), Int.toNat_natCast]) ?_
      simp only [Option.bind_some]
      refine Evs.bnd (Evs.of (l.length + 2) fun k hk => pp_specGrdAt a b l (i : Int) (j : Int) (by omega) hw (pp_wfi _ (by omega) (by omega)) (pp_wfi _ (by omega) (by omega)) k (by omega)) ?_
      rintro _ rfl
      have fin : ∀ v, v = ppCh (ppAt l (i : Int) (j : Int)) → ∀ s' : List Int, s'.length = b → (∀ q, q ≠ j → s'[q]? = s[q]?) → ∀ q, q < j + 1 → (s'.set j v)[q]? = some (ppCh (ppAt l (i : Int) (q : Int))) := by
        rintro v rfl s' h3 h4 q hq
        by_cases e : q = j
        · subst e
          rw [List.getElem?_set_self (by omega)]
        · rw [List.getElem?_set_ne (fun q' => e q'.symm), h4 q e, h2 q (by omega)]
      refine Evs.ite (fun h0 => ?_) (fun h0 => ?_)
      · exact next2 _ ⟨by simp [h1], fin _ (by unfold ppCh; rw [if_pos h0]) _ (by simp [h1]) (fun q hq => List.getElem?_set_ne (fun q' => hq q'.symm))⟩
      · exact next2 _ ⟨by simp [h1], fin _ (by unfold ppCh; rw [if_neg h0]) s h1 (fun _ _ => rfl)⟩
    · rintro s ⟨h1, h2⟩
      refine Evs.step (fun k => by simp only [spec_QrySlots.l1]; rw [if_neg (by omega), if_pos (by omega), pp_wrap_id ((i : Int) + 1) (by omega) (by omega)]) ?_
      rw [ppLine_ext h1 h2]
      exact nx
  · rintro s rfl
    exact Evs.step (f := fun _ => some (ppLines l b a)) (fun k => by simp only [spec_QrySlots.l0]; rw [if_neg (by omega)]) (Evs.now rfl)
theorem pp_implSlots (a b : Int) (l : List S48) : Evs (fun k => impl_QrySlots.f k a b l) (fun r => (ppGood a b l → r = ppLines l b.toNat a.toNat) ∧ (¬ ppGood a b l → r = [])) := by
  unfold impl_QrySlots.f
  refine Evs.bnd (pp_implOk a b l) (fun t ht => Evs.ite (fun h => ?_) (fun h => Evs.now ⟨fun g => absurd (ht.2 g) h, fun _ => rfl⟩))
  have hg := ht.1 h
  have hw := ppGood_wf hg
  refine Evs.imp ?_ (fun r e => ⟨fun _ => e, fun n => absurd hg n⟩)
  obtain ⟨ha, hb, hl, hf, _⟩ := id hg
  obtain ⟨a, rfl⟩ : ∃ n : Nat, a = n := ⟨a.toNat, by omega⟩
  obtain ⟨b, rfl⟩ : ∃ n : Nat, b = n := ⟨b.toNat, by omega⟩
  rw [Int.toNat_natCast, Int.toNat_natCast]
  have hrep : bytes_Repeat.f [46] (b : Int) = some (List.replicate b 46) := by
    unfold bytes_Repeat.f
    rw [if_pos ⟨rfl, hb⟩, Int.toNat_natCast]
  refine Evs.up (fun k (s : List ByteArray) i => impl_QrySlots.l0 k s a i a b l) a (fun i s => s = ppLines l b i) _ ?_ ?_ [] rfl
  · rintro s i hi rfl next
    have nx := next _ rfl
    rw [ppLines_succ] at nx
    have hll := ppLines_len l b i
    refine Evs.step (fun k => by simp only [impl_QrySlots.l0]; rw [if_pos (by omega), hrep]) ?_
    simp only [Option.bind_some]
    rw [List.length_replicate]
    refine Evs.up (fun k (s : List Int) j => impl_QrySlots.l1 k (ppLines l b i) (i : Int) s a (i : Int) b j a b l) b (fun j s => s.length = b ∧ (∀ q, q < j → s[q]? = some (ppCh (ppAt l (i : Int) (q : Int)))) ∧ ∀ q, j ≤ q → q < b → s[q]? = some 46) _ ?_ ?_ (List.replicate b 46) ⟨by simp, fun q h => absurd h (Nat.not_lt_zero _), fun q _ h => by rw [List.getElem?_replicate, if_pos h]⟩
    · rintro s j hj ⟨h1, h2, h3⟩ next2
      refine Evs.step (fun k => by simp only [impl_QrySlots.l1]; rw [if_pos (by omega), pp_wrap_id ((j : Int) + 1) (by omega) (by omega), Int.toNat_natCast]) ?_
      refine Evs.bnd (Evs.of 0 fun k hk => pp_implGrdAt a b l (i : Int) (j : Int) hw (pp_wfi _ (by omega) (by omega)) (pp_wfi _ (by omega) (by omega)) k) ?_
      rintro _ rfl
      refine Evs.ite (fun h0 => ?_) (fun h0 => ?_)
      · refine Evs.pos (by omega) (Evs.pos (by omega) ?_)
        refine next2 _ ⟨by simp [h1], fun q hq => ?_, fun q hq hqb => by rw [List.getElem?_set_ne (by omega), h3 q (by omega) hqb]⟩
        by_cases e : q = j
        · subst e
          rw [List.getElem?_set_self (by omega)]
          unfold ppCh
          rw [if_pos h0]
        · rw [List.getElem?_set_ne (fun q' => e q'.symm), h2 q (by omega)]
      · refine next2 _ ⟨h1, fun q hq => ?_, fun q hq hqb => h3 q (by omega) hqb⟩
        by_cases e : q = j
        · subst e
          rw [h3 q (Nat.le_refl _) hj]
          unfold ppCh
          rw [if_neg h0]
        · exact h2 q (by omega)
    · rintro s ⟨h1, h2, h3⟩
      refine Evs.step (fun k => by simp only [impl_QrySlots.l1]; rw [if_neg (by omega), if_pos (by omega), pp_wrap_id ((i : Int) + 1) (by omega) (by omega)]) ?_
      rw [ppLine_ext h1 h2]
      exact nx
  · rintro s rfl
    exact Evs.step (f := fun _ => some (ppLines l b a)) (fun k => by simp only [impl_QrySlots.l0]; rw [if_neg (by omega)]) (Evs.now rfl)

theorem pp_markGrdCellS (l : List S48) (hl : l.length ≤ 1048576) : Evs (fun k => laws_markGrdCellS.f k l 1) (fun r => 0 ≤ r.1) := by
  unfold laws_markGrdCellS.f
  refine Evs.up (fun k (s : List S48 × Int) i => laws_markGrdCellS.l0 k s.1 s.2 i) l.length (fun i s => s.1.length = l.length ∧ s.2 = 1 + 5 * (i : Int)) _ ?_ ?_ (l, 1) ⟨rfl, by simp⟩
  · rintro ⟨s, m⟩ i hi ⟨h1, h2⟩ next
    dsimp only at h1 h2
    refine Evs.step (f := fun k => laws_markGrdCellS.l0 k _ (m + 5) ((i : Int) + 1)) (fun k => by
      simp only [laws_markGrdCellS.l0, Option.bind_some]
      rw [if_pos (by omega), if_pos (by omega), pp_wrap_id ((i : Int) + 1) (by omega) (by omega)]
      rw [pp_wrap_id (m + 1) (by omega) (by omega), pp_wrap_id (m + 1 + 1) (by omega) (by omega), pp_wrap_id (m + 1 + 1 + 1) (by omega) (by omega), pp_wrap_id (m + 1 + 1 + 1 + 1) (by omega) (by omega), pp_wrap_id (m + 1 + 1 + 1 + 1 + 1) (by omega) (by omega)]
      rw [show m + 1 + 1 + 1 + 1 + 1 = m + 5 by omega]) (next (_, m + 5) ⟨by simp [h1], by dsimp only; omega⟩)
  · rintro ⟨s, m⟩ ⟨h1, h2⟩
    dsimp only at h1 h2
    exact Evs.step (f := fun k => some (m, s)) (fun k => by simp only [laws_markGrdCellS.l0]; rw [if_neg (by omega)]) (Evs.now (by dsimp only; omega))
theorem pp_markGrdGrid (a b : Int) (l : List S48) (hl : l.length ≤ 1048576) : Evs (fun k => laws_markGrdGrid.f k a b l 1) (fun r => 0 ≤ r.1) := by
  unfold laws_markGrdGrid.f
  refine Evs.bnd (pp_markGrdCellS l hl) ?_
  intro r hr
  exact Evs.now hr

theorem pp_rdS {l : List ByteArray} {i : Nat} (h : i < l.length) : rdOf ByteArray.empty l (i : Int) = l[i] := pp_getD l i _ h
theorem pp_eqStringS (l : List ByteArray) (hl : l.length ≤ 1048576) : Evs (fun k => laws_eqStringS.f k l l) (fun r => r = true) := by
  unfold laws_eqStringS.f
  refine Evs.pos rfl ?_
  refine Evs.up (fun k (_ : Unit) i => laws_eqStringS.l0 k l l i) l.length (fun _ _ => True) _ ?_ ?_ () trivial
  · intro _ i hi _ next
    refine Evs.step (fun k => by simp only [laws_eqStringS.l0]; rw [if_pos (by omega), if_pos (by omega), if_pos (by omega), if_pos trivial, pp_wrap_id ((i : Int) + 1) (by omega) (by omega)]) (next () trivial)
  · intro _ _
    exact Evs.step (f := fun _ => some true) (fun k => by simp only [laws_eqStringS.l0]; rw [if_neg (by omega)]) (Evs.now rfl)

/-- The text of a small mark. -/
def ppMT (m : Int) : ByteArray := (⟨#[109]⟩ : ByteArray) ++ (strOfNums [(wrap64 (48 + (Int.tmod m 10))) % 256] ++ (⟨#[]⟩ : ByteArray))
theorem pp_markText (m : Int) (h1 : 1 ≤ m) (h2 : m ≤ 9) : Evs (fun k => laws_markText.f k m) (fun r => r = ppMT m) := by
  unfold laws_markText.f
  refine Evs.neg (by omega) ?_
  have hd : wrap64 (Int.tdiv m 10) = 0 := by
    rw [Int.tdiv_eq_ediv_of_nonneg (by omega), show m / 10 = 0 by omega]
    exact pp_wrap_0
  have hs : (strOfNums [(wrap64 (48 + (Int.tmod m 10))) % 256]).size = 1 := rfl
  refine Evs.step (f := fun k => laws_markText.l0 k 0 (strOfNums [(wrap64 (48 + (Int.tmod m 10))) % 256] ++ (⟨#[]⟩ : ByteArray))) (fun k => by
    simp only [laws_markText.l0]
    rw [if_pos (by omega)]
    simp only [Option.bind_some]
    rw [if_pos (by rw [hs]; first | done | decide), hd]) ?_
  refine Evs.step (f := fun _ => some (ppMT m)) (fun k => by
    simp only [laws_markText.l0]
    rw [if_neg (by omega), if_pos (by rw [ByteArray.size_append, hs]; first | done | decide)]
    rfl) (Evs.now rfl)
/-- The marks' texts. -/
def ppMTs (n : Nat) : List ByteArray := (List.range n).map fun (i : Nat) => ppMT (1 + (i : Int))
theorem pp_markStringS (l : List ByteArray) (hl : l.length ≤ 8) : Evs (fun k => laws_markStringS.f k l 1) (fun r => r = (1 + (l.length : Int), ppMTs l.length)) := by
  unfold laws_markStringS.f
  refine Evs.up (fun k (s : List ByteArray × Int) i => laws_markStringS.l0 k s.1 s.2 i) l.length (fun i s => s.1.length = l.length ∧ s.2 = 1 + (i : Int) ∧ s.1.take i = ppMTs i) _ ?_ ?_ (l, 1) ⟨rfl, by simp, by simp [ppMTs]⟩
  · rintro ⟨s, m⟩ i hi ⟨h1, h2, h3⟩ next
    dsimp only at h1 h2 h3
    have nx : Evs (fun k => laws_markStringS.l0 k (s.set i (ppMT m)) (m + 1) ((i : Int) + 1)) (fun r => r = (1 + (l.length : Int), ppMTs l.length)) := next (_, _) ⟨by simp [h1], by dsimp only; omega, by
      dsimp only
      rw [List.take_succ_eq_append_getElem (by simp; omega), List.take_set_of_le (by omega), h3]
      unfold ppMTs
      rw [List.range_succ, List.map_append]
      simp only [List.map_cons, List.map_nil, List.getElem_set_self]
      rw [← h2]⟩
    refine Evs.step (fun k => by simp only [laws_markStringS.l0]; rw [if_pos (by omega)]) ?_
    refine Evs.bnd (pp_markText m (by omega) (by omega)) ?_
    rintro _ rfl
    refine Evs.pos (by omega) ?_
    rw [pp_wrap_id (m + 1) (by omega) (by omega), pp_wrap_id ((i : Int) + 1) (by omega) (by omega), Int.toNat_natCast]
    exact nx
  · rintro ⟨s, m⟩ ⟨h1, h2, h3⟩
    dsimp only at h1 h2 h3
    rw [List.take_of_length_le (by omega)] at h3
    exact Evs.step (f := fun _ => some (m, s)) (fun k => by simp only [laws_markStringS.l0]; rw [if_neg (by omega)]) (Evs.now (by rw [h2, h3]))
theorem pp_heldStringS (n : Nat) (hl : n ≤ 8) : Evs (fun k => laws_heldStringS.f k (ppMTs n) 1) (fun r => r = 1 + (n : Int)) := by
  unfold laws_heldStringS.f
  have hlen : (ppMTs n).length = n := by simp [ppMTs]
  refine Evs.up (fun k (m : Int) i => laws_heldStringS.l0 k (ppMTs n) m i) n (fun i m => m = 1 + (i : Int)) _ ?_ ?_ 1 (by simp)
  · rintro m i hi rfl next
    refine Evs.step (fun k => by simp only [laws_heldStringS.l0]; rw [if_pos (by omega), if_pos (by omega)]) ?_
    refine Evs.bnd (pp_markText (1 + (i : Int)) (by omega) (by omega)) ?_
    rintro _ rfl
    refine Evs.pos (by rw [pp_rdS (by omega)]; simp [ppMTs]) ?_
    rw [pp_wrap_id (1 + (i : Int) + 1) (by omega) (by omega), pp_wrap_id ((i : Int) + 1) (by omega) (by omega)]
    exact next _ (by omega)
  · rintro m rfl
    exact Evs.step (f := fun _ => some _) (fun k => by simp only [laws_heldStringS.l0]; rw [if_neg (by omega)]) (Evs.now rfl)

-- stmt: ∀ (a0_0 : Int) (a0_1 : Int) (l0_2 : List (S52)), ((Lit.int .i64 a0_0).wf = true) → ((Lit.int .i64 a0_1).wf = true) → (l0_2.length ≤ 9223372036854775807 ∧ ∀ (x : S52), x ∈ l0_2 → (((Lit.int .i64 x.f0).wf = true) ∧ (((Lit.int .i64 x.f1).wf = true)))) → ∃ k, laws_FnExactQrySlots.f k a0_0 a0_1 l0_2 = some true
theorem FnExactQrySlots : ∀ (a0_0 : Int) (a0_1 : Int) (l0_2 : List (S52)), ((Lit.int .i64 a0_0).wf = true) → ((Lit.int .i64 a0_1).wf = true) → (l0_2.length ≤ 9223372036854775807 ∧ ∀ (x : S52), x ∈ l0_2 → (((Lit.int .i64 x.f0).wf = true) ∧ (((Lit.int .i64 x.f1).wf = true) ∧ (((Lit.int .i64 x.f2).wf = true) ∧ (((Lit.int .i64 x.f3).wf = true) ∧ ((Lit.int .i64 x.f4).wf = true)))))) → ∃ k, laws_FnExactQrySlots.f k a0_0 a0_1 l0_2 = some true := by
  intro a b l _ _ ⟨hl, _⟩
  refine Evs.ends (r := true) ?_
  unfold laws_FnExactQrySlots.f
  rw [pp_szGrdGrid a b l hl]
  simp only [Option.bind_some]
  by_cases h : 1048576 < (l.length : Int)
  · rw [if_pos h]
    exact Evs.pos (by omega) (Evs.now rfl)
  · rw [if_neg h]
    refine Evs.neg (by omega) ?_
    have hto : Evs (fun k => laws_toGrdGrid.f k a b l) (fun r => r = (a, b, l.map ppGC)) := Evs.of (l.length + 1) fun k hk => pp_toGrdGrid a b l (by omega) k (by omega)
    have hn : (l.map ppGC).length ≤ 1048576 := by simp; omega
    obtain ⟨C, hC, hS, hI⟩ : ∃ C : List ByteArray, C.length ≤ 8 ∧ Evs (fun k => spec_QrySlots.f k a b (l.map ppGC)) (fun r => r = C) ∧ Evs (fun k => impl_QrySlots.f k a b (l.map ppGC)) (fun r => r = C) := by
      by_cases g : ppGood a b (l.map ppGC)
      · exact ⟨_, by rw [ppLines_len]; have := g.1; omega, (pp_specSlots a b _).imp fun r hr => hr.1 g, (pp_implSlots a b _).imp fun r hr => hr.1 g⟩
      · exact ⟨[], by simp, (pp_specSlots a b _).imp fun r hr => hr.2 g, (pp_implSlots a b _).imp fun r hr => hr.2 g⟩
    have heq := pp_eqStringS C (by omega)
    have hheld := pp_heldStringS C.length hC
    refine Evs.bnd hto ?_
    rintro _ rfl
    refine Evs.bnd hS ?_
    rintro _ rfl
    refine Evs.bnd hto ?_
    rintro _ rfl
    refine Evs.bnd hI ?_
    rintro _ rfl
    refine Evs.bnd heq ?_
    rintro _ rfl
    refine Evs.pos rfl ?_
    refine Evs.bnd hto ?_
    rintro _ rfl
    refine Evs.bnd (Evs.of (l.length + 1) fun k hk => pp_eqGrdGrid a b _ hn k (by simp; omega)) ?_
    rintro _ rfl
    refine Evs.pos rfl ?_
    refine Evs.bnd (pp_markGrdGrid a b _ hn) ?_
    intro r hr
    refine Evs.neg (by omega) ?_
    refine Evs.bnd heq ?_
    rintro _ rfl
    refine Evs.step (fun k => by simp only [laws_FnExactQrySlots.j0]; rw [if_neg (by simp)]) ?_
    refine Evs.bnd (pp_markStringS _ hC) ?_
    rintro _ rfl
    refine Evs.bnd hheld ?_
    rintro _ rfl
    refine Evs.neg (by omega) (Evs.pos rfl ?_)
    refine Evs.bnd hto ?_
    rintro _ rfl
    refine Evs.bnd hI ?_
    rintro _ rfl
    refine Evs.bnd heq ?_
    rintro _ rfl
    refine Evs.pos rfl ?_
    refine Evs.bnd hheld ?_
    rintro _ rfl
    exact Evs.neg (by omega) (Evs.pos rfl (Evs.now rfl))

end Go.Proofs.Ytobpcokoahgpdab.Pure
