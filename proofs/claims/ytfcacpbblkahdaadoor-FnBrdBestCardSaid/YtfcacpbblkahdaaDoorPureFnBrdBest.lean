/-
  of drawn borders the one that is shown is one of them, none beats it, it beats all ahead of it; of none: none, of cell -1; impl and spec agree; at all draws.
  Conditions: none but those of the statement.
-/
import Derived.Test.YtfcacpbblkahdaaDoorPFnBrdBestx6
namespace Go.Proofs.YtfcacpbblkahdaaDoor.Pure
open Go.RowKit Go.Proofs.YtfcacpbblkahdaaDoor.PFnBrdBest Go.Proofs.YtfcacpbblkahdaaDoorW.PrintWords Go.Proofs.YtfcacpbblkahdaaDoorW.PrintLast Go.Proofs.YtfcacpbblkahdaaDoorW.PrintMore
set_option linter.unusedVariables false
set_option linter.unusedSimpArgs false

theorem pp_wrap_l (a b : Int) : wrap64 (wrap64 a + b) = wrap64 (a + b) := by unfold wrap64; omega
theorem pp_wrap_r (a b : Int) : wrap64 (a + wrap64 b) = wrap64 (a + b) := by unfold wrap64; omega
theorem pp_wrap_id (a : Int) (h : -9223372036854775808 ≤ a) (h' : a ≤ 9223372036854775807) : wrap64 a = a := by unfold wrap64; omega
theorem pp_wrap_0 : wrap64 0 = 0 := by unfold wrap64; omega
theorem pp_wf (a : Int) (h : (Lit.int .i64 a).wf = true) : -9223372036854775808 ≤ a ∧ a ≤ 9223372036854775807 := by
  simp [Lit.wf, IntKind.min, IntKind.max, IntKind.signed, IntKind.bits] at h; omega
theorem pp_wfi (a : Int) (h : -9223372036854775808 ≤ a) (h' : a ≤ 9223372036854775807) : (Lit.int .i64 a).wf = true := by
  simp [Lit.wf, IntKind.min, IntKind.max, IntKind.signed, IntKind.bits]; omega

/-- A loop that counts up: rounds keep Inv or leave with Post; at the end it leaves with Post. -/
theorem pp_lp {σ ρ : Type} (E : Nat → σ → Int → Option ρ) (n : Nat) (Inv : Nat → σ → Prop) (Post : ρ → Prop)
    (hs : ∀ k s (i : Nat), i < n → Inv i s → (∃ s', Inv (i + 1) s' ∧ E (k + 1) s (i : Int) = E k s' ((i : Int) + 1)) ∨ ∃ r, Post r ∧ E (k + 1) s (i : Int) = some r)
    (he : ∀ k s, Inv n s → ∃ r, Post r ∧ E (k + 1) s (n : Int) = some r) :
    ∀ (d i : Nat) (s : σ) (k : Nat), n - i = d → i ≤ n → Inv i s → d < k → ∃ r, Post r ∧ E k s (i : Int) = some r := by
  intro d
  induction d with
  | zero =>
    intro i s k hd hi hI hk
    obtain ⟨k, rfl⟩ : ∃ m, k = m + 1 := ⟨k - 1, by omega⟩
    obtain rfl : i = n := by omega
    exact he k s hI
  | succ d ih =>
    intro i s k hd hi hI hk
    obtain ⟨k, rfl⟩ : ∃ m, k = m + 1 := ⟨k - 1, by omega⟩
    rcases hs k s i (by omega) hI with ⟨s', hI', he'⟩ | h
    · obtain ⟨r, hr, e⟩ := ih (i + 1) s' k (by omega) (by omega) hI' (by omega)
      exact ⟨r, hr, by rw [he']; simpa using e⟩
    · exact h
/-- .. whose state is known at each place. -/
theorem pp_lpE {σ ρ : Type} (E : Nat → σ → Int → Option ρ) (n : Nat) (st : Nat → σ) (r : ρ)
    (hs : ∀ k (i : Nat), i < n → E (k + 1) (st i) (i : Int) = E k (st (i + 1)) ((i : Int) + 1)) (he : ∀ k, E (k + 1) (st n) (n : Int) = some r) (k : Nat) (hk : n < k) : E k (st 0) 0 = some r := by
  obtain ⟨q, hq, h⟩ := pp_lp E n (fun i s => s = st i) (fun q => q = r) (fun k s i hi h => .inl ⟨st (i + 1), rfl, by rw [h]; exact hs k i hi⟩) (fun k s h => ⟨r, rfl, by rw [h]; exact he k⟩) n 0 (st 0) k (by omega) (by omega) rfl hk
  rw [← hq]; simpa using h
/-- .. that fills a row. -/
theorem pp_fill {α β : Type} (L : Nat → List β → Int → Option (List β)) (g : α → β) (xs : List α) (z : β)
    (hs : ∀ k out (i : Nat) (h : i < xs.length), out.length = xs.length → L (k + 1) out (i : Int) = L k (out.set i (g xs[i])) ((i : Int) + 1)) (he : ∀ k out, L (k + 1) out (xs.length : Int) = some out)
    (k : Nat) (hk : xs.length < k) : L k (List.replicate xs.length z) 0 = some (xs.map g) := by
  obtain ⟨r, hr, h⟩ := pp_lp L xs.length (fun i out => out.length = xs.length ∧ out.take i = (xs.map g).take i) (fun r => r = xs.map g)
    (fun k out i hi ⟨h1, h2⟩ => .inl ⟨out.set i (g xs[i]), ⟨by simpa using h1, by
      rw [List.take_succ_eq_append_getElem (by simpa [h1] using hi), List.take_succ_eq_append_getElem (by simpa using hi), List.take_set_of_le (by omega), h2]
      simp⟩, hs k out i hi h1⟩)
    (fun k out ⟨h1, h2⟩ => ⟨out, by
      rw [List.take_of_length_le (by omega), List.take_of_length_le (by simp)] at h2
      exact h2, he k out⟩) xs.length 0 (List.replicate xs.length z) k (by omega) (by omega) ⟨by simp, by simp⟩ hk
  rw [← hr]; simpa using h
theorem pp_getD {α : Type} (l : List α) (i : Nat) (z : α) (h : i < l.length) : l.getD (i : Int).toNat z = l[i] := by
  simp [List.getD_eq_getElem?_getD, List.getElem?_eq_getElem h]
theorem pp_rd {l : List Int} {i : Nat} (h : i < l.length) : rd l (i : Int) = l[i] := pp_getD l i 0 h

/-- With enough rounds g answers, and P holds of the answer. -/
def Evs {α : Type} (g : Nat → Option α) (P : α → Prop) : Prop := ∃ r K, P r ∧ ∀ k, K ≤ k → g k = some r
theorem Evs.now {α : Type} {P : α → Prop} {r : α} (h : P r) : Evs (fun _ => some r) P := ⟨r, 0, h, fun _ _ => rfl⟩
theorem Evs.bnd {α β : Type} {g : Nat → Option α} {f : Nat → α → Option β} {P : α → Prop} {Q : β → Prop} (h : Evs g P) (k : ∀ a, P a → Evs (fun n => f n a) Q) : Evs (fun n => (g n).bind (f n)) Q := by
  obtain ⟨a, K, hP, h⟩ := h
  obtain ⟨r, K', hQ, k⟩ := k a hP
  refine ⟨r, max K K', hQ, fun n hn => ?_⟩
  show (g n).bind (f n) = some r
  rw [h n (by omega)]
  exact k n (by omega)
theorem Evs.step {α : Type} {g f : Nat → Option α} {P : α → Prop} (h : ∀ k, g (k + 1) = f k) (k : Evs f P) : Evs g P := by
  obtain ⟨r, K, hP, k⟩ := k
  refine ⟨r, K + 1, hP, fun n hn => ?_⟩
  obtain ⟨m, rfl⟩ : ∃ m, n = m + 1 := ⟨n - 1, by omega⟩
  rw [h]
  exact k m (by omega)
theorem Evs.cong {α : Type} {g f : Nat → Option α} {P : α → Prop} (h : ∀ k, g k = f k) (k : Evs f P) : Evs g P := by
  obtain ⟨r, K, hP, k⟩ := k
  exact ⟨r, K, hP, fun n hn => (h n).trans (k n hn)⟩
theorem Evs.imp {α : Type} {g : Nat → Option α} {P Q : α → Prop} (h : Evs g P) (hq : ∀ r, P r → Q r) : Evs g Q := by
  obtain ⟨r, K, hP, k⟩ := h
  exact ⟨r, K, hq r hP, k⟩
theorem Evs.of {α : Type} {g : Nat → Option α} {r : α} (K : Nat) (h : ∀ k, K ≤ k → g k = some r) : Evs g (fun q => q = r) := ⟨r, K, rfl, h⟩
theorem Evs.ends {α : Type} {g : Nat → Option α} {r : α} (h : Evs g (fun q => q = r)) : ∃ k, g k = some r := by
  obtain ⟨q, K, rfl, k⟩ := h
  exact ⟨K, k K (Nat.le_refl _)⟩
theorem Evs.pos {α : Type} {g f : Nat → Option α} {c : Prop} [Decidable c] {P : α → Prop} (hc : c) (h : Evs g P) : Evs (fun k => if c then g k else f k) P := h.cong (fun k => if_pos hc)
theorem Evs.neg {α : Type} {g f : Nat → Option α} {c : Prop} [Decidable c] {P : α → Prop} (hc : ¬ c) (h : Evs f P) : Evs (fun k => if c then g k else f k) P := h.cong (fun k => if_neg hc)
theorem Evs.ite {α : Type} {g f : Nat → Option α} {c : Prop} [Decidable c] {P : α → Prop} (h : c → Evs g P) (h' : ¬ c → Evs f P) : Evs (fun k => if c then g k else f k) P := by
  by_cases hc : c
  · exact Evs.pos hc (h hc)
  · exact Evs.neg hc (h' hc)
/-- A loop that counts up. -/
theorem Evs.up {σ ρ : Type} (E : Nat → σ → Int → Option ρ) (n : Nat) (Inv : Nat → σ → Prop) (Post : ρ → Prop)
    (hs : ∀ s (i : Nat), i < n → Inv i s → (∀ s', Inv (i + 1) s' → Evs (fun k => E k s' ((i : Int) + 1)) Post) → Evs (fun k => E k s (i : Int)) Post)
    (he : ∀ s, Inv n s → Evs (fun k => E k s (n : Int)) Post) : ∀ s, Inv 0 s → Evs (fun k => E k s 0) Post := by
  have key : ∀ (d i : Nat) (s : σ), n - i = d → i ≤ n → Inv i s → Evs (fun k => E k s (i : Int)) Post := by
    intro d
    induction d with
    | zero =>
      intro i s hd hi hI
      obtain rfl : i = n := by omega
      exact he s hI
    | succ d ih =>
      intro i s hd hi hI
      exact hs s i (by omega) hI (fun s' hI' => by simpa using ih (i + 1) s' (by omega) (by omega) hI')
  intro s hI
  simpa using key n 0 s (by omega) (by omega) hI

/-- Whether a border beats another one. -/
def ppBeats (s1 w1 s2 w2 : Int) : Bool := if s1 = 4 ∨ s2 = 4 then decide (s1 = 4 ∧ s2 ≠ 4) else if w1 = w2 then decide (s1 > s2) else decide (w1 > w2)
theorem pp_specBeats (a b c d : Int) (k : Nat) (hk : 0 < k) : spec_BrdBeats.f k a b c d = some (ppBeats a b c d) := by
  obtain ⟨k, rfl⟩ : ∃ q, k = q + 1 := ⟨k - 1, by omega⟩
  unfold spec_BrdBeats.f ppBeats
  simp only [spec_BrdBeats.j0, if_true]
  by_cases ha : a = 4 <;> by_cases hc : c = 4 <;> by_cases h : b = d <;> simp [ha, hc, h]
theorem pp_implBeats (a b c d : Int) (k : Nat) (hk : 0 < k) : impl_BrdBeats.f k a b c d = some (ppBeats a b c d) := by
  obtain ⟨k, rfl⟩ : ∃ q, k = q + 1 := ⟨k - 1, by omega⟩
  unfold impl_BrdBeats.f ppBeats
  simp only [impl_BrdBeats.j0, if_true]
  by_cases ha : a = 4 <;> by_cases hc : c = 4 <;> by_cases h : b = d <;> simp [ha, hc, h]

theorem pp_rdBF {l : List S36} {i : Nat} (h : i < l.length) : rd_T36 l (i : Int) = l[i] := pp_getD l i _ h
/-- The better of two: the first one, if the other one does not beat it. -/
def ppBetter (a b : S36) : S36 := if ppBeats b.f0.f0 b.f0.f1 a.f0.f0 a.f0.f1 = true then b else a
theorem ppBetter_pos (a b : S36) (h : ppBeats b.f0.f0 b.f0.f1 a.f0.f0 a.f0.f1 = true) : ppBetter a b = b := if_pos h
theorem ppBetter_neg (a b : S36) (h : ¬ ppBeats b.f0.f0 b.f0.f1 a.f0.f0 a.f0.f1 = true) : ppBetter a b = a := if_neg h
/-- The best of a list. -/
def ppBest : List S36 → S36
  | [] => ⟨⟨0, 0⟩, -1⟩
  | x :: xs => xs.foldl ppBetter x
def ppT (x : S36) : Int × Int × Int := (x.f0.f0, x.f0.f1, x.f1)
theorem pp_best_take (x : S36) (xs : List S36) (i : Nat) (h : i < xs.length) : (xs.take (i + 1)).foldl ppBetter x = ppBetter ((xs.take i).foldl ppBetter x) xs[i] := by
  rw [List.take_succ_eq_append_getElem h, List.foldl_append]
  rfl
theorem ppBeats_self (a b : Int) : ppBeats a b a b = false := by
  unfold ppBeats
  by_cases h : a = 4 <;> simp [h]
theorem pp_implBest (l : List S36) (hl : l.length ≤ 9223372036854775807) : Evs (fun k => impl_BrdBest.f k l) (fun r => r = ppT (ppBest l)) := by
  unfold impl_BrdBest.f
  cases l with
  | nil => exact Evs.pos rfl (Evs.now rfl)
  | cons x xs =>
    have hL : (x :: xs).length = xs.length + 1 := rfl
    have h0 : rd_T36 (x :: xs) 0 = x := rfl
    refine Evs.neg (by omega) (Evs.pos (by omega) ?_)
    rw [h0]
    refine Evs.up (fun k (s : Int × Int × Int) i => impl_BrdBest.l0 k (x :: xs) ((x :: xs).length : Int) i s.1 s.2.1 s.2.2) (x :: xs).length (fun i s => s = ppT ((xs.take (i - 1)).foldl ppBetter x)) _ ?_ ?_ (x.f0.f0, x.f0.f1, x.f1) rfl
    · intro s i hi hI hn
      refine Evs.step (fun k => by simp only [impl_BrdBest.l0]; rw [if_pos (by omega), if_pos (by omega), if_pos (by omega), pp_rdBF hi, pp_wrap_id _ (by omega) (by omega)]; try rfl) ?_
      refine Evs.bnd (Evs.of 1 fun k hk => pp_implBeats _ _ _ _ k (by omega)) ?_
      rintro _ rfl
      by_cases hz : i = 0
      · subst hz
        rw [hI]
        refine Evs.neg (by simp [ppT, ppBeats_self]) (hn _ (by simp))
      · obtain ⟨j, rfl⟩ : ∃ j, i = j + 1 := ⟨i - 1, by omega⟩
        have hj : j < xs.length := by omega
        have e : (x :: xs)[j + 1] = xs[j] := rfl
        rw [hI, e]
        simp only [Nat.add_sub_cancel] at hn ⊢
        refine Evs.ite (fun hb => hn (xs[j].f0.f0, xs[j].f0.f1, xs[j].f1) ?_) (fun hb => hn _ ?_)
        · rw [pp_best_take x xs j hj]
          rw [ppBetter_pos _ _ hb]
          rfl
        · rw [pp_best_take x xs j hj]
          rw [ppBetter_neg _ _ hb]
    · intro s hI
      refine Evs.step (f := fun _ => some s) (fun k => by simp only [impl_BrdBest.l0]; rw [if_neg (by omega)]) (Evs.now ?_)
      rw [hI, List.take_of_length_le (by simp)]
      rfl
theorem pp_specBest (l : List S36) (hl : l.length ≤ 9223372036854775807) : Evs (fun k => spec_BrdBest.f k l) (fun r => r = ppT (ppBest l)) := by
  unfold spec_BrdBest.f
  refine Evs.up (fun k (s : Int × Int × Int) i => spec_BrdBest.l0 k l i s.1 s.2.1 s.2.2) l.length (fun i s => s = ppT (ppBest (l.take i))) _ ?_ ?_ (0, 0, -1) (by simp [ppBest, ppT])
  · intro s i hi hI hn
    refine Evs.step (fun k => by simp only [spec_BrdBest.l0]; rw [if_pos (by omega), pp_rdBF hi, pp_wrap_id _ (by omega) (by omega)]; try rfl) ?_
    refine Evs.ite (fun hz => Evs.pos (by omega) (hn (l[i].f0.f0, l[i].f0.f1, l[i].f1) ?_)) (fun hz => Evs.pos (by omega) ?_)
    · have hz' : i = 0 := by omega
      subst hz'
      rw [List.take_succ_eq_append_getElem hi]
      simp [ppBest, ppT]
    · refine Evs.bnd (Evs.of 1 fun k hk => pp_specBeats _ _ _ _ k (by omega)) ?_
      rintro _ rfl
      cases l with
      | nil => simp at hi
      | cons x xs =>
        obtain ⟨j, rfl⟩ : ∃ j, i = j + 1 := ⟨i - 1, by omega⟩
        have hj : j < xs.length := by simpa using hi
        have e : (x :: xs)[j + 1] = xs[j] := rfl
        have e1 : ppBest ((x :: xs).take (j + 1)) = (xs.take j).foldl ppBetter x := rfl
        have e2 : ppBest ((x :: xs).take (j + 1 + 1)) = (xs.take (j + 1)).foldl ppBetter x := rfl
        rw [hI, e, e1]
        refine Evs.ite (fun hb => hn (xs[j].f0.f0, xs[j].f0.f1, xs[j].f1) ?_) (fun hb => hn _ ?_)
        · rw [e2, pp_best_take x xs j hj]
          rw [ppBetter_pos _ _ hb]
          rfl
        · rw [e2, pp_best_take x xs j hj]
          rw [ppBetter_neg _ _ hb]
  · intro s hI
    refine Evs.step (f := fun _ => some s) (fun k => by simp only [spec_BrdBest.l0]; rw [if_neg (by omega)]) (Evs.now ?_)
    rw [hI, List.take_of_length_le (Nat.le_refl _)]

/-- What a reader reads: bytes, no more than 2000. -/
def ppRd (l : List Int) : Prop := l.length ≤ 2000 ∧ ∀ x ∈ l, 0 ≤ x ∧ x ≤ 255
theorem pp_u8 (l : List Int) (h : ∀ x ∈ l, (Lit.int .u8 x).wf = true) : ∀ x ∈ l, 0 ≤ x ∧ x ≤ 255 := by
  intro x hx
  have := h x hx
  simp [Lit.wf, IntKind.min, IntKind.max, IntKind.signed, IntKind.bits] at this
  omega
theorem pp_rdb (l : List Int) (h : ∀ x ∈ l, 0 ≤ x ∧ x ≤ 255) (i : Int) : 0 ≤ rd l i ∧ rd l i ≤ 255 := by
  unfold rd
  rw [List.getD_eq_getElem?_getD]
  cases e : l[i.toNat]? with
  | none => simp
  | some v => exact h v (List.mem_of_getElem? e)
theorem pp_open (l : List Int) (h : ∀ x ∈ l, (Lit.int .u8 x).wf = true) : ∃ b, spec_l20Open.f l = some (b, 0) ∧ ppRd b := by
  unfold spec_l20Open.f
  by_cases hl : (l.length : Int) > 2000
  · rw [if_pos hl, if_pos (by omega)]
    exact ⟨_, rfl, by rw [List.length_take]; omega, fun x hx => pp_u8 l h x (List.mem_of_mem_take hx)⟩
  · rw [if_neg hl]
    exact ⟨_, rfl, by omega, pp_u8 l h⟩
theorem pp_xor (x y : Int) (hx : 0 ≤ x) (hy : 0 ≤ y) (hx' : x < 4611686018427387904) (hy' : y < 4611686018427387904) : 0 ≤ Go.bits .xor .i64 x y ∧ Go.bits .xor .i64 x y < 4611686018427387904 := by
  obtain ⟨a, rfl⟩ : ∃ a : Nat, x = a := ⟨x.toNat, by omega⟩
  obtain ⟨b, rfl⟩ : ∃ b : Nat, y = b := ⟨y.toNat, by omega⟩
  have ha : a % 2 ^ 64 = a := Nat.mod_eq_of_lt (by omega)
  have hb : b % 2 ^ 64 = b := Nat.mod_eq_of_lt (by omega)
  have hlt : a ^^^ b < 2 ^ 62 := Nat.xor_lt_two_pow (by omega) (by omega)
  have e : Go.bits .xor .i64 (a : Int) (b : Int) = IntKind.i64.wrap ((a ^^^ b : Nat) : Int) := by
    have q : (BitVec.ofNat 64 a ^^^ BitVec.ofNat 64 b).toNat = a ^^^ b := by rw [BitVec.toNat_xor, BitVec.toNat_ofNat, BitVec.toNat_ofNat, ha, hb]
    simp only [Go.bits, BitVec.ofInt_natCast, IntKind.bits]
    exact congrArg (fun z : Nat => IntKind.i64.wrap (z : Int)) q
  rw [e, IntKind.wrap_i64]
  omega
theorem pp_pick (l : List Int) (h : ppRd l) (p n : Int) (hp : 0 ≤ p) (hp' : p ≤ 1000000000) (hn : n ≤ 1000000) :
    Evs (fun k => spec_l20Rd_pick.f k l p n) (fun r => r.2 = p + 1 ∧ 0 ≤ r.1 ∧ (n < 1 → r.1 = 0) ∧ (1 ≤ n → r.1 < n)) := by
  obtain ⟨hl, hb⟩ := h
  have e1 : wrap64 (p + 1) = p + 1 := pp_wrap_id _ (by omega) (by omega)
  have e2 : wrap64 (p + 1 - 1) = p := by rw [show p + 1 - 1 = p by omega]; exact pp_wrap_id _ (by omega) (by omega)
  unfold spec_l20Rd_pick.f
  rw [e1]
  by_cases h1 : n < 1
  · refine Evs.cong (fun k => if_pos h1) (Evs.step (f := fun _ => some (0, p + 1)) (fun k => by simp only [spec_l20Rd_pick.j0, if_true]) (Evs.now ⟨rfl, by simp, fun _ => rfl, fun h => by omega⟩))
  · refine Evs.cong (fun k => if_neg h1) ?_
    by_cases h0 : l.length = 0
    · refine Evs.step (f := fun _ => some (0, p + 1)) (fun k => by simp only [spec_l20Rd_pick.j0]; rw [if_pos (by simp [h0])]) (Evs.now ⟨rfl, by simp, fun _ => rfl, fun h => by simp; omega⟩)
    · have hne : (((l.length : Int) == 0) = true) = False := by
        have : l ≠ [] := fun e => h0 (by rw [e]; rfl)
        simpa using this
      by_cases hlt : p < (l.length : Int)
      · have hr := pp_rdb l hb p
        have hm := Int.emod_nonneg (rd l p) (show n ≠ 0 by omega)
        have hm' := Int.emod_lt_of_pos (rd l p) (show 0 < n by omega)
        refine Evs.step (f := fun _ => some (Int.tmod (rd l p) n, p + 1)) (fun k => by
          simp only [spec_l20Rd_pick.j0, e2, hne, if_false]
          rw [if_pos hlt, if_pos hp, if_neg (show ¬ n = 0 by omega), pp_wrap_id (rd l p) (by omega) (by omega)]) (Evs.now ⟨rfl, ?_, fun h => absurd h h1, fun _ => ?_⟩)
        · simp only [Int.tmod_eq_emod_of_nonneg hr.1]; exact hm
        · simp only [Int.tmod_eq_emod_of_nonneg hr.1]; exact hm'
      · have hL : (0 : Int) < (l.length : Int) := by omega
        have ei : Int.tmod p (l.length : Int) = p % (l.length : Int) := Int.tmod_eq_emod_of_nonneg hp
        have ed : Int.tdiv p (l.length : Int) = p / (l.length : Int) := Int.tdiv_eq_ediv_of_nonneg hp
        have i0 := Int.emod_nonneg p (show (l.length : Int) ≠ 0 by omega)
        have i1 := Int.emod_lt_of_pos p hL
        have d0 : 0 ≤ p / (l.length : Int) := Int.ediv_nonneg hp (by omega)
        have d1 : p / (l.length : Int) ≤ p := Int.ediv_le_self _ hp
        have e7 : wrap64 (wrap64 (p * 7) + 3) = p * 7 + 3 := by rw [pp_wrap_id (p * 7) (by omega) (by omega), pp_wrap_id _ (by omega) (by omega)]
        have ej : Int.tmod (p * 7 + 3) (l.length : Int) = (p * 7 + 3) % (l.length : Int) := Int.tmod_eq_emod_of_nonneg (by omega)
        have j0 := Int.emod_nonneg (p * 7 + 3) (show (l.length : Int) ≠ 0 by omega)
        have j1 := Int.emod_lt_of_pos (p * 7 + 3) hL
        obtain ⟨u, hu⟩ : ∃ u, u = rd l (p % (l.length : Int)) := ⟨_, rfl⟩
        obtain ⟨v, hv⟩ : ∃ v, v = rd l ((p * 7 + 3) % (l.length : Int)) := ⟨_, rfl⟩
        have hu' : 0 ≤ u ∧ u ≤ 255 := by rw [hu]; exact pp_rdb l hb _
        have hv' : 0 ≤ v ∧ v ≤ 255 := by rw [hv]; exact pp_rdb l hb _
        obtain ⟨dq, hdq⟩ : ∃ dq, dq = p / (l.length : Int) := ⟨_, rfl⟩
        rw [← hdq] at d0 d1
        have w1 : wrap64 u = u := pp_wrap_id _ (by omega) (by omega)
        have w2 : wrap64 (u * 131) = u * 131 := pp_wrap_id _ (by omega) (by omega)
        have w3 : wrap64 v = v := pp_wrap_id _ (by omega) (by omega)
        have w4 : wrap64 (v * 1117) = v * 1117 := pp_wrap_id _ (by omega) (by omega)
        have w5 : wrap64 (u * 131 + v * 1117) = u * 131 + v * 1117 := pp_wrap_id _ (by omega) (by omega)
        have w6 : wrap64 (p * 29) = p * 29 := pp_wrap_id _ (by omega) (by omega)
        have w7 : wrap64 (u * 131 + v * 1117 + p * 29) = u * 131 + v * 1117 + p * 29 := pp_wrap_id _ (by omega) (by omega)
        have w8 : wrap64 dq = dq := pp_wrap_id _ (by omega) (by omega)
        have w9 : wrap64 (dq * 53) = dq * 53 := pp_wrap_id _ (by omega) (by omega)
        have wa : wrap64 (u * 131 + v * 1117 + p * 29 + dq * 53) = u * 131 + v * 1117 + p * 29 + dq * 53 := pp_wrap_id _ (by omega) (by omega)
        obtain ⟨x, hx⟩ : ∃ x, x = u * 131 + v * 1117 + p * 29 + dq * 53 := ⟨_, rfl⟩
        have x0 : 0 ≤ x := by omega
        have x1 : x < 4611686018427387904 := by omega
        have wx : wrap64 x = x := pp_wrap_id _ (by omega) (by omega)
        have ex : Int.tdiv x 64 = x / 64 := Int.tdiv_eq_ediv_of_nonneg x0
        have wb : wrap64 (x / 64) = x / 64 := pp_wrap_id _ (by omega) (by omega)
        have hz := pp_xor x (x / 64) x0 (by omega) x1 (by omega)
        have hm := Int.emod_nonneg (Go.bits .xor .i64 x (x / 64)) (show n ≠ 0 by omega)
        have hm' := Int.emod_lt_of_pos (Go.bits .xor .i64 x (x / 64)) (show 0 < n by omega)
        refine Evs.step (f := fun _ => some (Int.tmod (Go.bits .xor .i64 x (x / 64)) n, p + 1)) (fun k => by
          simp only [spec_l20Rd_pick.j0, e2, hne, if_false, ei, ed, e7, ej, ← hu, ← hv, ← hdq, w1, w2, w3, w4, w5, w6, w7, w8, w9, wa, ← hx, wx, ex, wb]
          rw [if_neg hlt, if_neg (by omega), if_pos i0, if_pos i1, if_pos j0, if_pos j1, if_neg (by omega)]) (Evs.now ⟨rfl, ?_, fun h => absurd h h1, fun _ => ?_⟩)
        · simp only [Int.tmod_eq_emod_of_nonneg hz.1]; exact hm
        · simp only [Int.tmod_eq_emod_of_nonneg hz.1]; exact hm'

theorem pp_brd_j1 (l : List Int) (h : ppRd l) (n p s w : Int) (hn : n ≤ 1000000) (hp : 0 ≤ p) (hp' : p ≤ 900000000) (hs : -1 ≤ s ∧ s ≤ 5) (hw : -1 ≤ w ∧ w ≤ 4) :
    Evs (fun k => spec_l20Brd.j1 k n l p s w) (fun r => (-1 ≤ r.1 ∧ r.1 ≤ 5) ∧ (-1 ≤ r.2.1 ∧ r.2.1 ≤ 4) ∧ p ≤ r.2.2 ∧ r.2.2 ≤ p + 3) := by
  refine Evs.step (fun k => by simp only [spec_l20Brd.j1]; try rfl) ?_
  refine Evs.bnd (pp_pick l h p n hp (by omega) (by omega)) ?_
  rintro ⟨v, q⟩ ⟨hq, h0, _, _⟩
  simp only at hq h0 ⊢
  refine Evs.ite (fun _ => ?_) (fun _ => Evs.now ⟨hs, hw, by simp only; omega, by simp only; omega⟩)
  refine Evs.bnd (pp_pick l h q 2 (by omega) (by omega) (by omega)) ?_
  rintro ⟨v2, q2⟩ ⟨hq2, h02, _, _⟩
  simp only at hq2 h02 ⊢
  refine Evs.ite (fun _ => ?_) (fun _ => ?_)
  · simp only [Option.bind_some]
    refine Evs.bnd (pp_pick l h q2 3 (by omega) (by omega) (by omega)) ?_
    rintro ⟨v3, q3⟩ ⟨hq3, h03, _, h13⟩
    simp only at hq3 h03 h13 ⊢
    have h13 := h13 (by omega)
    refine Evs.pos h03 (Evs.pos (by simp; omega) (Evs.now ⟨?_, hw, by simp only; omega, by simp only; omega⟩))
    have : v3 = 0 ∨ v3 = 1 ∨ v3 = 2 := by omega
    rcases this with rfl | rfl | rfl <;> simp [rd]
  · simp only [Option.bind_some]
    refine Evs.bnd (pp_pick l h q2 4 (by omega) (by omega) (by omega)) ?_
    rintro ⟨v3, q3⟩ ⟨hq3, h03, _, h13⟩
    simp only at hq3 h03 h13 ⊢
    have h13 := h13 (by omega)
    refine Evs.pos h03 (Evs.pos (by simp; omega) (Evs.now ⟨hs, ?_, by simp only; omega, by simp only; omega⟩))
    have : v3 = 0 ∨ v3 = 1 ∨ v3 = 2 ∨ v3 = 3 := by omega
    rcases this with rfl | rfl | rfl | rfl <;> simp [rd]
theorem pp_brd (l : List Int) (h : ppRd l) (n p : Int) (hn : n ≤ 1000000) (hp : 0 ≤ p) (hp' : p ≤ 800000000) :
    Evs (fun k => spec_l20Brd.f k l p n) (fun r => (-1 ≤ r.1 ∧ r.1 ≤ 5) ∧ (-1 ≤ r.2.1 ∧ r.2.1 ≤ 4) ∧ p ≤ r.2.2 ∧ r.2.2 ≤ p + 6) := by
  have two : ∀ q, p ≤ q → q ≤ p + 1 → Evs (fun k => (spec_l20Rd_pick.f k l q 3).bind fun a => (spec_l20Rd_pick.f k l a.2 3).bind fun b => spec_l20Brd.j1 k n l b.2 (wrap64 (1 + a.1)) (wrap64 (1 + b.1))) (fun r => (-1 ≤ r.1 ∧ r.1 ≤ 5) ∧ (-1 ≤ r.2.1 ∧ r.2.1 ≤ 4) ∧ p ≤ r.2.2 ∧ r.2.2 ≤ p + 6) := by
    intro q hq0 hq1
    refine Evs.bnd (pp_pick l h q 3 (by omega) (by omega) (by omega)) ?_
    rintro ⟨v2, q2⟩ ⟨hq2, h02, _, h12⟩
    simp only at hq2 h02 h12 ⊢
    have h12 := h12 (by omega)
    refine Evs.bnd (pp_pick l h q2 3 (by omega) (by omega) (by omega)) ?_
    rintro ⟨v3, q3⟩ ⟨hq3, h03, _, h13⟩
    simp only at hq3 h03 h13 ⊢
    have h13 := h13 (by omega)
    rw [pp_wrap_id (1 + v2) (by omega) (by omega), pp_wrap_id (1 + v3) (by omega) (by omega)]
    exact (pp_brd_j1 l h n q3 _ _ hn (by omega) (by omega) ⟨by omega, by omega⟩ ⟨by omega, by omega⟩).imp fun r ⟨a, b, c, d⟩ => ⟨a, b, by omega, by omega⟩
  unfold spec_l20Brd.f
  refine Evs.bnd (pp_pick l h p 4 hp (by omega) (by omega)) ?_
  rintro ⟨v, q⟩ ⟨hq, h0, _, h1⟩
  simp only at hq h0 h1 ⊢
  refine Evs.ite (fun hv => ?_) (fun hv => ?_)
  · refine Evs.step (fun k => by simp only [spec_l20Brd.j0]; rw [if_pos (by simp [hv])]; try rfl) ?_
    exact two q (by omega) (by omega)
  · by_cases hv1 : v = 1
    · refine Evs.step (fun k => by simp only [spec_l20Brd.j0]; rw [if_pos (by simp [hv1])]; try rfl) ?_
      exact two q (by omega) (by omega)
    · refine Evs.step (fun k => by simp only [spec_l20Brd.j0]; rw [if_neg (by simp [hv1])]; try rfl) ?_
      refine Evs.ite (fun _ => ?_) (fun _ => (pp_brd_j1 l h n q 0 0 hn (by omega) (by omega) ⟨by omega, by omega⟩ ⟨by omega, by omega⟩).imp fun r ⟨a, b, c, d⟩ => ⟨a, b, by omega, by omega⟩)
      refine Evs.bnd (pp_pick l h q 3 (by omega) (by omega) (by omega)) ?_
      rintro ⟨v2, q2⟩ ⟨hq2, h02, _, h12⟩
      simp only at hq2 h02 h12 ⊢
      refine Evs.ite (fun _ => ?_) (fun _ => ?_)
      · exact (pp_brd_j1 l h n q2 _ _ hn (by omega) (by omega) ⟨by omega, by omega⟩ ⟨by omega, by omega⟩).imp fun r ⟨a, b, c, d⟩ => ⟨a, b, by omega, by omega⟩
      · exact (pp_brd_j1 l h n q2 _ _ hn (by omega) (by omega) ⟨by omega, by omega⟩ ⟨by omega, by omega⟩).imp fun r ⟨a, b, c, d⟩ => ⟨a, b, by omega, by omega⟩

theorem pp_abc : Txt.ppTxtOk (⟨#[97, 98, 32, 99]⟩ : ByteArray) = true := by kernel_rfl
theorem pp_pwOk : laws_pwOk.f = some true := by
  unfold laws_pwOk.f impl_TxtOk.f
  rw [if_pos (by decide), pp_abc]
  rfl

theorem pp_drawBest (l : List Int) (h : ∀ x ∈ l, (Lit.int .u8 x).wf = true) : Evs (fun k => spec_DrawBrdBest.f k l) (fun r => r.length ≤ 5) := by
  obtain ⟨b, e, hb⟩ := pp_open l h
  unfold spec_DrawBrdBest.f
  rw [e]
  simp only [Option.bind_some]
  refine Evs.bnd (pp_pick b hb 0 5 (by omega) (by omega) (by omega)) ?_
  rintro ⟨v, q⟩ ⟨hq, h0, _, h1⟩
  simp only at hq h0 h1 ⊢
  have h1 := h1 (by omega)
  have loop : ∀ (d : Nat) (x4 : List S36) (p : Int), x4.length + d ≤ 5 → 0 ≤ p → p + 10 * (d : Int) ≤ 1000 → Evs (fun k => spec_DrawBrdBest.l0 k x4 (d : Int) b p) (fun r => r.length ≤ 5) := by
    intro d
    induction d with
    | zero =>
      intro x4 p hx hp hp'
      exact Evs.step (f := fun _ => some x4) (fun k => by simp only [spec_DrawBrdBest.l0]; rw [if_neg (by omega)]) (Evs.now (by omega))
    | succ d ih =>
      intro x4 p hx hp hp'
      refine Evs.step (fun k => by simp only [spec_DrawBrdBest.l0]; rw [if_pos (by omega), pp_wrap_id (((d + 1 : Nat) : Int) - 1) (by omega) (by omega), show ((d + 1 : Nat) : Int) - 1 = (d : Int) by omega]) ?_
      refine Evs.bnd (pp_brd b hb 24 p (by omega) hp (by omega)) ?_
      rintro ⟨s, w, p2⟩ ⟨_, _, g0, g1⟩
      simp only at g0 g1 ⊢
      refine Evs.bnd (pp_pick b hb p2 9 (by omega) (by omega) (by omega)) ?_
      rintro ⟨v3, q3⟩ ⟨e3, _, _, _⟩
      simp only at e3 ⊢
      exact Evs.pos (by omega) (ih _ _ (by simp; omega) (by omega) (by omega))
  have := loop v.toNat [] q (by simp; omega) (by omega) (by omega)
  rw [show ((v.toNat : Nat) : Int) = v by omega] at this
  exact this
theorem ppBeats_iff (a b c d : Int) : ppBeats a b c d = true ↔ ((a = 4 ∧ c ≠ 4) ∨ (a ≠ 4 ∧ c ≠ 4 ∧ (b > d ∨ (b = d ∧ a > c)))) := by
  unfold ppBeats
  by_cases h1 : a = 4 <;> by_cases h2 : c = 4 <;> by_cases h3 : b = d <;> simp [h1, h2, h3]
abbrev ppOver (x y : S36) : Prop := ppBeats x.f0.f0 x.f0.f1 y.f0.f0 y.f0.f1 = true
theorem ppOver_trans (x y z : S36) (h : ppOver x y) (h' : ¬ ppOver z y) : ppOver x z := by
  unfold ppOver at *
  rw [ppBeats_iff] at *
  omega
theorem ppOver_not (x y z : S36) (h : ppOver x y) (h' : ¬ ppOver z y) : ¬ ppOver z x := by
  unfold ppOver at *
  rw [ppBeats_iff] at *
  omega
/-- B is at place n, none beats it, it beats all ahead. -/
def ppTop (l : List S36) (B : S36) (n : Nat) : Prop := l[n]? = some B ∧ (∀ (i : Nat) (y : S36), l[i]? = some y → ¬ ppOver y B) ∧ ∀ (i : Nat) (y : S36), i < n → l[i]? = some y → ppOver B y
theorem ppTop_fold (xs : List S36) : ∀ (ys : List S36) (B : S36) (n : Nat), ppTop ys B n → ∃ m, ppTop (ys ++ xs) (xs.foldl ppBetter B) m := by
  induction xs with
  | nil => intro ys B n h; exact ⟨n, by simpa using h⟩
  | cons x xs ih =>
    intro ys B n ⟨h1, h2, h3⟩
    have hn : n < ys.length := by
      rcases Nat.lt_or_ge n ys.length with q | q
      · exact q
      · rw [List.getElem?_eq_none q] at h1; exact absurd h1 (by simp)
    rw [List.append_cons ys x xs]
    by_cases hb : ppOver x B
    · have e : (x :: xs).foldl ppBetter B = xs.foldl ppBetter x := by
        show xs.foldl ppBetter (ppBetter B x) = _
        rw [ppBetter_pos B x hb]
      rw [e]
      refine ih (ys ++ [x]) x ys.length ⟨by simp, fun i y hy => ?_, fun i y hi hy => ?_⟩
      · rcases Nat.lt_or_ge i ys.length with q | q
        · rw [List.getElem?_append_left q] at hy
          exact ppOver_not x B y hb (h2 i y hy)
        · rw [List.getElem?_append_right q] at hy
          have : y = x := by
            have := List.mem_of_getElem? hy
            simpa using this
          rw [this]
          unfold ppOver
          rw [ppBeats_self]
          simp
      · rw [List.getElem?_append_left hi] at hy
        exact ppOver_trans x B y hb (h2 i y hy)
    · have e : (x :: xs).foldl ppBetter B = xs.foldl ppBetter B := by
        show xs.foldl ppBetter (ppBetter B x) = _
        rw [ppBetter_neg B x hb]
      rw [e]
      refine ih (ys ++ [x]) B n ⟨by rw [List.getElem?_append_left hn]; exact h1, fun i y hy => ?_, fun i y hi hy => ?_⟩
      · rcases Nat.lt_or_ge i ys.length with q | q
        · rw [List.getElem?_append_left q] at hy
          exact h2 i y hy
        · rw [List.getElem?_append_right q] at hy
          have : y = x := by
            have := List.mem_of_getElem? hy
            simpa using this
          rw [this]
          exact hb
      · rw [List.getElem?_append_left (by omega)] at hy
        exact h3 i y hi hy
theorem ppTop_best (l : List S36) (h : l ≠ []) : ∃ m, ppTop l (ppBest l) m := by
  cases l with
  | nil => exact absurd rfl h
  | cons x xs =>
    have := ppTop_fold xs [x] x 0 ⟨rfl, fun i y hy => by
      have : y = x := by
        have := List.mem_of_getElem? hy
        simpa using this
      rw [this]
      unfold ppOver
      rw [ppBeats_self]
      simp, fun i y hi => absurd hi (Nat.not_lt_zero _)⟩
    exact this
theorem FnBrdBest : ∀ (l0 : List (Int)), (l0.length ≤ 9223372036854775807 ∧ ∀ (x : Int), x ∈ l0 → (Lit.int .u8 x).wf = true) → ∃ k, laws_FnBrdBest.f k l0 = some true := by
  intro l ⟨hl, hw⟩
  refine Evs.ends ?_
  unfold laws_FnBrdBest.f
  refine Evs.ite (fun _ => Evs.now rfl) (fun _ => ?_)
  refine Evs.bnd (pp_drawBest l hw) ?_
  intro L hL
  refine Evs.bnd (pp_implBest L (by omega)) ?_
  rintro _ rfl
  refine Evs.bnd (pp_specBest L (by omega)) ?_
  rintro _ rfl
  refine Evs.neg (by simp) ?_
  have fin : Evs (fun k => (laws_pwOk.f).bind fun t => some t) (fun q => q = true) := by
    rw [pp_pwOk]; exact Evs.now rfl
  by_cases h0 : L = []
  · subst h0
    refine Evs.pos rfl (Evs.pos (by simp [ppBest, ppT]) fin)
  · have hne : 0 < L.length := List.length_pos_iff.2 h0
    refine Evs.neg (by omega) ?_
    obtain ⟨m, h1, h2, h3⟩ := ppTop_best L h0
    generalize ppBest L = B at h1 h2 h3 ⊢
    have hm : m < L.length := by
      rcases Nat.lt_or_ge m L.length with q | q
      · exact q
      · rw [List.getElem?_eq_none q] at h1; exact absurd h1 (by simp)
    have hmB : L[m] = B := by rw [List.getElem?_eq_getElem hm] at h1; exact Option.some.inj h1
    show Evs (fun k => laws_FnBrdBest.l0 k L (-1) 0 B.f0.f0 B.f0.f1 B.f1) _
    refine Evs.up (fun k (s : Int) i => laws_FnBrdBest.l0 k L s i B.f0.f0 B.f0.f1 B.f1) L.length (fun i s => s = if m < i then (m : Int) else -1) _ ?_ ?_ (-1) (by simp)
    · rintro s i hi rfl next
      have hnb := h2 i L[i] (List.getElem?_eq_getElem hi)
      refine Evs.step (fun k => by simp only [laws_FnBrdBest.l0]; rw [if_pos (by omega), if_pos (by omega), pp_rdBF hi, pp_wrap_id ((i : Int) + 1) (by omega) (by omega)]) ?_
      refine Evs.bnd (Evs.of 1 fun k hk => pp_implBeats _ _ _ _ k (by omega)) ?_
      rintro _ rfl
      refine Evs.neg hnb ?_
      by_cases hlt : m < i
      · rw [if_pos hlt]
        refine Evs.neg (by omega) (next _ ?_)
        rw [if_pos (by omega)]
      · rw [if_neg hlt]
        refine Evs.pos (by omega) ?_
        by_cases he : i = m
        · subst he
          rw [hmB]
          refine Evs.pos (by simp) (next _ ?_)
          rw [if_pos (by omega)]
        · have hov := h3 i L[i] (by omega) (List.getElem?_eq_getElem hi)
          refine Evs.neg ?_ (next _ ?_)
          · intro hq
            simp only [Bool.and_eq_true, beq_iff_eq] at hq
            unfold ppOver at hov
            rw [hq.1.1, hq.1.2, ppBeats_self] at hov
            exact absurd hov (by simp)
          · rw [if_neg (by omega)]
    · rintro s rfl
      rw [if_pos hm]
      refine Evs.step (fun k => by simp only [laws_FnBrdBest.l0]; rw [if_neg (by omega)]) ?_
      refine Evs.up (fun k (_ : Unit) i => laws_FnBrdBest.l1 k L (m : Int) i B.f0.f0 B.f0.f1 B.f1) m (fun _ _ => True) _ ?_ ?_ () trivial
      · intro s i hi _ nx
        have hov := h3 i (L[i]'(by omega)) hi (List.getElem?_eq_getElem (by omega))
        refine Evs.step (fun k => by simp only [laws_FnBrdBest.l1]; rw [if_pos (by omega), if_pos (by omega), if_pos (by omega), pp_rdBF (show i < L.length by omega), pp_wrap_id ((i : Int) + 1) (by omega) (by omega)]) ?_
        refine Evs.bnd (Evs.of 1 fun k hk => pp_implBeats _ _ _ _ k (by omega)) ?_
        rintro _ rfl
        exact Evs.pos hov (nx () trivial)
      · intro s _
        refine Evs.step (fun k => by simp only [laws_FnBrdBest.l1]; rw [if_neg (by omega), if_pos (by omega)]) ?_
        exact fin

end Go.Proofs.YtfcacpbblkahdaaDoor.Pure
