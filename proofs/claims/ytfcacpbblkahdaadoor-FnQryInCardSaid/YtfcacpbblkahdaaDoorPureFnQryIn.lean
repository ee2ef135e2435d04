/-
  of a drawn rectangle and place: as many places are in it as its area, none is ahead of it or at its end; impl and spec agree; at all draws.
  Conditions: none but those of the statement.
-/
import Derived.Test.YtfcacpbblkahdaaDoorPFnQryInx4
namespace Go.Proofs.YtfcacpbblkahdaaDoor.Pure
open Go.RowKit Go.Proofs.YtfcacpbblkahdaaDoor.PFnQryIn Go.Proofs.YtfcacpbblkahdaaDoorW.PrintWords Go.Proofs.YtfcacpbblkahdaaDoorW.PrintLast Go.Proofs.YtfcacpbblkahdaaDoorW.PrintMore
set_option linter.unusedVariables false
set_option linter.unusedSimpArgs false

theorem pp_wrap_l (a b : Int) : wrap64 (wrap64 a + b) = wrap64 (a + b) := by unfold wrap64; omega
theorem pp_wrap_r (a b : Int) : wrap64 (a + wrap64 b) = wrap64 (a + b) := by unfold wrap64; omega
theorem pp_wrap_id (a : Int) (h : -9223372036854775808 ≤ a) (h' : a ≤ 9223372036854775807) : wrap64 a = a := by unfold wrap64; omega
theorem pp_wrap_0 : wrap64 0 = 0 := by unfold wrap64; omega
theorem pp_wf (a : Int) (h : (Lit.int .i64 a).wf = true) : -9223372036854775808 ≤ a ∧ a ≤ 9223372036854775807 := by
  simp [Lit.wf, IntKind.min, IntKind.max, IntKind.signed, IntKind.bits] at h; omega
theorem pp_wfi (a : Int) (h : -9223372036854775808 ≤ a) (h' : a ≤ 9223372036854775807) : (Lit.int .i64 a).wf = true := by
  simp [Lit.wf, IntKind.min, IntKind.max, IntKind.signed, IntKind.bits]; omega

/-- Whether a number is one of so many from another one on. -/
def ppAmong (n f m : Int) : Bool := decide (f ≤ n) && (decide (0 < m) && decide (n - f < m))
theorem pp_implAmong (n f m : Int) (hn : (Lit.int .i64 n).wf = true) (hf : (Lit.int .i64 f).wf = true) (hm : (Lit.int .i64 m).wf = true) : impl_among.f n f m = some (ppAmong n f m) := by
  have := pp_wf n hn
  have := pp_wf f hf
  have := pp_wf m hm
  unfold impl_among.f ppAmong
  by_cases h0 : n ≥ f
  · by_cases h1 : m > 0
    · rw [if_pos h0, if_pos h1]
      simp only [IntKind.wrap_u64, Option.some.injEq]
      rw [Bool.eq_iff_iff]
      simp
      omega
    · rw [if_pos h0, if_neg h1]
      simp
      omega
  · rw [if_neg h0]
    simp
    omega
theorem pp_specAmong (n f m : Int) (hn : (Lit.int .i64 n).wf = true) (hf : (Lit.int .i64 f).wf = true) (hm : (Lit.int .i64 m).wf = true) (k : Nat) (hk : 0 < k) : spec_l1Among.f k n f m = some (ppAmong n f m) := by
  have := pp_wf n hn
  have := pp_wf f hf
  have := pp_wf m hm
  obtain ⟨k, rfl⟩ : ∃ q, k = q + 1 := ⟨k - 1, by omega⟩
  unfold spec_l1Among.f ppAmong
  simp only [spec_l1Among.j0]
  by_cases h0 : n < f
  · rw [if_pos h0]
    simp
    omega
  · rw [if_neg h0]
    by_cases h1 : m ≤ 0
    · rw [if_pos (by simpa using h1)]
      simp
      omega
    · rw [if_neg (by simpa using h1)]
      by_cases h2 : f < 0
      · rw [if_pos h2]
        by_cases h3 : n ≥ 0
        · rw [if_pos h3, pp_wrap_id _ (by omega) (by omega)]
          simp only [Option.some.injEq]
          rw [Bool.eq_iff_iff]
          simp
          omega
        · rw [if_neg h3, pp_wrap_id _ (by omega) (by omega)]
          simp only [Option.some.injEq]
          rw [Bool.eq_iff_iff]
          simp
          omega
      · rw [if_neg h2, pp_wrap_id _ (by omega) (by omega)]
        simp only [Option.some.injEq]
        rw [Bool.eq_iff_iff]
        simp
        omega

/-- Whether a place is in a rectangle. -/
def ppIn (X Y W H x y : Int) : Bool := ppAmong x X W && ppAmong y Y H
theorem pp_specQryIn (a b c d x y : Int) (ha : (Lit.int .i64 a).wf = true) (hb : (Lit.int .i64 b).wf = true) (hc : (Lit.int .i64 c).wf = true) (hd : (Lit.int .i64 d).wf = true) (hx : (Lit.int .i64 x).wf = true) (hy : (Lit.int .i64 y).wf = true) (k : Nat) (hk : 0 < k) :
    spec_QryIn.f k a b c d x y = some (ppIn a b c d x y) := by
  unfold spec_QryIn.f ppIn
  rw [pp_specAmong x a c hx ha hc k hk, pp_specAmong y b d hy hb hd k hk]
  simp only [Option.bind_some]
  cases ppAmong x a c <;> simp
theorem pp_implQryIn (a b c d x y : Int) (ha : (Lit.int .i64 a).wf = true) (hb : (Lit.int .i64 b).wf = true) (hc : (Lit.int .i64 c).wf = true) (hd : (Lit.int .i64 d).wf = true) (hx : (Lit.int .i64 x).wf = true) (hy : (Lit.int .i64 y).wf = true) :
    impl_QryIn.f a b c d x y = some (ppIn a b c d x y) := by
  unfold impl_QryIn.f ppIn
  rw [pp_implAmong x a c hx ha hc, pp_implAmong y b d hy hb hd]
  simp only [Option.bind_some]
  cases ppAmong x a c <;> simp

/-- With enough rounds g answers, and P holds of the answer. -/
def Evs {α : Type} (g : Nat → Option α) (P : α → Prop) : Prop := ∃ r K, P r ∧ ∀ k, K ≤ k → g k = some r
theorem Evs.now {α : Type} {P : α → Prop} {r : α} (h : P r) : Evs (fun _ => some r) P := ⟨r, 0, h, fun _ _ => rfl⟩
theorem Evs.bnd {α β : Type} {g : Nat → Option α} {f : Nat → α → Option β} {P : α → Prop} {Q : β → Prop} (h : Evs g P) (k : ∀ a, P a → Evs (fun n => f n a) Q) : Evs (fun n => (g n).bind (f n)) Q := by
  obtain ⟨a, K, hP, h⟩ := h
  obtain ⟨r, K', hQ, k⟩ := k a hP
  refine ⟨r, max K K', hQ, fun n hn => ?_⟩
  show (g n).bind (f n) = some r
  rw [h n (by omega)]
  exact k n (by omega)
theorem Evs.step {α : Type} {g f : Nat → Option α} {P : α → Prop} (h : ∀ k, g (k + 1) = f k) (k : Evs f P) : Evs g P := by
  obtain ⟨r, K, hP, k⟩ := k
  refine ⟨r, K + 1, hP, fun n hn => ?_⟩
  obtain ⟨m, rfl⟩ : ∃ m, n = m + 1 := ⟨n - 1, by omega⟩
  rw [h]
  exact k m (by omega)
theorem Evs.cong {α : Type} {g f : Nat → Option α} {P : α → Prop} (h : ∀ k, g k = f k) (k : Evs f P) : Evs g P := by
  obtain ⟨r, K, hP, k⟩ := k
  exact ⟨r, K, hP, fun n hn => (h n).trans (k n hn)⟩
theorem Evs.imp {α : Type} {g : Nat → Option α} {P Q : α → Prop} (h : Evs g P) (hq : ∀ r, P r → Q r) : Evs g Q := by
  obtain ⟨r, K, hP, k⟩ := h
  exact ⟨r, K, hq r hP, k⟩
theorem Evs.of {α : Type} {g : Nat → Option α} {r : α} (K : Nat) (h : ∀ k, K ≤ k → g k = some r) : Evs g (fun q => q = r) := ⟨r, K, rfl, h⟩
theorem Evs.ends {α : Type} {g : Nat → Option α} {r : α} (h : Evs g (fun q => q = r)) : ∃ k, g k = some r := by
  obtain ⟨q, K, rfl, k⟩ := h
  exact ⟨K, k K (Nat.le_refl _)⟩
theorem Evs.pos {α : Type} {g f : Nat → Option α} {c : Prop} [Decidable c] {P : α → Prop} (hc : c) (h : Evs g P) : Evs (fun k => if c then g k else f k) P := h.cong (fun k => if_pos hc)
theorem Evs.neg {α : Type} {g f : Nat → Option α} {c : Prop} [Decidable c] {P : α → Prop} (hc : ¬ c) (h : Evs f P) : Evs (fun k => if c then g k else f k) P := h.cong (fun k => if_neg hc)
theorem Evs.ite {α : Type} {g f : Nat → Option α} {c : Prop} [Decidable c] {P : α → Prop} (h : c → Evs g P) (h' : ¬ c → Evs f P) : Evs (fun k => if c then g k else f k) P := by
  by_cases hc : c
  · exact Evs.pos hc (h hc)
  · exact Evs.neg hc (h' hc)
/-- A loop that counts up. -/
theorem Evs.up {σ ρ : Type} (E : Nat → σ → Int → Option ρ) (n : Nat) (Inv : Nat → σ → Prop) (Post : ρ → Prop)
    (hs : ∀ s (i : Nat), i < n → Inv i s → (∀ s', Inv (i + 1) s' → Evs (fun k => E k s' ((i : Int) + 1)) Post) → Evs (fun k => E k s (i : Int)) Post)
    (he : ∀ s, Inv n s → Evs (fun k => E k s (n : Int)) Post) : ∀ s, Inv 0 s → Evs (fun k => E k s 0) Post := by
  have key : ∀ (d i : Nat) (s : σ), n - i = d → i ≤ n → Inv i s → Evs (fun k => E k s (i : Int)) Post := by
    intro d
    induction d with
    | zero =>
      intro i s hd hi hI
      obtain rfl : i = n := by omega
      exact he s hI
    | succ d ih =>
      intro i s hd hi hI
      exact hs s i (by omega) hI (fun s' hI' => by simpa using ih (i + 1) s' (by omega) (by omega) hI')
  intro s hI
  simpa using key n 0 s (by omega) (by omega) hI

/-- A loop that counts up: rounds keep Inv or leave with Post; at the end it leaves with Post. -/
theorem pp_lp {σ ρ : Type} (E : Nat → σ → Int → Option ρ) (n : Nat) (Inv : Nat → σ → Prop) (Post : ρ → Prop)
    (hs : ∀ k s (i : Nat), i < n → Inv i s → (∃ s', Inv (i + 1) s' ∧ E (k + 1) s (i : Int) = E k s' ((i : Int) + 1)) ∨ ∃ r, Post r ∧ E (k + 1) s (i : Int) = some r)
    (he : ∀ k s, Inv n s → ∃ r, Post r ∧ E (k + 1) s (n : Int) = some r) :
    ∀ (d i : Nat) (s : σ) (k : Nat), n - i = d → i ≤ n → Inv i s → d < k → ∃ r, Post r ∧ E k s (i : Int) = some r := by
  intro d
  induction d with
  | zero =>
    intro i s k hd hi hI hk
    obtain ⟨k, rfl⟩ : ∃ m, k = m + 1 := ⟨k - 1, by omega⟩
    obtain rfl : i = n := by omega
    exact he k s hI
  | succ d ih =>
    intro i s k hd hi hI hk
    obtain ⟨k, rfl⟩ : ∃ m, k = m + 1 := ⟨k - 1, by omega⟩
    rcases hs k s i (by omega) hI with ⟨s', hI', he'⟩ | h
    · obtain ⟨r, hr, e⟩ := ih (i + 1) s' k (by omega) (by omega) hI' (by omega)
      exact ⟨r, hr, by rw [he']; simpa using e⟩
    · exact h
/-- .. whose state is known at each place. -/
theorem pp_lpE {σ ρ : Type} (E : Nat → σ → Int → Option ρ) (n : Nat) (st : Nat → σ) (r : ρ)
    (hs : ∀ k (i : Nat), i < n → E (k + 1) (st i) (i : Int) = E k (st (i + 1)) ((i : Int) + 1)) (he : ∀ k, E (k + 1) (st n) (n : Int) = some r) (k : Nat) (hk : n < k) : E k (st 0) 0 = some r := by
  obtain ⟨q, hq, h⟩ := pp_lp E n (fun i s => s = st i) (fun q => q = r) (fun k s i hi h => .inl ⟨st (i + 1), rfl, by rw [h]; exact hs k i hi⟩) (fun k s h => ⟨r, rfl, by rw [h]; exact he k⟩) n 0 (st 0) k (by omega) (by omega) rfl hk
  rw [← hq]; simpa using h
/-- .. that fills a row. -/
theorem pp_fill {α β : Type} (L : Nat → List β → Int → Option (List β)) (g : α → β) (xs : List α) (z : β)
    (hs : ∀ k out (i : Nat) (h : i < xs.length), out.length = xs.length → L (k + 1) out (i : Int) = L k (out.set i (g xs[i])) ((i : Int) + 1)) (he : ∀ k out, L (k + 1) out (xs.length : Int) = some out)
    (k : Nat) (hk : xs.length < k) : L k (List.replicate xs.length z) 0 = some (xs.map g) := by
  obtain ⟨r, hr, h⟩ := pp_lp L xs.length (fun i out => out.length = xs.length ∧ out.take i = (xs.map g).take i) (fun r => r = xs.map g)
    (fun k out i hi ⟨h1, h2⟩ => .inl ⟨out.set i (g xs[i]), ⟨by simpa using h1, by
      rw [List.take_succ_eq_append_getElem (by simpa [h1] using hi), List.take_succ_eq_append_getElem (by simpa using hi), List.take_set_of_le (by omega), h2]
      simp⟩, hs k out i hi h1⟩)
    (fun k out ⟨h1, h2⟩ => ⟨out, by
      rw [List.take_of_length_le (by omega), List.take_of_length_le (by simp)] at h2
      exact h2, he k out⟩) xs.length 0 (List.replicate xs.length z) k (by omega) (by omega) ⟨by simp, by simp⟩ hk
  rw [← hr]; simpa using h
theorem pp_getD {α : Type} (l : List α) (i : Nat) (z : α) (h : i < l.length) : l.getD (i : Int).toNat z = l[i] := by
  simp [List.getD_eq_getElem?_getD, List.getElem?_eq_getElem h]
theorem pp_rd {l : List Int} {i : Nat} (h : i < l.length) : rd l (i : Int) = l[i] := pp_getD l i 0 h

/-- What a reader reads: bytes, no more than 2000. -/
def ppRd (l : List Int) : Prop := l.length ≤ 2000 ∧ ∀ x ∈ l, 0 ≤ x ∧ x ≤ 255
theorem pp_u8 (l : List Int) (h : ∀ x ∈ l, (Lit.int .u8 x).wf = true) : ∀ x ∈ l, 0 ≤ x ∧ x ≤ 255 := by
  intro x hx
  have := h x hx
  simp [Lit.wf, IntKind.min, IntKind.max, IntKind.signed, IntKind.bits] at this
  omega
theorem pp_rdb (l : List Int) (h : ∀ x ∈ l, 0 ≤ x ∧ x ≤ 255) (i : Int) : 0 ≤ rd l i ∧ rd l i ≤ 255 := by
  unfold rd
  rw [List.getD_eq_getElem?_getD]
  cases e : l[i.toNat]? with
  | none => simp
  | some v => exact h v (List.mem_of_getElem? e)
theorem pp_open (l : List Int) (h : ∀ x ∈ l, (Lit.int .u8 x).wf = true) : ∃ b, spec_l20Open.f l = some (b, 0) ∧ ppRd b := by
  unfold spec_l20Open.f
  by_cases hl : (l.length : Int) > 2000
  · rw [if_pos hl, if_pos (by omega)]
    exact ⟨_, rfl, by rw [List.length_take]; omega, fun x hx => pp_u8 l h x (List.mem_of_mem_take hx)⟩
  · rw [if_neg hl]
    exact ⟨_, rfl, by omega, pp_u8 l h⟩
theorem pp_xor (x y : Int) (hx : 0 ≤ x) (hy : 0 ≤ y) (hx' : x < 4611686018427387904) (hy' : y < 4611686018427387904) : 0 ≤ Go.bits .xor .i64 x y ∧ Go.bits .xor .i64 x y < 4611686018427387904 := by
  obtain ⟨a, rfl⟩ : ∃ a : Nat, x = a := ⟨x.toNat, by omega⟩
  obtain ⟨b, rfl⟩ : ∃ b : Nat, y = b := ⟨y.toNat, by omega⟩
  have ha : a % 2 ^ 64 = a := Nat.mod_eq_of_lt (by omega)
  have hb : b % 2 ^ 64 = b := Nat.mod_eq_of_lt (by omega)
  have hlt : a ^^^ b < 2 ^ 62 := Nat.xor_lt_two_pow (by omega) (by omega)
  have e : Go.bits .xor .i64 (a : Int) (b : Int) = IntKind.i64.wrap ((a ^^^ b : Nat) : Int) := by
    have q : (BitVec.ofNat 64 a ^^^ BitVec.ofNat 64 b).toNat = a ^^^ b := by rw [BitVec.toNat_xor, BitVec.toNat_ofNat, BitVec.toNat_ofNat, ha, hb]
    simp only [Go.bits, BitVec.ofInt_natCast, IntKind.bits]
    exact congrArg (fun z : Nat => IntKind.i64.wrap (z : Int)) q
  rw [e, IntKind.wrap_i64]
  omega
theorem pp_pick (l : List Int) (h : ppRd l) (p n : Int) (hp : 0 ≤ p) (hp' : p ≤ 1000000000) (hn : n ≤ 1000000) :
    Evs (fun k => spec_l20Rd_pick.f k l p n) (fun r => r.2 = p + 1 ∧ 0 ≤ r.1 ∧ (n < 1 → r.1 = 0) ∧ (1 ≤ n → r.1 < n)) := by
  obtain ⟨hl, hb⟩ := h
  have e1 : wrap64 (p + 1) = p + 1 := pp_wrap_id _ (by omega) (by omega)
  have e2 : wrap64 (p + 1 - 1) = p := by rw [show p + 1 - 1 = p by omega]; exact pp_wrap_id _ (by omega) (by omega)
  unfold spec_l20Rd_pick.f
  rw [e1]
  by_cases h1 : n < 1
  · refine Evs.cong (fun k => if_pos h1) (Evs.step (f := fun _ => some (0, p + 1)) (fun k => by simp only [spec_l20Rd_pick.j0, if_true]) (Evs.now ⟨rfl, by simp, fun _ => rfl, fun h => by omega⟩))
  · refine Evs.cong (fun k => if_neg h1) ?_
    by_cases h0 : l.length = 0
    · refine Evs.step (f := fun _ => some (0, p + 1)) (fun k => by simp only [spec_l20Rd_pick.j0]; rw [if_pos (by simp [h0])]) (Evs.now ⟨rfl, by simp, fun _ => rfl, fun h => by simp; omega⟩)
    · have hne : (((l.length : Int) == 0) = true) = False := by
        have : l ≠ [] := fun e => h0 (by rw [e]; rfl)
        simpa using this
      by_cases hlt : p < (l.length : Int)
      · have hr := pp_rdb l hb p
        have hm := Int.emod_nonneg (rd l p) (show n ≠ 0 by omega)
        have hm' := Int.emod_lt_of_pos (rd l p) (show 0 < n by omega)
        refine Evs.step (f := fun _ => some (Int.tmod (rd l p) n, p + 1)) (fun k => by
          simp only [spec_l20Rd_pick.j0, e2, hne, if_false]
          rw [if_pos hlt, if_pos hp, if_neg (show ¬ n = 0 by omega), pp_wrap_id (rd l p) (by omega) (by omega)]) (Evs.now ⟨rfl, ?_, fun h => absurd h h1, fun _ => ?_⟩)
        · simp only [Int.tmod_eq_emod_of_nonneg hr.1]; exact hm
        · simp only [Int.tmod_eq_emod_of_nonneg hr.1]; exact hm'
      · have hL : (0 : Int) < (l.length : Int) := by omega
        have ei : Int.tmod p (l.length : Int) = p % (l.length : Int) := Int.tmod_eq_emod_of_nonneg hp
        have ed : Int.tdiv p (l.length : Int) = p / (l.length : Int) := Int.tdiv_eq_ediv_of_nonneg hp
        have i0 := Int.emod_nonneg p (show (l.length : Int) ≠ 0 by omega)
        have i1 := Int.emod_lt_of_pos p hL
        have d0 : 0 ≤ p / (l.length : Int) := Int.ediv_nonneg hp (by omega)
        have d1 : p / (l.length : Int) ≤ p := Int.ediv_le_self _ hp
        have e7 : wrap64 (wrap64 (p * 7) + 3) = p * 7 + 3 := by rw [pp_wrap_id (p * 7) (by omega) (by omega), pp_wrap_id _ (by omega) (by omega)]
        have ej : Int.tmod (p * 7 + 3) (l.length : Int) = (p * 7 + 3) % (l.length : Int) := Int.tmod_eq_emod_of_nonneg (by omega)
        have j0 := Int.emod_nonneg (p * 7 + 3) (show (l.length : Int) ≠ 0 by omega)
        have j1 := Int.emod_lt_of_pos (p * 7 + 3) hL
        obtain ⟨u, hu⟩ : ∃ u, u = rd l (p % (l.length : Int)) := ⟨_, rfl⟩
        obtain ⟨v, hv⟩ : ∃ v, v = rd l ((p * 7 + 3) % (l.length : Int)) := ⟨_, rfl⟩
        have hu' : 0 ≤ u ∧ u ≤ 255 := by rw [hu]; exact pp_rdb l hb _
        have hv' : 0 ≤ v ∧ v ≤ 255 := by rw [hv]; exact pp_rdb l hb _
        obtain ⟨dq, hdq⟩ : ∃ dq, dq = p / (l.length : Int) := ⟨_, rfl⟩
        rw [← hdq] at d0 d1
        have w1 : wrap64 u = u := pp_wrap_id _ (by omega) (by omega)
        have w2 : wrap64 (u * 131) = u * 131 := pp_wrap_id _ (by omega) (by omega)
        have w3 : wrap64 v = v := pp_wrap_id _ (by omega) (by omega)
        have w4 : wrap64 (v * 1117) = v * 1117 := pp_wrap_id _ (by omega) (by omega)
        have w5 : wrap64 (u * 131 + v * 1117) = u * 131 + v * 1117 := pp_wrap_id _ (by omega) (by omega)
        have w6 : wrap64 (p * 29) = p * 29 := pp_wrap_id _ (by omega) (by omega)
        have w7 : wrap64 (u * 131 + v * 1117 + p * 29) = u * 131 + v * 1117 + p * 29 := pp_wrap_id _ (by omega) (by omega)
        have w8 : wrap64 dq = dq := pp_wrap_id _ (by omega) (by omega)
        have w9 : wrap64 (dq * 53) = dq * 53 := pp_wrap_id _ (by omega) (by omega)
        have wa : wrap64 (u * 131 + v * 1117 + p * 29 + dq * 53) = u * 131 + v * 1117 + p * 29 + dq * 53 := pp_wrap_id _ (by omega) (by omega)
        obtain ⟨x, hx⟩ : ∃ x, x = u * 131 + v * 1117 + p * 29 + dq * 53 := ⟨_, rfl⟩
        have x0 : 0 ≤ x := by omega
        have x1 : x < 4611686018427387904 := by omega
        have wx : wrap64 x = x := pp_wrap_id _ (by omega) (by omega)
        have ex : Int.tdiv x 64 = x / 64 := Int.tdiv_eq_ediv_of_nonneg x0
        have wb : wrap64 (x / 64) = x / 64 := pp_wrap_id _ (by omega) (by omega)
        have hz := pp_xor x (x / 64) x0 (by omega) x1 (by omega)
        have hm := Int.emod_nonneg (Go.bits .xor .i64 x (x / 64)) (show n ≠ 0 by omega)
        have hm' := Int.emod_lt_of_pos (Go.bits .xor .i64 x (x / 64)) (show 0 < n by omega)
        refine Evs.step (f := fun _ => some (Int.tmod (Go.bits .xor .i64 x (x / 64)) n, p + 1)) (fun k => by
          simp only [spec_l20Rd_pick.j0, e2, hne, if_false, ei, ed, e7, ej, ← hu, ← hv, ← hdq, w1, w2, w3, w4, w5, w6, w7, w8, w9, wa, ← hx, wx, ex, wb]
          rw [if_neg hlt, if_neg (by omega), if_pos i0, if_pos i1, if_pos j0, if_pos j1, if_neg (by omega)]) (Evs.now ⟨rfl, ?_, fun h => absurd h h1, fun _ => ?_⟩)
        · simp only [Int.tmod_eq_emod_of_nonneg hz.1]; exact hm
        · simp only [Int.tmod_eq_emod_of_nonneg hz.1]; exact hm'

theorem pp_abc : Txt.ppTxtOk (⟨#[97, 98, 32, 99]⟩ : ByteArray) = true := by kernel_rfl
theorem pp_pwOk : laws_pwOk.f = some true := by
  unfold laws_pwOk.f impl_TxtOk.f
  rw [if_pos (by decide), pp_abc]
  rfl

abbrev ppW6 (r : Int × Int × Int × Int × Int × Int) : Prop := (Lit.int .i64 r.1).wf = true ∧ (Lit.int .i64 r.2.1).wf = true ∧ (Lit.int .i64 r.2.2.1).wf = true ∧ (Lit.int .i64 r.2.2.2.1).wf = true ∧ (Lit.int .i64 r.2.2.2.2.1).wf = true ∧ (Lit.int .i64 r.2.2.2.2.2).wf = true
theorem pp_wfw (a : Int) : (Lit.int .i64 (wrap64 a)).wf = true := pp_wfi _ (by unfold wrap64; omega) (by unfold wrap64; omega)
theorem pp_draw2 (b : List Int) (hb : ppRd b) (p x y z u : Int) (hp : 0 ≤ p) (hp' : p ≤ 1000) (hx : (Lit.int .i64 x).wf = true) (hy : (Lit.int .i64 y).wf = true) (hz : (Lit.int .i64 z).wf = true) (hu : (Lit.int .i64 u).wf = true) :
    Evs (fun k => (spec_l20Rd_pick.f k b p 11).bind fun r => (spec_l20Rd_pick.f k b r.2 11).bind fun s => some (x, y, z, u, wrap64 (r.1 - 1), wrap64 (s.1 - 1))) ppW6 := by
  refine Evs.bnd (pp_pick b hb p 11 (by omega) (by omega) (by omega)) ?_
  rintro ⟨v, q⟩ ⟨hq, h0, _, h1⟩
  simp only at hq h0 h1 ⊢
  refine Evs.bnd (pp_pick b hb q 11 (by omega) (by omega) (by omega)) ?_
  rintro ⟨v2, q2⟩ _
  exact Evs.now ⟨hx, hy, hz, hu, pp_wfw _, pp_wfw _⟩
theorem pp_drawQryIn (l : List Int) (h : ∀ x ∈ l, (Lit.int .u8 x).wf = true) : Evs (fun k => spec_DrawQryIn.f k l) ppW6 := by
  obtain ⟨b, e, hb⟩ := pp_open l h
  unfold spec_DrawQryIn.f
  rw [e]
  simp only [Option.bind_some]
  refine Evs.bnd (pp_pick b hb 0 5 (by omega) (by omega) (by omega)) ?_
  rintro ⟨v1, q1⟩ ⟨hq1, h01, _, h11⟩
  simp only at hq1 h01 h11 ⊢
  have h11 := h11 (by omega)
  refine Evs.bnd (pp_pick b hb q1 5 (by omega) (by omega) (by omega)) ?_
  rintro ⟨v2, q2⟩ ⟨hq2, h02, _, h12⟩
  simp only at hq2 h02 h12 ⊢
  have h12 := h12 (by omega)
  refine Evs.bnd (pp_pick b hb q2 5 (by omega) (by omega) (by omega)) ?_
  rintro ⟨v3, q3⟩ ⟨hq3, h03, _, h13⟩
  simp only at hq3 h03 h13 ⊢
  have h13 := h13 (by omega)
  refine Evs.bnd (pp_pick b hb q3 5 (by omega) (by omega) (by omega)) ?_
  rintro ⟨v4, q4⟩ ⟨hq4, h04, _, h14⟩
  simp only at hq4 h04 h14 ⊢
  have h14 := h14 (by omega)
  refine Evs.bnd (pp_pick b hb q4 9 (by omega) (by omega) (by omega)) ?_
  rintro ⟨v5, q5⟩ ⟨hq5, h05, _, h15⟩
  simp only at hq5 h05 h15 ⊢
  have w1 := pp_wfi v1 (by omega) (by omega)
  have w2 := pp_wfi v2 (by omega) (by omega)
  have w3 := pp_wfi v3 (by omega) (by omega)
  have w4 := pp_wfi v4 (by omega) (by omega)
  refine Evs.ite (fun _ => ?_) (fun _ => pp_draw2 b hb q5 v1 v2 v3 v4 (by omega) (by omega) w1 w2 w3 w4)
  refine Evs.bnd (pp_pick b hb q5 3 (by omega) (by omega) (by omega)) ?_
  rintro ⟨v6, q6⟩ ⟨hq6, h06, _, h16⟩
  simp only at hq6 h06 h16 ⊢
  have h16 := h16 (by omega)
  refine Evs.pos h06 (Evs.pos (by simp; omega) ?_)
  have wn : (Lit.int .i64 (rd [9223372036854775807, -9223372036854775808, -3] v6)).wf = true := by
    have : v6 = 0 ∨ v6 = 1 ∨ v6 = 2 := by omega
    rcases this with rfl | rfl | rfl <;> decide
  refine Evs.bnd (pp_pick b hb q6 4 (by omega) (by omega) (by omega)) ?_
  rintro ⟨v7, q7⟩ ⟨hq7, h07, _, h17⟩
  simp only at hq7 h07 h17 ⊢
  refine Evs.ite (fun _ => pp_draw2 b hb q7 _ v2 v3 v4 (by omega) (by omega) wn w2 w3 w4) (fun _ => ?_)
  refine Evs.ite (fun _ => pp_draw2 b hb q7 v1 _ v3 v4 (by omega) (by omega) w1 wn w3 w4) (fun _ => ?_)
  exact Evs.ite (fun _ => pp_draw2 b hb q7 v1 v2 _ v4 (by omega) (by omega) w1 w2 wn w4) (fun _ => pp_draw2 b hb q7 v1 v2 v3 _ (by omega) (by omega) w1 w2 w3 wn)
/-- How many of the numbers below n are at or behind f, and ahead of f + m. -/
def ppCut (n f m : Int) : Int := if n ≤ f then 0 else if f + m ≤ n then m else n - f
theorem ppCut_step (n f m : Int) (hm : 0 ≤ m) : ppCut (n + 1) f m = ppCut n f m + (if ppAmong n f m = true then 1 else 0) := by
  unfold ppCut ppAmong
  simp only [Bool.and_eq_true, decide_eq_true_eq]
  split <;> split <;> (repeat' split) <;> omega
theorem ppCut_le (n f m : Int) (hm : 0 ≤ m) : 0 ≤ ppCut n f m ∧ ppCut n f m ≤ m := by
  unfold ppCut
  split
  · omega
  · split <;> omega
theorem pp_qryLoops (X Y W H : Int) (hX : 0 ≤ X ∧ X ≤ 4) (hY : 0 ≤ Y ∧ Y ≤ 4) (hW : 0 ≤ W ∧ W ≤ 4) (hH : 0 ≤ H ∧ H ≤ 4) : Evs (fun k => laws_FnQryIn.l0 k 0 (-1) X Y W H) (fun q => q = true) := by
  have wX := pp_wfi X (by omega) (by omega)
  have wY := pp_wfi Y (by omega) (by omega)
  have wW := pp_wfi W (by omega) (by omega)
  have wH := pp_wfi H (by omega) (by omega)
  have hWH : 0 ≤ W * H ∧ W * H ≤ 16 := ⟨Int.mul_nonneg hW.1 hH.1, by
    have := Int.mul_le_mul hW.2 hH.2 hH.1 (by omega : (0 : Int) ≤ 4)
    omega⟩
  refine Evs.up (fun k (s : Int) i => laws_FnQryIn.l0 k s (i - 1) X Y W H) 13 (fun i s => s = ppCut ((i : Int) - 1) X W * H) _ ?_ ?_ 0 ?_
  · rintro s i hi rfl next
    have hc := ppCut_le ((i : Int) - 1) X W hW.1
    have hb : 0 ≤ ppCut ((i : Int) - 1) X W * H ∧ ppCut ((i : Int) - 1) X W * H ≤ 16 := ⟨Int.mul_nonneg hc.1 hH.1, by
      have := Int.mul_le_mul (show ppCut ((i : Int) - 1) X W ≤ 4 by omega) hH.2 hH.1 (by omega : (0 : Int) ≤ 4)
      omega⟩
    have wa := pp_wfi ((i : Int) - 1) (by omega) (by omega)
    refine Evs.step (f := fun k => laws_FnQryIn.l1 k (ppCut ((i : Int) - 1) X W * H) ((i : Int) - 1) (-1) X Y W H) (fun k => by simp only [laws_FnQryIn.l0]; rw [if_pos (by omega)]) ?_
    refine Evs.up (fun k (s : Int) j => laws_FnQryIn.l1 k s ((i : Int) - 1) (j - 1) X Y W H) 13 (fun j s => s = ppCut ((i : Int) - 1) X W * H + (if ppAmong ((i : Int) - 1) X W = true then ppCut ((j : Int) - 1) Y H else 0)) _ ?_ ?_ _ ?_
    · rintro s j hj rfl nx
      have hcj := ppCut_le ((j : Int) - 1) Y H hH.1
      have wb := pp_wfi ((j : Int) - 1) (by omega) (by omega)
      have st := ppCut_step ((j : Int) - 1) Y H hH.1
      have nx' : ∀ s', s' = ppCut ((i : Int) - 1) X W * H + (if ppAmong ((i : Int) - 1) X W = true then ppCut ((j : Int) - 1 + 1) Y H else 0) → Evs (fun k => laws_FnQryIn.l1 k s' ((i : Int) - 1) ((j : Int) - 1 + 1) X Y W H) (fun q => q = true) := by
        intro s' hs'
        have := nx s' (by rw [hs', show ((j + 1 : Nat) : Int) - 1 = (j : Int) - 1 + 1 by omega])
        rw [show (j : Int) + 1 - 1 = (j : Int) - 1 + 1 by omega] at this
        exact this
      refine Evs.step (fun k => by simp only [laws_FnQryIn.l1]; rw [if_pos (by omega), pp_implQryIn X Y W H _ _ wX wY wW wH wa wb, pp_wrap_id ((j : Int) - 1 + 1) (by omega) (by omega)]) ?_
      simp only [Option.bind_some]
      refine Evs.ite (fun hin => ?_) (fun hin => ?_)
      · simp only [ppIn, Bool.and_eq_true] at hin
        rw [if_pos hin.1, pp_wrap_id _ (by omega) (by omega)]
        refine nx' _ ?_
        rw [if_pos hin.1, st, if_pos hin.2]
        omega
      · refine nx' _ ?_
        by_cases ha : ppAmong ((i : Int) - 1) X W = true
        · have hbn : ¬ ppAmong ((j : Int) - 1) Y H = true := fun h => hin (by simp only [ppIn, Bool.and_eq_true]; exact ⟨ha, h⟩)
          rw [if_pos ha, if_pos ha, st, if_neg hbn]
          omega
        · rw [if_neg ha, if_neg ha]
    · rintro s rfl
      have stX := ppCut_step ((i : Int) - 1) X W hW.1
      have full : ppCut (((13 : Nat) : Int) - 1) Y H = H := by
        unfold ppCut
        split
        · omega
        · split <;> omega
      refine Evs.step (fun k => by simp only [laws_FnQryIn.l1]; rw [if_neg (by omega), pp_wrap_id ((i : Int) - 1 + 1) (by omega) (by omega)]) ?_
      have := next (ppCut ((i : Int) - 1) X W * H + (if ppAmong ((i : Int) - 1) X W = true then ppCut (((13 : Nat) : Int) - 1) Y H else 0)) (by
        rw [show ((i + 1 : Nat) : Int) - 1 = (i : Int) - 1 + 1 by omega, stX, full]
        split
        · rw [Int.add_mul, Int.one_mul]
        · rw [Int.add_zero, Int.add_zero])
      rw [show (i : Int) + 1 - 1 = (i : Int) - 1 + 1 by omega] at this
      exact this
    · have : ppCut (((0 : Nat) : Int) - 1) Y H = 0 := by unfold ppCut; rw [if_pos (by omega)]
      rw [this]
      split <;> omega
  · rintro s rfl
    have full : ppCut (((13 : Nat) : Int) - 1) X W = W := by
      unfold ppCut
      split
      · omega
      · split <;> omega
    rw [full]
    have i1 : ppIn X Y W H (X - 1) Y = false := by
      have : ppAmong (X - 1) X W = false := by unfold ppAmong; rw [decide_eq_false (by omega)]; rfl
      unfold ppIn; rw [this]; rfl
    have i2 : ppIn X Y W H X (Y + H) = false := by
      have : ppAmong (Y + H) Y H = false := by
        unfold ppAmong
        rw [decide_eq_false (show ¬ Y + H - Y < H by omega)]
        simp
      unfold ppIn; rw [this]; simp
    refine Evs.step (f := fun _ => some true) (fun k => by
      simp only [laws_FnQryIn.l0, impl_QryArea.f, Option.bind_some]
      rw [if_neg (by omega), pp_wrap_id (W * H) (by omega) (by omega), if_pos rfl, pp_wrap_id (X - 1) (by omega) (by omega), pp_wrap_id (Y + H) (by omega) (by omega),
        pp_implQryIn X Y W H _ _ wX wY wW wH (pp_wfi _ (by omega) (by omega)) wY, pp_implQryIn X Y W H _ _ wX wY wW wH wX (pp_wfi _ (by omega) (by omega)), i1, i2, pp_pwOk]
      try rfl) (Evs.now rfl)
  · have : ppCut (((0 : Nat) : Int) - 1) X W = 0 := by unfold ppCut; rw [if_pos (by omega)]
    rw [this, Int.zero_mul]
theorem FnQryIn : ∀ (l0 : List (Int)), (l0.length ≤ 9223372036854775807 ∧ ∀ (x : Int), x ∈ l0 → (Lit.int .u8 x).wf = true) → ∃ k, laws_FnQryIn.f k l0 = some true := by
  intro l ⟨hl, hw⟩
  refine Evs.ends ?_
  unfold laws_FnQryIn.f
  refine Evs.ite (fun _ => Evs.now rfl) (fun _ => ?_)
  refine Evs.bnd (pp_drawQryIn l hw) ?_
  rintro ⟨X, Y, W, H, x, y⟩ ⟨wX, wY, wW, wH, wx, wy⟩
  simp only at wX wY wW wH wx wy ⊢
  rw [pp_implQryIn X Y W H x y wX wY wW wH wx wy]
  simp only [Option.bind_some]
  refine Evs.bnd (Evs.of 1 fun k hk => pp_specQryIn X Y W H x y wX wY wW wH wx wy k (by omega)) ?_
  rintro _ rfl
  refine Evs.neg (by simp) ?_
  simp only [impl_QryArea.f, spec_QryArea.f, Option.bind_some, bne_self_eq_false]
  have out : Evs (fun k => laws_FnQryIn.j1 k true X Y W H) (fun q => q = true) :=
    Evs.step (f := fun _ => some true) (fun k => by simp only [laws_FnQryIn.j1, if_true]; rw [pp_pwOk]; try rfl) (Evs.now rfl)
  refine Evs.step (fun k => by simp only [laws_FnQryIn.j0, Bool.false_eq_true, if_false]; try rfl) ?_
  refine Evs.ite (fun _ => out) (fun h1 => ?_)
  refine Evs.ite (fun _ => out) (fun h2 => ?_)
  refine Evs.ite (fun _ => out) (fun h3 => ?_)
  refine Evs.ite (fun _ => out) (fun h4 => ?_)
  refine Evs.ite (fun _ => out) (fun h5 => ?_)
  refine Evs.ite (fun _ => out) (fun h6 => ?_)
  refine Evs.ite (fun _ => out) (fun h7 => ?_)
  by_cases h8 : H > 4
  · rw [decide_eq_true h8]; exact out
  · rw [decide_eq_false h8]
    refine Evs.step (fun k => by simp only [laws_FnQryIn.j1, Bool.false_eq_true, if_false]; try rfl) ?_
    exact pp_qryLoops X Y W H ⟨by omega, by omega⟩ ⟨by omega, by omega⟩ ⟨by omega, by omega⟩ ⟨by omega, by omega⟩

end Go.Proofs.YtfcacpbblkahdaaDoor.Pure
