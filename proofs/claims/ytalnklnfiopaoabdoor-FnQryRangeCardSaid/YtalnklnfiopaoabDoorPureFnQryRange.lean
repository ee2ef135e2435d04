/-
  the range of two cells of a drawn grid is the same in impl and spec and in either order, has each cell all or not at all, and of a cell and itself is that cell; at all draws.
  Conditions: none but those of the statement.
-/
import Derived.Test.YtalnklnfiopaoabDoorQspecQryRange
namespace Go.Proofs.YtalnklnfiopaoabDoor.Pure
open Go.RowKit Go.Proofs.YtalnklnfiopaoabDoor.Q Go.Proofs.YtalnklnfiopaoabDoorW.PrintWords Go.Proofs.YtalnklnfiopaoabDoorW.PrintLast Go.Proofs.YtalnklnfiopaoabDoorW.PrintMore
set_option linter.unusedVariables false
set_option linter.unusedSimpArgs false

theorem pp_wrap_l (a b : Int) : wrap64 (wrap64 a + b) = wrap64 (a + b) := by unfold wrap64; omega
theorem pp_wrap_r (a b : Int) : wrap64 (a + wrap64 b) = wrap64 (a + b) := by unfold wrap64; omega
theorem pp_wrap_id (a : Int) (h : -9223372036854775808 ≤ a) (h' : a ≤ 9223372036854775807) : wrap64 a = a := by unfold wrap64; omega
theorem pp_wrap_0 : wrap64 0 = 0 := by unfold wrap64; omega
theorem pp_wf (a : Int) (h : (Lit.int .i64 a).wf = true) : -9223372036854775808 ≤ a ∧ a ≤ 9223372036854775807 := by
  simp [Lit.wf, IntKind.min, IntKind.max, IntKind.signed, IntKind.bits] at h; omega
theorem pp_wfi (a : Int) (h : -9223372036854775808 ≤ a) (h' : a ≤ 9223372036854775807) : (Lit.int .i64 a).wf = true := by
  simp [Lit.wf, IntKind.min, IntKind.max, IntKind.signed, IntKind.bits]; omega

/-- With enough rounds g answers, and P holds of the answer. -/
def Evs {α : Type} (g : Nat → Option α) (P : α → Prop) : Prop := ∃ r K, P r ∧ ∀ k, K ≤ k → g k = some r
theorem Evs.now {α : Type} {P : α → Prop} {r : α} (h : P r) : Evs (fun _ => some r) P := ⟨r, 0, h, fun _ _ => rfl⟩
theorem Evs.bnd {α β : Type} {g : Nat → Option α} {f : Nat → α → Option β} {P : α → Prop} {Q : β → Prop} (h : Evs g P) (k : ∀ a, P a → Evs (fun n => f n a) Q) : Evs (fun n => (g n).bind (f n)) Q := by
  obtain ⟨a, K, hP, h⟩ := h
  obtain ⟨r, K', hQ, k⟩ := k a hP
  refine ⟨r, max K K', hQ, fun n hn => ?_⟩
  show (g n).bind (f n) = some r
  rw [h n (by omega)]
  exact k n (by omega)
theorem Evs.step {α : Type} {g f : Nat → Option α} {P : α → Prop} (h : ∀ k, g (k + 1) = f k) (k : Evs f P) : Evs g P := by
  obtain ⟨r, K, hP, k⟩ := k
  refine ⟨r, K + 1, hP, fun n hn => ?_⟩
  obtain ⟨m, rfl⟩ : ∃ m, n = m + 1 := ⟨n - 1, by omega⟩
  rw [h]
  exact k m (by omega)
theorem Evs.cong {α : Type} {g f : Nat → Option α} {P : α → Prop} (h : ∀ k, g k = f k) (k : Evs f P) : Evs g P := by
  obtain ⟨r, K, hP, k⟩ := k
  exact ⟨r, K, hP, fun n hn => (h n).trans (k n hn)⟩
theorem Evs.imp {α : Type} {g : Nat → Option α} {P Q : α → Prop} (h : Evs g P) (hq : ∀ r, P r → Q r) : Evs g Q := by
  obtain ⟨r, K, hP, k⟩ := h
  exact ⟨r, K, hq r hP, k⟩
theorem Evs.of {α : Type} {g : Nat → Option α} {r : α} (K : Nat) (h : ∀ k, K ≤ k → g k = some r) : Evs g (fun q => q = r) := ⟨r, K, rfl, h⟩
theorem Evs.ends {α : Type} {g : Nat → Option α} {r : α} (h : Evs g (fun q => q = r)) : ∃ k, g k = some r := by
  obtain ⟨q, K, rfl, k⟩ := h
  exact ⟨K, k K (Nat.le_refl _)⟩
theorem Evs.pos {α : Type} {g f : Nat → Option α} {c : Prop} [Decidable c] {P : α → Prop} (hc : c) (h : Evs g P) : Evs (fun k => if c then g k else f k) P := h.cong (fun k => if_pos hc)
theorem Evs.neg {α : Type} {g f : Nat → Option α} {c : Prop} [Decidable c] {P : α → Prop} (hc : ¬ c) (h : Evs f P) : Evs (fun k => if c then g k else f k) P := h.cong (fun k => if_neg hc)
theorem Evs.ite {α : Type} {g f : Nat → Option α} {c : Prop} [Decidable c] {P : α → Prop} (h : c → Evs g P) (h' : ¬ c → Evs f P) : Evs (fun k => if c then g k else f k) P := by
  by_cases hc : c
  · exact Evs.pos hc (h hc)
  · exact Evs.neg hc (h' hc)
/-- A loop that counts up. -/
theorem Evs.up {σ ρ : Type} (E : Nat → σ → Int → Option ρ) (n : Nat) (Inv : Nat → σ → Prop) (Post : ρ → Prop)
    (hs : ∀ s (i : Nat), i < n → Inv i s → (∀ s', Inv (i + 1) s' → Evs (fun k => E k s' ((i : Int) + 1)) Post) → Evs (fun k => E k s (i : Int)) Post)
    (he : ∀ s, Inv n s → Evs (fun k => E k s (n : Int)) Post) : ∀ s, Inv 0 s → Evs (fun k => E k s 0) Post := by
  have key : ∀ (d i : Nat) (s : σ), n - i = d → i ≤ n → Inv i s → Evs (fun k => E k s (i : Int)) Post := by
    intro d
    induction d with
    | zero =>
      intro i s hd hi hI
      obtain rfl : i = n := by omega
      exact he s hI
    | succ d ih =>
      intro i s hd hi hI
      exact hs s i (by omega) hI (fun s' hI' => by simpa using ih (i + 1) s' (by omega) (by omega) hI')
  intro s hI
  simpa using key n 0 s (by omega) (by omega) hI

/-- A loop that counts up: rounds keep Inv or leave with Post; at the end it leaves with Post. -/
theorem pp_lp {σ ρ : Type} (E : Nat → σ → Int → Option ρ) (n : Nat) (Inv : Nat → σ → Prop) (Post : ρ → Prop)
    (hs : ∀ k s (i : Nat), i < n → Inv i s → (∃ s', Inv (i + 1) s' ∧ E (k + 1) s (i : Int) = E k s' ((i : Int) + 1)) ∨ ∃ r, Post r ∧ E (k + 1) s (i : Int) = some r)
    (he : ∀ k s, Inv n s → ∃ r, Post r ∧ E (k + 1) s (n : Int) = some r) :
    ∀ (d i : Nat) (s : σ) (k : Nat), n - i = d → i ≤ n → Inv i s → d < k → ∃ r, Post r ∧ E k s (i : Int) = some r := by
  intro d
  induction d with
  | zero =>
    intro i s k hd hi hI hk
    obtain ⟨k, rfl⟩ : ∃ m, k = m + 1 := ⟨k - 1, by omega⟩
    obtain rfl : i = n := by omega
    exact he k s hI
  | succ d ih =>
    intro i s k hd hi hI hk
    obtain ⟨k, rfl⟩ : ∃ m, k = m + 1 := ⟨k - 1, by omega⟩
    rcases hs k s i (by omega) hI with ⟨s', hI', he'⟩ | h
    · obtain ⟨r, hr, e⟩ := ih (i + 1) s' k (by omega) (by omega) hI' (by omega)
      exact ⟨r, hr, by rw [he']; simpa using e⟩
    · exact h
/-- .. whose state is known at each place. -/
theorem pp_lpE {σ ρ : Type} (E : Nat → σ → Int → Option ρ) (n : Nat) (st : Nat → σ) (r : ρ)
    (hs : ∀ k (i : Nat), i < n → E (k + 1) (st i) (i : Int) = E k (st (i + 1)) ((i : Int) + 1)) (he : ∀ k, E (k + 1) (st n) (n : Int) = some r) (k : Nat) (hk : n < k) : E k (st 0) 0 = some r := by
  obtain ⟨q, hq, h⟩ := pp_lp E n (fun i s => s = st i) (fun q => q = r) (fun k s i hi h => .inl ⟨st (i + 1), rfl, by rw [h]; exact hs k i hi⟩) (fun k s h => ⟨r, rfl, by rw [h]; exact he k⟩) n 0 (st 0) k (by omega) (by omega) rfl hk
  rw [← hq]; simpa using h
/-- .. that fills a row. -/
theorem pp_fill {α β : Type} (L : Nat → List β → Int → Option (List β)) (g : α → β) (xs : List α) (z : β)
    (hs : ∀ k out (i : Nat) (h : i < xs.length), out.length = xs.length → L (k + 1) out (i : Int) = L k (out.set i (g xs[i])) ((i : Int) + 1)) (he : ∀ k out, L (k + 1) out (xs.length : Int) = some out)
    (k : Nat) (hk : xs.length < k) : L k (List.replicate xs.length z) 0 = some (xs.map g) := by
  obtain ⟨r, hr, h⟩ := pp_lp L xs.length (fun i out => out.length = xs.length ∧ out.take i = (xs.map g).take i) (fun r => r = xs.map g)
    (fun k out i hi ⟨h1, h2⟩ => .inl ⟨out.set i (g xs[i]), ⟨by simpa using h1, by
      rw [List.take_succ_eq_append_getElem (by simpa [h1] using hi), List.take_succ_eq_append_getElem (by simpa using hi), List.take_set_of_le (by omega), h2]
      simp⟩, hs k out i hi h1⟩)
    (fun k out ⟨h1, h2⟩ => ⟨out, by
      rw [List.take_of_length_le (by omega), List.take_of_length_le (by simp)] at h2
      exact h2, he k out⟩) xs.length 0 (List.replicate xs.length z) k (by omega) (by omega) ⟨by simp, by simp⟩ hk
  rw [← hr]; simpa using h
theorem pp_getD {α : Type} (l : List α) (i : Nat) (z : α) (h : i < l.length) : l.getD (i : Int).toNat z = l[i] := by
  simp [List.getD_eq_getElem?_getD, List.getElem?_eq_getElem h]
theorem pp_rd {l : List Int} {i : Nat} (h : i < l.length) : rd l (i : Int) = l[i] := pp_getD l i 0 h

/-- What a reader reads: bytes, no more than 2000. -/
def ppRd (l : List Int) : Prop := l.length ≤ 2000 ∧ ∀ x ∈ l, 0 ≤ x ∧ x ≤ 255
theorem pp_u8 (l : List Int) (h : ∀ x ∈ l, (Lit.int .u8 x).wf = true) : ∀ x ∈ l, 0 ≤ x ∧ x ≤ 255 := by
  intro x hx
  have := h x hx
  simp [Lit.wf, IntKind.min, IntKind.max, IntKind.signed, IntKind.bits] at this
  omega
theorem pp_rdb (l : List Int) (h : ∀ x ∈ l, 0 ≤ x ∧ x ≤ 255) (i : Int) : 0 ≤ rd l i ∧ rd l i ≤ 255 := by
  unfold rd
  rw [List.getD_eq_getElem?_getD]
  cases e : l[i.toNat]? with
  | none => simp
  | some v => exact h v (List.mem_of_getElem? e)
theorem pp_open (l : List Int) (h : ∀ x ∈ l, (Lit.int .u8 x).wf = true) : ∃ b, spec_l20Open.f l = some (b, 0) ∧ ppRd b := by
  unfold spec_l20Open.f
  by_cases hl : (l.length : Int) > 2000
  · rw [if_pos hl, if_pos (by omega)]
    exact ⟨_, rfl, by rw [List.length_take]; omega, fun x hx => pp_u8 l h x (List.mem_of_mem_take hx)⟩
  · rw [if_neg hl]
    exact ⟨_, rfl, by omega, pp_u8 l h⟩
theorem pp_xor (x y : Int) (hx : 0 ≤ x) (hy : 0 ≤ y) (hx' : x < 4611686018427387904) (hy' : y < 4611686018427387904) : 0 ≤ Go.bits .xor .i64 x y ∧ Go.bits .xor .i64 x y < 4611686018427387904 := by
  obtain ⟨a, rfl⟩ : ∃ a : Nat, x = a := ⟨x.toNat, by omega⟩
  obtain ⟨b, rfl⟩ : ∃ b : Nat, y = b := ⟨y.toNat, by omega⟩
  have ha : a % 2 ^ 64 = a := Nat.mod_eq_of_lt (by omega)
  have hb : b % 2 ^ 64 = b := Nat.mod_eq_of_lt (by omega)
  have hlt : a ^^^ b < 2 ^ 62 := Nat.xor_lt_two_pow (by omega) (by omega)
  have e : Go.bits .xor .i64 (a : Int) (b : Int) = IntKind.i64.wrap ((a ^^^ b : Nat) : Int) := by
    have q : (BitVec.ofNat 64 a ^^^ BitVec.ofNat 64 b).toNat = a ^^^ b := by rw [BitVec.toNat_xor, BitVec.toNat_ofNat, BitVec.toNat_ofNat, ha, hb]
    simp only [Go.bits, BitVec.ofInt_natCast, IntKind.bits]
    exact congrArg (fun z : Nat => IntKind.i64.wrap (z : Int)) q
  rw [e, IntKind.wrap_i64]
  omega
theorem pp_pick (l : List Int) (h : ppRd l) (p n : Int) (hp : 0 ≤ p) (hp' : p ≤ 1000000000) (hn : n ≤ 1000000) :
    Evs (fun k => spec_l20Rd_pick.f k l p n) (fun r => r.2 = p + 1 ∧ 0 ≤ r.1 ∧ (n < 1 → r.1 = 0) ∧ (1 ≤ n → r.1 < n)) := by
  obtain ⟨hl, hb⟩ := h
  have e1 : wrap64 (p + 1) = p + 1 := pp_wrap_id _ (by omega) (by omega)
  have e2 : wrap64 (p + 1 - 1) = p := by rw [show p + 1 - 1 = p by omega]; exact pp_wrap_id _ (by omega) (by omega)
  unfold spec_l20Rd_pick.f
  rw [e1]
  by_cases h1 : n < 1
  · refine Evs.cong (fun k => if_pos h1) (Evs.step (f := fun _ => some (0, p + 1)) (fun k => by simp only [spec_l20Rd_pick.j0, if_true]) (Evs.now ⟨rfl, by simp, fun _ => rfl, fun h => by omega⟩))
  · refine Evs.cong (fun k => if_neg h1) ?_
    by_cases h0 : l.length = 0
    · refine Evs.step (f := fun _ => some (0, p + 1)) (fun k => by simp only [spec_l20Rd_pick.j0]; rw [if_pos (by simp [h0])]) (Evs.now ⟨rfl, by simp, fun _ => rfl, fun h => by simp; omega⟩)
    · have hne : (((l.length : Int) == 0) = true) = False := by
        have : l ≠ [] := fun e => h0 (by rw [e]; rfl)
        simpa using this
      by_cases hlt : p < (l.length : Int)
      · have hr := pp_rdb l hb p
        have hm := Int.emod_nonneg (rd l p) (show n ≠ 0 by omega)
        have hm' := Int.emod_lt_of_pos (rd l p) (show 0 < n by omega)
        refine Evs.step (f := fun _ => some (Int.tmod (rd l p) n, p + 1)) (fun k => by
          simp only [spec_l20Rd_pick.j0, e2, hne, if_false]
          rw [if_pos hlt, if_pos hp, if_neg (show ¬ n = 0 by omega), pp_wrap_id (rd l p) (by omega) (by omega)]) (Evs.now ⟨rfl, ?_, fun h => absurd h h1, fun _ => ?_⟩)
        · simp only [Int.tmod_eq_emod_of_nonneg hr.1]; exact hm
        · simp only [Int.tmod_eq_emod_of_nonneg hr.1]; exact hm'
      · have hL : (0 : Int) < (l.length : Int) := by omega
        have ei : Int.tmod p (l.length : Int) = p % (l.length : Int) := Int.tmod_eq_emod_of_nonneg hp
        have ed : Int.tdiv p (l.length : Int) = p / (l.length : Int) := Int.tdiv_eq_ediv_of_nonneg hp
        have i0 := Int.emod_nonneg p (show (l.length : Int) ≠ 0 by omega)
        have i1 := Int.emod_lt_of_pos p hL
        have d0 : 0 ≤ p / (l.length : Int) := Int.ediv_nonneg hp (by omega)
        have d1 : p / (l.length : Int) ≤ p := Int.ediv_le_self _ hp
        have e7 : wrap64 (wrap64 (p * 7) + 3) = p * 7 + 3 := by rw [pp_wrap_id (p * 7) (by omega) (by omega), pp_wrap_id _ (by omega) (by omega)]
        have ej : Int.tmod (p * 7 + 3) (l.length : Int) = (p * 7 + 3) % (l.length : Int) := Int.tmod_eq_emod_of_nonneg (by omega)
        have j0 := Int.emod_nonneg (p * 7 + 3) (show (l.length : Int) ≠ 0 by omega)
        have j1 := Int.emod_lt_of_pos (p * 7 + 3) hL
        obtain ⟨u, hu⟩ : ∃ u, u = rd l (p % (l.length : Int)) := ⟨_, rfl⟩
        obtain ⟨v, hv⟩ : ∃ v, v = rd l ((p * 7 + 3) % (l.length : Int)) := ⟨_, rfl⟩
        have hu' : 0 ≤ u ∧ u ≤ 255 := by rw [hu]; exact pp_rdb l hb _
        have hv' : 0 ≤ v ∧ v ≤ 255 := by rw [hv]; exact pp_rdb l hb _
        obtain ⟨dq, hdq⟩ : ∃ dq, dq = p / (l.length : Int) := ⟨_, rfl⟩
        rw [← hdq] at d0 d1
        have w1 : wrap64 u = u := pp_wrap_id _ (by omega) (by omega)
        have w2 : wrap64 (u * 131) = u * 131 := pp_wrap_id _ (by omega) (by omega)
        have w3 : wrap64 v = v := pp_wrap_id _ (by omega) (by omega)
        have w4 : wrap64 (v * 1117) = v * 1117 := pp_wrap_id _ (by omega) (by omega)
        have w5 : wrap64 (u * 131 + v * 1117) = u * 131 + v * 1117 := pp_wrap_id _ (by omega) (by omega)
        have w6 : wrap64 (p * 29) = p * 29 := pp_wrap_id _ (by omega) (by omega)
        have w7 : wrap64 (u * 131 + v * 1117 + p * 29) = u * 131 + v * 1117 + p * 29 := pp_wrap_id _ (by omega) (by omega)
        have w8 : wrap64 dq = dq := pp_wrap_id _ (by omega) (by omega)
        have w9 : wrap64 (dq * 53) = dq * 53 := pp_wrap_id _ (by omega) (by omega)
        have wa : wrap64 (u * 131 + v * 1117 + p * 29 + dq * 53) = u * 131 + v * 1117 + p * 29 + dq * 53 := pp_wrap_id _ (by omega) (by omega)
        obtain ⟨x, hx⟩ : ∃ x, x = u * 131 + v * 1117 + p * 29 + dq * 53 := ⟨_, rfl⟩
        have x0 : 0 ≤ x := by omega
        have x1 : x < 4611686018427387904 := by omega
        have wx : wrap64 x = x := pp_wrap_id _ (by omega) (by omega)
        have ex : Int.tdiv x 64 = x / 64 := Int.tdiv_eq_ediv_of_nonneg x0
        have wb : wrap64 (x / 64) = x / 64 := pp_wrap_id _ (by omega) (by omega)
        have hz := pp_xor x (x / 64) x0 (by omega) x1 (by omega)
        have hm := Int.emod_nonneg (Go.bits .xor .i64 x (x / 64)) (show n ≠ 0 by omega)
        have hm' := Int.emod_lt_of_pos (Go.bits .xor .i64 x (x / 64)) (show 0 < n by omega)
        refine Evs.step (f := fun _ => some (Int.tmod (Go.bits .xor .i64 x (x / 64)) n, p + 1)) (fun k => by
          simp only [spec_l20Rd_pick.j0, e2, hne, if_false, ei, ed, e7, ej, ← hu, ← hv, ← hdq, w1, w2, w3, w4, w5, w6, w7, w8, w9, wa, ← hx, wx, ex, wb]
          rw [if_neg hlt, if_neg (by omega), if_pos i0, if_pos i1, if_pos j0, if_pos j1, if_neg (by omega)]) (Evs.now ⟨rfl, ?_, fun h => absurd h h1, fun _ => ?_⟩)
        · simp only [Int.tmod_eq_emod_of_nonneg hz.1]; exact hm
        · simp only [Int.tmod_eq_emod_of_nonneg hz.1]; exact hm'

theorem pp_brd_j1 (l : List Int) (h : ppRd l) (n p s w : Int) (hn : n ≤ 1000000) (hp : 0 ≤ p) (hp' : p ≤ 900000000) (hs : -1 ≤ s ∧ s ≤ 5) (hw : -1 ≤ w ∧ w ≤ 4) :
    Evs (fun k => spec_l20Brd.j1 k n l p s w) (fun r => (-1 ≤ r.1 ∧ r.1 ≤ 5) ∧ (-1 ≤ r.2.1 ∧ r.2.1 ≤ 4) ∧ p ≤ r.2.2 ∧ r.2.2 ≤ p + 3) := by
  refine Evs.step (fun k => by simp only [spec_l20Brd.j1]; try rfl) ?_
  refine Evs.bnd (pp_pick l h p n hp (by omega) (by omega)) ?_
  rintro ⟨v, q⟩ ⟨hq, h0, _, _⟩
  simp only at hq h0 ⊢
  refine Evs.ite (fun _ => ?_) (fun _ => Evs.now ⟨hs, hw, by simp only; omega, by simp only; omega⟩)
  refine Evs.bnd (pp_pick l h q 2 (by omega) (by omega) (by omega)) ?_
  rintro ⟨v2, q2⟩ ⟨hq2, h02, _, _⟩
  simp only at hq2 h02 ⊢
  refine Evs.ite (fun _ => ?_) (fun _ => ?_)
  · simp only [Option.bind_some]
    refine Evs.bnd (pp_pick l h q2 3 (by omega) (by omega) (by omega)) ?_
    rintro ⟨v3, q3⟩ ⟨hq3, h03, _, h13⟩
    simp only at hq3 h03 h13 ⊢
    have h13 := h13 (by omega)
    refine Evs.pos h03 (Evs.pos (by simp; omega) (Evs.now ⟨?_, hw, by simp only; omega, by simp only; omega⟩))
    have : v3 = 0 ∨ v3 = 1 ∨ v3 = 2 := by omega
    rcases this with rfl | rfl | rfl <;> simp [rd]
  · simp only [Option.bind_some]
    refine Evs.bnd (pp_pick l h q2 4 (by omega) (by omega) (by omega)) ?_
    rintro ⟨v3, q3⟩ ⟨hq3, h03, _, h13⟩
    simp only at hq3 h03 h13 ⊢
    have h13 := h13 (by omega)
    refine Evs.pos h03 (Evs.pos (by simp; omega) (Evs.now ⟨hs, ?_, by simp only; omega, by simp only; omega⟩))
    have : v3 = 0 ∨ v3 = 1 ∨ v3 = 2 ∨ v3 = 3 := by omega
    rcases this with rfl | rfl | rfl | rfl <;> simp [rd]
theorem pp_brd (l : List Int) (h : ppRd l) (n p : Int) (hn : n ≤ 1000000) (hp : 0 ≤ p) (hp' : p ≤ 800000000) :
    Evs (fun k => spec_l20Brd.f k l p n) (fun r => (-1 ≤ r.1 ∧ r.1 ≤ 5) ∧ (-1 ≤ r.2.1 ∧ r.2.1 ≤ 4) ∧ p ≤ r.2.2 ∧ r.2.2 ≤ p + 6) := by
  have two : ∀ q, p ≤ q → q ≤ p + 1 → Evs (fun k => (spec_l20Rd_pick.f k l q 3).bind fun a => (spec_l20Rd_pick.f k l a.2 3).bind fun b => spec_l20Brd.j1 k n l b.2 (wrap64 (1 + a.1)) (wrap64 (1 + b.1))) (fun r => (-1 ≤ r.1 ∧ r.1 ≤ 5) ∧ (-1 ≤ r.2.1 ∧ r.2.1 ≤ 4) ∧ p ≤ r.2.2 ∧ r.2.2 ≤ p + 6) := by
    intro q hq0 hq1
    refine Evs.bnd (pp_pick l h q 3 (by omega) (by omega) (by omega)) ?_
    rintro ⟨v2, q2⟩ ⟨hq2, h02, _, h12⟩
    simp only at hq2 h02 h12 ⊢
    have h12 := h12 (by omega)
    refine Evs.bnd (pp_pick l h q2 3 (by omega) (by omega) (by omega)) ?_
    rintro ⟨v3, q3⟩ ⟨hq3, h03, _, h13⟩
    simp only at hq3 h03 h13 ⊢
    have h13 := h13 (by omega)
    rw [pp_wrap_id (1 + v2) (by omega) (by omega), pp_wrap_id (1 + v3) (by omega) (by omega)]
    exact (pp_brd_j1 l h n q3 _ _ hn (by omega) (by omega) ⟨by omega, by omega⟩ ⟨by omega, by omega⟩).imp fun r ⟨a, b, c, d⟩ => ⟨a, b, by omega, by omega⟩
  unfold spec_l20Brd.f
  refine Evs.bnd (pp_pick l h p 4 hp (by omega) (by omega)) ?_
  rintro ⟨v, q⟩ ⟨hq, h0, _, h1⟩
  simp only at hq h0 h1 ⊢
  refine Evs.ite (fun hv => ?_) (fun hv => ?_)
  · refine Evs.step (fun k => by simp only [spec_l20Brd.j0]; rw [if_pos (by simp [hv])]; try rfl) ?_
    exact two q (by omega) (by omega)
  · by_cases hv1 : v = 1
    · refine Evs.step (fun k => by simp only [spec_l20Brd.j0]; rw [if_pos (by simp [hv1])]; try rfl) ?_
      exact two q (by omega) (by omega)
    · refine Evs.step (fun k => by simp only [spec_l20Brd.j0]; rw [if_neg (by simp [hv1])]; try rfl) ?_
      refine Evs.ite (fun _ => ?_) (fun _ => (pp_brd_j1 l h n q 0 0 hn (by omega) (by omega) ⟨by omega, by omega⟩ ⟨by omega, by omega⟩).imp fun r ⟨a, b, c, d⟩ => ⟨a, b, by omega, by omega⟩)
      refine Evs.bnd (pp_pick l h q 3 (by omega) (by omega) (by omega)) ?_
      rintro ⟨v2, q2⟩ ⟨hq2, h02, _, h12⟩
      simp only at hq2 h02 h12 ⊢
      refine Evs.ite (fun _ => ?_) (fun _ => ?_)
      · exact (pp_brd_j1 l h n q2 _ _ hn (by omega) (by omega) ⟨by omega, by omega⟩ ⟨by omega, by omega⟩).imp fun r ⟨a, b, c, d⟩ => ⟨a, b, by omega, by omega⟩
      · exact (pp_brd_j1 l h n q2 _ _ hn (by omega) (by omega) ⟨by omega, by omega⟩ ⟨by omega, by omega⟩).imp fun r ⟨a, b, c, d⟩ => ⟨a, b, by omega, by omega⟩

theorem pp_join (x y : ByteArray) (hx : x.size ≤ 30) (hy : y.size ≤ 10) : (ppJoin x y).size ≤ 30 := by
  unfold ppJoin
  split
  · omega
  · split
    · rename_i h
      rw [ByteArray.size_append, ByteArray.size_append]
      have : (⟨#[32]⟩ : ByteArray).size = 1 := rfl
      omega
    · exact hx
theorem pp_text_l (l : List Int) (h : ppRd l) : ∀ (n : Nat) (x : ByteArray) (p : Int), x.size ≤ 30 → 0 ≤ p → p + n ≤ 800000000 → n ≤ 10 → Evs (fun k => spec_l20Text.l k l n x p) (fun r => r.1.size ≤ 30 ∧ p ≤ r.2 ∧ r.2 ≤ p + n)
  | 0, x, p, hx, hp, hp', hn => Evs.cong (f := fun _ => some (x, p)) (fun _ => rfl) (Evs.now ⟨hx, by simp, by simp⟩)
  | n + 1, x, p, hx, hp, hp', hn => by
    unfold spec_l20Text.l
    refine Evs.bnd (pp_pick l h p 7 hp (by omega) (by omega)) ?_
    rintro ⟨v, q⟩ ⟨hq, h0, _, h1⟩
    simp only at hq h0 h1 ⊢
    have h1 := h1 (by omega)
    refine Evs.pos ⟨h0, h1, hx⟩ ((pp_text_l l h n _ q (pp_join _ _ hx (ppW7_size _)) (by omega) (by omega) (by omega)).imp fun r ⟨a, b, c⟩ => ⟨a, by omega, by omega⟩)
theorem pp_text (l : List Int) (h : ppRd l) (p : Int) (hp : 0 ≤ p) (hp' : p ≤ 700000000) : Evs (fun k => spec_l20Text.f k l p) (fun r => r.1.size ≤ 30 ∧ p ≤ r.2 ∧ r.2 ≤ p + 6) := by
  unfold spec_l20Text.f
  refine Evs.bnd (pp_pick l h p 6 hp (by omega) (by omega)) ?_
  rintro ⟨v, q⟩ ⟨hq, h0, _, h1⟩
  simp only at hq h0 h1 ⊢
  have h1 := h1 (by omega)
  refine Evs.pos ⟨h0, by omega⟩ ((pp_text_l l h v.toNat ⟨#[]⟩ q (by decide) (by omega) (by omega) (by omega)).imp fun r ⟨a, b, c⟩ => ⟨a, by omega, by omega⟩)
theorem pp_anyText (l : List Int) (h : ppRd l) (p n : Int) (hp : 0 ≤ p) (hp' : p ≤ 700000000) (hn : n ≤ 1000000) : Evs (fun k => spec_l20AnyText.f k l p n) (fun r => p ≤ r.2 ∧ r.2 ≤ p + 9) := by
  unfold spec_l20AnyText.f
  refine Evs.bnd (pp_text l h p hp hp') ?_
  rintro ⟨x, q⟩ ⟨hx, q0, q1⟩
  simp only at hx q0 q1 ⊢
  refine Evs.bnd (pp_pick l h q n (by omega) (by omega) hn) ?_
  rintro ⟨v, q2⟩ ⟨hq, _, _, _⟩
  simp only at hq ⊢
  refine Evs.ite (fun _ => Evs.now ⟨by simp only; omega, by simp only; omega⟩) (fun _ => Evs.pos (by omega) ?_)
  refine Evs.bnd (pp_pick l h q2 ((x.size : Int) + 1) (by omega) (by omega) (by omega)) ?_
  rintro ⟨d, q3⟩ ⟨hq3, d0, _, d1⟩
  simp only at hq3 d0 d1 ⊢
  have d1 := d1 (by omega)
  refine Evs.bnd (pp_pick l h q3 7 (by omega) (by omega) (by omega)) ?_
  rintro ⟨e, q4⟩ ⟨hq4, e0, _, e1⟩
  simp only at hq4 e0 e1 ⊢
  have e1 := e1 (by omega)
  exact Evs.pos ⟨d0, by omega, e0, e1⟩ (Evs.now ⟨by simp only; omega, by simp only; omega⟩)
theorem pp_cell_j (l : List Int) (h : ppRd l) (n : Int) (x : S68) (p : Int) (hn : n ≤ 1000000) (hp : 0 ≤ p) (hp' : p ≤ 600000000) : Evs (fun k => spec_l20Cell.j k l n x p) (fun r => p ≤ r.2 ∧ r.2 ≤ p + 11) := by
  unfold spec_l20Cell.j
  refine Evs.bnd (pp_pick l h p n hp (by omega) hn) ?_
  rintro ⟨v, q⟩ ⟨hq, _, _, _⟩
  simp only at hq ⊢
  refine Evs.ite (fun _ => Evs.now ⟨by simp only; omega, by simp only; omega⟩) (fun _ => ?_)
  refine Evs.bnd (pp_pick l h q 4 (by omega) (by omega) (by omega)) ?_
  rintro ⟨d, q2⟩ ⟨hq2, d0, _, d1⟩
  simp only at hq2 d0 d1 ⊢
  refine Evs.ite (fun _ => ?_) (fun _ => Evs.ite (fun _ => ?_) (fun _ => Evs.ite (fun _ => ?_) (fun _ => ?_)))
  · refine Evs.bnd (pp_anyText l h q2 1 (by omega) (by omega) (by omega)) ?_
    rintro ⟨t, q3⟩ ⟨a, b⟩
    exact Evs.now ⟨by simp only at *; omega, by simp only at *; omega⟩
  · refine Evs.bnd (pp_pick l h q2 3 (by omega) (by omega) (by omega)) ?_
    rintro ⟨e, q3⟩ ⟨hq3, e0, _, e1⟩
    simp only at hq3 e0 e1 ⊢
    exact Evs.pos ⟨e0, e1 (by omega)⟩ (Evs.now ⟨by simp only; omega, by simp only; omega⟩)
  · refine Evs.bnd (pp_pick l h q2 3 (by omega) (by omega) (by omega)) ?_
    rintro ⟨e, q3⟩ ⟨hq3, e0, _, e1⟩
    simp only at hq3 e0 e1 ⊢
    exact Evs.pos ⟨e0, e1 (by omega)⟩ (Evs.now ⟨by simp only; omega, by simp only; omega⟩)
  · refine Evs.bnd (pp_brd l h 1 q2 (by omega) (by omega) (by omega)) ?_
    rintro ⟨s, w, q3⟩ ⟨_, _, g0, g1⟩
    exact Evs.now ⟨by simp only at *; omega, by simp only at *; omega⟩
theorem pp_cell (l : List Int) (h : ppRd l) (p n : Int) (hn : n ≤ 1000000) (hp : 0 ≤ p) (hp' : p ≤ 500000000) : Evs (fun k => spec_l20Cell.f k l p n) (fun r => p ≤ r.2 ∧ r.2 ≤ p + 43) := by
  unfold spec_l20Cell.f
  refine Evs.bnd (pp_text l h p hp (by omega)) ?_
  rintro ⟨t, q1⟩ ⟨_, a1, b1⟩
  simp only at a1 b1 ⊢
  refine Evs.bnd (pp_pick l h q1 6 (by omega) (by omega) (by omega)) ?_
  rintro ⟨c, q2⟩ ⟨hq2, c0, _, c1⟩
  simp only at hq2 c0 c1 ⊢
  refine Evs.bnd (pp_pick l h q2 6 (by omega) (by omega) (by omega)) ?_
  rintro ⟨r, q3⟩ ⟨hq3, r0, _, r1⟩
  simp only at hq3 r0 r1 ⊢
  refine Evs.pos ⟨c0, c1 (by omega), r0, r1 (by omega)⟩ ?_
  refine Evs.bnd (pp_brd l h 999 q3 (by omega) (by omega) (by omega)) ?_
  rintro ⟨s1, w1, q4⟩ ⟨_, _, g0, g1⟩
  simp only at g0 g1 ⊢
  refine Evs.bnd (pp_brd l h 999 q4 (by omega) (by omega) (by omega)) ?_
  rintro ⟨s2, w2, q5⟩ ⟨_, _, g2, g3⟩
  simp only at g2 g3 ⊢
  refine Evs.bnd (pp_brd l h 999 q5 (by omega) (by omega) (by omega)) ?_
  rintro ⟨s3, w3, q6⟩ ⟨_, _, g4, g5⟩
  simp only at g4 g5 ⊢
  refine Evs.bnd (pp_brd l h 999 q6 (by omega) (by omega) (by omega)) ?_
  rintro ⟨s4, w4, q7⟩ ⟨_, _, g6, g7⟩
  simp only at g6 g7 ⊢
  exact (pp_cell_j l h n _ q7 hn (by omega) (by omega)).imp fun r ⟨a, b⟩ => ⟨by omega, by omega⟩

theorem pp_l1In (a b c : Int) : Evs (fun _ => spec_l1In.f a b c) (fun _ => True) := by
  unfold spec_l1In.f
  exact Evs.ite (fun _ => Evs.now trivial) (fun _ => Evs.now trivial)
theorem pp_txtOk (x : ByteArray) : Evs (fun k => spec_TxtOk.f k x) (fun _ => True) := by
  unfold spec_TxtOk.f
  refine Evs.ite (fun _ => Evs.now trivial) (fun hx => ?_)
  have loop : ∀ (d i : Nat), x.size - i = d → i ≤ x.size → Evs (fun k => spec_TxtOk.l0 k x (i : Int)) (fun _ => True) := by
    intro d
    induction d with
    | zero =>
      intro i hd hi
      exact Evs.step (f := fun _ => some true) (fun k => by simp only [spec_TxtOk.l0]; rw [if_neg (by omega)]) (Evs.now trivial)
    | succ d ih =>
      intro i hd hi
      have J : ∀ b, Evs (fun k => spec_TxtOk.j1 k x (i : Int) b) (fun _ => True) := by
        intro b
        refine Evs.step (fun k => by simp only [spec_TxtOk.j1]; rfl) ?_
        refine Evs.ite (fun _ => Evs.now trivial) (fun _ => Evs.pos (by omega) (Evs.pos (by omega) ?_))
        have n := ih (i + 1) (by omega) (by omega)
        rw [show (((i + 1 : Nat)) : Int) = wrap64 ((i : Int) + 1) by rw [pp_wrap_id _ (by omega) (by omega)]; rfl] at n
        refine Evs.ite (fun _ => n) (fun _ => ?_)
        refine Evs.bnd (pp_l1In _ _ _) (fun b _ => ?_)
        exact Evs.ite (fun _ => n) (fun _ => Evs.now trivial)
      refine Evs.step (fun k => by simp only [spec_TxtOk.l0]; rfl) ?_
      refine Evs.pos (by omega) (Evs.pos (by omega) (Evs.ite (fun _ => Evs.ite (fun _ => J _) (fun h0 => Evs.ite (fun _ => J _) (fun _ => ?_))) (fun _ => J _)))
      rw [pp_wrap_id ((i : Int) - 1) (by omega) (by omega)]
      exact Evs.pos (by omega) (Evs.pos (by omega) (J _))
  exact loop _ 0 rfl (by omega)
theorem pp_brdOk (a b : Int) : Evs (fun k => spec_BrdOk.f k a b) (fun _ => True) := by
  have J : ∀ c, Evs (fun k => spec_BrdOk.j0 k c a b) (fun _ => True) := by
    intro c
    refine Evs.step (fun k => by simp only [spec_BrdOk.j0]; rfl) ?_
    refine Evs.ite (fun _ => Evs.now trivial) (fun _ => ?_)
    refine Evs.bnd (pp_l1In _ _ _) (fun t _ => ?_)
    exact Evs.ite (fun _ => Evs.bnd (pp_l1In _ _ _) (fun t _ => Evs.now trivial)) (fun _ => Evs.now trivial)
  unfold spec_BrdOk.f
  exact Evs.ite (fun _ => J _) (fun _ => J _)
theorem pp_cellOk (x : ByteArray) (a1 a2 a3 a4 a5 a6 a7 a8 a9 a10 : Int) : Evs (fun k => spec_CellOk.f k x a1 a2 a3 a4 a5 a6 a7 a8 a9 a10) (fun _ => True) := by
  unfold spec_CellOk.f
  refine Evs.bnd (pp_txtOk _) (fun _ _ => Evs.ite (fun _ => ?_) (fun _ => Evs.now trivial))
  refine Evs.bnd (pp_l1In _ _ _) (fun _ _ => Evs.ite (fun _ => ?_) (fun _ => Evs.now trivial))
  refine Evs.bnd (pp_l1In _ _ _) (fun _ _ => Evs.ite (fun _ => ?_) (fun _ => Evs.now trivial))
  refine Evs.bnd (pp_brdOk _ _) (fun _ _ => Evs.ite (fun _ => ?_) (fun _ => Evs.now trivial))
  refine Evs.bnd (pp_brdOk _ _) (fun _ _ => Evs.ite (fun _ => ?_) (fun _ => Evs.now trivial))
  refine Evs.bnd (pp_brdOk _ _) (fun _ _ => Evs.ite (fun _ => ?_) (fun _ => Evs.now trivial))
  exact Evs.bnd (pp_brdOk _ _) (fun _ _ => Evs.now trivial)
theorem pp_l2Col (a b : Int) : Evs (fun _ => spec_l2Col.f a b) (fun _ => True) := by
  unfold spec_l2Col.f
  refine Evs.ite (fun _ => Evs.now trivial) (fun _ => Evs.ite (fun _ => ?_) (fun _ => Evs.ite (fun _ => ?_) (fun _ => Evs.now trivial)))
  · exact Evs.bnd (pp_l1In _ _ _) (fun _ _ => Evs.now trivial)
  · exact Evs.bnd (pp_l1In _ _ _) (fun _ _ => Evs.now trivial)
theorem pp_tblOk (cs : List S61) (hd ft : Int) (rs : List S64) (gp : Int) : Evs (fun k => spec_TblOk.f k cs hd ft rs gp) (fun r => r = true → rs.length ≤ 8 ∧ ∀ x ∈ rs, x.f0.length ≤ 5) := by
  have L : rs.length ≤ 8 → ∀ (d i : Nat), rs.length - i = d → i ≤ rs.length → (∀ j (hj : j < rs.length), j < i → rs[j].f0.length ≤ 5) → Evs (fun k => spec_TblOk.l1 k (i : Int) cs hd ft rs gp) (fun r => r = true → rs.length ≤ 8 ∧ ∀ x ∈ rs, x.f0.length ≤ 5) := by
    intro h8 d
    induction d with
    | zero =>
      intro i hd' hi hI
      refine Evs.step (f := fun _ => some true) (fun k => by simp only [spec_TblOk.l1]; rw [if_neg (by omega)]) (Evs.now fun _ => ⟨h8, fun x hx => ?_⟩)
      obtain ⟨j, hj, rfl⟩ := List.getElem_of_mem hx
      exact hI j hj (by omega)
    | succ d ih =>
      intro i hd' hi hI
      have hir : rd_T64 rs (i : Int) = rs[i] := pp_getD rs i _ (by omega)
      refine Evs.step (fun k => by simp only [spec_TblOk.l1]; rfl) ?_
      refine Evs.pos (by omega) (Evs.pos (by omega) (Evs.ite (fun _ => Evs.now (fun h => by cases h)) (fun h5 => ?_)))
      rw [hir] at h5
      have n := ih (i + 1) (by omega) (by omega) (fun j hj hji => by
        by_cases e : j = i
        · subst e; omega
        · exact hI j hj (by omega))
      rw [show (((i + 1 : Nat)) : Int) = wrap64 ((i : Int) + 1) by rw [pp_wrap_id _ (by omega) (by omega)]; rfl] at n
      have M : ∀ (d j : Nat), rs[i].f0.length - j = d → j ≤ rs[i].f0.length → Evs (fun k => spec_TblOk.l2 k (i : Int) (j : Int) cs hd ft rs gp) (fun r => r = true → rs.length ≤ 8 ∧ ∀ x ∈ rs, x.f0.length ≤ 5) := by
        intro d
        induction d with
        | zero =>
          intro j hd2 hj
          refine Evs.step (fun k => by simp only [spec_TblOk.l2]; rw [hir]) ?_
          exact Evs.pos (by omega) (Evs.pos (by omega) (Evs.neg (by omega) n))
        | succ d ih2 =>
          intro j hd2 hj
          have n2 := ih2 (j + 1) (by omega) (by omega)
          rw [show (((j + 1 : Nat)) : Int) = wrap64 ((j : Int) + 1) by rw [pp_wrap_id _ (by omega) (by omega)]; rfl] at n2
          refine Evs.step (fun k => by simp only [spec_TblOk.l2]; rw [hir]) ?_
          refine Evs.pos (by omega) (Evs.pos (by omega) (Evs.pos (by omega) (Evs.pos (by omega) ?_)))
          refine Evs.bnd (pp_cellOk _ _ _ _ _ _ _ _ _ _ _) (fun b _ => ?_)
          exact Evs.ite (fun _ => n2) (fun _ => Evs.now (fun h => by cases h))
      exact M _ 0 rfl (by omega)
  have K : cs.length ≤ 8 → rs.length ≤ 8 → ∀ (d i : Nat), cs.length - i = d → i ≤ cs.length → Evs (fun k => spec_TblOk.l0 k (i : Int) cs hd ft rs gp) (fun r => r = true → rs.length ≤ 8 ∧ ∀ x ∈ rs, x.f0.length ≤ 5) := by
    intro h8 h8' d
    induction d with
    | zero =>
      intro i hd' hi
      exact Evs.step (f := fun k => spec_TblOk.l1 k ((0 : Nat) : Int) cs hd ft rs gp) (fun k => by simp only [spec_TblOk.l0]; rw [if_neg (by omega)]; rfl) (L h8' _ 0 rfl (by omega) (fun j _ h => absurd h (Nat.not_lt_zero _)))
    | succ d ih =>
      intro i hd' hi
      have n := ih (i + 1) (by omega) (by omega)
      rw [show (((i + 1 : Nat)) : Int) = wrap64 ((i : Int) + 1) by rw [pp_wrap_id _ (by omega) (by omega)]; rfl] at n
      refine Evs.step (fun k => by simp only [spec_TblOk.l0]; rfl) ?_
      refine Evs.pos (by omega) (Evs.pos (by omega) ?_)
      refine Evs.bnd (pp_l2Col _ _) (fun b _ => ?_)
      exact Evs.ite (fun _ => n) (fun _ => Evs.now (fun h => by cases h))
  have J0 : Evs (fun k => spec_TblOk.j0 k true cs hd ft rs gp) (fun r => r = true → rs.length ≤ 8 ∧ ∀ x ∈ rs, x.f0.length ≤ 5) := Evs.step (f := fun _ => some false) (fun k => by simp only [spec_TblOk.j0]; rfl) (Evs.now (fun h => by cases h))
  have J1 : cs.length ≤ 8 → rs.length ≤ 8 → ∀ b, Evs (fun k => spec_TblOk.j0 k b cs hd ft rs gp) (fun r => r = true → rs.length ≤ 8 ∧ ∀ x ∈ rs, x.f0.length ≤ 5) := by
    intro h8 h8' b
    refine Evs.step (fun k => by simp only [spec_TblOk.j0]; rfl) ?_
    exact Evs.ite (fun _ => Evs.now (fun h => by cases h)) (fun _ => K h8 h8' _ 0 rfl (by omega))
  unfold spec_TblOk.f
  by_cases h8' : rs.length ≤ 8
  · refine Evs.bnd (pp_l1In _ _ _) (fun b _ => ?_)
    refine Evs.ite (fun _ => Evs.ite (fun _ => J0) (fun h8 => ?_)) (fun _ => J0)
    refine Evs.bnd (pp_l1In _ _ _) (fun b _ => Evs.ite (fun _ => ?_) (fun _ => J0))
    refine Evs.bnd (pp_l1In _ _ _) (fun b _ => Evs.ite (fun _ => ?_) (fun _ => J0))
    exact Evs.bnd (pp_l1In _ _ _) (fun b _ => J1 (by omega) h8' _)
  · have e : spec_l1In.f (rs.length : Int) 1 8 = some false := by
      unfold spec_l1In.f
      split
      · rw [decide_eq_false (by omega)]
      · rfl
    rw [e]
    simp only [Option.bind_some]
    exact Evs.neg (by decide) J0

theorem pp_tab_c (l : List Int) (h : ppRd l) : ∀ (n : Nat) (xs : List S61) (p : Int), 0 ≤ p → p + 3 * n ≤ 400000000 → n ≤ 10 → Evs (fun k => spec_l20Table.lc k l n xs p) (fun r => p ≤ r.2 ∧ r.2 ≤ p + 3 * n)
  | 0, xs, p, hp, hp', hn => Evs.cong (f := fun _ => some (xs, p)) (fun _ => rfl) (Evs.now ⟨by simp, by simp⟩)
  | n + 1, xs, p, hp, hp', hn => by
    unfold spec_l20Table.lc
    refine Evs.bnd (pp_pick l h p 30 hp (by omega) (by omega)) ?_
    rintro ⟨a, q⟩ ⟨hq, a0, _, a1⟩
    simp only at hq a0 a1 ⊢
    refine Evs.bnd (pp_pick l h q 4 (by omega) (by omega) (by omega)) ?_
    rintro ⟨b, q2⟩ ⟨hq2, b0, _, b1⟩
    simp only at hq2 b0 b1 ⊢
    refine Evs.bnd (pp_pick l h q2 4 (by omega) (by omega) (by omega)) ?_
    rintro ⟨c, q3⟩ ⟨hq3, c0, _, c1⟩
    simp only at hq3 c0 c1 ⊢
    exact Evs.pos ⟨b0, b1 (by omega), c0, c1 (by omega)⟩ ((pp_tab_c l h n _ q3 (by omega) (by omega) (by omega)).imp fun r ⟨a, b⟩ => ⟨by omega, by omega⟩)
theorem pp_tab_s (l : List Int) (h : ppRd l) : ∀ (n : Nat) (xs : List S68) (p : Int), 0 ≤ p → p + 43 * n ≤ 400000000 → n ≤ 10 → Evs (fun k => spec_l20Table.ls k l n xs p) (fun r => p ≤ r.2 ∧ r.2 ≤ p + 43 * n)
  | 0, xs, p, hp, hp', hn => Evs.cong (f := fun _ => some (xs, p)) (fun _ => rfl) (Evs.now ⟨by simp, by simp⟩)
  | n + 1, xs, p, hp, hp', hn => by
    unfold spec_l20Table.ls
    refine Evs.bnd (pp_cell l h p 99999 (by omega) hp (by omega)) ?_
    rintro ⟨c, q⟩ ⟨q0, q1⟩
    simp only at q0 q1 ⊢
    exact (pp_tab_s l h n _ q (by omega) (by omega) (by omega)).imp fun r ⟨a, b⟩ => ⟨by omega, by omega⟩
theorem pp_tab_r (l : List Int) (h : ppRd l) : ∀ (n : Nat) (xs : List S64) (p : Int), 0 ≤ p → p + 200 * n ≤ 300000000 → n ≤ 10 → Evs (fun k => spec_l20Table.lr k l n xs p) (fun r => p ≤ r.2 ∧ r.2 ≤ p + 200 * n)
  | 0, xs, p, hp, hp', hn => Evs.cong (f := fun _ => some (xs, p)) (fun _ => rfl) (Evs.now ⟨by simp, by simp⟩)
  | n + 1, xs, p, hp, hp', hn => by
    unfold spec_l20Table.lr
    refine Evs.bnd (pp_pick l h p 4 hp (by omega) (by omega)) ?_
    rintro ⟨a, q⟩ ⟨hq, a0, _, a1⟩
    simp only at hq a0 a1 ⊢
    refine Evs.bnd (pp_pick l h q 5 (by omega) (by omega) (by omega)) ?_
    rintro ⟨b, q2⟩ ⟨hq2, b0, _, b1⟩
    simp only at hq2 b0 b1 ⊢
    have b1 := b1 (by omega)
    refine Evs.pos ⟨b0, by omega⟩ ?_
    refine Evs.bnd (pp_tab_s l h b.toNat [] q2 (by omega) (by omega) (by omega)) ?_
    rintro ⟨c, q3⟩ ⟨g0, g1⟩
    simp only at g0 g1 ⊢
    exact (pp_tab_r l h n _ q3 (by omega) (by omega) (by omega)).imp fun r ⟨a, b⟩ => ⟨by omega, by omega⟩
theorem pp_tab_f (t : PTab) (p : Int) : Evs (fun k => spec_l20Table.fin k t p) (fun r => r.2 = p) := by
  unfold spec_l20Table.fin
  exact Evs.bnd (pp_tblOk _ _ _ _ _) (fun _ _ => Evs.now rfl)
theorem pp_table (l : List Int) (h : ppRd l) (p : Int) (hp : 0 ≤ p) (hp' : p ≤ 200000000) : Evs (fun k => spec_l20Table.f k l p) (fun r => p ≤ r.2 ∧ r.2 ≤ p + 2000) := by
  unfold spec_l20Table.f
  refine Evs.bnd (pp_pick l h p 4 hp (by omega) (by omega)) ?_
  rintro ⟨gap, q⟩ ⟨hq, _, _, _⟩
  simp only at hq ⊢
  refine Evs.bnd (pp_pick l h q 6 (by omega) (by omega) (by omega)) ?_
  rintro ⟨nc, q2⟩ ⟨hq2, c0, _, c1⟩
  simp only at hq2 c0 c1 ⊢
  have c1 := c1 (by omega)
  refine Evs.pos ⟨c0, by omega⟩ ?_
  refine Evs.bnd (pp_tab_c l h nc.toNat [] q2 (by omega) (by omega) (by omega)) ?_
  rintro ⟨cols, q3⟩ ⟨g0, g1⟩
  simp only at g0 g1 ⊢
  refine Evs.bnd (pp_pick l h q3 6 (by omega) (by omega) (by omega)) ?_
  rintro ⟨nr, q4⟩ ⟨hq4, r0, _, r1⟩
  simp only at hq4 r0 r1 ⊢
  have r1 := r1 (by omega)
  refine Evs.pos ⟨r0, by omega⟩ ?_
  refine Evs.bnd (pp_tab_r l h (nr.toNat + 1) [] q4 (by omega) (by omega) (by omega)) ?_
  rintro ⟨rows, q5⟩ ⟨g2, g3⟩
  simp only at g2 g3 ⊢
  refine Evs.bnd (pp_pick l h q5 2 (by omega) (by omega) (by omega)) ?_
  rintro ⟨hf, q6⟩ ⟨hq6, _, _, _⟩
  simp only at hq6 ⊢
  refine Evs.ite (fun _ => ?_) (fun _ => (pp_tab_f _ _).imp fun r e => ⟨by omega, by omega⟩)
  refine Evs.bnd (pp_pick l h q6 2 (by omega) (by omega) (by omega)) ?_
  rintro ⟨hd, q7⟩ ⟨hq7, d0, _, d1⟩
  simp only at hq7 d0 d1 ⊢
  have d1 := d1 (by omega)
  refine Evs.bnd (pp_pick l h q7 2 (by omega) (by omega) (by omega)) ?_
  rintro ⟨ft, q8⟩ ⟨hq8, f0, _, f1⟩
  simp only at hq8 f0 f1 ⊢
  have f1 := f1 (by omega)
  exact Evs.pos ⟨d0, by omega, f0, by omega⟩ ((pp_tab_f _ _).imp fun r e => ⟨by omega, by omega⟩)
theorem pp_meets (a0 a1 a2 a3 a4 b0 b1 b2 b3 b4 : Int) : Evs (fun _ => spec_l3Meets.f a0 a1 a2 a3 a4 b0 b1 b2 b3 b4) (fun _ => True) := by
  unfold spec_l3Meets.f
  exact Evs.ite (fun _ => Evs.ite (fun _ => Evs.ite (fun _ => Evs.now trivial) (fun _ => Evs.now trivial)) (fun _ => Evs.now trivial)) (fun _ => Evs.now trivial)
theorem pp_free (ds : List S29) (hl : ds.length ≤ 1000000) (b0 b1 b2 b3 b4 : Int) : Evs (fun k => spec_l3Free.f k ds b0 b1 b2 b3 b4) (fun _ => True) := by
  unfold spec_l3Free.f
  have loop : ∀ (d i : Nat), ds.length - i = d → i ≤ ds.length → Evs (fun k => spec_l3Free.l0 k ds (i : Int) b0 b1 b2 b3 b4) (fun _ => True) := by
    intro d
    induction d with
    | zero =>
      intro i hd hi
      exact Evs.step (f := fun _ => some true) (fun k => by simp only [spec_l3Free.l0]; rw [if_neg (by omega)]) (Evs.now trivial)
    | succ d ih =>
      intro i hd hi
      have n := ih (i + 1) (by omega) (by omega)
      rw [show (((i + 1 : Nat)) : Int) = wrap64 ((i : Int) + 1) by rw [pp_wrap_id _ (by omega) (by omega)]; rfl] at n
      refine Evs.step (fun k => by simp only [spec_l3Free.l0]; rfl) ?_
      refine Evs.pos (by omega) (Evs.pos (by omega) ?_)
      refine Evs.bnd (pp_meets _ _ _ _ _ _ _ _ _ _) (fun b _ => ?_)
      exact Evs.ite (fun _ => Evs.now trivial) (fun _ => n)
  exact loop _ 0 rfl (by omega)
theorem pp_fit (ds : List S29) (hl : ds.length ≤ 1000000) : ∀ (n : Nat) (t : S29), Evs (fun k => spec_l3Of.fit k ds n t) (fun _ => True)
  | 0, t => Evs.cong (f := fun _ => some t) (fun _ => rfl) (Evs.now trivial)
  | n + 1, t => by
    unfold spec_l3Of.fit
    refine Evs.bnd (pp_free ds hl _ _ _ _ _) (fun b _ => ?_)
    exact Evs.ite (fun _ => Evs.now trivial) (fun _ => pp_fit ds hl n _)
theorem pp_max (a b : Int) : Evs (fun _ => spec_l1Max.f a b) (fun _ => True) := by
  unfold spec_l1Max.f
  exact Evs.ite (fun _ => Evs.now trivial) (fun _ => Evs.now trivial)
theorem pp_end (cs : List S61) (hd ft : Int) (rs : List S64) (gp i : Int) : Evs (fun _ => spec_l2End.f cs hd ft rs gp i) (fun _ => True) := by
  have : Evs (fun _ => spec_l2Part.f cs hd ft rs gp i) (fun _ => True) := by
    unfold spec_l2Part.f
    exact Evs.ite (fun _ => Evs.now trivial) (fun _ => Evs.ite (fun _ => Evs.now trivial) (fun _ => Evs.now trivial))
  unfold spec_l2End.f
  exact Evs.bnd this (fun _ _ => Evs.ite (fun _ => Evs.now trivial) (fun _ => Evs.ite (fun _ => Evs.now trivial) (fun _ => Evs.now trivial)))
theorem pp_of_c (cs : List S61) (hd ft : Int) (rs : List S64) (gp : Int) (r : List S68) (i : Nat) : ∀ (m j : Nat) (wd : Int) (ds : List S29), ds.length + m ≤ 1000 → Evs (fun k => spec_l3Of.cs k cs hd ft rs gp r i m j wd ds) (fun q => q.2.length = ds.length + m)
  | 0, j, wd, ds, h => Evs.cong (f := fun _ => some (wd, ds)) (fun _ => rfl) (Evs.now rfl)
  | m + 1, j, wd, ds, h => by
    unfold spec_l3Of.cs
    refine Evs.bnd (pp_end _ _ _ _ _ _) (fun e _ => ?_)
    refine Evs.bnd (pp_fit ds (by omega) _ _) (fun t _ => ?_)
    refine Evs.bnd (pp_max _ _) (fun w _ => ?_)
    refine Evs.pos (by omega) ((pp_of_c cs hd ft rs gp r i m (j + 1) w (ds ++ [t]) (by simp; omega)).imp fun q e => ?_)
    simp at e
    omega
theorem pp_of_r (cs : List S61) (hd ft : Int) (rs : List S64) (gp : Int) (hr : ∀ x ∈ rs, x.f0.length ≤ 5) : ∀ (n i : Nat) (wd : Int) (ds : List S29), i + n = rs.length → ds.length + 5 * n ≤ 1000 → Evs (fun k => spec_l3Of.rs k cs hd ft rs gp n i wd ds) (fun q => q.2.length ≤ ds.length + 5 * n)
  | 0, i, wd, ds, _, h => Evs.cong (f := fun _ => some (wd, ds)) (fun _ => rfl) (Evs.now (Nat.le_refl _))
  | n + 1, i, wd, ds, hi, h => by
    unfold spec_l3Of.rs
    have hir : rd_T64 rs (i : Int) = rs[i] := pp_getD rs i _ (by omega)
    have h5 := hr rs[i] (List.getElem_mem _)
    rw [hir]
    refine Evs.bnd (pp_of_c cs hd ft rs gp _ i _ 0 wd ds (by omega)) ?_
    rintro ⟨w, d2⟩ e
    simp only at e ⊢
    exact (pp_of_r cs hd ft rs gp hr n (i + 1) w d2 (by omega) (by omega)).imp fun q e2 => by omega
theorem pp_grdOf (cs : List S61) (hd ft : Int) (rs : List S64) (gp : Int) : Evs (fun k => spec_GrdOf.f k cs hd ft rs gp) (fun r => r.2.2.length ≤ 40) := by
  unfold spec_GrdOf.f
  refine Evs.bnd (pp_tblOk cs hd ft rs gp) (fun b hb => Evs.ite (fun ht => ?_) (fun _ => Evs.now (by simp)))
  obtain ⟨h8, h5⟩ := hb ht
  have : Evs (fun k => spec_l3Of.f k cs hd ft rs gp) (fun r => r.2.2.length ≤ 40) := by
    unfold spec_l3Of.f
    refine Evs.bnd (pp_max _ _) (fun w _ => ?_)
    refine Evs.bnd (pp_of_r cs hd ft rs gp h5 rs.length 0 w [] (by omega) (by simp; omega)) ?_
    rintro ⟨w2, d2⟩ e
    exact Evs.now (by show d2.length ≤ 40; simp at e; omega)
  refine Evs.bnd this ?_
  rintro ⟨a, b, c⟩ e
  exact Evs.now e
theorem pp_grid (l : List Int) (h : ppRd l) (p n : Int) (hp : 0 ≤ p) (hp' : p ≤ 100000000) (hn : n ≤ 1000000) : Evs (fun k => spec_l20Grid.f k l p n) (fun r => r.2.2.1.length ≤ 41 ∧ p ≤ r.2.2.2 ∧ r.2.2.2 ≤ p + 3000) := by
  unfold spec_l20Grid.f
  refine Evs.bnd (pp_table l h p hp (by omega)) ?_
  rintro ⟨t, q⟩ ⟨t0, t1⟩
  simp only at t0 t1 ⊢
  refine Evs.bnd (pp_grdOf _ _ _ _ _) ?_
  rintro ⟨rows, cols, cs⟩ hc
  simp only at hc ⊢
  refine Evs.bnd (pp_pick l h q n (by omega) (by omega) hn) ?_
  rintro ⟨c, q2⟩ ⟨hq2, _, _, _⟩
  simp only at hq2 ⊢
  refine Evs.ite (fun _ => Evs.now ⟨by simp only; omega, by simp only; omega, by simp only; omega⟩) (fun hne => ?_)
  refine Evs.bnd (pp_pick l h q2 (cs.length : Int) (by omega) (by omega) (by omega)) ?_
  rintro ⟨a, q3⟩ ⟨hq3, a0, _, a1⟩
  simp only at hq3 a0 a1 ⊢
  have a1 := a1 (by omega)
  refine Evs.pos ⟨a0, a1⟩ ?_
  refine Evs.bnd (pp_pick l h q3 6 (by omega) (by omega) (by omega)) ?_
  rintro ⟨sw, q4⟩ ⟨hq4, _, _, _⟩
  simp only at hq4 ⊢
  unfold spec_l20Grid.turn
  refine Evs.ite (fun _ => ?_) (fun _ => Evs.ite (fun _ => ?_) (fun _ => Evs.ite (fun _ => ?_) (fun _ => Evs.ite (fun _ => ?_) (fun _ => Evs.ite (fun _ => ?_) (fun _ => Evs.pos (by omega) (Evs.now ⟨by simp; omega, by simp only; omega, by simp only; omega⟩))))))
  · refine Evs.bnd (pp_pick l h q4 3 (by omega) (by omega) (by omega)) ?_
    rintro ⟨e, q5⟩ ⟨hq5, e0, _, e1⟩
    simp only at hq5 e0 e1 ⊢
    exact Evs.pos ⟨e0, e1 (by omega)⟩ (Evs.now ⟨by simp only; omega, by simp only; omega, by simp only; omega⟩)
  · refine Evs.bnd (pp_pick l h q4 3 (by omega) (by omega) (by omega)) ?_
    rintro ⟨e, q5⟩ ⟨hq5, e0, _, e1⟩
    simp only at hq5 e0 e1 ⊢
    exact Evs.pos ⟨e0, e1 (by omega)⟩ (Evs.now ⟨by simp only; omega, by simp only; omega, by simp only; omega⟩)
  · refine Evs.bnd (pp_pick l h q4 2 (by omega) (by omega) (by omega)) ?_
    rintro ⟨e, q5⟩ ⟨hq5, e0, _, e1⟩
    simp only at hq5 e0 e1 ⊢
    exact Evs.pos ⟨e0, e1 (by omega)⟩ (Evs.now ⟨by simp [pgSet]; omega, by simp only; omega, by simp only; omega⟩)
  · refine Evs.bnd (pp_pick l h q4 3 (by omega) (by omega) (by omega)) ?_
    rintro ⟨e, q5⟩ ⟨hq5, e0, _, e1⟩
    simp only at hq5 e0 e1 ⊢
    exact Evs.pos ⟨e0, e1 (by omega)⟩ (Evs.now ⟨by simp [pgSet]; omega, by simp only; omega, by simp only; omega⟩)
  · refine Evs.bnd (pp_pick l h q4 2 (by omega) (by omega) (by omega)) ?_
    rintro ⟨e, q5⟩ ⟨hq5, e0, _, e1⟩
    simp only at hq5 e0 e1 ⊢
    refine Evs.pos ⟨e0, e1 (by omega)⟩ ?_
    refine Evs.bnd (pp_pick l h q5 2 (by omega) (by omega) (by omega)) ?_
    rintro ⟨d, q6⟩ ⟨hq6, d0, _, d1⟩
    simp only at hq6 d0 d1 ⊢
    exact Evs.pos ⟨d0, d1 (by omega)⟩ (Evs.now ⟨by simp [pgSet]; omega, by simp only; omega, by simp only; omega⟩)

theorem pp_rdc {l : List S29} {i : Nat} (h : i < l.length) : rd_T29 l (i : Int) = l[i] := pp_getD l i _ h
/-- The cell lies in a grid of so many rows and columns. -/
def ppLies (a b : Int) (x : S29) : Prop := 0 ≤ x.f0 ∧ x.f0 ≤ a - 1 ∧ 0 ≤ x.f1 ∧ x.f1 ≤ b - 1 ∧ 1 ≤ x.f2 ∧ x.f2 ≤ a - x.f0 ∧ 1 ≤ x.f3 ∧ x.f3 ≤ b - x.f1 ∧ 0 ≤ x.f4 ∧ x.f4 ≤ 4
/-- Two cells share a slot. -/
def ppMeet (x y : S29) : Prop := x.f0 < y.f0 + y.f2 ∧ y.f0 < x.f0 + x.f2 ∧ x.f1 < y.f1 + y.f3 ∧ y.f1 < x.f1 + x.f3
/-- The grid is ok. -/
def ppGood (a b : Int) (l : List S29) : Prop := (1 ≤ a ∧ a ≤ 8) ∧ (1 ≤ b ∧ b ≤ 94) ∧ l.length ≤ 40 ∧ (∀ x ∈ l, ppLies a b x) ∧ l.Pairwise (fun x y => ¬ ppMeet x y)
theorem ppMeet_comm (x y : S29) : ppMeet x y ↔ ppMeet y x := by unfold ppMeet; omega
theorem pp_meetS (a b : Int) (x y : S29) (ha : 1 ≤ a ∧ a ≤ 8) (hb : 1 ≤ b ∧ b ≤ 94) (hx : ppLies a b x) (hy : ppLies a b y) : ∃ r, spec_l3Meets.f x.f0 x.f1 x.f2 x.f3 x.f4 y.f0 y.f1 y.f2 y.f3 y.f4 = some r ∧ (r = true ↔ ppMeet x y) := by
  unfold ppLies at hx hy
  unfold spec_l3Meets.f ppMeet
  rw [pp_wrap_id (y.f0 + y.f2) (by omega) (by omega), pp_wrap_id (x.f0 + x.f2) (by omega) (by omega), pp_wrap_id (y.f1 + y.f3) (by omega) (by omega), pp_wrap_id (x.f1 + x.f3) (by omega) (by omega)]
  split
  · split
    · split
      · exact ⟨_, rfl, by simp; omega⟩
      · exact ⟨_, rfl, by simp; omega⟩
    · exact ⟨_, rfl, by simp; omega⟩
  · exact ⟨_, rfl, by simp; omega⟩
theorem pp_meetI (a b : Int) (x y : S29) (ha : 1 ≤ a ∧ a ≤ 8) (hb : 1 ≤ b ∧ b ≤ 94) (hx : ppLies a b x) (hy : ppLies a b y) : ppMeetB x y = true ↔ ppMeet x y := by
  unfold ppLies at hx hy
  unfold ppMeetB impl_GrdCell_meets.f ppMeet
  rw [pp_wrap_id (y.f0 + y.f2) (by omega) (by omega), pp_wrap_id (x.f0 + x.f2) (by omega) (by omega), pp_wrap_id (y.f1 + y.f3) (by omega) (by omega), pp_wrap_id (x.f1 + x.f3) (by omega) (by omega)]
  split
  · split
    · split
      · simp; omega
      · simp; omega
    · simp; omega
  · simp; omega
/-- Cells of l up to i: they lie in the grid, none meets one ahead of it. -/
def ppTo (a b : Int) (l : List S29) (i : Nat) : Prop := (∀ x ∈ l.take i, ppLies a b x) ∧ (l.take i).Pairwise (fun x y => ¬ ppMeet x y)
theorem ppTo_succ (a b : Int) (l : List S29) (i : Nat) (h : i < l.length) : ppTo a b l (i + 1) ↔ ppTo a b l i ∧ ppLies a b l[i] ∧ ∀ y ∈ l.take i, ¬ ppMeet y l[i] := by
  unfold ppTo
  rw [List.take_succ_eq_append_getElem h, List.pairwise_append]
  simp only [List.mem_append, List.mem_singleton, List.pairwise_singleton, true_and]
  constructor
  · rintro ⟨h1, h2, h3⟩
    exact ⟨⟨fun x hx => h1 x (.inl hx), h2⟩, h1 _ (.inr rfl), fun y hy => h3 y hy _ rfl⟩
  · rintro ⟨⟨h1, h2⟩, h3, h4⟩
    exact ⟨fun x hx => by rcases hx with hx | rfl; exact h1 x hx; exact h3, h2, fun y hy z hz => by subst hz; exact h4 y hy⟩
theorem ppTo_mono (a b : Int) (l : List S29) {i j : Nat} (h : i ≤ j) (hj : ppTo a b l j) : ppTo a b l i := by
  have e : l.take i = (l.take j).take i := by rw [List.take_take, Nat.min_eq_left h]
  unfold ppTo
  rw [e]
  exact ⟨fun x hx => hj.1 x (List.mem_of_mem_take hx), hj.2.sublist (List.take_sublist _ _)⟩
theorem ppTo_all (a b : Int) (l : List S29) : ppTo a b l l.length ↔ (∀ x ∈ l, ppLies a b x) ∧ l.Pairwise (fun x y => ¬ ppMeet x y) := by unfold ppTo; rw [List.take_length]
theorem pp_inE (x c d : Int) : spec_l1In.f x c d = some (decide (c ≤ x ∧ x ≤ d)) := by
  unfold spec_l1In.f
  split
  · congr 1; rw [Bool.eq_iff_iff]; simp; omega
  · congr 1; rw [Bool.eq_iff_iff]; simp; omega
theorem pp_inI (x c d : Int) : impl_in.f x c d = some (decide (c ≤ x ∧ x ≤ d)) := by
  unfold impl_in.f
  split
  · congr 1; rw [Bool.eq_iff_iff]; simp; omega
  · congr 1; rw [Bool.eq_iff_iff]; simp; omega
theorem pp_freeE (a b : Int) (x : S29) (ha : 1 ≤ a ∧ a ≤ 8) (hb : 1 ≤ b ∧ b ≤ 94) (hx : ppLies a b x) (l : List S29) (hl : l.length ≤ 1000) (h : ∀ y ∈ l, ppLies a b y) :
    Evs (fun k => spec_l3Free.f k l x.f0 x.f1 x.f2 x.f3 x.f4) (fun r => r = true ↔ ∀ y ∈ l, ¬ ppMeet y x) := by
  unfold spec_l3Free.f
  have loop : ∀ (d i : Nat), l.length - i = d → i ≤ l.length → (∀ j (hj : j < l.length), j < i → ¬ ppMeet l[j] x) → Evs (fun k => spec_l3Free.l0 k l (i : Int) x.f0 x.f1 x.f2 x.f3 x.f4) (fun r => r = true ↔ ∀ y ∈ l, ¬ ppMeet y x) := by
    intro d
    induction d with
    | zero =>
      intro i hd hi hI
      refine Evs.step (f := fun _ => some true) (fun k => by simp only [spec_l3Free.l0]; rw [if_neg (by omega)]) (Evs.now ⟨fun _ y hy => ?_, fun _ => rfl⟩)
      obtain ⟨j, hj, rfl⟩ := List.getElem_of_mem hy
      exact hI j hj (by omega)
    | succ d ih =>
      intro i hd hi hI
      have hil : i < l.length := by omega
      obtain ⟨r, hr, hm⟩ := pp_meetS a b l[i] x ha hb (h _ (List.getElem_mem _)) hx
      refine Evs.step (f := fun k => if r = true then some false else spec_l3Free.l0 k l (((i + 1 : Nat)) : Int) x.f0 x.f1 x.f2 x.f3 x.f4) (fun k => by
        simp only [spec_l3Free.l0]
        rw [if_pos (by omega), if_pos (by omega), pp_rdc hil, hr, pp_wrap_id _ (by omega) (by omega)]
        rfl) ?_
      refine Evs.ite (fun ht => Evs.now ⟨fun h => (by cases h), fun hall => absurd (hm.1 ht) (hall _ (List.getElem_mem _))⟩) (fun ht => ?_)
      refine ih (i + 1) (by omega) (by omega) (fun j hj hji => ?_)
      by_cases e : j = i
      · subst e; exact fun q => ht (hm.2 q)
      · exact hI j hj (by omega)
  exact loop _ 0 rfl (by omega) (fun j _ h => absurd h (Nat.not_lt_zero _))
theorem pp_cells (a b : Int) (x : S29) (ha : 1 ≤ a ∧ a ≤ 8) (hb : 1 ≤ b ∧ b ≤ 94) (hx : ppLies a b x) (l : List S29) (h : ∀ y ∈ l, ppLies a b y) (k : Nat) :
    ∃ r, impl_ccells.f k l x.f0 x.f1 x.f2 x.f3 x.f4 = some r ∧ (r = false ↔ ∀ y ∈ l, ¬ ppMeet y x) := by
  refine ⟨_, rfl, ?_⟩
  by_cases hall : ∀ y ∈ l, ¬ ppMeet y x
  · rw [ppIdx_miss _ _ (fun j hj => by
      have := hall l[j] (List.getElem_mem _)
      rw [ppMeet_comm] at this
      rw [← Bool.not_eq_true]
      exact fun q => this ((pp_meetI a b ⟨x.f0, x.f1, x.f2, x.f3, x.f4⟩ l[j] ha hb hx (h _ (List.getElem_mem _))).1 q))]
    simpa using hall
  · have : ∃ j, ∃ hj : j < l.length, ppMeetB ⟨x.f0, x.f1, x.f2, x.f3, x.f4⟩ l[j] = true := by
      simp only [Classical.not_forall, Classical.not_not] at hall
      obtain ⟨y, hy, hm⟩ := hall
      obtain ⟨j, hj, rfl⟩ := List.getElem_of_mem hy
      exact ⟨j, hj, (pp_meetI a b ⟨x.f0, x.f1, x.f2, x.f3, x.f4⟩ l[j] ha hb hx (h _ (List.getElem_mem _))).2 ((ppMeet_comm _ _).1 hm)⟩
    have hp : 0 ≤ ppIdx (fun y => ppMeetB ⟨x.f0, x.f1, x.f2, x.f3, x.f4⟩ y) l := by
      unfold ppIdx
      cases e : l.findIdx? (fun y => ppMeetB ⟨x.f0, x.f1, x.f2, x.f3, x.f4⟩ y) with
      | some i => exact Int.natCast_nonneg _
      | none =>
        rw [List.findIdx?_eq_none_iff] at e
        obtain ⟨j, hj, hm⟩ := this
        rw [e _ (List.getElem_mem hj)] at hm
        cases hm
    rw [decide_eq_true hp]
    exact ⟨fun h => (by cases h), fun q => absurd q hall⟩
theorem pp_specOk (a b : Int) (l : List S29) : Evs (fun k => spec_GrdOk.f k a b l) (fun r => r = true ↔ ppGood a b l) := by
  unfold spec_GrdOk.f
  have F : ∀ b', b' = true → ¬ ppGood a b l → Evs (fun k => spec_GrdOk.j0 k b' a b l) (fun r => r = true ↔ ppGood a b l) := by
    intro b' hb' hn
    subst hb'
    exact Evs.step (f := fun _ => some false) (fun k => by simp only [spec_GrdOk.j0]; rfl) (Evs.now ⟨fun h => (by cases h), fun h => absurd h hn⟩)
  rw [pp_inE, pp_inE]
  simp only [Option.bind_some]
  refine Evs.ite (fun ha => Evs.ite (fun hb => ?_) (fun hb => F _ rfl (fun g => hb (decide_eq_true g.2.1)))) (fun ha => F _ rfl (fun g => ha (decide_eq_true g.1)))
  have ha := of_decide_eq_true ha
  have hb := of_decide_eq_true hb
  by_cases hl : l.length ≤ 40
  · rw [decide_eq_false (by omega)]
    refine Evs.step (f := fun k => spec_GrdOk.l0 k ((0 : Nat) : Int) a b l) (fun k => by simp only [spec_GrdOk.j0]; rfl) ?_
    have out : ∀ i, i < l.length → ¬ ppTo a b l (i + 1) → Evs (fun _ => some false) (fun r => r = true ↔ ppGood a b l) := fun i hi hn => Evs.now ⟨fun h => (by cases h), fun g => absurd (ppTo_mono a b l (by omega) ((ppTo_all a b l).2 g.2.2.2)) hn⟩
    have loop : ∀ (d i : Nat), l.length - i = d → i ≤ l.length → ppTo a b l i → Evs (fun k => spec_GrdOk.l0 k (i : Int) a b l) (fun r => r = true ↔ ppGood a b l) := by
      intro d
      induction d with
      | zero =>
        intro i hd hi hI
        obtain rfl : i = l.length := by omega
        exact Evs.step (f := fun _ => some true) (fun k => by simp only [spec_GrdOk.l0]; rw [if_neg (by omega)]) (Evs.now ⟨fun _ => ⟨ha, hb, hl, (ppTo_all a b l).1 hI⟩, fun _ => rfl⟩)
      | succ d ih =>
        intro i hd hi hI
        have hil : i < l.length := by omega
        have O := out i hil
        rw [ppTo_succ a b l i hil] at O
        refine Evs.step (fun k => by simp only [spec_GrdOk.l0]; rw [if_pos (by omega), if_pos (by omega), pp_rdc hil, pp_inE, pp_inE, pp_inE, pp_inE, pp_inE]) ?_
        simp only [Option.bind_some]
        rw [pp_wrap_id (a - 1) (by omega) (by omega), pp_wrap_id (b - 1) (by omega) (by omega)]
        refine Evs.ite (fun h0 => ?_) (fun h0 => O (fun q => h0 (decide_eq_true ⟨q.2.1.1, q.2.1.2.1⟩)))
        have h0 := of_decide_eq_true h0
        refine Evs.ite (fun h1 => ?_) (fun h1 => O (fun q => h1 (decide_eq_true ⟨q.2.1.2.2.1, q.2.1.2.2.2.1⟩)))
        have h1 := of_decide_eq_true h1
        rw [pp_wrap_id (a - l[i].f0) (by omega) (by omega), pp_wrap_id (b - l[i].f1) (by omega) (by omega)]
        refine Evs.ite (fun h2 => ?_) (fun h2 => O (fun q => h2 (decide_eq_true ⟨q.2.1.2.2.2.2.1, q.2.1.2.2.2.2.2.1⟩)))
        have h2 := of_decide_eq_true h2
        refine Evs.ite (fun h3 => ?_) (fun h3 => O (fun q => h3 (decide_eq_true ⟨q.2.1.2.2.2.2.2.2.1, q.2.1.2.2.2.2.2.2.2.1⟩)))
        have h3 := of_decide_eq_true h3
        refine Evs.ite (fun h4 => ?_) (fun h4 => O (fun q => h4 (decide_eq_true ⟨q.2.1.2.2.2.2.2.2.2.2.1, q.2.1.2.2.2.2.2.2.2.2.2⟩)))
        have h4 := of_decide_eq_true h4
        have hx : ppLies a b l[i] := ⟨h0.1, h0.2, h1.1, h1.2, h2.1, h2.2, h3.1, h3.2, h4.1, h4.2⟩
        refine Evs.pos (by omega) ?_
        rw [Int.toNat_natCast]
        refine Evs.bnd (pp_freeE a b l[i] ha hb hx (l.take i) (by simp; omega) hI.1) (fun r hr => ?_)
        refine Evs.ite (fun ht => ?_) (fun ht => O (fun q => ht (hr.2 q.2.2)))
        rw [pp_wrap_id _ (by omega) (by omega)]
        exact ih (i + 1) (by omega) (by omega) ((ppTo_succ a b l i hil).2 ⟨hI, hx, hr.1 ht⟩)
    exact loop _ 0 rfl (by omega) ⟨by simp, by simp⟩
  · exact F _ (decide_eq_true (by omega)) (fun g => hl g.2.2.1)
theorem pp_implOk (a b : Int) (l : List S29) : Evs (fun k => impl_GrdOk.f k a b l) (fun r => r = true ↔ ppGood a b l) := by
  unfold impl_GrdOk.f
  have F : ∀ b', b' = true → ¬ ppGood a b l → Evs (fun k => impl_GrdOk.j0 k b' a b l) (fun r => r = true ↔ ppGood a b l) := by
    intro b' hb' hn
    subst hb'
    exact Evs.step (f := fun _ => some false) (fun k => by simp only [impl_GrdOk.j0]; rfl) (Evs.now ⟨fun h => (by cases h), fun h => absurd h hn⟩)
  rw [pp_inI, pp_inI]
  simp only [Option.bind_some]
  refine Evs.ite (fun ha => Evs.ite (fun hb => ?_) (fun hb => F _ rfl (fun g => hb (decide_eq_true g.2.1)))) (fun ha => F _ rfl (fun g => ha (decide_eq_true g.1)))
  have ha := of_decide_eq_true ha
  have hb := of_decide_eq_true hb
  by_cases hl : l.length ≤ 40
  · rw [decide_eq_false (by omega)]
    refine Evs.step (f := fun k => impl_GrdOk.l0 k l (l.length : Int) ((0 : Nat) : Int) a b l) (fun k => by simp only [impl_GrdOk.j0]; rfl) ?_
    have loop : ∀ (d i : Nat), l.length - i = d → i ≤ l.length → ppTo a b l i → Evs (fun k => impl_GrdOk.l0 k l (l.length : Int) (i : Int) a b l) (fun r => r = true ↔ ppGood a b l) := by
      intro d
      induction d with
      | zero =>
        intro i hd hi hI
        obtain rfl : i = l.length := by omega
        exact Evs.step (f := fun _ => some true) (fun k => by simp only [impl_GrdOk.l0]; rw [if_neg (by omega)]) (Evs.now ⟨fun _ => ⟨ha, hb, hl, (ppTo_all a b l).1 hI⟩, fun _ => rfl⟩)
      | succ d ih =>
        intro i hd hi hI
        have hil : i < l.length := by omega
        have hg : ¬ ppTo a b l (i + 1) → ¬ ppGood a b l := fun hn g => absurd (ppTo_mono a b l (by omega) ((ppTo_all a b l).2 g.2.2.2)) hn
        rw [ppTo_succ a b l i hil] at hg
        have O : ∀ b', b' = true → ¬ ppGood a b l → Evs (fun k => impl_GrdOk.j2 k (i : Int) l (l.length : Int) (i : Int) b' a b l l[i].f0 l[i].f1 l[i].f2 l[i].f3 l[i].f4) (fun r => r = true ↔ ppGood a b l) := by
          intro b' hb' hn
          subst hb'
          exact Evs.step (f := fun _ => some false) (fun k => by simp only [impl_GrdOk.j2]; rfl) (Evs.now ⟨fun h => (by cases h), fun h => absurd h hn⟩)
        refine Evs.step (fun k => by simp only [impl_GrdOk.l0]; rw [if_pos (by omega), if_pos (by omega), if_pos (by omega), pp_rdc hil, pp_inI, pp_inI, pp_inI, pp_inI]) ?_
        simp only [Option.bind_some]
        rw [pp_wrap_id (a - 1) (by omega) (by omega), pp_wrap_id (b - 1) (by omega) (by omega)]
        refine Evs.ite (fun h0 => ?_) (fun h0 => O _ rfl (hg (fun q => h0 (decide_eq_true ⟨q.2.1.1, q.2.1.2.1⟩))))
        have h0 := of_decide_eq_true h0
        rw [pp_wrap_id (a - l[i].f0) (by omega) (by omega)]
        refine Evs.ite (fun h2 => ?_) (fun h2 => O _ rfl (hg (fun q => h2 (decide_eq_true ⟨q.2.1.2.2.2.2.1, q.2.1.2.2.2.2.2.1⟩))))
        have h2 := of_decide_eq_true h2
        refine Evs.ite (fun h1 => ?_) (fun h1 => O _ rfl (hg (fun q => h1 (decide_eq_true ⟨q.2.1.2.2.1, q.2.1.2.2.2.1⟩))))
        have h1 := of_decide_eq_true h1
        rw [pp_wrap_id (b - l[i].f1) (by omega) (by omega)]
        by_cases h3 : 1 ≤ l[i].f3 ∧ l[i].f3 ≤ b - l[i].f1
        · rw [decide_eq_true h3]
          refine Evs.step (fun k => by simp only [impl_GrdOk.j2]; rw [pp_inI]) ?_
          simp only [Option.bind_some]
          refine Evs.neg (by decide) ?_
          refine Evs.ite (fun h4 => ?_) (fun h4 => Evs.now ⟨fun h => (by cases h), fun g => absurd g (hg (fun q => h4 (decide_eq_true ⟨q.2.1.2.2.2.2.2.2.2.2.1, q.2.1.2.2.2.2.2.2.2.2.2⟩)))⟩)
          have h4 := of_decide_eq_true h4
          have hx : ppLies a b l[i] := ⟨h0.1, h0.2, h1.1, h1.2, h2.1, h2.2, h3.1, h3.2, h4.1, h4.2⟩
          refine Evs.pos (by omega) (Evs.pos (by omega) ?_)
          rw [Int.toNat_natCast]
          obtain ⟨r, hr, hm⟩ := pp_cells a b l[i] ha hb hx (l.take i) hI.1 0
          have hr' : ∀ k, impl_ccells.f k (l.take i) l[i].f0 l[i].f1 l[i].f2 l[i].f3 l[i].f4 = some r := fun _ => hr
          refine Evs.cong (fun k => by rw [hr']) ?_
          simp only [Option.bind_some]
          cases r with
          | true => exact Evs.pos rfl (Evs.now ⟨fun h => (by cases h), fun g => absurd g (hg (fun q => by have := hm.2 q.2.2; cases this))⟩)
          | false =>
            refine Evs.neg (by decide) ?_
            rw [pp_wrap_id _ (by omega) (by omega)]
            exact ih (i + 1) (by omega) (by omega) ((ppTo_succ a b l i hil).2 ⟨hI, hx, hm.1 rfl⟩)
        · rw [decide_eq_false h3]
          exact O _ rfl (hg (fun q => h3 ⟨q.2.1.2.2.2.2.2.2.1, q.2.1.2.2.2.2.2.2.2.1⟩))
    exact loop _ 0 rfl (by omega) ⟨by simp, by simp⟩
  · exact F _ (decide_eq_true (by omega)) (fun g => hl g.2.2.1)

/-- The least part that has both. -/
def ppHull (x y : S29) : S29 := ⟨min x.f0 y.f0, min x.f1 y.f1, max (x.f0 + x.f2) (y.f0 + y.f2) - min x.f0 y.f0, max (x.f1 + x.f3) (y.f1 + y.f3) - min x.f1 y.f1, 0⟩
/-- y lies in x. -/
def ppIn (x y : S29) : Prop := x.f0 ≤ y.f0 ∧ y.f0 + y.f2 ≤ x.f0 + x.f2 ∧ x.f1 ≤ y.f1 ∧ y.f1 + y.f3 ≤ x.f1 + x.f3
instance (x y : S29) : Decidable (ppIn x y) := by unfold ppIn; infer_instance
instance (x y : S29) : Decidable (ppMeet x y) := by unfold ppMeet; infer_instance
def ppStp (x c : S29) : S29 := if ppMeet x c then ppHull x c else x
def ppPass (l : List S29) (x : S29) : S29 := l.foldl ppStp x
/-- How many of l lie in x. -/
def ppN (l : List S29) (x : S29) : Nat := (l.filter fun c => decide (ppIn x c)).length
theorem ppIn_hullL (x y : S29) : ppIn (ppHull x y) x := by unfold ppIn ppHull; simp only; omega
theorem ppIn_hullR (x y : S29) : ppIn (ppHull x y) y := by unfold ppIn ppHull; simp only; omega
theorem ppIn_refl (x : S29) : ppIn x x := by unfold ppIn; omega
theorem ppIn_trans {x y z : S29} (h : ppIn x y) (h' : ppIn y z) : ppIn x z := by unfold ppIn at *; omega
theorem ppIn_stp (x c : S29) : ppIn (ppStp x c) x := by
  unfold ppStp
  split
  · exact ppIn_hullL x c
  · exact ppIn_refl x
theorem ppHull_same {x c : S29} (h4 : x.f4 = 0) (h : ppIn x c) : ppHull x c = x := by
  unfold ppIn at h
  obtain ⟨a, b, d, e, f⟩ := x
  simp only at h h4
  unfold ppHull
  simp only [h4]
  congr 1 <;> omega
theorem ppHull_comm (x c : S29) : ppHull x c = ppHull c x := by unfold ppHull; simp only [Int.min_comm, Int.max_comm]
theorem ppStp_zero {x c : S29} (h4 : x.f4 = 0) : (ppStp x c).f4 = 0 := by
  unfold ppStp
  split
  · rfl
  · exact h4
theorem ppPass_zero (l : List S29) : ∀ {x : S29}, x.f4 = 0 → (ppPass l x).f4 = 0 := by
  induction l with
  | nil => exact fun h => h
  | cons c l ih => exact fun h => ih (ppStp_zero h)
theorem ppIn_pass (l : List S29) : ∀ x : S29, ppIn (ppPass l x) x := by
  induction l with
  | nil => exact ppIn_refl
  | cons c l ih => exact fun x => ppIn_trans (ih (ppStp x c)) (ppIn_stp x c)
theorem ppN_mono (l : List S29) {x y : S29} (h : ppIn x y) : ppN l y ≤ ppN l x := by
  unfold ppN
  induction l with
  | nil => exact Nat.le_refl _
  | cons c l ih =>
    rw [List.filter_cons, List.filter_cons]
    by_cases hy : ppIn y c
    · rw [if_pos (decide_eq_true hy), if_pos (decide_eq_true (ppIn_trans h hy))]
      exact Nat.succ_le_succ ih
    · rw [if_neg (by simpa using hy)]
      split
      · exact Nat.le_succ_of_le ih
      · exact ih
theorem ppN_lt (l : List S29) {x y c : S29} (h : ppIn x y) (hc : c ∈ l) (h1 : ppIn x c) (h2 : ¬ ppIn y c) : ppN l y < ppN l x := by
  obtain ⟨a, b, rfl⟩ := List.append_of_mem hc
  have ha := ppN_mono a h
  have hb := ppN_mono b h
  unfold ppN at *
  rw [List.filter_append, List.filter_append, List.filter_cons, List.filter_cons, if_pos (decide_eq_true h1), if_neg (by simpa using h2)]
  simp only [List.length_append, List.length_cons]
  omega
theorem ppN_le (l : List S29) (x : S29) : ppN l x ≤ l.length := List.length_filter_le _ _
/-- A step that turns x takes in a cell that was not in it. -/
theorem ppStp_ne {x c : S29} (h4 : x.f4 = 0) (h : ppStp x c ≠ x) : ppMeet x c ∧ ¬ ppIn x c ∧ ppIn (ppStp x c) c := by
  unfold ppStp at *
  split at h
  · rename_i hm
    exact ⟨hm, fun q => h (ppHull_same h4 q), by rw [if_pos hm]; exact ppIn_hullR x c⟩
  · exact absurd rfl h
/-- A pass over part of the cells that turns x somewhere takes in one. -/
theorem ppPass_ne (L : List S29) (l : List S29) (hl : ∀ c ∈ l, c ∈ L) : ∀ {x : S29}, x.f4 = 0 → ppPass l x ≠ x → ppN L x < ppN L (ppPass l x) := by
  induction l with
  | nil => exact fun _ h => absurd rfl h
  | cons c l ih =>
    intro x h4 h
    have hin : ppIn (ppPass l (ppStp x c)) (ppStp x c) := ppIn_pass l _
    by_cases e : ppStp x c = x
    · have h' : ppPass l x ≠ x := by
        intro q
        apply h
        show ppPass l (ppStp x c) = x
        rw [e]; exact q
      have := ih (fun c hc => hl c (List.mem_cons_of_mem _ hc)) h4 h'
      show _ < ppN L (ppPass l (ppStp x c))
      rw [e]; exact this
    · obtain ⟨_, h1, h2⟩ := ppStp_ne h4 e
      exact Nat.lt_of_lt_of_le (ppN_lt L (ppIn_stp x c) (hl c List.mem_cons_self) h2 h1) (ppN_mono L hin)
/-- So many passes. -/
def ppIter (l : List S29) : Nat → S29 → S29
  | 0, x => x
  | n + 1, x => ppIter l n (ppPass l x)
theorem ppIter_succ (l : List S29) : ∀ (n : Nat) (x : S29), ppIter l (n + 1) x = ppPass l (ppIter l n x)
  | 0, _ => rfl
  | n + 1, x => ppIter_succ l n (ppPass l x)
theorem ppIter_fix (l : List S29) {x : S29} (h : ppPass l x = x) : ∀ n, ppIter l n x = x
  | 0 => rfl
  | n + 1 => by
    show ppIter l n (ppPass l x) = x
    rw [h]
    exact ppIter_fix l h n
/-- With as many passes as cells nothing turns any more. -/
theorem ppIter_end (l : List S29) : ∀ (m : Nat) (x : S29), x.f4 = 0 → l.length ≤ ppN l x + m → ppPass l (ppIter l m x) = ppIter l m x := by
  intro m
  induction m with
  | zero =>
    intro x h4 h
    by_cases e : ppPass l x = x
    · exact e
    · have := ppPass_ne l l (fun _ h => h) h4 e
      have := ppN_le l (ppPass l x)
      omega
  | succ m ih =>
    intro x h4 h
    by_cases e : ppPass l x = x
    · rw [ppIter_fix l e, e]
    · have := ppPass_ne l l (fun _ h => h) h4 e
      exact ih (ppPass l x) (ppPass_zero l h4) (by omega)
/-- The end of all passes. -/
def ppFix (l : List S29) (x : S29) : S29 := ppIter l l.length x
theorem ppFix_end (l : List S29) (x : S29) (h4 : x.f4 = 0) : ppPass l (ppFix l x) = ppFix l x := ppIter_end l _ x h4 (by omega)
theorem ppFix_pass (l : List S29) (x : S29) (h4 : x.f4 = 0) : ppFix l (ppPass l x) = ppFix l x := by
  show ppIter l (l.length + 1) x = _
  rw [ppIter_succ]
  exact ppFix_end l x h4
theorem ppFix_fix (l : List S29) {x : S29} (h : ppPass l x = x) : ppFix l x = x := ppIter_fix l h _
theorem ppFix_zero (l : List S29) {x : S29} (h4 : x.f4 = 0) : (ppFix l x).f4 = 0 := by
  have : ∀ n, (ppIter l n x).f4 = 0 := by
    intro n
    induction n with
    | zero => exact h4
    | succ n ih => rw [ppIter_succ]; exact ppPass_zero l ih
  exact this _
theorem ppIn_fix (l : List S29) (x : S29) : ppIn (ppFix l x) x := by
  have : ∀ n, ppIn (ppIter l n x) x := by
    intro n
    induction n with
    | zero => exact ppIn_refl x
    | succ n ih => rw [ppIter_succ]; exact ppIn_trans (ppIn_pass l _) ih
  exact this _
/-- A part that no pass turns has of each cell all or nothing. -/
theorem ppPass_all (l : List S29) {x : S29} (h4 : x.f4 = 0) (h : ppPass l x = x) : ∀ c ∈ l, ppMeet x c → ppIn x c := by
  have key : ∀ (m : List S29), (∀ c ∈ m, c ∈ l) → ppPass m x = x → ∀ c ∈ m, ppMeet x c → ppIn x c := by
    intro m
    induction m with
    | nil => intro _ _ c hc; cases hc
    | cons d m ih =>
      intro hm hp c hc hmt
      by_cases e : ppStp x d = x
      · have hp' : ppPass m x = x := by
          have : ppPass m (ppStp x d) = x := hp
          rw [e] at this; exact this
        rcases List.mem_cons.1 hc with rfl | hc
        · unfold ppStp at e
          rw [if_pos hmt] at e
          rw [← e]; exact ppIn_hullR _ _
        · exact ih (fun c hc => hm c (List.mem_cons_of_mem _ hc)) hp' c hc hmt
      · exfalso
        obtain ⟨_, h1, h2⟩ := ppStp_ne h4 e
        have hin : ppIn (ppPass m (ppStp x d)) (ppStp x d) := ppIn_pass m _
        have hp' : ppPass m (ppStp x d) = x := hp
        rw [hp'] at hin
        exact h1 (ppIn_trans hin h2)
  exact key l (fun _ h => h) h

def ppTup (x : S29) : Int × Int × Int × Int × Int := (x.f0, x.f1, x.f2, x.f3, x.f4)
theorem ppLies_hull {a b : Int} {x y : S29} (hx : ppLies a b x) (hy : ppLies a b y) : ppLies a b (ppHull x y) := by
  unfold ppLies at *; unfold ppHull; simp only; omega
theorem ppLies_stp {a b : Int} {x y : S29} (hx : ppLies a b x) (hy : ppLies a b y) : ppLies a b (ppStp x y) := by
  unfold ppStp
  split
  · exact ppLies_hull hx hy
  · exact hx
theorem ppLies_pass {a b : Int} (l : List S29) (h : ∀ y ∈ l, ppLies a b y) : ∀ {x : S29}, ppLies a b x → ppLies a b (ppPass l x) := by
  induction l with
  | nil => exact fun h => h
  | cons c l ih => exact fun hx => ih (fun y hy => h y (List.mem_cons_of_mem _ hy)) (ppLies_stp hx (h c List.mem_cons_self))
theorem ppLies_fix {a b : Int} (l : List S29) (h : ∀ y ∈ l, ppLies a b y) {x : S29} (hx : ppLies a b x) : ppLies a b (ppFix l x) := by
  have : ∀ n, ppLies a b (ppIter l n x) := by
    intro n
    induction n with
    | zero => exact hx
    | succ n ih => rw [ppIter_succ]; exact ppLies_pass l h ih
  exact this _
theorem pp_maxS (x y : Int) : spec_l1Max.f x y = some (max x y) := by
  unfold spec_l1Max.f
  split
  · congr 1; omega
  · congr 1; omega
theorem pp_span {a b : Int} {x y : S29} (ha : a ≤ 8) (hb : b ≤ 94) (hx : ppLies a b x) (hy : ppLies a b y) :
    spec_l10Span.f x.f0 x.f1 x.f2 x.f3 x.f4 y.f0 y.f1 y.f2 y.f3 y.f4 = some (ppTup { ppHull x y with f4 := x.f4 }) := by
  unfold ppLies at hx hy
  unfold spec_l10Span.f ppTup ppHull
  rw [pp_wrap_id (x.f0 + x.f2) (by omega) (by omega), pp_wrap_id (y.f0 + y.f2) (by omega) (by omega), pp_wrap_id (x.f1 + x.f3) (by omega) (by omega), pp_wrap_id (y.f1 + y.f3) (by omega) (by omega), pp_maxS, pp_maxS]
  simp only [Option.bind_some]
  rw [pp_wrap_id _ (by omega) (by omega), pp_wrap_id _ (by omega) (by omega), pp_wrap_id _ (by omega) (by omega), pp_wrap_id _ (by omega) (by omega)]
  (repeat' split) <;> (simp only [Option.some.injEq, Prod.mk.injEq, and_true]; omega)
theorem pp_hull {a b : Int} {x y : S29} (ha : a ≤ 8) (hb : b ≤ 94) (hx : ppLies a b x) (hy : ppLies a b y) :
    impl_GrdCell_hull.f x.f0 x.f1 x.f2 x.f3 x.f4 y.f0 y.f1 y.f2 y.f3 y.f4 = some (ppTup (ppHull x y)) := by
  have hmn : ∀ p q : Int, mn p q = min p q := fun p q => by unfold mn; split <;> omega
  have hmx : ∀ p q : Int, mx p q = max p q := fun p q => by unfold mx; split <;> omega
  unfold ppLies at hx hy
  unfold impl_GrdCell_hull.f ppTup ppHull
  rw [pp_wrap_id (x.f0 + x.f2) (by omega) (by omega), pp_wrap_id (y.f0 + y.f2) (by omega) (by omega), pp_wrap_id (x.f1 + x.f3) (by omega) (by omega), pp_wrap_id (y.f1 + y.f3) (by omega) (by omega), hmn, hmn, hmx, hmx]
  rw [pp_wrap_id _ (by omega) (by omega), pp_wrap_id _ (by omega) (by omega)]
/-- The cells' numbers are there. -/
def ppBoth (l : List S29) (x y : Int) : Prop := (0 ≤ x ∧ x < l.length) ∧ 0 ≤ y ∧ y < l.length
/-- What QryRange answers. -/
def ppRange (l : List S29) (x y : Int) : S29 := ppFix l (ppHull (rd_T29 l x) (rd_T29 l y))
theorem pp_rdIn {a b : Int} {l : List S29} (h : ∀ y ∈ l, ppLies a b y) {x : Int} (h0 : 0 ≤ x) (h1 : x < l.length) : ppLies a b (rd_T29 l x) := by
  obtain ⟨n, rfl⟩ : ∃ n : Nat, x = n := ⟨x.toNat, by omega⟩
  rw [pp_rdc (by omega)]
  exact h _ (List.getElem_mem _)
theorem pp_specPass {a b : Int} {l : List S29} (hg : ppGood a b l) (n : Int) (P : Int × Int × Int × Int × Int → Prop) : ∀ (d i : Nat) (x : S29), l.length - i = d → i ≤ l.length → ppLies a b x → x.f4 = 0 →
    Evs (fun k => spec_QryRange.l0 k (wrap64 (n + 1)) a b l (ppPass (l.drop i) x).f0 (ppPass (l.drop i) x).f1 (ppPass (l.drop i) x).f2 (ppPass (l.drop i) x).f3 (ppPass (l.drop i) x).f4) P →
    Evs (fun k => spec_QryRange.l1 k n (i : Int) a b l x.f0 x.f1 x.f2 x.f3 x.f4) P := by
  obtain ⟨ha, hb, hl, hf, _⟩ := hg
  intro d
  induction d with
  | zero =>
    intro i x hd hi hx h4 hn
    rw [List.drop_of_length_le (by omega)] at hn
    refine Evs.step (fun k => by simp only [spec_QryRange.l1]; rw [if_neg (by omega)]) ?_
    exact hn
  | succ d ih =>
    intro i x hd hi hx h4 hn
    have hil : i < l.length := by omega
    have hy := hf l[i] (List.getElem_mem _)
    rw [List.drop_eq_getElem_cons hil] at hn
    obtain ⟨r, hr, hm⟩ := pp_meetS a b x l[i] ha hb hx hy
    refine Evs.step (fun k => by simp only [spec_QryRange.l1]; rw [if_pos (by omega), if_pos (by omega), pp_rdc hil, hr, pp_wrap_id ((i : Int) + 1) (by omega) (by omega)]) ?_
    simp only [Option.bind_some]
    have nx := ih (i + 1) (ppStp x l[i]) (by omega) (by omega) (ppLies_stp hx hy) (ppStp_zero h4) hn
    refine Evs.ite (fun ht => ?_) (fun ht => ?_)
    · rw [pp_span ha.2 hb.2 hx hy]
      simp only [Option.bind_some, ppTup]
      have e : ppStp x l[i] = { ppHull x l[i] with f4 := x.f4 } := by
        unfold ppStp
        rw [if_pos (hm.1 ht), h4]
        rfl
      rw [e] at nx
      exact nx
    · have e : ppStp x l[i] = x := by unfold ppStp; rw [if_neg (fun q => ht (hm.2 q))]
      rw [e] at nx
      exact nx
theorem pp_specRange (a b : Int) (l : List S29) (x y : Int) : Evs (fun k => spec_QryRange.f k a b l x y) (fun r => (ppGood a b l ∧ ppBoth l x y → r = ppTup (ppRange l x y)) ∧ (¬ (ppGood a b l ∧ ppBoth l x y) → r = (0, 0, 0, 0, 0))) := by
  have F : ∀ b', b' = true → ¬ (ppGood a b l ∧ ppBoth l x y) → Evs (fun k => spec_QryRange.j0 k x y b' a b l) (fun r => (ppGood a b l ∧ ppBoth l x y → r = ppTup (ppRange l x y)) ∧ (¬ (ppGood a b l ∧ ppBoth l x y) → r = (0, 0, 0, 0, 0))) := by
    intro b' hb' hn
    subst hb'
    exact Evs.step (f := fun _ => some (0, 0, 0, 0, 0)) (fun k => by simp only [spec_QryRange.j0]; rfl) (Evs.now ⟨fun h => absurd h hn, fun _ => rfl⟩)
  unfold spec_QryRange.f
  refine Evs.bnd (pp_specOk a b l) (fun t ht => ?_)
  refine Evs.ite (fun h => ?_) (fun h => F _ rfl (fun q => h (ht.2 q.1)))
  have hg := ht.1 h
  obtain ⟨ha, hb, hl, hf, _⟩ := id hg
  rw [pp_inE, pp_inE, pp_wrap_id _ (by omega) (by omega)]
  simp only [Option.bind_some]
  refine Evs.ite (fun hx => ?_) (fun hx => F _ rfl (fun q => hx (decide_eq_true ⟨q.2.1.1, by have := q.2.1.2; omega⟩)))
  have hx := of_decide_eq_true hx
  by_cases hy : 0 ≤ y ∧ y ≤ (l.length : Int) - 1
  · rw [decide_eq_true hy]
    have hxl := pp_rdIn hf (x := x) (by omega) (by omega)
    have hyl := pp_rdIn hf (x := y) (by omega) (by omega)
    refine Evs.step (fun k => by simp only [spec_QryRange.j0]; rw [if_neg (by decide), if_pos (by omega), if_pos (by omega), if_pos (by omega), if_pos (by omega), pp_span ha.2 hb.2 hxl hyl]) ?_
    simp only [Option.bind_some, ppTup]
    have loop : ∀ (d n : Nat) (z : S29), l.length - n = d → n ≤ l.length → ppLies a b z → z.f4 = 0 → Evs (fun k => spec_QryRange.l0 k (n : Int) a b l z.f0 z.f1 z.f2 z.f3 z.f4) (fun r => r = ppTup (ppIter l d z)) := by
      intro d
      induction d with
      | zero =>
        intro n z hd hn hz h4
        exact Evs.step (f := fun _ => some (ppTup z)) (fun k => by simp only [spec_QryRange.l0]; rw [if_neg (by omega)]; rfl) (Evs.now rfl)
      | succ d ih =>
        intro n z hd hn hz h4
        refine Evs.step (fun k => by simp only [spec_QryRange.l0]; rw [if_pos (by omega)]) ?_
        refine pp_specPass hg (n : Int) _ _ 0 z rfl (by omega) hz h4 ?_
        rw [pp_wrap_id _ (by omega) (by omega), List.drop_zero]
        exact ih (n + 1) (ppPass l z) (by omega) (by omega) (ppLies_pass l hf hz) (ppPass_zero l h4)
    refine (loop _ 0 (ppHull (rd_T29 l x) (rd_T29 l y)) rfl (by omega) (ppLies_hull hxl hyl) rfl).imp fun r hr => ⟨fun _ => hr, fun q => absurd ⟨hg, ⟨hx.1, by omega⟩, hy.1, by omega⟩ q⟩
  · rw [decide_eq_false hy]
    exact F _ rfl (fun q => hy ⟨q.2.2.1, by have := q.2.2.2; omega⟩)
/-- What a pass turned stays turned. -/
theorem ppPass_turn (m : List S29) {x c : S29} (h4 : x.f4 = 0) (e : ppStp x c ≠ x) : ppPass m (ppStp x c) ≠ x := by
  obtain ⟨_, h1, h2⟩ := ppStp_ne h4 e
  intro q
  have hin : ppIn (ppPass m (ppStp x c)) (ppStp x c) := ppIn_pass m _
  rw [q] at hin
  exact h1 (ppIn_trans hin h2)
theorem ppCell_ext {x y : S29} (h : x.f0 = y.f0 ∧ x.f1 = y.f1 ∧ x.f2 = y.f2 ∧ x.f3 = y.f3 ∧ x.f4 = y.f4) : x = y := by
  obtain ⟨a, b, c, d, e⟩ := x
  obtain ⟨a', b', c', d', e'⟩ := y
  simp only at h
  obtain ⟨rfl, rfl, rfl, rfl, rfl⟩ := h
  rfl
theorem ppCell_ne (x y : S29) : (!(x.f0 == y.f0) || (!(x.f1 == y.f1) || (!(x.f2 == y.f2) || (!(x.f3 == y.f3) || (!(x.f4 == y.f4)))))) = true ↔ x ≠ y := by
  constructor
  · intro h e
    subst e
    simp at h
  · intro h
    by_cases h0 : x.f0 = y.f0
    · by_cases h1 : x.f1 = y.f1
      · by_cases h2 : x.f2 = y.f2
        · by_cases h3 : x.f3 = y.f3
          · by_cases h4 : x.f4 = y.f4
            · exact absurd (ppCell_ext ⟨h0, h1, h2, h3, h4⟩) h
            · simp [h4]
          · simp [h3]
        · simp [h2]
      · simp [h1]
    · simp [h0]
theorem pp_implPass {a b : Int} {l : List S29} (hg : ppGood a b l) (P : Int × Int × Int × Int × Int → Prop) : ∀ (d i : Nat) (x : S29) (c : Bool), l.length - i = d → i ≤ l.length → ppLies a b x → x.f4 = 0 →
    (∀ c', (c' = true ↔ c = true ∨ ppPass (l.drop i) x ≠ x) → Evs (fun k => impl_QryRange.l0 k c' a b l (ppPass (l.drop i) x).f0 (ppPass (l.drop i) x).f1 (ppPass (l.drop i) x).f2 (ppPass (l.drop i) x).f3 (ppPass (l.drop i) x).f4) P) →
    Evs (fun k => impl_QryRange.l1 k c l (l.length : Int) (i : Int) a b l x.f0 x.f1 x.f2 x.f3 x.f4) P := by
  obtain ⟨ha, hb, hl, hf, _⟩ := hg
  intro d
  induction d with
  | zero =>
    intro i x c hd hi hx h4 hn
    rw [List.drop_of_length_le (by omega)] at hn
    refine Evs.step (fun k => by simp only [impl_QryRange.l1]; rw [if_neg (by omega)]) ?_
    exact hn c ⟨fun h => .inl h, fun h => h.elim id (fun q => absurd rfl q)⟩
  | succ d ih =>
    intro i x c hd hi hx h4 hn
    have hil : i < l.length := by omega
    have hy := hf l[i] (List.getElem_mem _)
    rw [List.drop_eq_getElem_cons hil] at hn
    have hm := pp_meetI a b x l[i] ha hb hx hy
    have hms := ppMeet_some x l[i]
    refine Evs.step (fun k => by simp only [impl_QryRange.l1]; rw [if_pos (by omega), if_pos (by omega), if_pos (by omega), pp_rdc hil, pp_hull ha.2 hb.2 hx hy, hms, pp_wrap_id ((i : Int) + 1) (by omega) (by omega)]) ?_
    simp only [Option.bind_some, ppTup]
    have hne := ppCell_ne (ppHull x l[i]) x
    have nx := fun (c : Bool) => ih (i + 1) (ppStp x l[i]) c (by omega) (by omega) (ppLies_stp hx hy) (ppStp_zero h4)
    refine Evs.ite (fun ht => ?_) (fun ht => ?_)
    · have e : ppStp x l[i] = ppHull x l[i] := by unfold ppStp; rw [if_pos (hm.1 ht)]
      refine Evs.ite (fun hq => ?_) (fun hq => ?_)
      · have hh := hne.1 hq
        have n2 := nx true (fun c' hc' => hn c' ⟨fun _ => .inr (ppPass_turn (l.drop (i + 1)) h4 (by rw [e]; exact hh)), fun _ => hc'.2 (.inl rfl)⟩)
        rw [e] at n2
        exact n2
      · have hh : ppHull x l[i] = x := Classical.byContradiction fun q => hq (hne.2 q)
        have e' : ppStp x l[i] = x := e.trans hh
        have n2 := nx c (fun c' hc' => hn c' (by rw [hc', e']; exact Iff.of_eq (by rw [show ppPass (l[i] :: List.drop (i + 1) l) x = ppPass (List.drop (i + 1) l) (ppStp x l[i]) from rfl, e'])))
        rw [e'] at n2
        exact n2
    · have e' : ppStp x l[i] = x := by unfold ppStp; rw [if_neg (fun q => ht (hm.2 q))]
      have n2 := nx c (fun c' hc' => hn c' (by rw [hc', e']; exact Iff.of_eq (by rw [show ppPass (l[i] :: List.drop (i + 1) l) x = ppPass (List.drop (i + 1) l) (ppStp x l[i]) from rfl, e'])))
      rw [e'] at n2
      exact n2
theorem pp_implRange (a b : Int) (l : List S29) (x y : Int) : Evs (fun k => impl_QryRange.f k a b l x y) (fun r => (ppGood a b l ∧ ppBoth l x y → r = ppTup (ppRange l x y)) ∧ (¬ (ppGood a b l ∧ ppBoth l x y) → r = (0, 0, 0, 0, 0))) := by
  have F : ∀ b', b' = true → ¬ (ppGood a b l ∧ ppBoth l x y) → Evs (fun k => impl_QryRange.j0 k x y b' a b l) (fun r => (ppGood a b l ∧ ppBoth l x y → r = ppTup (ppRange l x y)) ∧ (¬ (ppGood a b l ∧ ppBoth l x y) → r = (0, 0, 0, 0, 0))) := by
    intro b' hb' hn
    subst hb'
    exact Evs.step (f := fun _ => some (0, 0, 0, 0, 0)) (fun k => by simp only [impl_QryRange.j0]; rfl) (Evs.now ⟨fun h => absurd h hn, fun _ => rfl⟩)
  unfold impl_QryRange.f
  refine Evs.bnd (pp_implOk a b l) (fun t ht => ?_)
  refine Evs.ite (fun h => ?_) (fun h => F _ rfl (fun q => h (ht.2 q.1)))
  have hg := ht.1 h
  obtain ⟨ha, hb, hl, hf, _⟩ := id hg
  rw [pp_inI, pp_inI, pp_wrap_id _ (by omega) (by omega)]
  simp only [Option.bind_some]
  refine Evs.ite (fun hx => ?_) (fun hx => F _ rfl (fun q => hx (decide_eq_true ⟨q.2.1.1, by have := q.2.1.2; omega⟩)))
  have hx := of_decide_eq_true hx
  by_cases hy : 0 ≤ y ∧ y ≤ (l.length : Int) - 1
  · rw [decide_eq_true hy]
    have hxl := pp_rdIn hf (x := x) (by omega) (by omega)
    have hyl := pp_rdIn hf (x := y) (by omega) (by omega)
    refine Evs.step (fun k => by simp only [impl_QryRange.j0]; rw [if_neg (by decide), if_pos (by omega), if_pos (by omega), if_pos (by omega), if_pos (by omega), pp_hull ha.2 hb.2 hxl hyl]) ?_
    simp only [Option.bind_some, ppTup]
    have loop : ∀ (m : Nat) (z : S29), ppLies a b z → z.f4 = 0 → l.length ≤ ppN l z + m → Evs (fun k => impl_QryRange.l0 k true a b l z.f0 z.f1 z.f2 z.f3 z.f4) (fun r => r = ppTup (ppFix l z)) := by
      intro m
      induction m with
      | zero =>
        intro z hz h4 hN
        have e : ppPass l z = z := Classical.byContradiction fun e => by
          have := ppPass_ne l l (fun _ h => h) h4 e
          have := ppN_le l (ppPass l z)
          omega
        refine Evs.step (fun k => by simp only [impl_QryRange.l0]; rw [if_pos trivial]) ?_
        refine pp_implPass hg _ _ 0 z false rfl (by omega) hz h4 (fun c' hc' => ?_)
        rw [List.drop_zero] at hc' ⊢
        have : c' = false := by
          cases c' with
          | false => rfl
          | true => exact (hc'.1 rfl).elim (fun q => (by cases q)) (fun q => absurd e q)
        subst this
        exact Evs.step (f := fun _ => some (ppTup (ppPass l z))) (fun k => by simp only [impl_QryRange.l0]; rw [if_neg (by decide)]; rfl) (Evs.now (by rw [e, ppFix_fix l e]))
      | succ m ih =>
        intro z hz h4 hN
        refine Evs.step (fun k => by simp only [impl_QryRange.l0]; rw [if_pos trivial]) ?_
        refine pp_implPass hg _ _ 0 z false rfl (by omega) hz h4 (fun c' hc' => ?_)
        rw [List.drop_zero] at hc' ⊢
        cases c' with
        | false =>
          have e : ppPass l z = z := Classical.byContradiction fun e => by have := hc'.2 (.inr e); cases this
          exact Evs.step (f := fun _ => some (ppTup (ppPass l z))) (fun k => by simp only [impl_QryRange.l0]; rw [if_neg (by decide)]; rfl) (Evs.now (by rw [e, ppFix_fix l e]))
        | true =>
          have e : ppPass l z ≠ z := (hc'.1 rfl).elim (fun q => (by cases q)) id
          have := ppPass_ne l l (fun _ h => h) h4 e
          rw [← ppFix_pass l z h4]
          exact ih (ppPass l z) (ppLies_pass l hf hz) (ppPass_zero l h4) (by omega)
    refine (loop l.length (ppHull (rd_T29 l x) (rd_T29 l y)) (ppLies_hull hxl hyl) rfl (by omega)).imp fun r hr => ⟨fun _ => hr, fun q => absurd ⟨hg, ⟨hx.1, by omega⟩, hy.1, by omega⟩ q⟩
  · rw [decide_eq_false hy]
    exact F _ rfl (fun q => hy ⟨q.2.2.1, by have := q.2.2.2; omega⟩)

theorem pp_abc : Txt.ppTxtOk (⟨#[97, 98, 32, 99]⟩ : ByteArray) = true := by kernel_rfl
theorem pp_pwOk : laws_pwOk.f = some true := by
  unfold laws_pwOk.f impl_TxtOk.f
  rw [if_pos (by decide), pp_abc]
  rfl

theorem pp_drawRange (l : List Int) (h : ∀ x ∈ l, (Lit.int .u8 x).wf = true) : Evs (fun k => spec_DrawQryRange.f k l) (fun _ => True) := by
  obtain ⟨b, e, hb⟩ := pp_open l h
  unfold spec_DrawQryRange.f
  rw [e]
  simp only [Option.bind_some]
  refine Evs.bnd (pp_grid b hb 0 12 (by omega) (by omega) (by omega)) ?_
  rintro ⟨r1, r2, r3, q⟩ ⟨a, q0, q1⟩
  simp only at a q0 q1 ⊢
  rw [pp_wrap_id _ (by omega) (by omega), pp_wrap_id _ (by omega) (by omega)]
  refine Evs.bnd (pp_pick b hb q _ (by omega) (by omega) (by omega)) ?_
  rintro ⟨x, q2⟩ ⟨e2, _, _, _⟩
  simp only at e2 ⊢
  refine Evs.bnd (pp_pick b hb q2 _ (by omega) (by omega) (by omega)) ?_
  rintro ⟨y, q3⟩ _
  exact Evs.now trivial
theorem pp_meetWrap {a b : Int} {r c : S29} (ha : a ≤ 8) (hb : b ≤ 94) (hr : ppLies a b r) (hc : ppLies a b c) (hm : ppMeet r c → ppIn r c) :
    (ppMeet r c → laws_FnQryRange.All r.f0 r.f1 r.f2 r.f3 c) ∧ (¬ ppMeet r c → ¬ laws_FnQryRange.All r.f0 r.f1 r.f2 r.f3 c ∧ laws_FnQryRange.Non r.f0 r.f1 r.f2 r.f3 c) := by
  unfold ppMeet ppIn ppLies at *
  unfold laws_FnQryRange.All laws_FnQryRange.Non
  rw [pp_wrap_id (r.f0 + r.f2) (by omega) (by omega), pp_wrap_id (c.f0 + c.f2) (by omega) (by omega), pp_wrap_id (r.f1 + r.f3) (by omega) (by omega), pp_wrap_id (c.f1 + c.f3) (by omega) (by omega)]
  constructor
  · intro h
    have := hm h
    omega
  · intro h
    omega
theorem ppPass_id (l : List S29) {x : S29} (h : ∀ d ∈ l, ppStp x d = x) : ppPass l x = x := by
  induction l with
  | nil => rfl
  | cons c l ih =>
    show ppPass l (ppStp x c) = x
    rw [h c List.mem_cons_self]
    exact ih (fun d hd => h d (List.mem_cons_of_mem _ hd))
/-- The range of a cell and itself. -/
theorem ppRange_self {a b : Int} {l : List S29} (hg : ppGood a b l) {x : Nat} (hx : x < l.length) : ppRange l (x : Int) (x : Int) = { l[x] with f4 := 0 } := by
  obtain ⟨ha, hb, hl, hf, hp⟩ := hg
  have hlx := hf l[x] (List.getElem_mem _)
  have e : ∀ c : S29, ppHull c c = { c with f4 := 0 } := by
    intro c
    unfold ppHull
    apply ppCell_ext
    simp only [Int.min_self, Int.max_self, true_and, and_true]
    omega
  unfold ppRange
  rw [pp_rdc hx, e]
  apply ppFix_fix
  apply ppPass_id
  intro d hd
  obtain ⟨j, hj, rfl⟩ := List.mem_iff_getElem.1 hd
  have hpw := List.pairwise_iff_getElem.1 hp
  unfold ppStp
  by_cases hxj : j = x
  · subst hxj
    split
    · refine ppHull_same rfl ?_
      unfold ppIn
      simp only
      omega
    · rfl
  · rw [if_neg]
    intro hm
    have hm' : ppMeet l[x] l[j] := hm
    rcases Nat.lt_or_gt_of_ne hxj with h | h
    · exact hpw j x hj hx h ((ppMeet_comm _ _).1 hm')
    · exact hpw x j hx hj h hm'
theorem pp_law (a b : Int) (l : List S29) (hg : ppGood a b l) (x y : Nat) (hx : x < l.length) (hy : y < l.length) :
    Evs (fun k => laws_FnQryRange.l0 k (x : Int) (y : Int) 0 a b l (ppRange l (x : Int) (y : Int)).f0 (ppRange l (x : Int) (y : Int)).f1 (ppRange l (x : Int) (y : Int)).f2 (ppRange l (x : Int) (y : Int)).f3) (fun r => r = true) := by
  have hself := ppRange_self hg hx
  have himp := pp_implRange a b l (x : Int) (x : Int)
  obtain ⟨ha, hb, hl, hf, hp⟩ := id hg
  have hlx := hf l[x] (List.getElem_mem _)
  have hly := hf l[y] (List.getElem_mem _)
  have hh := ppLies_hull hlx hly
  have hR : ppRange l (x : Int) (y : Int) = ppFix l (ppHull l[x] l[y]) := by unfold ppRange; rw [pp_rdc hx, pp_rdc hy]
  have hin : ppIn (ppRange l (x : Int) (y : Int)) (ppHull l[x] l[y]) := by rw [hR]; exact ppIn_fix l _
  have hinx := ppIn_trans hin (ppIn_hullL l[x] l[y])
  have hiny := ppIn_trans hin (ppIn_hullR l[x] l[y])
  have hlie : ppLies a b (ppRange l (x : Int) (y : Int)) := by rw [hR]; exact ppLies_fix l hf hh
  have hall : ∀ c ∈ l, ppMeet (ppRange l (x : Int) (y : Int)) c → ppIn (ppRange l (x : Int) (y : Int)) c := by
    have h4 : (ppHull l[x] l[y]).f4 = 0 := rfl
    exact ppPass_all l (by rw [hR]; exact ppFix_zero l h4) (by rw [hR]; exact ppFix_end l _ h4)
  clear hR
  generalize ppRange l (x : Int) (y : Int) = R at *
  have loop : ∀ (d i : Nat), l.length - i = d → i ≤ l.length → Evs (fun k => laws_FnQryRange.l0 k (x : Int) (y : Int) (i : Int) a b l R.f0 R.f1 R.f2 R.f3) (fun r => r = true) := by
    intro d
    induction d with
    | zero =>
      intro i hd hi
      refine Evs.step (fun k => by simp only [laws_FnQryRange.l0]; rw [if_neg (by omega)]) ?_
      refine Evs.bnd himp (fun o ho => ?_)
      have ho := ho.1 ⟨hg, ⟨by omega, by omega⟩, by omega, by omega⟩
      rw [hself] at ho
      subst ho
      refine Evs.pos ?_ (Evs.now rfl)
      rw [pp_rdc hx]
      unfold ppLies at hlie
      refine ⟨⟨by omega, by omega⟩, ⟨rfl, rfl, rfl, rfl, rfl⟩, by omega, ?_, ?_⟩
      · rw [pp_wrap_id _ (by omega) (by omega)]; omega
      · rw [pp_wrap_id _ (by omega) (by omega)]; omega
    | succ d ih =>
      intro i hd hi
      have hil : i < l.length := by omega
      have n := ih (i + 1) (by omega) (by omega)
      have hc := hf l[i] (List.getElem_mem _)
      obtain ⟨m1, m2⟩ := pp_meetWrap ha.2 hb.2 hlie hc (hall _ (List.getElem_mem _))
      refine Evs.step (fun k => by simp only [laws_FnQryRange.l0]; rw [if_pos (by omega), if_pos (by omega), pp_rdc hil, pp_wrap_id ((i : Int) + 1) (by omega) (by omega)]) ?_
      by_cases hm : ppMeet R l[i]
      · exact Evs.pos (m1 hm) n
      · refine Evs.neg (m2 hm).1 (Evs.pos ⟨(m2 hm).2, ?_, ?_⟩ n)
        · intro e
          have : i = x := by omega
          subst this
          unfold ppMeet at hm
          unfold ppIn at hinx
          unfold ppLies at hlx
          omega
        · intro e
          have : i = y := by omega
          subst this
          unfold ppMeet at hm
          unfold ppIn at hiny
          unfold ppLies at hly
          omega
  exact loop _ 0 rfl (by omega)
theorem FnQryRange : ∀ (l0 : List (Int)), (l0.length ≤ 9223372036854775807 ∧ ∀ (x : Int), x ∈ l0 → (Lit.int .u8 x).wf = true) → ∃ k, laws_FnQryRange.f k l0 = some true := by
  intro l0 h0
  refine Evs.ends (r := true) ?_
  unfold laws_FnQryRange.f
  refine Evs.ite (fun _ => Evs.now rfl) (fun _ => ?_)
  refine Evs.bnd (pp_drawRange l0 h0.2) ?_
  rintro ⟨a, b, l, x, y⟩ _
  simp only
  refine Evs.bnd (pp_implRange a b l x y) (fun u hu => ?_)
  refine Evs.bnd (pp_specRange a b l x y) (fun v hv => ?_)
  refine Evs.bnd (pp_implRange a b l y x) (fun z hz => ?_)
  have huvz : u = v ∧ u = z := by
    by_cases g : ppGood a b l ∧ ppBoth l x y
    · have e : ppRange l y x = ppRange l x y := by unfold ppRange; rw [ppHull_comm]
      rw [hu.1 g, hv.1 g, hz.1 ⟨g.1, g.2.2, g.2.1⟩, e]
      exact ⟨rfl, rfl⟩
    · rw [hu.2 g, hv.2 g, hz.2 (fun q => g ⟨q.1, q.2.2, q.2.1⟩)]
      exact ⟨rfl, rfl⟩
  refine Evs.pos huvz ?_
  refine Evs.bnd (pp_specOk a b l) (fun t ht => Evs.ite (fun h => ?_) (fun h => ?_))
  · obtain ⟨h1, ⟨h2, h3⟩, h4, h5⟩ := h
    have g := ht.1 h1
    obtain rfl := hu.1 ⟨g, ⟨h2, h3⟩, h4, h5⟩
    obtain ⟨x, rfl⟩ : ∃ n : Nat, x = n := ⟨x.toNat, by omega⟩
    obtain ⟨y, rfl⟩ : ∃ n : Nat, y = n := ⟨y.toNat, by omega⟩
    exact pp_law a b l g x y (by omega) (by omega)
  · refine Evs.pos (hu.2 (fun g => h ⟨ht.2 g.1, g.2.1, g.2.2⟩)) ?_
    rw [pp_pwOk]
    exact Evs.now rfl

end Go.Proofs.YtalnklnfiopaoabDoor.Pure
