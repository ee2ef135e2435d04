/-
  of drawn grids impl and spec look the same; a dot stands just where no cell is, and there are as many dots as empty slots; at all draws.
  Conditions: none but those of the statement.
-/
import Derived.Test.YtalnklnfiopaoadDoorQlawsFnQrySlots
namespace Go.Proofs.YtalnklnfiopaoadDoor.Pure
open Go.RowKit Go.Proofs.YtalnklnfiopaoadDoor.Q Go.Proofs.YtalnklnfiopaoadDoorW.PrintWords Go.Proofs.YtalnklnfiopaoadDoorW.PrintLast Go.Proofs.YtalnklnfiopaoadDoorW.PrintMore
set_option linter.unusedVariables false
set_option linter.unusedSimpArgs false

theorem pp_wrap_l (a b : Int) : wrap64 (wrap64 a + b) = wrap64 (a + b) := by unfold wrap64; omega
theorem pp_wrap_r (a b : Int) : wrap64 (a + wrap64 b) = wrap64 (a + b) := by unfold wrap64; omega
theorem pp_wrap_id (a : Int) (h : -9223372036854775808 ≤ a) (h' : a ≤ 9223372036854775807) : wrap64 a = a := by unfold wrap64; omega
theorem pp_wrap_0 : wrap64 0 = 0 := by unfold wrap64; omega
theorem pp_wf (a : Int) (h : (Lit.int .i64 a).wf = true) : -9223372036854775808 ≤ a ∧ a ≤ 9223372036854775807 := by
  simp [Lit.wf, IntKind.min, IntKind.max, IntKind.signed, IntKind.bits] at h; omega
theorem pp_wfi (a : Int) (h : -9223372036854775808 ≤ a) (h' : a ≤ 9223372036854775807) : (Lit.int .i64 a).wf = true := by
  simp [Lit.wf, IntKind.min, IntKind.max, IntKind.signed, IntKind.bits]; omega

/-- With enough rounds g answers, and P holds of the answer. -/
def Evs {α : Type} (g : Nat → Option α) (P : α → Prop) : Prop := ∃ r K, P r ∧ ∀ k, K ≤ k → g k = some r
theorem Evs.now {α : Type} {P : α → Prop} {r : α} (h : P r) : Evs (fun _ => some r) P := ⟨r, 0, h, fun _ _ => rfl⟩
theorem Evs.bnd {α β : Type} {g : Nat → Option α} {f : Nat → α → Option β} {P : α → Prop} {Q : β → Prop} (h : Evs g P) (k : ∀ a, P a → Evs (fun n => f n a) Q) : Evs (fun n => (g n).bind (f n)) Q := by
  obtain ⟨a, K, hP, h⟩ := h
  obtain ⟨r, K', hQ, k⟩ := k a hP
  refine ⟨r, max K K', hQ, fun n hn => ?_⟩
  show (g n).bind (f n) = some r
  rw [h n (by omega)]
  exact k n (by omega)
theorem Evs.step {α : Type} {g f : Nat → Option α} {P : α → Prop} (h : ∀ k, g (k + 1) = f k) (k : Evs f P) : Evs g P := by
  obtain ⟨r, K, hP, k⟩ := k
  refine ⟨r, K + 1, hP, fun n hn => ?_⟩
  obtain ⟨m, rfl⟩ : ∃ m, n = m + 1 := ⟨n - 1, by omega⟩
  rw [h]
  exact k m (by omega)
theorem Evs.cong {α : Type} {g f : Nat → Option α} {P : α → Prop} (h : ∀ k, g k = f k) (k : Evs f P) : Evs g P := by
  obtain ⟨r, K, hP, k⟩ := k
  exact ⟨r, K, hP, fun n hn => (h n).trans (k n hn)⟩
theorem Evs.imp {α : Type} {g : Nat → Option α} {P Q : α → Prop} (h : Evs g P) (hq : ∀ r, P r → Q r) : Evs g Q := by
  obtain ⟨r, K, hP, k⟩ := h
  exact ⟨r, K, hq r hP, k⟩
theorem Evs.of {α : Type} {g : Nat → Option α} {r : α} (K : Nat) (h : ∀ k, K ≤ k → g k = some r) : Evs g (fun q => q = r) := ⟨r, K, rfl, h⟩
theorem Evs.ends {α : Type} {g : Nat → Option α} {r : α} (h : Evs g (fun q => q = r)) : ∃ k, g k = some r := by
  obtain ⟨q, K, rfl, k⟩ := h
  exact ⟨K, k K (Nat.le_refl _)⟩
theorem Evs.pos {α : Type} {g f : Nat → Option α} {c : Prop} [Decidable c] {P : α → Prop} (hc : c) (h : Evs g P) : Evs (fun k => if c then g k else f k) P := h.cong (fun k => if_pos hc)
theorem Evs.neg {α : Type} {g f : Nat → Option α} {c : Prop} [Decidable c] {P : α → Prop} (hc : ¬ c) (h : Evs f P) : Evs (fun k => if c then g k else f k) P := h.cong (fun k => if_neg hc)
theorem Evs.ite {α : Type} {g f : Nat → Option α} {c : Prop} [Decidable c] {P : α → Prop} (h : c → Evs g P) (h' : ¬ c → Evs f P) : Evs (fun k => if c then g k else f k) P := by
  by_cases hc : c
  · exact Evs.pos hc (h hc)
  · exact Evs.neg hc (h' hc)
/-- A loop that counts up. -/
theorem Evs.up {σ ρ : Type} (E : Nat → σ → Int → Option ρ) (n : Nat) (Inv : Nat → σ → Prop) (Post : ρ → Prop)
    (hs : ∀ s (i : Nat), i < n → Inv i s → (∀ s', Inv (i + 1) s' → Evs (fun k => E k s' ((i : Int) + 1)) Post) → Evs (fun k => E k s (i : Int)) Post)
    (he : ∀ s, Inv n s → Evs (fun k => E k s (n : Int)) Post) : ∀ s, Inv 0 s → Evs (fun k => E k s 0) Post := by
  have key : ∀ (d i : Nat) (s : σ), n - i = d → i ≤ n → Inv i s → Evs (fun k => E k s (i : Int)) Post := by
    intro d
    induction d with
    | zero =>
      intro i s hd hi hI
      obtain rfl : i = n := by omega
      exact he s hI
    | succ d ih =>
      intro i s hd hi hI
      exact hs s i (by omega) hI (fun s' hI' => by simpa using ih (i + 1) s' (by omega) (by omega) hI')
  intro s hI
  simpa using key n 0 s (by omega) (by omega) hI

/-- A loop that counts up: rounds keep Inv or leave with Post; at the end it leaves with Post. -/
theorem pp_lp {σ ρ : Type} (E : Nat → σ → Int → Option ρ) (n : Nat) (Inv : Nat → σ → Prop) (Post : ρ → Prop)
    (hs : ∀ k s (i : Nat), i < n → Inv i s → (∃ s', Inv (i + 1) s' ∧ E (k + 1) s (i : Int) = E k s' ((i : Int) + 1)) ∨ ∃ r, Post r ∧ E (k + 1) s (i : Int) = some r)
    (he : ∀ k s, Inv n s → ∃ r, Post r ∧ E (k + 1) s (n : Int) = some r) :
    ∀ (d i : Nat) (s : σ) (k : Nat), n - i = d → i ≤ n → Inv i s → d < k → ∃ r, Post r ∧ E k s (i : Int) = some r := by
  intro d
  induction d with
  | zero =>
    intro i s k hd hi hI hk
    obtain ⟨k, rfl⟩ : ∃ m, k = m + 1 := ⟨k - 1, by omega⟩
    obtain rfl : i = n := by omega
    exact he k s hI
  | succ d ih =>
    intro i s k hd hi hI hk
    obtain ⟨k, rfl⟩ : ∃ m, k = m + 1 := ⟨k - 1, by omega⟩
    rcases hs k s i (by omega) hI with ⟨s', hI', he'⟩ | h
    · obtain ⟨r, hr, e⟩ := ih (i + 1) s' k (by omega) (by omega) hI' (by omega)
      exact ⟨r, hr, by rw [he']; simpa using e⟩
    · exact h
/-- .. whose state is known at each place. -/
theorem pp_lpE {σ ρ : Type} (E : Nat → σ → Int → Option ρ) (n : Nat) (st : Nat → σ) (r : ρ)
    (hs : ∀ k (i : Nat), i < n → E (k + 1) (st i) (i : Int) = E k (st (i + 1)) ((i : Int) + 1)) (he : ∀ k, E (k + 1) (st n) (n : Int) = some r) (k : Nat) (hk : n < k) : E k (st 0) 0 = some r := by
  obtain ⟨q, hq, h⟩ := pp_lp E n (fun i s => s = st i) (fun q => q = r) (fun k s i hi h => .inl ⟨st (i + 1), rfl, by rw [h]; exact hs k i hi⟩) (fun k s h => ⟨r, rfl, by rw [h]; exact he k⟩) n 0 (st 0) k (by omega) (by omega) rfl hk
  rw [← hq]; simpa using h
/-- .. that fills a row. -/
theorem pp_fill {α β : Type} (L : Nat → List β → Int → Option (List β)) (g : α → β) (xs : List α) (z : β)
    (hs : ∀ k out (i : Nat) (h : i < xs.length), out.length = xs.length → L (k + 1) out (i : Int) = L k (out.set i (g xs[i])) ((i : Int) + 1)) (he : ∀ k out, L (k + 1) out (xs.length : Int) = some out)
    (k : Nat) (hk : xs.length < k) : L k (List.replicate xs.length z) 0 = some (xs.map g) := by
  obtain ⟨r, hr, h⟩ := pp_lp L xs.length (fun i out => out.length = xs.length ∧ out.take i = (xs.map g).take i) (fun r => r = xs.map g)
    (fun k out i hi ⟨h1, h2⟩ => .inl ⟨out.set i (g xs[i]), ⟨by simpa using h1, by
      rw [List.take_succ_eq_append_getElem (by simpa [h1] using hi), List.take_succ_eq_append_getElem (by simpa using hi), List.take_set_of_le (by omega), h2]
      simp⟩, hs k out i hi h1⟩)
    (fun k out ⟨h1, h2⟩ => ⟨out, by
      rw [List.take_of_length_le (by omega), List.take_of_length_le (by simp)] at h2
      exact h2, he k out⟩) xs.length 0 (List.replicate xs.length z) k (by omega) (by omega) ⟨by simp, by simp⟩ hk
  rw [← hr]; simpa using h
theorem pp_getD {α : Type} (l : List α) (i : Nat) (z : α) (h : i < l.length) : l.getD (i : Int).toNat z = l[i] := by
  simp [List.getD_eq_getElem?_getD, List.getElem?_eq_getElem h]
theorem pp_rd {l : List Int} {i : Nat} (h : i < l.length) : rd l (i : Int) = l[i] := pp_getD l i 0 h

/-- What a reader reads: bytes, no more than 2000. -/
def ppRd (l : List Int) : Prop := l.length ≤ 2000 ∧ ∀ x ∈ l, 0 ≤ x ∧ x ≤ 255
theorem pp_u8 (l : List Int) (h : ∀ x ∈ l, (Lit.int .u8 x).wf = true) : ∀ x ∈ l, 0 ≤ x ∧ x ≤ 255 := by
  intro x hx
  have := h x hx
  simp [Lit.wf, IntKind.min, IntKind.max, IntKind.signed, IntKind.bits] at this
  omega
theorem pp_rdb (l : List Int) (h : ∀ x ∈ l, 0 ≤ x ∧ x ≤ 255) (i : Int) : 0 ≤ rd l i ∧ rd l i ≤ 255 := by
  unfold rd
  rw [List.getD_eq_getElem?_getD]
  cases e : l[i.toNat]? with
  | none => simp
  | some v => exact h v (List.mem_of_getElem? e)
theorem pp_open (l : List Int) (h : ∀ x ∈ l, (Lit.int .u8 x).wf = true) : ∃ b, spec_l20Open.f l = some (b, 0) ∧ ppRd b := by
  unfold spec_l20Open.f
  by_cases hl : (l.length : Int) > 2000
  · rw [if_pos hl, if_pos (by omega)]
    exact ⟨_, rfl, by rw [List.length_take]; omega, fun x hx => pp_u8 l h x (List.mem_of_mem_take hx)⟩
  · rw [if_neg hl]
    exact ⟨_, rfl, by omega, pp_u8 l h⟩
theorem pp_xor (x y : Int) (hx : 0 ≤ x) (hy : 0 ≤ y) (hx' : x < 4611686018427387904) (hy' : y < 4611686018427387904) : 0 ≤ Go.bits .xor .i64 x y ∧ Go.bits .xor .i64 x y < 4611686018427387904 := by
  obtain ⟨a, rfl⟩ : ∃ a : Nat, x = a := ⟨x.toNat, by omega⟩
  obtain ⟨b, rfl⟩ : ∃ b : Nat, y = b := ⟨y.toNat, by omega⟩
  have ha : a % 2 ^ 64 = a := Nat.mod_eq_of_lt (by omega)
  have hb : b % 2 ^ 64 = b := Nat.mod_eq_of_lt (by omega)
  have hlt : a ^^^ b < 2 ^ 62 := Nat.xor_lt_two_pow (by omega) (by omega)
  have e : Go.bits .xor .i64 (a : Int) (b : Int) = IntKind.i64.wrap ((a ^^^ b : Nat) : Int) := by
    have q : (BitVec.ofNat 64 a ^^^ BitVec.ofNat 64 b).toNat = a ^^^ b := by rw [BitVec.toNat_xor, BitVec.toNat_ofNat, BitVec.toNat_ofNat, ha, hb]
    simp only [Go.bits, BitVec.ofInt_natCast, IntKind.bits]
    exact congrArg (fun z : Nat => IntKind.i64.wrap (z : Int)) q
  rw [e, IntKind.wrap_i64]
  omega
theorem pp_pick (l : List Int) (h : ppRd l) (p n : Int) (hp : 0 ≤ p) (hp' : p ≤ 1000000000) (hn : n ≤ 1000000) :
    Evs (fun k => spec_l20Rd_pick.f k l p n) (fun r => r.2 = p + 1 ∧ 0 ≤ r.1 ∧ (n < 1 → r.1 = 0) ∧ (1 ≤ n → r.1 < n)) := by
  obtain ⟨hl, hb⟩ := h
  have e1 : wrap64 (p + 1) = p + 1 := pp_wrap_id _ (by omega) (by omega)
  have e2 : wrap64 (p + 1 - 1) = p := by rw [show p + 1 - 1 = p by omega]; exact pp_wrap_id _ (by omega) (by omega)
  unfold spec_l20Rd_pick.f
  rw [e1]
  by_cases h1 : n < 1
  · refine Evs.cong (fun k => if_pos h1) (Evs.step (f := fun _ => some (0, p + 1)) (fun k => by simp only [spec_l20Rd_pick.j0, if_true]) (Evs.now ⟨rfl, by simp, fun _ => rfl, fun h => by omega⟩))
  · refine Evs.cong (fun k => if_neg h1) ?_
    by_cases h0 : l.length = 0
    · refine Evs.step (f := fun _ => some (0, p + 1)) (fun k => by simp only [spec_l20Rd_pick.j0]; rw [if_pos (by simp [h0])]) (Evs.now ⟨rfl, by simp, fun _ => rfl, fun h => by simp; omega⟩)
    · have hne : (((l.length : Int) == 0) = true) = False := by
        have : l ≠ [] := fun e => h0 (by rw [e]; rfl)
        simpa using this
      by_cases hlt : p < (l.length : Int)
      · have hr := pp_rdb l hb p
        have hm := Int.emod_nonneg (rd l p) (show n ≠ 0 by omega)
        have hm' := Int.emod_lt_of_pos (rd l p) (show 0 < n by omega)
        refine Evs.step (f := fun _ => some (Int.tmod (rd l p) n, p + 1)) (fun k => by
          simp only [spec_l20Rd_pick.j0, e2, hne, if_false]
          rw [if_pos hlt, if_pos hp, if_neg (show ¬ n = 0 by omega), pp_wrap_id (rd l p) (by omega) (by omega)]) (Evs.now ⟨rfl, ?_, fun h => absurd h h1, fun _ => ?_⟩)
        · simp only [Int.tmod_eq_emod_of_nonneg hr.1]; exact hm
        · simp only [Int.tmod_eq_emod_of_nonneg hr.1]; exact hm'
      · have hL : (0 : Int) < (l.length : Int) := by omega
        have ei : Int.tmod p (l.length : Int) = p % (l.length : Int) := Int.tmod_eq_emod_of_nonneg hp
        have ed : Int.tdiv p (l.length : Int) = p / (l.length : Int) := Int.tdiv_eq_ediv_of_nonneg hp
        have i0 := Int.emod_nonneg p (show (l.length : Int) ≠ 0 by omega)
        have i1 := Int.emod_lt_of_pos p hL
        have d0 : 0 ≤ p / (l.length : Int) := Int.ediv_nonneg hp (by omega)
        have d1 : p / (l.length : Int) ≤ p := Int.ediv_le_self _ hp
        have e7 : wrap64 (wrap64 (p * 7) + 3) = p * 7 + 3 := by rw [pp_wrap_id (p * 7) (by omega) (by omega), pp_wrap_id _ (by omega) (by omega)]
        have ej : Int.tmod (p * 7 + 3) (l.length : Int) = (p * 7 + 3) % (l.length : Int) := Int.tmod_eq_emod_of_nonneg (by omega)
        have j0 := Int.emod_nonneg (p * 7 + 3) (show (l.length : Int) ≠ 0 by omega)
        have j1 := Int.emod_lt_of_pos (p * 7 + 3) hL
        obtain ⟨u, hu⟩ : ∃ u, u = rd l (p % (l.length : Int)) := ⟨_, rfl⟩
        obtain ⟨v, hv⟩ : ∃ v, v = rd l ((p * 7 + 3) % (l.length : Int)) := ⟨_, rfl⟩
        have hu' : 0 ≤ u ∧ u ≤ 255 := by rw [hu]; exact pp_rdb l hb _
        have hv' : 0 ≤ v ∧ v ≤ 255 := by rw [hv]; exact pp_rdb l hb _
        obtain ⟨dq, hdq⟩ : ∃ dq, dq = p / (l.length : Int) := ⟨_, rfl⟩
        rw [← hdq] at d0 d1
        have w1 : wrap64 u = u := pp_wrap_id _ (by omega) (by omega)
        have w2 : wrap64 (u * 131) = u * 131 := pp_wrap_id _ (by omega) (by omega)
        have w3 : wrap64 v = v := pp_wrap_id _ (by omega) (by omega)
        have w4 : wrap64 (v * 1117) = v * 1117 := pp_wrap_id _ (by omega) (by omega)
        have w5 : wrap64 (u * 131 + v * 1117) = u * 131 + v * 1117 := pp_wrap_id _ (by omega) (by omega)
        have w6 : wrap64 (p * 29) = p * 29 := pp_wrap_id _ (by omega) (by omega)
        have w7 : wrap64 (u * 131 + v * 1117 + p * 29) = u * 131 + v * 1117 + p * 29 := pp_wrap_id _ (by omega) (by omega)
        have w8 : wrap64 dq = dq := pp_wrap_id _ (by omega) (by omega)
        have w9 : wrap64 (dq * 53) = dq * 53 := pp_wrap_id _ (by omega) (by omega)
        have wa : wrap64 (u * 131 + v * 1117 + p * 29 + dq * 53) = u * 131 + v * 1117 + p * 29 + dq * 53 := pp_wrap_id _ (by omega) (by omega)
        obtain ⟨x, hx⟩ : ∃ x, x = u * 131 + v * 1117 + p * 29 + dq * 53 := ⟨_, rfl⟩
        have x0 : 0 ≤ x := by omega
        have x1 : x < 4611686018427387904 := by omega
        have wx : wrap64 x = x := pp_wrap_id _ (by omega) (by omega)
        have ex : Int.tdiv x 64 = x / 64 := Int.tdiv_eq_ediv_of_nonneg x0
        have wb : wrap64 (x / 64) = x / 64 := pp_wrap_id _ (by omega) (by omega)
        have hz := pp_xor x (x / 64) x0 (by omega) x1 (by omega)
        have hm := Int.emod_nonneg (Go.bits .xor .i64 x (x / 64)) (show n ≠ 0 by omega)
        have hm' := Int.emod_lt_of_pos (Go.bits .xor .i64 x (x / 64)) (show 0 < n by omega)
        refine Evs.step (f := fun _ => some (Int.tmod (Go.bits .xor .i64 x (x / 64)) n, p + 1)) (fun k => by
          simp only [spec_l20Rd_pick.j0, e2, hne, if_false, ei, ed, e7, ej, ← hu, ← hv, ← hdq, w1, w2, w3, w4, w5, w6, w7, w8, w9, wa, ← hx, wx, ex, wb]
          rw [if_neg hlt, if_neg (by omega), if_pos i0, if_pos i1, if_pos j0, if_pos j1, if_neg (by omega)]) (Evs.now ⟨rfl, ?_, fun h => absurd h h1, fun _ => ?_⟩)
        · simp only [Int.tmod_eq_emod_of_nonneg hz.1]; exact hm
        · simp only [Int.tmod_eq_emod_of_nonneg hz.1]; exact hm'

theorem pp_brd_j1 (l : List Int) (h : ppRd l) (n p s w : Int) (hn : n ≤ 1000000) (hp : 0 ≤ p) (hp' : p ≤ 900000000) (hs : -1 ≤ s ∧ s ≤ 5) (hw : -1 ≤ w ∧ w ≤ 4) :
    Evs (fun k => spec_l20Brd.j1 k n l p s w) (fun r => (-1 ≤ r.1 ∧ r.1 ≤ 5) ∧ (-1 ≤ r.2.1 ∧ r.2.1 ≤ 4) ∧ p ≤ r.2.2 ∧ r.2.2 ≤ p + 3) := by
  refine Evs.step (fun k => by simp only [spec_l20Brd.j1]; try rfl) ?_
  refine Evs.bnd (pp_pick l h p n hp (by omega) (by omega)) ?_
  rintro ⟨v, q⟩ ⟨hq, h0, _, _⟩
  simp only at hq h0 ⊢
  refine Evs.ite (fun _ => ?_) (fun _ => Evs.now ⟨hs, hw, by simp only; omega, by simp only; omega⟩)
  refine Evs.bnd (pp_pick l h q 2 (by omega) (by omega) (by omega)) ?_
  rintro ⟨v2, q2⟩ ⟨hq2, h02, _, _⟩
  simp only at hq2 h02 ⊢
  refine Evs.ite (fun _ => ?_) (fun _ => ?_)
  · simp only [Option.bind_some]
    refine Evs.bnd (pp_pick l h q2 3 (by omega) (by omega) (by omega)) ?_
    rintro ⟨v3, q3⟩ ⟨hq3, h03, _, h13⟩
    simp only at hq3 h03 h13 ⊢
    have h13 := h13 (by omega)
    refine Evs.pos h03 (Evs.pos (by simp; omega) (Evs.now ⟨?_, hw, by simp only; omega, by simp only; omega⟩))
    have : v3 = 0 ∨ v3 = 1 ∨ v3 = 2 := by omega
    rcases this with rfl | rfl | rfl <;> simp [rd]
  · simp only [Option.bind_some]
    refine Evs.bnd (pp_pick l h q2 4 (by omega) (by omega) (by omega)) ?_
    rintro ⟨v3, q3⟩ ⟨hq3, h03, _, h13⟩
    simp only at hq3 h03 h13 ⊢
    have h13 := h13 (by omega)
    refine Evs.pos h03 (Evs.pos (by simp; omega) (Evs.now ⟨hs, ?_, by simp only; omega, by simp only; omega⟩))
    have : v3 = 0 ∨ v3 = 1 ∨ v3 = 2 ∨ v3 = 3 := by omega
    rcases this with rfl | rfl | rfl | rfl <;> simp [rd]
theorem pp_brd (l : List Int) (h : ppRd l) (n p : Int) (hn : n ≤ 1000000) (hp : 0 ≤ p) (hp' : p ≤ 800000000) :
    Evs (fun k => spec_l20Brd.f k l p n) (fun r => (-1 ≤ r.1 ∧ r.1 ≤ 5) ∧ (-1 ≤ r.2.1 ∧ r.2.1 ≤ 4) ∧ p ≤ r.2.2 ∧ r.2.2 ≤ p + 6) := by
  have two : ∀ q, p ≤ q → q ≤ p + 1 → Evs (fun k => (spec_l20Rd_pick.f k l q 3).bind fun a => (spec_l20Rd_pick.f k l a.2 3).bind fun b => spec_l20Brd.j1 k n l b.2 (wrap64 (1 + a.1)) (wrap64 (1 + b.1))) (fun r => (-1 ≤ r.1 ∧ r.1 ≤ 5) ∧ (-1 ≤ r.2.1 ∧ r.2.1 ≤ 4) ∧ p ≤ r.2.2 ∧ r.2.2 ≤ p + 6) := by
    intro q hq0 hq1
    refine Evs.bnd (pp_pick l h q 3 (by omega) (by omega) (by omega)) ?_
    rintro ⟨v2, q2⟩ ⟨hq2, h02, _, h12⟩
    simp only at hq2 h02 h12 ⊢
    have h12 := h12 (by omega)
    refine Evs.bnd (pp_pick l h q2 3 (by omega) (by omega) (by omega)) ?_
    rintro ⟨v3, q3⟩ ⟨hq3, h03, _, h13⟩
    simp only at hq3 h03 h13 ⊢
    have h13 := h13 (by omega)
    rw [pp_wrap_id (1 + v2) (by omega) (by omega), pp_wrap_id (1 + v3) (by omega) (by omega)]
    exact (pp_brd_j1 l h n q3 _ _ hn (by omega) (by omega) ⟨by omega, by omega⟩ ⟨by omega, by omega⟩).imp fun r ⟨a, b, c, d⟩ => ⟨a, b, by omega, by omega⟩
  unfold spec_l20Brd.f
  refine Evs.bnd (pp_pick l h p 4 hp (by omega) (by omega)) ?_
  rintro ⟨v, q⟩ ⟨hq, h0, _, h1⟩
  simp only at hq h0 h1 ⊢
  refine Evs.ite (fun hv => ?_) (fun hv => ?_)
  · refine Evs.step (fun k => by simp only [spec_l20Brd.j0]; rw [if_pos (by simp [hv])]; try rfl) ?_
    exact two q (by omega) (by omega)
  · by_cases hv1 : v = 1
    · refine Evs.step (fun k => by simp only [spec_l20Brd.j0]; rw [if_pos (by simp [hv1])]; try rfl) ?_
      exact two q (by omega) (by omega)
    · refine Evs.step (fun k => by simp only [spec_l20Brd.j0]; rw [if_neg (by simp [hv1])]; try rfl) ?_
      refine Evs.ite (fun _ => ?_) (fun _ => (pp_brd_j1 l h n q 0 0 hn (by omega) (by omega) ⟨by omega, by omega⟩ ⟨by omega, by omega⟩).imp fun r ⟨a, b, c, d⟩ => ⟨a, b, by omega, by omega⟩)
      refine Evs.bnd (pp_pick l h q 3 (by omega) (by omega) (by omega)) ?_
      rintro ⟨v2, q2⟩ ⟨hq2, h02, _, h12⟩
      simp only at hq2 h02 h12 ⊢
      refine Evs.ite (fun _ => ?_) (fun _ => ?_)
      · exact (pp_brd_j1 l h n q2 _ _ hn (by omega) (by omega) ⟨by omega, by omega⟩ ⟨by omega, by omega⟩).imp fun r ⟨a, b, c, d⟩ => ⟨a, b, by omega, by omega⟩
      · exact (pp_brd_j1 l h n q2 _ _ hn (by omega) (by omega) ⟨by omega, by omega⟩ ⟨by omega, by omega⟩).imp fun r ⟨a, b, c, d⟩ => ⟨a, b, by omega, by omega⟩

theorem pp_join (x y : ByteArray) (hx : x.size ≤ 30) (hy : y.size ≤ 10) : (ppJoin x y).size ≤ 30 := by
  unfold ppJoin
  split
  · omega
  · split
    · rename_i h
      rw [ByteArray.size_append, ByteArray.size_append]
      have : (⟨#[32]⟩ : ByteArray).size = 1 := rfl
      omega
    · exact hx
theorem pp_text_l (l : List Int) (h : ppRd l) : ∀ (n : Nat) (x : ByteArray) (p : Int), x.size ≤ 30 → 0 ≤ p → p + n ≤ 800000000 → n ≤ 10 → Evs (fun k => spec_l20Text.l k l n x p) (fun r => r.1.size ≤ 30 ∧ p ≤ r.2 ∧ r.2 ≤ p + n)
  | 0, x, p, hx, hp, hp', hn => Evs.cong (f := fun _ => some (x, p)) (fun _ => rfl) (Evs.now ⟨hx, by simp, by simp⟩)
  | n + 1, x, p, hx, hp, hp', hn => by
    unfold spec_l20Text.l
    refine Evs.bnd (pp_pick l h p 7 hp (by omega) (by omega)) ?_
    rintro ⟨v, q⟩ ⟨hq, h0, _, h1⟩
    simp only at hq h0 h1 ⊢
    have h1 := h1 (by omega)
    refine Evs.pos ⟨h0, h1, hx⟩ ((pp_text_l l h n _ q (pp_join _ _ hx (ppW7_size _)) (by omega) (by omega) (by omega)).imp fun r ⟨a, b, c⟩ => ⟨a, by omega, by omega⟩)
theorem pp_text (l : List Int) (h : ppRd l) (p : Int) (hp : 0 ≤ p) (hp' : p ≤ 700000000) : Evs (fun k => spec_l20Text.f k l p) (fun r => r.1.size ≤ 30 ∧ p ≤ r.2 ∧ r.2 ≤ p + 6) := by
  unfold spec_l20Text.f
  refine Evs.bnd (pp_pick l h p 6 hp (by omega) (by omega)) ?_
  rintro ⟨v, q⟩ ⟨hq, h0, _, h1⟩
  simp only at hq h0 h1 ⊢
  have h1 := h1 (by omega)
  refine Evs.pos ⟨h0, by omega⟩ ((pp_text_l l h v.toNat ⟨#[]⟩ q (by decide) (by omega) (by omega) (by omega)).imp fun r ⟨a, b, c⟩ => ⟨a, by omega, by omega⟩)
theorem pp_anyText (l : List Int) (h : ppRd l) (p n : Int) (hp : 0 ≤ p) (hp' : p ≤ 700000000) (hn : n ≤ 1000000) : Evs (fun k => spec_l20AnyText.f k l p n) (fun r => p ≤ r.2 ∧ r.2 ≤ p + 9) := by
  unfold spec_l20AnyText.f
  refine Evs.bnd (pp_text l h p hp hp') ?_
  rintro ⟨x, q⟩ ⟨hx, q0, q1⟩
  simp only at hx q0 q1 ⊢
  refine Evs.bnd (pp_pick l h q n (by omega) (by omega) hn) ?_
  rintro ⟨v, q2⟩ ⟨hq, _, _, _⟩
  simp only at hq ⊢
  refine Evs.ite (fun _ => Evs.now ⟨by simp only; omega, by simp only; omega⟩) (fun _ => Evs.pos (by omega) ?_)
  refine Evs.bnd (pp_pick l h q2 ((x.size : Int) + 1) (by omega) (by omega) (by omega)) ?_
  rintro ⟨d, q3⟩ ⟨hq3, d0, _, d1⟩
  simp only at hq3 d0 d1 ⊢
  have d1 := d1 (by omega)
  refine Evs.bnd (pp_pick l h q3 7 (by omega) (by omega) (by omega)) ?_
  rintro ⟨e, q4⟩ ⟨hq4, e0, _, e1⟩
  simp only at hq4 e0 e1 ⊢
  have e1 := e1 (by omega)
  exact Evs.pos ⟨d0, by omega, e0, e1⟩ (Evs.now ⟨by simp only; omega, by simp only; omega⟩)
theorem pp_cell_j (l : List Int) (h : ppRd l) (n : Int) (x : S75) (p : Int) (hn : n ≤ 1000000) (hp : 0 ≤ p) (hp' : p ≤ 600000000) : Evs (fun k => spec_l20Cell.j k l n x p) (fun r => p ≤ r.2 ∧ r.2 ≤ p + 11) := by
  unfold spec_l20Cell.j
  refine Evs.bnd (pp_pick l h p n hp (by omega) hn) ?_
  rintro ⟨v, q⟩ ⟨hq, _, _, _⟩
  simp only at hq ⊢
  refine Evs.ite (fun _ => Evs.now ⟨by simp only; omega, by simp only; omega⟩) (fun _ => ?_)
  refine Evs.bnd (pp_pick l h q 4 (by omega) (by omega) (by omega)) ?_
  rintro ⟨d, q2⟩ ⟨hq2, d0, _, d1⟩
  simp only at hq2 d0 d1 ⊢
  refine Evs.ite (fun _ => ?_) (fun _ => Evs.ite (fun _ => ?_) (fun _ => Evs.ite (fun _ => ?_) (fun _ => ?_)))
  · refine Evs.bnd (pp_anyText l h q2 1 (by omega) (by omega) (by omega)) ?_
    rintro ⟨t, q3⟩ ⟨a, b⟩
    exact Evs.now ⟨by simp only at *; omega, by simp only at *; omega⟩
  · refine Evs.bnd (pp_pick l h q2 3 (by omega) (by omega) (by omega)) ?_
    rintro ⟨e, q3⟩ ⟨hq3, e0, _, e1⟩
    simp only at hq3 e0 e1 ⊢
    exact Evs.pos ⟨e0, e1 (by omega)⟩ (Evs.now ⟨by simp only; omega, by simp only; omega⟩)
  · refine Evs.bnd (pp_pick l h q2 3 (by omega) (by omega) (by omega)) ?_
    rintro ⟨e, q3⟩ ⟨hq3, e0, _, e1⟩
    simp only at hq3 e0 e1 ⊢
    exact Evs.pos ⟨e0, e1 (by omega)⟩ (Evs.now ⟨by simp only; omega, by simp only; omega⟩)
  · refine Evs.bnd (pp_brd l h 1 q2 (by omega) (by omega) (by omega)) ?_
    rintro ⟨s, w, q3⟩ ⟨_, _, g0, g1⟩
    exact Evs.now ⟨by simp only at *; omega, by simp only at *; omega⟩
theorem pp_cell (l : List Int) (h : ppRd l) (p n : Int) (hn : n ≤ 1000000) (hp : 0 ≤ p) (hp' : p ≤ 500000000) : Evs (fun k => spec_l20Cell.f k l p n) (fun r => p ≤ r.2 ∧ r.2 ≤ p + 43) := by
  unfold spec_l20Cell.f
  refine Evs.bnd (pp_text l h p hp (by omega)) ?_
  rintro ⟨t, q1⟩ ⟨_, a1, b1⟩
  simp only at a1 b1 ⊢
  refine Evs.bnd (pp_pick l h q1 6 (by omega) (by omega) (by omega)) ?_
  rintro ⟨c, q2⟩ ⟨hq2, c0, _, c1⟩
  simp only at hq2 c0 c1 ⊢
  refine Evs.bnd (pp_pick l h q2 6 (by omega) (by omega) (by omega)) ?_
  rintro ⟨r, q3⟩ ⟨hq3, r0, _, r1⟩
  simp only at hq3 r0 r1 ⊢
  refine Evs.pos ⟨c0, c1 (by omega), r0, r1 (by omega)⟩ ?_
  refine Evs.bnd (pp_brd l h 999 q3 (by omega) (by omega) (by omega)) ?_
  rintro ⟨s1, w1, q4⟩ ⟨_, _, g0, g1⟩
  simp only at g0 g1 ⊢
  refine Evs.bnd (pp_brd l h 999 q4 (by omega) (by omega) (by omega)) ?_
  rintro ⟨s2, w2, q5⟩ ⟨_, _, g2, g3⟩
  simp only at g2 g3 ⊢
  refine Evs.bnd (pp_brd l h 999 q5 (by omega) (by omega) (by omega)) ?_
  rintro ⟨s3, w3, q6⟩ ⟨_, _, g4, g5⟩
  simp only at g4 g5 ⊢
  refine Evs.bnd (pp_brd l h 999 q6 (by omega) (by omega) (by omega)) ?_
  rintro ⟨s4, w4, q7⟩ ⟨_, _, g6, g7⟩
  simp only at g6 g7 ⊢
  exact (pp_cell_j l h n _ q7 hn (by omega) (by omega)).imp fun r ⟨a, b⟩ => ⟨by omega, by omega⟩

theorem pp_l1In (a b c : Int) : Evs (fun _ => spec_l1In.f a b c) (fun _ => True) := by
  unfold spec_l1In.f
  exact Evs.ite (fun _ => Evs.now trivial) (fun _ => Evs.now trivial)
theorem pp_txtOk (x : ByteArray) : Evs (fun k => spec_TxtOk.f k x) (fun _ => True) := by
  unfold spec_TxtOk.f
  refine Evs.ite (fun _ => Evs.now trivial) (fun hx => ?_)
  have loop : ∀ (d i : Nat), x.size - i = d → i ≤ x.size → Evs (fun k => spec_TxtOk.l0 k x (i : Int)) (fun _ => True) := by
    intro d
    induction d with
    | zero =>
      intro i hd hi
      exact Evs.step (f := fun _ => some true) (fun k => by simp only [spec_TxtOk.l0]; rw [if_neg (by omega)]) (Evs.now trivial)
    | succ d ih =>
      intro i hd hi
      have J : ∀ b, Evs (fun k => spec_TxtOk.j1 k x (i : Int) b) (fun _ => True) := by
        intro b
        refine Evs.step (fun k => by simp only [spec_TxtOk.j1]; rfl) ?_
        refine Evs.ite (fun _ => Evs.now trivial) (fun _ => Evs.pos (by omega) (Evs.pos (by omega) ?_))
        have n := ih (i + 1) (by omega) (by omega)
        rw [show (((i + 1 : Nat)) : Int) = wrap64 ((i : Int) + 1) by rw [pp_wrap_id _ (by omega) (by omega)]; rfl] at n
        refine Evs.ite (fun _ => n) (fun _ => ?_)
        refine Evs.bnd (pp_l1In _ _ _) (fun b _ => ?_)
        exact Evs.ite (fun _ => n) (fun _ => Evs.now trivial)
      refine Evs.step (fun k => by simp only [spec_TxtOk.l0]; rfl) ?_
      refine Evs.pos (by omega) (Evs.pos (by omega) (Evs.ite (fun _ => Evs.ite (fun _ => J _) (fun h0 => Evs.ite (fun _ => J _) (fun _ => ?_))) (fun _ => J _)))
      rw [pp_wrap_id ((i : Int) - 1) (by omega) (by omega)]
      exact Evs.pos (by omega) (Evs.pos (by omega) (J _))
  exact loop _ 0 rfl (by omega)
theorem pp_brdOk (a b : Int) : Evs (fun k => spec_BrdOk.f k a b) (fun _ => True) := by
  have J : ∀ c, Evs (fun k => spec_BrdOk.j0 k c a b) (fun _ => True) := by
    intro c
    refine Evs.step (fun k => by simp only [spec_BrdOk.j0]; rfl) ?_
    refine Evs.ite (fun _ => Evs.now trivial) (fun _ => ?_)
    refine Evs.bnd (pp_l1In _ _ _) (fun t _ => ?_)
    exact Evs.ite (fun _ => Evs.bnd (pp_l1In _ _ _) (fun t _ => Evs.now trivial)) (fun _ => Evs.now trivial)
  unfold spec_BrdOk.f
  exact Evs.ite (fun _ => J _) (fun _ => J _)
theorem pp_cellOk (x : ByteArray) (a1 a2 a3 a4 a5 a6 a7 a8 a9 a10 : Int) : Evs (fun k => spec_CellOk.f k x a1 a2 a3 a4 a5 a6 a7 a8 a9 a10) (fun _ => True) := by
  unfold spec_CellOk.f
  refine Evs.bnd (pp_txtOk _) (fun _ _ => Evs.ite (fun _ => ?_) (fun _ => Evs.now trivial))
  refine Evs.bnd (pp_l1In _ _ _) (fun _ _ => Evs.ite (fun _ => ?_) (fun _ => Evs.now trivial))
  refine Evs.bnd (pp_l1In _ _ _) (fun _ _ => Evs.ite (fun _ => ?_) (fun _ => Evs.now trivial))
  refine Evs.bnd (pp_brdOk _ _) (fun _ _ => Evs.ite (fun _ => ?_) (fun _ => Evs.now trivial))
  refine Evs.bnd (pp_brdOk _ _) (fun _ _ => Evs.ite (fun _ => ?_) (fun _ => Evs.now trivial))
  refine Evs.bnd (pp_brdOk _ _) (fun _ _ => Evs.ite (fun _ => ?_) (fun _ => Evs.now trivial))
  exact Evs.bnd (pp_brdOk _ _) (fun _ _ => Evs.now trivial)
theorem pp_l2Col (a b : Int) : Evs (fun _ => spec_l2Col.f a b) (fun _ => True) := by
  unfold spec_l2Col.f
  refine Evs.ite (fun _ => Evs.now trivial) (fun _ => Evs.ite (fun _ => ?_) (fun _ => Evs.ite (fun _ => ?_) (fun _ => Evs.now trivial)))
  · exact Evs.bnd (pp_l1In _ _ _) (fun _ _ => Evs.now trivial)
  · exact Evs.bnd (pp_l1In _ _ _) (fun _ _ => Evs.now trivial)
theorem pp_tblOk (cs : List S68) (hd ft : Int) (rs : List S71) (gp : Int) : Evs (fun k => spec_TblOk.f k cs hd ft rs gp) (fun r => r = true → rs.length ≤ 8 ∧ ∀ x ∈ rs, x.f0.length ≤ 5) := by
  have L : rs.length ≤ 8 → ∀ (d i : Nat), rs.length - i = d → i ≤ rs.length → (∀ j (hj : j < rs.length), j < i → rs[j].f0.length ≤ 5) → Evs (fun k => spec_TblOk.l1 k (i : Int) cs hd ft rs gp) (fun r => r = true → rs.length ≤ 8 ∧ ∀ x ∈ rs, x.f0.length ≤ 5) := by
    intro h8 d
    induction d with
    | zero =>
      intro i hd' hi hI
      refine Evs.step (f := fun _ => some true) (fun k => by simp only [spec_TblOk.l1]; rw [if_neg (by omega)]) (Evs.now fun _ => ⟨h8, fun x hx => ?_⟩)
      obtain ⟨j, hj, rfl⟩ := List.getElem_of_mem hx
      exact hI j hj (by omega)
    | succ d ih =>
      intro i hd' hi hI
      have hir : rd_T71 rs (i : Int) = rs[i] := pp_getD rs i _ (by omega)
      refine Evs.step (fun k => by simp only [spec_TblOk.l1]; rfl) ?_
      refine Evs.pos (by omega) (Evs.pos (by omega) (Evs.ite (fun _ => Evs.now (fun h => by cases h)) (fun h5 => ?_)))
      rw [hir] at h5
      have n := ih (i + 1) (by omega) (by omega) (fun j hj hji => by
        by_cases e : j = i
        · subst e; omega
        · exact hI j hj (by omega))
      rw [show (((i + 1 : Nat)) : Int) = wrap64 ((i : Int) + 1) by rw [pp_wrap_id _ (by omega) (by omega)]; rfl] at n
      have M : ∀ (d j : Nat), rs[i].f0.length - j = d → j ≤ rs[i].f0.length → Evs (fun k => spec_TblOk.l2 k (i : Int) (j : Int) cs hd ft rs gp) (fun r => r = true → rs.length ≤ 8 ∧ ∀ x ∈ rs, x.f0.length ≤ 5) := by
        intro d
        induction d with
        | zero =>
          intro j hd2 hj
          refine Evs.step (fun k => by simp only [spec_TblOk.l2]; rw [hir]) ?_
          exact Evs.pos (by omega) (Evs.pos (by omega) (Evs.neg (by omega) n))
        | succ d ih2 =>
          intro j hd2 hj
          have n2 := ih2 (j + 1) (by omega) (by omega)
          rw [show (((j + 1 : Nat)) : Int) = wrap64 ((j : Int) + 1) by rw [pp_wrap_id _ (by omega) (by omega)]; rfl] at n2
          refine Evs.step (fun k => by simp only [spec_TblOk.l2]; rw [hir]) ?_
          refine Evs.pos (by omega) (Evs.pos (by omega) (Evs.pos (by omega) (Evs.pos (by omega) ?_)))
          refine Evs.bnd (pp_cellOk _ _ _ _ _ _ _ _ _ _ _) (fun b _ => ?_)
          exact Evs.ite (fun _ => n2) (fun _ => Evs.now (fun h => by cases h))
      exact M _ 0 rfl (by omega)
  have K : cs.length ≤ 8 → rs.length ≤ 8 → ∀ (d i : Nat), cs.length - i = d → i ≤ cs.length → Evs (fun k => spec_TblOk.l0 k (i : Int) cs hd ft rs gp) (fun r => r = true → rs.length ≤ 8 ∧ ∀ x ∈ rs, x.f0.length ≤ 5) := by
    intro h8 h8' d
    induction d with
    | zero =>
      intro i hd' hi
      exact Evs.step (f := fun k => spec_TblOk.l1 k ((0 : Nat) : Int) cs hd ft rs gp) (fun k => by simp only [spec_TblOk.l0]; rw [if_neg (by omega)]; rfl) (L h8' _ 0 rfl (by omega) (fun j _ h => absurd h (Nat.not_lt_zero _)))
    | succ d ih =>
      intro i hd' hi
      have n := ih (i + 1) (by omega) (by omega)
      rw [show (((i + 1 : Nat)) : Int) = wrap64 ((i : Int) + 1) by rw [pp_wrap_id _ (by omega) (by omega)]; rfl] at n
      refine Evs.step (fun k => by simp only [spec_TblOk.l0]; rfl) ?_
      refine Evs.pos (by omega) (Evs.pos (by omega) ?_)
      refine Evs.bnd (pp_l2Col _ _) (fun b _ => ?_)
      exact Evs.ite (fun _ => n) (fun _ => Evs.now (fun h => by cases h))
  have J0 : Evs (fun k => spec_TblOk.j0 k true cs hd ft rs gp) (fun r => r = true → rs.length ≤ 8 ∧ ∀ x ∈ rs, x.f0.length ≤ 5) := Evs.step (f := fun _ => some false) (fun k => by simp only [spec_TblOk.j0]; rfl) (Evs.now (fun h => by cases h))
  have J1 : cs.length ≤ 8 → rs.length ≤ 8 → ∀ b, Evs (fun k => spec_TblOk.j0 k b cs hd ft rs gp) (fun r => r = true → rs.length ≤ 8 ∧ ∀ x ∈ rs, x.f0.length ≤ 5) := by
    intro h8 h8' b
    refine Evs.step (fun k => by simp only [spec_TblOk.j0]; rfl) ?_
    exact Evs.ite (fun _ => Evs.now (fun h => by cases h)) (fun _ => K h8 h8' _ 0 rfl (by omega))
  unfold spec_TblOk.f
  by_cases h8' : rs.length ≤ 8
  · refine Evs.bnd (pp_l1In _ _ _) (fun b _ => ?_)
    refine Evs.ite (fun _ => Evs.ite (fun _ => J0) (fun h8 => ?_)) (fun _ => J0)
    refine Evs.bnd (pp_l1In _ _ _) (fun b _ => Evs.ite (fun _ => ?_) (fun _ => J0))
    refine Evs.bnd (pp_l1In _ _ _) (fun b _ => Evs.ite (fun _ => ?_) (fun _ => J0))
    exact Evs.bnd (pp_l1In _ _ _) (fun b _ => J1 (by omega) h8' _)
  · have e : spec_l1In.f (rs.length : Int) 1 8 = some false := by
      unfold spec_l1In.f
      split
      · rw [decide_eq_false (by omega)]
      · rfl
    rw [e]
    simp only [Option.bind_some]
    exact Evs.neg (by decide) J0

theorem pp_tab_c (l : List Int) (h : ppRd l) : ∀ (n : Nat) (xs : List S68) (p : Int), 0 ≤ p → p + 3 * n ≤ 400000000 → n ≤ 10 → Evs (fun k => spec_l20Table.lc k l n xs p) (fun r => p ≤ r.2 ∧ r.2 ≤ p + 3 * n)
  | 0, xs, p, hp, hp', hn => Evs.cong (f := fun _ => some (xs, p)) (fun _ => rfl) (Evs.now ⟨by simp, by simp⟩)
  | n + 1, xs, p, hp, hp', hn => by
    unfold spec_l20Table.lc
    refine Evs.bnd (pp_pick l h p 30 hp (by omega) (by omega)) ?_
    rintro ⟨a, q⟩ ⟨hq, a0, _, a1⟩
    simp only at hq a0 a1 ⊢
    refine Evs.bnd (pp_pick l h q 4 (by omega) (by omega) (by omega)) ?_
    rintro ⟨b, q2⟩ ⟨hq2, b0, _, b1⟩
    simp only at hq2 b0 b1 ⊢
    refine Evs.bnd (pp_pick l h q2 4 (by omega) (by omega) (by omega)) ?_
    rintro ⟨c, q3⟩ ⟨hq3, c0, _, c1⟩
    simp only at hq3 c0 c1 ⊢
    exact Evs.pos ⟨b0, b1 (by omega), c0, c1 (by omega)⟩ ((pp_tab_c l h n _ q3 (by omega) (by omega) (by omega)).imp fun r ⟨a, b⟩ => ⟨by omega, by omega⟩)
theorem pp_tab_s (l : List Int) (h : ppRd l) : ∀ (n : Nat) (xs : List S75) (p : Int), 0 ≤ p → p + 43 * n ≤ 400000000 → n ≤ 10 → Evs (fun k => spec_l20Table.ls k l n xs p) (fun r => p ≤ r.2 ∧ r.2 ≤ p + 43 * n)
  | 0, xs, p, hp, hp', hn => Evs.cong (f := fun _ => some (xs, p)) (fun _ => rfl) (Evs.now ⟨by simp, by simp⟩)
  | n + 1, xs, p, hp, hp', hn => by
    unfold spec_l20Table.ls
    refine Evs.bnd (pp_cell l h p 99999 (by omega) hp (by omega)) ?_
    rintro ⟨c, q⟩ ⟨q0, q1⟩
    simp only at q0 q1 ⊢
    exact (pp_tab_s l h n _ q (by omega) (by omega) (by omega)).imp fun r ⟨a, b⟩ => ⟨by omega, by omega⟩
theorem pp_tab_r (l : List Int) (h : ppRd l) : ∀ (n : Nat) (xs : List S71) (p : Int), 0 ≤ p → p + 200 * n ≤ 300000000 → n ≤ 10 → Evs (fun k => spec_l20Table.lr k l n xs p) (fun r => p ≤ r.2 ∧ r.2 ≤ p + 200 * n)
  | 0, xs, p, hp, hp', hn => Evs.cong (f := fun _ => some (xs, p)) (fun _ => rfl) (Evs.now ⟨by simp, by simp⟩)
  | n + 1, xs, p, hp, hp', hn => by
    unfold spec_l20Table.lr
    refine Evs.bnd (pp_pick l h p 4 hp (by omega) (by omega)) ?_
    rintro ⟨a, q⟩ ⟨hq, a0, _, a1⟩
    simp only at hq a0 a1 ⊢
    refine Evs.bnd (pp_pick l h q 5 (by omega) (by omega) (by omega)) ?_
    rintro ⟨b, q2⟩ ⟨hq2, b0, _, b1⟩
    simp only at hq2 b0 b1 ⊢
    have b1 := b1 (by omega)
    refine Evs.pos ⟨b0, by omega⟩ ?_
    refine Evs.bnd (pp_tab_s l h b.toNat [] q2 (by omega) (by omega) (by omega)) ?_
    rintro ⟨c, q3⟩ ⟨g0, g1⟩
    simp only at g0 g1 ⊢
    exact (pp_tab_r l h n _ q3 (by omega) (by omega) (by omega)).imp fun r ⟨a, b⟩ => ⟨by omega, by omega⟩
theorem pp_tab_f (t : PTab) (p : Int) : Evs (fun k => spec_l20Table.fin k t p) (fun r => r.2 = p) := by
  unfold spec_l20Table.fin
  exact Evs.bnd (pp_tblOk _ _ _ _ _) (fun _ _ => Evs.now rfl)
theorem pp_table (l : List Int) (h : ppRd l) (p : Int) (hp : 0 ≤ p) (hp' : p ≤ 200000000) : Evs (fun k => spec_l20Table.f k l p) (fun r => p ≤ r.2 ∧ r.2 ≤ p + 2000) := by
  unfold spec_l20Table.f
  refine Evs.bnd (pp_pick l h p 4 hp (by omega) (by omega)) ?_
  rintro ⟨gap, q⟩ ⟨hq, _, _, _⟩
  simp only at hq ⊢
  refine Evs.bnd (pp_pick l h q 6 (by omega) (by omega) (by omega)) ?_
  rintro ⟨nc, q2⟩ ⟨hq2, c0, _, c1⟩
  simp only at hq2 c0 c1 ⊢
  have c1 := c1 (by omega)
  refine Evs.pos ⟨c0, by omega⟩ ?_
  refine Evs.bnd (pp_tab_c l h nc.toNat [] q2 (by omega) (by omega) (by omega)) ?_
  rintro ⟨cols, q3⟩ ⟨g0, g1⟩
  simp only at g0 g1 ⊢
  refine Evs.bnd (pp_pick l h q3 6 (by omega) (by omega) (by omega)) ?_
  rintro ⟨nr, q4⟩ ⟨hq4, r0, _, r1⟩
  simp only at hq4 r0 r1 ⊢
  have r1 := r1 (by omega)
  refine Evs.pos ⟨r0, by omega⟩ ?_
  refine Evs.bnd (pp_tab_r l h (nr.toNat + 1) [] q4 (by omega) (by omega) (by omega)) ?_
  rintro ⟨rows, q5⟩ ⟨g2, g3⟩
  simp only at g2 g3 ⊢
  refine Evs.bnd (pp_pick l h q5 2 (by omega) (by omega) (by omega)) ?_
  rintro ⟨hf, q6⟩ ⟨hq6, _, _, _⟩
  simp only at hq6 ⊢
  refine Evs.ite (fun _ => ?_) (fun _ => (pp_tab_f _ _).imp fun r e => ⟨by omega, by omega⟩)
  refine Evs.bnd (pp_pick l h q6 2 (by omega) (by omega) (by omega)) ?_
  rintro ⟨hd, q7⟩ ⟨hq7, d0, _, d1⟩
  simp only at hq7 d0 d1 ⊢
  have d1 := d1 (by omega)
  refine Evs.bnd (pp_pick l h q7 2 (by omega) (by omega) (by omega)) ?_
  rintro ⟨ft, q8⟩ ⟨hq8, f0, _, f1⟩
  simp only at hq8 f0 f1 ⊢
  have f1 := f1 (by omega)
  exact Evs.pos ⟨d0, by omega, f0, by omega⟩ ((pp_tab_f _ _).imp fun r e => ⟨by omega, by omega⟩)
theorem pp_meets (a0 a1 a2 a3 a4 b0 b1 b2 b3 b4 : Int) : Evs (fun _ => spec_l3Meets.f a0 a1 a2 a3 a4 b0 b1 b2 b3 b4) (fun _ => True) := by
  unfold spec_l3Meets.f
  exact Evs.ite (fun _ => Evs.ite (fun _ => Evs.ite (fun _ => Evs.now trivial) (fun _ => Evs.now trivial)) (fun _ => Evs.now trivial)) (fun _ => Evs.now trivial)
theorem pp_free (ds : List S41) (hl : ds.length ≤ 1000000) (b0 b1 b2 b3 b4 : Int) : Evs (fun k => spec_l3Free.f k ds b0 b1 b2 b3 b4) (fun _ => True) := by
  unfold spec_l3Free.f
  have loop : ∀ (d i : Nat), ds.length - i = d → i ≤ ds.length → Evs (fun k => spec_l3Free.l0 k ds (i : Int) b0 b1 b2 b3 b4) (fun _ => True) := by
    intro d
    induction d with
    | zero =>
      intro i hd hi
      exact Evs.step (f := fun _ => some true) (fun k => by simp only [spec_l3Free.l0]; rw [if_neg (by omega)]) (Evs.now trivial)
    | succ d ih =>
      intro i hd hi
      have n := ih (i + 1) (by omega) (by omega)
      rw [show (((i + 1 : Nat)) : Int) = wrap64 ((i : Int) + 1) by rw [pp_wrap_id _ (by omega) (by omega)]; rfl] at n
      refine Evs.step (fun k => by simp only [spec_l3Free.l0]; rfl) ?_
      refine Evs.pos (by omega) (Evs.pos (by omega) ?_)
      refine Evs.bnd (pp_meets _ _ _ _ _ _ _ _ _ _) (fun b _ => ?_)
      exact Evs.ite (fun _ => Evs.now trivial) (fun _ => n)
  exact loop _ 0 rfl (by omega)
theorem pp_fit (ds : List S41) (hl : ds.length ≤ 1000000) : ∀ (n : Nat) (t : S41), Evs (fun k => spec_l3Of.fit k ds n t) (fun _ => True)
  | 0, t => Evs.cong (f := fun _ => some t) (fun _ => rfl) (Evs.now trivial)
  | n + 1, t => by
    unfold spec_l3Of.fit
    refine Evs.bnd (pp_free ds hl _ _ _ _ _) (fun b _ => ?_)
    exact Evs.ite (fun _ => Evs.now trivial) (fun _ => pp_fit ds hl n _)
theorem pp_max (a b : Int) : Evs (fun _ => spec_l1Max.f a b) (fun _ => True) := by
  unfold spec_l1Max.f
  exact Evs.ite (fun _ => Evs.now trivial) (fun _ => Evs.now trivial)
theorem pp_end (cs : List S68) (hd ft : Int) (rs : List S71) (gp i : Int) : Evs (fun _ => spec_l2End.f cs hd ft rs gp i) (fun _ => True) := by
  have : Evs (fun _ => spec_l2Part.f cs hd ft rs gp i) (fun _ => True) := by
    unfold spec_l2Part.f
    exact Evs.ite (fun _ => Evs.now trivial) (fun _ => Evs.ite (fun _ => Evs.now trivial) (fun _ => Evs.now trivial))
  unfold spec_l2End.f
  exact Evs.bnd this (fun _ _ => Evs.ite (fun _ => Evs.now trivial) (fun _ => Evs.ite (fun _ => Evs.now trivial) (fun _ => Evs.now trivial)))
theorem pp_of_c (cs : List S68) (hd ft : Int) (rs : List S71) (gp : Int) (r : List S75) (i : Nat) : ∀ (m j : Nat) (wd : Int) (ds : List S41), ds.length + m ≤ 1000 → Evs (fun k => spec_l3Of.cs k cs hd ft rs gp r i m j wd ds) (fun q => q.2.length = ds.length + m)
  | 0, j, wd, ds, h => Evs.cong (f := fun _ => some (wd, ds)) (fun _ => rfl) (Evs.now rfl)
  | m + 1, j, wd, ds, h => by
    unfold spec_l3Of.cs
    refine Evs.bnd (pp_end _ _ _ _ _ _) (fun e _ => ?_)
    refine Evs.bnd (pp_fit ds (by omega) _ _) (fun t _ => ?_)
    refine Evs.bnd (pp_max _ _) (fun w _ => ?_)
    refine Evs.pos (by omega) ((pp_of_c cs hd ft rs gp r i m (j + 1) w (ds ++ [t]) (by simp; omega)).imp fun q e => ?_)
    simp at e
    omega
theorem pp_of_r (cs : List S68) (hd ft : Int) (rs : List S71) (gp : Int) (hr : ∀ x ∈ rs, x.f0.length ≤ 5) : ∀ (n i : Nat) (wd : Int) (ds : List S41), i + n = rs.length → ds.length + 5 * n ≤ 1000 → Evs (fun k => spec_l3Of.rs k cs hd ft rs gp n i wd ds) (fun q => q.2.length ≤ ds.length + 5 * n)
  | 0, i, wd, ds, _, h => Evs.cong (f := fun _ => some (wd, ds)) (fun _ => rfl) (Evs.now (Nat.le_refl _))
  | n + 1, i, wd, ds, hi, h => by
    unfold spec_l3Of.rs
    have hir : rd_T71 rs (i : Int) = rs[i] := pp_getD rs i _ (by omega)
    have h5 := hr rs[i] (List.getElem_mem _)
    rw [hir]
    refine Evs.bnd (pp_of_c cs hd ft rs gp _ i _ 0 wd ds (by omega)) ?_
    rintro ⟨w, d2⟩ e
    simp only at e ⊢
    exact (pp_of_r cs hd ft rs gp hr n (i + 1) w d2 (by omega) (by omega)).imp fun q e2 => by omega
theorem pp_grdOf (cs : List S68) (hd ft : Int) (rs : List S71) (gp : Int) : Evs (fun k => spec_GrdOf.f k cs hd ft rs gp) (fun r => r.2.2.length ≤ 40) := by
  unfold spec_GrdOf.f
  refine Evs.bnd (pp_tblOk cs hd ft rs gp) (fun b hb => Evs.ite (fun ht => ?_) (fun _ => Evs.now (by simp)))
  obtain ⟨h8, h5⟩ := hb ht
  have : Evs (fun k => spec_l3Of.f k cs hd ft rs gp) (fun r => r.2.2.length ≤ 40) := by
    unfold spec_l3Of.f
    refine Evs.bnd (pp_max _ _) (fun w _ => ?_)
    refine Evs.bnd (pp_of_r cs hd ft rs gp h5 rs.length 0 w [] (by omega) (by simp; omega)) ?_
    rintro ⟨w2, d2⟩ e
    exact Evs.now (by show d2.length ≤ 40; simp at e; omega)
  refine Evs.bnd this ?_
  rintro ⟨a, b, c⟩ e
  exact Evs.now e
theorem pp_grid (l : List Int) (h : ppRd l) (p n : Int) (hp : 0 ≤ p) (hp' : p ≤ 100000000) (hn : n ≤ 1000000) : Evs (fun k => spec_l20Grid.f k l p n) (fun r => r.2.2.1.length ≤ 41 ∧ p ≤ r.2.2.2 ∧ r.2.2.2 ≤ p + 3000) := by
  unfold spec_l20Grid.f
  refine Evs.bnd (pp_table l h p hp (by omega)) ?_
  rintro ⟨t, q⟩ ⟨t0, t1⟩
  simp only at t0 t1 ⊢
  refine Evs.bnd (pp_grdOf _ _ _ _ _) ?_
  rintro ⟨rows, cols, cs⟩ hc
  simp only at hc ⊢
  refine Evs.bnd (pp_pick l h q n (by omega) (by omega) hn) ?_
  rintro ⟨c, q2⟩ ⟨hq2, _, _, _⟩
  simp only at hq2 ⊢
  refine Evs.ite (fun _ => Evs.now ⟨by simp only; omega, by simp only; omega, by simp only; omega⟩) (fun hne => ?_)
  refine Evs.bnd (pp_pick l h q2 (cs.length : Int) (by omega) (by omega) (by omega)) ?_
  rintro ⟨a, q3⟩ ⟨hq3, a0, _, a1⟩
  simp only at hq3 a0 a1 ⊢
  have a1 := a1 (by omega)
  refine Evs.pos ⟨a0, a1⟩ ?_
  refine Evs.bnd (pp_pick l h q3 6 (by omega) (by omega) (by omega)) ?_
  rintro ⟨sw, q4⟩ ⟨hq4, _, _, _⟩
  simp only at hq4 ⊢
  unfold spec_l20Grid.turn
  refine Evs.ite (fun _ => ?_) (fun _ => Evs.ite (fun _ => ?_) (fun _ => Evs.ite (fun _ => ?_) (fun _ => Evs.ite (fun _ => ?_) (fun _ => Evs.ite (fun _ => ?_) (fun _ => Evs.pos (by omega) (Evs.now ⟨by simp; omega, by simp only; omega, by simp only; omega⟩))))))
  · refine Evs.bnd (pp_pick l h q4 3 (by omega) (by omega) (by omega)) ?_
    rintro ⟨e, q5⟩ ⟨hq5, e0, _, e1⟩
    simp only at hq5 e0 e1 ⊢
    exact Evs.pos ⟨e0, e1 (by omega)⟩ (Evs.now ⟨by simp only; omega, by simp only; omega, by simp only; omega⟩)
  · refine Evs.bnd (pp_pick l h q4 3 (by omega) (by omega) (by omega)) ?_
    rintro ⟨e, q5⟩ ⟨hq5, e0, _, e1⟩
    simp only at hq5 e0 e1 ⊢
    exact Evs.pos ⟨e0, e1 (by omega)⟩ (Evs.now ⟨by simp only; omega, by simp only; omega, by simp only; omega⟩)
  · refine Evs.bnd (pp_pick l h q4 2 (by omega) (by omega) (by omega)) ?_
    rintro ⟨e, q5⟩ ⟨hq5, e0, _, e1⟩
    simp only at hq5 e0 e1 ⊢
    exact Evs.pos ⟨e0, e1 (by omega)⟩ (Evs.now ⟨by simp [pgSet]; omega, by simp only; omega, by simp only; omega⟩)
  · refine Evs.bnd (pp_pick l h q4 3 (by omega) (by omega) (by omega)) ?_
    rintro ⟨e, q5⟩ ⟨hq5, e0, _, e1⟩
    simp only at hq5 e0 e1 ⊢
    exact Evs.pos ⟨e0, e1 (by omega)⟩ (Evs.now ⟨by simp [pgSet]; omega, by simp only; omega, by simp only; omega⟩)
  · refine Evs.bnd (pp_pick l h q4 2 (by omega) (by omega) (by omega)) ?_
    rintro ⟨e, q5⟩ ⟨hq5, e0, _, e1⟩
    simp only at hq5 e0 e1 ⊢
    refine Evs.pos ⟨e0, e1 (by omega)⟩ ?_
    refine Evs.bnd (pp_pick l h q5 2 (by omega) (by omega) (by omega)) ?_
    rintro ⟨d, q6⟩ ⟨hq6, d0, _, d1⟩
    simp only at hq6 d0 d1 ⊢
    exact Evs.pos ⟨d0, d1 (by omega)⟩ (Evs.now ⟨by simp [pgSet]; omega, by simp only; omega, by simp only; omega⟩)

theorem pp_rdc {l : List S41} {i : Nat} (h : i < l.length) : rd_T41 l (i : Int) = l[i] := pp_getD l i _ h
/-- The cell lies in a grid of so many rows and columns. -/
def ppLies (a b : Int) (x : S41) : Prop := 0 ≤ x.f0 ∧ x.f0 ≤ a - 1 ∧ 0 ≤ x.f1 ∧ x.f1 ≤ b - 1 ∧ 1 ≤ x.f2 ∧ x.f2 ≤ a - x.f0 ∧ 1 ≤ x.f3 ∧ x.f3 ≤ b - x.f1 ∧ 0 ≤ x.f4 ∧ x.f4 ≤ 4
/-- Two cells share a slot. -/
def ppMeet (x y : S41) : Prop := x.f0 < y.f0 + y.f2 ∧ y.f0 < x.f0 + x.f2 ∧ x.f1 < y.f1 + y.f3 ∧ y.f1 < x.f1 + x.f3
/-- The grid is ok. -/
def ppGood (a b : Int) (l : List S41) : Prop := (1 ≤ a ∧ a ≤ 8) ∧ (1 ≤ b ∧ b ≤ 94) ∧ l.length ≤ 40 ∧ (∀ x ∈ l, ppLies a b x) ∧ l.Pairwise (fun x y => ¬ ppMeet x y)
theorem ppMeet_comm (x y : S41) : ppMeet x y ↔ ppMeet y x := by unfold ppMeet; omega
theorem pp_meetS (a b : Int) (x y : S41) (ha : 1 ≤ a ∧ a ≤ 8) (hb : 1 ≤ b ∧ b ≤ 94) (hx : ppLies a b x) (hy : ppLies a b y) : ∃ r, spec_l3Meets.f x.f0 x.f1 x.f2 x.f3 x.f4 y.f0 y.f1 y.f2 y.f3 y.f4 = some r ∧ (r = true ↔ ppMeet x y) := by
  unfold ppLies at hx hy
  unfold spec_l3Meets.f ppMeet
  rw [pp_wrap_id (y.f0 + y.f2) (by omega) (by omega), pp_wrap_id (x.f0 + x.f2) (by omega) (by omega), pp_wrap_id (y.f1 + y.f3) (by omega) (by omega), pp_wrap_id (x.f1 + x.f3) (by omega) (by omega)]
  split
  · split
    · split
      · exact ⟨_, rfl, by simp; omega⟩
      · exact ⟨_, rfl, by simp; omega⟩
    · exact ⟨_, rfl, by simp; omega⟩
  · exact ⟨_, rfl, by simp; omega⟩
theorem pp_meetI (a b : Int) (x y : S41) (ha : 1 ≤ a ∧ a ≤ 8) (hb : 1 ≤ b ∧ b ≤ 94) (hx : ppLies a b x) (hy : ppLies a b y) : ppMeetB x y = true ↔ ppMeet x y := by
  unfold ppLies at hx hy
  unfold ppMeetB impl_GrdCell_meets.f ppMeet
  rw [pp_wrap_id (y.f0 + y.f2) (by omega) (by omega), pp_wrap_id (x.f0 + x.f2) (by omega) (by omega), pp_wrap_id (y.f1 + y.f3) (by omega) (by omega), pp_wrap_id (x.f1 + x.f3) (by omega) (by omega)]
  split
  · split
    · split
      · simp; omega
      · simp; omega
    · simp; omega
  · simp; omega
/-- Cells of l up to i: they lie in the grid, none meets one ahead of it. -/
def ppTo (a b : Int) (l : List S41) (i : Nat) : Prop := (∀ x ∈ l.take i, ppLies a b x) ∧ (l.take i).Pairwise (fun x y => ¬ ppMeet x y)
theorem ppTo_succ (a b : Int) (l : List S41) (i : Nat) (h : i < l.length) : ppTo a b l (i + 1) ↔ ppTo a b l i ∧ ppLies a b l[i] ∧ ∀ y ∈ l.take i, ¬ ppMeet y l[i] := by
  unfold ppTo
  rw [List.take_succ_eq_append_getElem h, List.pairwise_append]
  simp only [List.mem_append, List.mem_singleton, List.pairwise_singleton, true_and]
  constructor
  · rintro ⟨h1, h2, h3⟩
    exact ⟨⟨fun x hx => h1 x (.inl hx), h2⟩, h1 _ (.inr rfl), fun y hy => h3 y hy _ rfl⟩
  · rintro ⟨⟨h1, h2⟩, h3, h4⟩
    exact ⟨fun x hx => by rcases hx with hx | rfl; exact h1 x hx; exact h3, h2, fun y hy z hz => by subst hz; exact h4 y hy⟩
theorem ppTo_mono (a b : Int) (l : List S41) {i j : Nat} (h : i ≤ j) (hj : ppTo a b l j) : ppTo a b l i := by
  have e : l.take i = (l.take j).take i := by rw [List.take_take, Nat.min_eq_left h]
  unfold ppTo
  rw [e]
  exact ⟨fun x hx => hj.1 x (List.mem_of_mem_take hx), hj.2.sublist (List.take_sublist _ _)⟩
theorem ppTo_all (a b : Int) (l : List S41) : ppTo a b l l.length ↔ (∀ x ∈ l, ppLies a b x) ∧ l.Pairwise (fun x y => ¬ ppMeet x y) := by unfold ppTo; rw [List.take_length]
theorem pp_inE (x c d : Int) : spec_l1In.f x c d = some (decide (c ≤ x ∧ x ≤ d)) := by
  unfold spec_l1In.f
  split
  · congr 1; rw [Bool.eq_iff_iff]; simp; omega
  · congr 1; rw [Bool.eq_iff_iff]; simp; omega
theorem pp_inI (x c d : Int) : impl_in.f x c d = some (decide (c ≤ x ∧ x ≤ d)) := by
  unfold impl_in.f
  split
  · congr 1; rw [Bool.eq_iff_iff]; simp; omega
  · congr 1; rw [Bool.eq_iff_iff]; simp; omega
theorem pp_freeE (a b : Int) (x : S41) (ha : 1 ≤ a ∧ a ≤ 8) (hb : 1 ≤ b ∧ b ≤ 94) (hx : ppLies a b x) (l : List S41) (hl : l.length ≤ 1000) (h : ∀ y ∈ l, ppLies a b y) :
    Evs (fun k => spec_l3Free.f k l x.f0 x.f1 x.f2 x.f3 x.f4) (fun r => r = true ↔ ∀ y ∈ l, ¬ ppMeet y x) := by
  unfold spec_l3Free.f
  have loop : ∀ (d i : Nat), l.length - i = d → i ≤ l.length → (∀ j (hj : j < l.length), j < i → ¬ ppMeet l[j] x) → Evs (fun k => spec_l3Free.l0 k l (i : Int) x.f0 x.f1 x.f2 x.f3 x.f4) (fun r => r = true ↔ ∀ y ∈ l, ¬ ppMeet y x) := by
    intro d
    induction d with
    | zero =>
      intro i hd hi hI
      refine Evs.step (f := fun _ => some true) (fun k => by simp only [spec_l3Free.l0]; rw [if_neg (by omega)]) (Evs.now ⟨fun _ y hy => ?_, fun _ => rfl⟩)
      obtain ⟨j, hj, rfl⟩ := List.getElem_of_mem hy
      exact hI j hj (by omega)
    | succ d ih =>
      intro i hd hi hI
      have hil : i < l.length := by omega
      obtain ⟨r, hr, hm⟩ := pp_meetS a b l[i] x ha hb (h _ (List.getElem_mem _)) hx
      refine Evs.step (f := fun k => if r = true then some false else spec_l3Free.l0 k l (((i + 1 : Nat)) : Int) x.f0 x.f1 x.f2 x.f3 x.f4) (fun k => by
        simp only [spec_l3Free.l0]
        rw [if_pos (by omega), if_pos (by omega), pp_rdc hil, hr, pp_wrap_id _ (by omega) (by omega)]
        rfl) ?_
      refine Evs.ite (fun ht => Evs.now ⟨fun h => (by cases h), fun hall => absurd (hm.1 ht) (hall _ (List.getElem_mem _))⟩) (fun ht => ?_)
      refine ih (i + 1) (by omega) (by omega) (fun j hj hji => ?_)
      by_cases e : j = i
      · subst e; exact fun q => ht (hm.2 q)
      · exact hI j hj (by omega)
  exact loop _ 0 rfl (by omega) (fun j _ h => absurd h (Nat.not_lt_zero _))
theorem pp_cells (a b : Int) (x : S41) (ha : 1 ≤ a ∧ a ≤ 8) (hb : 1 ≤ b ∧ b ≤ 94) (hx : ppLies a b x) (l : List S41) (h : ∀ y ∈ l, ppLies a b y) (k : Nat) :
    ∃ r, impl_ccells.f k l x.f0 x.f1 x.f2 x.f3 x.f4 = some r ∧ (r = false ↔ ∀ y ∈ l, ¬ ppMeet y x) := by
  refine ⟨_, rfl, ?_⟩
  by_cases hall : ∀ y ∈ l, ¬ ppMeet y x
  · rw [ppIdx_miss _ _ (fun j hj => by
      have := hall l[j] (List.getElem_mem _)
      rw [ppMeet_comm] at this
      rw [← Bool.not_eq_true]
      exact fun q => this ((pp_meetI a b ⟨x.f0, x.f1, x.f2, x.f3, x.f4⟩ l[j] ha hb hx (h _ (List.getElem_mem _))).1 q))]
    simpa using hall
  · have : ∃ j, ∃ hj : j < l.length, ppMeetB ⟨x.f0, x.f1, x.f2, x.f3, x.f4⟩ l[j] = true := by
      simp only [Classical.not_forall, Classical.not_not] at hall
      obtain ⟨y, hy, hm⟩ := hall
      obtain ⟨j, hj, rfl⟩ := List.getElem_of_mem hy
      exact ⟨j, hj, (pp_meetI a b ⟨x.f0, x.f1, x.f2, x.f3, x.f4⟩ l[j] ha hb hx (h _ (List.getElem_mem _))).2 ((ppMeet_comm _ _).1 hm)⟩
    have hp : 0 ≤ ppIdx (fun y => ppMeetB ⟨x.f0, x.f1, x.f2, x.f3, x.f4⟩ y) l := by
      unfold ppIdx
      cases e : l.findIdx? (fun y => ppMeetB ⟨x.f0, x.f1, x.f2, x.f3, x.f4⟩ y) with
      | some i => exact Int.natCast_nonneg _
      | none =>
        rw [List.findIdx?_eq_none_iff] at e
        obtain ⟨j, hj, hm⟩ := this
        rw [e _ (List.getElem_mem hj)] at hm
        cases hm
    rw [decide_eq_true hp]
    exact ⟨fun h => (by cases h), fun q => absurd q hall⟩
theorem pp_specOk (a b : Int) (l : List S41) : Evs (fun k => spec_GrdOk.f k a b l) (fun r => r = true ↔ ppGood a b l) := by
  unfold spec_GrdOk.f
  have F : ∀ b', b' = true → ¬ ppGood a b l → Evs (fun k => spec_GrdOk.j0 k b' a b l) (fun r => r = true ↔ ppGood a b l) := by
    intro b' hb' hn
    subst hb'
    exact Evs.step (f := fun _ => some false) (fun k => by simp only [spec_GrdOk.j0]; rfl) (Evs.now ⟨fun h => (by cases h), fun h => absurd h hn⟩)
  rw [pp_inE, pp_inE]
  simp only [Option.bind_some]
  refine Evs.ite (fun ha => Evs.ite (fun hb => ?_) (fun hb => F _ rfl (fun g => hb (decide_eq_true g.2.1)))) (fun ha => F _ rfl (fun g => ha (decide_eq_true g.1)))
  have ha := of_decide_eq_true ha
  have hb := of_decide_eq_true hb
  by_cases hl : l.length ≤ 40
  · rw [decide_eq_false (by omega)]
    refine Evs.step (f := fun k => spec_GrdOk.l0 k ((0 : Nat) : Int) a b l) (fun k => by simp only [spec_GrdOk.j0]; rfl) ?_
    have out : ∀ i, i < l.length → ¬ ppTo a b l (i + 1) → Evs (fun _ => some false) (fun r => r = true ↔ ppGood a b l) := fun i hi hn => Evs.now ⟨fun h => (by cases h), fun g => absurd (ppTo_mono a b l (by omega) ((ppTo_all a b l).2 g.2.2.2)) hn⟩
    have loop : ∀ (d i : Nat), l.length - i = d → i ≤ l.length → ppTo a b l i → Evs (fun k => spec_GrdOk.l0 k (i : Int) a b l) (fun r => r = true ↔ ppGood a b l) := by
      intro d
      induction d with
      | zero =>
        intro i hd hi hI
        obtain rfl : i = l.length := by omega
        exact Evs.step (f := fun _ => some true) (fun k => by simp only [spec_GrdOk.l0]; rw [if_neg (by omega)]) (Evs.now ⟨fun _ => ⟨ha, hb, hl, (ppTo_all a b l).1 hI⟩, fun _ => rfl⟩)
      | succ d ih =>
        intro i hd hi hI
        have hil : i < l.length := by omega
        have O := out i hil
        rw [ppTo_succ a b l i hil] at O
        refine Evs.step (fun k => by simp only [spec_GrdOk.l0]; rw [if_pos (by omega), if_pos (by omega), pp_rdc hil, pp_inE, pp_inE, pp_inE, pp_inE, pp_inE]) ?_
        simp only [Option.bind_some]
        rw [pp_wrap_id (a - 1) (by omega) (by omega), pp_wrap_id (b - 1) (by omega) (by omega)]
        refine Evs.ite (fun h0 => ?_) (fun h0 => O (fun q => h0 (decide_eq_true ⟨q.2.1.1, q.2.1.2.1⟩)))
        have h0 := of_decide_eq_true h0
        refine Evs.ite (fun h1 => ?_) (fun h1 => O (fun q => h1 (decide_eq_true ⟨q.2.1.2.2.1, q.2.1.2.2.2.1⟩)))
        have h1 := of_decide_eq_true h1
        rw [pp_wrap_id (a - l[i].f0) (by omega) (by omega), pp_wrap_id (b - l[i].f1) (by omega) (by omega)]
        refine Evs.ite (fun h2 => ?_) (fun h2 => O (fun q => h2 (decide_eq_true ⟨q.2.1.2.2.2.2.1, q.2.1.2.2.2.2.2.1⟩)))
        have h2 := of_decide_eq_true h2
        refine Evs.ite (fun h3 => ?_) (fun h3 => O (fun q => h3 (decide_eq_true ⟨q.2.1.2.2.2.2.2.2.1, q.2.1.2.2.2.2.2.2.2.1⟩)))
        have h3 := of_decide_eq_true h3
        refine Evs.ite (fun h4 => ?_) (fun h4 => O (fun q => h4 (decide_eq_true ⟨q.2.1.2.2.2.2.2.2.2.2.1, q.2.1.2.2.2.2.2.2.2.2.2⟩)))
        have h4 := of_decide_eq_true h4
        have hx : ppLies a b l[i] := ⟨h0.1, h0.2, h1.1, h1.2, h2.1, h2.2, h3.1, h3.2, h4.1, h4.2⟩
        refine Evs.pos (by omega) ?_
        rw [Int.toNat_natCast]
        refine Evs.bnd (pp_freeE a b l[i] ha hb hx (l.take i) (by simp; omega) hI.1) (fun r hr => ?_)
        refine Evs.ite (fun ht => ?_) (fun ht => O (fun q => ht (hr.2 q.2.2)))
        rw [pp_wrap_id _ (by omega) (by omega)]
        exact ih (i + 1) (by omega) (by omega) ((ppTo_succ a b l i hil).2 ⟨hI, hx, hr.1 ht⟩)
    exact loop _ 0 rfl (by omega) ⟨by simp, by simp⟩
  · exact F _ (decide_eq_true (by omega)) (fun g => hl g.2.2.1)
theorem pp_implOk (a b : Int) (l : List S41) : Evs (fun k => impl_GrdOk.f k a b l) (fun r => r = true ↔ ppGood a b l) := by
  unfold impl_GrdOk.f
  have F : ∀ b', b' = true → ¬ ppGood a b l → Evs (fun k => impl_GrdOk.j0 k b' a b l) (fun r => r = true ↔ ppGood a b l) := by
    intro b' hb' hn
    subst hb'
    exact Evs.step (f := fun _ => some false) (fun k => by simp only [impl_GrdOk.j0]; rfl) (Evs.now ⟨fun h => (by cases h), fun h => absurd h hn⟩)
  rw [pp_inI, pp_inI]
  simp only [Option.bind_some]
  refine Evs.ite (fun ha => Evs.ite (fun hb => ?_) (fun hb => F _ rfl (fun g => hb (decide_eq_true g.2.1)))) (fun ha => F _ rfl (fun g => ha (decide_eq_true g.1)))
  have ha := of_decide_eq_true ha
  have hb := of_decide_eq_true hb
  by_cases hl : l.length ≤ 40
  · rw [decide_eq_false (by omega)]
    refine Evs.step (f := fun k => impl_GrdOk.l0 k l (l.length : Int) ((0 : Nat) : Int) a b l) (fun k => by simp only [impl_GrdOk.j0]; rfl) ?_
    have loop : ∀ (d i : Nat), l.length - i = d → i ≤ l.length → ppTo a b l i → Evs (fun k => impl_GrdOk.l0 k l (l.length : Int) (i : Int) a b l) (fun r => r = true ↔ ppGood a b l) := by
      intro d
      induction d with
      | zero =>
        intro i hd hi hI
        obtain rfl : i = l.length := by omega
        exact Evs.step (f := fun _ => some true) (fun k => by simp only [impl_GrdOk.l0]; rw [if_neg (by omega)]) (Evs.now ⟨fun _ => ⟨ha, hb, hl, (ppTo_all a b l).1 hI⟩, fun _ => rfl⟩)
      | succ d ih =>
        intro i hd hi hI
        have hil : i < l.length := by omega
        have hg : ¬ ppTo a b l (i + 1) → ¬ ppGood a b l := fun hn g => absurd (ppTo_mono a b l (by omega) ((ppTo_all a b l).2 g.2.2.2)) hn
        rw [ppTo_succ a b l i hil] at hg
        have O : ∀ b', b' = true → ¬ ppGood a b l → Evs (fun k => impl_GrdOk.j2 k (i : Int) l (l.length : Int) (i : Int) b' a b l l[i].f0 l[i].f1 l[i].f2 l[i].f3 l[i].f4) (fun r => r = true ↔ ppGood a b l) := by
          intro b' hb' hn
          subst hb'
          exact Evs.step (f := fun _ => some false) (fun k => by simp only [impl_GrdOk.j2]; rfl) (Evs.now ⟨fun h => (by cases h), fun h => absurd h hn⟩)
        refine Evs.step (fun k => by simp only [impl_GrdOk.l0]; rw [if_pos (by omega), if_pos (by omega), if_pos (by omega), pp_rdc hil, pp_inI, pp_inI, pp_inI, pp_inI]) ?_
        simp only [Option.bind_some]
        rw [pp_wrap_id (a - 1) (by omega) (by omega), pp_wrap_id (b - 1) (by omega) (by omega)]
        refine Evs.ite (fun h0 => ?_) (fun h0 => O _ rfl (hg (fun q => h0 (decide_eq_true ⟨q.2.1.1, q.2.1.2.1⟩))))
        have h0 := of_decide_eq_true h0
        rw [pp_wrap_id (a - l[i].f0) (by omega) (by omega)]
        refine Evs.ite (fun h2 => ?_) (fun h2 => O _ rfl (hg (fun q => h2 (decide_eq_true ⟨q.2.1.2.2.2.2.1, q.2.1.2.2.2.2.2.1⟩))))
        have h2 := of_decide_eq_true h2
        refine Evs.ite (fun h1 => ?_) (fun h1 => O _ rfl (hg (fun q => h1 (decide_eq_true ⟨q.2.1.2.2.1, q.2.1.2.2.2.1⟩))))
        have h1 := of_decide_eq_true h1
        rw [pp_wrap_id (b - l[i].f1) (by omega) (by omega)]
        by_cases h3 : 1 ≤ l[i].f3 ∧ l[i].f3 ≤ b - l[i].f1
        · rw [decide_eq_true h3]
          refine Evs.step (fun k => by simp only [impl_GrdOk.j2]; rw [pp_inI]) ?_
          simp only [Option.bind_some]
          refine Evs.neg (by decide) ?_
          refine Evs.ite (fun h4 => ?_) (fun h4 => Evs.now ⟨fun h => (by cases h), fun g => absurd g (hg (fun q => h4 (decide_eq_true ⟨q.2.1.2.2.2.2.2.2.2.2.1, q.2.1.2.2.2.2.2.2.2.2.2⟩)))⟩)
          have h4 := of_decide_eq_true h4
          have hx : ppLies a b l[i] := ⟨h0.1, h0.2, h1.1, h1.2, h2.1, h2.2, h3.1, h3.2, h4.1, h4.2⟩
          refine Evs.pos (by omega) (Evs.pos (by omega) ?_)
          rw [Int.toNat_natCast]
          obtain ⟨r, hr, hm⟩ := pp_cells a b l[i] ha hb hx (l.take i) hI.1 0
          have hr' : ∀ k, impl_ccells.f k (l.take i) l[i].f0 l[i].f1 l[i].f2 l[i].f3 l[i].f4 = some r := fun _ => hr
          refine Evs.cong (fun k => by rw [hr']) ?_
          simp only [Option.bind_some]
          cases r with
          | true => exact Evs.pos rfl (Evs.now ⟨fun h => (by cases h), fun g => absurd g (hg (fun q => by have := hm.2 q.2.2; cases this))⟩)
          | false =>
            refine Evs.neg (by decide) ?_
            rw [pp_wrap_id _ (by omega) (by omega)]
            exact ih (i + 1) (by omega) (by omega) ((ppTo_succ a b l i hil).2 ⟨hI, hx, hm.1 rfl⟩)
        · rw [decide_eq_false h3]
          exact O _ rfl (hg (fun q => h3 ⟨q.2.1.2.2.2.2.2.2.1, q.2.1.2.2.2.2.2.2.2.1⟩))
    exact loop _ 0 rfl (by omega) ⟨by simp, by simp⟩
  · exact F _ (decide_eq_true (by omega)) (fun g => hl g.2.2.1)

/-- Whether a number is one of so many from another one on. -/
def ppAmong (n f m : Int) : Bool := decide (f ≤ n) && (decide (0 < m) && decide (n - f < m))
theorem pp_implAmong (n f m : Int) (hn : (Lit.int .i64 n).wf = true) (hf : (Lit.int .i64 f).wf = true) (hm : (Lit.int .i64 m).wf = true) : impl_among.f n f m = some (ppAmong n f m) := by
  have := pp_wf n hn
  have := pp_wf f hf
  have := pp_wf m hm
  unfold impl_among.f ppAmong
  by_cases h0 : n ≥ f
  · by_cases h1 : m > 0
    · rw [if_pos h0, if_pos h1]
      simp only [IntKind.wrap_u64, Option.some.injEq]
      rw [Bool.eq_iff_iff]
      simp
      omega
    · rw [if_pos h0, if_neg h1]
      simp
      omega
  · rw [if_neg h0]
    simp
    omega
theorem pp_specAmong (n f m : Int) (hn : (Lit.int .i64 n).wf = true) (hf : (Lit.int .i64 f).wf = true) (hm : (Lit.int .i64 m).wf = true) (k : Nat) (hk : 0 < k) : spec_l1Among.f k n f m = some (ppAmong n f m) := by
  have := pp_wf n hn
  have := pp_wf f hf
  have := pp_wf m hm
  obtain ⟨k, rfl⟩ : ∃ q, k = q + 1 := ⟨k - 1, by omega⟩
  unfold spec_l1Among.f ppAmong
  simp only [spec_l1Among.j0]
  by_cases h0 : n < f
  · rw [if_pos h0]
    simp
    omega
  · rw [if_neg h0]
    by_cases h1 : m ≤ 0
    · rw [if_pos (by simpa using h1)]
      simp
      omega
    · rw [if_neg (by simpa using h1)]
      by_cases h2 : f < 0
      · rw [if_pos h2]
        by_cases h3 : n ≥ 0
        · rw [if_pos h3, pp_wrap_id _ (by omega) (by omega)]
          simp only [Option.some.injEq]
          rw [Bool.eq_iff_iff]
          simp
          omega
        · rw [if_neg h3, pp_wrap_id _ (by omega) (by omega)]
          simp only [Option.some.injEq]
          rw [Bool.eq_iff_iff]
          simp
          omega
      · rw [if_neg h2, pp_wrap_id _ (by omega) (by omega)]
        simp only [Option.some.injEq]
        rw [Bool.eq_iff_iff]
        simp
        omega

/-- f 0 + .. + f (n - 1). -/
def ppSum (f : Nat → Int) : Nat → Int
  | 0 => 0
  | n + 1 => ppSum f n + f n
/-- The sum of g over a list. -/
def ppTot {α : Type} (g : α → Int) : List α → Int
  | [] => 0
  | x :: xs => g x + ppTot g xs
theorem ppSum_congr (f g : Nat → Int) (n : Nat) (h : ∀ i, i < n → f i = g i) : ppSum f n = ppSum g n := by
  induction n with
  | zero => rfl
  | succ n ih => simp only [ppSum]; rw [ih (fun i hi => h i (by omega)), h n (by omega)]
theorem ppSum_sub (f g : Nat → Int) (n : Nat) : ppSum (fun i => f i - g i) n = ppSum f n - ppSum g n := by
  induction n with
  | zero => rfl
  | succ n ih => simp only [ppSum]; omega
theorem ppSum_const (c : Int) (n : Nat) : ppSum (fun _ => c) n = c * n := by
  induction n with
  | zero => simp [ppSum]
  | succ n ih => simp only [ppSum]; rw [ih, show ((n + 1 : Nat) : Int) = (n : Int) + 1 by omega, Int.mul_add, Int.mul_one]
theorem ppSum_add (f g : Nat → Int) (n : Nat) : ppSum (fun i => f i + g i) n = ppSum f n + ppSum g n := by
  induction n with
  | zero => rfl
  | succ n ih => simp only [ppSum]; omega
theorem ppSum_tot {α : Type} (h : α → Nat → Int) (n : Nat) (l : List α) : ppSum (fun i => ppTot (fun x => h x i) l) n = ppTot (fun x => ppSum (h x) n) l := by
  induction l with
  | nil => simp only [ppTot]; rw [ppSum_const]; simp
  | cons x xs ih => simp only [ppTot]; rw [ppSum_add, ih]
theorem ppTot_congr {α : Type} (f g : α → Int) (l : List α) (h : ∀ x ∈ l, f x = g x) : ppTot f l = ppTot g l := by
  induction l with
  | nil => rfl
  | cons x xs ih => simp only [ppTot]; rw [ih (fun y hy => h y (List.mem_cons_of_mem _ hy)), h x List.mem_cons_self]
/-- c times how many of 0 .. n - 1 lie in s .. s + m - 1. -/
theorem ppSum_ind (c s m : Int) (hs : 0 ≤ s) (hm : 0 ≤ m) (n : Nat) : ppSum (fun i => if s ≤ (i : Int) ∧ (i : Int) < s + m then c else 0) n = c * (if (n : Int) ≤ s then 0 else if (n : Int) ≤ s + m then (n : Int) - s else m) := by
  induction n with
  | zero => simp only [ppSum]; rw [if_pos (show ((0 : Nat) : Int) ≤ s by omega)]; simp
  | succ n ih =>
    simp only [ppSum]
    rw [ih]
    by_cases h1 : ((n : Int) < s)
    · rw [if_pos (by omega), if_neg (by omega), if_pos (by omega)]; simp
    · by_cases h2 : (n : Int) < s + m
      · rw [if_pos (by omega : s ≤ (n : Int) ∧ (n : Int) < s + m), if_neg (by omega : ¬ ((n + 1 : Nat) : Int) ≤ s), if_pos (by omega : ((n + 1 : Nat) : Int) ≤ s + m)]
        by_cases h3 : (n : Int) ≤ s
        · rw [if_pos h3]
          have : (n : Int) = s := by omega
          rw [show ((n + 1 : Nat) : Int) - s = 1 by omega]
          simp
        · rw [if_neg h3, if_pos (by omega), show ((n + 1 : Nat) : Int) - s = ((n : Int) - s) + 1 by omega, Int.mul_add, Int.mul_one]
      · rw [if_neg (by omega : ¬ (s ≤ (n : Int) ∧ (n : Int) < s + m)), if_neg (by omega : ¬ ((n + 1 : Nat) : Int) ≤ s), if_neg (by omega : ¬ ((n + 1 : Nat) : Int) ≤ s + m)]
        by_cases h3 : (n : Int) ≤ s
        · rw [if_pos h3]
          have : m = 0 := by omega
          subst this
          simp
        · by_cases h4 : (n : Int) ≤ s + m
          · rw [if_neg h3, if_pos h4]
            have : (n : Int) - s = m := by omega
            rw [this]
            omega
          · rw [if_neg h3, if_neg h4]
            omega
/-- Whether a cell has a slot. -/
def ppHas (x : S41) (i j : Int) : Prop := (x.f0 ≤ i ∧ i < x.f0 + x.f2) ∧ (x.f1 ≤ j ∧ j < x.f1 + x.f3)
instance (x : S41) (i j : Int) : Decidable (ppHas x i j) := inferInstanceAs (Decidable (_ ∧ _))
/-- The slots that a cell has, counted. -/
theorem pp_area (a b : Nat) (x : S41) (h : ppLies a b x) : ppSum (fun i => ppSum (fun j => if ppHas x i j then 1 else 0) b) a = x.f2 * x.f3 := by
  obtain ⟨h0, h1, h2, h3, h4, h5, h6, h7, _, _⟩ := h
  have row : ∀ i : Nat, ppSum (fun j => if ppHas x i j then 1 else 0) b = if x.f0 ≤ (i : Int) ∧ (i : Int) < x.f0 + x.f2 then x.f3 else 0 := by
    intro i
    by_cases hr : x.f0 ≤ (i : Int) ∧ (i : Int) < x.f0 + x.f2
    · have e : ppSum (fun j => if ppHas x i j then 1 else 0) b = ppSum (fun j => if x.f1 ≤ (j : Int) ∧ (j : Int) < x.f1 + x.f3 then 1 else 0) b := ppSum_congr _ _ b (fun j _ => by
        by_cases q : x.f1 ≤ (j : Int) ∧ (j : Int) < x.f1 + x.f3
        · rw [if_pos q, if_pos ⟨hr, q⟩]
        · rw [if_neg q, if_neg (fun z => q z.2)])
      have e2 : (if (b : Int) ≤ x.f1 then 0 else if (b : Int) ≤ x.f1 + x.f3 then (b : Int) - x.f1 else x.f3) = x.f3 := by
        rw [if_neg (by omega)]
        split <;> omega
      rw [if_pos hr, e, ppSum_ind 1 x.f1 x.f3 h2 (by omega), e2, Int.one_mul]
    · rw [if_neg hr, ppSum_congr _ (fun _ => 0) b (fun j _ => if_neg (fun q => hr q.1)), ppSum_const]
      simp
  rw [ppSum_congr _ _ a (fun i _ => row i), ppSum_ind x.f3 x.f0 x.f2 h0 (by omega)]
  have : (if (a : Int) ≤ x.f0 then 0 else if (a : Int) ≤ x.f0 + x.f2 then (a : Int) - x.f0 else x.f2) = x.f2 := by
    rw [if_neg (by omega)]
    split <;> omega
  rw [this, Int.mul_comm]
/-- Of cells that do not meet at most one has a slot. -/
theorem pp_once (l : List S41) (h : l.Pairwise (fun x y => ¬ ppMeet x y)) (i j : Int) : ppTot (fun x => if ppHas x i j then 1 else 0) l = if ∃ x ∈ l, ppHas x i j then 1 else 0 := by
  induction l with
  | nil => simp [ppTot]
  | cons x xs ih =>
    rw [List.pairwise_cons] at h
    simp only [ppTot]
    rw [ih h.2]
    by_cases hx : ppHas x i j
    · have hn : ¬ ∃ y ∈ xs, ppHas y i j := by
        rintro ⟨y, hy, hp⟩
        refine h.1 y hy ?_
        unfold ppHas at hx hp
        unfold ppMeet
        omega
      rw [if_pos hx, if_neg hn, if_pos ⟨x, List.mem_cons_self, hx⟩]
      rfl
    · rw [if_neg hx]
      by_cases he : ∃ y ∈ xs, ppHas y i j
      · obtain ⟨y, hy, hp⟩ := he
        rw [if_pos ⟨y, hy, hp⟩, if_pos ⟨y, List.mem_cons_of_mem _ hy, hp⟩]
        rfl
      · rw [if_neg he, if_neg (by
          rintro ⟨y, hy, hp⟩
          rcases List.mem_cons.1 hy with rfl | hy
          · exact hx hp
          · exact he ⟨y, hy, hp⟩)]
        rfl
/-- How many slots are empty. -/
theorem pp_count (a b : Nat) (l : List S41) (hl : ∀ x ∈ l, ppLies a b x) (h : l.Pairwise (fun x y => ¬ ppMeet x y)) :
    ppSum (fun i => ppSum (fun j => if ∃ x ∈ l, ppHas x i j then 0 else 1) b) a = (a : Int) * b - ppTot (fun x => x.f2 * x.f3) l := by
  have e : ∀ i j : Nat, (if ∃ x ∈ l, ppHas x i j then (0 : Int) else 1) = 1 - ppTot (fun x => if ppHas x i j then 1 else 0) l := by
    intro i j
    rw [pp_once l h]
    split <;> rfl
  have e2 : ppSum (fun i => ppSum (fun j => if ∃ x ∈ l, ppHas x i j then 0 else 1) b) a = ppSum (fun i => (b : Int) - ppTot (fun x => ppSum (fun j => if ppHas x i j then 1 else 0) b) l) a := by
    refine ppSum_congr _ _ a (fun i _ => ?_)
    rw [ppSum_congr _ _ b (fun j _ => e i j), ppSum_sub, ppSum_const, ppSum_tot (fun x (j : Nat) => if ppHas x i j then 1 else 0)]
    omega
  rw [e2, ppSum_sub, ppSum_const, ppSum_tot (fun x (i : Nat) => ppSum (fun j => if ppHas x i j then 1 else 0) b), Int.mul_comm]
  congr 1
  exact ppTot_congr _ _ l (fun x hx => pp_area a b x (hl x hx))
theorem pp_wfiC (a b : Int) (x : S41) (ha : 1 ≤ a ∧ a ≤ 8) (hb : 1 ≤ b ∧ b ≤ 94) (h : ppLies a b x) (i j : Int) (hi : -1 ≤ i ∧ i ≤ 100) (hj : -1 ≤ j ∧ j ≤ 100) : ppHasB x i j = true ↔ ppHas x i j := by
  obtain ⟨h0, h1, h2, h3, h4, h5, h6, h7, _, _⟩ := h
  unfold ppHasB impl_GrdCell_has.f ppHas
  rw [pp_implAmong i x.f0 x.f2 (pp_wfi _ (by omega) (by omega)) (pp_wfi _ (by omega) (by omega)) (pp_wfi _ (by omega) (by omega)), pp_implAmong j x.f1 x.f3 (pp_wfi _ (by omega) (by omega)) (pp_wfi _ (by omega) (by omega)) (pp_wfi _ (by omega) (by omega))]
  simp only [Option.bind_some]
  unfold ppAmong
  by_cases q : (x.f0 ≤ i ∧ i < x.f0 + x.f2)
  · rw [if_pos (by simp; omega)]
    simp
    omega
  · rw [if_neg (by simp; omega)]
    simp
    intro q1 q2
    omega
theorem pp_atE (a b : Int) (l : List S41) (ha : 1 ≤ a ∧ a ≤ 8) (hb : 1 ≤ b ∧ b ≤ 94) (hl : ∀ x ∈ l, ppLies a b x) (i j : Int) (hi : -1 ≤ i ∧ i ≤ 100) (hj : -1 ≤ j ∧ j ≤ 100) (k : Nat) (c d : Int) :
    ∃ r, impl_GrdAt.f k c d l i j = some r ∧ ((∃ x ∈ l, ppHas x i j) → 0 ≤ r) ∧ ((¬ ∃ x ∈ l, ppHas x i j) → r = -1) := by
  refine ⟨_, rfl, fun h => ?_, fun h => ?_⟩
  · unfold ppIdx
    cases e : l.findIdx? (fun x => ppHasB x i j) with
    | some n => exact Int.natCast_nonneg _
    | none =>
      rw [List.findIdx?_eq_none_iff] at e
      obtain ⟨x, hx, hp⟩ := h
      have := e x hx
      rw [(pp_wfiC a b x ha hb (hl x hx) i j hi hj).2 hp] at this
      cases this
  · refine ppIdx_miss _ _ (fun n hn => ?_)
    rw [← Bool.not_eq_true]
    exact fun q => h ⟨l[n], List.getElem_mem _, (pp_wfiC a b _ ha hb (hl _ (List.getElem_mem _)) i j hi hj).1 q⟩

theorem pp_prod (x y m n : Int) (hx : 0 ≤ x) (hx' : x ≤ m) (hy : 0 ≤ y) (hy' : y ≤ n) : 0 ≤ x * y ∧ x * y ≤ m * n := ⟨Int.mul_nonneg hx hy, Int.mul_le_mul hx' hy' hy (by omega)⟩
theorem pp_totTake (l : List S41) (g : S41 → Int) (i : Nat) (h : i < l.length) : ppTot g (l.take (i + 1)) = ppTot g (l.take i) + g l[i] := by
  rw [List.take_succ_eq_append_getElem h]
  have : ∀ xs : List S41, ∀ y, ppTot g (xs ++ [y]) = ppTot g xs + g y := by
    intro xs y
    induction xs with
    | nil => simp [ppTot]
    | cons x xs ih => simp only [List.cons_append, ppTot]; rw [ih]; omega
  exact this _ _
theorem pp_totBound (a b : Int) (l : List S41) (ha : a ≤ 8) (hb : b ≤ 94) (hl : ∀ x ∈ l, ppLies a b x) : 0 ≤ ppTot (fun x => x.f2 * x.f3) l ∧ ppTot (fun x => x.f2 * x.f3) l ≤ 752 * l.length := by
  induction l with
  | nil => simp [ppTot]
  | cons x xs ih =>
    have := ih (fun y hy => hl y (List.mem_cons_of_mem _ hy))
    obtain ⟨h0, h1, h2, h3, h4, h5, h6, h7, _, _⟩ := hl x List.mem_cons_self
    have := pp_prod x.f2 x.f3 8 94 (by omega) (by omega) (by omega) (by omega)
    simp only [ppTot, List.length_cons]
    omega
/-- What GrdEmpty answers. -/
def ppEmp (a b : Int) (l : List S41) : Int := a * b - ppTot (fun x => x.f2 * x.f3) l
theorem pp_emp (E : Nat → Int → Int → Option Int) (a b : Int) (l : List S41) (hg : ppGood a b l)
    (hs : ∀ k acc (i : Nat) (h : i < l.length), E (k + 1) acc (i : Int) = E k (wrap64 (acc - wrap64 (l[i].f2 * l[i].f3))) (wrap64 ((i : Int) + 1))) (he : ∀ k acc, E (k + 1) acc (l.length : Int) = some acc) :
    Evs (fun k => E k (wrap64 (a * b)) 0) (fun r => r = ppEmp a b l) := by
  obtain ⟨ha, hb, hl, hf, _⟩ := hg
  have hab := pp_prod a b 8 94 (by omega) (by omega) (by omega) (by omega)
  have loop : ∀ (d i : Nat), l.length - i = d → i ≤ l.length → Evs (fun k => E k (a * b - ppTot (fun x => x.f2 * x.f3) (l.take i)) (i : Int)) (fun r => r = ppEmp a b l) := by
    intro d
    induction d with
    | zero =>
      intro i hd hi
      obtain rfl : i = l.length := by omega
      refine Evs.step (f := fun _ => some (a * b - ppTot (fun x => x.f2 * x.f3) (l.take l.length))) (fun k => he k _) (Evs.now ?_)
      rw [List.take_length]
      rfl
    | succ d ih =>
      intro i hd hi
      have hil : i < l.length := by omega
      have hx := hf l[i] (List.getElem_mem _)
      have hb2 := pp_totBound a b (l.take i) ha.2 hb.2 (fun y hy => hf y (List.mem_of_mem_take hy))
      obtain ⟨h0, h1, h2, h3, h4, h5, h6, h7, _, _⟩ := hx
      have hp := pp_prod l[i].f2 l[i].f3 8 94 (by omega) (by omega) (by omega) (by omega)
      have hlt : (l.take i).length ≤ 40 := by rw [List.length_take]; omega
      refine Evs.step (fun k => hs k _ i hil) ?_
      have n := ih (i + 1) (by omega) (by omega)
      rw [pp_totTake l _ i hil] at n
      rw [pp_wrap_id (l[i].f2 * l[i].f3) (by omega) (by omega), pp_wrap_id ((i : Int) + 1) (by omega) (by omega), pp_wrap_id _ (by omega) (by omega)]
      refine Evs.cong (fun k => ?_) n
      congr 1
      omega
  have := loop _ 0 rfl (by omega)
  rw [pp_wrap_id (a * b) (by omega) (by omega)]
  simpa [ppTot] using this
theorem pp_implEmp (a b : Int) (l : List S41) : Evs (fun k => impl_GrdEmpty.f k a b l) (fun r => (ppGood a b l → r = ppEmp a b l) ∧ (¬ ppGood a b l → r = 0)) := by
  unfold impl_GrdEmpty.f
  refine Evs.bnd (pp_implOk a b l) (fun t ht => Evs.ite (fun h => ?_) (fun h => Evs.now ⟨fun g => absurd (ht.2 g) h, fun _ => rfl⟩))
  have hg := ht.1 h
  refine (pp_emp (fun k acc i => impl_GrdEmpty.l0 k acc l (l.length : Int) i) a b l hg (fun k acc i hi => ?_) (fun k acc => ?_)).imp fun r e => ⟨fun _ => e, fun n => absurd hg n⟩
  · simp only [impl_GrdEmpty.l0]
    rw [if_pos (by omega), if_pos (by omega), if_pos (by omega), pp_rdc hi]
  · simp only [impl_GrdEmpty.l0]
    rw [if_neg (by omega)]
theorem pp_sumB (f : Nat → Int) (c : Int) (n : Nat) (h : ∀ i, 0 ≤ f i ∧ f i ≤ c) : 0 ≤ ppSum f n ∧ ppSum f n ≤ c * n := by
  induction n with
  | zero => simp [ppSum]
  | succ n ih =>
    have := h n
    simp only [ppSum]
    rw [show ((n + 1 : Nat) : Int) = (n : Int) + 1 by omega, Int.mul_add, Int.mul_one]
    omega

theorem pp_rdGC {l : List S41} {i : Nat} (h : i < l.length) : rd_T41 l (i : Int) = l[i] := pp_getD l i _ h

/-- All numbers of a cell are Go's. -/
def ppWfC (x : S41) : Prop := (Lit.int .i64 x.f0).wf = true ∧ (Lit.int .i64 x.f1).wf = true ∧ (Lit.int .i64 x.f2).wf = true ∧ (Lit.int .i64 x.f3).wf = true ∧ (Lit.int .i64 x.f4).wf = true
/-- The cell has the slot. -/
def ppHold (x : S41) (row col : Int) : Bool := ppAmong row x.f0 x.f2 && ppAmong col x.f1 x.f3
theorem pp_hasB (x : S41) (row col : Int) (hx : ppWfC x) (hr : (Lit.int .i64 row).wf = true) (hc : (Lit.int .i64 col).wf = true) : ppHasB x row col = ppHold x row col := by
  unfold ppHasB impl_GrdCell_has.f ppHold
  rw [pp_implAmong row x.f0 x.f2 hr hx.1 hx.2.2.1, pp_implAmong col x.f1 x.f3 hc hx.2.1 hx.2.2.2.1]
  simp only [Option.bind_some]
  cases ppAmong row x.f0 x.f2 <;> rfl
theorem pp_holds (x : S41) (row col : Int) (hx : ppWfC x) (hr : (Lit.int .i64 row).wf = true) (hc : (Lit.int .i64 col).wf = true) (k : Nat) (hk : 0 < k) : spec_l3Holds.f k x.f0 x.f1 x.f2 x.f3 x.f4 row col = some (ppHold x row col) := by
  unfold spec_l3Holds.f ppHold
  rw [pp_specAmong row x.f0 x.f2 hr hx.1 hx.2.2.1 k hk, pp_specAmong col x.f1 x.f3 hc hx.2.1 hx.2.2.2.1 k hk]
  simp only [Option.bind_some]
  cases ppAmong row x.f0 x.f2 <;> rfl
/-- The first cell that has a slot. -/
def ppAt (l : List S41) (row col : Int) : Int := ppIdx (fun x => ppHold x row col) l
theorem ppIdx_congr {α : Type} (p q : α → Bool) (l : List α) (h : ∀ x ∈ l, p x = q x) : ppIdx p l = ppIdx q l := by
  unfold ppIdx
  have : l.findIdx? p = l.findIdx? q := by
    induction l with
    | nil => rfl
    | cons x xs ih =>
      rw [List.findIdx?_cons, List.findIdx?_cons, h x List.mem_cons_self, ih (fun y hy => h y (List.mem_cons_of_mem _ hy))]
  rw [this]
theorem pp_implGrdAt (a b : Int) (l : List S41) (row col : Int) (hl : ∀ x ∈ l, ppWfC x) (hr : (Lit.int .i64 row).wf = true) (hc : (Lit.int .i64 col).wf = true) (k : Nat) : impl_GrdAt.f k a b l row col = some (ppAt l row col) := by
  unfold impl_GrdAt.f ppAt
  rw [ppIdx_congr _ _ l (fun x hx => pp_hasB x row col (hl x hx) hr hc)]
theorem pp_specGrdAt (a b : Int) (l : List S41) (row col : Int) (hn : l.length ≤ 9223372036854775807) (hl : ∀ x ∈ l, ppWfC x) (hr : (Lit.int .i64 row).wf = true) (hc : (Lit.int .i64 col).wf = true) (k : Nat) (hk : l.length + 1 < k) :
    spec_GrdAt.f k a b l row col = some (ppAt l row col) := by
  unfold spec_GrdAt.f
  obtain ⟨r, hr', h⟩ := pp_lp (fun k (_ : Unit) i => spec_GrdAt.l0 (k + 1) row col i a b l) l.length (fun i _ => ∀ j (hj : j < l.length), j < i → ppHold l[j] row col = false) (fun r => r = ppAt l row col)
    (fun k s i hi hI => by
      simp only [spec_GrdAt.l0]
      rw [if_pos (by omega), if_pos (by omega), pp_rdGC hi, pp_holds l[i] row col (hl _ (List.getElem_mem hi)) hr hc (k + 1) (by omega), pp_wrap_id _ (by omega) (by omega)]
      simp only [Option.bind_some]
      cases hp : ppHold l[i] row col with
      | true => exact .inr ⟨i, by unfold ppAt; rw [ppIdx_hit _ l i hi hp hI], by simp⟩
      | false => exact .inl ⟨(), fun j hj hji => by
          by_cases e : j = i
          · subst e; exact hp
          · exact hI j hj (by omega), by simp [spec_GrdAt.l0]⟩)
    (fun k s hI => by
      simp only [spec_GrdAt.l0]
      rw [if_neg (by omega)]
      exact ⟨-1, by unfold ppAt; rw [ppIdx_miss _ l (fun j hj => hI j hj hj)], rfl⟩) l.length 0 () (k - 1) (by omega) (by omega) (fun j _ h => absurd h (Nat.not_lt_zero _)) (by omega)
  rw [← hr', ← h]
  obtain ⟨k, rfl⟩ : ∃ q, k = q + 1 := ⟨k - 1, by omega⟩
  rfl

theorem ppGood_wf {a b : Int} {l : List S41} (hg : ppGood a b l) : ∀ x ∈ l, ppWfC x := by
  obtain ⟨ha, hb, _, hf, _⟩ := hg
  intro x hx
  have := hf x hx
  unfold ppLies at this
  exact ⟨pp_wfi _ (by omega) (by omega), pp_wfi _ (by omega) (by omega), pp_wfi _ (by omega) (by omega), pp_wfi _ (by omega) (by omega), pp_wfi _ (by omega) (by omega)⟩
/-- The byte of a slot. -/
def ppCh (k : Int) : Int := if 0 ≤ k then (wrap64 (97 + (Int.tmod k 26))) % 256 else 46
/-- A row's bytes. -/
def ppLine (l : List S41) (r : Int) (n : Nat) : List Int := (List.range n).map fun (j : Nat) => ppCh (ppAt l r (j : Int))
/-- A grid's rows. -/
def ppLines (l : List S41) (b m : Nat) : List ByteArray := (List.range m).map fun (i : Nat) => strOfNums (ppLine l (i : Int) b)
theorem ppLine_len (l : List S41) (r : Int) (n : Nat) : (ppLine l r n).length = n := by simp [ppLine]
theorem ppLine_ext {l : List S41} {r : Int} {n : Nat} {x : List Int} (hl : x.length = n) (h : ∀ j, j < n → x[j]? = some (ppCh (ppAt l r (j : Int)))) : x = ppLine l r n := by
  apply List.ext_getElem?
  intro j
  by_cases hj : j < n
  · rw [h j hj]
    unfold ppLine
    rw [List.getElem?_map, List.getElem?_range hj]
    rfl
  · rw [List.getElem?_eq_none (by omega), List.getElem?_eq_none (by rw [ppLine_len]; omega)]
theorem ppLines_succ (l : List S41) (b m : Nat) : ppLines l b (m + 1) = ppLines l b m ++ [strOfNums (ppLine l (m : Int) b)] := by
  unfold ppLines
  rw [List.range_succ, List.map_append]
  rfl
theorem ppLines_len (l : List S41) (b m : Nat) : (ppLines l b m).length = m := by simp [ppLines]
theorem pp_specSlots (a b : Int) (l : List S41) : Evs (fun k => spec_QrySlots.f k a b l) (fun r => (ppGood a b l → r = ppLines l b.toNat a.toNat) ∧ (¬ ppGood a b l → r = [])) := by
  unfold spec_QrySlots.f
  simp only [Option.bind_some]
  refine Evs.bnd (pp_specOk a b l) (fun t ht => Evs.ite (fun h => ?_) (fun h => Evs.now ⟨fun g => absurd (ht.2 g) h, fun _ => rfl⟩))
  have hg := ht.1 h
  have hw := ppGood_wf hg
  refine Evs.imp ?_ (fun r e => ⟨fun _ => e, fun n => absurd hg n⟩)
  obtain ⟨ha, hb, hl, hf, _⟩ := id hg
  obtain ⟨a, rfl⟩ : ∃ n : Nat, a = n := ⟨a.toNat, by omega⟩
  obtain ⟨b, rfl⟩ : ∃ n : Nat, b = n := ⟨b.toNat, by omega⟩
  rw [Int.toNat_natCast, Int.toNat_natCast]
  refine Evs.up (fun k (s : List ByteArray) i => spec_QrySlots.l0 k s i a b l) a (fun i s => s = ppLines l b i) _ ?_ ?_ [] rfl
  · rintro s i hi rfl next
    have nx := next _ rfl
    rw [ppLines_succ] at nx
    have hll := ppLines_len l b i
    refine Evs.step (fun k => by simp only [spec_QrySlots.l0]; rw [if_pos (by omega), if_pos (by omega), if_pos (by omega), Int.toNat_natCast]) ?_
    refine Evs.up (fun k (s : List Int) j => spec_QrySlots.l1 k (ppLines l b i) (i : Int) s j a b l) b (fun j s => s.length = b ∧ ∀ q, q < j → s[q]? = some (ppCh (ppAt l (i : Int) (q : Int)))) _ ?_ ?_ (List.replicate b 0) ⟨by simp, fun q h => absurd h (Nat.not_lt_zero _)⟩
    · rintro s j hj ⟨h1, h2⟩ next2
      refine Evs.step (fun k => by simp only [spec_QrySlots.l1]; rw [if_pos (by omega), if_pos (by omega), if_pos (by omega), pp_wrap_id ((j : Int) + 1) (by omega) (by omega), Int.toNat_natCast]) ?_
      simp only [Option.bind_some]
      refine Evs.bnd (Evs.of (l.length + 2) fun k hk => pp_specGrdAt a b l (i : Int) (j : Int) (by omega) hw (pp_wfi _ (by omega) (by omega)) (pp_wfi _ (by omega) (by omega)) k (by omega)) ?_
      rintro _ rfl
      have fin : ∀ v, v = ppCh (ppAt l (i : Int) (j : Int)) → ∀ s' : List Int, s'.length = b → (∀ q, q ≠ j → s'[q]? = s[q]?) → ∀ q, q < j + 1 → (s'.set j v)[q]? = some (ppCh (ppAt l (i : Int) (q : Int))) := by
        rintro v rfl s' h3 h4 q hq
        by_cases e : q = j
        · subst e
          rw [List.getElem?_set_self (by omega)]
        · rw [List.getElem?_set_ne (fun q' => e q'.symm), h4 q e, h2 q (by omega)]
      refine Evs.ite (fun h0 => ?_) (fun h0 => ?_)
      · exact next2 _ ⟨by simp [h1], fin _ (by unfold ppCh; rw [if_pos h0]) _ (by simp [h1]) (fun q hq => List.getElem?_set_ne (fun q' => hq q'.symm))⟩
      · exact next2 _ ⟨by simp [h1], fin _ (by unfold ppCh; rw [if_neg h0]) s h1 (fun _ _ => rfl)⟩
    · rintro s ⟨h1, h2⟩
      refine Evs.step (fun k => by simp only [spec_QrySlots.l1]; rw [if_neg (by omega), if_pos (by omega), pp_wrap_id ((i : Int) + 1) (by omega) (by omega)]) ?_
      rw [ppLine_ext h1 h2]
      exact nx
  · rintro s rfl
    exact Evs.step (f := fun _ => some (ppLines l b a)) (fun k => by simp only [spec_QrySlots.l0]; rw [if_neg (by omega)]) (Evs.now rfl)
theorem pp_implSlots (a b : Int) (l : List S41) : Evs (fun k => impl_QrySlots.f k a b l) (fun r => (ppGood a b l → r = ppLines l b.toNat a.toNat) ∧ (¬ ppGood a b l → r = [])) := by
  unfold impl_QrySlots.f
  refine Evs.bnd (pp_implOk a b l) (fun t ht => Evs.ite (fun h => ?_) (fun h => Evs.now ⟨fun g => absurd (ht.2 g) h, fun _ => rfl⟩))
  have hg := ht.1 h
  have hw := ppGood_wf hg
  refine Evs.imp ?_ (fun r e => ⟨fun _ => e, fun n => absurd hg n⟩)
  obtain ⟨ha, hb, hl, hf, _⟩ := id hg
  obtain ⟨a, rfl⟩ : ∃ n : Nat, a = n := ⟨a.toNat, by omega⟩
  obtain ⟨b, rfl⟩ : ∃ n : Nat, b = n := ⟨b.toNat, by omega⟩
  rw [Int.toNat_natCast, Int.toNat_natCast]
  have hrep : bytes_Repeat.f [46] (b : Int) = some (List.replicate b 46) := by
    unfold bytes_Repeat.f
    rw [if_pos ⟨rfl, hb⟩, Int.toNat_natCast]
  refine Evs.up (fun k (s : List ByteArray) i => impl_QrySlots.l0 k s a i a b l) a (fun i s => s = ppLines l b i) _ ?_ ?_ [] rfl
  · rintro s i hi rfl next
    have nx := next _ rfl
    rw [ppLines_succ] at nx
    have hll := ppLines_len l b i
    refine Evs.step (fun k => by simp only [impl_QrySlots.l0]; rw [if_pos (by omega), hrep]) ?_
    simp only [Option.bind_some]
    rw [List.length_replicate]
    refine Evs.up (fun k (s : List Int) j => impl_QrySlots.l1 k (ppLines l b i) (i : Int) s a (i : Int) b j a b l) b (fun j s => s.length = b ∧ (∀ q, q < j → s[q]? = some (ppCh (ppAt l (i : Int) (q : Int)))) ∧ ∀ q, j ≤ q → q < b → s[q]? = some 46) _ ?_ ?_ (List.replicate b 46) ⟨by simp, fun q h => absurd h (Nat.not_lt_zero _), fun q _ h => by rw [List.getElem?_replicate, if_pos h]⟩
    · rintro s j hj ⟨h1, h2, h3⟩ next2
      refine Evs.step (fun k => by simp only [impl_QrySlots.l1]; rw [if_pos (by omega), pp_wrap_id ((j : Int) + 1) (by omega) (by omega), Int.toNat_natCast]) ?_
      refine Evs.bnd (Evs.of 0 fun k hk => pp_implGrdAt a b l (i : Int) (j : Int) hw (pp_wfi _ (by omega) (by omega)) (pp_wfi _ (by omega) (by omega)) k) ?_
      rintro _ rfl
      refine Evs.ite (fun h0 => ?_) (fun h0 => ?_)
      · refine Evs.pos (by omega) (Evs.pos (by omega) ?_)
        refine next2 _ ⟨by simp [h1], fun q hq => ?_, fun q hq hqb => by rw [List.getElem?_set_ne (by omega), h3 q (by omega) hqb]⟩
        by_cases e : q = j
        · subst e
          rw [List.getElem?_set_self (by omega)]
          unfold ppCh
          rw [if_pos h0]
        · rw [List.getElem?_set_ne (fun q' => e q'.symm), h2 q (by omega)]
      · refine next2 _ ⟨h1, fun q hq => ?_, fun q hq hqb => h3 q (by omega) hqb⟩
        by_cases e : q = j
        · subst e
          rw [h3 q (Nat.le_refl _) hj]
          unfold ppCh
          rw [if_neg h0]
        · exact h2 q (by omega)
    · rintro s ⟨h1, h2, h3⟩
      refine Evs.step (fun k => by simp only [impl_QrySlots.l1]; rw [if_neg (by omega), if_pos (by omega), pp_wrap_id ((i : Int) + 1) (by omega) (by omega)]) ?_
      rw [ppLine_ext h1 h2]
      exact nx
  · rintro s rfl
    exact Evs.step (f := fun _ => some (ppLines l b a)) (fun k => by simp only [impl_QrySlots.l0]; rw [if_neg (by omega)]) (Evs.now rfl)

theorem pp_rdS {l : List ByteArray} {i : Nat} (h : i < l.length) : rdOf ByteArray.empty l (i : Int) = l[i] := pp_getD l i _ h

theorem pp_abc : Txt.ppTxtOk (⟨#[97, 98, 32, 99]⟩ : ByteArray) = true := by kernel_rfl
theorem pp_pwOk : laws_pwOk.f = some true := by
  unfold laws_pwOk.f impl_TxtOk.f
  rw [if_pos (by decide), pp_abc]
  rfl

theorem pp_pwTexts (l : List ByteArray) (hl : l.length ≤ 1048576) : Evs (fun k => laws_pwTexts.f k l l) (fun r => r = true) := by
  unfold laws_pwTexts.f
  refine Evs.pos rfl ?_
  have loop : ∀ (d i : Nat), l.length - i = d → i ≤ l.length → Evs (fun k => laws_pwTexts.l0 k l l (i : Int)) (fun r => r = true) := by
    intro d
    induction d with
    | zero =>
      intro i hd hi
      exact Evs.step (f := fun _ => some true) (fun k => by simp only [laws_pwTexts.l0]; rw [if_neg (by omega)]) (Evs.now rfl)
    | succ d ih =>
      intro i hd hi
      have n := ih (i + 1) (by omega) (by omega)
      refine Evs.step (fun k => by simp only [laws_pwTexts.l0]; rw [if_pos (by omega), if_pos (by omega), if_pos (by omega), if_pos trivial, pp_wrap_id ((i : Int) + 1) (by omega) (by omega)]) ?_
      exact n
  exact loop _ 0 rfl (by omega)
theorem pp_chB (k : Int) : (0 ≤ ppCh k ∧ ppCh k ≤ 255) ∧ (ppCh k = 46 ↔ k < 0) := by
  unfold ppCh
  by_cases h : 0 ≤ k
  · rw [if_pos h, Int.tmod_eq_emod_of_nonneg h, pp_wrap_id (97 + k % 26) (by omega) (by omega)]
    omega
  · rw [if_neg h]
    omega
theorem pp_btNum (xs : List Int) (j : Nat) (h : j < xs.length) (h0 : 0 ≤ xs[j] ∧ xs[j] ≤ 255) : bt (strOfNums xs) (j : Int) = xs[j] := by
  unfold bt
  rw [Int.toNat_natCast, dif_pos (by rw [strOfNums_size]; exact h)]
  have e : (strOfNums xs)[j]'(by rw [strOfNums_size]; exact h) = UInt8.ofNat xs[j].toNat := by
    have : ∀ h', (strOfNums xs).data[j]'h' = UInt8.ofNat xs[j].toNat := by
      intro h'
      simp [strOfNums]
    exact this _
  rw [e, UInt8.toNat_ofNat']
  omega
theorem pp_drawSlots (l : List Int) (h : ∀ x ∈ l, (Lit.int .u8 x).wf = true) : Evs (fun k => spec_DrawQrySlots.f k l) (fun _ => True) := by
  obtain ⟨b, e, hb⟩ := pp_open l h
  unfold spec_DrawQrySlots.f
  rw [e]
  simp only [Option.bind_some]
  refine Evs.bnd (pp_grid b hb 0 8 (by omega) (by omega) (by omega)) ?_
  rintro ⟨r1, r2, r3, q⟩ _
  exact Evs.now trivial
theorem pp_lineAt (l : List S41) (b m i : Nat) (hi : i < m) : rdOf ByteArray.empty (ppLines l b m) (i : Int) = strOfNums (ppLine l (i : Int) b) := by
  rw [pp_rdS (by rw [ppLines_len]; exact hi)]
  unfold ppLines
  rw [List.getElem_map, List.getElem_range]
theorem pp_law (a b : Nat) (l : List S41) (hg : ppGood a b l) : Evs (fun k => laws_FnQrySlots.l0 k (ppLines l b a) 0 0 a b l) (fun r => r = true) := by
  have hw := ppGood_wf hg
  have himp := pp_implEmp a b l
  obtain ⟨ha, hb, hl, hf, hp⟩ := id hg
  have hcnt := pp_count a b l hf hp
  have hlen := ppLines_len l b a
  obtain ⟨e, he⟩ : ∃ e : Nat → Nat → Int, (fun i j => if ∃ x ∈ l, ppHas x (i : Nat) (j : Nat) then (0 : Int) else 1) = e := ⟨_, rfl⟩
  have he1 : ∀ i j, e i j = if ∃ x ∈ l, ppHas x (i : Nat) (j : Nat) then (0 : Int) else 1 := fun i j => by rw [← he]
  have hb1 : ∀ i j, 0 ≤ e i j ∧ e i j ≤ 1 := fun i j => by rw [he1]; split <;> omega
  have hcnt : ppSum (fun i => ppSum (e i) b) a = ppEmp a b l := by rw [← he]; exact hcnt
  have hrow : ∀ i n, 0 ≤ ppSum (e i) n ∧ ppSum (e i) n ≤ 1 * n := fun i n => pp_sumB (e i) 1 n (hb1 i)
  have hall : ∀ n, 0 ≤ ppSum (fun i => ppSum (e i) b) n ∧ ppSum (fun i => ppSum (e i) b) n ≤ 94 * n := fun n => pp_sumB _ 94 n (fun i => by have := hrow i b; omega)
  have fin : Evs (fun k => laws_FnQrySlots.l0 k (ppLines l b a) (ppSum (fun i => ppSum (e i) b) a) (a : Int) a b l) (fun r => r = true) := by
    refine Evs.step (fun k => by simp only [laws_FnQrySlots.l0]; rw [if_neg (by omega), if_pos (by omega)]) ?_
    refine Evs.bnd himp (fun t ht => Evs.now ?_)
    rw [ht.1 hg, hcnt]
    simp
  have inner : ∀ i : Nat, i < a → Evs (fun k => laws_FnQrySlots.l0 k (ppLines l b a) (ppSum (fun i => ppSum (e i) b) (i + 1)) ((i + 1 : Nat) : Int) a b l) (fun r => r = true) →
      ∀ (d j : Nat), b - j = d → j ≤ b → Evs (fun k => laws_FnQrySlots.l1 k (ppLines l b a) (ppSum (fun i => ppSum (e i) b) i + ppSum (e i) j) (i : Int) (j : Int) a b l) (fun r => r = true) := by
    intro i hi nxt d
    have hline := pp_lineAt l b a i hi
    have hll := ppLine_len l (i : Int) b
    induction d with
    | zero =>
      intro j hd hj
      obtain rfl : j = b := by omega
      refine Evs.step (fun k => by simp only [laws_FnQrySlots.l1]; rw [if_neg (by omega), pp_wrap_id ((i : Int) + 1) (by omega) (by omega)]) ?_
      exact nxt
    | succ d ih =>
      intro j hd hj
      have n := ih (j + 1) (by omega) (by omega)
      have h1 := hall i
      have h2 := hrow i j
      simp only [ppSum] at n
      refine Evs.step (f := fun k => laws_FnQrySlots.l1 k (ppLines l b a) (ppSum (fun i => ppSum (e i) b) i + (ppSum (e i) j + e i j)) (i : Int) ((j + 1 : Nat) : Int) a b l) (fun k => ?_) n
      obtain ⟨r, hr, hr1, hr2⟩ := pp_atE a b l ha hb hf (i : Int) (j : Int) (by omega) (by omega) k a b
      have hat : r = ppAt l (i : Int) (j : Int) := by
        have := pp_implGrdAt a b l (i : Int) (j : Int) hw (pp_wfi _ (by omega) (by omega)) (pp_wfi _ (by omega) (by omega)) k
        rw [hr] at this
        exact Option.some.inj this
      obtain ⟨hc0, hc1⟩ := pp_chB (ppAt l (i : Int) (j : Int))
      have hel : (ppLine l (i : Int) b)[j]'(by omega) = ppCh (ppAt l (i : Int) (j : Int)) := by
        unfold ppLine
        rw [List.getElem_map, List.getElem_range]
      have hbt : bt (strOfNums (ppLine l (i : Int) b)) (j : Int) = ppCh (ppAt l (i : Int) (j : Int)) := by
        rw [pp_btNum _ j (by omega) (by rw [hel]; exact hc0), hel]
      simp only [laws_FnQrySlots.l1]
      rw [if_pos (by omega), if_pos (by omega), if_pos (by omega), if_pos (by omega), hline, if_pos (by rw [strOfNums_size]; omega), hr, hbt]
      simp only [Option.bind_some]
      rw [pp_wrap_id ((j : Int) + 1) (by omega) (by omega), he1, ← hat] at *
      by_cases hh : ∃ x ∈ l, ppHas x (i : Int) (j : Int)
      · have h0 := hr1 hh
        have q1 : (ppCh r == 46) = false := by simp; omega
        have q2 : decide (r < 0) = false := decide_eq_false (by omega)
        rw [if_neg (by omega), if_neg (by rw [q1, q2]; decide), if_pos hh, Int.add_zero]
        rfl
      · have h0 := hr2 hh
        have q1 : (ppCh r == 46) = true := by simp; omega
        have q2 : decide (r < 0) = true := decide_eq_true (by omega)
        rw [if_pos (by omega), if_neg (by rw [q1, q2]; decide), if_neg hh, pp_wrap_id _ (by omega) (by omega), Int.add_assoc]
        rfl
  have outer : ∀ (d i : Nat), a - i = d → i ≤ a → Evs (fun k => laws_FnQrySlots.l0 k (ppLines l b a) (ppSum (fun i => ppSum (e i) b) i) (i : Int) a b l) (fun r => r = true) := by
    intro d
    induction d with
    | zero =>
      intro i hd hi
      obtain rfl : i = a := by omega
      exact fin
    | succ d ih =>
      intro i hd hi
      have n := inner i (by omega) (ih (i + 1) (by omega) (by omega)) _ 0 rfl (by omega)
      refine Evs.step (fun k => by simp only [laws_FnQrySlots.l0]; rw [if_pos (by omega), if_pos (by omega), pp_lineAt l b a i (by omega), if_pos (by rw [strOfNums_size, ppLine_len])]) ?_
      simpa [ppSum] using n
  simpa [ppSum] using outer _ 0 rfl (by omega)
theorem FnQrySlots : ∀ (l0 : List (Int)), (l0.length ≤ 9223372036854775807 ∧ ∀ (x : Int), x ∈ l0 → (Lit.int .u8 x).wf = true) → ∃ k, laws_FnQrySlots.f k l0 = some true := by
  intro l0 h0
  refine Evs.ends (r := true) ?_
  unfold laws_FnQrySlots.f
  refine Evs.ite (fun _ => Evs.now rfl) (fun _ => ?_)
  refine Evs.bnd (pp_drawSlots l0 h0.2) ?_
  rintro ⟨a, b, l⟩ _
  simp only
  refine Evs.bnd (pp_implSlots a b l) (fun t ht => ?_)
  refine Evs.bnd (pp_specSlots a b l) (fun u hu => ?_)
  have htu : u = t := by
    by_cases g : ppGood a b l
    · rw [ht.1 g, hu.1 g]
    · rw [ht.2 g, hu.2 g]
  subst htu
  have hlen : u.length ≤ 1048576 := by
    by_cases g : ppGood a b l
    · rw [ht.1 g, ppLines_len]; have := g.1; omega
    · rw [ht.2 g]; simp
  refine Evs.bnd (pp_pwTexts u hlen) ?_
  rintro _ rfl
  refine Evs.pos rfl ?_
  refine Evs.bnd (pp_specOk a b l) (fun z hz => Evs.ite (fun h => ?_) (fun h => ?_))
  · have g := hz.1 h
    rw [ht.1 g]
    obtain ⟨ha, hb, _⟩ := g
    obtain ⟨a, rfl⟩ : ∃ n : Nat, a = n := ⟨a.toNat, by omega⟩
    obtain ⟨b, rfl⟩ : ∃ n : Nat, b = n := ⟨b.toNat, by omega⟩
    exact pp_law a b l (hz.1 h)
  · have e := ht.2 (fun g => h (hz.2 g))
    subst e
    refine Evs.pos rfl ?_
    rw [pp_pwOk]
    exact Evs.now rfl

end Go.Proofs.YtalnklnfiopaoadDoor.Pure
