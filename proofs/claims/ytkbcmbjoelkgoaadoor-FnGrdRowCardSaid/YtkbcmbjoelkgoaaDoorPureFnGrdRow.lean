/-
  of drawn grids impl and spec tell the same cells of a row and of a column; where both grids are ok these are just the cells with a slot in it, each once, in order; at all draws.
  Conditions: none but those of the statement.
-/
import Derived.Test.YtkbcmbjoelkgoaaDoorQlawsFnGrdRow
namespace Go.Proofs.YtkbcmbjoelkgoaaDoor.Pure
open Go.RowKit Go.Proofs.YtkbcmbjoelkgoaaDoor.Q Go.Proofs.YtkbcmbjoelkgoaaDoorW.PrintWords Go.Proofs.YtkbcmbjoelkgoaaDoorW.PrintLast Go.Proofs.YtkbcmbjoelkgoaaDoorW.PrintMore
set_option linter.unusedVariables false
set_option linter.unusedSimpArgs false

theorem pp_wrap_id (a : Int) (h : -9223372036854775808 ≤ a) (h' : a ≤ 9223372036854775807) : wrap64 a = a := by unfold wrap64; omega
theorem pp_wf (a : Int) (h : (Lit.int .i64 a).wf = true) : -9223372036854775808 ≤ a ∧ a ≤ 9223372036854775807 := by
  simp [Lit.wf, IntKind.min, IntKind.max, IntKind.signed, IntKind.bits] at h; omega
theorem pp_wfi (a : Int) (h : -9223372036854775808 ≤ a) (h' : a ≤ 9223372036854775807) : (Lit.int .i64 a).wf = true := by
  simp [Lit.wf, IntKind.min, IntKind.max, IntKind.signed, IntKind.bits]; omega

/-- With enough rounds g answers, and P holds of the answer. -/
def Evs {α : Type} (g : Nat → Option α) (P : α → Prop) : Prop := ∃ r K, P r ∧ ∀ k, K ≤ k → g k = some r
theorem Evs.now {α : Type} {P : α → Prop} {r : α} (h : P r) : Evs (fun _ => some r) P := ⟨r, 0, h, fun _ _ => rfl⟩
theorem Evs.bnd {α β : Type} {g : Nat → Option α} {f : Nat → α → Option β} {P : α → Prop} {Q : β → Prop} (h : Evs g P) (k : ∀ a, P a → Evs (fun n => f n a) Q) : Evs (fun n => (g n).bind (f n)) Q := by
  obtain ⟨a, K, hP, h⟩ := h
  obtain ⟨r, K', hQ, k⟩ := k a hP
  refine ⟨r, max K K', hQ, fun n hn => ?_⟩
  show (g n).bind (f n) = some r
  rw [h n (by omega)]
  exact k n (by omega)
theorem Evs.step {α : Type} {g f : Nat → Option α} {P : α → Prop} (h : ∀ k, g (k + 1) = f k) (k : Evs f P) : Evs g P := by
  obtain ⟨r, K, hP, k⟩ := k
  refine ⟨r, K + 1, hP, fun n hn => ?_⟩
  obtain ⟨m, rfl⟩ : ∃ m, n = m + 1 := ⟨n - 1, by omega⟩
  rw [h]
  exact k m (by omega)
theorem Evs.cong {α : Type} {g f : Nat → Option α} {P : α → Prop} (h : ∀ k, g k = f k) (k : Evs f P) : Evs g P := by
  obtain ⟨r, K, hP, k⟩ := k
  exact ⟨r, K, hP, fun n hn => (h n).trans (k n hn)⟩
theorem Evs.imp {α : Type} {g : Nat → Option α} {P Q : α → Prop} (h : Evs g P) (hq : ∀ r, P r → Q r) : Evs g Q := by
  obtain ⟨r, K, hP, k⟩ := h
  exact ⟨r, K, hq r hP, k⟩
theorem Evs.of {α : Type} {g : Nat → Option α} {r : α} (K : Nat) (h : ∀ k, K ≤ k → g k = some r) : Evs g (fun q => q = r) := ⟨r, K, rfl, h⟩
theorem Evs.ends {α : Type} {g : Nat → Option α} {r : α} (h : Evs g (fun q => q = r)) : ∃ k, g k = some r := by
  obtain ⟨q, K, rfl, k⟩ := h
  exact ⟨K, k K (Nat.le_refl _)⟩
theorem Evs.pos {α : Type} {g f : Nat → Option α} {c : Prop} [Decidable c] {P : α → Prop} (hc : c) (h : Evs g P) : Evs (fun k => if c then g k else f k) P := h.cong (fun k => if_pos hc)
theorem Evs.neg {α : Type} {g f : Nat → Option α} {c : Prop} [Decidable c] {P : α → Prop} (hc : ¬ c) (h : Evs f P) : Evs (fun k => if c then g k else f k) P := h.cong (fun k => if_neg hc)
theorem Evs.ite {α : Type} {g f : Nat → Option α} {c : Prop} [Decidable c] {P : α → Prop} (h : c → Evs g P) (h' : ¬ c → Evs f P) : Evs (fun k => if c then g k else f k) P := by
  by_cases hc : c
  · exact Evs.pos hc (h hc)
  · exact Evs.neg hc (h' hc)
/-- A loop that counts up. -/
theorem Evs.up {σ ρ : Type} (E : Nat → σ → Int → Option ρ) (n : Nat) (Inv : Nat → σ → Prop) (Post : ρ → Prop)
    (hs : ∀ s (i : Nat), i < n → Inv i s → (∀ s', Inv (i + 1) s' → Evs (fun k => E k s' ((i : Int) + 1)) Post) → Evs (fun k => E k s (i : Int)) Post)
    (he : ∀ s, Inv n s → Evs (fun k => E k s (n : Int)) Post) : ∀ s, Inv 0 s → Evs (fun k => E k s 0) Post := by
  have key : ∀ (d i : Nat) (s : σ), n - i = d → i ≤ n → Inv i s → Evs (fun k => E k s (i : Int)) Post := by
    intro d
    induction d with
    | zero =>
      intro i s hd hi hI
      obtain rfl : i = n := by omega
      exact he s hI
    | succ d ih =>
      intro i s hd hi hI
      exact hs s i (by omega) hI (fun s' hI' => by simpa using ih (i + 1) s' (by omega) (by omega) hI')
  intro s hI
  simpa using key n 0 s (by omega) (by omega) hI

/-- A loop that counts up: rounds keep Inv or leave with Post; at the end it leaves with Post. -/
theorem pp_lp {σ ρ : Type} (E : Nat → σ → Int → Option ρ) (n : Nat) (Inv : Nat → σ → Prop) (Post : ρ → Prop)
    (hs : ∀ k s (i : Nat), i < n → Inv i s → (∃ s', Inv (i + 1) s' ∧ E (k + 1) s (i : Int) = E k s' ((i : Int) + 1)) ∨ ∃ r, Post r ∧ E (k + 1) s (i : Int) = some r)
    (he : ∀ k s, Inv n s → ∃ r, Post r ∧ E (k + 1) s (n : Int) = some r) :
    ∀ (d i : Nat) (s : σ) (k : Nat), n - i = d → i ≤ n → Inv i s → d < k → ∃ r, Post r ∧ E k s (i : Int) = some r := by
  intro d
  induction d with
  | zero =>
    intro i s k hd hi hI hk
    obtain ⟨k, rfl⟩ : ∃ m, k = m + 1 := ⟨k - 1, by omega⟩
    obtain rfl : i = n := by omega
    exact he k s hI
  | succ d ih =>
    intro i s k hd hi hI hk
    obtain ⟨k, rfl⟩ : ∃ m, k = m + 1 := ⟨k - 1, by omega⟩
    rcases hs k s i (by omega) hI with ⟨s', hI', he'⟩ | h
    · obtain ⟨r, hr, e⟩ := ih (i + 1) s' k (by omega) (by omega) hI' (by omega)
      exact ⟨r, hr, by rw [he']; simpa using e⟩
    · exact h
theorem pp_getD {α : Type} (l : List α) (i : Nat) (z : α) (h : i < l.length) : l.getD (i : Int).toNat z = l[i] := by
  simp [List.getD_eq_getElem?_getD, List.getElem?_eq_getElem h]
/-- What a reader reads: bytes, no more than 2000. -/
def ppRd (l : List Int) : Prop := l.length ≤ 2000 ∧ ∀ x ∈ l, 0 ≤ x ∧ x ≤ 255
theorem pp_u8 (l : List Int) (h : ∀ x ∈ l, (Lit.int .u8 x).wf = true) : ∀ x ∈ l, 0 ≤ x ∧ x ≤ 255 := by
  intro x hx
  have := h x hx
  simp [Lit.wf, IntKind.min, IntKind.max, IntKind.signed, IntKind.bits] at this
  omega
theorem pp_rdb (l : List Int) (h : ∀ x ∈ l, 0 ≤ x ∧ x ≤ 255) (i : Int) : 0 ≤ rd l i ∧ rd l i ≤ 255 := by
  unfold rd
  rw [List.getD_eq_getElem?_getD]
  cases e : l[i.toNat]? with
  | none => simp
  | some v => exact h v (List.mem_of_getElem? e)
theorem pp_open (l : List Int) (h : ∀ x ∈ l, (Lit.int .u8 x).wf = true) : ∃ b, spec_l20Open.f l = some (b, 0) ∧ ppRd b := by
  unfold spec_l20Open.f
  by_cases hl : (l.length : Int) > 2000
  · rw [if_pos hl, if_pos (by omega)]
    exact ⟨_, rfl, by rw [List.length_take]; omega, fun x hx => pp_u8 l h x (List.mem_of_mem_take hx)⟩
  · rw [if_neg hl]
    exact ⟨_, rfl, by omega, pp_u8 l h⟩
theorem pp_xor (x y : Int) (hx : 0 ≤ x) (hy : 0 ≤ y) (hx' : x < 4611686018427387904) (hy' : y < 4611686018427387904) : 0 ≤ Go.bits .xor .i64 x y ∧ Go.bits .xor .i64 x y < 4611686018427387904 := by
  obtain ⟨a, rfl⟩ : ∃ a : Nat, x = a := ⟨x.toNat, by omega⟩
  obtain ⟨b, rfl⟩ : ∃ b : Nat, y = b := ⟨y.toNat, by omega⟩
  have ha : a % 2 ^ 64 = a := Nat.mod_eq_of_lt (by omega)
  have hb : b % 2 ^ 64 = b := Nat.mod_eq_of_lt (by omega)
  have hlt : a ^^^ b < 2 ^ 62 := Nat.xor_lt_two_pow (by omega) (by omega)
  have e : Go.bits .xor .i64 (a : Int) (b : Int) = IntKind.i64.wrap ((a ^^^ b : Nat) : Int) := by
    have q : (BitVec.ofNat 64 a ^^^ BitVec.ofNat 64 b).toNat = a ^^^ b := by rw [BitVec.toNat_xor, BitVec.toNat_ofNat, BitVec.toNat_ofNat, ha, hb]
    simp only [Go.bits, BitVec.ofInt_natCast, IntKind.bits]
    exact congrArg (fun z : Nat => IntKind.i64.wrap (z : Int)) q
  rw [e, IntKind.wrap_i64]
  omega
theorem pp_pick (l : List Int) (h : ppRd l) (p n : Int) (hp : 0 ≤ p) (hp' : p ≤ 1000000000) (hn : n ≤ 1000000) :
    Evs (fun k => spec_l20Rd_pick.f k l p n) (fun r => r.2 = p + 1 ∧ 0 ≤ r.1 ∧ (n < 1 → r.1 = 0) ∧ (1 ≤ n → r.1 < n)) := by
  obtain ⟨hl, hb⟩ := h
  have e1 : wrap64 (p + 1) = p + 1 := pp_wrap_id _ (by omega) (by omega)
  have e2 : wrap64 (p + 1 - 1) = p := by rw [show p + 1 - 1 = p by omega]; exact pp_wrap_id _ (by omega) (by omega)
  unfold spec_l20Rd_pick.f
  rw [e1]
  by_cases h1 : n < 1
  · refine Evs.cong (fun k => if_pos h1) (Evs.step (f := fun _ => some (0, p + 1)) (fun k => by simp only [spec_l20Rd_pick.j0, if_true]) (Evs.now ⟨rfl, by simp, fun _ => rfl, fun h => by omega⟩))
  · refine Evs.cong (fun k => if_neg h1) ?_
    by_cases h0 : l.length = 0
    · refine Evs.step (f := fun _ => some (0, p + 1)) (fun k => by simp only [spec_l20Rd_pick.j0]; rw [if_pos (by simp [h0])]) (Evs.now ⟨rfl, by simp, fun _ => rfl, fun h => by simp; omega⟩)
    · have hne : (((l.length : Int) == 0) = true) = False := by
        have : l ≠ [] := fun e => h0 (by rw [e]; rfl)
        simpa using this
      by_cases hlt : p < (l.length : Int)
      · have hr := pp_rdb l hb p
        have hm := Int.emod_nonneg (rd l p) (show n ≠ 0 by omega)
        have hm' := Int.emod_lt_of_pos (rd l p) (show 0 < n by omega)
        refine Evs.step (f := fun _ => some (Int.tmod (rd l p) n, p + 1)) (fun k => by
          simp only [spec_l20Rd_pick.j0, e2, hne, if_false]
          rw [if_pos hlt, if_pos hp, if_neg (show ¬ n = 0 by omega), pp_wrap_id (rd l p) (by omega) (by omega)]) (Evs.now ⟨rfl, ?_, fun h => absurd h h1, fun _ => ?_⟩)
        · simp only [Int.tmod_eq_emod_of_nonneg hr.1]; exact hm
        · simp only [Int.tmod_eq_emod_of_nonneg hr.1]; exact hm'
      · have hL : (0 : Int) < (l.length : Int) := by omega
        have ei : Int.tmod p (l.length : Int) = p % (l.length : Int) := Int.tmod_eq_emod_of_nonneg hp
        have ed : Int.tdiv p (l.length : Int) = p / (l.length : Int) := Int.tdiv_eq_ediv_of_nonneg hp
        have i0 := Int.emod_nonneg p (show (l.length : Int) ≠ 0 by omega)
        have i1 := Int.emod_lt_of_pos p hL
        have d0 : 0 ≤ p / (l.length : Int) := Int.ediv_nonneg hp (by omega)
        have d1 : p / (l.length : Int) ≤ p := Int.ediv_le_self _ hp
        have e7 : wrap64 (wrap64 (p * 7) + 3) = p * 7 + 3 := by rw [pp_wrap_id (p * 7) (by omega) (by omega), pp_wrap_id _ (by omega) (by omega)]
        have ej : Int.tmod (p * 7 + 3) (l.length : Int) = (p * 7 + 3) % (l.length : Int) := Int.tmod_eq_emod_of_nonneg (by omega)
        have j0 := Int.emod_nonneg (p * 7 + 3) (show (l.length : Int) ≠ 0 by omega)
        have j1 := Int.emod_lt_of_pos (p * 7 + 3) hL
        obtain ⟨u, hu⟩ : ∃ u, u = rd l (p % (l.length : Int)) := ⟨_, rfl⟩
        obtain ⟨v, hv⟩ : ∃ v, v = rd l ((p * 7 + 3) % (l.length : Int)) := ⟨_, rfl⟩
        have hu' : 0 ≤ u ∧ u ≤ 255 := by rw [hu]; exact pp_rdb l hb _
        have hv' : 0 ≤ v ∧ v ≤ 255 := by rw [hv]; exact pp_rdb l hb _
        obtain ⟨dq, hdq⟩ : ∃ dq, dq = p / (l.length : Int) := ⟨_, rfl⟩
        rw [← hdq] at d0 d1
        have w1 : wrap64 u = u := pp_wrap_id _ (by omega) (by omega)
        have w2 : wrap64 (u * 131) = u * 131 := pp_wrap_id _ (by omega) (by omega)
        have w3 : wrap64 v = v := pp_wrap_id _ (by omega) (by omega)
        have w4 : wrap64 (v * 1117) = v * 1117 := pp_wrap_id _ (by omega) (by omega)
        have w5 : wrap64 (u * 131 + v * 1117) = u * 131 + v * 1117 := pp_wrap_id _ (by omega) (by omega)
        have w6 : wrap64 (p * 29) = p * 29 := pp_wrap_id _ (by omega) (by omega)
        have w7 : wrap64 (u * 131 + v * 1117 + p * 29) = u * 131 + v * 1117 + p * 29 := pp_wrap_id _ (by omega) (by omega)
        have w8 : wrap64 dq = dq := pp_wrap_id _ (by omega) (by omega)
        have w9 : wrap64 (dq * 53) = dq * 53 := pp_wrap_id _ (by omega) (by omega)
        have wa : wrap64 (u * 131 + v * 1117 + p * 29 + dq * 53) = u * 131 + v * 1117 + p * 29 + dq * 53 := pp_wrap_id _ (by omega) (by omega)
        obtain ⟨x, hx⟩ : ∃ x, x = u * 131 + v * 1117 + p * 29 + dq * 53 := ⟨_, rfl⟩
        have x0 : 0 ≤ x := by omega
        have x1 : x < 4611686018427387904 := by omega
        have wx : wrap64 x = x := pp_wrap_id _ (by omega) (by omega)
        have ex : Int.tdiv x 64 = x / 64 := Int.tdiv_eq_ediv_of_nonneg x0
        have wb : wrap64 (x / 64) = x / 64 := pp_wrap_id _ (by omega) (by omega)
        have hz := pp_xor x (x / 64) x0 (by omega) x1 (by omega)
        have hm := Int.emod_nonneg (Go.bits .xor .i64 x (x / 64)) (show n ≠ 0 by omega)
        have hm' := Int.emod_lt_of_pos (Go.bits .xor .i64 x (x / 64)) (show 0 < n by omega)
        refine Evs.step (f := fun _ => some (Int.tmod (Go.bits .xor .i64 x (x / 64)) n, p + 1)) (fun k => by
          simp only [spec_l20Rd_pick.j0, e2, hne, if_false, ei, ed, e7, ej, ← hu, ← hv, ← hdq, w1, w2, w3, w4, w5, w6, w7, w8, w9, wa, ← hx, wx, ex, wb]
          rw [if_neg hlt, if_neg (by omega), if_pos i0, if_pos i1, if_pos j0, if_pos j1, if_neg (by omega)]) (Evs.now ⟨rfl, ?_, fun h => absurd h h1, fun _ => ?_⟩)
        · simp only [Int.tmod_eq_emod_of_nonneg hz.1]; exact hm
        · simp only [Int.tmod_eq_emod_of_nonneg hz.1]; exact hm'

theorem pp_brd_j1 (l : List Int) (h : ppRd l) (n p s w : Int) (hn : n ≤ 1000000) (hp : 0 ≤ p) (hp' : p ≤ 900000000) (hs : -1 ≤ s ∧ s ≤ 5) (hw : -1 ≤ w ∧ w ≤ 4) :
    Evs (fun k => spec_l20Brd.j1 k n l p s w) (fun r => (-1 ≤ r.1 ∧ r.1 ≤ 5) ∧ (-1 ≤ r.2.1 ∧ r.2.1 ≤ 4) ∧ p ≤ r.2.2 ∧ r.2.2 ≤ p + 3) := by
  refine Evs.step (fun k => by simp only [spec_l20Brd.j1]; try rfl) ?_
  refine Evs.bnd (pp_pick l h p n hp (by omega) (by omega)) ?_
  rintro ⟨v, q⟩ ⟨hq, h0, _, _⟩
  simp only at hq h0 ⊢
  refine Evs.ite (fun _ => ?_) (fun _ => Evs.now ⟨hs, hw, by simp only; omega, by simp only; omega⟩)
  refine Evs.bnd (pp_pick l h q 2 (by omega) (by omega) (by omega)) ?_
  rintro ⟨v2, q2⟩ ⟨hq2, h02, _, _⟩
  simp only at hq2 h02 ⊢
  refine Evs.ite (fun _ => ?_) (fun _ => ?_)
  · simp only [Option.bind_some]
    refine Evs.bnd (pp_pick l h q2 3 (by omega) (by omega) (by omega)) ?_
    rintro ⟨v3, q3⟩ ⟨hq3, h03, _, h13⟩
    simp only at hq3 h03 h13 ⊢
    have h13 := h13 (by omega)
    refine Evs.pos h03 (Evs.pos (by simp; omega) (Evs.now ⟨?_, hw, by simp only; omega, by simp only; omega⟩))
    have : v3 = 0 ∨ v3 = 1 ∨ v3 = 2 := by omega
    rcases this with rfl | rfl | rfl <;> simp [rd]
  · simp only [Option.bind_some]
    refine Evs.bnd (pp_pick l h q2 4 (by omega) (by omega) (by omega)) ?_
    rintro ⟨v3, q3⟩ ⟨hq3, h03, _, h13⟩
    simp only at hq3 h03 h13 ⊢
    have h13 := h13 (by omega)
    refine Evs.pos h03 (Evs.pos (by simp; omega) (Evs.now ⟨hs, ?_, by simp only; omega, by simp only; omega⟩))
    have : v3 = 0 ∨ v3 = 1 ∨ v3 = 2 ∨ v3 = 3 := by omega
    rcases this with rfl | rfl | rfl | rfl <;> simp [rd]
theorem pp_brd (l : List Int) (h : ppRd l) (n p : Int) (hn : n ≤ 1000000) (hp : 0 ≤ p) (hp' : p ≤ 800000000) :
    Evs (fun k => spec_l20Brd.f k l p n) (fun r => (-1 ≤ r.1 ∧ r.1 ≤ 5) ∧ (-1 ≤ r.2.1 ∧ r.2.1 ≤ 4) ∧ p ≤ r.2.2 ∧ r.2.2 ≤ p + 6) := by
  have two : ∀ q, p ≤ q → q ≤ p + 1 → Evs (fun k => (spec_l20Rd_pick.f k l q 3).bind fun a => (spec_l20Rd_pick.f k l a.2 3).bind fun b => spec_l20Brd.j1 k n l b.2 (wrap64 (1 + a.1)) (wrap64 (1 + b.1))) (fun r => (-1 ≤ r.1 ∧ r.1 ≤ 5) ∧ (-1 ≤ r.2.1 ∧ r.2.1 ≤ 4) ∧ p ≤ r.2.2 ∧ r.2.2 ≤ p + 6) := by
    intro q hq0 hq1
    refine Evs.bnd (pp_pick l h q 3 (by omega) (by omega) (by omega)) ?_
    rintro ⟨v2, q2⟩ ⟨hq2, h02, _, h12⟩
    simp only at hq2 h02 h12 ⊢
    have h12 := h12 (by omega)
    refine Evs.bnd (pp_pick l h q2 3 (by omega) (by omega) (by omega)) ?_
    rintro ⟨v3, q3⟩ ⟨hq3, h03, _, h13⟩
    simp only at hq3 h03 h13 ⊢
    have h13 := h13 (by omega)
    rw [pp_wrap_id (1 + v2) (by omega) (by omega), pp_wrap_id (1 + v3) (by omega) (by omega)]
    exact (pp_brd_j1 l h n q3 _ _ hn (by omega) (by omega) ⟨by omega, by omega⟩ ⟨by omega, by omega⟩).imp fun r ⟨a, b, c, d⟩ => ⟨a, b, by omega, by omega⟩
  unfold spec_l20Brd.f
  refine Evs.bnd (pp_pick l h p 4 hp (by omega) (by omega)) ?_
  rintro ⟨v, q⟩ ⟨hq, h0, _, h1⟩
  simp only at hq h0 h1 ⊢
  refine Evs.ite (fun hv => ?_) (fun hv => ?_)
  · refine Evs.step (fun k => by simp only [spec_l20Brd.j0]; rw [if_pos (by simp [hv])]; try rfl) ?_
    exact two q (by omega) (by omega)
  · by_cases hv1 : v = 1
    · refine Evs.step (fun k => by simp only [spec_l20Brd.j0]; rw [if_pos (by simp [hv1])]; try rfl) ?_
      exact two q (by omega) (by omega)
    · refine Evs.step (fun k => by simp only [spec_l20Brd.j0]; rw [if_neg (by simp [hv1])]; try rfl) ?_
      refine Evs.ite (fun _ => ?_) (fun _ => (pp_brd_j1 l h n q 0 0 hn (by omega) (by omega) ⟨by omega, by omega⟩ ⟨by omega, by omega⟩).imp fun r ⟨a, b, c, d⟩ => ⟨a, b, by omega, by omega⟩)
      refine Evs.bnd (pp_pick l h q 3 (by omega) (by omega) (by omega)) ?_
      rintro ⟨v2, q2⟩ ⟨hq2, h02, _, h12⟩
      simp only at hq2 h02 h12 ⊢
      refine Evs.ite (fun _ => ?_) (fun _ => ?_)
      · exact (pp_brd_j1 l h n q2 _ _ hn (by omega) (by omega) ⟨by omega, by omega⟩ ⟨by omega, by omega⟩).imp fun r ⟨a, b, c, d⟩ => ⟨a, b, by omega, by omega⟩
      · exact (pp_brd_j1 l h n q2 _ _ hn (by omega) (by omega) ⟨by omega, by omega⟩ ⟨by omega, by omega⟩).imp fun r ⟨a, b, c, d⟩ => ⟨a, b, by omega, by omega⟩

theorem pp_join (x y : ByteArray) (hx : x.size ≤ 30) (hy : y.size ≤ 10) : (ppJoin x y).size ≤ 30 := by
  unfold ppJoin
  split
  · omega
  · split
    · rename_i h
      rw [ByteArray.size_append, ByteArray.size_append]
      have : (⟨#[32]⟩ : ByteArray).size = 1 := rfl
      omega
    · exact hx
theorem pp_text_l (l : List Int) (h : ppRd l) : ∀ (n : Nat) (x : ByteArray) (p : Int), x.size ≤ 30 → 0 ≤ p → p + n ≤ 800000000 → n ≤ 10 → Evs (fun k => spec_l20Text.l k l n x p) (fun r => r.1.size ≤ 30 ∧ p ≤ r.2 ∧ r.2 ≤ p + n)
  | 0, x, p, hx, hp, hp', hn => Evs.cong (f := fun _ => some (x, p)) (fun _ => rfl) (Evs.now ⟨hx, by simp, by simp⟩)
  | n + 1, x, p, hx, hp, hp', hn => by
    unfold spec_l20Text.l
    refine Evs.bnd (pp_pick l h p 7 hp (by omega) (by omega)) ?_
    rintro ⟨v, q⟩ ⟨hq, h0, _, h1⟩
    simp only at hq h0 h1 ⊢
    have h1 := h1 (by omega)
    refine Evs.pos ⟨h0, h1, hx⟩ ((pp_text_l l h n _ q (pp_join _ _ hx (ppW7_size _)) (by omega) (by omega) (by omega)).imp fun r ⟨a, b, c⟩ => ⟨a, by omega, by omega⟩)
theorem pp_text (l : List Int) (h : ppRd l) (p : Int) (hp : 0 ≤ p) (hp' : p ≤ 700000000) : Evs (fun k => spec_l20Text.f k l p) (fun r => r.1.size ≤ 30 ∧ p ≤ r.2 ∧ r.2 ≤ p + 6) := by
  unfold spec_l20Text.f
  refine Evs.bnd (pp_pick l h p 6 hp (by omega) (by omega)) ?_
  rintro ⟨v, q⟩ ⟨hq, h0, _, h1⟩
  simp only at hq h0 h1 ⊢
  have h1 := h1 (by omega)
  refine Evs.pos ⟨h0, by omega⟩ ((pp_text_l l h v.toNat ⟨#[]⟩ q (by decide) (by omega) (by omega) (by omega)).imp fun r ⟨a, b, c⟩ => ⟨a, by omega, by omega⟩)
theorem pp_anyText (l : List Int) (h : ppRd l) (p n : Int) (hp : 0 ≤ p) (hp' : p ≤ 700000000) (hn : n ≤ 1000000) : Evs (fun k => spec_l20AnyText.f k l p n) (fun r => p ≤ r.2 ∧ r.2 ≤ p + 9) := by
  unfold spec_l20AnyText.f
  refine Evs.bnd (pp_text l h p hp hp') ?_
  rintro ⟨x, q⟩ ⟨hx, q0, q1⟩
  simp only at hx q0 q1 ⊢
  refine Evs.bnd (pp_pick l h q n (by omega) (by omega) hn) ?_
  rintro ⟨v, q2⟩ ⟨hq, _, _, _⟩
  simp only at hq ⊢
  refine Evs.ite (fun _ => Evs.now ⟨by simp only; omega, by simp only; omega⟩) (fun _ => Evs.pos (by omega) ?_)
  refine Evs.bnd (pp_pick l h q2 ((x.size : Int) + 1) (by omega) (by omega) (by omega)) ?_
  rintro ⟨d, q3⟩ ⟨hq3, d0, _, d1⟩
  simp only at hq3 d0 d1 ⊢
  have d1 := d1 (by omega)
  refine Evs.bnd (pp_pick l h q3 7 (by omega) (by omega) (by omega)) ?_
  rintro ⟨e, q4⟩ ⟨hq4, e0, _, e1⟩
  simp only at hq4 e0 e1 ⊢
  have e1 := e1 (by omega)
  exact Evs.pos ⟨d0, by omega, e0, e1⟩ (Evs.now ⟨by simp only; omega, by simp only; omega⟩)
theorem pp_cell_j (l : List Int) (h : ppRd l) (n : Int) (x : S71) (p : Int) (hn : n ≤ 1000000) (hp : 0 ≤ p) (hp' : p ≤ 600000000) : Evs (fun k => spec_l20Cell.j k l n x p) (fun r => p ≤ r.2 ∧ r.2 ≤ p + 11) := by
  unfold spec_l20Cell.j
  refine Evs.bnd (pp_pick l h p n hp (by omega) hn) ?_
  rintro ⟨v, q⟩ ⟨hq, _, _, _⟩
  simp only at hq ⊢
  refine Evs.ite (fun _ => Evs.now ⟨by simp only; omega, by simp only; omega⟩) (fun _ => ?_)
  refine Evs.bnd (pp_pick l h q 4 (by omega) (by omega) (by omega)) ?_
  rintro ⟨d, q2⟩ ⟨hq2, d0, _, d1⟩
  simp only at hq2 d0 d1 ⊢
  refine Evs.ite (fun _ => ?_) (fun _ => Evs.ite (fun _ => ?_) (fun _ => Evs.ite (fun _ => ?_) (fun _ => ?_)))
  · refine Evs.bnd (pp_anyText l h q2 1 (by omega) (by omega) (by omega)) ?_
    rintro ⟨t, q3⟩ ⟨a, b⟩
    exact Evs.now ⟨by simp only at *; omega, by simp only at *; omega⟩
  · refine Evs.bnd (pp_pick l h q2 3 (by omega) (by omega) (by omega)) ?_
    rintro ⟨e, q3⟩ ⟨hq3, e0, _, e1⟩
    simp only at hq3 e0 e1 ⊢
    exact Evs.pos ⟨e0, e1 (by omega)⟩ (Evs.now ⟨by simp only; omega, by simp only; omega⟩)
  · refine Evs.bnd (pp_pick l h q2 3 (by omega) (by omega) (by omega)) ?_
    rintro ⟨e, q3⟩ ⟨hq3, e0, _, e1⟩
    simp only at hq3 e0 e1 ⊢
    exact Evs.pos ⟨e0, e1 (by omega)⟩ (Evs.now ⟨by simp only; omega, by simp only; omega⟩)
  · refine Evs.bnd (pp_brd l h 1 q2 (by omega) (by omega) (by omega)) ?_
    rintro ⟨s, w, q3⟩ ⟨_, _, g0, g1⟩
    exact Evs.now ⟨by simp only at *; omega, by simp only at *; omega⟩
theorem pp_cell (l : List Int) (h : ppRd l) (p n : Int) (hn : n ≤ 1000000) (hp : 0 ≤ p) (hp' : p ≤ 500000000) : Evs (fun k => spec_l20Cell.f k l p n) (fun r => p ≤ r.2 ∧ r.2 ≤ p + 43) := by
  unfold spec_l20Cell.f
  refine Evs.bnd (pp_text l h p hp (by omega)) ?_
  rintro ⟨t, q1⟩ ⟨_, a1, b1⟩
  simp only at a1 b1 ⊢
  refine Evs.bnd (pp_pick l h q1 6 (by omega) (by omega) (by omega)) ?_
  rintro ⟨c, q2⟩ ⟨hq2, c0, _, c1⟩
  simp only at hq2 c0 c1 ⊢
  refine Evs.bnd (pp_pick l h q2 6 (by omega) (by omega) (by omega)) ?_
  rintro ⟨r, q3⟩ ⟨hq3, r0, _, r1⟩
  simp only at hq3 r0 r1 ⊢
  refine Evs.pos ⟨c0, c1 (by omega), r0, r1 (by omega)⟩ ?_
  refine Evs.bnd (pp_brd l h 999 q3 (by omega) (by omega) (by omega)) ?_
  rintro ⟨s1, w1, q4⟩ ⟨_, _, g0, g1⟩
  simp only at g0 g1 ⊢
  refine Evs.bnd (pp_brd l h 999 q4 (by omega) (by omega) (by omega)) ?_
  rintro ⟨s2, w2, q5⟩ ⟨_, _, g2, g3⟩
  simp only at g2 g3 ⊢
  refine Evs.bnd (pp_brd l h 999 q5 (by omega) (by omega) (by omega)) ?_
  rintro ⟨s3, w3, q6⟩ ⟨_, _, g4, g5⟩
  simp only at g4 g5 ⊢
  refine Evs.bnd (pp_brd l h 999 q6 (by omega) (by omega) (by omega)) ?_
  rintro ⟨s4, w4, q7⟩ ⟨_, _, g6, g7⟩
  simp only at g6 g7 ⊢
  exact (pp_cell_j l h n _ q7 hn (by omega) (by omega)).imp fun r ⟨a, b⟩ => ⟨by omega, by omega⟩

theorem pp_l1In (a b c : Int) : Evs (fun _ => spec_l1In.f a b c) (fun _ => True) := by
  unfold spec_l1In.f
  exact Evs.ite (fun _ => Evs.now trivial) (fun _ => Evs.now trivial)
theorem pp_txtOk (x : ByteArray) : Evs (fun k => spec_TxtOk.f k x) (fun _ => True) := by
  unfold spec_TxtOk.f
  refine Evs.ite (fun _ => Evs.now trivial) (fun hx => ?_)
  have loop : ∀ (d i : Nat), x.size - i = d → i ≤ x.size → Evs (fun k => spec_TxtOk.l0 k x (i : Int)) (fun _ => True) := by
    intro d
    induction d with
    | zero =>
      intro i hd hi
      exact Evs.step (f := fun _ => some true) (fun k => by simp only [spec_TxtOk.l0]; rw [if_neg (by omega)]) (Evs.now trivial)
    | succ d ih =>
      intro i hd hi
      have J : ∀ b, Evs (fun k => spec_TxtOk.j1 k x (i : Int) b) (fun _ => True) := by
        intro b
        refine Evs.step (fun k => by simp only [spec_TxtOk.j1]; rfl) ?_
        refine Evs.ite (fun _ => Evs.now trivial) (fun _ => Evs.pos (by omega) (Evs.pos (by omega) ?_))
        have n := ih (i + 1) (by omega) (by omega)
        rw [show (((i + 1 : Nat)) : Int) = wrap64 ((i : Int) + 1) by rw [pp_wrap_id _ (by omega) (by omega)]; rfl] at n
        refine Evs.ite (fun _ => n) (fun _ => ?_)
        refine Evs.bnd (pp_l1In _ _ _) (fun b _ => ?_)
        exact Evs.ite (fun _ => n) (fun _ => Evs.now trivial)
      refine Evs.step (fun k => by simp only [spec_TxtOk.l0]; rfl) ?_
      refine Evs.pos (by omega) (Evs.pos (by omega) (Evs.ite (fun _ => Evs.ite (fun _ => J _) (fun h0 => Evs.ite (fun _ => J _) (fun _ => ?_))) (fun _ => J _)))
      rw [pp_wrap_id ((i : Int) - 1) (by omega) (by omega)]
      exact Evs.pos (by omega) (Evs.pos (by omega) (J _))
  exact loop _ 0 rfl (by omega)
theorem pp_brdOk (a b : Int) : Evs (fun k => spec_BrdOk.f k a b) (fun _ => True) := by
  have J : ∀ c, Evs (fun k => spec_BrdOk.j0 k c a b) (fun _ => True) := by
    intro c
    refine Evs.step (fun k => by simp only [spec_BrdOk.j0]; rfl) ?_
    refine Evs.ite (fun _ => Evs.now trivial) (fun _ => ?_)
    refine Evs.bnd (pp_l1In _ _ _) (fun t _ => ?_)
    exact Evs.ite (fun _ => Evs.bnd (pp_l1In _ _ _) (fun t _ => Evs.now trivial)) (fun _ => Evs.now trivial)
  unfold spec_BrdOk.f
  exact Evs.ite (fun _ => J _) (fun _ => J _)
/-- A cell that is ok goes over one to four columns and rows. -/
def ppCw (c : S71) : Prop := 1 ≤ c.f1 ∧ c.f1 ≤ 4 ∧ 1 ≤ c.f2 ∧ c.f2 ≤ 4
theorem pp_l1InX (x c d : Int) : spec_l1In.f x c d = some (decide (c ≤ x ∧ x ≤ d)) := by
  unfold spec_l1In.f
  split
  · congr 1; apply decide_eq_decide.2; omega
  · congr 1; symm; apply decide_eq_false; omega
theorem pp_cellOk (x : ByteArray) (a1 a2 a3 a4 a5 a6 a7 a8 a9 a10 : Int) : Evs (fun k => spec_CellOk.f k x a1 a2 a3 a4 a5 a6 a7 a8 a9 a10) (fun r => r = true → (1 ≤ a1 ∧ a1 ≤ 4) ∧ 1 ≤ a2 ∧ a2 ≤ 4) := by
  unfold spec_CellOk.f
  have F : Evs (fun _ => some false) (fun r => r = true → (1 ≤ a1 ∧ a1 ≤ 4) ∧ 1 ≤ a2 ∧ a2 ≤ 4) := Evs.now (fun h => by cases h)
  refine Evs.bnd (pp_txtOk _) (fun _ _ => Evs.ite (fun _ => ?_) (fun _ => F))
  rw [pp_l1InX]
  simp only [Option.bind_some]
  refine Evs.ite (fun h1 => ?_) (fun _ => F)
  rw [pp_l1InX]
  simp only [Option.bind_some]
  refine Evs.ite (fun h2 => ?_) (fun _ => F)
  have h1 := of_decide_eq_true h1
  have h2 := of_decide_eq_true h2
  refine Evs.bnd (pp_brdOk _ _) (fun _ _ => Evs.ite (fun _ => ?_) (fun _ => F))
  refine Evs.bnd (pp_brdOk _ _) (fun _ _ => Evs.ite (fun _ => ?_) (fun _ => F))
  refine Evs.bnd (pp_brdOk _ _) (fun _ _ => Evs.ite (fun _ => ?_) (fun _ => F))
  exact Evs.bnd (pp_brdOk _ _) (fun _ _ => Evs.now (fun _ => ⟨h1, h2⟩))
theorem pp_l2Col (a b : Int) : Evs (fun _ => spec_l2Col.f a b) (fun _ => True) := by
  unfold spec_l2Col.f
  refine Evs.ite (fun _ => Evs.now trivial) (fun _ => Evs.ite (fun _ => ?_) (fun _ => Evs.ite (fun _ => ?_) (fun _ => Evs.now trivial)))
  · exact Evs.bnd (pp_l1In _ _ _) (fun _ _ => Evs.now trivial)
  · exact Evs.bnd (pp_l1In _ _ _) (fun _ _ => Evs.now trivial)
theorem pp_tblOk (cs : List S64) (hd ft : Int) (rs : List S67) (gp : Int) : Evs (fun k => spec_TblOk.f k cs hd ft rs gp) (fun r => r = true → rs.length ≤ 8 ∧ ∀ x ∈ rs, x.f0.length ≤ 5 ∧ ∀ c ∈ x.f0, ppCw c) := by
  have L : rs.length ≤ 8 → ∀ (d i : Nat), rs.length - i = d → i ≤ rs.length → (∀ j (hj : j < rs.length), j < i → rs[j].f0.length ≤ 5 ∧ ∀ c ∈ rs[j].f0, ppCw c) → Evs (fun k => spec_TblOk.l1 k (i : Int) cs hd ft rs gp) (fun r => r = true → rs.length ≤ 8 ∧ ∀ x ∈ rs, x.f0.length ≤ 5 ∧ ∀ c ∈ x.f0, ppCw c) := by
    intro h8 d
    induction d with
    | zero =>
      intro i hd' hi hI
      refine Evs.step (f := fun _ => some true) (fun k => by simp only [spec_TblOk.l1]; rw [if_neg (by omega)]) (Evs.now fun _ => ⟨h8, fun x hx => ?_⟩)
      obtain ⟨j, hj, rfl⟩ := List.getElem_of_mem hx
      exact hI j hj (by omega)
    | succ d ih =>
      intro i hd' hi hI
      have hir : rd_T67 rs (i : Int) = rs[i] := pp_getD rs i _ (by omega)
      refine Evs.step (fun k => by simp only [spec_TblOk.l1]; rfl) ?_
      refine Evs.pos (by omega) (Evs.pos (by omega) (Evs.ite (fun _ => Evs.now (fun h => by cases h)) (fun h5 => ?_)))
      rw [hir] at h5
      have n := fun (hc : ∀ c ∈ rs[i].f0, ppCw c) => ih (i + 1) (by omega) (by omega) (fun j hj hji => by
        by_cases e : j = i
        · subst e; exact ⟨by omega, hc⟩
        · exact hI j hj (by omega))
      rw [show (((i + 1 : Nat)) : Int) = wrap64 ((i : Int) + 1) by rw [pp_wrap_id _ (by omega) (by omega)]; rfl] at n
      have M : ∀ (d j : Nat), rs[i].f0.length - j = d → j ≤ rs[i].f0.length → (∀ q (hq : q < rs[i].f0.length), q < j → ppCw rs[i].f0[q]) → Evs (fun k => spec_TblOk.l2 k (i : Int) (j : Int) cs hd ft rs gp) (fun r => r = true → rs.length ≤ 8 ∧ ∀ x ∈ rs, x.f0.length ≤ 5 ∧ ∀ c ∈ x.f0, ppCw c) := by
        intro d
        induction d with
        | zero =>
          intro j hd2 hj hJ
          refine Evs.step (fun k => by simp only [spec_TblOk.l2]; rw [hir]) ?_
          exact Evs.pos (by omega) (Evs.pos (by omega) (Evs.neg (by omega) (n (fun c hc => by
            obtain ⟨q, hq, rfl⟩ := List.getElem_of_mem hc
            exact hJ q hq (by omega)))))
        | succ d ih2 =>
          intro j hd2 hj hJ
          have hjr : rd_T71 rs[i].f0 (j : Int) = rs[i].f0[j] := pp_getD rs[i].f0 j _ (by omega)
          refine Evs.step (fun k => by simp only [spec_TblOk.l2]; rw [hir]) ?_
          refine Evs.pos (by omega) (Evs.pos (by omega) (Evs.pos (by omega) (Evs.pos (by omega) ?_)))
          refine Evs.bnd (pp_cellOk _ _ _ _ _ _ _ _ _ _ _) (fun b hb => ?_)
          refine Evs.ite (fun h => ?_) (fun _ => Evs.now (fun h => by cases h))
          have hb := hb h
          rw [hjr] at hb
          have n2 := ih2 (j + 1) (by omega) (by omega) (fun q hq hqj => by
            by_cases e : q = j
            · subst e; exact ⟨hb.1.1, hb.1.2, hb.2.1, hb.2.2⟩
            · exact hJ q hq (by omega))
          rw [show (((j + 1 : Nat)) : Int) = wrap64 ((j : Int) + 1) by rw [pp_wrap_id _ (by omega) (by omega)]; rfl] at n2
          exact n2
      exact M _ 0 rfl (by omega) (fun q _ h => absurd h (Nat.not_lt_zero _))
  have K : cs.length ≤ 8 → rs.length ≤ 8 → ∀ (d i : Nat), cs.length - i = d → i ≤ cs.length → Evs (fun k => spec_TblOk.l0 k (i : Int) cs hd ft rs gp) (fun r => r = true → rs.length ≤ 8 ∧ ∀ x ∈ rs, x.f0.length ≤ 5 ∧ ∀ c ∈ x.f0, ppCw c) := by
    intro h8 h8' d
    induction d with
    | zero =>
      intro i hd' hi
      exact Evs.step (f := fun k => spec_TblOk.l1 k ((0 : Nat) : Int) cs hd ft rs gp) (fun k => by simp only [spec_TblOk.l0]; rw [if_neg (by omega)]; rfl) (L h8' _ 0 rfl (by omega) (fun j _ h => absurd h (Nat.not_lt_zero _)))
    | succ d ih =>
      intro i hd' hi
      have n := ih (i + 1) (by omega) (by omega)
      rw [show (((i + 1 : Nat)) : Int) = wrap64 ((i : Int) + 1) by rw [pp_wrap_id _ (by omega) (by omega)]; rfl] at n
      refine Evs.step (fun k => by simp only [spec_TblOk.l0]; rfl) ?_
      refine Evs.pos (by omega) (Evs.pos (by omega) ?_)
      refine Evs.bnd (pp_l2Col _ _) (fun b _ => ?_)
      exact Evs.ite (fun _ => n) (fun _ => Evs.now (fun h => by cases h))
  have J0 : Evs (fun k => spec_TblOk.j0 k true cs hd ft rs gp) (fun r => r = true → rs.length ≤ 8 ∧ ∀ x ∈ rs, x.f0.length ≤ 5 ∧ ∀ c ∈ x.f0, ppCw c) := Evs.step (f := fun _ => some false) (fun k => by simp only [spec_TblOk.j0]; rfl) (Evs.now (fun h => by cases h))
  have J1 : cs.length ≤ 8 → rs.length ≤ 8 → ∀ b, Evs (fun k => spec_TblOk.j0 k b cs hd ft rs gp) (fun r => r = true → rs.length ≤ 8 ∧ ∀ x ∈ rs, x.f0.length ≤ 5 ∧ ∀ c ∈ x.f0, ppCw c) := by
    intro h8 h8' b
    refine Evs.step (fun k => by simp only [spec_TblOk.j0]; rfl) ?_
    exact Evs.ite (fun _ => Evs.now (fun h => by cases h)) (fun _ => K h8 h8' _ 0 rfl (by omega))
  unfold spec_TblOk.f
  by_cases h8' : rs.length ≤ 8
  · refine Evs.bnd (pp_l1In _ _ _) (fun b _ => ?_)
    refine Evs.ite (fun _ => Evs.ite (fun _ => J0) (fun h8 => ?_)) (fun _ => J0)
    refine Evs.bnd (pp_l1In _ _ _) (fun b _ => Evs.ite (fun _ => ?_) (fun _ => J0))
    refine Evs.bnd (pp_l1In _ _ _) (fun b _ => Evs.ite (fun _ => ?_) (fun _ => J0))
    exact Evs.bnd (pp_l1In _ _ _) (fun b _ => J1 (by omega) h8' _)
  · have e : spec_l1In.f (rs.length : Int) 1 8 = some false := by
      unfold spec_l1In.f
      split
      · rw [decide_eq_false (by omega)]
      · rfl
    rw [e]
    simp only [Option.bind_some]
    exact Evs.neg (by decide) J0

/-- Whether a number is one of so many from another one on. -/
def ppAmong (n f m : Int) : Bool := decide (f ≤ n) && (decide (0 < m) && decide (n - f < m))
theorem pp_implAmong (n f m : Int) (hn : (Lit.int .i64 n).wf = true) (hf : (Lit.int .i64 f).wf = true) (hm : (Lit.int .i64 m).wf = true) : impl_among.f n f m = some (ppAmong n f m) := by
  have := pp_wf n hn
  have := pp_wf f hf
  have := pp_wf m hm
  unfold impl_among.f ppAmong
  by_cases h0 : n ≥ f
  · by_cases h1 : m > 0
    · rw [if_pos h0, if_pos h1]
      simp only [IntKind.wrap_u64, Option.some.injEq]
      rw [Bool.eq_iff_iff]
      simp
      omega
    · rw [if_pos h0, if_neg h1]
      simp
      omega
  · rw [if_neg h0]
    simp
    omega

theorem pp_specAmong (n f m : Int) (hn : (Lit.int .i64 n).wf = true) (hf : (Lit.int .i64 f).wf = true) (hm : (Lit.int .i64 m).wf = true) (k : Nat) (hk : 0 < k) : spec_l1Among.f k n f m = some (ppAmong n f m) := by
  have := pp_wf n hn
  have := pp_wf f hf
  have := pp_wf m hm
  obtain ⟨k, rfl⟩ : ∃ q, k = q + 1 := ⟨k - 1, by omega⟩
  unfold spec_l1Among.f ppAmong
  simp only [spec_l1Among.j0]
  by_cases h0 : n < f
  · rw [if_pos h0]
    simp
    omega
  · rw [if_neg h0]
    by_cases h1 : m ≤ 0
    · rw [if_pos (by simpa using h1)]
      simp
      omega
    · rw [if_neg (by simpa using h1)]
      by_cases h2 : f < 0
      · rw [if_pos h2]
        by_cases h3 : n ≥ 0
        · rw [if_pos h3, pp_wrap_id _ (by omega) (by omega)]
          simp only [Option.some.injEq]
          rw [Bool.eq_iff_iff]
          simp
          omega
        · rw [if_neg h3, pp_wrap_id _ (by omega) (by omega)]
          simp only [Option.some.injEq]
          rw [Bool.eq_iff_iff]
          simp
          omega
      · rw [if_neg h2, pp_wrap_id _ (by omega) (by omega)]
        simp only [Option.some.injEq]
        rw [Bool.eq_iff_iff]
        simp
        omega

theorem pp_rdGC {l : List S34} {i : Nat} (h : i < l.length) : rd_T34 l (i : Int) = l[i] := pp_getD l i _ h

/-- All numbers of a cell are Go's. -/
def ppWfC (x : S34) : Prop := (Lit.int .i64 x.f0).wf = true ∧ (Lit.int .i64 x.f1).wf = true ∧ (Lit.int .i64 x.f2).wf = true ∧ (Lit.int .i64 x.f3).wf = true ∧ (Lit.int .i64 x.f4).wf = true
/-- The cell has the slot. -/
def ppHold (x : S34) (row col : Int) : Bool := ppAmong row x.f0 x.f2 && ppAmong col x.f1 x.f3
theorem pp_hasB (x : S34) (row col : Int) (hx : ppWfC x) (hr : (Lit.int .i64 row).wf = true) (hc : (Lit.int .i64 col).wf = true) : ppHasB x row col = ppHold x row col := by
  unfold ppHasB impl_GrdCell_has.f ppHold
  rw [pp_implAmong row x.f0 x.f2 hr hx.1 hx.2.2.1, pp_implAmong col x.f1 x.f3 hc hx.2.1 hx.2.2.2.1]
  simp only [Option.bind_some]
  cases ppAmong row x.f0 x.f2 <;> rfl
theorem pp_holds (x : S34) (row col : Int) (hx : ppWfC x) (hr : (Lit.int .i64 row).wf = true) (hc : (Lit.int .i64 col).wf = true) (k : Nat) (hk : 0 < k) : spec_l3Holds.f k x.f0 x.f1 x.f2 x.f3 x.f4 row col = some (ppHold x row col) := by
  unfold spec_l3Holds.f ppHold
  rw [pp_specAmong row x.f0 x.f2 hr hx.1 hx.2.2.1 k hk, pp_specAmong col x.f1 x.f3 hc hx.2.1 hx.2.2.2.1 k hk]
  simp only [Option.bind_some]
  cases ppAmong row x.f0 x.f2 <;> rfl
/-- The first cell that has a slot. -/
def ppAt (l : List S34) (row col : Int) : Int := ppIdx (fun x => ppHold x row col) l
theorem ppIdx_congr {α : Type} (p q : α → Bool) (l : List α) (h : ∀ x ∈ l, p x = q x) : ppIdx p l = ppIdx q l := by
  unfold ppIdx
  have : l.findIdx? p = l.findIdx? q := by
    induction l with
    | nil => rfl
    | cons x xs ih =>
      rw [List.findIdx?_cons, List.findIdx?_cons, h x List.mem_cons_self, ih (fun y hy => h y (List.mem_cons_of_mem _ hy))]
  rw [this]
theorem pp_specGrdAt (a b : Int) (l : List S34) (row col : Int) (hn : l.length ≤ 9223372036854775807) (hl : ∀ x ∈ l, ppWfC x) (hr : (Lit.int .i64 row).wf = true) (hc : (Lit.int .i64 col).wf = true) (k : Nat) (hk : l.length + 1 < k) :
    spec_GrdAt.f k a b l row col = some (ppAt l row col) := by
  unfold spec_GrdAt.f
  obtain ⟨r, hr', h⟩ := pp_lp (fun k (_ : Unit) i => spec_GrdAt.l0 (k + 1) row col i a b l) l.length (fun i _ => ∀ j (hj : j < l.length), j < i → ppHold l[j] row col = false) (fun r => r = ppAt l row col)
    (fun k s i hi hI => by
      simp only [spec_GrdAt.l0]
      rw [if_pos (by omega), if_pos (by omega), pp_rdGC hi, pp_holds l[i] row col (hl _ (List.getElem_mem hi)) hr hc (k + 1) (by omega), pp_wrap_id _ (by omega) (by omega)]
      simp only [Option.bind_some]
      cases hp : ppHold l[i] row col with
      | true => exact .inr ⟨i, by unfold ppAt; rw [ppIdx_hit _ l i hi hp hI], by simp⟩
      | false => exact .inl ⟨(), fun j hj hji => by
          by_cases e : j = i
          · subst e; exact hp
          · exact hI j hj (by omega), by simp [spec_GrdAt.l0]⟩)
    (fun k s hI => by
      simp only [spec_GrdAt.l0]
      rw [if_neg (by omega)]
      exact ⟨-1, by unfold ppAt; rw [ppIdx_miss _ l (fun j hj => hI j hj hj)], rfl⟩) l.length 0 () (k - 1) (by omega) (by omega) (fun j _ h => absurd h (Nat.not_lt_zero _)) (by omega)
  rw [← hr', ← h]
  obtain ⟨k, rfl⟩ : ∃ q, k = q + 1 := ⟨k - 1, by omega⟩
  rfl

theorem pp_tab_c (l : List Int) (h : ppRd l) : ∀ (n : Nat) (xs : List S64) (p : Int), 0 ≤ p → p + 3 * n ≤ 400000000 → n ≤ 10 → Evs (fun k => spec_l20Table.lc k l n xs p) (fun r => p ≤ r.2 ∧ r.2 ≤ p + 3 * n)
  | 0, xs, p, hp, hp', hn => Evs.cong (f := fun _ => some (xs, p)) (fun _ => rfl) (Evs.now ⟨by simp, by simp⟩)
  | n + 1, xs, p, hp, hp', hn => by
    unfold spec_l20Table.lc
    refine Evs.bnd (pp_pick l h p 30 hp (by omega) (by omega)) ?_
    rintro ⟨a, q⟩ ⟨hq, a0, _, a1⟩
    simp only at hq a0 a1 ⊢
    refine Evs.bnd (pp_pick l h q 4 (by omega) (by omega) (by omega)) ?_
    rintro ⟨b, q2⟩ ⟨hq2, b0, _, b1⟩
    simp only at hq2 b0 b1 ⊢
    refine Evs.bnd (pp_pick l h q2 4 (by omega) (by omega) (by omega)) ?_
    rintro ⟨c, q3⟩ ⟨hq3, c0, _, c1⟩
    simp only at hq3 c0 c1 ⊢
    exact Evs.pos ⟨b0, b1 (by omega), c0, c1 (by omega)⟩ ((pp_tab_c l h n _ q3 (by omega) (by omega) (by omega)).imp fun r ⟨a, b⟩ => ⟨by omega, by omega⟩)
theorem pp_tab_s (l : List Int) (h : ppRd l) : ∀ (n : Nat) (xs : List S71) (p : Int), 0 ≤ p → p + 43 * n ≤ 400000000 → n ≤ 10 → Evs (fun k => spec_l20Table.ls k l n xs p) (fun r => p ≤ r.2 ∧ r.2 ≤ p + 43 * n)
  | 0, xs, p, hp, hp', hn => Evs.cong (f := fun _ => some (xs, p)) (fun _ => rfl) (Evs.now ⟨by simp, by simp⟩)
  | n + 1, xs, p, hp, hp', hn => by
    unfold spec_l20Table.ls
    refine Evs.bnd (pp_cell l h p 99999 (by omega) hp (by omega)) ?_
    rintro ⟨c, q⟩ ⟨q0, q1⟩
    simp only at q0 q1 ⊢
    exact (pp_tab_s l h n _ q (by omega) (by omega) (by omega)).imp fun r ⟨a, b⟩ => ⟨by omega, by omega⟩
theorem pp_tab_r (l : List Int) (h : ppRd l) : ∀ (n : Nat) (xs : List S67) (p : Int), 0 ≤ p → p + 200 * n ≤ 300000000 → n ≤ 10 → Evs (fun k => spec_l20Table.lr k l n xs p) (fun r => p ≤ r.2 ∧ r.2 ≤ p + 200 * n)
  | 0, xs, p, hp, hp', hn => Evs.cong (f := fun _ => some (xs, p)) (fun _ => rfl) (Evs.now ⟨by simp, by simp⟩)
  | n + 1, xs, p, hp, hp', hn => by
    unfold spec_l20Table.lr
    refine Evs.bnd (pp_pick l h p 4 hp (by omega) (by omega)) ?_
    rintro ⟨a, q⟩ ⟨hq, a0, _, a1⟩
    simp only at hq a0 a1 ⊢
    refine Evs.bnd (pp_pick l h q 5 (by omega) (by omega) (by omega)) ?_
    rintro ⟨b, q2⟩ ⟨hq2, b0, _, b1⟩
    simp only at hq2 b0 b1 ⊢
    have b1 := b1 (by omega)
    refine Evs.pos ⟨b0, by omega⟩ ?_
    refine Evs.bnd (pp_tab_s l h b.toNat [] q2 (by omega) (by omega) (by omega)) ?_
    rintro ⟨c, q3⟩ ⟨g0, g1⟩
    simp only at g0 g1 ⊢
    exact (pp_tab_r l h n _ q3 (by omega) (by omega) (by omega)).imp fun r ⟨a, b⟩ => ⟨by omega, by omega⟩
theorem pp_tab_f (t : PTab) (p : Int) : Evs (fun k => spec_l20Table.fin k t p) (fun r => r.2 = p) := by
  unfold spec_l20Table.fin
  exact Evs.bnd (pp_tblOk _ _ _ _ _) (fun _ _ => Evs.now rfl)
theorem pp_table (l : List Int) (h : ppRd l) (p : Int) (hp : 0 ≤ p) (hp' : p ≤ 200000000) : Evs (fun k => spec_l20Table.f k l p) (fun r => p ≤ r.2 ∧ r.2 ≤ p + 2000) := by
  unfold spec_l20Table.f
  refine Evs.bnd (pp_pick l h p 4 hp (by omega) (by omega)) ?_
  rintro ⟨gap, q⟩ ⟨hq, _, _, _⟩
  simp only at hq ⊢
  refine Evs.bnd (pp_pick l h q 6 (by omega) (by omega) (by omega)) ?_
  rintro ⟨nc, q2⟩ ⟨hq2, c0, _, c1⟩
  simp only at hq2 c0 c1 ⊢
  have c1 := c1 (by omega)
  refine Evs.pos ⟨c0, by omega⟩ ?_
  refine Evs.bnd (pp_tab_c l h nc.toNat [] q2 (by omega) (by omega) (by omega)) ?_
  rintro ⟨cols, q3⟩ ⟨g0, g1⟩
  simp only at g0 g1 ⊢
  refine Evs.bnd (pp_pick l h q3 6 (by omega) (by omega) (by omega)) ?_
  rintro ⟨nr, q4⟩ ⟨hq4, r0, _, r1⟩
  simp only at hq4 r0 r1 ⊢
  have r1 := r1 (by omega)
  refine Evs.pos ⟨r0, by omega⟩ ?_
  refine Evs.bnd (pp_tab_r l h (nr.toNat + 1) [] q4 (by omega) (by omega) (by omega)) ?_
  rintro ⟨rows, q5⟩ ⟨g2, g3⟩
  simp only at g2 g3 ⊢
  refine Evs.bnd (pp_pick l h q5 2 (by omega) (by omega) (by omega)) ?_
  rintro ⟨hf, q6⟩ ⟨hq6, _, _, _⟩
  simp only at hq6 ⊢
  refine Evs.ite (fun _ => ?_) (fun _ => (pp_tab_f _ _).imp fun r e => ⟨by omega, by omega⟩)
  refine Evs.bnd (pp_pick l h q6 2 (by omega) (by omega) (by omega)) ?_
  rintro ⟨hd, q7⟩ ⟨hq7, d0, _, d1⟩
  simp only at hq7 d0 d1 ⊢
  have d1 := d1 (by omega)
  refine Evs.bnd (pp_pick l h q7 2 (by omega) (by omega) (by omega)) ?_
  rintro ⟨ft, q8⟩ ⟨hq8, f0, _, f1⟩
  simp only at hq8 f0 f1 ⊢
  have f1 := f1 (by omega)
  exact Evs.pos ⟨d0, by omega, f0, by omega⟩ ((pp_tab_f _ _).imp fun r e => ⟨by omega, by omega⟩)
theorem pp_meets (a0 a1 a2 a3 a4 b0 b1 b2 b3 b4 : Int) : Evs (fun _ => spec_l3Meets.f a0 a1 a2 a3 a4 b0 b1 b2 b3 b4) (fun _ => True) := by
  unfold spec_l3Meets.f
  exact Evs.ite (fun _ => Evs.ite (fun _ => Evs.ite (fun _ => Evs.now trivial) (fun _ => Evs.now trivial)) (fun _ => Evs.now trivial)) (fun _ => Evs.now trivial)
theorem pp_free (ds : List S34) (hl : ds.length ≤ 1000000) (b0 b1 b2 b3 b4 : Int) : Evs (fun k => spec_l3Free.f k ds b0 b1 b2 b3 b4) (fun _ => True) := by
  unfold spec_l3Free.f
  have loop : ∀ (d i : Nat), ds.length - i = d → i ≤ ds.length → Evs (fun k => spec_l3Free.l0 k ds (i : Int) b0 b1 b2 b3 b4) (fun _ => True) := by
    intro d
    induction d with
    | zero =>
      intro i hd hi
      exact Evs.step (f := fun _ => some true) (fun k => by simp only [spec_l3Free.l0]; rw [if_neg (by omega)]) (Evs.now trivial)
    | succ d ih =>
      intro i hd hi
      have n := ih (i + 1) (by omega) (by omega)
      rw [show (((i + 1 : Nat)) : Int) = wrap64 ((i : Int) + 1) by rw [pp_wrap_id _ (by omega) (by omega)]; rfl] at n
      refine Evs.step (fun k => by simp only [spec_l3Free.l0]; rfl) ?_
      refine Evs.pos (by omega) (Evs.pos (by omega) ?_)
      refine Evs.bnd (pp_meets _ _ _ _ _ _ _ _ _ _) (fun b _ => ?_)
      exact Evs.ite (fun _ => Evs.now trivial) (fun _ => n)
  exact loop _ 0 rfl (by omega)
theorem ppWf_wrap (x : Int) : (Lit.int .i64 (wrap64 x)).wf = true := pp_wfi _ (by unfold wrap64; omega) (by unfold wrap64; omega)
theorem pp_fit (ds : List S34) (hl : ds.length ≤ 1000000) : ∀ (n : Nat) (t : S34), Evs (fun k => spec_l3Of.fit k ds n t) (fun u => u.f0 = t.f0 ∧ (t.f1 ≤ u.f1 ∧ u.f1 ≤ t.f1 + n) ∧ u.f2 = t.f2 ∧ u.f3 = t.f3 ∧ u.f4 = t.f4)
  | 0, t => Evs.cong (f := fun _ => some t) (fun _ => rfl) (Evs.now ⟨rfl, by omega, rfl, rfl, rfl⟩)
  | n + 1, t => by
    unfold spec_l3Of.fit
    refine Evs.bnd (pp_free ds hl _ _ _ _ _) (fun b _ => ?_)
    refine Evs.ite (fun _ => Evs.now ⟨rfl, by omega, rfl, rfl, rfl⟩) (fun _ => (pp_fit ds hl n _).imp fun u hu => ?_)
    simp only at hu
    exact ⟨hu.1, by omega, hu.2.2⟩
theorem pp_max (a b : Int) : Evs (fun _ => spec_l1Max.f a b) (fun r => r = a ∨ r = b) := by
  unfold spec_l1Max.f
  exact Evs.ite (fun _ => Evs.now (by simp)) (fun _ => Evs.now (by simp))
theorem pp_end (cs : List S64) (hd ft : Int) (rs : List S67) (gp i : Int) : Evs (fun _ => spec_l2End.f cs hd ft rs gp i) (fun _ => True) := by
  have : Evs (fun _ => spec_l2Part.f cs hd ft rs gp i) (fun _ => True) := by
    unfold spec_l2Part.f
    exact Evs.ite (fun _ => Evs.now trivial) (fun _ => Evs.ite (fun _ => Evs.now trivial) (fun _ => Evs.now trivial))
  unfold spec_l2End.f
  exact Evs.bnd this (fun _ _ => Evs.ite (fun _ => Evs.now trivial) (fun _ => Evs.ite (fun _ => Evs.now trivial) (fun _ => Evs.now trivial)))
theorem pp_of_c (cs : List S64) (hd ft : Int) (rs : List S67) (gp : Int) (r : List S71) (i : Nat) (hi : i ≤ 1000) (hr : ∀ c ∈ r, ppCw c) : ∀ (m j : Nat) (wd : Int) (ds : List S34), ds.length + m ≤ 1000 → j + m = r.length → j + m ≤ 1000 → (Lit.int .i64 wd).wf = true → (∀ x ∈ ds, ppWfC x) → Evs (fun k => spec_l3Of.cs k cs hd ft rs gp r i m j wd ds) (fun q => q.2.length = ds.length + m ∧ (Lit.int .i64 q.1).wf = true ∧ ∀ x ∈ q.2, ppWfC x)
  | 0, j, wd, ds, h, hj, hj', hw, hd' => Evs.cong (f := fun _ => some (wd, ds)) (fun _ => rfl) (Evs.now ⟨rfl, hw, hd'⟩)
  | m + 1, j, wd, ds, h, hj, hj', hw, hd' => by
    unfold spec_l3Of.cs
    have hjr : rd_T71 r (j : Int) = r[j] := pp_getD r j _ (by omega)
    obtain ⟨c1, c2, c3, c4⟩ := hr r[j] (List.getElem_mem _)
    rw [hjr]
    refine Evs.bnd (pp_end _ _ _ _ _ _) (fun e _ => ?_)
    refine Evs.bnd (pp_fit ds (by omega) _ _) (fun t ht => ?_)
    simp only at ht
    obtain ⟨t0, t1, t2, t3, t4⟩ := ht
    have htw : ppWfC t := by
      refine ⟨pp_wfi _ (by omega) (by omega), pp_wfi _ (by omega) (by omega), ?_, pp_wfi _ (by omega) (by omega), pp_wfi _ (by omega) (by omega)⟩
      rw [t2]
      split
      · exact ppWf_wrap _
      · exact pp_wfi _ (by omega) (by omega)
    refine Evs.bnd (pp_max _ _) (fun w hwm => ?_)
    have hww : (Lit.int .i64 w).wf = true := by
      rcases hwm with rfl | rfl
      · exact hw
      · exact ppWf_wrap _
    refine Evs.pos (by omega) ((pp_of_c cs hd ft rs gp r i hi hr m (j + 1) w (ds ++ [t]) (by simp; omega) (by omega) (by omega) hww (fun x hx => ?_)).imp fun q e => ?_)
    · rcases List.mem_append.1 hx with h | h
      · exact hd' x h
      · rw [List.mem_singleton.1 h]; exact htw
    · refine ⟨?_, e.2⟩
      have e := e.1
      simp at e
      omega
theorem pp_of_r (cs : List S64) (hd ft : Int) (rs : List S67) (gp : Int) (h8 : rs.length ≤ 8) (hr : ∀ x ∈ rs, x.f0.length ≤ 5 ∧ ∀ c ∈ x.f0, ppCw c) : ∀ (n i : Nat) (wd : Int) (ds : List S34), i + n = rs.length → ds.length + 5 * n ≤ 900 → (Lit.int .i64 wd).wf = true → (∀ x ∈ ds, ppWfC x) → Evs (fun k => spec_l3Of.rs k cs hd ft rs gp n i wd ds) (fun q => q.2.length ≤ ds.length + 5 * n ∧ (Lit.int .i64 q.1).wf = true ∧ ∀ x ∈ q.2, ppWfC x)
  | 0, i, wd, ds, _, h, hw, hd' => Evs.cong (f := fun _ => some (wd, ds)) (fun _ => rfl) (Evs.now ⟨Nat.le_refl _, hw, hd'⟩)
  | n + 1, i, wd, ds, hi, h, hw, hd' => by
    unfold spec_l3Of.rs
    have hir : rd_T67 rs (i : Int) = rs[i] := pp_getD rs i _ (by omega)
    have h5 := hr rs[i] (List.getElem_mem _)
    rw [hir]
    refine Evs.bnd (pp_of_c cs hd ft rs gp _ i (by omega) h5.2 _ 0 wd ds (by omega) (by omega) (by omega) hw hd') ?_
    rintro ⟨w, d2⟩ ⟨e, ew, ed⟩
    simp only at e ew ed ⊢
    exact (pp_of_r cs hd ft rs gp h8 hr n (i + 1) w d2 (by omega) (by omega) ew ed).imp fun q e2 => ⟨by omega, e2.2⟩
theorem pp_tblBig (cs : List S64) (hd ft : Int) (rs : List S67) (gp : Int) (h : ¬ cs.length ≤ 8) : Evs (fun k => spec_TblOk.f k cs hd ft rs gp) (fun r => r = false) := by
  have J0 : Evs (fun k => spec_TblOk.j0 k true cs hd ft rs gp) (fun r => r = false) := Evs.step (f := fun _ => some false) (fun k => by simp only [spec_TblOk.j0]; rfl) (Evs.now rfl)
  unfold spec_TblOk.f
  refine Evs.bnd (pp_l1In _ _ _) (fun b _ => ?_)
  exact Evs.ite (fun _ => Evs.pos (by omega) J0) (fun _ => J0)
theorem pp_grdOf (cs : List S64) (hd ft : Int) (rs : List S67) (gp : Int) : Evs (fun k => spec_GrdOf.f k cs hd ft rs gp) (fun r => r.2.2.length ≤ 40 ∧ (Lit.int .i64 r.1).wf = true ∧ (Lit.int .i64 r.2.1).wf = true ∧ ∀ x ∈ r.2.2, ppWfC x) := by
  unfold spec_GrdOf.f
  have Z : Evs (fun _ => some ((0 : Int), (0 : Int), ([] : List S34))) (fun r => r.2.2.length ≤ 40 ∧ (Lit.int .i64 r.1).wf = true ∧ (Lit.int .i64 r.2.1).wf = true ∧ ∀ x ∈ r.2.2, ppWfC x) := Evs.now ⟨by simp, by decide, by decide, by simp⟩
  by_cases hcs : cs.length ≤ 8
  · refine Evs.bnd (pp_tblOk cs hd ft rs gp) (fun b hb => Evs.ite (fun ht => ?_) (fun _ => Z))
    obtain ⟨h8, h5⟩ := hb ht
    have : Evs (fun k => spec_l3Of.f k cs hd ft rs gp) (fun r => r.2.2.length ≤ 40 ∧ (Lit.int .i64 r.1).wf = true ∧ (Lit.int .i64 r.2.1).wf = true ∧ ∀ x ∈ r.2.2, ppWfC x) := by
      unfold spec_l3Of.f
      refine Evs.bnd (pp_max _ _) (fun w hw => ?_)
      have hww : (Lit.int .i64 w).wf = true := by
        rcases hw with rfl | rfl
        · decide
        · exact pp_wfi _ (by omega) (by omega)
      refine Evs.bnd (pp_of_r cs hd ft rs gp h8 h5 rs.length 0 w [] (by omega) (by simp; omega) hww (by simp)) ?_
      rintro ⟨w2, d2⟩ ⟨e, ew, ed⟩
      exact Evs.now ⟨by show d2.length ≤ 40; simp at e; omega, pp_wfi _ (by simp only; omega) (by simp only; omega), ew, ed⟩
    refine Evs.bnd this ?_
    rintro ⟨a, b, c⟩ e
    exact Evs.now e
  · exact Evs.bnd (pp_tblBig cs hd ft rs gp hcs) (fun b hb => Evs.neg (by rw [hb]; decide) Z)
theorem ppSetW {cs : List S34} (h : ∀ x ∈ cs, ppWfC x) {x : S34} (hx : ppWfC x) (a : Nat) : ∀ y ∈ pgSet cs a x, ppWfC y := by
  intro y hy
  rcases List.mem_or_eq_of_mem_set hy with q | q
  · exact h y q
  · rw [q]; exact hx
theorem ppElW {cs : List S34} (h : ∀ x ∈ cs, ppWfC x) {a : Nat} (ha : a < cs.length) : ppWfC (pgEl cs a) := by
  unfold pgEl
  have e := pp_getD cs a (z34) ha
  rw [Int.toNat_natCast] at e
  rw [e]
  exact h _ (List.getElem_mem _)
theorem ppGetW3 (a b c : Int) (ha : (Lit.int .i64 a).wf = true) (hb : (Lit.int .i64 b).wf = true) (hc : (Lit.int .i64 c).wf = true) (i : Nat) : (Lit.int .i64 ([a, b, c].getD i 0)).wf = true := by
  match i with
  | 0 => exact ha
  | 1 => exact hb
  | 2 => exact hc
  | n + 3 => exact (by decide : (Lit.int .i64 0).wf = true)
theorem ppGetW2 (a b : Int) (ha : (Lit.int .i64 a).wf = true) (hb : (Lit.int .i64 b).wf = true) (i : Nat) : (Lit.int .i64 ([a, b].getD i 0)).wf = true := by
  match i with
  | 0 => exact ha
  | 1 => exact hb
  | n + 2 => exact (by decide : (Lit.int .i64 0).wf = true)
theorem pp_grid (l : List Int) (h : ppRd l) (p n : Int) (hp : 0 ≤ p) (hp' : p ≤ 100000000) (hn : n ≤ 1000000) : Evs (fun k => spec_l20Grid.f k l p n) (fun r => r.2.2.1.length ≤ 41 ∧ p ≤ r.2.2.2 ∧ r.2.2.2 ≤ p + 3000 ∧ (Lit.int .i64 r.1).wf = true ∧ (Lit.int .i64 r.2.1).wf = true ∧ ∀ x ∈ r.2.2.1, ppWfC x) := by
  unfold spec_l20Grid.f
  refine Evs.bnd (pp_table l h p hp (by omega)) ?_
  rintro ⟨t, q⟩ ⟨t0, t1⟩
  simp only at t0 t1 ⊢
  refine Evs.bnd (pp_grdOf _ _ _ _ _) ?_
  rintro ⟨rows, cols, cs⟩ ⟨hc, hrw, hcw, hxw⟩
  simp only at hc hrw hcw hxw ⊢
  refine Evs.bnd (pp_pick l h q n (by omega) (by omega) hn) ?_
  rintro ⟨c, q2⟩ ⟨hq2, _, _, _⟩
  simp only at hq2 ⊢
  refine Evs.ite (fun _ => Evs.now ⟨by simp only; omega, by simp only; omega, by simp only; omega, hrw, hcw, hxw⟩) (fun hne => ?_)
  refine Evs.bnd (pp_pick l h q2 (cs.length : Int) (by omega) (by omega) (by omega)) ?_
  rintro ⟨a, q3⟩ ⟨hq3, a0, _, a1⟩
  simp only at hq3 a0 a1 ⊢
  have a1 := a1 (by omega)
  have hel := ppElW hxw (a := a.toNat) (by omega)
  refine Evs.pos ⟨a0, a1⟩ ?_
  refine Evs.bnd (pp_pick l h q3 6 (by omega) (by omega) (by omega)) ?_
  rintro ⟨sw, q4⟩ ⟨hq4, _, _, _⟩
  simp only at hq4 ⊢
  unfold spec_l20Grid.turn
  refine Evs.ite (fun _ => ?_) (fun _ => Evs.ite (fun _ => ?_) (fun _ => Evs.ite (fun _ => ?_) (fun _ => Evs.ite (fun _ => ?_) (fun _ => Evs.ite (fun _ => ?_) (fun _ => Evs.pos (by omega) (Evs.now ⟨by simp; omega, by simp only; omega, by simp only; omega, hrw, hcw, fun x hx => (List.mem_append.1 hx).elim (hxw x) (fun q => by rw [List.mem_singleton.1 q]; exact hel)⟩))))))
  · refine Evs.bnd (pp_pick l h q4 3 (by omega) (by omega) (by omega)) ?_
    rintro ⟨e, q5⟩ ⟨hq5, e0, _, e1⟩
    simp only at hq5 e0 e1 ⊢
    exact Evs.pos ⟨e0, e1 (by omega)⟩ (Evs.now ⟨by simp only; omega, by simp only; omega, by simp only; omega, ppGetW3 _ _ _ (by decide) (by decide) (ppWf_wrap _) _, hcw, hxw⟩)
  · refine Evs.bnd (pp_pick l h q4 3 (by omega) (by omega) (by omega)) ?_
    rintro ⟨e, q5⟩ ⟨hq5, e0, _, e1⟩
    simp only at hq5 e0 e1 ⊢
    exact Evs.pos ⟨e0, e1 (by omega)⟩ (Evs.now ⟨by simp only; omega, by simp only; omega, by simp only; omega, hrw, ppGetW3 _ _ _ (by decide) (by decide) (ppWf_wrap _) _, hxw⟩)
  · refine Evs.bnd (pp_pick l h q4 2 (by omega) (by omega) (by omega)) ?_
    rintro ⟨e, q5⟩ ⟨hq5, e0, _, e1⟩
    simp only at hq5 e0 e1 ⊢
    exact Evs.pos ⟨e0, e1 (by omega)⟩ (Evs.now ⟨by simp [pgSet]; omega, by simp only; omega, by simp only; omega, hrw, hcw, ppSetW hxw (x := { pgEl cs a.toNat with f0 := (ppG2 rows).getD e.toNat 0 }) ⟨ppGetW2 _ _ (by decide) hrw _, hel.2⟩ a.toNat⟩)
  · refine Evs.bnd (pp_pick l h q4 3 (by omega) (by omega) (by omega)) ?_
    rintro ⟨e, q5⟩ ⟨hq5, e0, _, e1⟩
    simp only at hq5 e0 e1 ⊢
    exact Evs.pos ⟨e0, e1 (by omega)⟩ (Evs.now ⟨by simp [pgSet]; omega, by simp only; omega, by simp only; omega, hrw, hcw, ppSetW hxw (x := { pgEl cs a.toNat with f3 := (ppG3 cols).getD e.toNat 0 }) ⟨hel.1, hel.2.1, hel.2.2.1, ppGetW3 _ _ _ (by decide) (ppWf_wrap _) (by decide) _, hel.2.2.2.2⟩ a.toNat⟩)
  · refine Evs.bnd (pp_pick l h q4 2 (by omega) (by omega) (by omega)) ?_
    rintro ⟨e, q5⟩ ⟨hq5, e0, _, e1⟩
    simp only at hq5 e0 e1 ⊢
    refine Evs.pos ⟨e0, e1 (by omega)⟩ ?_
    refine Evs.bnd (pp_pick l h q5 2 (by omega) (by omega) (by omega)) ?_
    rintro ⟨d, q6⟩ ⟨hq6, d0, _, d1⟩
    simp only at hq6 d0 d1 ⊢
    exact Evs.pos ⟨d0, d1 (by omega)⟩ (Evs.now ⟨by simp [pgSet]; omega, by simp only; omega, by simp only; omega, hrw, hcw, (by have q1 := ppSetW hxw (x := { pgEl cs a.toNat with f4 := ppG4.getD e.toNat 0 }) ⟨hel.1, hel.2.1, hel.2.2.1, hel.2.2.2.1, ppGetW2 _ _ (by decide) (by decide) _⟩ a.toNat; have q2 := ppElW q1 (a := a.toNat) (by simp [pgSet]; omega); exact ppSetW q1 (x := { pgEl (pgSet cs a.toNat { pgEl cs a.toNat with f4 := ppG4.getD e.toNat 0 }) a.toNat with f2 := ppG5.getD d.toNat 0 }) ⟨q2.1, q2.2.1, ppGetW2 _ _ (by decide) (by decide) _, q2.2.2.2⟩ a.toNat)⟩)

theorem pp_rdc {l : List S34} {i : Nat} (h : i < l.length) : rd_T34 l (i : Int) = l[i] := pp_getD l i _ h
/-- The cell lies in a grid of so many rows and columns. -/
def ppLies (a b : Int) (x : S34) : Prop := 0 ≤ x.f0 ∧ x.f0 ≤ a - 1 ∧ 0 ≤ x.f1 ∧ x.f1 ≤ b - 1 ∧ 1 ≤ x.f2 ∧ x.f2 ≤ a - x.f0 ∧ 1 ≤ x.f3 ∧ x.f3 ≤ b - x.f1 ∧ 0 ≤ x.f4 ∧ x.f4 ≤ 4
/-- Two cells share a slot. -/
def ppMeet (x y : S34) : Prop := x.f0 < y.f0 + y.f2 ∧ y.f0 < x.f0 + x.f2 ∧ x.f1 < y.f1 + y.f3 ∧ y.f1 < x.f1 + x.f3
/-- The grid is ok. -/
def ppGood (a b : Int) (l : List S34) : Prop := (1 ≤ a ∧ a ≤ 8) ∧ (1 ≤ b ∧ b ≤ 94) ∧ l.length ≤ 40 ∧ (∀ x ∈ l, ppLies a b x) ∧ l.Pairwise (fun x y => ¬ ppMeet x y)
theorem ppMeet_comm (x y : S34) : ppMeet x y ↔ ppMeet y x := by unfold ppMeet; omega
theorem pp_meetS (a b : Int) (x y : S34) (ha : 1 ≤ a ∧ a ≤ 8) (hb : 1 ≤ b ∧ b ≤ 94) (hx : ppLies a b x) (hy : ppLies a b y) : ∃ r, spec_l3Meets.f x.f0 x.f1 x.f2 x.f3 x.f4 y.f0 y.f1 y.f2 y.f3 y.f4 = some r ∧ (r = true ↔ ppMeet x y) := by
  unfold ppLies at hx hy
  unfold spec_l3Meets.f ppMeet
  rw [pp_wrap_id (y.f0 + y.f2) (by omega) (by omega), pp_wrap_id (x.f0 + x.f2) (by omega) (by omega), pp_wrap_id (y.f1 + y.f3) (by omega) (by omega), pp_wrap_id (x.f1 + x.f3) (by omega) (by omega)]
  split
  · split
    · split
      · exact ⟨_, rfl, by simp; omega⟩
      · exact ⟨_, rfl, by simp; omega⟩
    · exact ⟨_, rfl, by simp; omega⟩
  · exact ⟨_, rfl, by simp; omega⟩
theorem pp_meetI (a b : Int) (x y : S34) (ha : 1 ≤ a ∧ a ≤ 8) (hb : 1 ≤ b ∧ b ≤ 94) (hx : ppLies a b x) (hy : ppLies a b y) : ppMeetB x y = true ↔ ppMeet x y := by
  unfold ppLies at hx hy
  unfold ppMeetB impl_GrdCell_meets.f ppMeet
  rw [pp_wrap_id (y.f0 + y.f2) (by omega) (by omega), pp_wrap_id (x.f0 + x.f2) (by omega) (by omega), pp_wrap_id (y.f1 + y.f3) (by omega) (by omega), pp_wrap_id (x.f1 + x.f3) (by omega) (by omega)]
  split
  · split
    · split
      · simp; omega
      · simp; omega
    · simp; omega
  · simp; omega
/-- Cells of l up to i: they lie in the grid, none meets one ahead of it. -/
def ppTo (a b : Int) (l : List S34) (i : Nat) : Prop := (∀ x ∈ l.take i, ppLies a b x) ∧ (l.take i).Pairwise (fun x y => ¬ ppMeet x y)
theorem ppTo_succ (a b : Int) (l : List S34) (i : Nat) (h : i < l.length) : ppTo a b l (i + 1) ↔ ppTo a b l i ∧ ppLies a b l[i] ∧ ∀ y ∈ l.take i, ¬ ppMeet y l[i] := by
  unfold ppTo
  rw [List.take_succ_eq_append_getElem h, List.pairwise_append]
  simp only [List.mem_append, List.mem_singleton, List.pairwise_singleton, true_and]
  constructor
  · rintro ⟨h1, h2, h3⟩
    exact ⟨⟨fun x hx => h1 x (.inl hx), h2⟩, h1 _ (.inr rfl), fun y hy => h3 y hy _ rfl⟩
  · rintro ⟨⟨h1, h2⟩, h3, h4⟩
    exact ⟨fun x hx => by rcases hx with hx | rfl; exact h1 x hx; exact h3, h2, fun y hy z hz => by subst hz; exact h4 y hy⟩
theorem ppTo_mono (a b : Int) (l : List S34) {i j : Nat} (h : i ≤ j) (hj : ppTo a b l j) : ppTo a b l i := by
  have e : l.take i = (l.take j).take i := by rw [List.take_take, Nat.min_eq_left h]
  unfold ppTo
  rw [e]
  exact ⟨fun x hx => hj.1 x (List.mem_of_mem_take hx), hj.2.sublist (List.take_sublist _ _)⟩
theorem ppTo_all (a b : Int) (l : List S34) : ppTo a b l l.length ↔ (∀ x ∈ l, ppLies a b x) ∧ l.Pairwise (fun x y => ¬ ppMeet x y) := by unfold ppTo; rw [List.take_length]
theorem pp_inE (x c d : Int) : spec_l1In.f x c d = some (decide (c ≤ x ∧ x ≤ d)) := by
  unfold spec_l1In.f
  split
  · congr 1; rw [Bool.eq_iff_iff]; simp; omega
  · congr 1; rw [Bool.eq_iff_iff]; simp; omega
theorem pp_inI (x c d : Int) : impl_in.f x c d = some (decide (c ≤ x ∧ x ≤ d)) := by
  unfold impl_in.f
  split
  · congr 1; rw [Bool.eq_iff_iff]; simp; omega
  · congr 1; rw [Bool.eq_iff_iff]; simp; omega
theorem pp_freeE (a b : Int) (x : S34) (ha : 1 ≤ a ∧ a ≤ 8) (hb : 1 ≤ b ∧ b ≤ 94) (hx : ppLies a b x) (l : List S34) (hl : l.length ≤ 1000) (h : ∀ y ∈ l, ppLies a b y) :
    Evs (fun k => spec_l3Free.f k l x.f0 x.f1 x.f2 x.f3 x.f4) (fun r => r = true ↔ ∀ y ∈ l, ¬ ppMeet y x) := by
  unfold spec_l3Free.f
  have loop : ∀ (d i : Nat), l.length - i = d → i ≤ l.length → (∀ j (hj : j < l.length), j < i → ¬ ppMeet l[j] x) → Evs (fun k => spec_l3Free.l0 k l (i : Int) x.f0 x.f1 x.f2 x.f3 x.f4) (fun r => r = true ↔ ∀ y ∈ l, ¬ ppMeet y x) := by
    intro d
    induction d with
    | zero =>
      intro i hd hi hI
      refine Evs.step (f := fun _ => some true) (fun k => by simp only [spec_l3Free.l0]; rw [if_neg (by omega)]) (Evs.now ⟨fun _ y hy => ?_, fun _ => rfl⟩)
      obtain ⟨j, hj, rfl⟩ := List.getElem_of_mem hy
      exact hI j hj (by omega)
    | succ d ih =>
      intro i hd hi hI
      have hil : i < l.length := by omega
      obtain ⟨r, hr, hm⟩ := pp_meetS a b l[i] x ha hb (h _ (List.getElem_mem _)) hx
      refine Evs.step (f := fun k => if r = true then some false else spec_l3Free.l0 k l (((i + 1 : Nat)) : Int) x.f0 x.f1 x.f2 x.f3 x.f4) (fun k => by
        simp only [spec_l3Free.l0]
        rw [if_pos (by omega), if_pos (by omega), pp_rdc hil, hr, pp_wrap_id _ (by omega) (by omega)]
        rfl) ?_
      refine Evs.ite (fun ht => Evs.now ⟨fun h => (by cases h), fun hall => absurd (hm.1 ht) (hall _ (List.getElem_mem _))⟩) (fun ht => ?_)
      refine ih (i + 1) (by omega) (by omega) (fun j hj hji => ?_)
      by_cases e : j = i
      · subst e; exact fun q => ht (hm.2 q)
      · exact hI j hj (by omega)
  exact loop _ 0 rfl (by omega) (fun j _ h => absurd h (Nat.not_lt_zero _))
theorem pp_cells (a b : Int) (x : S34) (ha : 1 ≤ a ∧ a ≤ 8) (hb : 1 ≤ b ∧ b ≤ 94) (hx : ppLies a b x) (l : List S34) (h : ∀ y ∈ l, ppLies a b y) (k : Nat) :
    ∃ r, impl_ccells.f k l x.f0 x.f1 x.f2 x.f3 x.f4 = some r ∧ (r = false ↔ ∀ y ∈ l, ¬ ppMeet y x) := by
  refine ⟨_, rfl, ?_⟩
  by_cases hall : ∀ y ∈ l, ¬ ppMeet y x
  · rw [ppIdx_miss _ _ (fun j hj => by
      have := hall l[j] (List.getElem_mem _)
      rw [ppMeet_comm] at this
      rw [← Bool.not_eq_true]
      exact fun q => this ((pp_meetI a b ⟨x.f0, x.f1, x.f2, x.f3, x.f4⟩ l[j] ha hb hx (h _ (List.getElem_mem _))).1 q))]
    simpa using hall
  · have : ∃ j, ∃ hj : j < l.length, ppMeetB ⟨x.f0, x.f1, x.f2, x.f3, x.f4⟩ l[j] = true := by
      simp only [Classical.not_forall, Classical.not_not] at hall
      obtain ⟨y, hy, hm⟩ := hall
      obtain ⟨j, hj, rfl⟩ := List.getElem_of_mem hy
      exact ⟨j, hj, (pp_meetI a b ⟨x.f0, x.f1, x.f2, x.f3, x.f4⟩ l[j] ha hb hx (h _ (List.getElem_mem _))).2 ((ppMeet_comm _ _).1 hm)⟩
    have hp : 0 ≤ ppIdx (fun y => ppMeetB ⟨x.f0, x.f1, x.f2, x.f3, x.f4⟩ y) l := by
      unfold ppIdx
      cases e : l.findIdx? (fun y => ppMeetB ⟨x.f0, x.f1, x.f2, x.f3, x.f4⟩ y) with
      | some i => exact Int.natCast_nonneg _
      | none =>
        rw [List.findIdx?_eq_none_iff] at e
        obtain ⟨j, hj, hm⟩ := this
        rw [e _ (List.getElem_mem hj)] at hm
        cases hm
    rw [decide_eq_true hp]
    exact ⟨fun h => (by cases h), fun q => absurd q hall⟩
theorem pp_specOk (a b : Int) (l : List S34) : Evs (fun k => spec_GrdOk.f k a b l) (fun r => r = true ↔ ppGood a b l) := by
  unfold spec_GrdOk.f
  have F : ∀ b', b' = true → ¬ ppGood a b l → Evs (fun k => spec_GrdOk.j0 k b' a b l) (fun r => r = true ↔ ppGood a b l) := by
    intro b' hb' hn
    subst hb'
    exact Evs.step (f := fun _ => some false) (fun k => by simp only [spec_GrdOk.j0]; rfl) (Evs.now ⟨fun h => (by cases h), fun h => absurd h hn⟩)
  rw [pp_inE, pp_inE]
  simp only [Option.bind_some]
  refine Evs.ite (fun ha => Evs.ite (fun hb => ?_) (fun hb => F _ rfl (fun g => hb (decide_eq_true g.2.1)))) (fun ha => F _ rfl (fun g => ha (decide_eq_true g.1)))
  have ha := of_decide_eq_true ha
  have hb := of_decide_eq_true hb
  by_cases hl : l.length ≤ 40
  · rw [decide_eq_false (by omega)]
    refine Evs.step (f := fun k => spec_GrdOk.l0 k ((0 : Nat) : Int) a b l) (fun k => by simp only [spec_GrdOk.j0]; rfl) ?_
    have out : ∀ i, i < l.length → ¬ ppTo a b l (i + 1) → Evs (fun _ => some false) (fun r => r = true ↔ ppGood a b l) := fun i hi hn => Evs.now ⟨fun h => (by cases h), fun g => absurd (ppTo_mono a b l (by omega) ((ppTo_all a b l).2 g.2.2.2)) hn⟩
    have loop : ∀ (d i : Nat), l.length - i = d → i ≤ l.length → ppTo a b l i → Evs (fun k => spec_GrdOk.l0 k (i : Int) a b l) (fun r => r = true ↔ ppGood a b l) := by
      intro d
      induction d with
      | zero =>
        intro i hd hi hI
        obtain rfl : i = l.length := by omega
        exact Evs.step (f := fun _ => some true) (fun k => by simp only [spec_GrdOk.l0]; rw [if_neg (by omega)]) (Evs.now ⟨fun _ => ⟨ha, hb, hl, (ppTo_all a b l).1 hI⟩, fun _ => rfl⟩)
      | succ d ih =>
        intro i hd hi hI
        have hil : i < l.length := by omega
        have O := out i hil
        rw [ppTo_succ a b l i hil] at O
        refine Evs.step (fun k => by simp only [spec_GrdOk.l0]; rw [if_pos (by omega), if_pos (by omega), pp_rdc hil, pp_inE, pp_inE, pp_inE, pp_inE, pp_inE]) ?_
        simp only [Option.bind_some]
        rw [pp_wrap_id (a - 1) (by omega) (by omega), pp_wrap_id (b - 1) (by omega) (by omega)]
        refine Evs.ite (fun h0 => ?_) (fun h0 => O (fun q => h0 (decide_eq_true ⟨q.2.1.1, q.2.1.2.1⟩)))
        have h0 := of_decide_eq_true h0
        refine Evs.ite (fun h1 => ?_) (fun h1 => O (fun q => h1 (decide_eq_true ⟨q.2.1.2.2.1, q.2.1.2.2.2.1⟩)))
        have h1 := of_decide_eq_true h1
        rw [pp_wrap_id (a - l[i].f0) (by omega) (by omega), pp_wrap_id (b - l[i].f1) (by omega) (by omega)]
        refine Evs.ite (fun h2 => ?_) (fun h2 => O (fun q => h2 (decide_eq_true ⟨q.2.1.2.2.2.2.1, q.2.1.2.2.2.2.2.1⟩)))
        have h2 := of_decide_eq_true h2
        refine Evs.ite (fun h3 => ?_) (fun h3 => O (fun q => h3 (decide_eq_true ⟨q.2.1.2.2.2.2.2.2.1, q.2.1.2.2.2.2.2.2.2.1⟩)))
        have h3 := of_decide_eq_true h3
        refine Evs.ite (fun h4 => ?_) (fun h4 => O (fun q => h4 (decide_eq_true ⟨q.2.1.2.2.2.2.2.2.2.2.1, q.2.1.2.2.2.2.2.2.2.2.2⟩)))
        have h4 := of_decide_eq_true h4
        have hx : ppLies a b l[i] := ⟨h0.1, h0.2, h1.1, h1.2, h2.1, h2.2, h3.1, h3.2, h4.1, h4.2⟩
        refine Evs.pos (by omega) ?_
        rw [Int.toNat_natCast]
        refine Evs.bnd (pp_freeE a b l[i] ha hb hx (l.take i) (by simp; omega) hI.1) (fun r hr => ?_)
        refine Evs.ite (fun ht => ?_) (fun ht => O (fun q => ht (hr.2 q.2.2)))
        rw [pp_wrap_id _ (by omega) (by omega)]
        exact ih (i + 1) (by omega) (by omega) ((ppTo_succ a b l i hil).2 ⟨hI, hx, hr.1 ht⟩)
    exact loop _ 0 rfl (by omega) ⟨by simp, by simp⟩
  · exact F _ (decide_eq_true (by omega)) (fun g => hl g.2.2.1)
theorem pp_implOk (a b : Int) (l : List S34) : Evs (fun k => impl_GrdOk.f k a b l) (fun r => r = true ↔ ppGood a b l) := by
  unfold impl_GrdOk.f
  have F : ∀ b', b' = true → ¬ ppGood a b l → Evs (fun k => impl_GrdOk.j0 k b' a b l) (fun r => r = true ↔ ppGood a b l) := by
    intro b' hb' hn
    subst hb'
    exact Evs.step (f := fun _ => some false) (fun k => by simp only [impl_GrdOk.j0]; rfl) (Evs.now ⟨fun h => (by cases h), fun h => absurd h hn⟩)
  rw [pp_inI, pp_inI]
  simp only [Option.bind_some]
  refine Evs.ite (fun ha => Evs.ite (fun hb => ?_) (fun hb => F _ rfl (fun g => hb (decide_eq_true g.2.1)))) (fun ha => F _ rfl (fun g => ha (decide_eq_true g.1)))
  have ha := of_decide_eq_true ha
  have hb := of_decide_eq_true hb
  by_cases hl : l.length ≤ 40
  · rw [decide_eq_false (by omega)]
    refine Evs.step (f := fun k => impl_GrdOk.l0 k l (l.length : Int) ((0 : Nat) : Int) a b l) (fun k => by simp only [impl_GrdOk.j0]; rfl) ?_
    have loop : ∀ (d i : Nat), l.length - i = d → i ≤ l.length → ppTo a b l i → Evs (fun k => impl_GrdOk.l0 k l (l.length : Int) (i : Int) a b l) (fun r => r = true ↔ ppGood a b l) := by
      intro d
      induction d with
      | zero =>
        intro i hd hi hI
        obtain rfl : i = l.length := by omega
        exact Evs.step (f := fun _ => some true) (fun k => by simp only [impl_GrdOk.l0]; rw [if_neg (by omega)]) (Evs.now ⟨fun _ => ⟨ha, hb, hl, (ppTo_all a b l).1 hI⟩, fun _ => rfl⟩)
      | succ d ih =>
        intro i hd hi hI
        have hil : i < l.length := by omega
        have hg : ¬ ppTo a b l (i + 1) → ¬ ppGood a b l := fun hn g => absurd (ppTo_mono a b l (by omega) ((ppTo_all a b l).2 g.2.2.2)) hn
        rw [ppTo_succ a b l i hil] at hg
        have O : ∀ b', b' = true → ¬ ppGood a b l → Evs (fun k => impl_GrdOk.j2 k (i : Int) l (l.length : Int) (i : Int) b' a b l l[i].f0 l[i].f1 l[i].f2 l[i].f3 l[i].f4) (fun r => r = true ↔ ppGood a b l) := by
          intro b' hb' hn
          subst hb'
          exact Evs.step (f := fun _ => some false) (fun k => by simp only [impl_GrdOk.j2]; rfl) (Evs.now ⟨fun h => (by cases h), fun h => absurd h hn⟩)
        refine Evs.step (fun k => by simp only [impl_GrdOk.l0]; rw [if_pos (by omega), if_pos (by omega), if_pos (by omega), pp_rdc hil, pp_inI, pp_inI, pp_inI, pp_inI]) ?_
        simp only [Option.bind_some]
        rw [pp_wrap_id (a - 1) (by omega) (by omega), pp_wrap_id (b - 1) (by omega) (by omega)]
        refine Evs.ite (fun h0 => ?_) (fun h0 => O _ rfl (hg (fun q => h0 (decide_eq_true ⟨q.2.1.1, q.2.1.2.1⟩))))
        have h0 := of_decide_eq_true h0
        rw [pp_wrap_id (a - l[i].f0) (by omega) (by omega)]
        refine Evs.ite (fun h2 => ?_) (fun h2 => O _ rfl (hg (fun q => h2 (decide_eq_true ⟨q.2.1.2.2.2.2.1, q.2.1.2.2.2.2.2.1⟩))))
        have h2 := of_decide_eq_true h2
        refine Evs.ite (fun h1 => ?_) (fun h1 => O _ rfl (hg (fun q => h1 (decide_eq_true ⟨q.2.1.2.2.1, q.2.1.2.2.2.1⟩))))
        have h1 := of_decide_eq_true h1
        rw [pp_wrap_id (b - l[i].f1) (by omega) (by omega)]
        by_cases h3 : 1 ≤ l[i].f3 ∧ l[i].f3 ≤ b - l[i].f1
        · rw [decide_eq_true h3]
          refine Evs.step (fun k => by simp only [impl_GrdOk.j2]; rw [pp_inI]) ?_
          simp only [Option.bind_some]
          refine Evs.neg (by decide) ?_
          refine Evs.ite (fun h4 => ?_) (fun h4 => Evs.now ⟨fun h => (by cases h), fun g => absurd g (hg (fun q => h4 (decide_eq_true ⟨q.2.1.2.2.2.2.2.2.2.2.1, q.2.1.2.2.2.2.2.2.2.2.2⟩)))⟩)
          have h4 := of_decide_eq_true h4
          have hx : ppLies a b l[i] := ⟨h0.1, h0.2, h1.1, h1.2, h2.1, h2.2, h3.1, h3.2, h4.1, h4.2⟩
          refine Evs.pos (by omega) (Evs.pos (by omega) ?_)
          rw [Int.toNat_natCast]
          obtain ⟨r, hr, hm⟩ := pp_cells a b l[i] ha hb hx (l.take i) hI.1 0
          have hr' : ∀ k, impl_ccells.f k (l.take i) l[i].f0 l[i].f1 l[i].f2 l[i].f3 l[i].f4 = some r := fun _ => hr
          refine Evs.cong (fun k => by rw [hr']) ?_
          simp only [Option.bind_some]
          cases r with
          | true => exact Evs.pos rfl (Evs.now ⟨fun h => (by cases h), fun g => absurd g (hg (fun q => by have := hm.2 q.2.2; cases this))⟩)
          | false =>
            refine Evs.neg (by decide) ?_
            rw [pp_wrap_id _ (by omega) (by omega)]
            exact ih (i + 1) (by omega) (by omega) ((ppTo_succ a b l i hil).2 ⟨hI, hx, hm.1 rfl⟩)
        · rw [decide_eq_false h3]
          exact O _ rfl (hg (fun q => h3 ⟨q.2.1.2.2.2.2.2.2.1, q.2.1.2.2.2.2.2.2.2.1⟩))
    exact loop _ 0 rfl (by omega) ⟨by simp, by simp⟩
  · exact F _ (decide_eq_true (by omega)) (fun g => hl g.2.2.1)

/-- The sum of g over a list. -/
def ppTot {α : Type} (g : α → Int) : List α → Int
  | [] => 0
  | x :: xs => g x + ppTot g xs
theorem ppTot_congr {α : Type} (f g : α → Int) (l : List α) (h : ∀ x ∈ l, f x = g x) : ppTot f l = ppTot g l := by
  induction l with
  | nil => rfl
  | cons x xs ih => simp only [ppTot]; rw [ih (fun y hy => h y (List.mem_cons_of_mem _ hy)), h x List.mem_cons_self]
/-- Whether a cell has a slot. -/
def ppHas (x : S34) (i j : Int) : Prop := (x.f0 ≤ i ∧ i < x.f0 + x.f2) ∧ (x.f1 ≤ j ∧ j < x.f1 + x.f3)
instance (x : S34) (i j : Int) : Decidable (ppHas x i j) := inferInstanceAs (Decidable (_ ∧ _))
/-- What stood ahead. -/
def ppAhd (at_ : Int → Int) : Nat → Int
  | 0 => -1
  | n + 1 => at_ (n : Int)
/-- The cells of slots, where they are others than ahead. -/
def ppChg (at_ : Int → Int) : Nat → List Int
  | 0 => []
  | n + 1 => if 0 ≤ at_ (n : Int) ∧ at_ (n : Int) ≠ ppAhd at_ n then ppChg at_ n ++ [at_ (n : Int)] else ppChg at_ n
theorem ppChg_len (at_ : Int → Int) (n : Nat) : (ppChg at_ n).length ≤ n := by
  induction n with
  | zero => simp [ppChg]
  | succ n ih =>
    unfold ppChg
    split
    · rw [List.length_append]; simp; omega
    · omega
theorem pp_changes (at_ : Int → Int) (n : Nat) (hn : n ≤ 1048576) : Evs (fun k => impl_changes.f at_ k (n : Int)) (fun r => r = ppChg at_ n) := by
  unfold impl_changes.f
  refine Evs.up (fun k (s : List Int × Int) i => impl_changes.l0 at_ k s.1 s.2 (n : Int) i) n (fun i s => s = (ppChg at_ i, ppAhd at_ i)) _ ?_ ?_ (([] : List Int), -1) rfl
  · rintro s i hi rfl next
    have hlen := ppChg_len at_ i
    have nx : Evs (fun k => impl_changes.l0 at_ k (ppChg at_ (i + 1)) (at_ (i : Int)) (n : Int) ((i : Int) + 1)) (fun r => r = ppChg at_ n) := next (_, _) rfl
    by_cases h1 : 0 ≤ at_ (i : Int)
    · by_cases h2 : at_ (i : Int) = ppAhd at_ i
      · have e : ppChg at_ (i + 1) = ppChg at_ i := by
          show (if _ then _ else _) = _
          rw [if_neg (fun h => h.2 h2)]
        rw [e] at nx
        exact Evs.step (fun k => by simp only [impl_changes.l0]; rw [if_pos (by omega), if_pos h1, if_pos h2, pp_wrap_id ((i : Int) + 1) (by omega) (by omega)]) nx
      · have e : ppChg at_ (i + 1) = ppChg at_ i ++ [at_ (i : Int)] := by
          show (if _ then _ else _) = _
          rw [if_pos ⟨h1, h2⟩]
        rw [e] at nx
        exact Evs.step (fun k => by simp only [impl_changes.l0]; rw [if_pos (by omega), if_pos h1, if_neg h2, if_pos (by omega), pp_wrap_id ((i : Int) + 1) (by omega) (by omega)]) nx
    · have e : ppChg at_ (i + 1) = ppChg at_ i := by
        show (if _ then _ else _) = _
        rw [if_neg (fun h => h1 h.1)]
      rw [e] at nx
      exact Evs.step (fun k => by simp only [impl_changes.l0]; rw [if_pos (by omega), if_neg h1, pp_wrap_id ((i : Int) + 1) (by omega) (by omega)]) nx
  · rintro s rfl
    exact Evs.step (f := fun _ => some (ppChg at_ n)) (fun k => by simp only [impl_changes.l0]; rw [if_neg (by omega)]) (Evs.now rfl)
theorem ppChg_last (at_ : Int → Int) (i : Nat) (h : 0 ≤ ppAhd at_ i) : (ppChg at_ i).getLast? = some (ppAhd at_ i) := by
  induction i with
  | zero => simp [ppAhd] at h
  | succ i ih =>
    simp only [ppAhd] at h ⊢
    unfold ppChg
    by_cases e : at_ (i : Int) = ppAhd at_ i
    · rw [if_neg (fun q => q.2 e), ih (by omega), e]
    · rw [if_pos ⟨h, e⟩]
      simp
theorem ppChg_in (at_ : Int → Int) (i : Nat) (c : Int) (h : (ppChg at_ i).getLast? = some c) : 0 ≤ c ∧ ∃ m : Nat, m < i ∧ at_ (m : Int) = c := by
  induction i with
  | zero => simp [ppChg] at h
  | succ i ih =>
    unfold ppChg at h
    split at h
    · rename_i q
      simp at h
      exact ⟨by omega, i, by omega, h⟩
    · obtain ⟨h0, m, hm, e⟩ := ih h
      exact ⟨h0, m, by omega, e⟩
/-- What is the same at two slots is so between. -/
def ppNoGap (at_ : Int → Int) : Prop := ∀ m p i : Nat, m < p → p < i → at_ (m : Int) = at_ (i : Int) → 0 ≤ at_ (i : Int) → 0 ≤ at_ (p : Int)
theorem ppChg_same (at_ : Int → Int) (hg : ppNoGap at_) (i : Nat) (h0 : 0 ≤ at_ (i : Int)) (h : (ppChg at_ i).getLast? = some (at_ (i : Int))) : at_ (i : Int) = ppAhd at_ i := by
  by_cases ha : 0 ≤ ppAhd at_ i
  · have := ppChg_last at_ i ha
    rw [h] at this
    exact Option.some.inj this
  · obtain ⟨_, m, hm, e⟩ := ppChg_in at_ i _ h
    cases i with
    | zero => omega
    | succ i =>
      simp only [ppAhd] at ha
      have hmi : m < i := by
        by_cases q : m = i
        · subst q; omega
        · omega
      exact absurd (hg m i (i + 1) hmi (by omega) e h0) ha
theorem pp_lastrd (l : List Int) (h : l ≠ []) : l.getLast? = some (rd l ((l.length : Int) - 1)) := by
  have hl : 0 < l.length := List.length_pos_iff.2 h
  rw [List.getLast?_eq_getElem?]
  unfold rd
  rw [show ((l.length : Int) - 1).toNat = l.length - 1 by omega, List.getD_eq_getElem?_getD, List.getElem?_eq_getElem (by omega)]
  rfl
theorem ppIdx_at {α : Type} (p : α → Bool) (l : List α) (h : 0 ≤ ppIdx p l) : ∃ q : (ppIdx p l).toNat < l.length, p l[(ppIdx p l).toNat] = true := by
  unfold ppIdx at h ⊢
  cases hf : l.findIdx? p with
  | none => rw [hf] at h; simp at h
  | some i =>
    rw [List.findIdx?_eq_some_iff_getElem] at hf
    obtain ⟨q, hp, _⟩ := hf
    exact ⟨by simpa using q, by simpa using hp⟩
theorem ppIdx_some {α : Type} (p : α → Bool) (l : List α) (j : Nat) (hj : j < l.length) (h : p l[j] = true) : 0 ≤ ppIdx p l := by
  unfold ppIdx
  cases hf : l.findIdx? p with
  | none =>
    rw [List.findIdx?_eq_none_iff] at hf
    have := hf _ (List.getElem_mem hj)
    rw [h] at this
    exact absurd this (by simp)
  | some i => simp
theorem ppNoGap_idx {α : Type} (p : Int → α → Bool) (l : List α) (hc : ∀ x (m q i : Int), m < q → q < i → p m x = true → p i x = true → p q x = true) : ppNoGap (fun j => ppIdx (p j) l) := by
  intro m q i h1 h2 e h0
  obtain ⟨ha, hb⟩ := ppIdx_at (p (i : Int)) l h0
  obtain ⟨ha', hb'⟩ := ppIdx_at (p (m : Int)) l (by dsimp only at e h0; rw [e]; exact h0)
  dsimp only at e
  have hb'' : p (m : Int) l[(ppIdx (p (i : Int)) l).toNat] = true := by
    simp only [e] at hb'
    exact hb'
  exact ppIdx_some _ l _ ha (hc _ m q i (by omega) (by omega) hb'' hb)

theorem pp_nogapRow (L : List S34) (z : Int) : ppNoGap (fun j => ppAt L z j) := by
  refine ppNoGap_idx (fun j x => ppHold x z j) L ?_
  intro x m q i h1 h2 hm hi
  simp only [ppHold, ppAmong, Bool.and_eq_true, decide_eq_true_eq] at hm hi ⊢
  omega
theorem pp_specGrdRow (a b : Int) (L : List S34) (z : Int) (hn : L.length ≤ 1048576) (hw : ∀ x ∈ L, ppWfC x) (hz : (Lit.int .i64 z).wf = true) (ha : (Lit.int .i64 b).wf = true) :
    Evs (fun k => spec_GrdRow.f k a b L z) (fun r => r = ppChg (fun j => ppAt L z j) (min (b).toNat 94)) := by
  unfold spec_GrdRow.f
  refine Evs.up (fun k (s : List Int) i => spec_GrdRow.l0 k z s i a b L) (min (b).toNat 94) (fun i s => s = ppChg (fun j => ppAt L z j) i) _ ?_ ?_ [] rfl
  · rintro s i hi rfl next
    have hg := pp_nogapRow L z
    generalize hat : (fun j => ppAt L z j) = at_ at next hg ⊢
    have hati : at_ (i : Int) = (fun j => ppAt L z j) (i : Int) := by rw [hat]
    have hlen := ppChg_len at_ i
    have nx : Evs (fun k => spec_GrdRow.l0 k z (ppChg at_ (i + 1)) ((i : Int) + 1) a b L) (fun r => r = ppChg at_ (min (b).toNat 94)) := next _ rfl
    refine Evs.step (f := fun k => spec_GrdRow.j1 k z (ppChg at_ i) (i : Int) true a b L) (fun k => by simp only [spec_GrdRow.l0]; rw [if_pos (by omega), decide_eq_true (by omega : (i : Int) < 94)]) ?_
    refine Evs.step (fun k => by simp only [spec_GrdRow.j1]; rw [if_pos trivial, pp_wrap_id ((i : Int) + 1) (by omega) (by omega), pp_wrap_id (((ppChg at_ i).length : Int) - 1) (by omega) (by omega)]) ?_
    refine Evs.bnd (Evs.of (L.length + 2) fun k hk => pp_specGrdAt a b L z (i : Int) (by omega) hw hz (pp_wfi _ (by omega) (by omega)) k (by omega)) ?_
    rintro _ rfl
    have hati' : ppAt L z (i : Int) = at_ (i : Int) := hati.symm
    simp only [hati']
    refine Evs.ite (fun h1 => ?_) (fun h1 => ?_)
    · refine Evs.ite (fun h2 => ?_) (fun h2 => ?_)
      · have hnil : ppChg at_ i = [] := List.eq_nil_of_length_eq_zero (by omega)
        have e : ppChg at_ (i + 1) = ppChg at_ i ++ [at_ (i : Int)] := by
          show (if _ then _ else _) = _
          rw [if_pos ⟨h1, fun q => by
            have := ppChg_last at_ i (by rw [← q]; exact h1)
            rw [hnil] at this
            exact absurd this (by simp)⟩]
        rw [e] at nx
        exact Evs.pos (by omega) nx
      · have hne : ppChg at_ i ≠ [] := fun q => h2 (by rw [q]; rfl)
        have hpos : 0 < (ppChg at_ i).length := List.length_pos_iff.2 hne
        refine Evs.pos (by omega) (Evs.pos (by omega) ?_)
        have hl := pp_lastrd _ hne
        refine Evs.ite (fun h3 => ?_) (fun h3 => ?_)
        · have e : ppChg at_ (i + 1) = ppChg at_ i := by
            show (if _ then _ else _) = _
            rw [if_neg (fun q => q.2 (ppChg_same at_ hg i h1 (by rw [hl, h3])))]
          rw [e] at nx
          exact nx
        · have e : ppChg at_ (i + 1) = ppChg at_ i ++ [at_ (i : Int)] := by
            show (if _ then _ else _) = _
            rw [if_pos ⟨h1, fun q => by
              have := ppChg_last at_ i (by rw [← q]; exact h1)
              rw [hl, ← q] at this
              exact h3 (Option.some.inj this)⟩]
          rw [e] at nx
          exact Evs.pos (by omega) nx
    · have e : ppChg at_ (i + 1) = ppChg at_ i := by
        show (if _ then _ else _) = _
        rw [if_neg (fun q => h1 q.1)]
      rw [e] at nx
      exact nx
  · rintro s rfl
    have hz' := pp_wf _ ha
    by_cases h : ((min (b).toNat 94 : Nat) : Int) < b
    · refine Evs.step (f := fun k => spec_GrdRow.j1 k z _ _ false a b L) (fun k => by simp only [spec_GrdRow.l0]; rw [if_pos h, decide_eq_false (by omega)]) ?_
      exact Evs.step (f := fun _ => some _) (fun k => by simp only [spec_GrdRow.j1]; rw [if_neg (by simp)]) (Evs.now rfl)
    · refine Evs.step (f := fun k => spec_GrdRow.j1 k z _ _ false a b L) (fun k => by simp only [spec_GrdRow.l0]; rw [if_neg h]) ?_
      exact Evs.step (f := fun _ => some _) (fun k => by simp only [spec_GrdRow.j1]; rw [if_neg (by simp)]) (Evs.now rfl)
theorem pp_implGrdRow (a b : Int) (L : List S34) (z : Int) (hw : ∀ x ∈ L, ppWfC x) (hz : (Lit.int .i64 z).wf = true) :
    Evs (fun k => impl_GrdRow.f k a b L z) (fun r => r = ppChg (fun j => ppAt L z j) (min (b).toNat 94)) := by
  unfold impl_GrdRow.f
  have e : (if (94 : Int) < (if b < 0 then 0 else b) then (94 : Int) else (if b < 0 then 0 else b)) = ((min (b).toNat 94 : Nat) : Int) := by
    by_cases h : b < 0
    · simp only [if_pos h]; omega
    · simp only [if_neg h]; split <;> omega
  rw [e]
  refine (pp_changes _ _ (by omega)).imp ?_
  rintro _ rfl
  have key : ∀ n : Nat, n ≤ 94 → ppChg (fun j => ppIdx (fun x => ppHasB x z j) L) n = ppChg (fun j => ppAt L z j) n ∧ ppAhd (fun j => ppIdx (fun x => ppHasB x z j) L) n = ppAhd (fun j => ppAt L z j) n := by
    intro n
    induction n with
    | zero => intro _; exact ⟨rfl, rfl⟩
    | succ n ih =>
      intro hn
      obtain ⟨i1, i2⟩ := ih (by omega)
      have hj : (Lit.int .i64 (n : Int)).wf = true := pp_wfi _ (by omega) (by omega)
      have q : ppIdx (fun x => ppHasB x z (n : Int)) L = ppAt L z (n : Int) := ppIdx_congr _ _ L (fun x hx => pp_hasB x z (n : Int) (hw x hx) hz hj)
      refine ⟨?_, q⟩
      unfold ppChg
      rw [i1, i2]
      simp only [q]
  exact (key _ (by omega)).1

theorem pp_nogapCol (L : List S34) (z : Int) : ppNoGap (fun j => ppAt L j z) := by
  refine ppNoGap_idx (fun j x => ppHold x j z) L ?_
  intro x m q i h1 h2 hm hi
  simp only [ppHold, ppAmong, Bool.and_eq_true, decide_eq_true_eq] at hm hi ⊢
  omega
theorem pp_specGrdCol (a b : Int) (L : List S34) (z : Int) (hn : L.length ≤ 1048576) (hw : ∀ x ∈ L, ppWfC x) (hz : (Lit.int .i64 z).wf = true) (ha : (Lit.int .i64 a).wf = true) :
    Evs (fun k => spec_GrdCol.f k a b L z) (fun r => r = ppChg (fun j => ppAt L j z) (min (a).toNat 8)) := by
  unfold spec_GrdCol.f
  refine Evs.up (fun k (s : List Int) i => spec_GrdCol.l0 k z s i a b L) (min (a).toNat 8) (fun i s => s = ppChg (fun j => ppAt L j z) i) _ ?_ ?_ [] rfl
  · rintro s i hi rfl next
    have hg := pp_nogapCol L z
    generalize hat : (fun j => ppAt L j z) = at_ at next hg ⊢
    have hati : at_ (i : Int) = (fun j => ppAt L j z) (i : Int) := by rw [hat]
    have hlen := ppChg_len at_ i
    have nx : Evs (fun k => spec_GrdCol.l0 k z (ppChg at_ (i + 1)) ((i : Int) + 1) a b L) (fun r => r = ppChg at_ (min (a).toNat 8)) := next _ rfl
    refine Evs.step (f := fun k => spec_GrdCol.j1 k z (ppChg at_ i) (i : Int) true a b L) (fun k => by simp only [spec_GrdCol.l0]; rw [if_pos (by omega), decide_eq_true (by omega : (i : Int) < 8)]) ?_
    refine Evs.step (fun k => by simp only [spec_GrdCol.j1]; rw [if_pos trivial, pp_wrap_id ((i : Int) + 1) (by omega) (by omega), pp_wrap_id (((ppChg at_ i).length : Int) - 1) (by omega) (by omega)]) ?_
    refine Evs.bnd (Evs.of (L.length + 2) fun k hk => pp_specGrdAt a b L (i : Int) z (by omega) hw (pp_wfi _ (by omega) (by omega)) hz k (by omega)) ?_
    rintro _ rfl
    have hati' : ppAt L (i : Int) z = at_ (i : Int) := hati.symm
    simp only [hati']
    refine Evs.ite (fun h1 => ?_) (fun h1 => ?_)
    · refine Evs.ite (fun h2 => ?_) (fun h2 => ?_)
      · have hnil : ppChg at_ i = [] := List.eq_nil_of_length_eq_zero (by omega)
        have e : ppChg at_ (i + 1) = ppChg at_ i ++ [at_ (i : Int)] := by
          show (if _ then _ else _) = _
          rw [if_pos ⟨h1, fun q => by
            have := ppChg_last at_ i (by rw [← q]; exact h1)
            rw [hnil] at this
            exact absurd this (by simp)⟩]
        rw [e] at nx
        exact Evs.pos (by omega) nx
      · have hne : ppChg at_ i ≠ [] := fun q => h2 (by rw [q]; rfl)
        have hpos : 0 < (ppChg at_ i).length := List.length_pos_iff.2 hne
        refine Evs.pos (by omega) (Evs.pos (by omega) ?_)
        have hl := pp_lastrd _ hne
        refine Evs.ite (fun h3 => ?_) (fun h3 => ?_)
        · have e : ppChg at_ (i + 1) = ppChg at_ i := by
            show (if _ then _ else _) = _
            rw [if_neg (fun q => q.2 (ppChg_same at_ hg i h1 (by rw [hl, h3])))]
          rw [e] at nx
          exact nx
        · have e : ppChg at_ (i + 1) = ppChg at_ i ++ [at_ (i : Int)] := by
            show (if _ then _ else _) = _
            rw [if_pos ⟨h1, fun q => by
              have := ppChg_last at_ i (by rw [← q]; exact h1)
              rw [hl, ← q] at this
              exact h3 (Option.some.inj this)⟩]
          rw [e] at nx
          exact Evs.pos (by omega) nx
    · have e : ppChg at_ (i + 1) = ppChg at_ i := by
        show (if _ then _ else _) = _
        rw [if_neg (fun q => h1 q.1)]
      rw [e] at nx
      exact nx
  · rintro s rfl
    have hz' := pp_wf _ ha
    by_cases h : ((min (a).toNat 8 : Nat) : Int) < a
    · refine Evs.step (f := fun k => spec_GrdCol.j1 k z _ _ false a b L) (fun k => by simp only [spec_GrdCol.l0]; rw [if_pos h, decide_eq_false (by omega)]) ?_
      exact Evs.step (f := fun _ => some _) (fun k => by simp only [spec_GrdCol.j1]; rw [if_neg (by simp)]) (Evs.now rfl)
    · refine Evs.step (f := fun k => spec_GrdCol.j1 k z _ _ false a b L) (fun k => by simp only [spec_GrdCol.l0]; rw [if_neg h]) ?_
      exact Evs.step (f := fun _ => some _) (fun k => by simp only [spec_GrdCol.j1]; rw [if_neg (by simp)]) (Evs.now rfl)
theorem pp_implGrdCol (a b : Int) (L : List S34) (z : Int) (hw : ∀ x ∈ L, ppWfC x) (hz : (Lit.int .i64 z).wf = true) :
    Evs (fun k => impl_GrdCol.f k a b L z) (fun r => r = ppChg (fun j => ppAt L j z) (min (a).toNat 8)) := by
  unfold impl_GrdCol.f
  have e : (if (8 : Int) < (if a < 0 then 0 else a) then (8 : Int) else (if a < 0 then 0 else a)) = ((min (a).toNat 8 : Nat) : Int) := by
    by_cases h : a < 0
    · simp only [if_pos h]; omega
    · simp only [if_neg h]; split <;> omega
  rw [e]
  refine (pp_changes _ _ (by omega)).imp ?_
  rintro _ rfl
  have key : ∀ n : Nat, n ≤ 8 → ppChg (fun j => ppIdx (fun x => ppHasB x j z) L) n = ppChg (fun j => ppAt L j z) n ∧ ppAhd (fun j => ppIdx (fun x => ppHasB x j z) L) n = ppAhd (fun j => ppAt L j z) n := by
    intro n
    induction n with
    | zero => intro _; exact ⟨rfl, rfl⟩
    | succ n ih =>
      intro hn
      obtain ⟨i1, i2⟩ := ih (by omega)
      have hj : (Lit.int .i64 (n : Int)).wf = true := pp_wfi _ (by omega) (by omega)
      have q : ppIdx (fun x => ppHasB x (n : Int) z) L = ppAt L (n : Int) z := ppIdx_congr _ _ L (fun x hx => pp_hasB x (n : Int) z (hw x hx) hj hz)
      refine ⟨?_, q⟩
      unfold ppChg
      rw [i1, i2]
      simp only [q]
  exact (key _ (by omega)).1

theorem pp_onceG {α : Type} (P : α → Prop) [DecidablePred P] (l : List α) (h : l.Pairwise (fun x y => ¬ (P x ∧ P y))) : ppTot (fun x => if P x then (1 : Int) else 0) l = if ∃ x ∈ l, P x then 1 else 0 := by
  induction l with
  | nil => simp [ppTot]
  | cons x xs ih =>
    rw [List.pairwise_cons] at h
    simp only [ppTot]
    rw [ih h.2]
    by_cases hx : P x
    · have hn : ¬ ∃ y ∈ xs, P y := by
        rintro ⟨y, hy, hp⟩
        exact h.1 y hy ⟨hx, hp⟩
      rw [if_pos hx, if_neg hn, if_pos ⟨x, List.mem_cons_self, hx⟩]
      rfl
    · rw [if_neg hx]
      by_cases he : ∃ y ∈ xs, P y
      · obtain ⟨y, hy, hp⟩ := he
        rw [if_pos ⟨y, hy, hp⟩, if_pos ⟨y, List.mem_cons_of_mem _ hy, hp⟩]
        rfl
      · rw [if_neg he, if_neg (by
          rintro ⟨y, hy, hp⟩
          rcases List.mem_cons.1 hy with rfl | hy
          · exact hx hp
          · exact he ⟨y, hy, hp⟩)]
        rfl
theorem ppTot_add {α : Type} (f g : α → Int) (l : List α) : ppTot (fun x => f x + g x) l = ppTot f l + ppTot g l := by
  induction l with
  | nil => rfl
  | cons x xs ih => simp only [ppTot]; rw [ih]; omega
theorem ppTot_zero {α : Type} (l : List α) : ppTot (fun _ => (0 : Int)) l = 0 := by
  induction l with
  | nil => rfl
  | cons x xs ih => simp only [ppTot]; rw [ih]; rfl
/-- The cells that the changes tell: each of a line once, in order. H: what lies on the line; s, m: where it begins, how long it is. -/
theorem pp_chgAll {α : Type} (H : α → Prop) [DecidablePred H] (s m : α → Int) (L : List α) (z : α) (at_ : Int → Int)
    (hs : ∀ x ∈ L, 0 ≤ s x ∧ 1 ≤ m x)
    (hp : L.Pairwise (fun x y => ¬ (H x ∧ H y ∧ s x < s y + m y ∧ s y < s x + m x)))
    (h1 : ∀ (j p : Nat) (_ : p < L.length), j ≤ 100 → H L[p] → s L[p] ≤ (j : Int) → (j : Int) < s L[p] + m L[p] → at_ (j : Int) = (p : Int))
    (h2 : ∀ j : Nat, j ≤ 100 → 0 ≤ at_ (j : Int) → ∃ (p : Nat) (_ : p < L.length), at_ (j : Int) = (p : Int) ∧ H L[p] ∧ s L[p] ≤ (j : Int) ∧ (j : Int) < s L[p] + m L[p]) :
    ∀ n : Nat, n ≤ 100 → ((ppChg at_ n).length : Int) = ppTot (fun x => if H x ∧ s x < (n : Int) then (1 : Int) else 0) L ∧
      (∀ c ∈ ppChg at_ n, 0 ≤ c ∧ c < (L.length : Int) ∧ s (L.getD c.toNat z) < (n : Int)) ∧ (ppChg at_ n).Pairwise (fun c d => s (L.getD c.toNat z) < s (L.getD d.toNat z)) := by
  have hget : ∀ (p : Nat) (h : p < L.length), L.getD ((p : Int)).toNat z = L[p] := fun p h => pp_getD L p z h
  intro n
  induction n with
  | zero =>
    intro _
    refine ⟨?_, by simp [ppChg], by simp [ppChg]⟩
    rw [ppTot_congr _ (fun _ => 0) L (fun x hx => by have := hs x hx; rw [if_neg (by omega)]), ppTot_zero]
    rfl
  | succ n ih =>
    intro hn
    obtain ⟨i1, i2, i3⟩ := ih (by omega)
    have hsum : ppTot (fun x => if H x ∧ s x < ((n + 1 : Nat) : Int) then (1 : Int) else 0) L = ppTot (fun x => if H x ∧ s x < (n : Int) then (1 : Int) else 0) L + ppTot (fun x => if H x ∧ s x = (n : Int) then (1 : Int) else 0) L := by
      rw [← ppTot_add]
      refine ppTot_congr _ _ L (fun x _ => ?_)
      by_cases hH : H x
      · by_cases h3 : s x < (n : Int)
        · rw [if_pos ⟨hH, by omega⟩, if_pos ⟨hH, h3⟩, if_neg (fun q => by have := q.2; omega)]; rfl
        · by_cases h4 : s x = (n : Int)
          · rw [if_pos ⟨hH, by omega⟩, if_neg (fun q => h3 q.2), if_pos ⟨hH, h4⟩]; rfl
          · rw [if_neg (fun q => by have := q.2; omega), if_neg (fun q => h3 q.2), if_neg (fun q => h4 q.2)]; rfl
      · rw [if_neg (fun q => hH q.1), if_neg (fun q => hH q.1), if_neg (fun q => hH q.1)]; rfl
    have honce := pp_onceG (fun x => H x ∧ s x = (n : Int)) L (hp.imp_of_mem (fun {x y} hx hy h q => h ⟨q.1.1, q.2.1, by have := hs x hx; have := hs y hy; omega, by have := hs x hx; have := hs y hy; omega⟩))
    rw [hsum, honce]
    show ((if 0 ≤ at_ (n : Int) ∧ at_ (n : Int) ≠ ppAhd at_ n then ppChg at_ n ++ [at_ (n : Int)] else ppChg at_ n).length : Int) = _ ∧ _
    rw [show ppChg at_ (n + 1) = (if 0 ≤ at_ (n : Int) ∧ at_ (n : Int) ≠ ppAhd at_ n then ppChg at_ n ++ [at_ (n : Int)] else ppChg at_ n) from rfl]
    by_cases hc : 0 ≤ at_ (n : Int) ∧ at_ (n : Int) ≠ ppAhd at_ n
    · rw [if_pos hc]
      obtain ⟨p, hpl, e, hH, hle, hlt⟩ := h2 n (by omega) hc.1
      have hsn : s L[p] = (n : Int) := by
        by_cases q : s L[p] = (n : Int)
        · exact q
        · exfalso
          have hn0 : n ≠ 0 := by have := hs L[p] (List.getElem_mem _); omega
          obtain ⟨n', rfl⟩ : ∃ n', n = n' + 1 := ⟨n - 1, by omega⟩
          have := h1 n' p hpl (by omega) hH (by omega) (by omega)
          apply hc.2
          rw [e]
          exact this.symm
      rw [if_pos ⟨L[p], List.getElem_mem _, hH, hsn⟩, e]
      refine ⟨by rw [List.length_append]; simp; omega, ?_, ?_⟩
      · intro c hcm
        rcases List.mem_append.1 hcm with h | h
        · have := i2 c h; omega
        · rw [List.mem_singleton.1 h, hget p hpl]; omega
      · rw [List.pairwise_append]
        refine ⟨i3, by simp, fun c hcm d hd => ?_⟩
        rw [List.mem_singleton.1 hd, hget p hpl, hsn]
        exact (i2 c hcm).2.2
    · rw [if_neg hc, if_neg]
      · exact ⟨by omega, fun c h => by have := i2 c h; omega, i3⟩
      · rintro ⟨x, hx, hH, hsx⟩
        obtain ⟨p, hpl, rfl⟩ := List.getElem_of_mem hx
        have hm := hs _ (List.getElem_mem hpl)
        have e := h1 n p hpl (by omega) hH (by omega) (by omega)
        apply hc
        refine ⟨by omega, ?_⟩
        cases n with
        | zero => show _ ≠ (-1 : Int); omega
        | succ n' =>
          show _ ≠ at_ (n' : Int)
          intro q
          obtain ⟨p', hpl', e', hH', hle', hlt'⟩ := h2 n' (by omega) (by rw [← q]; omega)
          have : p' = p := by omega
          subst this
          omega

theorem pp_abc : Txt.ppTxtOk (⟨#[97, 98, 32, 99]⟩ : ByteArray) = true := by kernel_rfl
theorem pp_pwOk : laws_pwOk.f = some true := by
  unfold laws_pwOk.f impl_TxtOk.f
  rw [if_pos (by decide), pp_abc]
  rfl

theorem pp_pwInts (l : List Int) (hl : l.length ≤ 1048576) : Evs (fun k => laws_pwInts.f k l l) (fun r => r = true) := by
  unfold laws_pwInts.f
  refine Evs.pos rfl ?_
  have loop : ∀ (d i : Nat), l.length - i = d → i ≤ l.length → Evs (fun k => laws_pwInts.l0 k l l (i : Int)) (fun r => r = true) := by
    intro d
    induction d with
    | zero =>
      intro i hd hi
      exact Evs.step (f := fun _ => some true) (fun k => by simp only [laws_pwInts.l0]; rw [if_neg (by omega)]) (Evs.now rfl)
    | succ d ih =>
      intro i hd hi
      have n := ih (i + 1) (by omega) (by omega)
      refine Evs.step (fun k => by simp only [laws_pwInts.l0]; rw [if_pos (by omega), if_pos (by omega), if_pos (by omega), if_pos trivial, pp_wrap_id ((i : Int) + 1) (by omega) (by omega)]) ?_
      exact n
  exact loop _ 0 rfl (by omega)
/-- A grid's numbers, as drawn. -/
def ppDrawn (a b : Int) (l : List S34) (z : Int) : Prop := l.length ≤ 41 ∧ (Lit.int .i64 a).wf = true ∧ (Lit.int .i64 b).wf = true ∧ (∀ x ∈ l, ppWfC x) ∧ -1 ≤ z ∧ z ≤ 10
theorem pp_drawRow (l : List Int) (h : ∀ x ∈ l, (Lit.int .u8 x).wf = true) : Evs (fun k => spec_DrawGrdRow.f k l) (fun r => ppDrawn r.1 r.2.1 r.2.2.1 r.2.2.2) := by
  obtain ⟨b, e, hb⟩ := pp_open l h
  unfold spec_DrawGrdRow.f
  rw [e]
  simp only [Option.bind_some]
  refine Evs.bnd (pp_grid b hb 0 12 (by omega) (by omega) (by omega)) ?_
  rintro ⟨r1, r2, r3, q⟩ ⟨a, q0, q1, w1, w2, w3⟩
  simp only at a q0 q1 w1 w2 w3 ⊢
  refine Evs.bnd (pp_pick b hb q 8 (by omega) (by omega) (by omega)) ?_
  rintro ⟨x, q2⟩ ⟨e2, x0, _, x1⟩
  simp only at e2 x0 x1 ⊢
  have x1 := x1 (by omega)
  rw [pp_wrap_id _ (by omega) (by omega)]
  exact Evs.now ⟨a, w1, w2, w3, by simp only; omega, by simp only; omega⟩
theorem pp_drawCol (l : List Int) (h : ∀ x ∈ l, (Lit.int .u8 x).wf = true) : Evs (fun k => spec_DrawGrdCol.f k l) (fun r => ppDrawn r.1 r.2.1 r.2.2.1 r.2.2.2) := by
  obtain ⟨b, e, hb⟩ := pp_open l h
  unfold spec_DrawGrdCol.f
  rw [e]
  simp only [Option.bind_some]
  refine Evs.bnd (pp_grid b hb 0 12 (by omega) (by omega) (by omega)) ?_
  rintro ⟨r1, r2, r3, q⟩ ⟨a, q0, q1, w1, w2, w3⟩
  simp only at a q0 q1 w1 w2 w3 ⊢
  refine Evs.bnd (pp_pick b hb q 10 (by omega) (by omega) (by omega)) ?_
  rintro ⟨x, q2⟩ ⟨e2, x0, _, x1⟩
  simp only at e2 x0 x1 ⊢
  have x1 := x1 (by omega)
  rw [pp_wrap_id _ (by omega) (by omega)]
  exact Evs.now ⟨a, w1, w2, w3, by simp only; omega, by simp only; omega⟩
theorem pp_holdHas (x : S34) (hx : 1 ≤ x.f2 ∧ 1 ≤ x.f3) (i j : Int) : ppHold x i j = true ↔ ppHas x i j := by
  unfold ppHold ppHas ppAmong
  simp only [Bool.and_eq_true, decide_eq_true_eq]
  omega
/-- Where a slot's cell is found. -/
theorem pp_atHit {a b : Int} {l : List S34} (hg : ppGood a b l) (i j : Int) (p : Nat) (hp : p < l.length) (h : ppHas l[p] i j) : ppAt l i j = (p : Int) := by
  obtain ⟨ha, hb, hl, hf, hpw⟩ := hg
  have hpos : ∀ (q : Nat) (hq : q < l.length), 1 ≤ l[q].f2 ∧ 1 ≤ l[q].f3 := fun q hq => by have := hf l[q] (List.getElem_mem _); unfold ppLies at this; omega
  unfold ppAt
  refine ppIdx_hit _ l p hp ((pp_holdHas _ (hpos p hp) i j).2 h) (fun q hq hqp => ?_)
  rw [← Bool.not_eq_true]
  intro hh
  have h2 := (pp_holdHas _ (hpos q hq) i j).1 hh
  refine List.pairwise_iff_getElem.1 hpw q p hq hp hqp ?_
  unfold ppHas at h h2
  unfold ppMeet
  omega
theorem pp_atHas {a b : Int} {l : List S34} (hg : ppGood a b l) (i j : Int) (h : 0 ≤ ppAt l i j) : ∃ (p : Nat) (_ : p < l.length), ppAt l i j = (p : Int) ∧ ppHas l[p] i j := by
  obtain ⟨ha, hb, hl, hf, hpw⟩ := hg
  obtain ⟨q, hq⟩ := ppIdx_at _ l h
  have hpos : 1 ≤ l[(ppAt l i j).toNat].f2 ∧ 1 ≤ l[(ppAt l i j).toNat].f3 := by have := hf l[(ppAt l i j).toNat] (List.getElem_mem _); unfold ppLies at this; omega
  exact ⟨(ppAt l i j).toNat, q, by omega, (pp_holdHas _ hpos i j).1 hq⟩
theorem pp_rowAll {a b : Int} {l : List S34} (hg : ppGood a b l) (z : Int) : ((ppChg (fun j => ppAt l z j) (min b.toNat 94)).length : Int) = ppTot (fun x => if x.f0 ≤ z ∧ z < x.f0 + x.f2 then (1 : Int) else 0) l ∧
    (∀ c ∈ ppChg (fun j => ppAt l z j) (min b.toNat 94), 0 ≤ c ∧ c < (l.length : Int)) ∧ (ppChg (fun j => ppAt l z j) (min b.toNat 94)).Pairwise (fun c d => (rd_T34 l c).f1 < (rd_T34 l d).f1) := by
  obtain ⟨ha, hb, hl, hf, hpw⟩ := id hg
  have := pp_chgAll (fun x : S34 => x.f0 ≤ z ∧ z < x.f0 + x.f2) (fun x => x.f1) (fun x => x.f3) l z34 (fun j => ppAt l z j)
    (fun x hx => by have := hf x hx; unfold ppLies at this; omega)
    (hpw.imp (fun {x y} h q => h (by unfold ppMeet; omega)))
    (fun j p hp _ h1 h2 h3 => pp_atHit hg z (j : Int) p hp ⟨h1, h2, h3⟩)
    (fun j _ h => by
      obtain ⟨p, hp, e, h1, h2, h3⟩ := pp_atHas hg z (j : Int) h
      exact ⟨p, hp, e, h1, h2, h3⟩) (min b.toNat 94) (by omega)
  obtain ⟨t1, t2, t3⟩ := this
  refine ⟨t1.trans (ppTot_congr _ _ l (fun x hx => ?_)), fun c hc => ⟨(t2 c hc).1, (t2 c hc).2.1⟩, t3⟩
  have := hf x hx
  unfold ppLies at this
  by_cases q : x.f0 ≤ z ∧ z < x.f0 + x.f2
  · rw [if_pos q, if_pos ⟨q, by omega⟩]
  · rw [if_neg q, if_neg (fun r => q r.1)]
theorem pp_colAll {a b : Int} {l : List S34} (hg : ppGood a b l) (z : Int) : ((ppChg (fun j => ppAt l j z) (min a.toNat 8)).length : Int) = ppTot (fun x => if x.f1 ≤ z ∧ z < x.f1 + x.f3 then (1 : Int) else 0) l ∧
    (∀ c ∈ ppChg (fun j => ppAt l j z) (min a.toNat 8), 0 ≤ c ∧ c < (l.length : Int)) ∧ (ppChg (fun j => ppAt l j z) (min a.toNat 8)).Pairwise (fun c d => (rd_T34 l c).f0 < (rd_T34 l d).f0) := by
  obtain ⟨ha, hb, hl, hf, hpw⟩ := id hg
  have := pp_chgAll (fun x : S34 => x.f1 ≤ z ∧ z < x.f1 + x.f3) (fun x => x.f0) (fun x => x.f2) l z34 (fun j => ppAt l j z)
    (fun x hx => by have := hf x hx; unfold ppLies at this; omega)
    (hpw.imp (fun {x y} h q => h (by unfold ppMeet; omega)))
    (fun j p hp _ h1 h2 h3 => pp_atHit hg (j : Int) z p hp ⟨⟨h2, h3⟩, h1⟩)
    (fun j _ h => by
      obtain ⟨p, hp, e, ⟨h2, h3⟩, h1⟩ := pp_atHas hg (j : Int) z h
      exact ⟨p, hp, e, h1, h2, h3⟩) (min a.toNat 8) (by omega)
  obtain ⟨t1, t2, t3⟩ := this
  refine ⟨t1.trans (ppTot_congr _ _ l (fun x hx => ?_)), fun c hc => ⟨(t2 c hc).1, (t2 c hc).2.1⟩, t3⟩
  have := hf x hx
  unfold ppLies at this
  by_cases q : x.f1 ≤ z ∧ z < x.f1 + x.f3
  · rw [if_pos q, if_pos ⟨q, by omega⟩]
  · rw [if_neg q, if_neg (fun r => q r.1)]
theorem ppTot_ind {α : Type} (P : α → Prop) [DecidablePred P] (l : List α) : 0 ≤ ppTot (fun x => if P x then (1 : Int) else 0) l ∧ ppTot (fun x => if P x then (1 : Int) else 0) l ≤ l.length := by
  induction l with
  | nil => simp [ppTot]
  | cons x xs ih => simp only [ppTot, List.length_cons]; split <;> omega
theorem ppTot_take {α : Type} (g : α → Int) (l : List α) (i : Nat) (h : i < l.length) : ppTot g (l.take (i + 1)) = ppTot g (l.take i) + g l[i] := by
  rw [List.take_succ_eq_append_getElem h]
  have : ∀ xs : List α, ∀ y, ppTot g (xs ++ [y]) = ppTot g xs + g y := by
    intro xs y
    induction xs with
    | nil => simp [ppTot]
    | cons x xs ih => simp only [List.cons_append, ppTot]; rw [ih]; omega
  exact this _ _
theorem pp_rdP (l : List Int) (i : Nat) (h : i < l.length) : rd l (i : Int) = l[i] := pp_getD l i 0 h
theorem pp_law3 {a b : Int} {l : List S34} (x y : List Int) (n m : Int) (hl : l.length ≤ 41) (hx : n = (x.length : Int)) (hy : m = (y.length : Int)) (hy1 : y.length ≤ 1000) (hb : ∀ c ∈ y, 0 ≤ c ∧ c < (l.length : Int)) (hs : y.Pairwise (fun c d => (rd_T34 l c).f0 < (rd_T34 l d).f0)) :
    Evs (fun k => laws_FnGrdRow.l3 k x y n m 1 a b l) (fun r => r = true) := by
  have fin : ∀ i : Int, ¬ i < (y.length : Int) → Evs (fun k => laws_FnGrdRow.l3 k x y n m i a b l) (fun r => r = true) := by
    intro i hi
    refine Evs.step (f := fun _ => some true) (fun k => ?_) (Evs.now rfl)
    simp only [laws_FnGrdRow.l3]
    rw [if_neg hi, if_pos hx, hy]
    simp
  have loop : ∀ (d i : Nat), y.length - i = d → 1 ≤ i → Evs (fun k => laws_FnGrdRow.l3 k x y n m (i : Int) a b l) (fun r => r = true) := by
    intro d
    induction d with
    | zero => intro i hd hi; exact fin _ (by omega)
    | succ d ih =>
      intro i hd hi
      obtain ⟨i, rfl⟩ : ∃ j, i = j + 1 := ⟨i - 1, by omega⟩
      have nx := ih (i + 1 + 1) (by omega) (by omega)
      have c1 := hb y[i] (List.getElem_mem _)
      have c2 := hb (y[i + 1]'(by omega)) (List.getElem_mem _)
      have hlt := List.pairwise_iff_getElem.1 hs i (i + 1) (by omega) (by omega) (by omega)
      have e1 : wrap64 (((i + 1 : Nat) : Int) - 1) = (i : Int) := by rw [pp_wrap_id _ (by omega) (by omega)]; omega
      have e2 := pp_rdP y i (by omega)
      have e3 := pp_rdP y (i + 1) (by omega)
      refine Evs.step (f := fun k => laws_FnGrdRow.l3 k x y n m ((i + 1 + 1 : Nat) : Int) a b l) (fun k => ?_) nx
      simp only [laws_FnGrdRow.l3]
      rw [if_pos (by omega), e1, if_pos (by omega), if_pos (by omega), e2, if_pos c1.1, if_pos c1.2, if_pos (by omega), e3, if_pos c2.1, if_pos c2.2, if_neg (by omega), pp_wrap_id (((i + 1 : Nat) : Int) + 1) (by omega) (by omega)]
      rfl
  exact loop _ 1 rfl (by omega)
theorem pp_law2 {a b c d : Int} {g l : List S34} (x y : List Int) (n m : Int) (hg : g.length ≤ 41) (hx1 : x.length ≤ 1000) (hb : ∀ c ∈ x, 0 ≤ c ∧ c < (g.length : Int)) (hs : x.Pairwise (fun c d => (rd_T34 g c).f1 < (rd_T34 g d).f1))
    (nxt : Evs (fun k => laws_FnGrdRow.l3 k x y n m 1 c d l) (fun r => r = true)) : Evs (fun k => laws_FnGrdRow.l2 k x y n m 1 a b g c d l) (fun r => r = true) := by
  have loop : ∀ (d' i : Nat), x.length - i = d' → 1 ≤ i → Evs (fun k => laws_FnGrdRow.l2 k x y n m (i : Int) a b g c d l) (fun r => r = true) := by
    intro d'
    induction d' with
    | zero =>
      intro i hd hi
      exact Evs.step (fun k => by simp only [laws_FnGrdRow.l2]; rw [if_neg (by omega)]) nxt
    | succ d' ih =>
      intro i hd hi
      obtain ⟨i, rfl⟩ : ∃ j, i = j + 1 := ⟨i - 1, by omega⟩
      have nx := ih (i + 1 + 1) (by omega) (by omega)
      have c1 := hb x[i] (List.getElem_mem _)
      have c2 := hb (x[i + 1]'(by omega)) (List.getElem_mem _)
      have hlt := List.pairwise_iff_getElem.1 hs i (i + 1) (by omega) (by omega) (by omega)
      have e1 : wrap64 (((i + 1 : Nat) : Int) - 1) = (i : Int) := by rw [pp_wrap_id _ (by omega) (by omega)]; omega
      have e2 := pp_rdP x i (by omega)
      have e3 := pp_rdP x (i + 1) (by omega)
      refine Evs.step (f := fun k => laws_FnGrdRow.l2 k x y n m ((i + 1 + 1 : Nat) : Int) a b g c d l) (fun k => ?_) nx
      simp only [laws_FnGrdRow.l2]
      rw [if_pos (by omega), e1, if_pos (by omega), if_pos (by omega), e2, if_pos c1.1, if_pos c1.2, if_pos (by omega), e3, if_pos c2.1, if_pos c2.2, if_neg (by omega), pp_wrap_id (((i + 1 : Nat) : Int) + 1) (by omega) (by omega)]
      rfl
  exact loop _ 1 rfl (by omega)
theorem pp_law1 {a b c d : Int} {g l : List S34} (hl : ppGood c d l) (z : Int) (x y : List Int) (n : Int)
    (nxt : Evs (fun k => laws_FnGrdRow.l2 k x y n (ppTot (fun x => if x.f1 ≤ z ∧ z < x.f1 + x.f3 then (1 : Int) else 0) l) 1 a b g c d l) (fun r => r = true)) :
    Evs (fun k => laws_FnGrdRow.l1 k z x y n 0 0 a b g c d l) (fun r => r = true) := by
  obtain ⟨ha, hb, h40, hf, _⟩ := hl
  have loop : ∀ (d' i : Nat), l.length - i = d' → i ≤ l.length → Evs (fun k => laws_FnGrdRow.l1 k z x y n (ppTot (fun x => if x.f1 ≤ z ∧ z < x.f1 + x.f3 then (1 : Int) else 0) (l.take i)) (i : Int) a b g c d l) (fun r => r = true) := by
    intro d'
    induction d' with
    | zero =>
      intro i hd hi
      obtain rfl : i = l.length := by omega
      rw [List.take_length]
      exact Evs.step (fun k => by simp only [laws_FnGrdRow.l1]; rw [if_neg (by omega)]) nxt
    | succ d' ih =>
      intro i hd hi
      have hil : i < l.length := by omega
      have nx := ih (i + 1) (by omega) (by omega)
      rw [ppTot_take _ l i hil] at nx
      have hq := hf l[i] (List.getElem_mem _)
      unfold ppLies at hq
      have hbd := ppTot_ind (fun x : S34 => x.f1 ≤ z ∧ z < x.f1 + x.f3) (l.take i)
      have hlt : (l.take i).length ≤ 40 := by rw [List.length_take]; omega
      generalize ppTot (fun x : S34 => if x.f1 ≤ z ∧ z < x.f1 + x.f3 then (1 : Int) else 0) (l.take i) = T at nx hbd ⊢
      refine Evs.step (fun k => by simp only [laws_FnGrdRow.l1]; rw [if_pos (by omega), if_pos (by omega), pp_rdc hil, pp_wrap_id (l[i].f1 + l[i].f3) (by omega) (by omega), pp_wrap_id ((i : Int) + 1) (by omega) (by omega), pp_wrap_id (T + 1) (by omega) (by omega)]) ?_
      refine Evs.ite (fun h1 => Evs.ite (fun h2 => ?_) (fun h2 => ?_)) (fun h1 => ?_)
      · rw [if_pos ⟨h1, h2⟩] at nx; exact nx
      · rw [if_neg (fun q => h2 q.2), Int.add_zero] at nx; exact nx
      · rw [if_neg (fun q => h1 q.1), Int.add_zero] at nx; exact nx
  exact loop _ 0 rfl (by omega)
theorem pp_law0 {a b c d : Int} {g l : List S34} (hg : ppGood a b g) (z z2 : Int) (x y : List Int)
    (nxt : Evs (fun k => laws_FnGrdRow.l1 k z2 x y (ppTot (fun x => if x.f0 ≤ z ∧ z < x.f0 + x.f2 then (1 : Int) else 0) g) 0 0 a b g c d l) (fun r => r = true)) :
    Evs (fun k => laws_FnGrdRow.l0 k z z2 x y 0 0 a b g c d l) (fun r => r = true) := by
  obtain ⟨ha, hb, h40, hf, _⟩ := hg
  have loop : ∀ (d' i : Nat), g.length - i = d' → i ≤ g.length → Evs (fun k => laws_FnGrdRow.l0 k z z2 x y (ppTot (fun x => if x.f0 ≤ z ∧ z < x.f0 + x.f2 then (1 : Int) else 0) (g.take i)) (i : Int) a b g c d l) (fun r => r = true) := by
    intro d'
    induction d' with
    | zero =>
      intro i hd hi
      obtain rfl : i = g.length := by omega
      rw [List.take_length]
      exact Evs.step (fun k => by simp only [laws_FnGrdRow.l0]; rw [if_neg (by omega)]) nxt
    | succ d' ih =>
      intro i hd hi
      have hil : i < g.length := by omega
      have nx := ih (i + 1) (by omega) (by omega)
      rw [ppTot_take _ g i hil] at nx
      have hq := hf g[i] (List.getElem_mem _)
      unfold ppLies at hq
      have hbd := ppTot_ind (fun x : S34 => x.f0 ≤ z ∧ z < x.f0 + x.f2) (g.take i)
      have hlt : (g.take i).length ≤ 40 := by rw [List.length_take]; omega
      generalize ppTot (fun x : S34 => if x.f0 ≤ z ∧ z < x.f0 + x.f2 then (1 : Int) else 0) (g.take i) = T at nx hbd ⊢
      refine Evs.step (fun k => by simp only [laws_FnGrdRow.l0]; rw [if_pos (by omega), if_pos (by omega), pp_rdc hil, pp_wrap_id (g[i].f0 + g[i].f2) (by omega) (by omega), pp_wrap_id ((i : Int) + 1) (by omega) (by omega), pp_wrap_id (T + 1) (by omega) (by omega)]) ?_
      refine Evs.ite (fun h1 => Evs.ite (fun h2 => ?_) (fun h2 => ?_)) (fun h1 => ?_)
      · rw [if_pos ⟨h1, h2⟩] at nx; exact nx
      · rw [if_neg (fun q => h2 q.2), Int.add_zero] at nx; exact nx
      · rw [if_neg (fun q => h1 q.1), Int.add_zero] at nx; exact nx
  exact loop _ 0 rfl (by omega)
theorem FnGrdRow : ∀ (l0 : List (Int)) (l1 : List (Int)), (l0.length ≤ 9223372036854775807 ∧ ∀ (x : Int), x ∈ l0 → (Lit.int .u8 x).wf = true) → (l1.length ≤ 9223372036854775807 ∧ ∀ (x : Int), x ∈ l1 → (Lit.int .u8 x).wf = true) → ∃ k, laws_FnGrdRow.f k l0 l1 = some true := by
  intro l0 l1 h0 h1
  refine Evs.ends (r := true) ?_
  unfold laws_FnGrdRow.f
  have J : ∀ v, Evs (fun k => laws_FnGrdRow.j0 k l0 l1 v) (fun r => r = true) := by
    intro v
    refine Evs.step (fun k => by simp only [laws_FnGrdRow.j0]; rfl) ?_
    refine Evs.ite (fun _ => Evs.now rfl) (fun _ => ?_)
    refine Evs.bnd (pp_drawRow l0 h0.2) ?_
    rintro ⟨a, b, g, z⟩ ⟨g1, g2, g3, g4, g5, g6⟩
    simp only at g1 g2 g3 g4 g5 g6 ⊢
    refine Evs.bnd (pp_drawCol l1 h1.2) ?_
    rintro ⟨c, d, l, y⟩ ⟨k1, k2, k3, k4, k5, k6⟩
    simp only at k1 k2 k3 k4 k5 k6 ⊢
    have hz : (Lit.int .i64 z).wf = true := pp_wfi _ (by omega) (by omega)
    have hy : (Lit.int .i64 y).wf = true := pp_wfi _ (by omega) (by omega)
    refine Evs.bnd (pp_implGrdRow a b g z g4 hz) ?_
    rintro _ rfl
    refine Evs.bnd (pp_implGrdCol c d l y k4 hy) ?_
    rintro _ rfl
    refine Evs.bnd (pp_specGrdRow a b g z (by omega) g4 hz g3) ?_
    rintro _ rfl
    have lx := ppChg_len (fun j => ppAt g z j) (min b.toNat 94)
    have ly := ppChg_len (fun j => ppAt l j y) (min c.toNat 8)
    refine Evs.bnd (pp_pwInts _ (by omega)) ?_
    rintro _ rfl
    refine Evs.pos rfl ?_
    refine Evs.bnd (pp_specGrdCol c d l y (by omega) k4 hy k2) ?_
    rintro _ rfl
    refine Evs.bnd (pp_pwInts _ (by omega)) ?_
    rintro _ rfl
    refine Evs.step (fun k => by simp only [laws_FnGrdRow.j1]; rfl) ?_
    refine Evs.neg (by decide) ?_
    have N : Evs (fun k => laws_FnGrdRow.j2 k z y (ppChg (fun j => ppAt g z j) (min b.toNat 94)) (ppChg (fun j => ppAt l j y) (min c.toNat 8)) true a b g c d l) (fun r => r = true) := by
      refine Evs.step (fun k => by simp only [laws_FnGrdRow.j2]; rfl) ?_
      refine Evs.pos trivial ?_
      refine Evs.bnd (pp_implOk a b g) (fun t ht => ?_)
      refine Evs.bnd (pp_specOk a b g) (fun u hu => ?_)
      have e : t = u := by rw [Bool.eq_iff_iff, ht, hu]
      refine Evs.pos (by rw [e]; simp) ?_
      rw [pp_pwOk]
      exact Evs.now rfl
    refine Evs.bnd (pp_specOk a b g) (fun t ht => Evs.ite (fun h => ?_) (fun _ => N))
    refine Evs.bnd (pp_specOk c d l) (fun t' ht' => ?_)
    by_cases h' : t' = true
    · subst h'
      refine Evs.step (fun k => by simp only [laws_FnGrdRow.j2]; rfl) ?_
      refine Evs.neg (by decide) ?_
      have hg := ht.1 h
      have hl := ht'.1 rfl
      obtain ⟨r1, r2, r3⟩ := pp_rowAll hg z
      obtain ⟨c1, c2, c3⟩ := pp_colAll hl y
      exact pp_law0 hg z y _ _ (pp_law1 hl y _ _ _ (pp_law2 _ _ _ _ g1 (by omega) r2 r3 (pp_law3 _ _ _ _ k1 r1.symm c1.symm (by omega) c2 c3)))
    · have e : t' = false := by simpa using h'
      subst e
      exact N
  exact Evs.ite (fun _ => J _) (fun _ => J _)

end Go.Proofs.YtkbcmbjoelkgoaaDoor.Pure
