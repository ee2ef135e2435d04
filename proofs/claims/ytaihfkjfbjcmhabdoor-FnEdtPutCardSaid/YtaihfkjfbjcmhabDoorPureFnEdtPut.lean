/-
  a drawn table into which a cell is put: impl and spec tell the same table; where there is room and the cell is ok, it is ok, has one cell more, that cell at its place, and with the cell taken out all is as it was; else all is as it was; at all draws.
  Conditions: none but those of the statement.
-/
import Derived.Test.YtaihfkjfbjcmhabDoorQlawsFnEdtPut
namespace Go.Proofs.YtaihfkjfbjcmhabDoor.Pure
open Go.RowKit Go.Proofs.YtaihfkjfbjcmhabDoor.Q Go.Proofs.YtaihfkjfbjcmhabDoorW.PrintWords Go.Proofs.YtaihfkjfbjcmhabDoorW.PrintLast Go.Proofs.YtaihfkjfbjcmhabDoorW.PrintMore
set_option linter.unusedVariables false
set_option linter.unusedSimpArgs false

theorem pp_wrap_id (a : Int) (h : -9223372036854775808 ≤ a) (h' : a ≤ 9223372036854775807) : wrap64 a = a := by unfold wrap64; omega
/-- With enough rounds g answers, and P holds of the answer. -/
def Evs {α : Type} (g : Nat → Option α) (P : α → Prop) : Prop := ∃ r K, P r ∧ ∀ k, K ≤ k → g k = some r
theorem Evs.now {α : Type} {P : α → Prop} {r : α} (h : P r) : Evs (fun _ => some r) P := ⟨r, 0, h, fun _ _ => rfl⟩
theorem Evs.bnd {α β : Type} {g : Nat → Option α} {f : Nat → α → Option β} {P : α → Prop} {Q : β → Prop} (h : Evs g P) (k : ∀ a, P a → Evs (fun n => f n a) Q) : Evs (fun n => (g n).bind (f n)) Q := by
  obtain ⟨a, K, hP, h⟩ := h
  obtain ⟨r, K', hQ, k⟩ := k a hP
  refine ⟨r, max K K', hQ, fun n hn => ?_⟩
  show (g n).bind (f n) = some r
  rw [h n (by omega)]
  exact k n (by omega)
theorem Evs.step {α : Type} {g f : Nat → Option α} {P : α → Prop} (h : ∀ k, g (k + 1) = f k) (k : Evs f P) : Evs g P := by
  obtain ⟨r, K, hP, k⟩ := k
  refine ⟨r, K + 1, hP, fun n hn => ?_⟩
  obtain ⟨m, rfl⟩ : ∃ m, n = m + 1 := ⟨n - 1, by omega⟩
  rw [h]
  exact k m (by omega)
theorem Evs.cong {α : Type} {g f : Nat → Option α} {P : α → Prop} (h : ∀ k, g k = f k) (k : Evs f P) : Evs g P := by
  obtain ⟨r, K, hP, k⟩ := k
  exact ⟨r, K, hP, fun n hn => (h n).trans (k n hn)⟩
theorem Evs.imp {α : Type} {g : Nat → Option α} {P Q : α → Prop} (h : Evs g P) (hq : ∀ r, P r → Q r) : Evs g Q := by
  obtain ⟨r, K, hP, k⟩ := h
  exact ⟨r, K, hq r hP, k⟩
theorem Evs.of {α : Type} {g : Nat → Option α} {r : α} (K : Nat) (h : ∀ k, K ≤ k → g k = some r) : Evs g (fun q => q = r) := ⟨r, K, rfl, h⟩
theorem Evs.ends {α : Type} {g : Nat → Option α} {r : α} (h : Evs g (fun q => q = r)) : ∃ k, g k = some r := by
  obtain ⟨q, K, rfl, k⟩ := h
  exact ⟨K, k K (Nat.le_refl _)⟩
theorem Evs.pos {α : Type} {g f : Nat → Option α} {c : Prop} [Decidable c] {P : α → Prop} (hc : c) (h : Evs g P) : Evs (fun k => if c then g k else f k) P := h.cong (fun k => if_pos hc)
theorem Evs.neg {α : Type} {g f : Nat → Option α} {c : Prop} [Decidable c] {P : α → Prop} (hc : ¬ c) (h : Evs f P) : Evs (fun k => if c then g k else f k) P := h.cong (fun k => if_neg hc)
theorem Evs.ite {α : Type} {g f : Nat → Option α} {c : Prop} [Decidable c] {P : α → Prop} (h : c → Evs g P) (h' : ¬ c → Evs f P) : Evs (fun k => if c then g k else f k) P := by
  by_cases hc : c
  · exact Evs.pos hc (h hc)
  · exact Evs.neg hc (h' hc)
/-- A loop that counts up. -/
theorem Evs.up {σ ρ : Type} (E : Nat → σ → Int → Option ρ) (n : Nat) (Inv : Nat → σ → Prop) (Post : ρ → Prop)
    (hs : ∀ s (i : Nat), i < n → Inv i s → (∀ s', Inv (i + 1) s' → Evs (fun k => E k s' ((i : Int) + 1)) Post) → Evs (fun k => E k s (i : Int)) Post)
    (he : ∀ s, Inv n s → Evs (fun k => E k s (n : Int)) Post) : ∀ s, Inv 0 s → Evs (fun k => E k s 0) Post := by
  have key : ∀ (d i : Nat) (s : σ), n - i = d → i ≤ n → Inv i s → Evs (fun k => E k s (i : Int)) Post := by
    intro d
    induction d with
    | zero =>
      intro i s hd hi hI
      obtain rfl : i = n := by omega
      exact he s hI
    | succ d ih =>
      intro i s hd hi hI
      exact hs s i (by omega) hI (fun s' hI' => by simpa using ih (i + 1) s' (by omega) (by omega) hI')
  intro s hI
  simpa using key n 0 s (by omega) (by omega) hI

theorem pp_getD {α : Type} (l : List α) (i : Nat) (z : α) (h : i < l.length) : l.getD (i : Int).toNat z = l[i] := by
  simp [List.getD_eq_getElem?_getD, List.getElem?_eq_getElem h]
/-- What a reader reads: bytes, no more than 2000. -/
def ppRd (l : List Int) : Prop := l.length ≤ 2000 ∧ ∀ x ∈ l, 0 ≤ x ∧ x ≤ 255
theorem pp_u8 (l : List Int) (h : ∀ x ∈ l, (Lit.int .u8 x).wf = true) : ∀ x ∈ l, 0 ≤ x ∧ x ≤ 255 := by
  intro x hx
  have := h x hx
  simp [Lit.wf, IntKind.min, IntKind.max, IntKind.signed, IntKind.bits] at this
  omega
theorem pp_rdb (l : List Int) (h : ∀ x ∈ l, 0 ≤ x ∧ x ≤ 255) (i : Int) : 0 ≤ rd l i ∧ rd l i ≤ 255 := by
  unfold rd
  rw [List.getD_eq_getElem?_getD]
  cases e : l[i.toNat]? with
  | none => simp
  | some v => exact h v (List.mem_of_getElem? e)
theorem pp_open (l : List Int) (h : ∀ x ∈ l, (Lit.int .u8 x).wf = true) : ∃ b, spec_l20Open.f l = some (b, 0) ∧ ppRd b := by
  unfold spec_l20Open.f
  by_cases hl : (l.length : Int) > 2000
  · rw [if_pos hl, if_pos (by omega)]
    exact ⟨_, rfl, by rw [List.length_take]; omega, fun x hx => pp_u8 l h x (List.mem_of_mem_take hx)⟩
  · rw [if_neg hl]
    exact ⟨_, rfl, by omega, pp_u8 l h⟩
theorem pp_xor (x y : Int) (hx : 0 ≤ x) (hy : 0 ≤ y) (hx' : x < 4611686018427387904) (hy' : y < 4611686018427387904) : 0 ≤ Go.bits .xor .i64 x y ∧ Go.bits .xor .i64 x y < 4611686018427387904 := by
  obtain ⟨a, rfl⟩ : ∃ a : Nat, x = a := ⟨x.toNat, by omega⟩
  obtain ⟨b, rfl⟩ : ∃ b : Nat, y = b := ⟨y.toNat, by omega⟩
  have ha : a % 2 ^ 64 = a := Nat.mod_eq_of_lt (by omega)
  have hb : b % 2 ^ 64 = b := Nat.mod_eq_of_lt (by omega)
  have hlt : a ^^^ b < 2 ^ 62 := Nat.xor_lt_two_pow (by omega) (by omega)
  have e : Go.bits .xor .i64 (a : Int) (b : Int) = IntKind.i64.wrap ((a ^^^ b : Nat) : Int) := by
    have q : (BitVec.ofNat 64 a ^^^ BitVec.ofNat 64 b).toNat = a ^^^ b := by rw [BitVec.toNat_xor, BitVec.toNat_ofNat, BitVec.toNat_ofNat, ha, hb]
    simp only [Go.bits, BitVec.ofInt_natCast, IntKind.bits]
    exact congrArg (fun z : Nat => IntKind.i64.wrap (z : Int)) q
  rw [e, IntKind.wrap_i64]
  omega
theorem pp_pick (l : List Int) (h : ppRd l) (p n : Int) (hp : 0 ≤ p) (hp' : p ≤ 1000000000) (hn : n ≤ 1000000) :
    Evs (fun k => spec_l20Rd_pick.f k l p n) (fun r => r.2 = p + 1 ∧ 0 ≤ r.1 ∧ (n < 1 → r.1 = 0) ∧ (1 ≤ n → r.1 < n)) := by
  obtain ⟨hl, hb⟩ := h
  have e1 : wrap64 (p + 1) = p + 1 := pp_wrap_id _ (by omega) (by omega)
  have e2 : wrap64 (p + 1 - 1) = p := by rw [show p + 1 - 1 = p by omega]; exact pp_wrap_id _ (by omega) (by omega)
  unfold spec_l20Rd_pick.f
  rw [e1]
  by_cases h1 : n < 1
  · refine Evs.cong (fun k => if_pos h1) (Evs.step (f := fun _ => some (0, p + 1)) (fun k => by simp only [spec_l20Rd_pick.j0, if_true]) (Evs.now ⟨rfl, by simp, fun _ => rfl, fun h => by omega⟩))
  · refine Evs.cong (fun k => if_neg h1) ?_
    by_cases h0 : l.length = 0
    · refine Evs.step (f := fun _ => some (0, p + 1)) (fun k => by simp only [spec_l20Rd_pick.j0]; rw [if_pos (by simp [h0])]) (Evs.now ⟨rfl, by simp, fun _ => rfl, fun h => by simp; omega⟩)
    · have hne : (((l.length : Int) == 0) = true) = False := by
        have : l ≠ [] := fun e => h0 (by rw [e]; rfl)
        simpa using this
      by_cases hlt : p < (l.length : Int)
      · have hr := pp_rdb l hb p
        have hm := Int.emod_nonneg (rd l p) (show n ≠ 0 by omega)
        have hm' := Int.emod_lt_of_pos (rd l p) (show 0 < n by omega)
        refine Evs.step (f := fun _ => some (Int.tmod (rd l p) n, p + 1)) (fun k => by
          simp only [spec_l20Rd_pick.j0, e2, hne, if_false]
          rw [if_pos hlt, if_pos hp, if_neg (show ¬ n = 0 by omega), pp_wrap_id (rd l p) (by omega) (by omega)]) (Evs.now ⟨rfl, ?_, fun h => absurd h h1, fun _ => ?_⟩)
        · simp only [Int.tmod_eq_emod_of_nonneg hr.1]; exact hm
        · simp only [Int.tmod_eq_emod_of_nonneg hr.1]; exact hm'
      · have hL : (0 : Int) < (l.length : Int) := by omega
        have ei : Int.tmod p (l.length : Int) = p % (l.length : Int) := Int.tmod_eq_emod_of_nonneg hp
        have ed : Int.tdiv p (l.length : Int) = p / (l.length : Int) := Int.tdiv_eq_ediv_of_nonneg hp
        have i0 := Int.emod_nonneg p (show (l.length : Int) ≠ 0 by omega)
        have i1 := Int.emod_lt_of_pos p hL
        have d0 : 0 ≤ p / (l.length : Int) := Int.ediv_nonneg hp (by omega)
        have d1 : p / (l.length : Int) ≤ p := Int.ediv_le_self _ hp
        have e7 : wrap64 (wrap64 (p * 7) + 3) = p * 7 + 3 := by rw [pp_wrap_id (p * 7) (by omega) (by omega), pp_wrap_id _ (by omega) (by omega)]
        have ej : Int.tmod (p * 7 + 3) (l.length : Int) = (p * 7 + 3) % (l.length : Int) := Int.tmod_eq_emod_of_nonneg (by omega)
        have j0 := Int.emod_nonneg (p * 7 + 3) (show (l.length : Int) ≠ 0 by omega)
        have j1 := Int.emod_lt_of_pos (p * 7 + 3) hL
        obtain ⟨u, hu⟩ : ∃ u, u = rd l (p % (l.length : Int)) := ⟨_, rfl⟩
        obtain ⟨v, hv⟩ : ∃ v, v = rd l ((p * 7 + 3) % (l.length : Int)) := ⟨_, rfl⟩
        have hu' : 0 ≤ u ∧ u ≤ 255 := by rw [hu]; exact pp_rdb l hb _
        have hv' : 0 ≤ v ∧ v ≤ 255 := by rw [hv]; exact pp_rdb l hb _
        obtain ⟨dq, hdq⟩ : ∃ dq, dq = p / (l.length : Int) := ⟨_, rfl⟩
        rw [← hdq] at d0 d1
        have w1 : wrap64 u = u := pp_wrap_id _ (by omega) (by omega)
        have w2 : wrap64 (u * 131) = u * 131 := pp_wrap_id _ (by omega) (by omega)
        have w3 : wrap64 v = v := pp_wrap_id _ (by omega) (by omega)
        have w4 : wrap64 (v * 1117) = v * 1117 := pp_wrap_id _ (by omega) (by omega)
        have w5 : wrap64 (u * 131 + v * 1117) = u * 131 + v * 1117 := pp_wrap_id _ (by omega) (by omega)
        have w6 : wrap64 (p * 29) = p * 29 := pp_wrap_id _ (by omega) (by omega)
        have w7 : wrap64 (u * 131 + v * 1117 + p * 29) = u * 131 + v * 1117 + p * 29 := pp_wrap_id _ (by omega) (by omega)
        have w8 : wrap64 dq = dq := pp_wrap_id _ (by omega) (by omega)
        have w9 : wrap64 (dq * 53) = dq * 53 := pp_wrap_id _ (by omega) (by omega)
        have wa : wrap64 (u * 131 + v * 1117 + p * 29 + dq * 53) = u * 131 + v * 1117 + p * 29 + dq * 53 := pp_wrap_id _ (by omega) (by omega)
        obtain ⟨x, hx⟩ : ∃ x, x = u * 131 + v * 1117 + p * 29 + dq * 53 := ⟨_, rfl⟩
        have x0 : 0 ≤ x := by omega
        have x1 : x < 4611686018427387904 := by omega
        have wx : wrap64 x = x := pp_wrap_id _ (by omega) (by omega)
        have ex : Int.tdiv x 64 = x / 64 := Int.tdiv_eq_ediv_of_nonneg x0
        have wb : wrap64 (x / 64) = x / 64 := pp_wrap_id _ (by omega) (by omega)
        have hz := pp_xor x (x / 64) x0 (by omega) x1 (by omega)
        have hm := Int.emod_nonneg (Go.bits .xor .i64 x (x / 64)) (show n ≠ 0 by omega)
        have hm' := Int.emod_lt_of_pos (Go.bits .xor .i64 x (x / 64)) (show 0 < n by omega)
        refine Evs.step (f := fun _ => some (Int.tmod (Go.bits .xor .i64 x (x / 64)) n, p + 1)) (fun k => by
          simp only [spec_l20Rd_pick.j0, e2, hne, if_false, ei, ed, e7, ej, ← hu, ← hv, ← hdq, w1, w2, w3, w4, w5, w6, w7, w8, w9, wa, ← hx, wx, ex, wb]
          rw [if_neg hlt, if_neg (by omega), if_pos i0, if_pos i1, if_pos j0, if_pos j1, if_neg (by omega)]) (Evs.now ⟨rfl, ?_, fun h => absurd h h1, fun _ => ?_⟩)
        · simp only [Int.tmod_eq_emod_of_nonneg hz.1]; exact hm
        · simp only [Int.tmod_eq_emod_of_nonneg hz.1]; exact hm'

theorem pp_brd_j1 (l : List Int) (h : ppRd l) (n p s w : Int) (hn : n ≤ 1000000) (hp : 0 ≤ p) (hp' : p ≤ 900000000) (hs : -1 ≤ s ∧ s ≤ 5) (hw : -1 ≤ w ∧ w ≤ 4) :
    Evs (fun k => spec_l20Brd.j1 k n l p s w) (fun r => (-1 ≤ r.1 ∧ r.1 ≤ 5) ∧ (-1 ≤ r.2.1 ∧ r.2.1 ≤ 4) ∧ p ≤ r.2.2 ∧ r.2.2 ≤ p + 3) := by
  refine Evs.step (fun k => by simp only [spec_l20Brd.j1]; try rfl) ?_
  refine Evs.bnd (pp_pick l h p n hp (by omega) (by omega)) ?_
  rintro ⟨v, q⟩ ⟨hq, h0, _, _⟩
  simp only at hq h0 ⊢
  refine Evs.ite (fun _ => ?_) (fun _ => Evs.now ⟨hs, hw, by simp only; omega, by simp only; omega⟩)
  refine Evs.bnd (pp_pick l h q 2 (by omega) (by omega) (by omega)) ?_
  rintro ⟨v2, q2⟩ ⟨hq2, h02, _, _⟩
  simp only at hq2 h02 ⊢
  refine Evs.ite (fun _ => ?_) (fun _ => ?_)
  · simp only [Option.bind_some]
    refine Evs.bnd (pp_pick l h q2 3 (by omega) (by omega) (by omega)) ?_
    rintro ⟨v3, q3⟩ ⟨hq3, h03, _, h13⟩
    simp only at hq3 h03 h13 ⊢
    have h13 := h13 (by omega)
    refine Evs.pos h03 (Evs.pos (by simp; omega) (Evs.now ⟨?_, hw, by simp only; omega, by simp only; omega⟩))
    have : v3 = 0 ∨ v3 = 1 ∨ v3 = 2 := by omega
    rcases this with rfl | rfl | rfl <;> simp [rd]
  · simp only [Option.bind_some]
    refine Evs.bnd (pp_pick l h q2 4 (by omega) (by omega) (by omega)) ?_
    rintro ⟨v3, q3⟩ ⟨hq3, h03, _, h13⟩
    simp only at hq3 h03 h13 ⊢
    have h13 := h13 (by omega)
    refine Evs.pos h03 (Evs.pos (by simp; omega) (Evs.now ⟨hs, ?_, by simp only; omega, by simp only; omega⟩))
    have : v3 = 0 ∨ v3 = 1 ∨ v3 = 2 ∨ v3 = 3 := by omega
    rcases this with rfl | rfl | rfl | rfl <;> simp [rd]
theorem pp_brd (l : List Int) (h : ppRd l) (n p : Int) (hn : n ≤ 1000000) (hp : 0 ≤ p) (hp' : p ≤ 800000000) :
    Evs (fun k => spec_l20Brd.f k l p n) (fun r => (-1 ≤ r.1 ∧ r.1 ≤ 5) ∧ (-1 ≤ r.2.1 ∧ r.2.1 ≤ 4) ∧ p ≤ r.2.2 ∧ r.2.2 ≤ p + 6) := by
  have two : ∀ q, p ≤ q → q ≤ p + 1 → Evs (fun k => (spec_l20Rd_pick.f k l q 3).bind fun a => (spec_l20Rd_pick.f k l a.2 3).bind fun b => spec_l20Brd.j1 k n l b.2 (wrap64 (1 + a.1)) (wrap64 (1 + b.1))) (fun r => (-1 ≤ r.1 ∧ r.1 ≤ 5) ∧ (-1 ≤ r.2.1 ∧ r.2.1 ≤ 4) ∧ p ≤ r.2.2 ∧ r.2.2 ≤ p + 6) := by
    intro q hq0 hq1
    refine Evs.bnd (pp_pick l h q 3 (by omega) (by omega) (by omega)) ?_
    rintro ⟨v2, q2⟩ ⟨hq2, h02, _, h12⟩
    simp only at hq2 h02 h12 ⊢
    have h12 := h12 (by omega)
    refine Evs.bnd (pp_pick l h q2 3 (by omega) (by omega) (by omega)) ?_
    rintro ⟨v3, q3⟩ ⟨hq3, h03, _, h13⟩
    simp only at hq3 h03 h13 ⊢
    have h13 := h13 (by omega)
    rw [pp_wrap_id (1 + v2) (by omega) (by omega), pp_wrap_id (1 + v3) (by omega) (by omega)]
    exact (pp_brd_j1 l h n q3 _ _ hn (by omega) (by omega) ⟨by omega, by omega⟩ ⟨by omega, by omega⟩).imp fun r ⟨a, b, c, d⟩ => ⟨a, b, by omega, by omega⟩
  unfold spec_l20Brd.f
  refine Evs.bnd (pp_pick l h p 4 hp (by omega) (by omega)) ?_
  rintro ⟨v, q⟩ ⟨hq, h0, _, h1⟩
  simp only at hq h0 h1 ⊢
  refine Evs.ite (fun hv => ?_) (fun hv => ?_)
  · refine Evs.step (fun k => by simp only [spec_l20Brd.j0]; rw [if_pos (by simp [hv])]; try rfl) ?_
    exact two q (by omega) (by omega)
  · by_cases hv1 : v = 1
    · refine Evs.step (fun k => by simp only [spec_l20Brd.j0]; rw [if_pos (by simp [hv1])]; try rfl) ?_
      exact two q (by omega) (by omega)
    · refine Evs.step (fun k => by simp only [spec_l20Brd.j0]; rw [if_neg (by simp [hv1])]; try rfl) ?_
      refine Evs.ite (fun _ => ?_) (fun _ => (pp_brd_j1 l h n q 0 0 hn (by omega) (by omega) ⟨by omega, by omega⟩ ⟨by omega, by omega⟩).imp fun r ⟨a, b, c, d⟩ => ⟨a, b, by omega, by omega⟩)
      refine Evs.bnd (pp_pick l h q 3 (by omega) (by omega) (by omega)) ?_
      rintro ⟨v2, q2⟩ ⟨hq2, h02, _, h12⟩
      simp only at hq2 h02 h12 ⊢
      refine Evs.ite (fun _ => ?_) (fun _ => ?_)
      · exact (pp_brd_j1 l h n q2 _ _ hn (by omega) (by omega) ⟨by omega, by omega⟩ ⟨by omega, by omega⟩).imp fun r ⟨a, b, c, d⟩ => ⟨a, b, by omega, by omega⟩
      · exact (pp_brd_j1 l h n q2 _ _ hn (by omega) (by omega) ⟨by omega, by omega⟩ ⟨by omega, by omega⟩).imp fun r ⟨a, b, c, d⟩ => ⟨a, b, by omega, by omega⟩

theorem pp_join (x y : ByteArray) (hx : x.size ≤ 30) (hy : y.size ≤ 10) : (ppJoin x y).size ≤ 30 := by
  unfold ppJoin
  split
  · omega
  · split
    · rename_i h
      rw [ByteArray.size_append, ByteArray.size_append]
      have : (⟨#[32]⟩ : ByteArray).size = 1 := rfl
      omega
    · exact hx
theorem pp_text_l (l : List Int) (h : ppRd l) : ∀ (n : Nat) (x : ByteArray) (p : Int), x.size ≤ 30 → 0 ≤ p → p + n ≤ 800000000 → n ≤ 10 → Evs (fun k => spec_l20Text.l k l n x p) (fun r => r.1.size ≤ 30 ∧ p ≤ r.2 ∧ r.2 ≤ p + n)
  | 0, x, p, hx, hp, hp', hn => Evs.cong (f := fun _ => some (x, p)) (fun _ => rfl) (Evs.now ⟨hx, by simp, by simp⟩)
  | n + 1, x, p, hx, hp, hp', hn => by
    unfold spec_l20Text.l
    refine Evs.bnd (pp_pick l h p 7 hp (by omega) (by omega)) ?_
    rintro ⟨v, q⟩ ⟨hq, h0, _, h1⟩
    simp only at hq h0 h1 ⊢
    have h1 := h1 (by omega)
    refine Evs.pos ⟨h0, h1, hx⟩ ((pp_text_l l h n _ q (pp_join _ _ hx (ppW7_size _)) (by omega) (by omega) (by omega)).imp fun r ⟨a, b, c⟩ => ⟨a, by omega, by omega⟩)
theorem pp_text (l : List Int) (h : ppRd l) (p : Int) (hp : 0 ≤ p) (hp' : p ≤ 700000000) : Evs (fun k => spec_l20Text.f k l p) (fun r => r.1.size ≤ 30 ∧ p ≤ r.2 ∧ r.2 ≤ p + 6) := by
  unfold spec_l20Text.f
  refine Evs.bnd (pp_pick l h p 6 hp (by omega) (by omega)) ?_
  rintro ⟨v, q⟩ ⟨hq, h0, _, h1⟩
  simp only at hq h0 h1 ⊢
  have h1 := h1 (by omega)
  refine Evs.pos ⟨h0, by omega⟩ ((pp_text_l l h v.toNat ⟨#[]⟩ q (by decide) (by omega) (by omega) (by omega)).imp fun r ⟨a, b, c⟩ => ⟨a, by omega, by omega⟩)
/-- A small letter. -/
def ppLow (c : UInt8) : Bool := decide (97 ≤ c.toNat ∧ c.toNat ≤ 122)
/-- A text, byte by byte; b: its beginning or a blank stands ahead. -/
def ppOkL : Bool → List UInt8 → Bool
  | b, [] => !b
  | b, c :: r => if c = 32 then !b && ppOkL true r else ppLow c && ppOkL false r
/-- Whether a text is ok. -/
def ppTxtB (x : ByteArray) : Bool := decide (x.size ≤ 30) && (decide (x.size = 0) || ppOkL true x.data.toList)
/-- A text's pieces between its blanks. -/
def ppPcs : List UInt8 → List (List UInt8)
  | [] => [[]]
  | c :: r => if c = 32 then [] :: ppPcs r else match ppPcs r with
    | h :: t => (c :: h) :: t
    | [] => [[c]]
theorem ppPcs_split : ∀ l : List UInt8, Lib.splitK [32] 0 (Lib.count l [32]) l = ppPcs l
  | [] => by rw [Lib.count_one]; rfl
  | c :: r => by
    have ih := ppPcs_split r
    by_cases h : c = 32
    · subst h
      rw [Lib.count_cons_eq, Nat.add_comm]
      have hix : Lib.index (32 :: r) [32] = 0 := by rw [Lib.index]; simp [List.isPrefixOf]
      unfold Lib.splitK ppPcs
      rw [hix, if_neg (by decide), if_pos rfl, ← ih]
      simp
    · rw [Lib.count_cons_ne c 32 r h]
      have hp : ([32] : List UInt8).isPrefixOf (c :: r) = false := by simp [List.isPrefixOf, Ne.symm h]
      have hix : Lib.index (c :: r) [32] = if Lib.index r [32] == -1 then -1 else Lib.index r [32] + 1 := by rw [Lib.index, hp]; simp
      unfold ppPcs
      rw [if_neg h, ← ih]
      by_cases hm : Lib.index r [32] = -1
      · rw [Lib.count_miss hm]
        rfl
      · have hge := Lib.index_ge r [32]
        obtain ⟨j, hj⟩ : ∃ j : Nat, Lib.index r [32] = j := ⟨(Lib.index r [32]).toNat, by omega⟩
        have hc := Lib.count_hit (s := r) (sub := [32]) (by simp) hj
        rw [hc, Nat.add_comm]
        have e1 : ¬ ((j : Int) == -1) = true := fun e => by have := beq_iff_eq.1 e; omega
        have e2 : ¬ ((j : Int) + 1 == -1) = true := fun e => by have := beq_iff_eq.1 e; omega
        have e3 : ((j : Int) + 1).toNat = j + 1 := by omega
        unfold Lib.splitK
        rw [hix, hj, if_neg e1, if_neg e2, if_neg e1, e3]
        simp
def ppWordL (x : List UInt8) : Bool := !x.isEmpty && x.all ppLow
theorem ppPcs_ok : ∀ (l : List UInt8) (b : Bool), ∃ h t, ppPcs l = h :: t ∧ ppOkL b l = ((!(b && h.isEmpty)) && h.all ppLow && t.all ppWordL)
  | [], b => ⟨[], [], rfl, by cases b <;> rfl⟩
  | c :: r, b => by
    by_cases h : c = 32
    · obtain ⟨h', t', e, q⟩ := ppPcs_ok r true
      refine ⟨[], h' :: t', by unfold ppPcs; rw [if_pos h, e], ?_⟩
      unfold ppOkL
      rw [if_pos h, q]
      simp only [List.all_cons, ppWordL, List.isEmpty_nil, List.all_nil, Bool.and_true, Bool.true_and]
    · obtain ⟨h', t', e, q⟩ := ppPcs_ok r false
      refine ⟨c :: h', t', by unfold ppPcs; rw [if_neg h, e], ?_⟩
      unfold ppOkL
      rw [if_neg h, q]
      simp only [List.all_cons, List.isEmpty_cons, Bool.and_false, Bool.not_false, Bool.false_and, Bool.true_and, Bool.and_assoc]
theorem ppPcs_all (l : List UInt8) : (ppPcs l).all ppWordL = ppOkL true l := by
  obtain ⟨h, t, e, q⟩ := ppPcs_ok l true
  rw [e, q]
  simp only [List.all_cons, ppWordL, Bool.true_and]
theorem ppAz_low : ∀ c : UInt8, Txt.ppAz.contains c = ppLow c := by
  have h : ∀ n : Fin 256, Txt.ppAz.contains (UInt8.ofNat n.val) = ppLow (UInt8.ofNat n.val) := by decide +kernel
  intro c
  have := h ⟨c.toNat, c.toNat_lt⟩
  simpa using this
theorem ppDrop_head {α : Type} (p : α → Bool) : ∀ (l : List α) (a : α) (t : List α), l.dropWhile p = a :: t → p a = false
  | [], _, _, h => by simp at h
  | b :: r, a, t, h => by
    rw [List.dropWhile_cons] at h
    by_cases hb : p b = true
    · rw [if_pos hb] at h
      exact ppDrop_head p r a t h
    · rw [if_neg hb] at h
      injection h with h1 h2
      rw [← h1]
      simpa using hb
theorem ppDrop_nil {α : Type} (p : α → Bool) : ∀ l : List α, l.dropWhile p = [] ↔ ∀ x ∈ l, p x = true
  | [] => by simp
  | b :: r => by
    rw [List.dropWhile_cons]
    by_cases hb : p b = true
    · rw [if_pos hb, ppDrop_nil p r]
      simp [hb]
    · rw [if_neg hb]
      simp [hb]
theorem ppTrim_nil (l cs : List UInt8) : (Lib.trimS l cs).isEmpty = l.all (cs.contains ·) := by
  have hall : (Lib.trimS l cs) = [] ↔ ∀ x ∈ l, cs.contains x = true := by
    unfold Lib.trimS Lib.trimLeftS Lib.trimRightS
    cases hy : l.reverse.dropWhile (cs.contains ·) with
    | nil =>
      have h2 := (ppDrop_nil _ _).1 hy
      exact ⟨fun _ x hx => h2 x (List.mem_reverse.2 hx), fun _ => rfl⟩
    | cons a t =>
      have ha := ppDrop_head _ _ _ _ hy
      have hm : a ∈ l := List.mem_reverse.1 ((List.dropWhile_suffix _).subset (hy ▸ List.mem_cons_self))
      refine ⟨fun h => ?_, fun h => ?_⟩
      · have := (ppDrop_nil _ _).1 h a (by simp)
        rw [this] at ha
        cases ha
      · have := h a hm
        rw [this] at ha
        cases ha
  rw [Bool.eq_iff_iff, List.isEmpty_iff, hall, List.all_eq_true]
theorem ppWord_eq (x : ByteArray) : Txt.ppWordOk x = ppWordL x.data.toList := by
  unfold Txt.ppWordOk ppWordL Txt.ppRest
  rw [Lib.toList_data, Lib.toList_data]
  have e : ∀ l : List UInt8, (⟨l.toArray⟩ : ByteArray).data.toList = l := fun l => by simp
  rw [e, ppTrim_nil]
  congr 1
  exact List.all_congr rfl (fun c => ppAz_low c)
theorem ppTxt_eq (x : ByteArray) : Txt.ppTxtOk x = ppTxtB x := by
  unfold Txt.ppTxtOk ppTxtB
  have hw : (Txt.ppWords x).all Txt.ppWordOk = ppOkL true x.data.toList := by
    have h1 : (Txt.ppWords x).all Txt.ppWordOk = ((Txt.ppWords x).map (·.data.toList)).all ppWordL := by
      rw [List.all_map]
      exact List.all_congr rfl (fun c => ppWord_eq c)
    rw [h1]
    unfold Txt.ppWords
    rw [Lib.splitB_data]
    rw [← ppPcs_all, ← ppPcs_split]
  rw [hw, Lib.toList_data]
  have hs := Lib.size_eq x
  by_cases h0 : x.size = 0
  · have : x.data.toList = [] := List.eq_nil_of_length_eq_zero (by omega)
    rw [this, h0]
    rfl
  · have : x.data.toList.isEmpty = false := by
      rw [List.isEmpty_eq_false_iff]
      intro e
      rw [e] at hs
      exact h0 hs
    rw [this, decide_eq_false h0, Bool.false_or, Bool.false_or, Bool.and_comm]
    congr 1
    exact decide_eq_decide.2 (by omega)
/-- The byte at a place, as a number. -/
theorem pp_bt (x : ByteArray) (i : Nat) (h : i < x.size) : bt x (i : Int) = ((x.data.toList[i]'(by rw [← Lib.size_eq]; exact h)).toNat : Int) := by
  unfold bt
  rw [dif_pos (by simpa using h)]
  congr 2

theorem pp_inS (x c d : Int) : spec_l1In.f x c d = some (decide (c ≤ x ∧ x ≤ d)) := by
  unfold spec_l1In.f
  split
  · congr 1; exact decide_eq_decide.2 (by omega)
  · congr 1; symm; exact decide_eq_false (by omega)
theorem pp_inP (x c d : Int) : impl_in.f x c d = some (decide (c ≤ x ∧ x ≤ d)) := by
  unfold impl_in.f
  split
  · congr 1; exact decide_eq_decide.2 (by omega)
  · congr 1; symm; exact decide_eq_false (by omega)
theorem ppList_getElem {α : Type} (l : List α) (i : Nat) (h : i < l.length) : l.drop i = l[i] :: l.drop (i + 1) := List.drop_eq_getElem_cons h
/-- spec.TxtOk, exactly. -/
theorem pp_txtS (x : ByteArray) : Evs (fun k => spec_TxtOk.f k x) (fun r => r = ppTxtB x) := by
  unfold spec_TxtOk.f
  have hsz := Lib.size_eq x
  refine Evs.ite (fun h => Evs.now ?_) (fun hx => ?_)
  · unfold ppTxtB
    rw [decide_eq_false (by omega)]
    rfl
  have e30 : decide (x.size ≤ 30) = true := decide_eq_true (by omega)
  have loop : ∀ (d i : Nat) (b : Bool), x.size - i = d → i ≤ x.size → (b = true ↔ (i = 0 ∨ bt x ((i : Int) - 1) = 32)) → (i = x.size → 0 < i → b = false) → Evs (fun k => spec_TxtOk.l0 k x (i : Int)) (fun r => r = (decide (i = x.size) || ppOkL b (x.data.toList.drop i))) := by
    intro d
    induction d with
    | zero =>
      intro i b hd hi hb hend
      refine Evs.step (f := fun _ => some true) (fun k => by simp only [spec_TxtOk.l0]; rw [if_neg (by omega)]) (Evs.now ?_)
      rw [decide_eq_true (show i = x.size by omega)]
      rfl
    | succ d ih =>
      intro i b hd hi hb hend
      have hil : i < x.data.toList.length := by omega
      have hbt := pp_bt x i (by omega)
      have hdr := ppList_getElem x.data.toList i hil
      generalize hc : x.data.toList[i] = c at hbt hdr
      have hcn : c.toNat < 256 := c.toNat_lt
      have c32 : c = 32 ↔ (c.toNat : Int) = 32 := by
        constructor
        · intro h; rw [h]; rfl
        · intro h; exact UInt8.toNat_inj.1 (show c.toNat = (32 : UInt8).toNat from by show c.toNat = 32; omega)
      have hne : decide (i = x.size) = false := decide_eq_false (by omega)
      -- behind the first test
      have J : ∀ w, (w = true → (decide (i = x.size) || ppOkL b (x.data.toList.drop i)) = false) → (w = false → c = 32 → b = false ∧ i + 1 < x.size) → Evs (fun k => spec_TxtOk.j1 k x (i : Int) w) (fun r => r = (decide (i = x.size) || ppOkL b (x.data.toList.drop i))) := by
        intro w hw1 hw2
        refine Evs.step (fun k => by simp only [spec_TxtOk.j1]; rfl) ?_
        refine Evs.ite (fun hw => Evs.now (hw1 hw).symm) (fun hw => Evs.pos (by omega) (Evs.pos (by omega) ?_))
        have hw : w = false := by simpa using hw
        rw [hbt, pp_wrap_id ((i : Int) + 1) (by omega) (by omega), pp_wrap_id (c.toNat : Int) (by omega) (by omega)]
        rw [hdr, hne]
        unfold ppOkL
        refine Evs.ite (fun h32 => ?_) (fun h32 => ?_)
        · obtain ⟨hb0, hlt⟩ := hw2 hw (c32.2 h32)
          rw [if_pos (c32.2 h32), hb0]
          have n := ih (i + 1) true (by omega) (by omega) ⟨fun _ => .inr (by rw [show (((i + 1 : Nat)) : Int) - 1 = (i : Int) by omega, hbt]; exact h32), fun _ => rfl⟩ (fun h => by omega)
          rw [decide_eq_false (show ¬ i + 1 = x.size by omega)] at n
          exact n
        · rw [if_neg (fun h => h32 (c32.1 h)), pp_inS]
          simp only [Option.bind_some]
          have n := ih (i + 1) false (by omega) (by omega) ⟨fun h => (by cases h), fun h => (by
            rcases h with h | h
            · omega
            · rw [show (((i + 1 : Nat)) : Int) - 1 = (i : Int) by omega, hbt] at h
              exact absurd h h32)⟩ (fun _ _ => rfl)
          refine Evs.ite (fun hin => ?_) (fun hin => Evs.now ?_)
          · have hin := of_decide_eq_true hin
            refine n.imp fun r hr => ?_
            rw [hr]
            have hl : ppLow c = true := decide_eq_true (by omega)
            rw [hl]
            by_cases he : i + 1 = x.size
            · rw [decide_eq_true he, List.drop_of_length_le (by omega)]
              rfl
            · rw [decide_eq_false he]
              rfl
          · have hin : ¬ (97 ≤ (c.toNat : Int) ∧ (c.toNat : Int) ≤ 122) := fun h => hin (decide_eq_true h)
            have hl : ppLow c = false := decide_eq_false (by omega)
            rw [hl]
            rfl
      refine Evs.step (fun k => by simp only [spec_TxtOk.l0]; rfl) ?_
      refine Evs.pos (by omega) (Evs.pos (by omega) ?_)
      rw [hbt]
      refine Evs.ite (fun h32 => ?_) (fun h32 => J false (fun h => (by cases h)) (fun _ h => absurd (c32.1 h) h32))
      have hpos : ppOkL b (x.data.toList.drop i) = (!b && ppOkL true (x.data.toList.drop (i + 1))) := by
        rw [hdr]
        show (if c = 32 then _ else _) = _
        rw [if_pos (c32.2 h32)]
      refine Evs.ite (fun h0 => J true (fun _ => ?_) (fun h => (by cases h))) (fun h0 => ?_)
      · rw [hne, hpos, hb.2 (.inl (by omega))]
        rfl
      rw [pp_wrap_id ((x.size : Int) - 1) (by omega) (by omega), pp_wrap_id ((i : Int) - 1) (by omega) (by omega)]
      refine Evs.ite (fun h1 => J true (fun _ => ?_) (fun h => (by cases h))) (fun h1 => Evs.pos (by omega) (Evs.pos (by omega) (J _ (fun h => ?_) (fun h _ => ?_))))
      · rw [hne, hpos, List.drop_of_length_le (show x.data.toList.length ≤ i + 1 by omega)]
        simp [ppOkL]
      · rw [hne, hpos, hb.2 (.inr (by simpa using h))]
        rfl
      · refine ⟨?_, by omega⟩
        rw [← Bool.not_eq_true]
        intro hbt'
        rcases hb.1 hbt' with h' | h'
        · omega
        · rw [h'] at h
          simp at h
  refine (loop _ 0 true rfl (by omega) ⟨fun _ => .inl rfl, fun _ => rfl⟩ (fun _ h => absurd h (Nat.lt_irrefl _))).imp fun r hr => ?_
  rw [hr]
  unfold ppTxtB
  rw [e30, List.drop_zero, Bool.true_and]
  congr 1
  exact decide_eq_decide.2 ⟨fun h => h.symm, fun h => h.symm⟩
def ppBrdB (a b : Int) : Bool := decide ((a = 0 ∨ a = 4) ∧ b = 0 ∨ (1 ≤ a ∧ a ≤ 3) ∧ 1 ≤ b ∧ b ≤ 3)
theorem pp_brdS (a b : Int) : Evs (fun k => spec_BrdOk.f k a b) (fun r => r = ppBrdB a b) := by
  have J : ∀ w, (w = true ↔ (a = 0 ∨ a = 4)) → Evs (fun k => spec_BrdOk.j0 k w a b) (fun r => r = ppBrdB a b) := by
    intro w hw
    refine Evs.step (fun k => by simp only [spec_BrdOk.j0]; rfl) ?_
    unfold ppBrdB
    refine Evs.ite (fun h => Evs.now ?_) (fun h => ?_)
    · have := hw.1 h
      rw [show (b == 0) = decide (b = 0) from rfl]
      exact decide_eq_decide.2 (by omega)
    · have : ¬ (a = 0 ∨ a = 4) := fun q => h (hw.2 q)
      rw [pp_inS, pp_inS]
      simp only [Option.bind_some]
      refine Evs.ite (fun h1 => Evs.now ?_) (fun h1 => Evs.now ?_)
      · have h1 := of_decide_eq_true h1
        exact decide_eq_decide.2 (by omega)
      · have h1 : ¬ (1 ≤ a ∧ a ≤ 3) := fun q => h1 (decide_eq_true q)
        exact (decide_eq_false (by omega)).symm
  unfold spec_BrdOk.f
  exact Evs.ite (fun h => J true (by simp [h])) (fun h => J _ (by simp [h]))
theorem pp_brdP (a b : Int) : impl_BrdOk.f a b = some (ppBrdB a b) := by
  unfold impl_BrdOk.f impl_BrdLine_drawn.f ppBrdB
  rw [pp_inP, pp_inP]
  simp only [Option.bind_some]
  by_cases h : 1 ≤ a ∧ a ≤ 3
  · rw [decide_eq_true h, if_pos rfl]
    congr 1
    exact decide_eq_decide.2 (by omega)
  · rw [decide_eq_false h, if_neg (by decide)]
    by_cases h0 : a = 0
    · rw [if_pos h0]
      congr 1
      rw [show (b == 0) = decide (b = 0) from rfl]
      exact decide_eq_decide.2 (by omega)
    · rw [if_neg h0]
      by_cases h4 : a = 4
      · rw [if_pos h4]
        congr 1
        rw [show (b == 0) = decide (b = 0) from rfl]
        exact decide_eq_decide.2 (by omega)
      · rw [if_neg h4]
        congr 1
        exact (decide_eq_false (by omega)).symm
/-- Whether a cell is ok. -/
def ppCellB (x : S30) : Bool := ppTxtB x.f0 && decide (1 ≤ x.f1 ∧ x.f1 ≤ 4) && decide (1 ≤ x.f2 ∧ x.f2 ≤ 4) && ppBrdB x.f3.f0 x.f3.f1 && ppBrdB x.f4.f0 x.f4.f1 && ppBrdB x.f5.f0 x.f5.f1 && ppBrdB x.f6.f0 x.f6.f1
theorem pp_cellS (x : S30) : Evs (fun k => spec_CellOk.f k x.f0 x.f1 x.f2 x.f3.f0 x.f3.f1 x.f4.f0 x.f4.f1 x.f5.f0 x.f5.f1 x.f6.f0 x.f6.f1) (fun r => r = ppCellB x) := by
  unfold spec_CellOk.f ppCellB
  rw [pp_inS, pp_inS]
  refine Evs.bnd (pp_txtS _) ?_
  rintro _ rfl
  refine Evs.ite (fun h1 => ?_) (fun h1 => Evs.now (by rw [(by simpa using h1 : ppTxtB x.f0 = false)]; simp))
  rw [h1]
  simp only [Option.bind_some]
  refine Evs.ite (fun h2 => ?_) (fun h2 => Evs.now (by rw [Bool.eq_false_iff.2 h2]; simp))
  rw [h2]
  refine Evs.ite (fun h3 => ?_) (fun h3 => Evs.now (by rw [Bool.eq_false_iff.2 h3]; simp))
  rw [h3]
  refine Evs.bnd (pp_brdS _ _) ?_
  rintro _ rfl
  refine Evs.ite (fun h4 => ?_) (fun h4 => Evs.now (by rw [Bool.eq_false_iff.2 h4]; simp))
  rw [h4]
  refine Evs.bnd (pp_brdS _ _) ?_
  rintro _ rfl
  refine Evs.ite (fun h5 => ?_) (fun h5 => Evs.now (by rw [Bool.eq_false_iff.2 h5]; simp))
  rw [h5]
  refine Evs.bnd (pp_brdS _ _) ?_
  rintro _ rfl
  refine Evs.ite (fun h6 => ?_) (fun h6 => Evs.now (by rw [Bool.eq_false_iff.2 h6]; simp))
  rw [h6]
  refine Evs.bnd (pp_brdS _ _) ?_
  rintro _ rfl
  exact Evs.now (by simp)
theorem pp_cellP (x : S30) (hs : x.f0.size < 4294967281) : impl_CellOk.f x.f0 x.f1 x.f2 x.f3.f0 x.f3.f1 x.f4.f0 x.f4.f1 x.f5.f0 x.f5.f1 x.f6.f0 x.f6.f1 = some (ppCellB x) := by
  unfold impl_CellOk.f impl_TxtOk.f ppCellB
  rw [if_pos hs, ppTxt_eq, pp_inP, pp_inP, pp_brdP, pp_brdP, pp_brdP, pp_brdP]
  simp only [Option.bind_some]
  cases ppTxtB x.f0 <;> cases decide (1 ≤ x.f1 ∧ x.f1 ≤ 4) <;> cases decide (1 ≤ x.f2 ∧ x.f2 ≤ 4) <;> cases ppBrdB x.f3.f0 x.f3.f1 <;> cases ppBrdB x.f4.f0 x.f4.f1 <;> cases ppBrdB x.f5.f0 x.f5.f1 <;> rfl
def ppColB (x : S57) : Bool := decide (x.f0 = 0 ∧ x.f1 = 0 ∨ x.f0 = 1 ∧ 0 ≤ x.f1 ∧ x.f1 ≤ 60 ∨ x.f0 = 2 ∧ 1 ≤ x.f1 ∧ x.f1 ≤ 100)
theorem pp_colS (x : S57) : spec_l2Col.f x.f0 x.f1 = some (ppColB x) := by
  unfold spec_l2Col.f ppColB
  rw [pp_inS, pp_inS]
  simp only [Option.bind_some]
  repeat' split
  · congr 1; rw [show (x.f1 == 0) = decide (x.f1 = 0) from rfl]; exact decide_eq_decide.2 (by omega)
  · congr 1; exact decide_eq_decide.2 (by omega)
  · congr 1; exact decide_eq_decide.2 (by omega)
  · congr 1; exact (decide_eq_false (by omega)).symm
theorem pp_colP (x : S57) : impl_TblCol_ok.f x.f0 x.f1 = some (ppColB x) := by
  unfold impl_TblCol_ok.f ppColB
  rw [pp_inP, pp_inP]
  simp only [Option.bind_some]
  repeat' split
  · congr 1; rw [show (x.f1 == 0) = decide (x.f1 = 0) from rfl]; exact decide_eq_decide.2 (by omega)
  · congr 1; exact decide_eq_decide.2 (by omega)
  · congr 1; exact decide_eq_decide.2 (by omega)
  · congr 1; exact (decide_eq_false (by omega)).symm
def ppRowB (r : S42) : Bool := decide (r.f0.length ≤ 5) && r.f0.all ppCellB
/-- Whether a table is ok. -/
def ppTblB (cs : List S57) (hd ft : Int) (rs : List S42) (gp : Int) : Bool :=
  decide ((1 ≤ rs.length ∧ rs.length ≤ 8) ∧ cs.length ≤ 8 ∧ (0 ≤ hd ∧ hd ≤ rs.length) ∧ (0 ≤ ft ∧ ft ≤ rs.length - hd) ∧ 0 ≤ gp ∧ gp ≤ 3) && cs.all ppColB && rs.all ppRowB
theorem ppAll_step {α : Type} (p : α → Bool) (l : List α) (i : Nat) (h : i < l.length) (hi : (l.take i).all p = true) : l.all p = (p l[i] && (l.drop (i + 1)).all p) := by
  have e : l = l.take i ++ (l[i] :: l.drop (i + 1)) := by rw [← List.drop_eq_getElem_cons h, List.take_append_drop]
  have : l.all p = ((l.take i).all p && (p l[i] && (l.drop (i + 1)).all p)) := by
    conv => lhs; rw [e]
    rw [List.all_append, List.all_cons]
  rw [this, hi, Bool.true_and]
theorem ppAll_take {α : Type} (p : α → Bool) (l : List α) (i : Nat) (h : i < l.length) (hi : (l.take i).all p = true) (hp : p l[i] = true) : (l.take (i + 1)).all p = true := by
  rw [List.take_succ_eq_append_getElem h, List.all_append, hi]
  simp [hp]
theorem pp_tblS (cs : List S57) (hd ft : Int) (rs : List S42) (gp : Int) : Evs (fun k => spec_TblOk.f k cs hd ft rs gp) (fun r => r = ppTblB cs hd ft rs gp) := by
  generalize hT : ppTblB cs hd ft rs gp = T
  have F : (rs.all ppRowB = false ∨ cs.all ppColB = false) → T = false := by
    intro h
    rw [← hT]
    unfold ppTblB
    rcases h with h | h <;> rw [h] <;> simp
  have L : rs.length ≤ 8 → (cs.all ppColB = true) → (rs.all ppRowB = true → T = true) → ∀ (d i : Nat), rs.length - i = d → i ≤ rs.length → (rs.take i).all ppRowB = true → Evs (fun k => spec_TblOk.l1 k (i : Int) cs hd ft rs gp) (fun r => r = T) := by
    intro h8 hcs hyes d
    induction d with
    | zero =>
      intro i hd' hi hI
      rw [List.take_of_length_le (by omega)] at hI
      exact Evs.step (f := fun _ => some true) (fun k => by simp only [spec_TblOk.l1]; rw [if_neg (by omega)]) (Evs.now (hyes hI).symm)
    | succ d ih =>
      intro i hd' hi hI
      have hil : i < rs.length := by omega
      have hir : rd_T42 rs (i : Int) = rs[i] := pp_getD rs i _ hil
      have hstep := ppAll_step ppRowB rs i hil hI
      refine Evs.step (fun k => by simp only [spec_TblOk.l1]; rfl) ?_
      refine Evs.pos (by omega) (Evs.pos (by omega) ?_)
      rw [hir]
      refine Evs.ite (fun h5 => Evs.now ?_) (fun h5 => ?_)
      · refine (F (.inl ?_)).symm
        rw [hstep]
        unfold ppRowB
        rw [decide_eq_false (by omega)]
        rfl
      have n := fun (hc : rs[i].f0.all ppCellB = true) => ih (i + 1) (by omega) (by omega) (ppAll_take ppRowB rs i hil hI (by unfold ppRowB; rw [hc, decide_eq_true (by omega)]; rfl))
      rw [show (((i + 1 : Nat)) : Int) = wrap64 ((i : Int) + 1) by rw [pp_wrap_id _ (by omega) (by omega)]; rfl] at n
      have M : ∀ (d j : Nat), rs[i].f0.length - j = d → j ≤ rs[i].f0.length → (rs[i].f0.take j).all ppCellB = true → Evs (fun k => spec_TblOk.l2 k (i : Int) (j : Int) cs hd ft rs gp) (fun r => r = T) := by
        intro d
        induction d with
        | zero =>
          intro j hd2 hj hJ
          rw [List.take_of_length_le (by omega)] at hJ
          refine Evs.step (fun k => by simp only [spec_TblOk.l2]; rw [hir]) ?_
          exact Evs.pos (by omega) (Evs.pos (by omega) (Evs.neg (by omega) (n hJ)))
        | succ d ih2 =>
          intro j hd2 hj hJ
          have hjl : j < rs[i].f0.length := by omega
          have hjr : rd_T30 rs[i].f0 (j : Int) = rs[i].f0[j] := pp_getD rs[i].f0 j _ hjl
          refine Evs.step (fun k => by simp only [spec_TblOk.l2]; rw [hir, hjr]) ?_
          refine Evs.pos (by omega) (Evs.pos (by omega) (Evs.pos (by omega) (Evs.pos (by omega) ?_)))
          refine Evs.bnd (pp_cellS _) ?_
          rintro _ rfl
          refine Evs.ite (fun h => ?_) (fun h => Evs.now ?_)
          · have n2 := ih2 (j + 1) (by omega) (by omega) (ppAll_take ppCellB rs[i].f0 j hjl hJ h)
            rw [show (((j + 1 : Nat)) : Int) = wrap64 ((j : Int) + 1) by rw [pp_wrap_id _ (by omega) (by omega)]; rfl] at n2
            exact n2
          · refine (F (.inl ?_)).symm
            rw [hstep]
            unfold ppRowB
            rw [ppAll_step ppCellB rs[i].f0 j hjl hJ, Bool.eq_false_iff.2 h]
            simp
      exact M _ 0 rfl (by omega) rfl
  have K : cs.length ≤ 8 → rs.length ≤ 8 → (cs.all ppColB = true → rs.all ppRowB = true → T = true) → ∀ (d i : Nat), cs.length - i = d → i ≤ cs.length → (cs.take i).all ppColB = true → Evs (fun k => spec_TblOk.l0 k (i : Int) cs hd ft rs gp) (fun r => r = T) := by
    intro h8 h8' hyes d
    induction d with
    | zero =>
      intro i hd' hi hI
      rw [List.take_of_length_le (by omega)] at hI
      exact Evs.step (f := fun k => spec_TblOk.l1 k ((0 : Nat) : Int) cs hd ft rs gp) (fun k => by simp only [spec_TblOk.l0]; rw [if_neg (by omega)]; rfl) (L h8' hI (hyes hI) _ 0 rfl (by omega) rfl)
    | succ d ih =>
      intro i hd' hi hI
      have hil : i < cs.length := by omega
      have hir : rd_T57 cs (i : Int) = cs[i] := pp_getD cs i _ hil
      refine Evs.step (fun k => by simp only [spec_TblOk.l0]; rw [hir, pp_colS]) ?_
      simp only [Option.bind_some]
      refine Evs.pos (by omega) (Evs.pos (by omega) (Evs.ite (fun h => ?_) (fun h => Evs.now ?_)))
      · have n := ih (i + 1) (by omega) (by omega) (ppAll_take ppColB cs i hil hI h)
        rw [show (((i + 1 : Nat)) : Int) = wrap64 ((i : Int) + 1) by rw [pp_wrap_id _ (by omega) (by omega)]; rfl] at n
        exact n
      · refine (F (.inr ?_)).symm
        rw [ppAll_step ppColB cs i hil hI, Bool.eq_false_iff.2 h]
        rfl
  have J0 : T = false → Evs (fun k => spec_TblOk.j0 k true cs hd ft rs gp) (fun r => r = T) := fun h => Evs.step (f := fun _ => some false) (fun k => by simp only [spec_TblOk.j0]; rfl) (Evs.now h.symm)
  have no : ¬ ((1 ≤ rs.length ∧ rs.length ≤ 8) ∧ cs.length ≤ 8 ∧ (0 ≤ hd ∧ hd ≤ rs.length) ∧ (0 ≤ ft ∧ ft ≤ rs.length - hd) ∧ 0 ≤ gp ∧ gp ≤ 3) → T = false := by
    intro h
    rw [← hT]
    unfold ppTblB
    rw [decide_eq_false h]
    rfl
  unfold spec_TblOk.f
  rw [pp_inS, pp_inS, pp_inS, pp_inS]
  simp only [Option.bind_some]
  refine Evs.ite (fun h1 => ?_) (fun h1 => J0 (no fun q => h1 (decide_eq_true ⟨by omega, by omega⟩)))
  have h1 := of_decide_eq_true h1
  refine Evs.ite (fun h2 => J0 (no fun q => by omega)) (fun h2 => ?_)
  refine Evs.ite (fun h3 => ?_) (fun h3 => J0 (no fun q => h3 (decide_eq_true ⟨by omega, by omega⟩)))
  have h3 := of_decide_eq_true h3
  rw [pp_wrap_id ((rs.length : Int) - hd) (by omega) (by omega)]
  refine Evs.ite (fun h4 => ?_) (fun h4 => J0 (no fun q => h4 (decide_eq_true ⟨by omega, by omega⟩)))
  have h4 := of_decide_eq_true h4
  by_cases h5 : 0 ≤ gp ∧ gp ≤ 3
  · rw [decide_eq_true h5]
    refine Evs.step (fun k => by simp only [spec_TblOk.j0]; rfl) ?_
    refine Evs.neg (by decide) (K (by omega) (by omega) (fun c r => ?_) _ 0 rfl (by omega) rfl)
    rw [← hT]
    unfold ppTblB
    rw [decide_eq_true ⟨by omega, by omega, by omega, by omega, h5⟩, c, r]
    rfl
  · rw [decide_eq_false h5]
    exact J0 (no fun q => h5 q.2.2.2.2)
theorem ppIdx_neg {α : Type} (p : α → Bool) (l : List α) : decide (0 ≤ ppIdx (fun x => !p x) l) = !l.all p := by
  by_cases h : l.all p = true
  · rw [h, ppIdx_miss _ _ (fun j hj => by simp [List.all_eq_true.1 h _ (List.getElem_mem hj)])]
    rfl
  · rw [Bool.eq_false_iff.2 h]
    have : ∃ x ∈ l, p x = false := by simpa using h
    obtain ⟨x, hx, hp⟩ := this
    refine decide_eq_true ?_
    unfold ppIdx
    cases e : l.findIdx? (fun x => !p x) with
    | some i => exact Int.natCast_nonneg _
    | none =>
      rw [List.findIdx?_eq_none_iff] at e
      have := e x hx
      rw [hp] at this
      cases this
/-- impl.TblOk, exactly, of texts that are not too long. -/
theorem pp_tblP (cs : List S57) (hd ft : Int) (rs : List S42) (gp : Int) (hf : ∀ x ∈ rs, ∀ c ∈ x.f0, c.f0.size < 4294967281) (k : Nat) : impl_TblOk.f k cs hd ft rs gp = some (ppTblB cs hd ft rs gp) := by
  unfold impl_TblOk.f
  have hfits : impl_TblOk.fits rs = true := by
    unfold impl_TblOk.fits
    simpa using hf
  rw [if_pos hfits, pp_inP, pp_inP, pp_inP, pp_inP]
  simp only [Option.bind_some]
  have hcol : (fun c : S57 => !impl_TblOk.colB c) = (fun c => !ppColB c) := by
    funext c
    unfold impl_TblOk.colB
    rw [pp_colP]
    rfl
  have hrow : decide (0 ≤ ppIdx impl_TblOk.rowW rs) = !rs.all ppRowB := by
    rw [← ppIdx_neg]
    congr 2
    have key : ∀ x ∈ rs, impl_TblOk.rowW x = !ppRowB x := by
      intro x hx
      unfold impl_TblOk.rowW ppRowB
      have hcell : ppIdx (fun c => !impl_TblOk.cellB c) x.f0 = ppIdx (fun c => !ppCellB c) x.f0 := by
        unfold ppIdx
        have : x.f0.findIdx? (fun c => !impl_TblOk.cellB c) = x.f0.findIdx? (fun c => !ppCellB c) := by
          have h := hf x hx
          generalize x.f0 = l at h
          induction l with
          | nil => rfl
          | cons y ys ih =>
            rw [List.findIdx?_cons, List.findIdx?_cons, ih (fun c hc => h c (List.mem_cons_of_mem _ hc))]
            have : impl_TblOk.cellB y = ppCellB y := by
              unfold impl_TblOk.cellB
              rw [pp_cellP y (h y List.mem_cons_self)]
              rfl
            rw [this]
        rw [this]
      rw [hcell, ppIdx_neg]
      by_cases h5 : x.f0.length ≤ 5
      · rw [decide_eq_true h5, decide_eq_false (by omega)]
        simp
      · rw [decide_eq_false h5, decide_eq_true (by omega)]
        simp
    unfold ppIdx
    have : rs.findIdx? impl_TblOk.rowW = rs.findIdx? (fun x => !ppRowB x) := by
      clear hfits hf hcol
      induction rs with
      | nil => rfl
      | cons y ys ih =>
        rw [List.findIdx?_cons, List.findIdx?_cons, ih (fun c hc => key c (List.mem_cons_of_mem _ hc)), key y List.mem_cons_self]
    rw [this]
  rw [hcol, hrow]
  have hcs : (¬ 0 ≤ ppIdx (fun c => !ppColB c) cs) ↔ cs.all ppColB = true := by
    have := ppIdx_neg ppColB cs
    cases h : cs.all ppColB
    · rw [h] at this
      simp at this
      simp; omega
    · rw [h] at this
      simp at this
      simp; omega
  unfold ppTblB
  by_cases h1 : (1 : Int) ≤ (rs.length : Int) ∧ (rs.length : Int) ≤ 8
  · rw [decide_eq_true h1, if_pos rfl]
    by_cases h2 : (cs.length : Int) ≤ 8
    · rw [if_pos h2]
      by_cases h5 : 0 ≤ gp ∧ gp ≤ 3
      · rw [decide_eq_true h5, if_pos rfl]
        by_cases h3 : 0 ≤ hd ∧ hd ≤ (rs.length : Int)
        · rw [decide_eq_true h3, if_pos rfl, pp_wrap_id ((rs.length : Int) - hd) (by omega) (by omega)]
          by_cases h4 : 0 ≤ ft ∧ ft ≤ (rs.length : Int) - hd
          · rw [decide_eq_true h4, if_pos rfl, decide_eq_true ⟨by omega, by omega, h3, h4, h5⟩]
            by_cases h6 : cs.all ppColB = true
            · rw [if_pos (hcs.2 h6), h6]
              simp
            · rw [if_neg (fun q => h6 (hcs.1 q)), Bool.eq_false_iff.2 h6]
              simp
          · rw [decide_eq_false h4, if_neg (by decide), decide_eq_false (fun q => h4 q.2.2.2.1)]
            rfl
        · rw [decide_eq_false h3, if_neg (by decide), decide_eq_false (fun q => h3 q.2.2.1)]
          rfl
      · rw [decide_eq_false h5, if_neg (by decide), decide_eq_false (fun q => h5 q.2.2.2.2)]
        rfl
    · rw [if_neg h2, decide_eq_false (fun q => h2 (by omega))]
      rfl
  · rw [decide_eq_false h1, if_neg (by decide), decide_eq_false (fun q => h1 (by omega))]
    rfl

theorem ppd_ext (x : ByteArray) (i j : Nat) : (x.extract i j).size ≤ x.size := by
  rw [ByteArray.size_extract]
  omega
theorem ppd_anyText (l : List Int) (h : ppRd l) (p n : Int) (hp : 0 ≤ p) (hp' : p ≤ 700000000) (hn : n ≤ 1000000) : Evs (fun k => spec_l20AnyText.f k l p n) (fun r => r.1.size ≤ 100 ∧ p ≤ r.2 ∧ r.2 ≤ p + 9) := by
  unfold spec_l20AnyText.f
  refine Evs.bnd (pp_text l h p hp hp') ?_
  rintro ⟨x, q⟩ ⟨hx, q0, q1⟩
  simp only at hx q0 q1 ⊢
  refine Evs.bnd (pp_pick l h q n (by omega) (by omega) hn) ?_
  rintro ⟨v, q2⟩ ⟨hq, _, _, _⟩
  simp only at hq ⊢
  refine Evs.ite (fun _ => Evs.now ⟨by simp only; omega, by simp only; omega, by simp only; omega⟩) (fun _ => Evs.pos (by omega) ?_)
  refine Evs.bnd (pp_pick l h q2 ((x.size : Int) + 1) (by omega) (by omega) (by omega)) ?_
  rintro ⟨d, q3⟩ ⟨hq3, d0, _, d1⟩
  simp only at hq3 d0 d1 ⊢
  have d1 := d1 (by omega)
  refine Evs.bnd (pp_pick l h q3 7 (by omega) (by omega) (by omega)) ?_
  rintro ⟨e, q4⟩ ⟨hq4, e0, _, e1⟩
  simp only at hq4 e0 e1 ⊢
  have e1 := e1 (by omega)
  refine Evs.pos ⟨d0, by omega, e0, e1⟩ (Evs.now ⟨?_, by simp only; omega, by simp only; omega⟩)
  simp only
  rw [ByteArray.size_append, ByteArray.size_append]
  have := ppd_ext x 0 d.toNat
  have := ppd_ext x d.toNat x.size
  have := ppWrong7_size e.toNat
  omega
/-- A drawn cell: its text is short, and it does not go over four rows. -/
def ppDc (c : S30) : Prop := c.f0.size ≤ 100 ∧ c.f2 ≠ 4
theorem ppd_cell_j (l : List Int) (h : ppRd l) (n : Int) (x : S30) (p : Int) (hn : n ≤ 1000000) (hp : 0 ≤ p) (hp' : p ≤ 600000000) (hx : ppDc x) : Evs (fun k => spec_l20Cel.j k l n x p) (fun r => ppDc r.1 ∧ p ≤ r.2 ∧ r.2 ≤ p + 11) := by
  unfold spec_l20Cel.j
  refine Evs.bnd (pp_pick l h p n hp (by omega) hn) ?_
  rintro ⟨v, q⟩ ⟨hq, _, _, _⟩
  simp only at hq ⊢
  refine Evs.ite (fun _ => Evs.now ⟨hx, by simp only; omega, by simp only; omega⟩) (fun _ => ?_)
  refine Evs.bnd (pp_pick l h q 4 (by omega) (by omega) (by omega)) ?_
  rintro ⟨d, q2⟩ ⟨hq2, d0, _, d1⟩
  simp only at hq2 d0 d1 ⊢
  refine Evs.ite (fun _ => ?_) (fun _ => Evs.ite (fun _ => ?_) (fun _ => Evs.ite (fun _ => ?_) (fun _ => ?_)))
  · refine Evs.bnd (ppd_anyText l h q2 1 (by omega) (by omega) (by omega)) ?_
    rintro ⟨t, q3⟩ ⟨a, b, c⟩
    exact Evs.now ⟨⟨a, hx.2⟩, by simp only at *; omega, by simp only at *; omega⟩
  · refine Evs.bnd (pp_pick l h q2 3 (by omega) (by omega) (by omega)) ?_
    rintro ⟨e, q3⟩ ⟨hq3, e0, _, e1⟩
    simp only at hq3 e0 e1 ⊢
    exact Evs.pos ⟨e0, e1 (by omega)⟩ (Evs.now ⟨⟨hx.1, hx.2⟩, by simp only; omega, by simp only; omega⟩)
  · refine Evs.bnd (pp_pick l h q2 3 (by omega) (by omega) (by omega)) ?_
    rintro ⟨e, q3⟩ ⟨hq3, e0, _, e1⟩
    simp only at hq3 e0 e1 ⊢
    refine Evs.pos ⟨e0, e1 (by omega)⟩ (Evs.now ⟨⟨hx.1, ?_⟩, by simp only; omega, by simp only; omega⟩)
    show ppOf3.getD e.toNat 0 ≠ 4
    match e.toNat with
    | 0 => decide
    | 1 => decide
    | 2 => decide
    | n + 3 => exact (by decide : (0 : Int) ≠ 4)
  · refine Evs.bnd (pp_brd l h 1 q2 (by omega) (by omega) (by omega)) ?_
    rintro ⟨s, w, q3⟩ ⟨_, _, g0, g1⟩
    exact Evs.now ⟨⟨hx.1, hx.2⟩, by simp only at *; omega, by simp only at *; omega⟩
theorem ppd_cell (l : List Int) (h : ppRd l) (p n : Int) (hn : n ≤ 1000000) (hp : 0 ≤ p) (hp' : p ≤ 500000000) : Evs (fun k => spec_l20Cel.f k l p n) (fun r => ppDc r.1 ∧ p ≤ r.2 ∧ r.2 ≤ p + 43) := by
  unfold spec_l20Cel.f
  refine Evs.bnd (pp_text l h p hp (by omega)) ?_
  rintro ⟨t, q1⟩ ⟨a0, a1, b1⟩
  simp only at a0 a1 b1 ⊢
  refine Evs.bnd (pp_pick l h q1 6 (by omega) (by omega) (by omega)) ?_
  rintro ⟨c, q2⟩ ⟨hq2, c0, _, c1⟩
  simp only at hq2 c0 c1 ⊢
  refine Evs.bnd (pp_pick l h q2 6 (by omega) (by omega) (by omega)) ?_
  rintro ⟨r, q3⟩ ⟨hq3, r0, _, r1⟩
  simp only at hq3 r0 r1 ⊢
  refine Evs.pos ⟨c0, c1 (by omega), r0, r1 (by omega)⟩ ?_
  refine Evs.bnd (pp_brd l h 999 q3 (by omega) (by omega) (by omega)) ?_
  rintro ⟨s1, w1, q4⟩ ⟨_, _, g0, g1⟩
  simp only at g0 g1 ⊢
  refine Evs.bnd (pp_brd l h 999 q4 (by omega) (by omega) (by omega)) ?_
  rintro ⟨s2, w2, q5⟩ ⟨_, _, g2, g3⟩
  simp only at g2 g3 ⊢
  refine Evs.bnd (pp_brd l h 999 q5 (by omega) (by omega) (by omega)) ?_
  rintro ⟨s3, w3, q6⟩ ⟨_, _, g4, g5⟩
  simp only at g4 g5 ⊢
  refine Evs.bnd (pp_brd l h 999 q6 (by omega) (by omega) (by omega)) ?_
  rintro ⟨s4, w4, q7⟩ ⟨_, _, g6, g7⟩
  simp only at g6 g7 ⊢
  refine (ppd_cell_j l h n _ q7 hn (by omega) (by omega) ?_).imp fun r ⟨e, a, b⟩ => ⟨e, by omega, by omega⟩
  split
  · exact ⟨by show (⟨#[]⟩ : ByteArray).size ≤ 100; decide, by show (1 : Int) ≠ 4; decide⟩
  · refine ⟨by show t.size ≤ 100; omega, ?_⟩
    show ppOf6b.getD r.toNat 0 ≠ 4
    match r.toNat with
    | 0 | 1 | 2 | 3 | 4 | 5 => decide
    | n + 6 => exact (by decide : (0 : Int) ≠ 4)
theorem ppd_tab_s (l : List Int) (h : ppRd l) : ∀ (n : Nat) (xs : List S30) (p : Int), 0 ≤ p → p + 43 * n ≤ 400000000 → n ≤ 10 → (∀ c ∈ xs, ppDc c) → Evs (fun k => spec_l20Tab.ls k l n xs p) (fun r => (r.1.length = xs.length + n ∧ ∀ c ∈ r.1, ppDc c) ∧ p ≤ r.2 ∧ r.2 ≤ p + 43 * n)
  | 0, xs, p, hp, hp', hn, hx => Evs.cong (f := fun _ => some (xs, p)) (fun _ => rfl) (Evs.now ⟨⟨rfl, hx⟩, by simp, by simp⟩)
  | n + 1, xs, p, hp, hp', hn, hx => by
    unfold spec_l20Tab.ls
    refine Evs.bnd (ppd_cell l h p 99999 (by omega) hp (by omega)) ?_
    rintro ⟨c, q⟩ ⟨hc, q0, q1⟩
    simp only at hc q0 q1 ⊢
    refine (ppd_tab_s l h n (xs ++ [c]) q (by omega) (by omega) (by omega) (fun y hy => ?_)).imp fun r ⟨⟨e, f⟩, a, b⟩ => ⟨⟨by rw [e, List.length_append, List.length_singleton]; omega, f⟩, by omega, by omega⟩
    rcases List.mem_append.1 hy with hy | hy
    · exact hx y hy
    · rw [List.mem_singleton.1 hy]; exact hc
/-- Drawn rows: at most so many cells, each as drawn. -/
def ppDr (m : Nat) (x : S42) : Prop := x.f0.length ≤ m ∧ ∀ c ∈ x.f0, ppDc c
theorem ppd_tab_r (l : List Int) (h : ppRd l) : ∀ (n : Nat) (xs : List S42) (p : Int), 0 ≤ p → p + 200 * n ≤ 300000000 → n ≤ 10 → (∀ x ∈ xs, ppDr 4 x) → Evs (fun k => spec_l20Tab.lr k l n xs p) (fun r => (r.1.length = xs.length + n ∧ ∀ x ∈ r.1, ppDr 4 x) ∧ p ≤ r.2 ∧ r.2 ≤ p + 200 * n)
  | 0, xs, p, hp, hp', hn, hx => Evs.cong (f := fun _ => some (xs, p)) (fun _ => rfl) (Evs.now ⟨⟨rfl, hx⟩, by simp, by simp⟩)
  | n + 1, xs, p, hp, hp', hn, hx => by
    unfold spec_l20Tab.lr
    refine Evs.bnd (pp_pick l h p 4 hp (by omega) (by omega)) ?_
    rintro ⟨a, q⟩ ⟨hq, a0, _, a1⟩
    simp only at hq a0 a1 ⊢
    refine Evs.bnd (pp_pick l h q 5 (by omega) (by omega) (by omega)) ?_
    rintro ⟨b, q2⟩ ⟨hq2, b0, _, b1⟩
    simp only at hq2 b0 b1 ⊢
    have b1 := b1 (by omega)
    refine Evs.pos ⟨b0, by omega⟩ ?_
    refine Evs.bnd (ppd_tab_s l h b.toNat [] q2 (by omega) (by omega) (by omega) (fun _ hc => by cases hc)) ?_
    rintro ⟨c, q3⟩ ⟨⟨hl, hc⟩, g0, g1⟩
    simp only [List.length_nil] at hl hc g0 g1 ⊢
    refine (ppd_tab_r l h n (xs ++ [(⟨c, a == 0⟩ : S42)]) q3 (by omega) (by omega) (by omega) (fun y hy => ?_)).imp fun r ⟨⟨e, f⟩, a, b⟩ => ⟨⟨by rw [e, List.length_append, List.length_singleton]; omega, f⟩, by omega, by omega⟩
    rcases List.mem_append.1 hy with hy | hy
    · exact hx y hy
    · rw [List.mem_singleton.1 hy]
      exact ⟨by show c.length ≤ 4; omega, hc⟩
theorem ppd_tab_c (l : List Int) (h : ppRd l) : ∀ (n : Nat) (xs : List S57) (p : Int), 0 ≤ p → p + 3 * n ≤ 400000000 → n ≤ 10 → Evs (fun k => spec_l20Tab.lc k l n xs p) (fun r => p ≤ r.2 ∧ r.2 ≤ p + 3 * n)
  | 0, xs, p, hp, hp', hn => Evs.cong (f := fun _ => some (xs, p)) (fun _ => rfl) (Evs.now ⟨by simp, by simp⟩)
  | n + 1, xs, p, hp, hp', hn => by
    unfold spec_l20Tab.lc
    refine Evs.bnd (pp_pick l h p 30 hp (by omega) (by omega)) ?_
    rintro ⟨a, q⟩ ⟨hq, a0, _, a1⟩
    simp only at hq a0 a1 ⊢
    refine Evs.bnd (pp_pick l h q 4 (by omega) (by omega) (by omega)) ?_
    rintro ⟨b, q2⟩ ⟨hq2, b0, _, b1⟩
    simp only at hq2 b0 b1 ⊢
    refine Evs.bnd (pp_pick l h q2 4 (by omega) (by omega) (by omega)) ?_
    rintro ⟨c, q3⟩ ⟨hq3, c0, _, c1⟩
    simp only at hq3 c0 c1 ⊢
    exact Evs.pos ⟨b0, b1 (by omega), c0, c1 (by omega)⟩ ((ppd_tab_c l h n _ q3 (by omega) (by omega) (by omega)).imp fun r ⟨a, b⟩ => ⟨by omega, by omega⟩)
theorem ppTblB_shape {cs : List S57} {hd ft : Int} {rs : List S42} {gp : Int} (h : ppTblB cs hd ft rs gp = true) : (1 ≤ rs.length ∧ rs.length ≤ 8) ∧ cs.length ≤ 8 ∧ (0 ≤ hd ∧ hd ≤ rs.length) ∧ (0 ≤ ft ∧ ft ≤ rs.length - hd) ∧ rs.all ppRowB = true := by
  unfold ppTblB at h
  simp only [Bool.and_eq_true, decide_eq_true_eq] at h
  obtain ⟨⟨h1, _⟩, h3⟩ := h
  exact ⟨h1.1, h1.2.1, h1.2.2.1, h1.2.2.2.1, h3⟩
theorem ppd_tab_f (t : PTab) (p : Int) (ht : t.rows.length ≤ 6 ∧ 1 ≤ t.rows.length ∧ ∀ x ∈ t.rows, ppDr 4 x) : Evs (fun k => spec_l20Tab.fin k t p) (fun r => (r.1.rows.length ≤ 6 ∧ 1 ≤ r.1.rows.length ∧ (∀ x ∈ r.1.rows, ppDr 4 x) ∧ r.1.cols.length ≤ 8) ∧ r.2 = p) := by
  unfold spec_l20Tab.fin
  refine Evs.bnd (pp_tblS _ _ _ _ _) (fun b hb => Evs.now ⟨?_, rfl⟩)
  simp only
  split
  · rename_i e
    rw [e] at hb
    exact ⟨ht.1, ht.2.1, ht.2.2, (ppTblB_shape hb.symm).2.1⟩
  · refine ⟨by decide, by decide, ?_, by decide⟩
    intro x hx
    rw [show ppNoTab.rows = [⟨[], false⟩] from rfl] at hx
    rw [List.mem_singleton.1 hx]
    exact ⟨by decide, fun c hc => by cases hc⟩
theorem ppd_table (l : List Int) (h : ppRd l) (p : Int) (hp : 0 ≤ p) (hp' : p ≤ 200000000) : Evs (fun k => spec_l20Tab.f k l p) (fun r => (r.1.rows.length ≤ 6 ∧ 1 ≤ r.1.rows.length ∧ (∀ x ∈ r.1.rows, ppDr 4 x) ∧ r.1.cols.length ≤ 8) ∧ p ≤ r.2 ∧ r.2 ≤ p + 2000) := by
  unfold spec_l20Tab.f
  refine Evs.bnd (pp_pick l h p 4 hp (by omega) (by omega)) ?_
  rintro ⟨gap, q⟩ ⟨hq, _, _, _⟩
  simp only at hq ⊢
  refine Evs.bnd (pp_pick l h q 6 (by omega) (by omega) (by omega)) ?_
  rintro ⟨nc, q2⟩ ⟨hq2, c0, _, c1⟩
  simp only at hq2 c0 c1 ⊢
  have c1 := c1 (by omega)
  refine Evs.pos ⟨c0, by omega⟩ ?_
  refine Evs.bnd (ppd_tab_c l h nc.toNat [] q2 (by omega) (by omega) (by omega)) ?_
  rintro ⟨cols, q3⟩ ⟨g0, g1⟩
  simp only at g0 g1 ⊢
  refine Evs.bnd (pp_pick l h q3 6 (by omega) (by omega) (by omega)) ?_
  rintro ⟨nr, q4⟩ ⟨hq4, r0, _, r1⟩
  simp only at hq4 r0 r1 ⊢
  have r1 := r1 (by omega)
  refine Evs.pos ⟨r0, by omega⟩ ?_
  refine Evs.bnd (ppd_tab_r l h (nr.toNat + 1) [] q4 (by omega) (by omega) (by omega) (fun _ hx => by cases hx)) ?_
  rintro ⟨rows, q5⟩ ⟨⟨hl, hr⟩, g2, g3⟩
  simp only [List.length_nil] at hl hr g2 g3 ⊢
  have hrows : rows.length ≤ 6 ∧ 1 ≤ rows.length ∧ ∀ x ∈ rows, ppDr 4 x := ⟨by omega, by omega, hr⟩
  refine Evs.bnd (pp_pick l h q5 2 (by omega) (by omega) (by omega)) ?_
  rintro ⟨hf, q6⟩ ⟨hq6, _, _, _⟩
  simp only at hq6 ⊢
  refine Evs.ite (fun _ => ?_) (fun _ => (ppd_tab_f ⟨cols, 0, 0, rows, gap⟩ _ hrows).imp fun r ⟨t, e⟩ => ⟨t, by omega, by omega⟩)
  refine Evs.bnd (pp_pick l h q6 2 (by omega) (by omega) (by omega)) ?_
  rintro ⟨hd, q7⟩ ⟨hq7, d0, _, d1⟩
  simp only at hq7 d0 d1 ⊢
  have d1 := d1 (by omega)
  refine Evs.bnd (pp_pick l h q7 2 (by omega) (by omega) (by omega)) ?_
  rintro ⟨ft, q8⟩ ⟨hq8, f0, _, f1⟩
  simp only at hq8 f0 f1 ⊢
  have f1 := f1 (by omega)
  exact Evs.pos ⟨d0, by omega, f0, by omega⟩ ((ppd_tab_f ⟨cols, hd, _, rows, gap⟩ _ hrows).imp fun r ⟨t, e⟩ => ⟨t, by omega, by omega⟩)
/-- Drawn rows, one of which may have a cell more. -/
def ppDrs (rs : List S42) : Prop := ∃ a : Nat, ∀ i (hi : i < rs.length), ppDr (if i = a then 5 else 4) rs[i]
theorem ppDrs_of {rs : List S42} (h : ∀ x ∈ rs, ppDr 4 x) : ppDrs rs := by
  refine ⟨0, fun i hi => ?_⟩
  have := h _ (List.getElem_mem hi)
  exact ⟨by have := this.1; split <;> omega, this.2⟩
theorem pp_paRow (rows : List S42) (a : Nat) (h : a < rows.length) : paRow rows a = rows[a] := by
  unfold paRow
  simp [List.getD_eq_getElem?_getD, List.getElem?_eq_getElem h]
theorem ppDrs_put {rows : List S42} (hr : ∀ x ∈ rows, ppDr 4 x) {a : Nat} (ha : a < rows.length) {x : S30} (hx : ppDc x) : ppDrs (paPut rows a x) := by
  refine ⟨a, fun i hi => ?_⟩
  unfold paPut at hi ⊢
  have hil : i < rows.length := by rwa [List.length_set] at hi
  have hra := hr _ (List.getElem_mem ha)
  by_cases e : i = a
  · subst e
    rw [if_pos rfl, List.getElem_set_self, pp_paRow rows i ha]
    refine ⟨by show (rows[i].f0 ++ [x]).length ≤ 5; rw [List.length_append, List.length_singleton]; have := hra.1; omega, fun c hc => ?_⟩
    rcases List.mem_append.1 hc with hc | hc
    · exact hra.2 c hc
    · rw [List.mem_singleton.1 hc]; exact hx
  · rw [if_neg e, List.getElem_set_ne (Ne.symm e)]
    exact hr _ (List.getElem_mem hil)
theorem ppd_anyP (l : List Int) (h : ppRd l) (p n : Int) (hp : 0 ≤ p) (hp' : p ≤ 100000000) (hn : n ≤ 1000000) : Evs (fun k => spec_l20Any.f k l p n) (fun r => ppDrs r.1.rows ∧ p ≤ r.2 ∧ r.2 ≤ p + 3000) := by
  unfold spec_l20Any.f
  refine Evs.bnd (ppd_table l h p hp (by omega)) ?_
  rintro ⟨⟨cols, hd, ft, rows, gap⟩, q⟩ ⟨⟨h6, h1, hr, h8⟩, q0, q1⟩
  simp only at h6 h1 hr h8 q0 q1 ⊢
  refine Evs.bnd (pp_pick l h q n (by omega) (by omega) hn) ?_
  rintro ⟨c, q2⟩ ⟨hq2, _, _, _⟩
  simp only at hq2 ⊢
  have hr0 := ppDrs_of hr
  refine Evs.ite (fun _ => Evs.now ⟨hr0, by simp only at *; omega, by simp only at *; omega⟩) (fun _ => ?_)
  refine Evs.bnd (pp_pick l h q2 (rows.length : Int) (by omega) (by omega) (by omega)) ?_
  rintro ⟨a, q3⟩ ⟨hq3, a0, _, a1⟩
  simp only at hq3 a0 a1 ⊢
  have a1 := a1 (by omega)
  refine Evs.pos ⟨a0, a1⟩ ?_
  refine Evs.bnd (pp_pick l h q3 6 (by omega) (by omega) (by omega)) ?_
  rintro ⟨sw, q4⟩ ⟨hq4, s0, _, s1⟩
  simp only at hq4 s0 s1 ⊢
  unfold spec_l20Any.turn
  refine Evs.ite (fun _ => ?_) (fun _ => Evs.ite (fun _ => ?_) (fun _ => Evs.ite (fun _ => ?_) (fun _ => Evs.ite (fun _ => ?_) (fun _ => Evs.ite (fun _ => ?_) (fun _ => ?_)))))
  · refine Evs.bnd (pp_pick l h q4 3 (by omega) (by omega) (by omega)) ?_
    rintro ⟨e, q5⟩ ⟨hq5, e0, _, e1⟩
    exact Evs.pos ⟨e0, e1 (by omega)⟩ (Evs.now ⟨hr0, by simp only at *; omega, by simp only at *; omega⟩)
  · refine Evs.bnd (pp_pick l h q4 3 (by omega) (by omega) (by omega)) ?_
    rintro ⟨e, q5⟩ ⟨hq5, e0, _, e1⟩
    exact Evs.pos ⟨e0, e1 (by omega)⟩ (Evs.now ⟨hr0, by simp only at *; omega, by simp only at *; omega⟩)
  · refine Evs.bnd (pp_pick l h q4 2 (by omega) (by omega) (by omega)) ?_
    rintro ⟨e, q5⟩ ⟨hq5, e0, _, e1⟩
    exact Evs.pos ⟨e0, e1 (by omega)⟩ (Evs.now ⟨hr0, by simp only at *; omega, by simp only at *; omega⟩)
  · refine Evs.bnd (pp_pick l h q4 4 (by omega) (by omega) (by omega)) ?_
    rintro ⟨d, q5⟩ ⟨hq5, _, _, _⟩
    simp only at hq5 ⊢
    refine Evs.bnd (pp_pick l h q5 4 (by omega) (by omega) (by omega)) ?_
    rintro ⟨e, q6⟩ ⟨hq6, e0, _, e1⟩
    exact Evs.pos ⟨e0, e1 (by omega), by omega⟩ (Evs.now ⟨hr0, by simp only at *; omega, by simp only at *; omega⟩)
  · refine Evs.bnd (ppd_cell l h q4 1 (by omega) (by omega) (by omega)) ?_
    rintro ⟨x, q5⟩ ⟨hx, x0, x1⟩
    simp only at hx ⊢
    have hpr := pp_paRow rows a.toNat (by omega)
    have hra := hr _ (List.getElem_mem (show a.toNat < rows.length by omega))
    exact Evs.pos (by rw [hpr]; have := hra.1; omega) (Evs.now ⟨ppDrs_put hr (by omega) hx, by simp only at *; omega, by simp only at *; omega⟩)
  · refine Evs.now ⟨ppDrs_of ?_, by simp only at *; omega, by simp only at *; omega⟩
    intro x hx
    unfold paFill at hx
    rcases List.mem_append.1 hx with hx | hx
    · exact hr x hx
    · rw [(List.mem_replicate.1 hx).2]
      exact ⟨by decide, fun c hc => by cases hc⟩

/-- All texts of the rows are short. -/
def ppFitR (rs : List S42) : Prop := ∀ x ∈ rs, ∀ c ∈ x.f0, c.f0.size < 4294967281
theorem ppFitR_drs {rs : List S42} (hdr : ppDrs rs) : ppFitR rs := by
  obtain ⟨q, hq⟩ := hdr
  intro x hx c hc
  obtain ⟨i, hi, rfl⟩ := List.getElem_of_mem hx
  have := ((hq i hi).2 c hc).1
  omega
theorem pp_copI (cs : List S57) (hd ft : Int) (rs : List S42) (gp : Int) (hb : ppTblB cs hd ft rs gp = true) : Evs (fun k => impl_TblTable_copied.f k cs hd ft rs gp) (fun r => r = (cs, hd, ft, rs, gp)) := by
  obtain ⟨h8, hc8, _, _, hr⟩ := ppTblB_shape hb
  unfold impl_TblTable_copied.f
  refine Evs.up (fun k s i => impl_TblTable_copied.l0 k s rs (rs.length : Int) i cs hd ft rs gp) rs.length (fun i s => s = rs.take i) _ ?_ ?_ [] rfl
  · rintro _ i hi rfl hk
    have hir : rd_T42 rs (i : Int) = rs[i] := pp_getD rs i _ hi
    have h5 : rs[i].f0.length ≤ 5 := by
      have := List.all_eq_true.1 hr _ (List.getElem_mem hi)
      unfold ppRowB at this
      rw [Bool.and_eq_true] at this
      exact of_decide_eq_true this.1
    have ec : impl_TblCell.f (rd_T42 rs (i : Int)).f0 = some (rd_T42 rs (i : Int)).f0 := by
      unfold impl_TblCell.f
      rw [hir, if_pos (by omega)]
    have ew : wrap64 ((i : Int) + 1) = (i : Int) + 1 := pp_wrap_id _ (by omega) (by omega)
    refine Evs.step (fun k => by rw [impl_TblTable_copied.l0, ec, ew]) ?_
    refine Evs.pos (by omega) (Evs.pos (by omega) (Evs.pos (by omega) ?_))
    refine Evs.bnd (Evs.now (P := fun q => q = (rd_T42 rs (i : Int)).f0) rfl) ?_
    rintro _ rfl
    refine Evs.pos (by rw [List.length_take]; omega) (hk _ ?_)
    rw [hir]
    exact (List.take_succ_eq_append_getElem hi).symm
  · rintro _ rfl
    refine Evs.step (fun k => by rw [impl_TblTable_copied.l0]) ?_
    refine Evs.neg (by omega) ?_
    have ec : impl_TblCol.f cs = some cs := by
      unfold impl_TblCol.f
      rw [if_pos (by omega)]
    rw [ec, List.take_length]
    exact Evs.now rfl
theorem pp_copS (cs : List S57) (hd ft : Int) (rs : List S42) (gp : Int) (hb : ppTblB cs hd ft rs gp = true) : Evs (fun k => spec_l2Copy.f k cs hd ft rs gp) (fun r => r = (cs, hd, ft, rs, gp)) := by
  obtain ⟨h8, hc8, _, _, hr⟩ := ppTblB_shape hb
  unfold spec_l2Copy.f
  refine Evs.bnd (Evs.now (P := fun q => q = ([] : List S57)) rfl) ?_
  rintro _ rfl
  refine Evs.pos (by simp only [List.length_nil]; omega) ?_
  refine Evs.up (fun k s i => spec_l2Copy.l0 k i cs hd ft rs gp ([] ++ cs) hd ft s gp) rs.length (fun i s => s = rs.take i) _ ?_ ?_ [] rfl
  · rintro _ i hi rfl hk
    have hir : rd_T42 rs (i : Int) = rs[i] := pp_getD rs i _ hi
    have h5 : rs[i].f0.length ≤ 5 := by
      have := List.all_eq_true.1 hr _ (List.getElem_mem hi)
      unfold ppRowB at this
      rw [Bool.and_eq_true] at this
      exact of_decide_eq_true this.1
    have ew : wrap64 ((i : Int) + 1) = (i : Int) + 1 := pp_wrap_id _ (by omega) (by omega)
    refine Evs.step (fun k => by rw [spec_l2Copy.l0, ew]) ?_
    refine Evs.pos (by omega) ?_
    refine Evs.bnd (Evs.now (P := fun q => q = ([] : List S30)) rfl) ?_
    rintro _ rfl
    refine Evs.pos (by omega) (Evs.pos (by rw [hir, List.length_nil]; omega) (Evs.pos (by rw [List.length_take]; omega) (hk _ ?_)))
    rw [hir, List.nil_append]
    exact (List.take_succ_eq_append_getElem hi).symm
  · rintro _ rfl
    refine Evs.step (fun k => by rw [spec_l2Copy.l0]) ?_
    refine Evs.neg (by omega) ?_
    rw [List.take_length, List.nil_append]
    exact Evs.now rfl

/-- How many cells the rows have. -/
def ppCells : List S42 → Nat
  | [] => 0
  | r :: rs => r.f0.length + ppCells rs
theorem ppCells_le (rs : List S42) (h : ∀ r ∈ rs, r.f0.length ≤ 5) : ppCells rs ≤ 5 * rs.length := by
  induction rs with
  | nil => simp [ppCells]
  | cons r rs ih =>
    have h1 := h r (by simp)
    have h2 := ih (fun q hq => h q (by simp [hq]))
    rw [ppCells, List.length_cons]
    omega
theorem pp_cellsL (rs : List S42) (h8 : rs.length ≤ 100) (h5 : ∀ r ∈ rs, r.f0.length ≤ 5) : ∀ (n i acc k : Nat), rs.length - i = n → i ≤ rs.length → acc ≤ 5 * i → n + 1 ≤ k → impl_TblCells.l0 k (acc : Int) rs (rs.length : Int) (i : Int) = some (((acc + ppCells (rs.drop i) : Nat) : Int)) := by
  intro n
  induction n with
  | zero =>
    intro i acc k hn hi ha hk
    obtain ⟨k, rfl⟩ : ∃ m, k = m + 1 := ⟨k - 1, by omega⟩
    obtain rfl : i = rs.length := by omega
    rw [impl_TblCells.l0, if_neg (by omega), List.drop_length]
    simp [ppCells]
  | succ n ih =>
    intro i acc k hn hi ha hk
    obtain ⟨k, rfl⟩ : ∃ m, k = m + 1 := ⟨k - 1, by omega⟩
    have hlt : i < rs.length := by omega
    have hr : rd_T42 rs (i : Int) = rs[i] := by
      unfold rd_T42
      rw [List.getD_eq_getElem?_getD, Int.toNat_natCast, List.getElem?_eq_getElem hlt]
      rfl
    have h6 := h5 rs[i] (List.getElem_mem hlt)
    rw [impl_TblCells.l0, if_pos (by omega), if_pos (by omega), if_pos (by omega), hr]
    have e1 : wrap64 ((acc : Int) + (rs[i].f0.length : Int)) = ((acc + rs[i].f0.length : Nat) : Int) := by unfold wrap64; omega
    have e2 : wrap64 ((i : Int) + 1) = ((i + 1 : Nat) : Int) := by unfold wrap64; omega
    rw [e1, e2, ih (i + 1) _ k (by omega) (by omega) (by omega) (by omega), List.drop_eq_getElem_cons hlt, ppCells, Nat.add_assoc]
theorem pp_cellsN (cs : List S57) (hd ft : Int) (rs : List S42) (gp : Int) (h8 : rs.length ≤ 100) (h5 : ∀ r ∈ rs, r.f0.length ≤ 5) : Evs (fun k => impl_TblCells.f k cs hd ft rs gp) (fun r => r = (ppCells rs : Int)) := by
  refine Evs.of (rs.length + 1) (fun k hk => ?_)
  unfold impl_TblCells.f
  have h := pp_cellsL rs h8 h5 rs.length 0 0 k (by omega) (by omega) (by omega) hk
  simpa using h

theorem pp_pwTableE (k : Nat) (cs : List S57) (hd ft : Int) (rs : List S42) (gp : Int) : laws_pwTable.f k cs hd ft rs gp cs hd ft rs gp = some true := by
  unfold laws_pwTable.f
  rw [if_pos ⟨rfl, rfl, rfl, rfl, rfl⟩]
theorem ppTblB_num {cs : List S57} {hd ft : Int} {rs : List S42} {gp : Int} (h : ppTblB cs hd ft rs gp = true) : ((1 ≤ rs.length ∧ rs.length ≤ 8) ∧ cs.length ≤ 8 ∧ (0 ≤ hd ∧ hd ≤ (rs.length : Int)) ∧ (0 ≤ ft ∧ ft ≤ (rs.length : Int) - hd) ∧ 0 ≤ gp ∧ gp ≤ 3) ∧ cs.all ppColB = true ∧ rs.all ppRowB = true := by
  unfold ppTblB at h
  rw [Bool.and_eq_true, Bool.and_eq_true] at h
  exact ⟨of_decide_eq_true h.1.1, h.1.2, h.2⟩
theorem ppTblB_row5 {cs : List S57} {hd ft : Int} {rs : List S42} {gp : Int} (h : ppTblB cs hd ft rs gp = true) : ∀ r ∈ rs, r.f0.length ≤ 5 := by
  intro r hr
  have h1 := (ppTblB_num h).2.2
  rw [List.all_eq_true] at h1
  have h2 := h1 r hr
  unfold ppRowB at h2
  rw [Bool.and_eq_true] at h2
  exact of_decide_eq_true h2.1
theorem ppRd_row (rs : List S42) (row : Int) : rd_T42 rs row ∈ rs ∨ rd_T42 rs row = z42 := by
  unfold rd_T42
  rw [List.getD_eq_getElem?_getD]
  rcases Nat.lt_or_ge row.toNat rs.length with h | h
  · rw [List.getElem?_eq_getElem h]
    exact .inl (List.getElem_mem h)
  · rw [List.getElem?_eq_none h]
    exact .inr rfl
theorem ppTblB_rd5 {cs : List S57} {hd ft : Int} {rs : List S42} {gp : Int} (h : ppTblB cs hd ft rs gp = true) (row : Int) : (rd_T42 rs row).f0.length ≤ 5 := by
  rcases ppRd_row rs row with h1 | h1
  · exact ppTblB_row5 h _ h1
  · rw [h1]
    exact Nat.zero_le _
theorem ppCells_set (rs : List S42) (i : Nat) (r : S42) (h : i < rs.length) : ppCells (rs.set i r) + rs[i].f0.length = ppCells rs + r.f0.length := by
  induction rs generalizing i with
  | nil => simp at h
  | cons a rs ih =>
    cases i with
    | zero =>
      simp only [List.set_cons_zero, ppCells, List.getElem_cons_zero]
      omega
    | succ i =>
      have h2 : i < rs.length := by simpa using h
      have := ih i h2
      simp only [List.set_cons_succ, ppCells, List.getElem_cons_succ]
      omega
/-- A table whose row at a place is another one, of cells that are ok. -/
theorem ppTblB_setRow {cs : List S57} {hd ft : Int} {rs : List S42} {gp : Int} (i : Nat) {r : S42} (hB : ppTblB cs hd ft rs gp = true) (hr : ppRowB r = true) : ppTblB cs hd ft (rs.set i r) gp = true := by
  obtain ⟨h1, h2, h3⟩ := ppTblB_num hB
  unfold ppTblB
  rw [Bool.and_eq_true, Bool.and_eq_true, List.length_set]
  refine ⟨⟨decide_eq_true h1, h2⟩, ?_⟩
  rw [List.all_eq_true] at h3 ⊢
  intro x hx
  rcases List.mem_or_eq_of_mem_set hx with h | h
  · exact h3 x h
  · subst h
    exact hr
theorem ppFitR_setRow {rs : List S42} (i : Nat) {r : S42} (h : ppFitR rs) (hr : ∀ c ∈ r.f0, c.f0.size < 4294967281) : ppFitR (rs.set i r) := by
  intro x hx c hc
  rcases List.mem_or_eq_of_mem_set hx with h1 | h1
  · exact h x h1 c hc
  · subst h1
    exact hr c hc
theorem ppRd_at (rs : List S42) (i : Nat) (h : i < rs.length) : rd_T42 rs (i : Int) = rs[i] := by
  unfold rd_T42
  rw [List.getD_eq_getElem?_getD, Int.toNat_natCast, List.getElem?_eq_getElem h]
  rfl
theorem ppPut_back {α : Type} (l : List α) (i : Nat) (x : α) (h : i ≤ l.length) : (l.take i ++ x :: l.drop i).eraseIdx i = l := by
  have hl : (l.take i).length = i := by rw [List.length_take]; omega
  rw [List.eraseIdx_append_of_length_le (by omega), hl, Nat.sub_self]
  simp

theorem pp_abc : Txt.ppTxtOk (⟨#[97, 98, 32, 99]⟩ : ByteArray) = true := by kernel_rfl
theorem pp_pwOk : laws_pwOk.f = some true := by
  unfold laws_pwOk.f impl_TxtOk.f
  rw [if_pos (by decide), pp_abc]
  rfl

-- stmt: ∀ (l0 : List Int), (True ∧ ∀ x ∈ l0, (Lit.int .u8 x).wf = true) → ∃ k, laws_FnEdtPut.f k l0 = some true
/-- What a table out of which a cell is taken tells. -/
def ppTakeE (cs : List S57) (hd ft : Int) (rs : List S42) (gp row at_ : Int) : List S57 × Int × Int × List S42 × Int × Bool :=
  if ppTblB cs hd ft rs gp = true then (if hasP rs row at_ then (cs, hd, ft, takeRows rs row at_, gp, true) else (cs, hd, ft, rs, gp, false)) else ([], 0, 0, [], 0, false)
theorem pp_takeI (cs : List S57) (hd ft : Int) (rs : List S42) (gp row at_ : Int) (hf : ppFitR rs) : Evs (fun k => impl_EdtTake.f k cs hd ft rs gp row at_) (fun r => r = ppTakeE cs hd ft rs gp row at_) := by
  unfold impl_EdtTake.f ppTakeE
  refine Evs.bnd (Evs.of 0 (fun k _ => pp_tblP cs hd ft rs gp hf k)) ?_
  rintro _ rfl
  refine Evs.ite (fun hb => ?_) (fun hb => ?_)
  · rw [if_pos hb]
    refine Evs.bnd (pp_copI cs hd ft rs gp hb) ?_
    rintro _ rfl
    have h8 := (ppTblB_num hb).1.1.2
    have h5 := ppTblB_rd5 hb row
    refine Evs.pos ⟨by simp only; omega, by simp only; omega⟩ (Evs.now ?_)
    by_cases hp : hasP rs row at_
    · rw [if_pos hp]
      simp only [decide_eq_true hp, if_true]
    · rw [if_neg hp]
      simp only [decide_eq_false hp]
      rfl
  · rw [if_neg hb]
    exact Evs.now rfl
/-- What a table into which a cell is put tells. -/
def ppPutE (cs : List S57) (hd ft : Int) (rs : List S42) (gp row at_ : Int) (c : S30) : List S57 × Int × Int × List S42 × Int × Bool :=
  if ppTblB cs hd ft rs gp = true then (if ppCellB c = true ∧ putP rs row at_ then (cs, hd, ft, putRows rs row at_ c, gp, true) else (cs, hd, ft, rs, gp, false)) else ([], 0, 0, [], 0, false)
theorem pp_putI (cs : List S57) (hd ft : Int) (rs : List S42) (gp row at_ : Int) (c : S30) (hf : ppFitR rs) (hc : c.f0.size < 4294967281) : Evs (fun k => impl_EdtPut.f k cs hd ft rs gp row at_ c) (fun r => r = ppPutE cs hd ft rs gp row at_ c) := by
  unfold impl_EdtPut.f ppPutE
  refine Evs.bnd (Evs.of 0 (fun k _ => pp_tblP cs hd ft rs gp hf k)) ?_
  rintro _ rfl
  refine Evs.ite (fun hb => ?_) (fun hb => ?_)
  · rw [if_pos hb]
    refine Evs.bnd (pp_copI cs hd ft rs gp hb) ?_
    rintro _ rfl
    rw [pp_cellP c hc]
    simp only [Option.bind_some]
    have h8 := (ppTblB_num hb).1.1.2
    have h5 := ppTblB_rd5 hb row
    refine Evs.pos ⟨by omega, by omega⟩ (Evs.now ?_)
    by_cases hp : ppCellB c = true ∧ putP rs row at_
    · rw [if_pos hp]
      simp only [hp.1, decide_eq_true hp.2, Bool.and_true, if_true]
    · rw [if_neg hp]
      have e : (ppCellB c && decide (putP rs row at_)) = false := Bool.eq_false_iff.2 (fun h => hp (by rw [Bool.and_eq_true] at h; exact ⟨h.1, of_decide_eq_true h.2⟩))
      simp only [e]
      rfl
  · rw [if_neg hb]
    exact Evs.now rfl
theorem pp_putS (cs : List S57) (hd ft : Int) (rs : List S42) (gp row at_ : Int) (c : S30) : Evs (fun k => spec_EdtPut.f k cs hd ft rs gp row at_ c) (fun r => r = ppPutE cs hd ft rs gp row at_ c) := by
  unfold spec_EdtPut.f ppPutE
  refine Evs.bnd (pp_tblS cs hd ft rs gp) ?_
  rintro _ rfl
  refine Evs.ite (fun hb => ?_) (fun hb => ?_)
  · rw [if_pos hb]
    refine Evs.bnd (pp_copS cs hd ft rs gp hb) ?_
    rintro _ rfl
    refine Evs.bnd (pp_cellS c) ?_
    rintro _ rfl
    have h8 := (ppTblB_num hb).1.1.2
    have h5 := ppTblB_rd5 hb row
    refine Evs.pos ⟨by omega, rfl, by omega⟩ ?_
    refine Evs.ite (fun hp => ?_) (fun hp => ?_)
    · rw [if_pos hp]
      exact Evs.now rfl
    · rw [if_neg hp]
      exact Evs.now rfl
  · rw [if_neg hb]
    exact Evs.now rfl
theorem pp_finP (cs : List S57) (hd ft : Int) (rs : List S42) (gp row at_ : Int) (c : S30) (hfit : ppFitR rs) (hB : ppTblB cs hd ft rs gp = true) (hc : c.f0.size < 4294967281) (hcb : ppCellB c = true) (hp : putP rs row at_) : Evs (fun k => laws_FnEdtPut.fin k cs hd ft rs gp cs hd ft (putRows rs row at_ c) gp row at_ c) (fun r => r = true) := by
  obtain ⟨⟨hr0, hr1⟩, ⟨ha0, ha1⟩, ha5⟩ := hp
  obtain ⟨n, rfl⟩ : ∃ n : Nat, row = n := ⟨row.toNat, by omega⟩
  obtain ⟨m, rfl⟩ : ∃ m : Nat, at_ = m := ⟨at_.toNat, by omega⟩
  have hn : n < rs.length := by omega
  rw [ppRd_at rs n hn] at ha1 ha5
  have hm : m ≤ rs[n].f0.length := by omega
  have h5 := ppTblB_row5 hB rs[n] (List.getElem_mem hn)
  have h8 := (ppTblB_num hB).1.1.2
  obtain ⟨L, hL⟩ : ∃ L, rs[n].f0.take m ++ c :: rs[n].f0.drop m = L := ⟨_, rfl⟩
  have hputR : putRows rs (n : Int) (m : Int) c = rs.set n ⟨L, rs[n].f1⟩ := by
    unfold putRows
    rw [ppRd_at rs n hn, Int.toNat_natCast, Int.toNat_natCast, hL]
  have hLl : L.length = rs[n].f0.length + 1 := by
    rw [← hL, List.length_append, List.length_take, List.length_cons, List.length_drop]
    omega
  have hLat : L[m]? = some c := by
    rw [← hL, List.getElem?_append_right (by rw [List.length_take]; omega), List.length_take, Nat.min_eq_left (by omega), Nat.sub_self]
    rfl
  have hLm : ∀ y ∈ L, y = c ∨ y ∈ rs[n].f0 := by
    intro y hy
    rw [← hL] at hy
    rcases List.mem_append.1 hy with h | h
    · exact .inr (List.mem_of_mem_take h)
    · rcases List.mem_cons.1 h with h | h
      · exact .inl h
      · exact .inr (List.mem_of_mem_drop h)
  have hLb : L.eraseIdx m = rs[n].f0 := by rw [← hL]; exact ppPut_back _ m c hm
  clear hL
  have hcell : rd_T30 L (m : Int) = c := by
    unfold rd_T30
    rw [List.getD_eq_getElem?_getD, Int.toNat_natCast, hLat]
    rfl
  have hrow : ppRowB rs[n] = true := by
    have h1 := (ppTblB_num hB).2.2
    rw [List.all_eq_true] at h1
    exact h1 _ (List.getElem_mem hn)
  unfold ppRowB at hrow
  rw [Bool.and_eq_true, List.all_eq_true] at hrow
  have hnew : ppRowB (⟨L, rs[n].f1⟩ : S42) = true := by
    unfold ppRowB
    rw [Bool.and_eq_true, List.all_eq_true]
    refine ⟨decide_eq_true ?_, fun y hy => ?_⟩
    · show L.length ≤ 5
      omega
    · rcases hLm y hy with h | h
      · rw [h]; exact hcb
      · exact hrow.2 y h
  have hB2 := ppTblB_setRow n hB hnew
  have hfit2 := ppFitR_setRow n (r := ⟨L, rs[n].f1⟩) hfit (fun y hy => by
    rcases hLm y hy with h | h
    · rw [h]; exact hc
    · exact hfit _ (List.getElem_mem hn) y h)
  have hcells := ppCells_set rs n ⟨L, rs[n].f1⟩ hn
  have h52 := ppTblB_row5 hB2
  have hlen : (rs.set n ⟨L, rs[n].f1⟩).length = rs.length := List.length_set
  have hn2 : n < (rs.set n ⟨L, rs[n].f1⟩).length := by rw [hlen]; exact hn
  have hrd2 : rd_T42 (rs.set n ⟨L, rs[n].f1⟩) (n : Int) = ⟨L, rs[n].f1⟩ := by
    rw [ppRd_at _ n hn2, List.getElem_set_self]
  have htake : takeRows (rs.set n ⟨L, rs[n].f1⟩) (n : Int) (m : Int) = rs := by
    unfold takeRows
    rw [hrd2, Int.toNat_natCast, Int.toNat_natCast]
    simp only
    rw [hLb, List.set_set]
    exact List.set_getElem_self hn
  have hle5 := ppCells_le rs (ppTblB_row5 hB)
  have hpp : hasP (rs.set n ⟨L, rs[n].f1⟩) (n : Int) (m : Int) := by
    unfold hasP
    rw [hrd2, hlen]
    refine ⟨⟨by omega, by omega⟩, by omega, ?_⟩
    show (m : Int) ≤ (L.length : Int) - 1
    omega
  have htakeI := pp_takeI cs hd ft _ gp (n : Int) (m : Int) hfit2
  unfold ppTakeE at htakeI
  rw [if_pos hB2, if_pos hpp, htake] at htakeI
  rw [hputR]
  unfold laws_FnEdtPut.fin
  rw [hrd2]
  simp only
  rw [hcell, hlen]
  refine Evs.pos ⟨⟨by omega, by omega, by omega, by omega⟩, rfl⟩ ?_
  refine Evs.bnd htakeI ?_
  rintro _ rfl
  refine Evs.bnd (Evs.of 0 (fun k _ => pp_tblP cs hd ft _ gp hfit2 k)) ?_
  rintro _ rfl
  refine Evs.bnd (pp_cellsN cs hd ft _ gp (by rw [hlen]; omega) h52) ?_
  rintro _ rfl
  refine Evs.bnd (pp_cellsN cs hd ft rs gp (by omega) (ppTblB_row5 hB)) ?_
  rintro _ rfl
  refine Evs.bnd (Evs.of 0 (fun k _ => pp_pwTableE k _ _ _ _ _)) ?_
  rintro _ rfl
  have hc2 : ppCells (rs.set n ⟨L, rs[n].f1⟩) + rs[n].f0.length = ppCells rs + L.length := hcells
  exact Evs.pos ⟨hB2, by omega, by omega, by omega, rfl⟩ (Evs.now rfl)
theorem pp_drawPut (l : List Int) (h : ∀ x ∈ l, (Lit.int .u8 x).wf = true) : Evs (fun k => spec_DrawEdtPut.f k l) (fun r => ppDrs r.2.2.2.1 ∧ r.2.2.2.2.2.2.2.1.size ≤ 100) := by
  obtain ⟨b, e, hb⟩ := pp_open l h
  unfold spec_DrawEdtPut.f spec_l20AnyTable.f
  rw [e]
  simp only [Option.bind_some]
  refine Evs.bnd (P := fun r => ppDrs r.2.2.2.1 ∧ 0 ≤ r.2.2.2.2.2 ∧ r.2.2.2.2.2 ≤ 3000) ?_ ?_
  · refine Evs.bnd (ppd_anyP b hb 0 16 (by omega) (by omega) (by omega)) (fun t ht => ?_)
    exact Evs.now ⟨ht.1, by simpa using ht.2.1, by simpa using ht.2.2⟩
  rintro ⟨cs, hd, ft, rs, gp, p⟩ ⟨hdr, p0, p1⟩
  simp only at hdr p0 p1 ⊢
  refine Evs.bnd (pp_pick b hb p 6 p0 (by omega) (by omega)) ?_
  rintro ⟨row, q⟩ ⟨hq, _, _, _⟩
  simp only at hq ⊢
  refine Evs.bnd (pp_pick b hb q 5 (by omega) (by omega) (by omega)) ?_
  rintro ⟨at_, q2⟩ ⟨hq2, _, _, _⟩
  simp only at hq2 ⊢
  refine Evs.bnd (P := fun r => r.1.size ≤ 100) ?_ (fun r hr => Evs.now ⟨hdr, hr⟩)
  unfold spec_l20Cell.f
  refine Evs.bnd (ppd_cell b hb q2 12 (by omega) (by omega) (by omega)) ?_
  rintro ⟨x, p2⟩ ⟨hx, _, _⟩
  exact Evs.now hx.1
theorem FnEdtPut : ∀ (l0 : List (Int)), (l0.length ≤ 9223372036854775807 ∧ ∀ (x : Int), x ∈ l0 → (Lit.int .u8 x).wf = true) → ∃ k, laws_FnEdtPut.f k l0 = some true := by
  intro l0 h
  refine Evs.ends ?_
  unfold laws_FnEdtPut.f
  refine Evs.ite (fun _ => Evs.now rfl) (fun _ => ?_)
  refine Evs.bnd (pp_drawPut l0 h.2) ?_
  rintro ⟨cs, hd, ft, rs, gp, row, at_, d⟩ ⟨hdr, hd0⟩
  simp only at hdr hd0 ⊢
  have hcs : (laws_FnEdtPut.cel d).f0.size ≤ 100 := hd0
  generalize laws_FnEdtPut.cel d = c at hcs ⊢
  clear hd0
  have hfit := ppFitR_drs hdr
  refine Evs.bnd (pp_putI cs hd ft rs gp row at_ c hfit (by omega)) ?_
  rintro _ rfl
  refine Evs.bnd (pp_putS cs hd ft rs gp row at_ c) ?_
  rintro _ rfl
  refine Evs.pos rfl (Evs.bnd (Evs.of 0 (fun k _ => pp_pwTableE k _ _ _ _ _)) ?_)
  rintro _ rfl
  refine Evs.bnd (pp_tblS cs hd ft rs gp) ?_
  rintro _ rfl
  refine Evs.pos rfl ?_
  unfold ppPutE
  by_cases hB : ppTblB cs hd ft rs gp = true
  · rw [if_pos hB]
    refine Evs.pos hB ?_
    by_cases hp : ppCellB c = true ∧ putP rs row at_
    · rw [if_pos hp]
      exact Evs.pos rfl (pp_finP cs hd ft rs gp row at_ c hfit hB (by omega) hp.1 hp.2)
    · rw [if_neg hp]
      exact Evs.neg (by simp) (Evs.of 0 (fun k _ => pp_pwTableE k _ _ _ _ _))
  · rw [if_neg hB]
    refine Evs.neg hB (Evs.pos rfl (Evs.bnd (Evs.of 0 (fun k _ => pp_pwTableE k _ _ _ _ _)) ?_))
    rintro _ rfl
    rw [pp_pwOk]
    exact Evs.pos rfl (Evs.now rfl)

end Go.Proofs.YtaihfkjfbjcmhabDoor.Pure
