/-
  a drawn table's cell that is told to go over other columns and rows: impl and spec tell the same table, it is ok where the numbers are, the cell stands in its grid so wide, and no higher, and with the old numbers again all is as it was; at all draws.
  Conditions: none but those of the statement.
-/
import Derived.Test.YtpmbglbfoaejaaaDoorQimplGrdOf
namespace Go.Proofs.YtpmbglbfoaejaaaDoor.Pure
open Go.RowKit Go.Proofs.YtpmbglbfoaejaaaDoor.Q Go.Proofs.YtpmbglbfoaejaaaDoorW.PrintWords Go.Proofs.YtpmbglbfoaejaaaDoorW.PrintLast Go.Proofs.YtpmbglbfoaejaaaDoorW.PrintMore
set_option linter.unusedVariables false
set_option linter.unusedSimpArgs false

theorem pp_wrap_id (a : Int) (h : -9223372036854775808 ≤ a) (h' : a ≤ 9223372036854775807) : wrap64 a = a := by unfold wrap64; omega
/-- With enough rounds g answers, and P holds of the answer. -/
def Evs {α : Type} (g : Nat → Option α) (P : α → Prop) : Prop := ∃ r K, P r ∧ ∀ k, K ≤ k → g k = some r
theorem Evs.now {α : Type} {P : α → Prop} {r : α} (h : P r) : Evs (fun _ => some r) P := ⟨r, 0, h, fun _ _ => rfl⟩
theorem Evs.bnd {α β : Type} {g : Nat → Option α} {f : Nat → α → Option β} {P : α → Prop} {Q : β → Prop} (h : Evs g P) (k : ∀ a, P a → Evs (fun n => f n a) Q) : Evs (fun n => (g n).bind (f n)) Q := by
  obtain ⟨a, K, hP, h⟩ := h
  obtain ⟨r, K', hQ, k⟩ := k a hP
  refine ⟨r, max K K', hQ, fun n hn => ?_⟩
  show (g n).bind (f n) = some r
  rw [h n (by omega)]
  exact k n (by omega)
theorem Evs.step {α : Type} {g f : Nat → Option α} {P : α → Prop} (h : ∀ k, g (k + 1) = f k) (k : Evs f P) : Evs g P := by
  obtain ⟨r, K, hP, k⟩ := k
  refine ⟨r, K + 1, hP, fun n hn => ?_⟩
  obtain ⟨m, rfl⟩ : ∃ m, n = m + 1 := ⟨n - 1, by omega⟩
  rw [h]
  exact k m (by omega)
theorem Evs.cong {α : Type} {g f : Nat → Option α} {P : α → Prop} (h : ∀ k, g k = f k) (k : Evs f P) : Evs g P := by
  obtain ⟨r, K, hP, k⟩ := k
  exact ⟨r, K, hP, fun n hn => (h n).trans (k n hn)⟩
theorem Evs.imp {α : Type} {g : Nat → Option α} {P Q : α → Prop} (h : Evs g P) (hq : ∀ r, P r → Q r) : Evs g Q := by
  obtain ⟨r, K, hP, k⟩ := h
  exact ⟨r, K, hq r hP, k⟩
theorem Evs.of {α : Type} {g : Nat → Option α} {r : α} (K : Nat) (h : ∀ k, K ≤ k → g k = some r) : Evs g (fun q => q = r) := ⟨r, K, rfl, h⟩
theorem Evs.ends {α : Type} {g : Nat → Option α} {r : α} (h : Evs g (fun q => q = r)) : ∃ k, g k = some r := by
  obtain ⟨q, K, rfl, k⟩ := h
  exact ⟨K, k K (Nat.le_refl _)⟩
theorem Evs.pos {α : Type} {g f : Nat → Option α} {c : Prop} [Decidable c] {P : α → Prop} (hc : c) (h : Evs g P) : Evs (fun k => if c then g k else f k) P := h.cong (fun k => if_pos hc)
theorem Evs.neg {α : Type} {g f : Nat → Option α} {c : Prop} [Decidable c] {P : α → Prop} (hc : ¬ c) (h : Evs f P) : Evs (fun k => if c then g k else f k) P := h.cong (fun k => if_neg hc)
theorem Evs.ite {α : Type} {g f : Nat → Option α} {c : Prop} [Decidable c] {P : α → Prop} (h : c → Evs g P) (h' : ¬ c → Evs f P) : Evs (fun k => if c then g k else f k) P := by
  by_cases hc : c
  · exact Evs.pos hc (h hc)
  · exact Evs.neg hc (h' hc)
/-- A loop that counts up. -/
theorem Evs.up {σ ρ : Type} (E : Nat → σ → Int → Option ρ) (n : Nat) (Inv : Nat → σ → Prop) (Post : ρ → Prop)
    (hs : ∀ s (i : Nat), i < n → Inv i s → (∀ s', Inv (i + 1) s' → Evs (fun k => E k s' ((i : Int) + 1)) Post) → Evs (fun k => E k s (i : Int)) Post)
    (he : ∀ s, Inv n s → Evs (fun k => E k s (n : Int)) Post) : ∀ s, Inv 0 s → Evs (fun k => E k s 0) Post := by
  have key : ∀ (d i : Nat) (s : σ), n - i = d → i ≤ n → Inv i s → Evs (fun k => E k s (i : Int)) Post := by
    intro d
    induction d with
    | zero =>
      intro i s hd hi hI
      obtain rfl : i = n := by omega
      exact he s hI
    | succ d ih =>
      intro i s hd hi hI
      exact hs s i (by omega) hI (fun s' hI' => by simpa using ih (i + 1) s' (by omega) (by omega) hI')
  intro s hI
  simpa using key n 0 s (by omega) (by omega) hI

theorem pp_getD {α : Type} (l : List α) (i : Nat) (z : α) (h : i < l.length) : l.getD (i : Int).toNat z = l[i] := by
  simp [List.getD_eq_getElem?_getD, List.getElem?_eq_getElem h]
/-- What a reader reads: bytes, no more than 2000. -/
def ppRd (l : List Int) : Prop := l.length ≤ 2000 ∧ ∀ x ∈ l, 0 ≤ x ∧ x ≤ 255
theorem pp_u8 (l : List Int) (h : ∀ x ∈ l, (Lit.int .u8 x).wf = true) : ∀ x ∈ l, 0 ≤ x ∧ x ≤ 255 := by
  intro x hx
  have := h x hx
  simp [Lit.wf, IntKind.min, IntKind.max, IntKind.signed, IntKind.bits] at this
  omega
theorem pp_rdb (l : List Int) (h : ∀ x ∈ l, 0 ≤ x ∧ x ≤ 255) (i : Int) : 0 ≤ rd l i ∧ rd l i ≤ 255 := by
  unfold rd
  rw [List.getD_eq_getElem?_getD]
  cases e : l[i.toNat]? with
  | none => simp
  | some v => exact h v (List.mem_of_getElem? e)
theorem pp_open (l : List Int) (h : ∀ x ∈ l, (Lit.int .u8 x).wf = true) : ∃ b, spec_l20Open.f l = some (b, 0) ∧ ppRd b := by
  unfold spec_l20Open.f
  by_cases hl : (l.length : Int) > 2000
  · rw [if_pos hl, if_pos (by omega)]
    exact ⟨_, rfl, by rw [List.length_take]; omega, fun x hx => pp_u8 l h x (List.mem_of_mem_take hx)⟩
  · rw [if_neg hl]
    exact ⟨_, rfl, by omega, pp_u8 l h⟩
theorem pp_xor (x y : Int) (hx : 0 ≤ x) (hy : 0 ≤ y) (hx' : x < 4611686018427387904) (hy' : y < 4611686018427387904) : 0 ≤ Go.bits .xor .i64 x y ∧ Go.bits .xor .i64 x y < 4611686018427387904 := by
  obtain ⟨a, rfl⟩ : ∃ a : Nat, x = a := ⟨x.toNat, by omega⟩
  obtain ⟨b, rfl⟩ : ∃ b : Nat, y = b := ⟨y.toNat, by omega⟩
  have ha : a % 2 ^ 64 = a := Nat.mod_eq_of_lt (by omega)
  have hb : b % 2 ^ 64 = b := Nat.mod_eq_of_lt (by omega)
  have hlt : a ^^^ b < 2 ^ 62 := Nat.xor_lt_two_pow (by omega) (by omega)
  have e : Go.bits .xor .i64 (a : Int) (b : Int) = IntKind.i64.wrap ((a ^^^ b : Nat) : Int) := by
    have q : (BitVec.ofNat 64 a ^^^ BitVec.ofNat 64 b).toNat = a ^^^ b := by rw [BitVec.toNat_xor, BitVec.toNat_ofNat, BitVec.toNat_ofNat, ha, hb]
    simp only [Go.bits, BitVec.ofInt_natCast, IntKind.bits]
    exact congrArg (fun z : Nat => IntKind.i64.wrap (z : Int)) q
  rw [e, IntKind.wrap_i64]
  omega
theorem pp_pick (l : List Int) (h : ppRd l) (p n : Int) (hp : 0 ≤ p) (hp' : p ≤ 1000000000) (hn : n ≤ 1000000) :
    Evs (fun k => spec_l20Rd_pick.f k l p n) (fun r => r.2 = p + 1 ∧ 0 ≤ r.1 ∧ (n < 1 → r.1 = 0) ∧ (1 ≤ n → r.1 < n)) := by
  obtain ⟨hl, hb⟩ := h
  have e1 : wrap64 (p + 1) = p + 1 := pp_wrap_id _ (by omega) (by omega)
  have e2 : wrap64 (p + 1 - 1) = p := by rw [show p + 1 - 1 = p by omega]; exact pp_wrap_id _ (by omega) (by omega)
  unfold spec_l20Rd_pick.f
  rw [e1]
  by_cases h1 : n < 1
  · refine Evs.cong (fun k => if_pos h1) (Evs.step (f := fun _ => some (0, p + 1)) (fun k => by simp only [spec_l20Rd_pick.j0, if_true]) (Evs.now ⟨rfl, by simp, fun _ => rfl, fun h => by omega⟩))
  · refine Evs.cong (fun k => if_neg h1) ?_
    by_cases h0 : l.length = 0
    · refine Evs.step (f := fun _ => some (0, p + 1)) (fun k => by simp only [spec_l20Rd_pick.j0]; rw [if_pos (by simp [h0])]) (Evs.now ⟨rfl, by simp, fun _ => rfl, fun h => by simp; omega⟩)
    · have hne : (((l.length : Int) == 0) = true) = False := by
        have : l ≠ [] := fun e => h0 (by rw [e]; rfl)
        simpa using this
      by_cases hlt : p < (l.length : Int)
      · have hr := pp_rdb l hb p
        have hm := Int.emod_nonneg (rd l p) (show n ≠ 0 by omega)
        have hm' := Int.emod_lt_of_pos (rd l p) (show 0 < n by omega)
        refine Evs.step (f := fun _ => some (Int.tmod (rd l p) n, p + 1)) (fun k => by
          simp only [spec_l20Rd_pick.j0, e2, hne, if_false]
          rw [if_pos hlt, if_pos hp, if_neg (show ¬ n = 0 by omega), pp_wrap_id (rd l p) (by omega) (by omega)]) (Evs.now ⟨rfl, ?_, fun h => absurd h h1, fun _ => ?_⟩)
        · simp only [Int.tmod_eq_emod_of_nonneg hr.1]; exact hm
        · simp only [Int.tmod_eq_emod_of_nonneg hr.1]; exact hm'
      · have hL : (0 : Int) < (l.length : Int) := by omega
        have ei : Int.tmod p (l.length : Int) = p % (l.length : Int) := Int.tmod_eq_emod_of_nonneg hp
        have ed : Int.tdiv p (l.length : Int) = p / (l.length : Int) := Int.tdiv_eq_ediv_of_nonneg hp
        have i0 := Int.emod_nonneg p (show (l.length : Int) ≠ 0 by omega)
        have i1 := Int.emod_lt_of_pos p hL
        have d0 : 0 ≤ p / (l.length : Int) := Int.ediv_nonneg hp (by omega)
        have d1 : p / (l.length : Int) ≤ p := Int.ediv_le_self _ hp
        have e7 : wrap64 (wrap64 (p * 7) + 3) = p * 7 + 3 := by rw [pp_wrap_id (p * 7) (by omega) (by omega), pp_wrap_id _ (by omega) (by omega)]
        have ej : Int.tmod (p * 7 + 3) (l.length : Int) = (p * 7 + 3) % (l.length : Int) := Int.tmod_eq_emod_of_nonneg (by omega)
        have j0 := Int.emod_nonneg (p * 7 + 3) (show (l.length : Int) ≠ 0 by omega)
        have j1 := Int.emod_lt_of_pos (p * 7 + 3) hL
        obtain ⟨u, hu⟩ : ∃ u, u = rd l (p % (l.length : Int)) := ⟨_, rfl⟩
        obtain ⟨v, hv⟩ : ∃ v, v = rd l ((p * 7 + 3) % (l.length : Int)) := ⟨_, rfl⟩
        have hu' : 0 ≤ u ∧ u ≤ 255 := by rw [hu]; exact pp_rdb l hb _
        have hv' : 0 ≤ v ∧ v ≤ 255 := by rw [hv]; exact pp_rdb l hb _
        obtain ⟨dq, hdq⟩ : ∃ dq, dq = p / (l.length : Int) := ⟨_, rfl⟩
        rw [← hdq] at d0 d1
        have w1 : wrap64 u = u := pp_wrap_id _ (by omega) (by omega)
        have w2 : wrap64 (u * 131) = u * 131 := pp_wrap_id _ (by omega) (by omega)
        have w3 : wrap64 v = v := pp_wrap_id _ (by omega) (by omega)
        have w4 : wrap64 (v * 1117) = v * 1117 := pp_wrap_id _ (by omega) (by omega)
        have w5 : wrap64 (u * 131 + v * 1117) = u * 131 + v * 1117 := pp_wrap_id _ (by omega) (by omega)
        have w6 : wrap64 (p * 29) = p * 29 := pp_wrap_id _ (by omega) (by omega)
        have w7 : wrap64 (u * 131 + v * 1117 + p * 29) = u * 131 + v * 1117 + p * 29 := pp_wrap_id _ (by omega) (by omega)
        have w8 : wrap64 dq = dq := pp_wrap_id _ (by omega) (by omega)
        have w9 : wrap64 (dq * 53) = dq * 53 := pp_wrap_id _ (by omega) (by omega)
        have wa : wrap64 (u * 131 + v * 1117 + p * 29 + dq * 53) = u * 131 + v * 1117 + p * 29 + dq * 53 := pp_wrap_id _ (by omega) (by omega)
        obtain ⟨x, hx⟩ : ∃ x, x = u * 131 + v * 1117 + p * 29 + dq * 53 := ⟨_, rfl⟩
        have x0 : 0 ≤ x := by omega
        have x1 : x < 4611686018427387904 := by omega
        have wx : wrap64 x = x := pp_wrap_id _ (by omega) (by omega)
        have ex : Int.tdiv x 64 = x / 64 := Int.tdiv_eq_ediv_of_nonneg x0
        have wb : wrap64 (x / 64) = x / 64 := pp_wrap_id _ (by omega) (by omega)
        have hz := pp_xor x (x / 64) x0 (by omega) x1 (by omega)
        have hm := Int.emod_nonneg (Go.bits .xor .i64 x (x / 64)) (show n ≠ 0 by omega)
        have hm' := Int.emod_lt_of_pos (Go.bits .xor .i64 x (x / 64)) (show 0 < n by omega)
        refine Evs.step (f := fun _ => some (Int.tmod (Go.bits .xor .i64 x (x / 64)) n, p + 1)) (fun k => by
          simp only [spec_l20Rd_pick.j0, e2, hne, if_false, ei, ed, e7, ej, ← hu, ← hv, ← hdq, w1, w2, w3, w4, w5, w6, w7, w8, w9, wa, ← hx, wx, ex, wb]
          rw [if_neg hlt, if_neg (by omega), if_pos i0, if_pos i1, if_pos j0, if_pos j1, if_neg (by omega)]) (Evs.now ⟨rfl, ?_, fun h => absurd h h1, fun _ => ?_⟩)
        · simp only [Int.tmod_eq_emod_of_nonneg hz.1]; exact hm
        · simp only [Int.tmod_eq_emod_of_nonneg hz.1]; exact hm'

theorem pp_brd_j1 (l : List Int) (h : ppRd l) (n p s w : Int) (hn : n ≤ 1000000) (hp : 0 ≤ p) (hp' : p ≤ 900000000) (hs : -1 ≤ s ∧ s ≤ 5) (hw : -1 ≤ w ∧ w ≤ 4) :
    Evs (fun k => spec_l20Brd.j1 k n l p s w) (fun r => (-1 ≤ r.1 ∧ r.1 ≤ 5) ∧ (-1 ≤ r.2.1 ∧ r.2.1 ≤ 4) ∧ p ≤ r.2.2 ∧ r.2.2 ≤ p + 3) := by
  refine Evs.step (fun k => by simp only [spec_l20Brd.j1]; try rfl) ?_
  refine Evs.bnd (pp_pick l h p n hp (by omega) (by omega)) ?_
  rintro ⟨v, q⟩ ⟨hq, h0, _, _⟩
  simp only at hq h0 ⊢
  refine Evs.ite (fun _ => ?_) (fun _ => Evs.now ⟨hs, hw, by simp only; omega, by simp only; omega⟩)
  refine Evs.bnd (pp_pick l h q 2 (by omega) (by omega) (by omega)) ?_
  rintro ⟨v2, q2⟩ ⟨hq2, h02, _, _⟩
  simp only at hq2 h02 ⊢
  refine Evs.ite (fun _ => ?_) (fun _ => ?_)
  · simp only [Option.bind_some]
    refine Evs.bnd (pp_pick l h q2 3 (by omega) (by omega) (by omega)) ?_
    rintro ⟨v3, q3⟩ ⟨hq3, h03, _, h13⟩
    simp only at hq3 h03 h13 ⊢
    have h13 := h13 (by omega)
    refine Evs.pos h03 (Evs.pos (by simp; omega) (Evs.now ⟨?_, hw, by simp only; omega, by simp only; omega⟩))
    have : v3 = 0 ∨ v3 = 1 ∨ v3 = 2 := by omega
    rcases this with rfl | rfl | rfl <;> simp [rd]
  · simp only [Option.bind_some]
    refine Evs.bnd (pp_pick l h q2 4 (by omega) (by omega) (by omega)) ?_
    rintro ⟨v3, q3⟩ ⟨hq3, h03, _, h13⟩
    simp only at hq3 h03 h13 ⊢
    have h13 := h13 (by omega)
    refine Evs.pos h03 (Evs.pos (by simp; omega) (Evs.now ⟨hs, ?_, by simp only; omega, by simp only; omega⟩))
    have : v3 = 0 ∨ v3 = 1 ∨ v3 = 2 ∨ v3 = 3 := by omega
    rcases this with rfl | rfl | rfl | rfl <;> simp [rd]
theorem pp_brd (l : List Int) (h : ppRd l) (n p : Int) (hn : n ≤ 1000000) (hp : 0 ≤ p) (hp' : p ≤ 800000000) :
    Evs (fun k => spec_l20Brd.f k l p n) (fun r => (-1 ≤ r.1 ∧ r.1 ≤ 5) ∧ (-1 ≤ r.2.1 ∧ r.2.1 ≤ 4) ∧ p ≤ r.2.2 ∧ r.2.2 ≤ p + 6) := by
  have two : ∀ q, p ≤ q → q ≤ p + 1 → Evs (fun k => (spec_l20Rd_pick.f k l q 3).bind fun a => (spec_l20Rd_pick.f k l a.2 3).bind fun b => spec_l20Brd.j1 k n l b.2 (wrap64 (1 + a.1)) (wrap64 (1 + b.1))) (fun r => (-1 ≤ r.1 ∧ r.1 ≤ 5) ∧ (-1 ≤ r.2.1 ∧ r.2.1 ≤ 4) ∧ p ≤ r.2.2 ∧ r.2.2 ≤ p + 6) := by
    intro q hq0 hq1
    refine Evs.bnd (pp_pick l h q 3 (by omega) (by omega) (by omega)) ?_
    rintro ⟨v2, q2⟩ ⟨hq2, h02, _, h12⟩
    simp only at hq2 h02 h12 ⊢
    have h12 := h12 (by omega)
    refine Evs.bnd (pp_pick l h q2 3 (by omega) (by omega) (by omega)) ?_
    rintro ⟨v3, q3⟩ ⟨hq3, h03, _, h13⟩
    simp only at hq3 h03 h13 ⊢
    have h13 := h13 (by omega)
    rw [pp_wrap_id (1 + v2) (by omega) (by omega), pp_wrap_id (1 + v3) (by omega) (by omega)]
    exact (pp_brd_j1 l h n q3 _ _ hn (by omega) (by omega) ⟨by omega, by omega⟩ ⟨by omega, by omega⟩).imp fun r ⟨a, b, c, d⟩ => ⟨a, b, by omega, by omega⟩
  unfold spec_l20Brd.f
  refine Evs.bnd (pp_pick l h p 4 hp (by omega) (by omega)) ?_
  rintro ⟨v, q⟩ ⟨hq, h0, _, h1⟩
  simp only at hq h0 h1 ⊢
  refine Evs.ite (fun hv => ?_) (fun hv => ?_)
  · refine Evs.step (fun k => by simp only [spec_l20Brd.j0]; rw [if_pos (by simp [hv])]; try rfl) ?_
    exact two q (by omega) (by omega)
  · by_cases hv1 : v = 1
    · refine Evs.step (fun k => by simp only [spec_l20Brd.j0]; rw [if_pos (by simp [hv1])]; try rfl) ?_
      exact two q (by omega) (by omega)
    · refine Evs.step (fun k => by simp only [spec_l20Brd.j0]; rw [if_neg (by simp [hv1])]; try rfl) ?_
      refine Evs.ite (fun _ => ?_) (fun _ => (pp_brd_j1 l h n q 0 0 hn (by omega) (by omega) ⟨by omega, by omega⟩ ⟨by omega, by omega⟩).imp fun r ⟨a, b, c, d⟩ => ⟨a, b, by omega, by omega⟩)
      refine Evs.bnd (pp_pick l h q 3 (by omega) (by omega) (by omega)) ?_
      rintro ⟨v2, q2⟩ ⟨hq2, h02, _, h12⟩
      simp only at hq2 h02 h12 ⊢
      refine Evs.ite (fun _ => ?_) (fun _ => ?_)
      · exact (pp_brd_j1 l h n q2 _ _ hn (by omega) (by omega) ⟨by omega, by omega⟩ ⟨by omega, by omega⟩).imp fun r ⟨a, b, c, d⟩ => ⟨a, b, by omega, by omega⟩
      · exact (pp_brd_j1 l h n q2 _ _ hn (by omega) (by omega) ⟨by omega, by omega⟩ ⟨by omega, by omega⟩).imp fun r ⟨a, b, c, d⟩ => ⟨a, b, by omega, by omega⟩

theorem pp_join (x y : ByteArray) (hx : x.size ≤ 30) (hy : y.size ≤ 10) : (ppJoin x y).size ≤ 30 := by
  unfold ppJoin
  split
  · omega
  · split
    · rename_i h
      rw [ByteArray.size_append, ByteArray.size_append]
      have : (⟨#[32]⟩ : ByteArray).size = 1 := rfl
      omega
    · exact hx
theorem pp_text_l (l : List Int) (h : ppRd l) : ∀ (n : Nat) (x : ByteArray) (p : Int), x.size ≤ 30 → 0 ≤ p → p + n ≤ 800000000 → n ≤ 10 → Evs (fun k => spec_l20Text.l k l n x p) (fun r => r.1.size ≤ 30 ∧ p ≤ r.2 ∧ r.2 ≤ p + n)
  | 0, x, p, hx, hp, hp', hn => Evs.cong (f := fun _ => some (x, p)) (fun _ => rfl) (Evs.now ⟨hx, by simp, by simp⟩)
  | n + 1, x, p, hx, hp, hp', hn => by
    unfold spec_l20Text.l
    refine Evs.bnd (pp_pick l h p 7 hp (by omega) (by omega)) ?_
    rintro ⟨v, q⟩ ⟨hq, h0, _, h1⟩
    simp only at hq h0 h1 ⊢
    have h1 := h1 (by omega)
    refine Evs.pos ⟨h0, h1, hx⟩ ((pp_text_l l h n _ q (pp_join _ _ hx (ppW7_size _)) (by omega) (by omega) (by omega)).imp fun r ⟨a, b, c⟩ => ⟨a, by omega, by omega⟩)
theorem pp_text (l : List Int) (h : ppRd l) (p : Int) (hp : 0 ≤ p) (hp' : p ≤ 700000000) : Evs (fun k => spec_l20Text.f k l p) (fun r => r.1.size ≤ 30 ∧ p ≤ r.2 ∧ r.2 ≤ p + 6) := by
  unfold spec_l20Text.f
  refine Evs.bnd (pp_pick l h p 6 hp (by omega) (by omega)) ?_
  rintro ⟨v, q⟩ ⟨hq, h0, _, h1⟩
  simp only at hq h0 h1 ⊢
  have h1 := h1 (by omega)
  refine Evs.pos ⟨h0, by omega⟩ ((pp_text_l l h v.toNat ⟨#[]⟩ q (by decide) (by omega) (by omega) (by omega)).imp fun r ⟨a, b, c⟩ => ⟨a, by omega, by omega⟩)
/-- A small letter. -/
def ppLow (c : UInt8) : Bool := decide (97 ≤ c.toNat ∧ c.toNat ≤ 122)
/-- A text, byte by byte; b: its beginning or a blank stands ahead. -/
def ppOkL : Bool → List UInt8 → Bool
  | b, [] => !b
  | b, c :: r => if c = 32 then !b && ppOkL true r else ppLow c && ppOkL false r
/-- Whether a text is ok. -/
def ppTxtB (x : ByteArray) : Bool := decide (x.size ≤ 30) && (decide (x.size = 0) || ppOkL true x.data.toList)
/-- A text's pieces between its blanks. -/
def ppPcs : List UInt8 → List (List UInt8)
  | [] => [[]]
  | c :: r => if c = 32 then [] :: ppPcs r else match ppPcs r with
    | h :: t => (c :: h) :: t
    | [] => [[c]]
theorem ppPcs_split : ∀ l : List UInt8, Lib.splitK [32] 0 (Lib.count l [32]) l = ppPcs l
  | [] => by rw [Lib.count_one]; rfl
  | c :: r => by
    have ih := ppPcs_split r
    by_cases h : c = 32
    · subst h
      rw [Lib.count_cons_eq, Nat.add_comm]
      have hix : Lib.index (32 :: r) [32] = 0 := by rw [Lib.index]; simp [List.isPrefixOf]
      unfold Lib.splitK ppPcs
      rw [hix, if_neg (by decide), if_pos rfl, ← ih]
      simp
    · rw [Lib.count_cons_ne c 32 r h]
      have hp : ([32] : List UInt8).isPrefixOf (c :: r) = false := by simp [List.isPrefixOf, Ne.symm h]
      have hix : Lib.index (c :: r) [32] = if Lib.index r [32] == -1 then -1 else Lib.index r [32] + 1 := by rw [Lib.index, hp]; simp
      unfold ppPcs
      rw [if_neg h, ← ih]
      by_cases hm : Lib.index r [32] = -1
      · rw [Lib.count_miss hm]
        rfl
      · have hge := Lib.index_ge r [32]
        obtain ⟨j, hj⟩ : ∃ j : Nat, Lib.index r [32] = j := ⟨(Lib.index r [32]).toNat, by omega⟩
        have hc := Lib.count_hit (s := r) (sub := [32]) (by simp) hj
        rw [hc, Nat.add_comm]
        have e1 : ¬ ((j : Int) == -1) = true := fun e => by have := beq_iff_eq.1 e; omega
        have e2 : ¬ ((j : Int) + 1 == -1) = true := fun e => by have := beq_iff_eq.1 e; omega
        have e3 : ((j : Int) + 1).toNat = j + 1 := by omega
        unfold Lib.splitK
        rw [hix, hj, if_neg e1, if_neg e2, if_neg e1, e3]
        simp
def ppWordL (x : List UInt8) : Bool := !x.isEmpty && x.all ppLow
theorem ppPcs_ok : ∀ (l : List UInt8) (b : Bool), ∃ h t, ppPcs l = h :: t ∧ ppOkL b l = ((!(b && h.isEmpty)) && h.all ppLow && t.all ppWordL)
  | [], b => ⟨[], [], rfl, by cases b <;> rfl⟩
  | c :: r, b => by
    by_cases h : c = 32
    · obtain ⟨h', t', e, q⟩ := ppPcs_ok r true
      refine ⟨[], h' :: t', by unfold ppPcs; rw [if_pos h, e], ?_⟩
      unfold ppOkL
      rw [if_pos h, q]
      simp only [List.all_cons, ppWordL, List.isEmpty_nil, List.all_nil, Bool.and_true, Bool.true_and]
    · obtain ⟨h', t', e, q⟩ := ppPcs_ok r false
      refine ⟨c :: h', t', by unfold ppPcs; rw [if_neg h, e], ?_⟩
      unfold ppOkL
      rw [if_neg h, q]
      simp only [List.all_cons, List.isEmpty_cons, Bool.and_false, Bool.not_false, Bool.false_and, Bool.true_and, Bool.and_assoc]
theorem ppPcs_all (l : List UInt8) : (ppPcs l).all ppWordL = ppOkL true l := by
  obtain ⟨h, t, e, q⟩ := ppPcs_ok l true
  rw [e, q]
  simp only [List.all_cons, ppWordL, Bool.true_and]
theorem ppAz_low : ∀ c : UInt8, Txt.ppAz.contains c = ppLow c := by
  have h : ∀ n : Fin 256, Txt.ppAz.contains (UInt8.ofNat n.val) = ppLow (UInt8.ofNat n.val) := by decide +kernel
  intro c
  have := h ⟨c.toNat, c.toNat_lt⟩
  simpa using this
theorem ppDrop_head {α : Type} (p : α → Bool) : ∀ (l : List α) (a : α) (t : List α), l.dropWhile p = a :: t → p a = false
  | [], _, _, h => by simp at h
  | b :: r, a, t, h => by
    rw [List.dropWhile_cons] at h
    by_cases hb : p b = true
    · rw [if_pos hb] at h
      exact ppDrop_head p r a t h
    · rw [if_neg hb] at h
      injection h with h1 h2
      rw [← h1]
      simpa using hb
theorem ppDrop_nil {α : Type} (p : α → Bool) : ∀ l : List α, l.dropWhile p = [] ↔ ∀ x ∈ l, p x = true
  | [] => by simp
  | b :: r => by
    rw [List.dropWhile_cons]
    by_cases hb : p b = true
    · rw [if_pos hb, ppDrop_nil p r]
      simp [hb]
    · rw [if_neg hb]
      simp [hb]
theorem ppTrim_nil (l cs : List UInt8) : (Lib.trimS l cs).isEmpty = l.all (cs.contains ·) := by
  have hall : (Lib.trimS l cs) = [] ↔ ∀ x ∈ l, cs.contains x = true := by
    unfold Lib.trimS Lib.trimLeftS Lib.trimRightS
    cases hy : l.reverse.dropWhile (cs.contains ·) with
    | nil =>
      have h2 := (ppDrop_nil _ _).1 hy
      exact ⟨fun _ x hx => h2 x (List.mem_reverse.2 hx), fun _ => rfl⟩
    | cons a t =>
      have ha := ppDrop_head _ _ _ _ hy
      have hm : a ∈ l := List.mem_reverse.1 ((List.dropWhile_suffix _).subset (hy ▸ List.mem_cons_self))
      refine ⟨fun h => ?_, fun h => ?_⟩
      · have := (ppDrop_nil _ _).1 h a (by simp)
        rw [this] at ha
        cases ha
      · have := h a hm
        rw [this] at ha
        cases ha
  rw [Bool.eq_iff_iff, List.isEmpty_iff, hall, List.all_eq_true]
theorem ppWord_eq (x : ByteArray) : Txt.ppWordOk x = ppWordL x.data.toList := by
  unfold Txt.ppWordOk ppWordL Txt.ppRest
  rw [Lib.toList_data, Lib.toList_data]
  have e : ∀ l : List UInt8, (⟨l.toArray⟩ : ByteArray).data.toList = l := fun l => by simp
  rw [e, ppTrim_nil]
  congr 1
  exact List.all_congr rfl (fun c => ppAz_low c)
theorem ppTxt_eq (x : ByteArray) : Txt.ppTxtOk x = ppTxtB x := by
  unfold Txt.ppTxtOk ppTxtB
  have hw : (Txt.ppWords x).all Txt.ppWordOk = ppOkL true x.data.toList := by
    have h1 : (Txt.ppWords x).all Txt.ppWordOk = ((Txt.ppWords x).map (·.data.toList)).all ppWordL := by
      rw [List.all_map]
      exact List.all_congr rfl (fun c => ppWord_eq c)
    rw [h1]
    unfold Txt.ppWords
    rw [Lib.splitB_data]
    rw [← ppPcs_all, ← ppPcs_split]
  rw [hw, Lib.toList_data]
  have hs := Lib.size_eq x
  by_cases h0 : x.size = 0
  · have : x.data.toList = [] := List.eq_nil_of_length_eq_zero (by omega)
    rw [this, h0]
    rfl
  · have : x.data.toList.isEmpty = false := by
      rw [List.isEmpty_eq_false_iff]
      intro e
      rw [e] at hs
      exact h0 hs
    rw [this, decide_eq_false h0, Bool.false_or, Bool.false_or, Bool.and_comm]
    congr 1
    exact decide_eq_decide.2 (by omega)
/-- The byte at a place, as a number. -/
theorem pp_bt (x : ByteArray) (i : Nat) (h : i < x.size) : bt x (i : Int) = ((x.data.toList[i]'(by rw [← Lib.size_eq]; exact h)).toNat : Int) := by
  unfold bt
  rw [dif_pos (by simpa using h)]
  congr 2

theorem pp_inS (x c d : Int) : spec_l1In.f x c d = some (decide (c ≤ x ∧ x ≤ d)) := by
  unfold spec_l1In.f
  split
  · congr 1; exact decide_eq_decide.2 (by omega)
  · congr 1; symm; exact decide_eq_false (by omega)
theorem pp_inP (x c d : Int) : impl_in.f x c d = some (decide (c ≤ x ∧ x ≤ d)) := by
  unfold impl_in.f
  split
  · congr 1; exact decide_eq_decide.2 (by omega)
  · congr 1; symm; exact decide_eq_false (by omega)
theorem ppList_getElem {α : Type} (l : List α) (i : Nat) (h : i < l.length) : l.drop i = l[i] :: l.drop (i + 1) := List.drop_eq_getElem_cons h
/-- spec.TxtOk, exactly. -/
theorem pp_txtS (x : ByteArray) : Evs (fun k => spec_TxtOk.f k x) (fun r => r = ppTxtB x) := by
  unfold spec_TxtOk.f
  have hsz := Lib.size_eq x
  refine Evs.ite (fun h => Evs.now ?_) (fun hx => ?_)
  · unfold ppTxtB
    rw [decide_eq_false (by omega)]
    rfl
  have e30 : decide (x.size ≤ 30) = true := decide_eq_true (by omega)
  have loop : ∀ (d i : Nat) (b : Bool), x.size - i = d → i ≤ x.size → (b = true ↔ (i = 0 ∨ bt x ((i : Int) - 1) = 32)) → (i = x.size → 0 < i → b = false) → Evs (fun k => spec_TxtOk.l0 k x (i : Int)) (fun r => r = (decide (i = x.size) || ppOkL b (x.data.toList.drop i))) := by
    intro d
    induction d with
    | zero =>
      intro i b hd hi hb hend
      refine Evs.step (f := fun _ => some true) (fun k => by simp only [spec_TxtOk.l0]; rw [if_neg (by omega)]) (Evs.now ?_)
      rw [decide_eq_true (show i = x.size by omega)]
      rfl
    | succ d ih =>
      intro i b hd hi hb hend
      have hil : i < x.data.toList.length := by omega
      have hbt := pp_bt x i (by omega)
      have hdr := ppList_getElem x.data.toList i hil
      generalize hc : x.data.toList[i] = c at hbt hdr
      have hcn : c.toNat < 256 := c.toNat_lt
      have c32 : c = 32 ↔ (c.toNat : Int) = 32 := by
        constructor
        · intro h; rw [h]; rfl
        · intro h; exact UInt8.toNat_inj.1 (show c.toNat = (32 : UInt8).toNat from by show c.toNat = 32; omega)
      have hne : decide (i = x.size) = false := decide_eq_false (by omega)
      -- behind the first test
      have J : ∀ w, (w = true → (decide (i = x.size) || ppOkL b (x.data.toList.drop i)) = false) → (w = false → c = 32 → b = false ∧ i + 1 < x.size) → Evs (fun k => spec_TxtOk.j1 k x (i : Int) w) (fun r => r = (decide (i = x.size) || ppOkL b (x.data.toList.drop i))) := by
        intro w hw1 hw2
        refine Evs.step (fun k => by simp only [spec_TxtOk.j1]; rfl) ?_
        refine Evs.ite (fun hw => Evs.now (hw1 hw).symm) (fun hw => Evs.pos (by omega) (Evs.pos (by omega) ?_))
        have hw : w = false := by simpa using hw
        rw [hbt, pp_wrap_id ((i : Int) + 1) (by omega) (by omega), pp_wrap_id (c.toNat : Int) (by omega) (by omega)]
        rw [hdr, hne]
        unfold ppOkL
        refine Evs.ite (fun h32 => ?_) (fun h32 => ?_)
        · obtain ⟨hb0, hlt⟩ := hw2 hw (c32.2 h32)
          rw [if_pos (c32.2 h32), hb0]
          have n := ih (i + 1) true (by omega) (by omega) ⟨fun _ => .inr (by rw [show (((i + 1 : Nat)) : Int) - 1 = (i : Int) by omega, hbt]; exact h32), fun _ => rfl⟩ (fun h => by omega)
          rw [decide_eq_false (show ¬ i + 1 = x.size by omega)] at n
          exact n
        · rw [if_neg (fun h => h32 (c32.1 h)), pp_inS]
          simp only [Option.bind_some]
          have n := ih (i + 1) false (by omega) (by omega) ⟨fun h => (by cases h), fun h => (by
            rcases h with h | h
            · omega
            · rw [show (((i + 1 : Nat)) : Int) - 1 = (i : Int) by omega, hbt] at h
              exact absurd h h32)⟩ (fun _ _ => rfl)
          refine Evs.ite (fun hin => ?_) (fun hin => Evs.now ?_)
          · have hin := of_decide_eq_true hin
            refine n.imp fun r hr => ?_
            rw [hr]
            have hl : ppLow c = true := decide_eq_true (by omega)
            rw [hl]
            by_cases he : i + 1 = x.size
            · rw [decide_eq_true he, List.drop_of_length_le (by omega)]
              rfl
            · rw [decide_eq_false he]
              rfl
          · have hin : ¬ (97 ≤ (c.toNat : Int) ∧ (c.toNat : Int) ≤ 122) := fun h => hin (decide_eq_true h)
            have hl : ppLow c = false := decide_eq_false (by omega)
            rw [hl]
            rfl
      refine Evs.step (fun k => by simp only [spec_TxtOk.l0]; rfl) ?_
      refine Evs.pos (by omega) (Evs.pos (by omega) ?_)
      rw [hbt]
      refine Evs.ite (fun h32 => ?_) (fun h32 => J false (fun h => (by cases h)) (fun _ h => absurd (c32.1 h) h32))
      have hpos : ppOkL b (x.data.toList.drop i) = (!b && ppOkL true (x.data.toList.drop (i + 1))) := by
        rw [hdr]
        show (if c = 32 then _ else _) = _
        rw [if_pos (c32.2 h32)]
      refine Evs.ite (fun h0 => J true (fun _ => ?_) (fun h => (by cases h))) (fun h0 => ?_)
      · rw [hne, hpos, hb.2 (.inl (by omega))]
        rfl
      rw [pp_wrap_id ((x.size : Int) - 1) (by omega) (by omega), pp_wrap_id ((i : Int) - 1) (by omega) (by omega)]
      refine Evs.ite (fun h1 => J true (fun _ => ?_) (fun h => (by cases h))) (fun h1 => Evs.pos (by omega) (Evs.pos (by omega) (J _ (fun h => ?_) (fun h _ => ?_))))
      · rw [hne, hpos, List.drop_of_length_le (show x.data.toList.length ≤ i + 1 by omega)]
        simp [ppOkL]
      · rw [hne, hpos, hb.2 (.inr (by simpa using h))]
        rfl
      · refine ⟨?_, by omega⟩
        rw [← Bool.not_eq_true]
        intro hbt'
        rcases hb.1 hbt' with h' | h'
        · omega
        · rw [h'] at h
          simp at h
  refine (loop _ 0 true rfl (by omega) ⟨fun _ => .inl rfl, fun _ => rfl⟩ (fun _ h => absurd h (Nat.lt_irrefl _))).imp fun r hr => ?_
  rw [hr]
  unfold ppTxtB
  rw [e30, List.drop_zero, Bool.true_and]
  congr 1
  exact decide_eq_decide.2 ⟨fun h => h.symm, fun h => h.symm⟩
def ppBrdB (a b : Int) : Bool := decide ((a = 0 ∨ a = 4) ∧ b = 0 ∨ (1 ≤ a ∧ a ≤ 3) ∧ 1 ≤ b ∧ b ≤ 3)
theorem pp_brdS (a b : Int) : Evs (fun k => spec_BrdOk.f k a b) (fun r => r = ppBrdB a b) := by
  have J : ∀ w, (w = true ↔ (a = 0 ∨ a = 4)) → Evs (fun k => spec_BrdOk.j0 k w a b) (fun r => r = ppBrdB a b) := by
    intro w hw
    refine Evs.step (fun k => by simp only [spec_BrdOk.j0]; rfl) ?_
    unfold ppBrdB
    refine Evs.ite (fun h => Evs.now ?_) (fun h => ?_)
    · have := hw.1 h
      rw [show (b == 0) = decide (b = 0) from rfl]
      exact decide_eq_decide.2 (by omega)
    · have : ¬ (a = 0 ∨ a = 4) := fun q => h (hw.2 q)
      rw [pp_inS, pp_inS]
      simp only [Option.bind_some]
      refine Evs.ite (fun h1 => Evs.now ?_) (fun h1 => Evs.now ?_)
      · have h1 := of_decide_eq_true h1
        exact decide_eq_decide.2 (by omega)
      · have h1 : ¬ (1 ≤ a ∧ a ≤ 3) := fun q => h1 (decide_eq_true q)
        exact (decide_eq_false (by omega)).symm
  unfold spec_BrdOk.f
  exact Evs.ite (fun h => J true (by simp [h])) (fun h => J _ (by simp [h]))
theorem pp_brdP (a b : Int) : impl_BrdOk.f a b = some (ppBrdB a b) := by
  unfold impl_BrdOk.f impl_BrdLine_drawn.f ppBrdB
  rw [pp_inP, pp_inP]
  simp only [Option.bind_some]
  by_cases h : 1 ≤ a ∧ a ≤ 3
  · rw [decide_eq_true h, if_pos rfl]
    congr 1
    exact decide_eq_decide.2 (by omega)
  · rw [decide_eq_false h, if_neg (by decide)]
    by_cases h0 : a = 0
    · rw [if_pos h0]
      congr 1
      rw [show (b == 0) = decide (b = 0) from rfl]
      exact decide_eq_decide.2 (by omega)
    · rw [if_neg h0]
      by_cases h4 : a = 4
      · rw [if_pos h4]
        congr 1
        rw [show (b == 0) = decide (b = 0) from rfl]
        exact decide_eq_decide.2 (by omega)
      · rw [if_neg h4]
        congr 1
        exact (decide_eq_false (by omega)).symm
/-- Whether a cell is ok. -/
def ppCellB (x : S37) : Bool := ppTxtB x.f0 && decide (1 ≤ x.f1 ∧ x.f1 ≤ 4) && decide (1 ≤ x.f2 ∧ x.f2 ≤ 4) && ppBrdB x.f3.f0 x.f3.f1 && ppBrdB x.f4.f0 x.f4.f1 && ppBrdB x.f5.f0 x.f5.f1 && ppBrdB x.f6.f0 x.f6.f1
theorem pp_cellS (x : S37) : Evs (fun k => spec_CellOk.f k x.f0 x.f1 x.f2 x.f3.f0 x.f3.f1 x.f4.f0 x.f4.f1 x.f5.f0 x.f5.f1 x.f6.f0 x.f6.f1) (fun r => r = ppCellB x) := by
  unfold spec_CellOk.f ppCellB
  rw [pp_inS, pp_inS]
  refine Evs.bnd (pp_txtS _) ?_
  rintro _ rfl
  refine Evs.ite (fun h1 => ?_) (fun h1 => Evs.now (by rw [(by simpa using h1 : ppTxtB x.f0 = false)]; simp))
  rw [h1]
  simp only [Option.bind_some]
  refine Evs.ite (fun h2 => ?_) (fun h2 => Evs.now (by rw [Bool.eq_false_iff.2 h2]; simp))
  rw [h2]
  refine Evs.ite (fun h3 => ?_) (fun h3 => Evs.now (by rw [Bool.eq_false_iff.2 h3]; simp))
  rw [h3]
  refine Evs.bnd (pp_brdS _ _) ?_
  rintro _ rfl
  refine Evs.ite (fun h4 => ?_) (fun h4 => Evs.now (by rw [Bool.eq_false_iff.2 h4]; simp))
  rw [h4]
  refine Evs.bnd (pp_brdS _ _) ?_
  rintro _ rfl
  refine Evs.ite (fun h5 => ?_) (fun h5 => Evs.now (by rw [Bool.eq_false_iff.2 h5]; simp))
  rw [h5]
  refine Evs.bnd (pp_brdS _ _) ?_
  rintro _ rfl
  refine Evs.ite (fun h6 => ?_) (fun h6 => Evs.now (by rw [Bool.eq_false_iff.2 h6]; simp))
  rw [h6]
  refine Evs.bnd (pp_brdS _ _) ?_
  rintro _ rfl
  exact Evs.now (by simp)
theorem pp_cellP (x : S37) (hs : x.f0.size < 4294967281) : impl_CellOk.f x.f0 x.f1 x.f2 x.f3.f0 x.f3.f1 x.f4.f0 x.f4.f1 x.f5.f0 x.f5.f1 x.f6.f0 x.f6.f1 = some (ppCellB x) := by
  unfold impl_CellOk.f impl_TxtOk.f ppCellB
  rw [if_pos hs, ppTxt_eq, pp_inP, pp_inP, pp_brdP, pp_brdP, pp_brdP, pp_brdP]
  simp only [Option.bind_some]
  cases ppTxtB x.f0 <;> cases decide (1 ≤ x.f1 ∧ x.f1 ≤ 4) <;> cases decide (1 ≤ x.f2 ∧ x.f2 ≤ 4) <;> cases ppBrdB x.f3.f0 x.f3.f1 <;> cases ppBrdB x.f4.f0 x.f4.f1 <;> cases ppBrdB x.f5.f0 x.f5.f1 <;> rfl
def ppColB (x : S59) : Bool := decide (x.f0 = 0 ∧ x.f1 = 0 ∨ x.f0 = 1 ∧ 0 ≤ x.f1 ∧ x.f1 ≤ 60 ∨ x.f0 = 2 ∧ 1 ≤ x.f1 ∧ x.f1 ≤ 100)
theorem pp_colS (x : S59) : spec_l2Col.f x.f0 x.f1 = some (ppColB x) := by
  unfold spec_l2Col.f ppColB
  rw [pp_inS, pp_inS]
  simp only [Option.bind_some]
  repeat' split
  · congr 1; rw [show (x.f1 == 0) = decide (x.f1 = 0) from rfl]; exact decide_eq_decide.2 (by omega)
  · congr 1; exact decide_eq_decide.2 (by omega)
  · congr 1; exact decide_eq_decide.2 (by omega)
  · congr 1; exact (decide_eq_false (by omega)).symm
theorem pp_colP (x : S59) : impl_TblCol_ok.f x.f0 x.f1 = some (ppColB x) := by
  unfold impl_TblCol_ok.f ppColB
  rw [pp_inP, pp_inP]
  simp only [Option.bind_some]
  repeat' split
  · congr 1; rw [show (x.f1 == 0) = decide (x.f1 = 0) from rfl]; exact decide_eq_decide.2 (by omega)
  · congr 1; exact decide_eq_decide.2 (by omega)
  · congr 1; exact decide_eq_decide.2 (by omega)
  · congr 1; exact (decide_eq_false (by omega)).symm
def ppRowB (r : S40) : Bool := decide (r.f0.length ≤ 5) && r.f0.all ppCellB
/-- Whether a table is ok. -/
def ppTblB (cs : List S59) (hd ft : Int) (rs : List S40) (gp : Int) : Bool :=
  decide ((1 ≤ rs.length ∧ rs.length ≤ 8) ∧ cs.length ≤ 8 ∧ (0 ≤ hd ∧ hd ≤ rs.length) ∧ (0 ≤ ft ∧ ft ≤ rs.length - hd) ∧ 0 ≤ gp ∧ gp ≤ 3) && cs.all ppColB && rs.all ppRowB
theorem ppAll_step {α : Type} (p : α → Bool) (l : List α) (i : Nat) (h : i < l.length) (hi : (l.take i).all p = true) : l.all p = (p l[i] && (l.drop (i + 1)).all p) := by
  have e : l = l.take i ++ (l[i] :: l.drop (i + 1)) := by rw [← List.drop_eq_getElem_cons h, List.take_append_drop]
  have : l.all p = ((l.take i).all p && (p l[i] && (l.drop (i + 1)).all p)) := by
    conv => lhs; rw [e]
    rw [List.all_append, List.all_cons]
  rw [this, hi, Bool.true_and]
theorem ppAll_take {α : Type} (p : α → Bool) (l : List α) (i : Nat) (h : i < l.length) (hi : (l.take i).all p = true) (hp : p l[i] = true) : (l.take (i + 1)).all p = true := by
  rw [List.take_succ_eq_append_getElem h, List.all_append, hi]
  simp [hp]
theorem pp_tblS (cs : List S59) (hd ft : Int) (rs : List S40) (gp : Int) : Evs (fun k => spec_TblOk.f k cs hd ft rs gp) (fun r => r = ppTblB cs hd ft rs gp) := by
  generalize hT : ppTblB cs hd ft rs gp = T
  have F : (rs.all ppRowB = false ∨ cs.all ppColB = false) → T = false := by
    intro h
    rw [← hT]
    unfold ppTblB
    rcases h with h | h <;> rw [h] <;> simp
  have L : rs.length ≤ 8 → (cs.all ppColB = true) → (rs.all ppRowB = true → T = true) → ∀ (d i : Nat), rs.length - i = d → i ≤ rs.length → (rs.take i).all ppRowB = true → Evs (fun k => spec_TblOk.l1 k (i : Int) cs hd ft rs gp) (fun r => r = T) := by
    intro h8 hcs hyes d
    induction d with
    | zero =>
      intro i hd' hi hI
      rw [List.take_of_length_le (by omega)] at hI
      exact Evs.step (f := fun _ => some true) (fun k => by simp only [spec_TblOk.l1]; rw [if_neg (by omega)]) (Evs.now (hyes hI).symm)
    | succ d ih =>
      intro i hd' hi hI
      have hil : i < rs.length := by omega
      have hir : rd_T40 rs (i : Int) = rs[i] := pp_getD rs i _ hil
      have hstep := ppAll_step ppRowB rs i hil hI
      refine Evs.step (fun k => by simp only [spec_TblOk.l1]; rfl) ?_
      refine Evs.pos (by omega) (Evs.pos (by omega) ?_)
      rw [hir]
      refine Evs.ite (fun h5 => Evs.now ?_) (fun h5 => ?_)
      · refine (F (.inl ?_)).symm
        rw [hstep]
        unfold ppRowB
        rw [decide_eq_false (by omega)]
        rfl
      have n := fun (hc : rs[i].f0.all ppCellB = true) => ih (i + 1) (by omega) (by omega) (ppAll_take ppRowB rs i hil hI (by unfold ppRowB; rw [hc, decide_eq_true (by omega)]; rfl))
      rw [show (((i + 1 : Nat)) : Int) = wrap64 ((i : Int) + 1) by rw [pp_wrap_id _ (by omega) (by omega)]; rfl] at n
      have M : ∀ (d j : Nat), rs[i].f0.length - j = d → j ≤ rs[i].f0.length → (rs[i].f0.take j).all ppCellB = true → Evs (fun k => spec_TblOk.l2 k (i : Int) (j : Int) cs hd ft rs gp) (fun r => r = T) := by
        intro d
        induction d with
        | zero =>
          intro j hd2 hj hJ
          rw [List.take_of_length_le (by omega)] at hJ
          refine Evs.step (fun k => by simp only [spec_TblOk.l2]; rw [hir]) ?_
          exact Evs.pos (by omega) (Evs.pos (by omega) (Evs.neg (by omega) (n hJ)))
        | succ d ih2 =>
          intro j hd2 hj hJ
          have hjl : j < rs[i].f0.length := by omega
          have hjr : rd_T37 rs[i].f0 (j : Int) = rs[i].f0[j] := pp_getD rs[i].f0 j _ hjl
          refine Evs.step (fun k => by simp only [spec_TblOk.l2]; rw [hir, hjr]) ?_
          refine Evs.pos (by omega) (Evs.pos (by omega) (Evs.pos (by omega) (Evs.pos (by omega) ?_)))
          refine Evs.bnd (pp_cellS _) ?_
          rintro _ rfl
          refine Evs.ite (fun h => ?_) (fun h => Evs.now ?_)
          · have n2 := ih2 (j + 1) (by omega) (by omega) (ppAll_take ppCellB rs[i].f0 j hjl hJ h)
            rw [show (((j + 1 : Nat)) : Int) = wrap64 ((j : Int) + 1) by rw [pp_wrap_id _ (by omega) (by omega)]; rfl] at n2
            exact n2
          · refine (F (.inl ?_)).symm
            rw [hstep]
            unfold ppRowB
            rw [ppAll_step ppCellB rs[i].f0 j hjl hJ, Bool.eq_false_iff.2 h]
            simp
      exact M _ 0 rfl (by omega) rfl
  have K : cs.length ≤ 8 → rs.length ≤ 8 → (cs.all ppColB = true → rs.all ppRowB = true → T = true) → ∀ (d i : Nat), cs.length - i = d → i ≤ cs.length → (cs.take i).all ppColB = true → Evs (fun k => spec_TblOk.l0 k (i : Int) cs hd ft rs gp) (fun r => r = T) := by
    intro h8 h8' hyes d
    induction d with
    | zero =>
      intro i hd' hi hI
      rw [List.take_of_length_le (by omega)] at hI
      exact Evs.step (f := fun k => spec_TblOk.l1 k ((0 : Nat) : Int) cs hd ft rs gp) (fun k => by simp only [spec_TblOk.l0]; rw [if_neg (by omega)]; rfl) (L h8' hI (hyes hI) _ 0 rfl (by omega) rfl)
    | succ d ih =>
      intro i hd' hi hI
      have hil : i < cs.length := by omega
      have hir : rd_T59 cs (i : Int) = cs[i] := pp_getD cs i _ hil
      refine Evs.step (fun k => by simp only [spec_TblOk.l0]; rw [hir, pp_colS]) ?_
      simp only [Option.bind_some]
      refine Evs.pos (by omega) (Evs.pos (by omega) (Evs.ite (fun h => ?_) (fun h => Evs.now ?_)))
      · have n := ih (i + 1) (by omega) (by omega) (ppAll_take ppColB cs i hil hI h)
        rw [show (((i + 1 : Nat)) : Int) = wrap64 ((i : Int) + 1) by rw [pp_wrap_id _ (by omega) (by omega)]; rfl] at n
        exact n
      · refine (F (.inr ?_)).symm
        rw [ppAll_step ppColB cs i hil hI, Bool.eq_false_iff.2 h]
        rfl
  have J0 : T = false → Evs (fun k => spec_TblOk.j0 k true cs hd ft rs gp) (fun r => r = T) := fun h => Evs.step (f := fun _ => some false) (fun k => by simp only [spec_TblOk.j0]; rfl) (Evs.now h.symm)
  have no : ¬ ((1 ≤ rs.length ∧ rs.length ≤ 8) ∧ cs.length ≤ 8 ∧ (0 ≤ hd ∧ hd ≤ rs.length) ∧ (0 ≤ ft ∧ ft ≤ rs.length - hd) ∧ 0 ≤ gp ∧ gp ≤ 3) → T = false := by
    intro h
    rw [← hT]
    unfold ppTblB
    rw [decide_eq_false h]
    rfl
  unfold spec_TblOk.f
  rw [pp_inS, pp_inS, pp_inS, pp_inS]
  simp only [Option.bind_some]
  refine Evs.ite (fun h1 => ?_) (fun h1 => J0 (no fun q => h1 (decide_eq_true ⟨by omega, by omega⟩)))
  have h1 := of_decide_eq_true h1
  refine Evs.ite (fun h2 => J0 (no fun q => by omega)) (fun h2 => ?_)
  refine Evs.ite (fun h3 => ?_) (fun h3 => J0 (no fun q => h3 (decide_eq_true ⟨by omega, by omega⟩)))
  have h3 := of_decide_eq_true h3
  rw [pp_wrap_id ((rs.length : Int) - hd) (by omega) (by omega)]
  refine Evs.ite (fun h4 => ?_) (fun h4 => J0 (no fun q => h4 (decide_eq_true ⟨by omega, by omega⟩)))
  have h4 := of_decide_eq_true h4
  by_cases h5 : 0 ≤ gp ∧ gp ≤ 3
  · rw [decide_eq_true h5]
    refine Evs.step (fun k => by simp only [spec_TblOk.j0]; rfl) ?_
    refine Evs.neg (by decide) (K (by omega) (by omega) (fun c r => ?_) _ 0 rfl (by omega) rfl)
    rw [← hT]
    unfold ppTblB
    rw [decide_eq_true ⟨by omega, by omega, by omega, by omega, h5⟩, c, r]
    rfl
  · rw [decide_eq_false h5]
    exact J0 (no fun q => h5 q.2.2.2.2)
theorem ppIdx_neg {α : Type} (p : α → Bool) (l : List α) : decide (0 ≤ ppIdx (fun x => !p x) l) = !l.all p := by
  by_cases h : l.all p = true
  · rw [h, ppIdx_miss _ _ (fun j hj => by simp [List.all_eq_true.1 h _ (List.getElem_mem hj)])]
    rfl
  · rw [Bool.eq_false_iff.2 h]
    have : ∃ x ∈ l, p x = false := by simpa using h
    obtain ⟨x, hx, hp⟩ := this
    refine decide_eq_true ?_
    unfold ppIdx
    cases e : l.findIdx? (fun x => !p x) with
    | some i => exact Int.natCast_nonneg _
    | none =>
      rw [List.findIdx?_eq_none_iff] at e
      have := e x hx
      rw [hp] at this
      cases this
/-- impl.TblOk, exactly, of texts that are not too long. -/
theorem pp_tblP (cs : List S59) (hd ft : Int) (rs : List S40) (gp : Int) (hf : ∀ x ∈ rs, ∀ c ∈ x.f0, c.f0.size < 4294967281) (k : Nat) : impl_TblOk.f k cs hd ft rs gp = some (ppTblB cs hd ft rs gp) := by
  unfold impl_TblOk.f
  have hfits : impl_TblOk.fits rs = true := by
    unfold impl_TblOk.fits
    simpa using hf
  rw [if_pos hfits, pp_inP, pp_inP, pp_inP, pp_inP]
  simp only [Option.bind_some]
  have hcol : (fun c : S59 => !impl_TblOk.colB c) = (fun c => !ppColB c) := by
    funext c
    unfold impl_TblOk.colB
    rw [pp_colP]
    rfl
  have hrow : decide (0 ≤ ppIdx impl_TblOk.rowW rs) = !rs.all ppRowB := by
    rw [← ppIdx_neg]
    congr 2
    have key : ∀ x ∈ rs, impl_TblOk.rowW x = !ppRowB x := by
      intro x hx
      unfold impl_TblOk.rowW ppRowB
      have hcell : ppIdx (fun c => !impl_TblOk.cellB c) x.f0 = ppIdx (fun c => !ppCellB c) x.f0 := by
        unfold ppIdx
        have : x.f0.findIdx? (fun c => !impl_TblOk.cellB c) = x.f0.findIdx? (fun c => !ppCellB c) := by
          have h := hf x hx
          generalize x.f0 = l at h
          induction l with
          | nil => rfl
          | cons y ys ih =>
            rw [List.findIdx?_cons, List.findIdx?_cons, ih (fun c hc => h c (List.mem_cons_of_mem _ hc))]
            have : impl_TblOk.cellB y = ppCellB y := by
              unfold impl_TblOk.cellB
              rw [pp_cellP y (h y List.mem_cons_self)]
              rfl
            rw [this]
        rw [this]
      rw [hcell, ppIdx_neg]
      by_cases h5 : x.f0.length ≤ 5
      · rw [decide_eq_true h5, decide_eq_false (by omega)]
        simp
      · rw [decide_eq_false h5, decide_eq_true (by omega)]
        simp
    unfold ppIdx
    have : rs.findIdx? impl_TblOk.rowW = rs.findIdx? (fun x => !ppRowB x) := by
      clear hfits hf hcol
      induction rs with
      | nil => rfl
      | cons y ys ih =>
        rw [List.findIdx?_cons, List.findIdx?_cons, ih (fun c hc => key c (List.mem_cons_of_mem _ hc)), key y List.mem_cons_self]
    rw [this]
  rw [hcol, hrow]
  have hcs : (¬ 0 ≤ ppIdx (fun c => !ppColB c) cs) ↔ cs.all ppColB = true := by
    have := ppIdx_neg ppColB cs
    cases h : cs.all ppColB
    · rw [h] at this
      simp at this
      simp; omega
    · rw [h] at this
      simp at this
      simp; omega
  unfold ppTblB
  by_cases h1 : (1 : Int) ≤ (rs.length : Int) ∧ (rs.length : Int) ≤ 8
  · rw [decide_eq_true h1, if_pos rfl]
    by_cases h2 : (cs.length : Int) ≤ 8
    · rw [if_pos h2]
      by_cases h5 : 0 ≤ gp ∧ gp ≤ 3
      · rw [decide_eq_true h5, if_pos rfl]
        by_cases h3 : 0 ≤ hd ∧ hd ≤ (rs.length : Int)
        · rw [decide_eq_true h3, if_pos rfl, pp_wrap_id ((rs.length : Int) - hd) (by omega) (by omega)]
          by_cases h4 : 0 ≤ ft ∧ ft ≤ (rs.length : Int) - hd
          · rw [decide_eq_true h4, if_pos rfl, decide_eq_true ⟨by omega, by omega, h3, h4, h5⟩]
            by_cases h6 : cs.all ppColB = true
            · rw [if_pos (hcs.2 h6), h6]
              simp
            · rw [if_neg (fun q => h6 (hcs.1 q)), Bool.eq_false_iff.2 h6]
              simp
          · rw [decide_eq_false h4, if_neg (by decide), decide_eq_false (fun q => h4 q.2.2.2.1)]
            rfl
        · rw [decide_eq_false h3, if_neg (by decide), decide_eq_false (fun q => h3 q.2.2.1)]
          rfl
      · rw [decide_eq_false h5, if_neg (by decide), decide_eq_false (fun q => h5 q.2.2.2.2)]
        rfl
    · rw [if_neg h2, decide_eq_false (fun q => h2 (by omega))]
      rfl
  · rw [decide_eq_false h1, if_neg (by decide), decide_eq_false (fun q => h1 (by omega))]
    rfl

theorem ppd_ext (x : ByteArray) (i j : Nat) : (x.extract i j).size ≤ x.size := by
  rw [ByteArray.size_extract]
  omega
theorem ppd_anyText (l : List Int) (h : ppRd l) (p n : Int) (hp : 0 ≤ p) (hp' : p ≤ 700000000) (hn : n ≤ 1000000) : Evs (fun k => spec_l20AnyText.f k l p n) (fun r => r.1.size ≤ 100 ∧ p ≤ r.2 ∧ r.2 ≤ p + 9) := by
  unfold spec_l20AnyText.f
  refine Evs.bnd (pp_text l h p hp hp') ?_
  rintro ⟨x, q⟩ ⟨hx, q0, q1⟩
  simp only at hx q0 q1 ⊢
  refine Evs.bnd (pp_pick l h q n (by omega) (by omega) hn) ?_
  rintro ⟨v, q2⟩ ⟨hq, _, _, _⟩
  simp only at hq ⊢
  refine Evs.ite (fun _ => Evs.now ⟨by simp only; omega, by simp only; omega, by simp only; omega⟩) (fun _ => Evs.pos (by omega) ?_)
  refine Evs.bnd (pp_pick l h q2 ((x.size : Int) + 1) (by omega) (by omega) (by omega)) ?_
  rintro ⟨d, q3⟩ ⟨hq3, d0, _, d1⟩
  simp only at hq3 d0 d1 ⊢
  have d1 := d1 (by omega)
  refine Evs.bnd (pp_pick l h q3 7 (by omega) (by omega) (by omega)) ?_
  rintro ⟨e, q4⟩ ⟨hq4, e0, _, e1⟩
  simp only at hq4 e0 e1 ⊢
  have e1 := e1 (by omega)
  refine Evs.pos ⟨d0, by omega, e0, e1⟩ (Evs.now ⟨?_, by simp only; omega, by simp only; omega⟩)
  simp only
  rw [ByteArray.size_append, ByteArray.size_append]
  have := ppd_ext x 0 d.toNat
  have := ppd_ext x d.toNat x.size
  have := ppWrong7_size e.toNat
  omega
/-- A drawn cell: its text is short, and it does not go over four rows. -/
def ppDc (c : S37) : Prop := c.f0.size ≤ 100 ∧ c.f2 ≠ 4
theorem ppd_cell_j (l : List Int) (h : ppRd l) (n : Int) (x : S37) (p : Int) (hn : n ≤ 1000000) (hp : 0 ≤ p) (hp' : p ≤ 600000000) (hx : ppDc x) : Evs (fun k => spec_l20Cel.j k l n x p) (fun r => ppDc r.1 ∧ p ≤ r.2 ∧ r.2 ≤ p + 11) := by
  unfold spec_l20Cel.j
  refine Evs.bnd (pp_pick l h p n hp (by omega) hn) ?_
  rintro ⟨v, q⟩ ⟨hq, _, _, _⟩
  simp only at hq ⊢
  refine Evs.ite (fun _ => Evs.now ⟨hx, by simp only; omega, by simp only; omega⟩) (fun _ => ?_)
  refine Evs.bnd (pp_pick l h q 4 (by omega) (by omega) (by omega)) ?_
  rintro ⟨d, q2⟩ ⟨hq2, d0, _, d1⟩
  simp only at hq2 d0 d1 ⊢
  refine Evs.ite (fun _ => ?_) (fun _ => Evs.ite (fun _ => ?_) (fun _ => Evs.ite (fun _ => ?_) (fun _ => ?_)))
  · refine Evs.bnd (ppd_anyText l h q2 1 (by omega) (by omega) (by omega)) ?_
    rintro ⟨t, q3⟩ ⟨a, b, c⟩
    exact Evs.now ⟨⟨a, hx.2⟩, by simp only at *; omega, by simp only at *; omega⟩
  · refine Evs.bnd (pp_pick l h q2 3 (by omega) (by omega) (by omega)) ?_
    rintro ⟨e, q3⟩ ⟨hq3, e0, _, e1⟩
    simp only at hq3 e0 e1 ⊢
    exact Evs.pos ⟨e0, e1 (by omega)⟩ (Evs.now ⟨⟨hx.1, hx.2⟩, by simp only; omega, by simp only; omega⟩)
  · refine Evs.bnd (pp_pick l h q2 3 (by omega) (by omega) (by omega)) ?_
    rintro ⟨e, q3⟩ ⟨hq3, e0, _, e1⟩
    simp only at hq3 e0 e1 ⊢
    refine Evs.pos ⟨e0, e1 (by omega)⟩ (Evs.now ⟨⟨hx.1, ?_⟩, by simp only; omega, by simp only; omega⟩)
    show ppOf3.getD e.toNat 0 ≠ 4
    match e.toNat with
    | 0 => decide
    | 1 => decide
    | 2 => decide
    | n + 3 => exact (by decide : (0 : Int) ≠ 4)
  · refine Evs.bnd (pp_brd l h 1 q2 (by omega) (by omega) (by omega)) ?_
    rintro ⟨s, w, q3⟩ ⟨_, _, g0, g1⟩
    exact Evs.now ⟨⟨hx.1, hx.2⟩, by simp only at *; omega, by simp only at *; omega⟩
theorem ppd_cell (l : List Int) (h : ppRd l) (p n : Int) (hn : n ≤ 1000000) (hp : 0 ≤ p) (hp' : p ≤ 500000000) : Evs (fun k => spec_l20Cel.f k l p n) (fun r => ppDc r.1 ∧ p ≤ r.2 ∧ r.2 ≤ p + 43) := by
  unfold spec_l20Cel.f
  refine Evs.bnd (pp_text l h p hp (by omega)) ?_
  rintro ⟨t, q1⟩ ⟨a0, a1, b1⟩
  simp only at a0 a1 b1 ⊢
  refine Evs.bnd (pp_pick l h q1 6 (by omega) (by omega) (by omega)) ?_
  rintro ⟨c, q2⟩ ⟨hq2, c0, _, c1⟩
  simp only at hq2 c0 c1 ⊢
  refine Evs.bnd (pp_pick l h q2 6 (by omega) (by omega) (by omega)) ?_
  rintro ⟨r, q3⟩ ⟨hq3, r0, _, r1⟩
  simp only at hq3 r0 r1 ⊢
  refine Evs.pos ⟨c0, c1 (by omega), r0, r1 (by omega)⟩ ?_
  refine Evs.bnd (pp_brd l h 999 q3 (by omega) (by omega) (by omega)) ?_
  rintro ⟨s1, w1, q4⟩ ⟨_, _, g0, g1⟩
  simp only at g0 g1 ⊢
  refine Evs.bnd (pp_brd l h 999 q4 (by omega) (by omega) (by omega)) ?_
  rintro ⟨s2, w2, q5⟩ ⟨_, _, g2, g3⟩
  simp only at g2 g3 ⊢
  refine Evs.bnd (pp_brd l h 999 q5 (by omega) (by omega) (by omega)) ?_
  rintro ⟨s3, w3, q6⟩ ⟨_, _, g4, g5⟩
  simp only at g4 g5 ⊢
  refine Evs.bnd (pp_brd l h 999 q6 (by omega) (by omega) (by omega)) ?_
  rintro ⟨s4, w4, q7⟩ ⟨_, _, g6, g7⟩
  simp only at g6 g7 ⊢
  refine (ppd_cell_j l h n _ q7 hn (by omega) (by omega) ?_).imp fun r ⟨e, a, b⟩ => ⟨e, by omega, by omega⟩
  split
  · exact ⟨by show (⟨#[]⟩ : ByteArray).size ≤ 100; decide, by show (1 : Int) ≠ 4; decide⟩
  · refine ⟨by show t.size ≤ 100; omega, ?_⟩
    show ppOf6b.getD r.toNat 0 ≠ 4
    match r.toNat with
    | 0 | 1 | 2 | 3 | 4 | 5 => decide
    | n + 6 => exact (by decide : (0 : Int) ≠ 4)
theorem ppd_tab_s (l : List Int) (h : ppRd l) : ∀ (n : Nat) (xs : List S37) (p : Int), 0 ≤ p → p + 43 * n ≤ 400000000 → n ≤ 10 → (∀ c ∈ xs, ppDc c) → Evs (fun k => spec_l20Tab.ls k l n xs p) (fun r => (r.1.length = xs.length + n ∧ ∀ c ∈ r.1, ppDc c) ∧ p ≤ r.2 ∧ r.2 ≤ p + 43 * n)
  | 0, xs, p, hp, hp', hn, hx => Evs.cong (f := fun _ => some (xs, p)) (fun _ => rfl) (Evs.now ⟨⟨rfl, hx⟩, by simp, by simp⟩)
  | n + 1, xs, p, hp, hp', hn, hx => by
    unfold spec_l20Tab.ls
    refine Evs.bnd (ppd_cell l h p 99999 (by omega) hp (by omega)) ?_
    rintro ⟨c, q⟩ ⟨hc, q0, q1⟩
    simp only at hc q0 q1 ⊢
    refine (ppd_tab_s l h n (xs ++ [c]) q (by omega) (by omega) (by omega) (fun y hy => ?_)).imp fun r ⟨⟨e, f⟩, a, b⟩ => ⟨⟨by rw [e, List.length_append, List.length_singleton]; omega, f⟩, by omega, by omega⟩
    rcases List.mem_append.1 hy with hy | hy
    · exact hx y hy
    · rw [List.mem_singleton.1 hy]; exact hc
/-- Drawn rows: at most so many cells, each as drawn. -/
def ppDr (m : Nat) (x : S40) : Prop := x.f0.length ≤ m ∧ ∀ c ∈ x.f0, ppDc c
theorem ppd_tab_r (l : List Int) (h : ppRd l) : ∀ (n : Nat) (xs : List S40) (p : Int), 0 ≤ p → p + 200 * n ≤ 300000000 → n ≤ 10 → (∀ x ∈ xs, ppDr 4 x) → Evs (fun k => spec_l20Tab.lr k l n xs p) (fun r => (r.1.length = xs.length + n ∧ ∀ x ∈ r.1, ppDr 4 x) ∧ p ≤ r.2 ∧ r.2 ≤ p + 200 * n)
  | 0, xs, p, hp, hp', hn, hx => Evs.cong (f := fun _ => some (xs, p)) (fun _ => rfl) (Evs.now ⟨⟨rfl, hx⟩, by simp, by simp⟩)
  | n + 1, xs, p, hp, hp', hn, hx => by
    unfold spec_l20Tab.lr
    refine Evs.bnd (pp_pick l h p 4 hp (by omega) (by omega)) ?_
    rintro ⟨a, q⟩ ⟨hq, a0, _, a1⟩
    simp only at hq a0 a1 ⊢
    refine Evs.bnd (pp_pick l h q 5 (by omega) (by omega) (by omega)) ?_
    rintro ⟨b, q2⟩ ⟨hq2, b0, _, b1⟩
    simp only at hq2 b0 b1 ⊢
    have b1 := b1 (by omega)
    refine Evs.pos ⟨b0, by omega⟩ ?_
    refine Evs.bnd (ppd_tab_s l h b.toNat [] q2 (by omega) (by omega) (by omega) (fun _ hc => by cases hc)) ?_
    rintro ⟨c, q3⟩ ⟨⟨hl, hc⟩, g0, g1⟩
    simp only [List.length_nil] at hl hc g0 g1 ⊢
    refine (ppd_tab_r l h n (xs ++ [(⟨c, a == 0⟩ : S40)]) q3 (by omega) (by omega) (by omega) (fun y hy => ?_)).imp fun r ⟨⟨e, f⟩, a, b⟩ => ⟨⟨by rw [e, List.length_append, List.length_singleton]; omega, f⟩, by omega, by omega⟩
    rcases List.mem_append.1 hy with hy | hy
    · exact hx y hy
    · rw [List.mem_singleton.1 hy]
      exact ⟨by show c.length ≤ 4; omega, hc⟩
theorem ppd_tab_c (l : List Int) (h : ppRd l) : ∀ (n : Nat) (xs : List S59) (p : Int), 0 ≤ p → p + 3 * n ≤ 400000000 → n ≤ 10 → Evs (fun k => spec_l20Tab.lc k l n xs p) (fun r => p ≤ r.2 ∧ r.2 ≤ p + 3 * n)
  | 0, xs, p, hp, hp', hn => Evs.cong (f := fun _ => some (xs, p)) (fun _ => rfl) (Evs.now ⟨by simp, by simp⟩)
  | n + 1, xs, p, hp, hp', hn => by
    unfold spec_l20Tab.lc
    refine Evs.bnd (pp_pick l h p 30 hp (by omega) (by omega)) ?_
    rintro ⟨a, q⟩ ⟨hq, a0, _, a1⟩
    simp only at hq a0 a1 ⊢
    refine Evs.bnd (pp_pick l h q 4 (by omega) (by omega) (by omega)) ?_
    rintro ⟨b, q2⟩ ⟨hq2, b0, _, b1⟩
    simp only at hq2 b0 b1 ⊢
    refine Evs.bnd (pp_pick l h q2 4 (by omega) (by omega) (by omega)) ?_
    rintro ⟨c, q3⟩ ⟨hq3, c0, _, c1⟩
    simp only at hq3 c0 c1 ⊢
    exact Evs.pos ⟨b0, b1 (by omega), c0, c1 (by omega)⟩ ((ppd_tab_c l h n _ q3 (by omega) (by omega) (by omega)).imp fun r ⟨a, b⟩ => ⟨by omega, by omega⟩)
theorem ppTblB_shape {cs : List S59} {hd ft : Int} {rs : List S40} {gp : Int} (h : ppTblB cs hd ft rs gp = true) : (1 ≤ rs.length ∧ rs.length ≤ 8) ∧ cs.length ≤ 8 ∧ (0 ≤ hd ∧ hd ≤ rs.length) ∧ (0 ≤ ft ∧ ft ≤ rs.length - hd) ∧ rs.all ppRowB = true := by
  unfold ppTblB at h
  simp only [Bool.and_eq_true, decide_eq_true_eq] at h
  obtain ⟨⟨h1, _⟩, h3⟩ := h
  exact ⟨h1.1, h1.2.1, h1.2.2.1, h1.2.2.2.1, h3⟩
theorem ppd_tab_f (t : PTab) (p : Int) (ht : t.rows.length ≤ 6 ∧ 1 ≤ t.rows.length ∧ ∀ x ∈ t.rows, ppDr 4 x) : Evs (fun k => spec_l20Tab.fin k t p) (fun r => (r.1.rows.length ≤ 6 ∧ 1 ≤ r.1.rows.length ∧ (∀ x ∈ r.1.rows, ppDr 4 x) ∧ r.1.cols.length ≤ 8) ∧ r.2 = p) := by
  unfold spec_l20Tab.fin
  refine Evs.bnd (pp_tblS _ _ _ _ _) (fun b hb => Evs.now ⟨?_, rfl⟩)
  simp only
  split
  · rename_i e
    rw [e] at hb
    exact ⟨ht.1, ht.2.1, ht.2.2, (ppTblB_shape hb.symm).2.1⟩
  · refine ⟨by decide, by decide, ?_, by decide⟩
    intro x hx
    rw [show ppNoTab.rows = [⟨[], false⟩] from rfl] at hx
    rw [List.mem_singleton.1 hx]
    exact ⟨by decide, fun c hc => by cases hc⟩
theorem ppd_table (l : List Int) (h : ppRd l) (p : Int) (hp : 0 ≤ p) (hp' : p ≤ 200000000) : Evs (fun k => spec_l20Tab.f k l p) (fun r => (r.1.rows.length ≤ 6 ∧ 1 ≤ r.1.rows.length ∧ (∀ x ∈ r.1.rows, ppDr 4 x) ∧ r.1.cols.length ≤ 8) ∧ p ≤ r.2 ∧ r.2 ≤ p + 2000) := by
  unfold spec_l20Tab.f
  refine Evs.bnd (pp_pick l h p 4 hp (by omega) (by omega)) ?_
  rintro ⟨gap, q⟩ ⟨hq, _, _, _⟩
  simp only at hq ⊢
  refine Evs.bnd (pp_pick l h q 6 (by omega) (by omega) (by omega)) ?_
  rintro ⟨nc, q2⟩ ⟨hq2, c0, _, c1⟩
  simp only at hq2 c0 c1 ⊢
  have c1 := c1 (by omega)
  refine Evs.pos ⟨c0, by omega⟩ ?_
  refine Evs.bnd (ppd_tab_c l h nc.toNat [] q2 (by omega) (by omega) (by omega)) ?_
  rintro ⟨cols, q3⟩ ⟨g0, g1⟩
  simp only at g0 g1 ⊢
  refine Evs.bnd (pp_pick l h q3 6 (by omega) (by omega) (by omega)) ?_
  rintro ⟨nr, q4⟩ ⟨hq4, r0, _, r1⟩
  simp only at hq4 r0 r1 ⊢
  have r1 := r1 (by omega)
  refine Evs.pos ⟨r0, by omega⟩ ?_
  refine Evs.bnd (ppd_tab_r l h (nr.toNat + 1) [] q4 (by omega) (by omega) (by omega) (fun _ hx => by cases hx)) ?_
  rintro ⟨rows, q5⟩ ⟨⟨hl, hr⟩, g2, g3⟩
  simp only [List.length_nil] at hl hr g2 g3 ⊢
  have hrows : rows.length ≤ 6 ∧ 1 ≤ rows.length ∧ ∀ x ∈ rows, ppDr 4 x := ⟨by omega, by omega, hr⟩
  refine Evs.bnd (pp_pick l h q5 2 (by omega) (by omega) (by omega)) ?_
  rintro ⟨hf, q6⟩ ⟨hq6, _, _, _⟩
  simp only at hq6 ⊢
  refine Evs.ite (fun _ => ?_) (fun _ => (ppd_tab_f ⟨cols, 0, 0, rows, gap⟩ _ hrows).imp fun r ⟨t, e⟩ => ⟨t, by omega, by omega⟩)
  refine Evs.bnd (pp_pick l h q6 2 (by omega) (by omega) (by omega)) ?_
  rintro ⟨hd, q7⟩ ⟨hq7, d0, _, d1⟩
  simp only at hq7 d0 d1 ⊢
  have d1 := d1 (by omega)
  refine Evs.bnd (pp_pick l h q7 2 (by omega) (by omega) (by omega)) ?_
  rintro ⟨ft, q8⟩ ⟨hq8, f0, _, f1⟩
  simp only at hq8 f0 f1 ⊢
  have f1 := f1 (by omega)
  exact Evs.pos ⟨d0, by omega, f0, by omega⟩ ((ppd_tab_f ⟨cols, hd, _, rows, gap⟩ _ hrows).imp fun r ⟨t, e⟩ => ⟨t, by omega, by omega⟩)
/-- Drawn rows, one of which may have a cell more. -/
def ppDrs (rs : List S40) : Prop := ∃ a : Nat, ∀ i (hi : i < rs.length), ppDr (if i = a then 5 else 4) rs[i]
theorem ppDrs_of {rs : List S40} (h : ∀ x ∈ rs, ppDr 4 x) : ppDrs rs := by
  refine ⟨0, fun i hi => ?_⟩
  have := h _ (List.getElem_mem hi)
  exact ⟨by have := this.1; split <;> omega, this.2⟩
theorem pp_paRow (rows : List S40) (a : Nat) (h : a < rows.length) : paRow rows a = rows[a] := by
  unfold paRow
  simp [List.getD_eq_getElem?_getD, List.getElem?_eq_getElem h]
theorem ppDrs_put {rows : List S40} (hr : ∀ x ∈ rows, ppDr 4 x) {a : Nat} (ha : a < rows.length) {x : S37} (hx : ppDc x) : ppDrs (paPut rows a x) := by
  refine ⟨a, fun i hi => ?_⟩
  unfold paPut at hi ⊢
  have hil : i < rows.length := by rwa [List.length_set] at hi
  have hra := hr _ (List.getElem_mem ha)
  by_cases e : i = a
  · subst e
    rw [if_pos rfl, List.getElem_set_self, pp_paRow rows i ha]
    refine ⟨by show (rows[i].f0 ++ [x]).length ≤ 5; rw [List.length_append, List.length_singleton]; have := hra.1; omega, fun c hc => ?_⟩
    rcases List.mem_append.1 hc with hc | hc
    · exact hra.2 c hc
    · rw [List.mem_singleton.1 hc]; exact hx
  · rw [if_neg e, List.getElem_set_ne (Ne.symm e)]
    exact hr _ (List.getElem_mem hil)
theorem ppd_anyP (l : List Int) (h : ppRd l) (p n : Int) (hp : 0 ≤ p) (hp' : p ≤ 100000000) (hn : n ≤ 1000000) : Evs (fun k => spec_l20Any.f k l p n) (fun r => ppDrs r.1.rows ∧ p ≤ r.2 ∧ r.2 ≤ p + 3000) := by
  unfold spec_l20Any.f
  refine Evs.bnd (ppd_table l h p hp (by omega)) ?_
  rintro ⟨⟨cols, hd, ft, rows, gap⟩, q⟩ ⟨⟨h6, h1, hr, h8⟩, q0, q1⟩
  simp only at h6 h1 hr h8 q0 q1 ⊢
  refine Evs.bnd (pp_pick l h q n (by omega) (by omega) hn) ?_
  rintro ⟨c, q2⟩ ⟨hq2, _, _, _⟩
  simp only at hq2 ⊢
  have hr0 := ppDrs_of hr
  refine Evs.ite (fun _ => Evs.now ⟨hr0, by simp only at *; omega, by simp only at *; omega⟩) (fun _ => ?_)
  refine Evs.bnd (pp_pick l h q2 (rows.length : Int) (by omega) (by omega) (by omega)) ?_
  rintro ⟨a, q3⟩ ⟨hq3, a0, _, a1⟩
  simp only at hq3 a0 a1 ⊢
  have a1 := a1 (by omega)
  refine Evs.pos ⟨a0, a1⟩ ?_
  refine Evs.bnd (pp_pick l h q3 6 (by omega) (by omega) (by omega)) ?_
  rintro ⟨sw, q4⟩ ⟨hq4, s0, _, s1⟩
  simp only at hq4 s0 s1 ⊢
  unfold spec_l20Any.turn
  refine Evs.ite (fun _ => ?_) (fun _ => Evs.ite (fun _ => ?_) (fun _ => Evs.ite (fun _ => ?_) (fun _ => Evs.ite (fun _ => ?_) (fun _ => Evs.ite (fun _ => ?_) (fun _ => ?_)))))
  · refine Evs.bnd (pp_pick l h q4 3 (by omega) (by omega) (by omega)) ?_
    rintro ⟨e, q5⟩ ⟨hq5, e0, _, e1⟩
    exact Evs.pos ⟨e0, e1 (by omega)⟩ (Evs.now ⟨hr0, by simp only at *; omega, by simp only at *; omega⟩)
  · refine Evs.bnd (pp_pick l h q4 3 (by omega) (by omega) (by omega)) ?_
    rintro ⟨e, q5⟩ ⟨hq5, e0, _, e1⟩
    exact Evs.pos ⟨e0, e1 (by omega)⟩ (Evs.now ⟨hr0, by simp only at *; omega, by simp only at *; omega⟩)
  · refine Evs.bnd (pp_pick l h q4 2 (by omega) (by omega) (by omega)) ?_
    rintro ⟨e, q5⟩ ⟨hq5, e0, _, e1⟩
    exact Evs.pos ⟨e0, e1 (by omega)⟩ (Evs.now ⟨hr0, by simp only at *; omega, by simp only at *; omega⟩)
  · refine Evs.bnd (pp_pick l h q4 4 (by omega) (by omega) (by omega)) ?_
    rintro ⟨d, q5⟩ ⟨hq5, _, _, _⟩
    simp only at hq5 ⊢
    refine Evs.bnd (pp_pick l h q5 4 (by omega) (by omega) (by omega)) ?_
    rintro ⟨e, q6⟩ ⟨hq6, e0, _, e1⟩
    exact Evs.pos ⟨e0, e1 (by omega), by omega⟩ (Evs.now ⟨hr0, by simp only at *; omega, by simp only at *; omega⟩)
  · refine Evs.bnd (ppd_cell l h q4 1 (by omega) (by omega) (by omega)) ?_
    rintro ⟨x, q5⟩ ⟨hx, x0, x1⟩
    simp only at hx ⊢
    have hpr := pp_paRow rows a.toNat (by omega)
    have hra := hr _ (List.getElem_mem (show a.toNat < rows.length by omega))
    exact Evs.pos (by rw [hpr]; have := hra.1; omega) (Evs.now ⟨ppDrs_put hr (by omega) hx, by simp only at *; omega, by simp only at *; omega⟩)
  · refine Evs.now ⟨ppDrs_of ?_, by simp only at *; omega, by simp only at *; omega⟩
    intro x hx
    unfold paFill at hx
    rcases List.mem_append.1 hx with hx | hx
    · exact hr x hx
    · rw [(List.mem_replicate.1 hx).2]
      exact ⟨by decide, fun c hc => by cases hc⟩

/-- The cell at a place of a row of the table. -/
def ppCellAt (rs : List S40) (i j : Int) : S37 := rd_T37 (rd_T40 rs i).f0 j
/-- The table's rows with another cell at a place. -/
def ppSetC (rs : List S40) (i j : Int) (c : S37) : List S40 := rs.set i.toNat ⟨(rd_T40 rs i).f0.set j.toNat c, (rd_T40 rs i).f1⟩
/-- There is a cell at the place. -/
def ppHasC (rs : List S40) (i j : Int) : Prop := (0 ≤ i ∧ i < (rs.length : Int)) ∧ 0 ≤ j ∧ j < ((rd_T40 rs i).f0.length : Int)
theorem ppSetC_len (rs : List S40) (i j : Int) (c : S37) : (ppSetC rs i j c).length = rs.length := by
  unfold ppSetC
  rw [List.length_set]
theorem ppSetC_rd (rs : List S40) (i j : Int) (c : S37) (h0 : 0 ≤ i) (n : Nat) : rd_T40 (ppSetC rs i j c) (n : Int) = if (n : Int) = i ∧ n < rs.length then ⟨(rd_T40 rs i).f0.set j.toNat c, (rd_T40 rs i).f1⟩ else rd_T40 rs (n : Int) := by
  unfold ppSetC rd_T40
  rw [Int.toNat_natCast, List.getD_eq_getElem?_getD, List.getElem?_set]
  by_cases e : i.toNat = n
  · rw [if_pos e]
    by_cases hn : n < rs.length
    · rw [if_pos (by omega), if_pos (by omega), Option.getD_some]
    · rw [if_neg (by omega), if_neg (by omega), List.getD_eq_getElem?_getD, List.getElem?_eq_none (by omega)]
  · rw [if_neg e, if_neg (by omega), List.getD_eq_getElem?_getD]
theorem ppSetC_row (rs : List S40) (i j : Int) (c : S37) (h : 0 ≤ i ∧ i < (rs.length : Int)) : rd_T40 (ppSetC rs i j c) i = ⟨(rd_T40 rs i).f0.set j.toNat c, (rd_T40 rs i).f1⟩ := by
  obtain ⟨n, rfl⟩ : ∃ n : Nat, i = n := ⟨i.toNat, by omega⟩
  rw [ppSetC_rd rs n j c h.1, if_pos ⟨rfl, by omega⟩]
theorem ppSetC_has {rs : List S40} {i j : Int} (h : ppHasC rs i j) (c : S37) : ppHasC (ppSetC rs i j c) i j := by
  unfold ppHasC at h ⊢
  rw [ppSetC_len, ppSetC_row rs i j c h.1]
  simp only [List.length_set]
  exact h
theorem ppSetC_cell {rs : List S40} {i j : Int} (h : ppHasC rs i j) (c : S37) : ppCellAt (ppSetC rs i j c) i j = c := by
  unfold ppHasC at h
  unfold ppCellAt
  rw [ppSetC_row rs i j c h.1]
  unfold rd_T37
  simp only
  rw [List.getD_eq_getElem?_getD, List.getElem?_set, if_pos rfl, if_pos (by omega), Option.getD_some]
theorem ppSetC_set {rs : List S40} {i j : Int} (h : ppHasC rs i j) (c d : S37) : ppSetC (ppSetC rs i j c) i j d = ppSetC rs i j d := by
  unfold ppHasC at h
  have e : ppSetC (ppSetC rs i j c) i j d = (ppSetC rs i j c).set i.toNat ⟨(rd_T40 (ppSetC rs i j c) i).f0.set j.toNat d, (rd_T40 (ppSetC rs i j c) i).f1⟩ := rfl
  rw [e, ppSetC_row rs i j c h.1]
  unfold ppSetC
  simp only
  rw [List.set_set, List.set_set]
theorem ppSet_self {α : Type} (l : List α) (i : Nat) (d : α) (h : i < l.length) : l.set i (l.getD i d) = l := by
  rw [List.getD_eq_getElem?_getD, List.getElem?_eq_getElem h, Option.getD_some, List.set_getElem_self]
theorem ppSetC_self {rs : List S40} {i j : Int} (h : ppHasC rs i j) : ppSetC rs i j (ppCellAt rs i j) = rs := by
  unfold ppHasC at h
  unfold ppSetC ppCellAt
  have e : (rd_T40 rs i).f0.set j.toNat (rd_T37 (rd_T40 rs i).f0 j) = (rd_T40 rs i).f0 := ppSet_self _ _ _ (by omega)
  rw [e]
  exact ppSet_self _ _ _ (by omega)
theorem ppHasC_mem {rs : List S40} {i j : Int} (h : ppHasC rs i j) : rd_T40 rs i ∈ rs ∧ ppCellAt rs i j ∈ (rd_T40 rs i).f0 := by
  unfold ppHasC at h
  obtain ⟨n, rfl⟩ : ∃ n : Nat, i = n := ⟨i.toNat, by omega⟩
  obtain ⟨m, rfl⟩ : ∃ m : Nat, j = m := ⟨j.toNat, by omega⟩
  have h1 : n < rs.length := by omega
  have h2 : m < (rd_T40 rs (n : Int)).f0.length := by omega
  refine ⟨?_, ?_⟩
  · have e : rd_T40 rs (n : Int) = rs[n] := pp_getD rs n _ h1
    rw [e]
    exact List.getElem_mem h1
  · have e : ppCellAt rs n m = (rd_T40 rs (n : Int)).f0[m] := pp_getD _ m _ h2
    rw [e]
    exact List.getElem_mem h2
theorem ppSetC_mem {rs : List S40} {i j : Int} {c : S37} {x : S40} (hx : x ∈ ppSetC rs i j c) : x ∈ rs ∨ x = ⟨(rd_T40 rs i).f0.set j.toNat c, (rd_T40 rs i).f1⟩ := List.mem_or_eq_of_mem_set hx
theorem ppTblB_set {cs : List S59} {hd ft : Int} {rs : List S40} {gp : Int} {i j : Int} (h : ppHasC rs i j) {c : S37} (hB : ppTblB cs hd ft rs gp = true) (hc : ppCellB c = true) : ppTblB cs hd ft (ppSetC rs i j c) gp = true := by
  unfold ppTblB at hB ⊢
  rw [ppSetC_len]
  rw [Bool.and_eq_true] at hB ⊢
  refine ⟨hB.1, List.all_eq_true.2 fun x hx => ?_⟩
  have hr := List.all_eq_true.1 hB.2
  rcases ppSetC_mem hx with hx | rfl
  · exact hr x hx
  · have h0 := hr _ (ppHasC_mem h).1
    unfold ppRowB at h0 ⊢
    rw [Bool.and_eq_true] at h0 ⊢
    refine ⟨by simp only [List.length_set]; exact h0.1, List.all_eq_true.2 fun y hy => ?_⟩
    rcases List.mem_or_eq_of_mem_set hy with hy | rfl
    · exact List.all_eq_true.1 h0.2 y hy
    · exact hc
theorem ppTblB_cell {cs : List S59} {hd ft : Int} {rs : List S40} {gp : Int} {i j : Int} (h : ppHasC rs i j) (hB : ppTblB cs hd ft rs gp = true) : ppCellB (ppCellAt rs i j) = true := by
  unfold ppTblB at hB
  rw [Bool.and_eq_true] at hB
  have h0 := List.all_eq_true.1 hB.2 _ (ppHasC_mem h).1
  unfold ppRowB at h0
  rw [Bool.and_eq_true] at h0
  exact List.all_eq_true.1 h0.2 _ (ppHasC_mem h).2
/-- All texts of the rows are short. -/
def ppFitR (rs : List S40) : Prop := ∀ x ∈ rs, ∀ c ∈ x.f0, c.f0.size < 4294967281
theorem ppFitR_set {rs : List S40} {i j : Int} (h : ppHasC rs i j) {c : S37} (hr : ppFitR rs) (hc : c.f0.size < 4294967281) : ppFitR (ppSetC rs i j c) := by
  intro x hx y hy
  rcases ppSetC_mem hx with hx | rfl
  · exact hr x hx y hy
  · rcases List.mem_or_eq_of_mem_set hy with hy | rfl
    · exact hr _ (ppHasC_mem h).1 y hy
    · exact hc
theorem ppFitR_drs {rs : List S40} (hdr : ppDrs rs) : ppFitR rs := by
  obtain ⟨q, hq⟩ := hdr
  intro x hx c hc
  obtain ⟨i, hi, rfl⟩ := List.getElem_of_mem hx
  have := ((hq i hi).2 c hc).1
  omega
/-- The cell lies in a grid of so many rows and columns. -/
def ppLies (a b : Int) (x : S47) : Prop := 0 ≤ x.f0 ∧ x.f0 ≤ a - 1 ∧ 0 ≤ x.f1 ∧ x.f1 ≤ b - 1 ∧ 1 ≤ x.f2 ∧ x.f2 ≤ a - x.f0 ∧ 1 ≤ x.f3 ∧ x.f3 ≤ b - x.f1 ∧ 0 ≤ x.f4 ∧ x.f4 ≤ 4
/-- Two cells share a slot. -/
def ppMeet (x y : S47) : Prop := x.f0 < y.f0 + y.f2 ∧ y.f0 < x.f0 + x.f2 ∧ x.f1 < y.f1 + y.f3 ∧ y.f1 < x.f1 + x.f3
theorem ppMeet_comm (x y : S47) : ppMeet x y ↔ ppMeet y x := by unfold ppMeet; omega

/-- How many numbers below c lie from a on and ahead of b. -/
def ppCnt (a b : Int) : Nat → Nat
  | 0 => 0
  | c + 1 => ppCnt a b c + if a ≤ (c : Int) ∧ (c : Int) < b then 1 else 0
theorem ppCnt_le (a b : Int) (h : a ≤ b) : ∀ c : Nat, (ppCnt a b c : Int) ≤ b - a ∧ ((c : Int) ≤ a → ppCnt a b c = 0) ∧ (a ≤ (c : Int) → (c : Int) ≤ b → (ppCnt a b c : Int) ≤ c - a)
  | 0 => ⟨by simp [ppCnt]; omega, fun _ => rfl, fun _ _ => by simp [ppCnt]; omega⟩
  | c + 1 => by
    obtain ⟨h1, h2, h3⟩ := ppCnt_le a b h c
    unfold ppCnt
    by_cases q : a ≤ (c : Int) ∧ (c : Int) < b
    · rw [if_pos q]
      have := h3 q.1 (by omega)
      exact ⟨by omega, fun _ => by omega, fun _ _ => by omega⟩
    · rw [if_neg q]
      refine ⟨by omega, fun _ => by rw [h2 (by omega)], fun q1 q2 => ?_⟩
      have := h2 (by omega)
      omega
def ppCnts (L : List (Int × Int)) (c : Nat) : Nat := (L.map fun I => ppCnt I.1 I.2 c).sum
theorem ppCnts_le (c m : Nat) : ∀ L : List (Int × Int), (∀ I ∈ L, I.1 ≤ I.2 ∧ I.2 - I.1 ≤ m) → ppCnts L c ≤ m * L.length
  | [], _ => by simp [ppCnts]
  | I :: r, h => by
    have ih := ppCnts_le c m r (fun J hJ => h J (List.mem_cons_of_mem _ hJ))
    obtain ⟨h1, h2⟩ := h I List.mem_cons_self
    have h3 := (ppCnt_le I.1 I.2 h1 c).1
    unfold ppCnts at ih ⊢
    simp only [List.map_cons, List.sum_cons, List.length_cons, Nat.mul_succ]
    omega
theorem ppCnts_succ (c : Nat) : ∀ L : List (Int × Int), ppCnts L c ≤ ppCnts L (c + 1) ∧ ((∃ I ∈ L, I.1 ≤ (c : Int) ∧ (c : Int) < I.2) → ppCnts L c + 1 ≤ ppCnts L (c + 1))
  | [] => ⟨Nat.le_refl _, fun ⟨I, hI, _⟩ => by cases hI⟩
  | J :: r => by
    obtain ⟨h1, h2⟩ := ppCnts_succ c r
    unfold ppCnts at h1 h2 ⊢
    simp only [List.map_cons, List.sum_cons]
    rw [show ppCnt J.1 J.2 (c + 1) = ppCnt J.1 J.2 c + (if J.1 ≤ (c : Int) ∧ (c : Int) < J.2 then 1 else 0) from rfl]
    refine ⟨by split <;> omega, ?_⟩
    rintro ⟨I, hI, hi⟩
    rcases List.mem_cons.1 hI with rfl | hI
    · rw [if_pos hi]; omega
    · have := h2 ⟨I, hI, hi⟩
      split <;> omega
/-- So many numbers that each lie in one of some stretches are no more than these are long together. -/
theorem ppPig (L : List (Int × Int)) (m : Nat) (hL : ∀ I ∈ L, I.1 ≤ I.2 ∧ I.2 - I.1 ≤ m) (c : Nat) (h : ∀ j : Nat, j < c → ∃ I ∈ L, I.1 ≤ (j : Int) ∧ (j : Int) < I.2) : c ≤ m * L.length := by
  have key : ∀ c : Nat, (∀ j : Nat, j < c → ∃ I ∈ L, I.1 ≤ (j : Int) ∧ (j : Int) < I.2) → c ≤ ppCnts L c := by
    intro c
    induction c with
    | zero => intro _; exact Nat.zero_le _
    | succ c ih =>
      intro h
      have h1 := ih (fun j hj => h j (by omega))
      have h2 := (ppCnts_succ c L).2 (h c (by omega))
      omega
  exact Nat.le_trans (key c h) (ppCnts_le c m L hL)

instance (x y : S47) : Decidable (ppMeet x y) := by unfold ppMeet; infer_instance
/-- No cell of ds meets t. -/
def ppFreeB (ds : List S47) (t : S47) : Bool := ds.all fun y => !decide (ppMeet y t)
theorem ppFreeB_iff (ds : List S47) (t : S47) : ppFreeB ds t = true ↔ ∀ y ∈ ds, ¬ ppMeet y t := by
  unfold ppFreeB
  simp
/-- The first column that is free, so many columns on at most. -/
def ppFit (ds : List S47) : Nat → S47 → S47
  | 0, t => t
  | n + 1, t => if ppFreeB ds t = true then t else ppFit ds n { t with f1 := t.f1 + 1 }
theorem ppFit_keeps (ds : List S47) : ∀ (n : Nat) (t : S47), (ppFit ds n t).f0 = t.f0 ∧ (t.f1 ≤ (ppFit ds n t).f1 ∧ (ppFit ds n t).f1 ≤ t.f1 + n) ∧ (ppFit ds n t).f2 = t.f2 ∧ (ppFit ds n t).f3 = t.f3 ∧ (ppFit ds n t).f4 = t.f4 ∧
    (∀ q : Nat, (q : Int) < (ppFit ds n t).f1 - t.f1 → ppFreeB ds { t with f1 := t.f1 + q } = false) ∧ ((ppFit ds n t).f1 < t.f1 + n → ppFreeB ds (ppFit ds n t) = true)
  | 0, t => ⟨rfl, ⟨Int.le_refl _, by simp [ppFit]⟩, rfl, rfl, rfl, fun q hq => by simp only [ppFit] at hq; omega, fun h => by simp only [ppFit] at h; omega⟩
  | n + 1, t => by
    unfold ppFit
    split
    · rename_i h
      exact ⟨rfl, by omega, rfl, rfl, rfl, fun q hq => by omega, fun _ => h⟩
    · rename_i h
      obtain ⟨e0, e1, e2, e3, e4, e5, e6⟩ := ppFit_keeps ds n { t with f1 := t.f1 + 1 }
      simp only at e0 e1 e2 e3 e4 e5 e6
      refine ⟨e0, by omega, e2, e3, e4, fun q hq => ?_, fun hl => e6 (by omega)⟩
      cases q with
      | zero => simpa using h
      | succ q =>
        have := e5 q (by omega)
        rw [← this]
        congr 2
        omega
/-- The row behind the last one of row i's part. -/
def ppEnd (hd ft n i : Int) : Int := if i < hd then hd else if n - ft ≤ i then n else n - ft
/-- A cell as it begins to look for its place. -/
def ppNew (hd ft n : Int) (i j : Nat) (x : S37) : S47 := ⟨i, 0, if ppEnd hd ft n i < (i : Int) + x.f2 then ppEnd hd ft n i - i else x.f2, x.f1, j⟩
theorem ppEnd_in {hd ft : Int} {n i : Nat} (h : 0 ≤ hd ∧ 0 ≤ ft ∧ hd + ft ≤ n) (hi : i < n) : (i : Int) < ppEnd hd ft n i ∧ ppEnd hd ft n i ≤ n := by
  unfold ppEnd
  split
  · omega
  · split <;> omega

theorem ppg_meetI (a b : Int) (x y : S47) (ha : 1 ≤ a ∧ a ≤ 8) (hb : 1 ≤ b ∧ b ≤ 1000) (hx : ppLies a b x) (hy : ppLies a b y) : ppMeetB x y = true ↔ ppMeet x y := by
  unfold ppLies at hx hy
  unfold ppMeetB impl_GrdCell_meets.f ppMeet
  rw [pp_wrap_id (y.f0 + y.f2) (by omega) (by omega), pp_wrap_id (x.f0 + x.f2) (by omega) (by omega), pp_wrap_id (y.f1 + y.f3) (by omega) (by omega), pp_wrap_id (x.f1 + x.f3) (by omega) (by omega)]
  split
  · split
    · split
      · simp; omega
      · simp; omega
    · simp; omega
  · simp; omega
theorem ppg_cells (a b : Int) (x : S47) (ha : 1 ≤ a ∧ a ≤ 8) (hb : 1 ≤ b ∧ b ≤ 1000) (hx : ppLies a b x) (l : List S47) (h : ∀ y ∈ l, ppLies a b y) (k : Nat) :
    ∃ r, impl_ccells.f k l x.f0 x.f1 x.f2 x.f3 x.f4 = some r ∧ (r = false ↔ ∀ y ∈ l, ¬ ppMeet y x) := by
  refine ⟨_, rfl, ?_⟩
  by_cases hall : ∀ y ∈ l, ¬ ppMeet y x
  · rw [ppIdx_miss _ _ (fun j hj => by
      have := hall l[j] (List.getElem_mem _)
      rw [ppMeet_comm] at this
      rw [← Bool.not_eq_true]
      exact fun q => this ((ppg_meetI a b ⟨x.f0, x.f1, x.f2, x.f3, x.f4⟩ l[j] ha hb hx (h _ (List.getElem_mem _))).1 q))]
    simpa using hall
  · have : ∃ j, ∃ hj : j < l.length, ppMeetB ⟨x.f0, x.f1, x.f2, x.f3, x.f4⟩ l[j] = true := by
      simp only [Classical.not_forall, Classical.not_not] at hall
      obtain ⟨y, hy, hm⟩ := hall
      obtain ⟨j, hj, rfl⟩ := List.getElem_of_mem hy
      exact ⟨j, hj, (ppg_meetI a b ⟨x.f0, x.f1, x.f2, x.f3, x.f4⟩ l[j] ha hb hx (h _ (List.getElem_mem _))).2 ((ppMeet_comm _ _).1 hm)⟩
    have hp : 0 ≤ ppIdx (fun y => ppMeetB ⟨x.f0, x.f1, x.f2, x.f3, x.f4⟩ y) l := by
      unfold ppIdx
      cases e : l.findIdx? (fun y => ppMeetB ⟨x.f0, x.f1, x.f2, x.f3, x.f4⟩ y) with
      | some i => exact Int.natCast_nonneg _
      | none =>
        rw [List.findIdx?_eq_none_iff] at e
        obtain ⟨j, hj, hm⟩ := this
        rw [e _ (List.getElem_mem hj)] at hm
        cases hm
    rw [decide_eq_true hp]
    exact ⟨fun h => (by cases h), fun q => absurd q hall⟩

theorem ppg_fitI (ds : List S47) (h : ∀ y ∈ ds, ppLies 8 1000 y) (k : Nat) : ∀ (m n : Nat) (t : S47), (∀ q : Nat, q ≤ m → ppLies 8 1000 { t with f1 := t.f1 + q }) → (ppFit ds m t).f1 < t.f1 + m → m ≤ n → impl_GrdOf.fit k ds n t = some (ppFit ds m t)
  | 0, n, t, _, hf, _ => by simp only [ppFit] at hf; omega
  | m + 1, n, t, ht, hf, hn => by
    obtain ⟨n, rfl⟩ : ∃ q, n = q + 1 := ⟨n - 1, by omega⟩
    have h0 := ht 0 (by omega)
    simp only [Int.natCast_zero, Int.add_zero] at h0
    obtain ⟨r, hr, hri⟩ := ppg_cells 8 1000 t (by omega) (by omega) h0 ds h k
    unfold impl_GrdOf.fit
    rw [hr]
    simp only [Option.bind_some]
    unfold ppFit at hf ⊢
    cases r
    · rw [if_neg (by decide), if_pos ((ppFreeB_iff _ _).2 (hri.1 rfl))]
    · have hb : ¬ ppFreeB ds t = true := fun q => by have := hri.2 ((ppFreeB_iff _ _).1 q); cases this
      rw [if_neg hb] at hf
      have h0' : 0 ≤ t.f1 ∧ t.f1 < 1000000 := ⟨h0.2.2.1, by have := h0.2.2.2.1; simp only at this; omega⟩
      rw [if_pos rfl, if_neg hb, if_pos h0']
      refine ppg_fitI ds h k m n _ (fun q hq => ?_) (by simp only at hf ⊢; omega) (by omega)
      have := ht (q + 1) (by omega)
      simp only at this ⊢
      rw [show t.f1 + 1 + (q : Int) = t.f1 + ((q + 1 : Nat) : Int) by omega]
      exact this
theorem ppg_partE (cs : List S59) (hd ft : Int) (rs : List S40) (gp : Int) (i : Nat) (h : 0 ≤ hd ∧ 0 ≤ ft ∧ hd + ft ≤ rs.length) (hn : rs.length ≤ 8) : ∃ p : Nat, p < 3 ∧ impl_TblTable_part.f cs hd ft rs gp i = some (p : Int) ∧ (ppEnds hd ft rs.length).getD p 0 = ppEnd hd ft rs.length i := by
  unfold impl_TblTable_part.f ppEnd ppEnds
  have w : wrap64 ((rs.length : Int) - ft) = (rs.length : Int) - ft := pp_wrap_id _ (by omega) (by omega)
  rw [w]
  by_cases h1 : (i : Int) < hd
  · rw [if_pos h1, if_pos h1]
    exact ⟨0, by omega, rfl, rfl⟩
  · rw [if_neg h1, if_neg h1]
    by_cases h2 : (rs.length : Int) - ft ≤ i
    · rw [if_pos h2, if_pos (by omega)]
      exact ⟨2, by omega, rfl, rfl⟩
    · rw [if_neg h2, if_neg (by omega)]
      exact ⟨1, by omega, rfl, rfl⟩
/-- A table that is ok. -/
structure ppShG (hd ft : Int) (rs : List S40) : Prop where
  n8 : 1 ≤ rs.length ∧ rs.length ≤ 8
  hf : 0 ≤ hd ∧ 0 ≤ ft ∧ hd + ft ≤ (rs.length : Int)
  cx : ∀ i (hi : i < rs.length), ∀ c ∈ rs[i].f0, 1 ≤ c.f1 ∧ c.f1 ≤ 4 ∧ 1 ≤ c.f2 ∧ c.f2 ≤ 4
  l5 : ∀ i (hi : i < rs.length), rs[i].f0.length ≤ 5
theorem ppg_shape {cs : List S59} {hd ft : Int} {rs : List S40} {gp : Int} (h : ppTblB cs hd ft rs gp = true) : (1 ≤ rs.length ∧ rs.length ≤ 8) ∧ cs.length ≤ 8 ∧ (0 ≤ hd ∧ hd ≤ rs.length) ∧ (0 ≤ ft ∧ ft ≤ rs.length - hd) ∧ rs.all ppRowB = true := by
  unfold ppTblB at h
  simp only [Bool.and_eq_true, decide_eq_true_eq] at h
  obtain ⟨⟨h1, _⟩, h3⟩ := h
  exact ⟨h1.1, h1.2.1, h1.2.2.1, h1.2.2.2.1, h3⟩
theorem ppShG_of {cs : List S59} {hd ft : Int} {rs : List S40} {gp : Int} (h : ppTblB cs hd ft rs gp = true) : ppShG hd ft rs := by
  obtain ⟨h1, _, h3, h4, h5⟩ := ppg_shape h
  refine ⟨h1, by omega, fun i hi c hc => ?_, fun i hi => ?_⟩
  · have hr := List.all_eq_true.1 h5 _ (List.getElem_mem hi)
    unfold ppRowB at hr
    rw [Bool.and_eq_true] at hr
    have hcell := List.all_eq_true.1 hr.2 c hc
    unfold ppCellB at hcell
    simp only [Bool.and_eq_true, decide_eq_true_eq] at hcell
    obtain ⟨⟨⟨⟨⟨⟨_, k1⟩, k2⟩, _⟩, _⟩, _⟩, _⟩ := hcell
    exact ⟨k1.1, k1.2, k2.1, k2.2⟩
  · have hr := List.all_eq_true.1 h5 _ (List.getElem_mem hi)
    unfold ppRowB at hr
    rw [Bool.and_eq_true] at hr
    exact of_decide_eq_true hr.1
/-- One of the cells that were laid. -/
structure ppOneG (hd ft : Int) (rs : List S40) (d : S47) : Prop where
  ex : ∃ (i j : Nat) (hi : i < rs.length) (hj : j < rs[i].f0.length), d.f0 = i ∧ d.f4 = j ∧ d.f3 = rs[i].f0[j].f1 ∧ d.f2 = (ppNew hd ft rs.length i j rs[i].f0[j]).f2
  col : 0 ≤ d.f1 ∧ d.f1 ≤ 280
theorem ppNewG_f2 {hd ft : Int} {rs : List S40} (h : ppShG hd ft rs) (i j : Nat) (hi : i < rs.length) (hj : j < rs[i].f0.length) : 1 ≤ (ppNew hd ft rs.length i j rs[i].f0[j]).f2 ∧ (ppNew hd ft rs.length i j rs[i].f0[j]).f2 ≤ rs[i].f0[j].f2 ∧ (ppNew hd ft rs.length i j rs[i].f0[j]).f2 + i ≤ ppEnd hd ft rs.length i := by
  have he := ppEnd_in h.hf hi
  have hc := h.cx i hi _ (List.getElem_mem hj)
  unfold ppNew
  simp only
  split <;> omega
theorem ppOneG.lies {hd ft : Int} {rs : List S40} {d : S47} (h : ppOneG hd ft rs d) (hs : ppShG hd ft rs) (b : Int) (hb : d.f1 + d.f3 ≤ b) : ppLies rs.length b d ∧ d.f3 ≤ 4 := by
  obtain ⟨i, j, hi, hj, e0, e4, e3, e2⟩ := h.ex
  have hf := ppNewG_f2 hs i j hi hj
  have he := ppEnd_in hs.hf hi
  have hc := hs.cx i hi _ (List.getElem_mem hj)
  have hl := hs.l5 i hi
  have h1 := h.col
  unfold ppLies
  omega
theorem ppFit_280 {ds : List S47} {t : S47} (h1 : t.f1 = 0) (h3 : 1 ≤ t.f3 ∧ t.f3 ≤ 4) (hd : ∀ d ∈ ds, 1 ≤ d.f3 ∧ d.f3 ≤ 4) (hr : ds.length ≤ 40) : (ppFit ds 300 t).f1 ≤ 280 := by
  obtain ⟨e0, e1, e2, e3, e4, e5, _⟩ := ppFit_keeps ds 300 t
  have hp := ppPig (ds.map fun y => (y.f1 - t.f3 + 1, y.f1 + y.f3)) 7 (fun I hI => by
    obtain ⟨y, hy, rfl⟩ := List.mem_map.1 hI
    have := hd y hy
    simp only
    omega) (ppFit ds 300 t).f1.toNat (fun q hq => by
    have hb := e5 q (by omega)
    have hnot : ¬ ∀ y ∈ ds, ¬ ppMeet y { t with f1 := t.f1 + q } := fun h => by rw [(ppFreeB_iff _ _).2 h] at hb; cases hb
    simp only [Classical.not_forall, Classical.not_not] at hnot
    obtain ⟨y, hy, hm⟩ := hnot
    have hy2 := hd y hy
    unfold ppMeet at hm
    simp only at hm
    refine ⟨_, List.mem_map.2 ⟨y, hy, rfl⟩, ?_, ?_⟩
    · simp only; omega
    · simp only; omega)
  rw [List.length_map] at hp
  omega
/-- What holds of the cells that were laid ahead of cell j of row i. -/
structure ppInvG (nc : Nat) (hd ft : Int) (rs : List S40) (i j : Nat) (wd : Int) (ds : List S47) : Prop where
  one : ∀ d ∈ ds, ppOneG hd ft rs d
  all : ∀ (p q : Nat) (hp : p < rs.length), q < rs[p].f0.length → (p < i ∨ p = i ∧ q < j) → ∃ d ∈ ds, d.f0 = p ∧ d.f4 = q
  len : ds.length ≤ 5 * i + j
  pw : ds.Pairwise (fun x y => ¬ ppMeet x y)
  wdb : 1 ≤ wd ∧ wd ≤ 300 ∧ (nc : Int) ≤ wd
  wdd : ∀ d ∈ ds, d.f1 + d.f3 ≤ wd
theorem ppInvG.lies {nc : Nat} {hd ft : Int} {rs : List S40} {i j : Nat} {wd : Int} {ds : List S47} (h : ppInvG nc hd ft rs i j wd ds) (hs : ppShG hd ft rs) : ∀ d ∈ ds, ppLies 8 1000 d ∧ 1 ≤ d.f3 ∧ d.f3 ≤ 4 := by
  intro d hd
  have h1 := (h.one d hd).lies hs wd (h.wdd d hd)
  have h2 := hs.n8
  have h3 := h.wdb
  unfold ppLies at h1 ⊢
  omega
/-- A cell is laid. -/
theorem ppInvG.step {nc : Nat} {hd ft : Int} {rs : List S40} {i j : Nat} {wd : Int} {ds : List S47} (h : ppInvG nc hd ft rs i j wd ds) (hs : ppShG hd ft rs) (hi : i < rs.length) (hj : j < rs[i].f0.length) :
    ∃ t : S47, (∀ k, 400 ≤ k → impl_GrdOf.fit k ds k (ppNew hd ft rs.length i j rs[i].f0[j]) = some t) ∧ (t.f1 + t.f3 ≤ 300 ∧ 1 ≤ t.f1 + t.f3) ∧ ds.length ≤ 100 ∧
      ∀ wd', (wd' = if wd < t.f1 + t.f3 then t.f1 + t.f3 else wd) → ppInvG nc hd ft rs i (j + 1) wd' (ds ++ [t]) := by
  have hl := h.lies hs
  have hf := ppNewG_f2 hs i j hi hj
  have he := ppEnd_in hs.hf hi
  have hc := hs.cx i hi _ (List.getElem_mem hj)
  have hlen := h.len
  have h5 := hs.l5 i hi
  have h8 := hs.n8
  have q0 : (ppNew hd ft rs.length i j rs[i].f0[j]).f0 = i := rfl
  have q1 : (ppNew hd ft rs.length i j rs[i].f0[j]).f1 = 0 := rfl
  have q3 : (ppNew hd ft rs.length i j rs[i].f0[j]).f3 = rs[i].f0[j].f1 := rfl
  have q4 : (ppNew hd ft rs.length i j rs[i].f0[j]).f4 = j := rfl
  have hle : ∀ q : Nat, q ≤ 300 → ppLies 8 1000 { ppNew hd ft rs.length i j rs[i].f0[j] with f1 := (ppNew hd ft rs.length i j rs[i].f0[j]).f1 + q } := by
    intro q hq
    unfold ppLies
    simp only [q0, q1, q3, q4]
    omega
  have h84 := ppFit_280 (ds := ds) (t := ppNew hd ft rs.length i j rs[i].f0[j]) q1 (by omega) (fun d hd => (hl d hd).2) (by omega)
  obtain ⟨e0, e1, e2, e3, e4, e5, e6⟩ := ppFit_keeps ds 300 (ppNew hd ft rs.length i j rs[i].f0[j])
  have hfree := (ppFreeB_iff _ _).1 (e6 (by omega))
  refine ⟨ppFit ds 300 (ppNew hd ft rs.length i j rs[i].f0[j]), fun k hk => ppg_fitI ds (fun y hy => (hl y hy).1) k 300 k _ hle (by omega) (by omega), by omega, by omega, fun wd' hw => ?_⟩
  generalize ppFit ds 300 (ppNew hd ft rs.length i j rs[i].f0[j]) = t at e0 e1 e2 e3 e4 h84 hfree hw
  have hone : ppOneG hd ft rs t := ⟨⟨i, j, hi, hj, by omega, by omega, by omega, e2⟩, by omega, h84⟩
  have hwd := h.wdb
  refine ⟨fun d hd' => ?_, fun p q hp hq hpq => ?_, ?_, ?_, ?_, fun d hd' => ?_⟩
  · rcases List.mem_append.1 hd' with hd' | hd'
    · exact h.one d hd'
    · rw [List.mem_singleton.1 hd']; exact hone
  · by_cases e : p = i ∧ q = j
    · exact ⟨t, List.mem_append_right _ (List.mem_singleton.2 rfl), by omega, by omega⟩
    · obtain ⟨d, hd', e1, e2⟩ := h.all p q hp hq (by omega)
      exact ⟨d, List.mem_append_left _ hd', e1, e2⟩
  · rw [List.length_append, List.length_singleton]
    omega
  · rw [List.pairwise_append]
    exact ⟨h.pw, List.pairwise_singleton _ _, fun x hx y hy => by rw [List.mem_singleton.1 hy]; exact hfree x hx⟩
  · rw [hw]
    split <;> omega
  · rw [hw]
    rcases List.mem_append.1 hd' with hd' | hd'
    · have := h.wdd d hd'
      split <;> omega
    · rw [List.mem_singleton.1 hd']
      split <;> omega
theorem ppInvG.cells (cs : List S59) (gp : Int) {nc : Nat} {hd ft : Int} {rs : List S40} {i : Nat} (hs : ppShG hd ft rs) (hi : i < rs.length) : ∀ (m j : Nat) (wd : Int) (ds : List S47), j + m = rs[i].f0.length → ppInvG nc hd ft rs i j wd ds →
    ∃ (wd' : Int) (ds' : List S47), ppInvG nc hd ft rs i rs[i].f0.length wd' ds' ∧ (∀ k, 400 ≤ k → impl_GrdOf.cs k cs hd ft rs gp rs[i].f0 i m j wd ds = some (wd', ds'))
  | 0, j, wd, ds, hj, h => ⟨wd, ds, by rw [← hj]; exact h, fun _ _ => rfl⟩
  | m + 1, j, wd, ds, hj, h => by
    obtain ⟨t, hI, hb, hlen, hn⟩ := h.step hs hi (show j < rs[i].f0.length by omega)
    obtain ⟨wd', ds', hx, hI2⟩ := ppInvG.cells cs gp hs hi m (j + 1) (if wd < t.f1 + t.f3 then t.f1 + t.f3 else wd) (ds ++ [t]) (by omega) (hn _ rfl)
    have hwd := h.wdb
    have h8 := hs.n8
    have hc := hs.cx i hi _ (List.getElem_mem (show j < rs[i].f0.length by omega))
    have he := ppEnd_in hs.hf hi
    have hjr : rd_T37 rs[i].f0 (j : Int) = rs[i].f0[j] := pp_getD rs[i].f0 j _ (by omega)
    have w2 : wrap64 (ppEnd hd ft rs.length i - (i : Int)) = ppEnd hd ft rs.length i - (i : Int) := pp_wrap_id _ (by omega) (by omega)
    have w3 : wrap64 (t.f1 + t.f3) = t.f1 + t.f3 := pp_wrap_id _ (by omega) (by omega)
    refine ⟨wd', ds', hx, fun k hk => ?_⟩
    obtain ⟨p, hp3, hp, hpe⟩ := ppg_partE cs hd ft rs gp i hs.hf h8.2
    unfold impl_GrdOf.cs
    rw [hp]
    simp only [Option.bind_some]
    rw [if_pos (by omega), hjr, Int.toNat_natCast, hpe, w2]
    have e : (⟨(i : Int), 0, pgMin rs[i].f0[j].f2 (ppEnd hd ft rs.length i - (i : Int)), rs[i].f0[j].f1, (j : Int)⟩ : S47) = ppNew hd ft rs.length i j rs[i].f0[j] := by
      unfold pgMin ppNew
      congr 1
      by_cases q : ppEnd hd ft rs.length i - (i : Int) < rs[i].f0[j].f2
      · rw [if_pos q, if_pos (by omega)]
      · rw [if_neg q, if_neg (by omega)]
    rw [e, hI k hk]
    simp only [Option.bind_some]
    rw [if_pos (by omega), w3]
    exact hI2 k hk
theorem ppInvG.rows (cs : List S59) (gp : Int) {nc : Nat} {hd ft : Int} {rs : List S40} (hs : ppShG hd ft rs) : ∀ (n i : Nat) (wd : Int) (ds : List S47), i + n = rs.length → ppInvG nc hd ft rs i 0 wd ds →
    ∃ (wd' : Int) (ds' : List S47), ppInvG nc hd ft rs rs.length 0 wd' ds' ∧ (∀ k, 400 ≤ k → impl_GrdOf.rs k cs hd ft rs gp n i wd ds = some (wd', ds'))
  | 0, i, wd, ds, hn, h => ⟨wd, ds, by rw [show rs.length = i by omega]; exact h, fun _ _ => rfl⟩
  | n + 1, i, wd, ds, hn, h => by
    have hi : i < rs.length := by omega
    obtain ⟨wd1, ds1, h1, hI1⟩ := ppInvG.cells cs gp hs hi rs[i].f0.length 0 wd ds (by omega) h
    have h5 := hs.l5 i hi
    have h2 : ppInvG nc hd ft rs (i + 1) 0 wd1 ds1 := by
      refine ⟨h1.one, fun p q hp hq hpq => h1.all p q hp hq ?_, by have := h1.len; omega, h1.pw, h1.wdb, h1.wdd⟩
      by_cases e : p = i
      · subst e
        exact .inr ⟨rfl, hq⟩
      · exact .inl (by omega)
    obtain ⟨wd', ds', hx, hI2⟩ := ppInvG.rows cs gp hs n (i + 1) wd1 ds1 (by omega) h2
    have hir : rd_T40 rs (i : Int) = rs[i] := pp_getD rs i _ hi
    refine ⟨wd', ds', hx, fun k hk => ?_⟩
    unfold impl_GrdOf.rs
    rw [hir, hI1 k hk]
    exact hI2 k hk
/-- The grid of a table that is ok. -/
theorem pp_gridG (cs : List S59) (hd ft : Int) (rs : List S40) (gp : Int) (hB : ppTblB cs hd ft rs gp = true) (hfit : ∀ x ∈ rs, ∀ c ∈ x.f0, c.f0.size < 4294967281) :
    ∃ (b : Int) (l : List S47), (∀ k, 400 ≤ k → impl_GrdOf.f k cs hd ft rs gp = some ((rs.length : Int), b, l)) ∧ ppShG hd ft rs ∧ ppInvG cs.length hd ft rs rs.length 0 b l := by
  have hs := ppShG_of hB
  have h8 := (ppg_shape hB).2.1
  have h0 : ppInvG cs.length hd ft rs 0 0 (if (cs.length : Int) < 1 then 1 else (cs.length : Int)) [] := by
    exact { one := fun d hd => absurd hd List.not_mem_nil, all := fun p q hp hq h => absurd h (by omega), len := Nat.le_refl _, pw := List.Pairwise.nil, wdb := (by split <;> omega), wdd := fun d hd => absurd hd List.not_mem_nil }
  obtain ⟨wd, ds, hx, hI⟩ := ppInvG.rows cs gp hs rs.length 0 _ [] (by omega) h0
  refine ⟨wd, ds, fun k hk => ?_, hs, hx⟩
  unfold impl_GrdOf.f
  rw [pp_tblP cs hd ft rs gp hfit k, hB]
  simp only [Option.bind_some, if_true]
  have e : pgMax (cs.length : Int) 1 = if (cs.length : Int) < 1 then 1 else (cs.length : Int) := rfl
  rw [e, hI k hk]
  rfl

theorem ppIdxG_at {α : Type} (p : α → Bool) (l : List α) (h : 0 ≤ ppIdx p l) : ∃ q : (ppIdx p l).toNat < l.length, p l[(ppIdx p l).toNat] = true := by
  unfold ppIdx at h ⊢
  cases hf : l.findIdx? p with
  | none => rw [hf] at h; simp at h
  | some i =>
    rw [List.findIdx?_eq_some_iff_getElem] at hf
    obtain ⟨q, hp, _⟩ := hf
    exact ⟨by simpa using q, by simpa using hp⟩
theorem ppIdxG_some {α : Type} (p : α → Bool) (l : List α) (j : Nat) (hj : j < l.length) (h : p l[j] = true) : 0 ≤ ppIdx p l := by
  unfold ppIdx
  cases hf : l.findIdx? p with
  | none =>
    rw [List.findIdx?_eq_none_iff] at hf
    have := hf _ (List.getElem_mem hj)
    rw [h] at this
    exact absurd this (by simp)
  | some i => simp

theorem pp_copI (cs : List S59) (hd ft : Int) (rs : List S40) (gp : Int) (hb : ppTblB cs hd ft rs gp = true) : Evs (fun k => impl_TblTable_copied.f k cs hd ft rs gp) (fun r => r = (cs, hd, ft, rs, gp)) := by
  obtain ⟨h8, hc8, _, _, hr⟩ := ppTblB_shape hb
  unfold impl_TblTable_copied.f
  refine Evs.up (fun k s i => impl_TblTable_copied.l0 k s rs (rs.length : Int) i cs hd ft rs gp) rs.length (fun i s => s = rs.take i) _ ?_ ?_ [] rfl
  · rintro _ i hi rfl hk
    have hir : rd_T40 rs (i : Int) = rs[i] := pp_getD rs i _ hi
    have h5 : rs[i].f0.length ≤ 5 := by
      have := List.all_eq_true.1 hr _ (List.getElem_mem hi)
      unfold ppRowB at this
      rw [Bool.and_eq_true] at this
      exact of_decide_eq_true this.1
    have ec : impl_TblCell.f (rd_T40 rs (i : Int)).f0 = some (rd_T40 rs (i : Int)).f0 := by
      unfold impl_TblCell.f
      rw [hir, if_pos (by omega)]
    have ew : wrap64 ((i : Int) + 1) = (i : Int) + 1 := pp_wrap_id _ (by omega) (by omega)
    refine Evs.step (fun k => by rw [impl_TblTable_copied.l0, ec, ew]) ?_
    refine Evs.pos (by omega) (Evs.pos (by omega) (Evs.pos (by omega) ?_))
    refine Evs.bnd (Evs.now (P := fun q => q = (rd_T40 rs (i : Int)).f0) rfl) ?_
    rintro _ rfl
    refine Evs.pos (by rw [List.length_take]; omega) (hk _ ?_)
    rw [hir]
    exact (List.take_succ_eq_append_getElem hi).symm
  · rintro _ rfl
    refine Evs.step (fun k => by rw [impl_TblTable_copied.l0]) ?_
    refine Evs.neg (by omega) ?_
    have ec : impl_TblCol.f cs = some cs := by
      unfold impl_TblCol.f
      rw [if_pos (by omega)]
    rw [ec, List.take_length]
    exact Evs.now rfl
theorem pp_copS (cs : List S59) (hd ft : Int) (rs : List S40) (gp : Int) (hb : ppTblB cs hd ft rs gp = true) : Evs (fun k => spec_l2Copy.f k cs hd ft rs gp) (fun r => r = (cs, hd, ft, rs, gp)) := by
  obtain ⟨h8, hc8, _, _, hr⟩ := ppTblB_shape hb
  unfold spec_l2Copy.f
  refine Evs.bnd (Evs.now (P := fun q => q = ([] : List S59)) rfl) ?_
  rintro _ rfl
  refine Evs.pos (by simp only [List.length_nil]; omega) ?_
  refine Evs.up (fun k s i => spec_l2Copy.l0 k i cs hd ft rs gp ([] ++ cs) hd ft s gp) rs.length (fun i s => s = rs.take i) _ ?_ ?_ [] rfl
  · rintro _ i hi rfl hk
    have hir : rd_T40 rs (i : Int) = rs[i] := pp_getD rs i _ hi
    have h5 : rs[i].f0.length ≤ 5 := by
      have := List.all_eq_true.1 hr _ (List.getElem_mem hi)
      unfold ppRowB at this
      rw [Bool.and_eq_true] at this
      exact of_decide_eq_true this.1
    have ew : wrap64 ((i : Int) + 1) = (i : Int) + 1 := pp_wrap_id _ (by omega) (by omega)
    refine Evs.step (fun k => by rw [spec_l2Copy.l0, ew]) ?_
    refine Evs.pos (by omega) ?_
    refine Evs.bnd (Evs.now (P := fun q => q = ([] : List S37)) rfl) ?_
    rintro _ rfl
    refine Evs.pos (by omega) (Evs.pos (by rw [hir, List.length_nil]; omega) (Evs.pos (by rw [List.length_take]; omega) (hk _ ?_)))
    rw [hir, List.nil_append]
    exact (List.take_succ_eq_append_getElem hi).symm
  · rintro _ rfl
    refine Evs.step (fun k => by rw [spec_l2Copy.l0]) ?_
    refine Evs.neg (by omega) ?_
    rw [List.take_length, List.nil_append]
    exact Evs.now rfl

theorem pp_abc : Txt.ppTxtOk (⟨#[97, 98, 32, 99]⟩ : ByteArray) = true := by kernel_rfl
theorem pp_pwOk : laws_pwOk.f = some true := by
  unfold laws_pwOk.f impl_TxtOk.f
  rw [if_pos (by decide), pp_abc]
  rfl

theorem pp_pwTableE (k : Nat) (cs : List S59) (hd ft : Int) (rs : List S40) (gp : Int) : laws_pwTable.f k cs hd ft rs gp cs hd ft rs gp = some true := by
  unfold laws_pwTable.f
  rw [if_pos ⟨rfl, rfl, rfl, rfl, rfl⟩]
/-- What an edit of one cell tells. -/
def ppEdt (cs : List S59) (hd ft : Int) (rs : List S40) (gp row at_ : Int) (ok : Bool) (c : S37) : List S59 × Int × Int × List S40 × Int × Bool :=
  if ppTblB cs hd ft rs gp = true then (if hasP rs row at_ then (if ok = true then (cs, hd, ft, ppSetC rs row at_ c, gp, true) else (cs, hd, ft, rs, gp, false)) else (cs, hd, ft, rs, gp, false)) else ([], 0, 0, [], 0, false)
theorem pp_hasP (rs : List S40) (row at_ : Int) : hasP rs row at_ ↔ ppHasC rs row at_ := by
  unfold hasP ppHasC
  constructor
  · rintro ⟨⟨a, b⟩, c, d⟩
    exact ⟨⟨a, by omega⟩, c, by omega⟩
  · rintro ⟨⟨a, b⟩, c, d⟩
    exact ⟨⟨a, by omega⟩, c, by omega⟩
theorem pp_edtI (cs : List S59) (hd ft : Int) (rs : List S40) (gp row at_ cc rr : Int) (hf : ppFitR rs) : Evs (fun k => impl_EdtSpan.f k cs hd ft rs gp row at_ cc rr) (fun r => r = ppEdt cs hd ft rs gp row at_ (decide (1 ≤ cc ∧ cc ≤ 4) && decide (1 ≤ rr ∧ rr ≤ 4)) { ppCellAt rs row at_ with f1 := cc, f2 := rr }) := by
  unfold impl_EdtSpan.f ppEdt
  refine Evs.bnd (Evs.of 0 (fun k _ => pp_tblP cs hd ft rs gp hf k)) ?_
  rintro _ rfl
  refine Evs.ite (fun hb => ?_) (fun hb => ?_)
  · rw [if_pos hb]
    refine Evs.bnd (pp_copI cs hd ft rs gp hb) ?_
    rintro _ rfl
    refine Evs.of 0 (fun k _ => ?_)
    unfold edCell
    simp only
    by_cases hp : hasP rs row at_
    · rw [if_pos hp, if_pos hp]
      simp only [Option.bind_some]
      cases e : (decide (1 ≤ cc ∧ cc ≤ 4) && decide (1 ≤ rr ∧ rr ≤ 4))
      · rw [if_neg (by decide), if_neg (by decide)]
        exact congrArg (fun q => some (cs, hd, ft, q, gp, false)) (ppSetC_self ((pp_hasP _ _ _).1 hp))
      · rw [if_pos rfl, if_pos rfl]
        rfl
    · rw [if_neg hp, if_neg hp]
      rfl
  · rw [if_neg hb]
    exact Evs.now rfl
theorem pp_edtS (cs : List S59) (hd ft : Int) (rs : List S40) (gp row at_ cc rr : Int) : Evs (fun k => spec_EdtSpan.f k cs hd ft rs gp row at_ cc rr) (fun r => r = ppEdt cs hd ft rs gp row at_ (decide (1 ≤ cc ∧ cc ≤ 4) && decide (1 ≤ rr ∧ rr ≤ 4)) { ppCellAt rs row at_ with f1 := cc, f2 := rr }) := by
  unfold spec_EdtSpan.f ppEdt
  refine Evs.bnd (pp_tblS cs hd ft rs gp) ?_
  rintro _ rfl
  refine Evs.ite (fun hb => ?_) (fun hb => ?_)
  · rw [if_pos hb]
    refine Evs.bnd (pp_copS cs hd ft rs gp hb) ?_
    rintro _ rfl
    simp only
    refine Evs.ite (fun hp => ?_) (fun hp => ?_)
    · refine Evs.bnd (Evs.now (P := fun q => q = (decide (1 ≤ cc ∧ cc ≤ 4) && decide (1 ≤ rr ∧ rr ≤ 4))) rfl) ?_
      rintro _ rfl
      refine Evs.ite (fun ht => ?_) (fun ht => ?_)
      · rw [if_pos ht]
        exact Evs.pos hp (Evs.now (by rw [if_pos hp]; rfl))
      · rw [if_neg ht]
        exact Evs.now (by rw [if_pos hp])
    · rw [if_neg hp]
      exact Evs.now rfl
  · rw [if_neg hb]
    exact Evs.now rfl
theorem pp_fin (cs : List S59) (hd ft : Int) (rs : List S40) (gp row at_ cc rr : Int) (hfit : ppFitR rs) (hB : ppTblB cs hd ft rs gp = true) (hp : hasP rs row at_) (hc : 1 ≤ cc ∧ cc ≤ 4) (hr : 1 ≤ rr ∧ rr ≤ 4) : Evs (fun k => laws_FnEdtSpan.fin k cs hd ft rs gp cs hd ft (ppSetC rs row at_ { ppCellAt rs row at_ with f1 := cc, f2 := rr }) gp row at_ cc rr) (fun r => r = true) := by
  have hh := (pp_hasP _ _ _).1 hp
  have hok := ppTblB_cell hh hB
  have hsize : (ppCellAt rs row at_).f0.size < 4294967281 := hfit _ (ppHasC_mem hh).1 _ (ppHasC_mem hh).2
  have hold : (1 ≤ (ppCellAt rs row at_).f1 ∧ (ppCellAt rs row at_).f1 ≤ 4) ∧ 1 ≤ (ppCellAt rs row at_).f2 ∧ (ppCellAt rs row at_).f2 ≤ 4 := by
    unfold ppCellB at hok
    simp only [Bool.and_eq_true, decide_eq_true_eq] at hok
    exact ⟨hok.1.1.1.1.1.2, hok.1.1.1.1.2⟩
  have hok2 : ppCellB ({ ppCellAt rs row at_ with f1 := cc, f2 := rr } : S37) = true := by
    unfold ppCellB at hok ⊢
    simp only [Bool.and_eq_true, decide_eq_true_eq] at hok ⊢
    exact ⟨⟨⟨⟨⟨⟨hok.1.1.1.1.1.1, hc⟩, hr⟩, hok.1.1.1.2⟩, hok.1.1.2⟩, hok.1.2⟩, hok.2⟩
  have hB2 := ppTblB_set hh hB hok2
  have hfit2 := ppFitR_set hh (c := { ppCellAt rs row at_ with f1 := cc, f2 := rr }) hfit hsize
  have hh2 := ppSetC_has hh ({ ppCellAt rs row at_ with f1 := cc, f2 := rr } : S37)
  have hcell := ppSetC_cell hh ({ ppCellAt rs row at_ with f1 := cc, f2 := rr } : S37)
  unfold laws_FnEdtSpan.fin
  refine Evs.pos ⟨hh.1.1, hh.1.2, hh.2.1, hh.2.2⟩ ?_
  refine Evs.bnd (pp_edtI cs hd ft (ppSetC rs row at_ { ppCellAt rs row at_ with f1 := cc, f2 := rr }) gp row at_ (ppCellAt rs row at_).f1 (ppCellAt rs row at_).f2 hfit2) ?_
  rintro _ rfl
  have e : ppEdt cs hd ft (ppSetC rs row at_ { ppCellAt rs row at_ with f1 := cc, f2 := rr }) gp row at_ (decide (1 ≤ (ppCellAt rs row at_).f1 ∧ (ppCellAt rs row at_).f1 ≤ 4) && decide (1 ≤ (ppCellAt rs row at_).f2 ∧ (ppCellAt rs row at_).f2 ≤ 4)) { ppCellAt (ppSetC rs row at_ { ppCellAt rs row at_ with f1 := cc, f2 := rr }) row at_ with f1 := (ppCellAt rs row at_).f1, f2 := (ppCellAt rs row at_).f2 } = (cs, hd, ft, rs, gp, true) := by
    unfold ppEdt
    rw [if_pos hB2, if_pos ((pp_hasP _ _ _).2 hh2), if_pos (by rw [decide_eq_true hold.1, decide_eq_true hold.2]; rfl), hcell, ppSetC_set hh]
    exact congrArg (fun q => (cs, hd, ft, q, gp, true)) (ppSetC_self hh)
  rw [e]
  obtain ⟨b, l, hI, hs, hx⟩ := pp_gridG cs hd ft (ppSetC rs row at_ { ppCellAt rs row at_ with f1 := cc, f2 := rr }) gp hB2 hfit2
  refine Evs.bnd (Evs.of 400 hI) ?_
  rintro _ rfl
  refine Evs.bnd (Evs.now (P := fun q => q = ppIdx (ppFndB row at_) l) rfl) ?_
  rintro _ rfl
  refine Evs.bnd (Evs.of 0 (fun k _ => pp_tblP cs hd ft _ gp hfit2 k)) ?_
  rintro _ rfl
  generalize ppSetC rs row at_ { ppCellAt rs row at_ with f1 := cc, f2 := rr } = xs at hB2 hfit2 hh2 hcell hs hx
  obtain ⟨n, rfl⟩ : ∃ n : Nat, row = n := ⟨row.toNat, by have := hh2.1.1; omega⟩
  obtain ⟨m, rfl⟩ : ∃ m : Nat, at_ = m := ⟨at_.toNat, by have := hh2.2.1; omega⟩
  have hn : n < xs.length := by have := hh2.1.2; omega
  have hrow : rd_T40 xs (n : Int) = xs[n] := pp_getD xs n _ hn
  have hm : m < xs[n].f0.length := by have := hh2.2.2; rw [hrow] at this; omega
  have hce : xs[n].f0[m] = { ppCellAt rs n m with f1 := cc, f2 := rr } := by
    rw [← hcell]
    unfold ppCellAt
    rw [hrow]
    exact (pp_getD xs[n].f0 m _ hm).symm
  obtain ⟨d, hd', d0, d4⟩ := hx.all n m hn hm (.inl hn)
  obtain ⟨j, hj, rfl⟩ := List.getElem_of_mem hd'
  have h0 := ppIdxG_some (ppFndB (n : Int) (m : Int)) l j hj (decide_eq_true ⟨d0, d4⟩)
  obtain ⟨hq, hf⟩ := ppIdxG_at (ppFndB (n : Int) (m : Int)) l h0
  have hg : rd_T47 l (ppIdx (ppFndB (n : Int) (m : Int)) l) = l[(ppIdx (ppFndB (n : Int) (m : Int)) l).toNat] := by
    unfold rd_T47
    rw [List.getD_eq_getElem?_getD, List.getElem?_eq_getElem hq]
    rfl
  have hone := hx.one _ (List.getElem_mem hq)
  have hfe := of_decide_eq_true hf
  simp only
  rw [hg]
  generalize l[(ppIdx (ppFndB (n : Int) (m : Int)) l).toNat] = gc at hone hfe
  obtain ⟨i', j', hi', hj', e0, e4, e3, e2⟩ := hone.ex
  obtain rfl : i' = n := by omega
  obtain rfl : j' = m := by omega
  have hf2 := ppNewG_f2 hs i' j' hn hm
  rw [hce] at e3 e2 hf2
  rw [← e2] at hf2
  refine Evs.pos ⟨hB2, h0, by omega, e3, hf2.2.1, hf2.1, trivial⟩ ?_
  exact Evs.of 0 (fun k _ => pp_pwTableE k _ _ _ _ _)
theorem pp_drawSpan (l : List Int) (h : ∀ x ∈ l, (Lit.int .u8 x).wf = true) : Evs (fun k => spec_DrawEdtSpan.f k l) (fun r => ppDrs r.2.2.2.1) := by
  obtain ⟨b, e, hb⟩ := pp_open l h
  unfold spec_DrawEdtSpan.f spec_l20AnyTable.f
  rw [e]
  simp only [Option.bind_some]
  refine Evs.bnd (P := fun r => ppDrs r.2.2.2.1 ∧ 0 ≤ r.2.2.2.2.2 ∧ r.2.2.2.2.2 ≤ 3000) ?_ ?_
  · refine Evs.bnd (ppd_anyP b hb 0 16 (by omega) (by omega) (by omega)) (fun t ht => ?_)
    exact Evs.now ⟨ht.1, by simpa using ht.2.1, by simpa using ht.2.2⟩
  rintro ⟨cs, hd, ft, rs, gp, p⟩ ⟨hdr, p0, p1⟩
  simp only at hdr p0 p1 ⊢
  refine Evs.bnd (pp_pick b hb p 5 p0 (by omega) (by omega)) ?_
  rintro ⟨row, q⟩ ⟨hq, _, _, _⟩
  simp only at hq ⊢
  refine Evs.bnd (pp_pick b hb q 4 (by omega) (by omega) (by omega)) ?_
  rintro ⟨at_, q2⟩ ⟨hq2, _, _, _⟩
  simp only at hq2 ⊢
  refine Evs.bnd (pp_pick b hb q2 6 (by omega) (by omega) (by omega)) ?_
  rintro ⟨cc, q3⟩ ⟨hq3, _, _, _⟩
  simp only at hq3 ⊢
  refine Evs.bnd (pp_pick b hb q3 6 (by omega) (by omega) (by omega)) ?_
  rintro ⟨rr, q4⟩ ⟨hq4, _, _, _⟩
  exact Evs.now hdr
theorem FnEdtSpan : ∀ (l0 : List (Int)), (l0.length ≤ 9223372036854775807 ∧ ∀ (x : Int), x ∈ l0 → (Lit.int .u8 x).wf = true) → ∃ k, laws_FnEdtSpan.f k l0 = some true := by
  intro l0 h
  refine Evs.ends ?_
  unfold laws_FnEdtSpan.f
  refine Evs.ite (fun _ => Evs.now rfl) (fun _ => ?_)
  refine Evs.bnd (pp_drawSpan l0 h.2) ?_
  rintro ⟨cs, hd, ft, rs, gp, row, at_, cc, rr⟩ hdr
  simp only at hdr ⊢
  have hfit := ppFitR_drs hdr
  refine Evs.bnd (pp_edtI cs hd ft rs gp row at_ cc rr hfit) ?_
  rintro _ rfl
  refine Evs.bnd (pp_edtS cs hd ft rs gp row at_ cc rr) ?_
  rintro _ rfl
  refine Evs.pos rfl (Evs.bnd (Evs.of 0 (fun k _ => pp_pwTableE k _ _ _ _ _)) ?_)
  rintro _ rfl
  refine Evs.bnd (pp_tblS cs hd ft rs gp) ?_
  rintro _ rfl
  refine Evs.pos rfl ?_
  unfold ppEdt
  by_cases hB : ppTblB cs hd ft rs gp = true
  · rw [if_pos hB]
    refine Evs.pos hB ?_
    by_cases hp : hasP rs row at_
    · rw [if_pos hp]
      by_cases ht : (decide (1 ≤ cc ∧ cc ≤ 4) && decide (1 ≤ rr ∧ rr ≤ 4)) = true
      · rw [if_pos ht]
        rw [Bool.and_eq_true] at ht
        exact Evs.pos rfl (pp_fin cs hd ft rs gp row at_ cc rr hfit hB hp (of_decide_eq_true ht.1) (of_decide_eq_true ht.2))
      · rw [if_neg ht]
        exact Evs.neg (by simp) (Evs.of 0 (fun k _ => pp_pwTableE k _ _ _ _ _))
    · rw [if_neg hp]
      exact Evs.neg (by simp) (Evs.of 0 (fun k _ => pp_pwTableE k _ _ _ _ _))
  · rw [if_neg hB]
    refine Evs.neg hB (Evs.pos rfl (Evs.bnd (Evs.of 0 (fun k _ => pp_pwTableE k _ _ _ _ _)) ?_))
    rintro _ rfl
    rw [pp_pwOk]
    exact Evs.pos rfl (Evs.now rfl)

end Go.Proofs.YtpmbglbfoaejaaaDoor.Pure
