/-
  a drawn cell is as wide as from its first column's beginning to its last one's end, if columns have it; impl and spec agree on it; at all draws.
  Conditions: none but those of the statement.
-/
import Derived.Test.YtfcacpbblkahdaaDoorPFnWidCellx5
namespace Go.Proofs.YtfcacpbblkahdaaDoor.Pure
open Go.RowKit Go.Proofs.YtfcacpbblkahdaaDoor.PFnWidCell Go.Proofs.YtfcacpbblkahdaaDoorW.PrintWords Go.Proofs.YtfcacpbblkahdaaDoorW.PrintLast Go.Proofs.YtfcacpbblkahdaaDoorW.PrintMore
set_option linter.unusedVariables false
set_option linter.unusedSimpArgs false

theorem pp_wrap_l (a b : Int) : wrap64 (wrap64 a + b) = wrap64 (a + b) := by unfold wrap64; omega
theorem pp_wrap_r (a b : Int) : wrap64 (a + wrap64 b) = wrap64 (a + b) := by unfold wrap64; omega
theorem pp_wrap_id (a : Int) (h : -9223372036854775808 ≤ a) (h' : a ≤ 9223372036854775807) : wrap64 a = a := by unfold wrap64; omega
theorem pp_wrap_0 : wrap64 0 = 0 := by unfold wrap64; omega
theorem pp_wf (a : Int) (h : (Lit.int .i64 a).wf = true) : -9223372036854775808 ≤ a ∧ a ≤ 9223372036854775807 := by
  simp [Lit.wf, IntKind.min, IntKind.max, IntKind.signed, IntKind.bits] at h; omega
theorem pp_wfi (a : Int) (h : -9223372036854775808 ≤ a) (h' : a ≤ 9223372036854775807) : (Lit.int .i64 a).wf = true := by
  simp [Lit.wf, IntKind.min, IntKind.max, IntKind.signed, IntKind.bits]; omega

theorem pp_sum_take (l : List Int) (i : Nat) (h : i < l.length) : (l.take (i + 1)).sum = (l.take i).sum + rd l (i : Int) := by
  rw [List.take_succ_eq_append_getElem h, List.sum_append]
  simp [rd, List.getD_eq_getElem?_getD, List.getElem?_eq_getElem h]

theorem pp_sumOf_loop (l : List Int) (hl : l.length ≤ 9223372036854775807) : ∀ (d i k : Nat), l.length - i = d → i ≤ l.length → d < k →
    impl_sumOf.l0 k (wrap64 (l.take i).sum) l (l.length : Int) (i : Int) = some (wrap64 l.sum) := by
  intro d
  induction d with
  | zero =>
    intro i k hd hi hk
    obtain ⟨k, rfl⟩ : ∃ m, k = m + 1 := ⟨k - 1, by omega⟩
    simp only [impl_sumOf.l0]
    rw [if_neg (by omega), List.take_of_length_le (by omega)]
  | succ d ih =>
    intro i k hd hi hk
    obtain ⟨k, rfl⟩ : ∃ m, k = m + 1 := ⟨k - 1, by omega⟩
    simp only [impl_sumOf.l0]
    rw [if_pos (by omega), if_pos (by omega), if_pos (by omega), pp_wrap_id ((i : Int) + 1) (by omega) (by omega), pp_wrap_l, ← pp_sum_take l i (by omega)]
    have := ih (i + 1) k (by omega) (by omega) (by omega)
    simpa using this
theorem pp_sumOf (l : List Int) (hl : l.length ≤ 9223372036854775807) (k : Nat) (hk : l.length < k) : impl_sumOf.f k l = some (wrap64 l.sum) := by
  unfold impl_sumOf.f
  have := pp_sumOf_loop l hl l.length 0 k (by omega) (by omega) hk
  simpa [pp_wrap_0] using this

/-- How many columns lie ahead. -/
def ppAhead (l : List Int) (c : Int) : Nat := min c.toNat l.length
theorem pp_ahead_le (l : List Int) (c : Int) : ppAhead l c ≤ l.length := by unfold ppAhead; omega
theorem pp_implWidAt (l : List Int) (hl : l.length ≤ 9223372036854775807) (gap col : Int) (k : Nat) (hk : l.length < k) :
    impl_WidAt.f k l gap col = some (wrap64 ((l.take (ppAhead l col)).sum + gap * (ppAhead l col : Int))) := by
  have hm : (mx (mn col (l.length : Int)) 0) = (ppAhead l col : Int) := by unfold mx mn ppAhead; split <;> split <;> omega
  have hle := pp_ahead_le l col
  unfold impl_WidAt.f
  rw [hm, if_pos (by omega), if_pos (by omega), Int.toNat_natCast, pp_sumOf _ (by rw [List.length_take]; omega) k (by rw [List.length_take]; omega)]
  simp only [Option.bind_some, List.length_take]
  rw [pp_wrap_l, pp_wrap_r, Nat.min_eq_left hle]

/-- Whether a number is one of so many from another one on. -/
def ppAmong (n f m : Int) : Bool := decide (f ≤ n) && (decide (0 < m) && decide (n - f < m))
theorem pp_implAmong (n f m : Int) (hn : (Lit.int .i64 n).wf = true) (hf : (Lit.int .i64 f).wf = true) (hm : (Lit.int .i64 m).wf = true) : impl_among.f n f m = some (ppAmong n f m) := by
  have := pp_wf n hn
  have := pp_wf f hf
  have := pp_wf m hm
  unfold impl_among.f ppAmong
  by_cases h0 : n ≥ f
  · by_cases h1 : m > 0
    · rw [if_pos h0, if_pos h1]
      simp only [IntKind.wrap_u64, Option.some.injEq]
      rw [Bool.eq_iff_iff]
      simp
      omega
    · rw [if_pos h0, if_neg h1]
      simp
      omega
  · rw [if_neg h0]
    simp
    omega
theorem pp_specAmong (n f m : Int) (hn : (Lit.int .i64 n).wf = true) (hf : (Lit.int .i64 f).wf = true) (hm : (Lit.int .i64 m).wf = true) (k : Nat) (hk : 0 < k) : spec_l1Among.f k n f m = some (ppAmong n f m) := by
  have := pp_wf n hn
  have := pp_wf f hf
  have := pp_wf m hm
  obtain ⟨k, rfl⟩ : ∃ q, k = q + 1 := ⟨k - 1, by omega⟩
  unfold spec_l1Among.f ppAmong
  simp only [spec_l1Among.j0]
  by_cases h0 : n < f
  · rw [if_pos h0]
    simp
    omega
  · rw [if_neg h0]
    by_cases h1 : m ≤ 0
    · rw [if_pos (by simpa using h1)]
      simp
      omega
    · rw [if_neg (by simpa using h1)]
      by_cases h2 : f < 0
      · rw [if_pos h2]
        by_cases h3 : n ≥ 0
        · rw [if_pos h3, pp_wrap_id _ (by omega) (by omega)]
          simp only [Option.some.injEq]
          rw [Bool.eq_iff_iff]
          simp
          omega
        · rw [if_neg h3, pp_wrap_id _ (by omega) (by omega)]
          simp only [Option.some.injEq]
          rw [Bool.eq_iff_iff]
          simp
          omega
      · rw [if_neg h2, pp_wrap_id _ (by omega) (by omega)]
        simp only [Option.some.injEq]
        rw [Bool.eq_iff_iff]
        simp
        omega

/-- Those of a list, from place i on, whose places are among some. -/
def ppSome (f m : Int) : List Int → Int → List Int
  | [], _ => []
  | x :: xs, i => (if ppAmong i f m = true then [x] else []) ++ ppSome f m xs (i + 1)
theorem ppSome_length (f m : Int) : ∀ (xs : List Int) (i : Int), (ppSome f m xs i).length ≤ xs.length
  | [], _ => by simp [ppSome]
  | x :: xs, i => by
    have := ppSome_length f m xs (i + 1)
    unfold ppSome
    rw [List.length_append, List.length_cons]
    split <;> simp <;> omega
theorem pp_nat_wf (i : Nat) (h : i ≤ 9223372036854775807) : (Lit.int .i64 (i : Int)).wf = true := by
  simp [Lit.wf, IntKind.min, IntKind.max, IntKind.signed, IntKind.bits]; omega
theorem pp_drop_rd (l : List Int) (i : Nat) (h : i < l.length) : l.drop i = rd l (i : Int) :: l.drop (i + 1) := by
  rw [List.drop_eq_getElem_cons h]
  simp [rd, List.getD_eq_getElem?_getD, List.getElem?_eq_getElem h]
theorem pp_some_loop (l : List Int) (hl : l.length ≤ 17592186044415) (f m : Int) (hf : (Lit.int .i64 f).wf = true) (hm : (Lit.int .i64 m).wf = true) : ∀ (d i k : Nat) (out : List Int), l.length - i = d → i ≤ l.length → d < k → out.length ≤ i →
    impl_some.l0 k f m out l (l.length : Int) (i : Int) = some (out ++ ppSome f m (l.drop i) (i : Int)) := by
  intro d
  induction d with
  | zero =>
    intro i k out hd hi hk ho
    obtain ⟨k, rfl⟩ : ∃ m, k = m + 1 := ⟨k - 1, by omega⟩
    simp only [impl_some.l0]
    rw [if_neg (by omega), List.drop_of_length_le (by omega)]
    simp [ppSome]
  | succ d ih =>
    intro i k out hd hi hk ho
    obtain ⟨k, rfl⟩ : ∃ m, k = m + 1 := ⟨k - 1, by omega⟩
    simp only [impl_some.l0]
    rw [if_pos (by omega), if_pos (by omega), if_pos (by omega), pp_implAmong (i : Int) f m (pp_nat_wf i (by omega)) hf hm, pp_wrap_id ((i : Int) + 1) (by omega) (by omega)]
    simp only [Option.bind_some]
    rw [pp_drop_rd l i (by omega)]
    cases hb : ppAmong (i : Int) f m with
    | true =>
      rw [if_pos rfl, if_pos (by omega)]
      have := ih (i + 1) k (out ++ [rd l (i : Int)]) (by omega) (by omega) (by omega) (by simp; omega)
      simp only [Int.natCast_add, Int.cast_ofNat_Int] at this
      rw [this]
      simp [ppSome, hb]
    | false =>
      rw [if_neg (by simp)]
      have := ih (i + 1) k out (by omega) (by omega) (by omega) (by omega)
      simp only [Int.natCast_add, Int.cast_ofNat_Int] at this
      rw [this]
      simp [ppSome, hb]
theorem pp_some (l : List Int) (hl : l.length ≤ 17592186044415) (f m : Int) (hf : (Lit.int .i64 f).wf = true) (hm : (Lit.int .i64 m).wf = true) (k : Nat) (hk : l.length < k) : impl_some.f k l f m = some (ppSome f m l 0) := by
  unfold impl_some.f
  have := pp_some_loop l hl f m hf hm l.length 0 k [] (by omega) (by omega) hk (by simp)
  simpa using this

theorem pp_specWidCell_loop (l : List Int) (hl : l.length ≤ 17592186044415) (gap f m y0 y1 y2 : Int) (hf : (Lit.int .i64 f).wf = true) (hm : (Lit.int .i64 m).wf = true) : ∀ (d i k n : Nat) (acc : Int), l.length - i = d → i ≤ l.length → d < k → 0 < k → n ≤ i → (n = 0 → acc = 0) →
    spec_WidCell.l0 k l gap (wrap64 (acc + gap * ((n : Int) - 1) * (if n = 0 then 0 else 1))) (decide (0 < n)) (i : Int) y0 f y1 m y2 =
      some (wrap64 (acc + (ppSome f m (l.drop i) (i : Int)).sum + gap * mx (((n + (ppSome f m (l.drop i) (i : Int)).length : Nat) : Int) - 1) 0)) := by
  intro d
  induction d with
  | zero =>
    intro i k n acc hd hi hk hk0 hn h0
    obtain ⟨k, rfl⟩ : ∃ m, k = m + 1 := ⟨k - 1, by omega⟩
    simp only [spec_WidCell.l0]
    rw [if_neg (by omega), List.drop_of_length_le (by omega)]
    simp only [ppSome, List.sum_nil, List.length_nil, Nat.add_zero, Int.add_zero]
    by_cases hz : n = 0
    · subst hz
      simp [mx]
    · rw [if_neg hz, Int.mul_one, show mx ((n : Int) - 1) 0 = (n : Int) - 1 by unfold mx; split <;> omega]
  | succ d ih =>
    intro i k n acc hd hi hk hk0 hn h0
    obtain ⟨k, rfl⟩ : ∃ m, k = m + 1 := ⟨k - 1, by omega⟩
    simp only [spec_WidCell.l0]
    rw [if_pos (by omega), pp_specAmong (i : Int) f m (pp_nat_wf i (by omega)) hf hm k (by omega), pp_wrap_id ((i : Int) + 1) (by omega) (by omega)]
    simp only [Option.bind_some]
    rw [pp_drop_rd l i (by omega)]
    cases hb : ppAmong (i : Int) f m with
    | true =>
      rw [if_pos rfl]
      have := ih (i + 1) k (n + 1) (acc + rd l (i : Int)) (by omega) (by omega) (by omega) (by omega) (by omega) (by omega)
      simp only [Int.natCast_add, Int.cast_ofNat_Int] at this
      have el : (n + 1 + (ppSome f m (l.drop (i + 1)) ((i : Int) + 1)).length : Nat) = n + (ppSome f m (rd l (i : Int) :: l.drop (i + 1)) (i : Int)).length := by
        simp [ppSome, hb]; omega
      have es : acc + (ppSome f m (rd l (i : Int) :: l.drop (i + 1)) (i : Int)).sum = acc + rd l (i : Int) + (ppSome f m (l.drop (i + 1)) ((i : Int) + 1)).sum := by
        simp [ppSome, hb, Int.add_assoc]
      rw [es, ← el]
      by_cases hz : n = 0
      · subst hz
        rw [if_neg (by simp), if_pos (by omega)]
        have h0 := h0 rfl
        subst h0
        have e : wrap64 (wrap64 (0 + gap * (((0 : Nat) : Int) - 1) * (if 0 = 0 then 0 else 1)) + rd l (i : Int)) = wrap64 (0 + rd l (i : Int) + gap * (((0 : Nat) : Int) + 1 - 1) * (if 0 + 1 = 0 then 0 else 1)) := by
          simp [pp_wrap_0]
        rw [e]
        simpa using this
      · rw [if_pos (by simp; omega), if_pos (by omega)]
        have e : wrap64 (wrap64 (wrap64 (acc + gap * ((n : Int) - 1) * (if n = 0 then 0 else 1)) + gap) + rd l (i : Int)) = wrap64 (acc + rd l (i : Int) + gap * ((n : Int) + 1 - 1) * (if n + 1 = 0 then 0 else 1)) := by
          rw [if_neg hz, if_neg (by omega), Int.mul_one, Int.mul_one, Int.add_sub_cancel, Int.mul_sub, Int.mul_one]
          unfold wrap64
          omega
        rw [e]
        simpa using this
    | false =>
      rw [if_neg (by simp)]
      have := ih (i + 1) k n acc (by omega) (by omega) (by omega) (by omega) (by omega) h0
      simp only [Int.natCast_add, Int.cast_ofNat_Int] at this
      rw [this]
      simp [ppSome, hb]
theorem pp_specWidCell (l : List Int) (hl : l.length ≤ 17592186044415) (gap y0 f y1 m y2 : Int) (hf : (Lit.int .i64 f).wf = true) (hm : (Lit.int .i64 m).wf = true) (k : Nat) (hk : l.length < k) :
    spec_WidCell.f k l gap y0 f y1 m y2 = some (wrap64 ((ppSome f m l 0).sum + gap * mx (((ppSome f m l 0).length : Int) - 1) 0)) := by
  unfold spec_WidCell.f
  have := pp_specWidCell_loop l hl gap f m y0 y1 y2 hf hm l.length 0 k 0 0 (by omega) (by omega) hk (by omega) (by omega) (by simp)
  simpa [pp_wrap_0] using this
theorem pp_implWidCell (l : List Int) (hl : l.length ≤ 17592186044415) (gap y0 f y1 m y2 : Int) (hf : (Lit.int .i64 f).wf = true) (hm : (Lit.int .i64 m).wf = true) (k : Nat) (hk : l.length < k) :
    impl_WidCell.f k l gap y0 f y1 m y2 = some (wrap64 ((ppSome f m l 0).sum + gap * mx (((ppSome f m l 0).length : Int) - 1) 0)) := by
  have hs := ppSome_length f m l 0
  unfold impl_WidCell.f impl_wide.f
  rw [pp_some l hl f m hf hm k hk]
  simp only [Option.bind_some]
  rw [pp_sumOf _ (by omega) k (by omega), pp_wrap_id (((ppSome f m l 0).length : Int) - 1) (by omega) (by omega)]
  simp only [Option.bind_some]
  rw [pp_wrap_l, pp_wrap_r]

theorem pp_some_cut (f m : Int) : ∀ (l : List Int) (i : Int), ppSome f m l i = (l.drop (f - i).toNat).take (f + m - max i f).toNat
  | [], i => by simp [ppSome]
  | x :: xs, i => by
    unfold ppSome
    rw [pp_some_cut f m xs (i + 1)]
    by_cases hb : ppAmong i f m = true
    · rw [if_pos hb]
      have h : f ≤ i ∧ 0 < m ∧ i - f < m := by simpa [ppAmong] using hb
      have e1 : (f - i).toNat = 0 := by omega
      have e2 : (f - (i + 1)).toNat = 0 := by omega
      obtain ⟨n, hn⟩ : ∃ n, (f + m - max i f).toNat = n + 1 := ⟨(f + m - max i f).toNat - 1, by omega⟩
      have e3 : (f + m - max (i + 1) f).toNat = n := by omega
      rw [e1, e2, hn, e3]
      simp
    · rw [if_neg hb]
      have h : ¬ (f ≤ i ∧ 0 < m ∧ i - f < m) := by simpa [ppAmong] using hb
      by_cases hi : i < f
      · obtain ⟨n, hn⟩ : ∃ n, (f - i).toNat = n + 1 := ⟨(f - i).toNat - 1, by omega⟩
        have e2 : (f - (i + 1)).toNat = n := by omega
        have e3 : (f + m - max (i + 1) f).toNat = (f + m - max i f).toNat := by omega
        rw [hn, e2, e3]
        simp
      · have e3 : (f + m - max i f).toNat = 0 := by omega
        have e4 : (f + m - max (i + 1) f).toNat = 0 := by omega
        rw [e3, e4]
        simp
theorem pp_sum_cut (l : List Int) (a b : Nat) : ((l.drop a).take b).sum = (l.take (a + b)).sum - (l.take a).sum := by
  have h : l.take (a + b) = l.take a ++ (l.drop a).take b := by rw [List.take_add]
  rw [h, List.sum_append]
  omega

/-- With enough rounds g answers, and P holds of the answer. -/
def Evs {α : Type} (g : Nat → Option α) (P : α → Prop) : Prop := ∃ r K, P r ∧ ∀ k, K ≤ k → g k = some r
theorem Evs.now {α : Type} {P : α → Prop} {r : α} (h : P r) : Evs (fun _ => some r) P := ⟨r, 0, h, fun _ _ => rfl⟩
theorem Evs.bnd {α β : Type} {g : Nat → Option α} {f : Nat → α → Option β} {P : α → Prop} {Q : β → Prop} (h : Evs g P) (k : ∀ a, P a → Evs (fun n => f n a) Q) : Evs (fun n => (g n).bind (f n)) Q := by
  obtain ⟨a, K, hP, h⟩ := h
  obtain ⟨r, K', hQ, k⟩ := k a hP
  refine ⟨r, max K K', hQ, fun n hn => ?_⟩
  show (g n).bind (f n) = some r
  rw [h n (by omega)]
  exact k n (by omega)
theorem Evs.step {α : Type} {g f : Nat → Option α} {P : α → Prop} (h : ∀ k, g (k + 1) = f k) (k : Evs f P) : Evs g P := by
  obtain ⟨r, K, hP, k⟩ := k
  refine ⟨r, K + 1, hP, fun n hn => ?_⟩
  obtain ⟨m, rfl⟩ : ∃ m, n = m + 1 := ⟨n - 1, by omega⟩
  rw [h]
  exact k m (by omega)
theorem Evs.cong {α : Type} {g f : Nat → Option α} {P : α → Prop} (h : ∀ k, g k = f k) (k : Evs f P) : Evs g P := by
  obtain ⟨r, K, hP, k⟩ := k
  exact ⟨r, K, hP, fun n hn => (h n).trans (k n hn)⟩
theorem Evs.imp {α : Type} {g : Nat → Option α} {P Q : α → Prop} (h : Evs g P) (hq : ∀ r, P r → Q r) : Evs g Q := by
  obtain ⟨r, K, hP, k⟩ := h
  exact ⟨r, K, hq r hP, k⟩
theorem Evs.of {α : Type} {g : Nat → Option α} {r : α} (K : Nat) (h : ∀ k, K ≤ k → g k = some r) : Evs g (fun q => q = r) := ⟨r, K, rfl, h⟩
theorem Evs.ends {α : Type} {g : Nat → Option α} {r : α} (h : Evs g (fun q => q = r)) : ∃ k, g k = some r := by
  obtain ⟨q, K, rfl, k⟩ := h
  exact ⟨K, k K (Nat.le_refl _)⟩
theorem Evs.pos {α : Type} {g f : Nat → Option α} {c : Prop} [Decidable c] {P : α → Prop} (hc : c) (h : Evs g P) : Evs (fun k => if c then g k else f k) P := h.cong (fun k => if_pos hc)
theorem Evs.neg {α : Type} {g f : Nat → Option α} {c : Prop} [Decidable c] {P : α → Prop} (hc : ¬ c) (h : Evs f P) : Evs (fun k => if c then g k else f k) P := h.cong (fun k => if_neg hc)
theorem Evs.ite {α : Type} {g f : Nat → Option α} {c : Prop} [Decidable c] {P : α → Prop} (h : c → Evs g P) (h' : ¬ c → Evs f P) : Evs (fun k => if c then g k else f k) P := by
  by_cases hc : c
  · exact Evs.pos hc (h hc)
  · exact Evs.neg hc (h' hc)
/-- A loop that counts up. -/
theorem Evs.up {σ ρ : Type} (E : Nat → σ → Int → Option ρ) (n : Nat) (Inv : Nat → σ → Prop) (Post : ρ → Prop)
    (hs : ∀ s (i : Nat), i < n → Inv i s → (∀ s', Inv (i + 1) s' → Evs (fun k => E k s' ((i : Int) + 1)) Post) → Evs (fun k => E k s (i : Int)) Post)
    (he : ∀ s, Inv n s → Evs (fun k => E k s (n : Int)) Post) : ∀ s, Inv 0 s → Evs (fun k => E k s 0) Post := by
  have key : ∀ (d i : Nat) (s : σ), n - i = d → i ≤ n → Inv i s → Evs (fun k => E k s (i : Int)) Post := by
    intro d
    induction d with
    | zero =>
      intro i s hd hi hI
      obtain rfl : i = n := by omega
      exact he s hI
    | succ d ih =>
      intro i s hd hi hI
      exact hs s i (by omega) hI (fun s' hI' => by simpa using ih (i + 1) s' (by omega) (by omega) hI')
  intro s hI
  simpa using key n 0 s (by omega) (by omega) hI

/-- A loop that counts up: rounds keep Inv or leave with Post; at the end it leaves with Post. -/
theorem pp_lp {σ ρ : Type} (E : Nat → σ → Int → Option ρ) (n : Nat) (Inv : Nat → σ → Prop) (Post : ρ → Prop)
    (hs : ∀ k s (i : Nat), i < n → Inv i s → (∃ s', Inv (i + 1) s' ∧ E (k + 1) s (i : Int) = E k s' ((i : Int) + 1)) ∨ ∃ r, Post r ∧ E (k + 1) s (i : Int) = some r)
    (he : ∀ k s, Inv n s → ∃ r, Post r ∧ E (k + 1) s (n : Int) = some r) :
    ∀ (d i : Nat) (s : σ) (k : Nat), n - i = d → i ≤ n → Inv i s → d < k → ∃ r, Post r ∧ E k s (i : Int) = some r := by
  intro d
  induction d with
  | zero =>
    intro i s k hd hi hI hk
    obtain ⟨k, rfl⟩ : ∃ m, k = m + 1 := ⟨k - 1, by omega⟩
    obtain rfl : i = n := by omega
    exact he k s hI
  | succ d ih =>
    intro i s k hd hi hI hk
    obtain ⟨k, rfl⟩ : ∃ m, k = m + 1 := ⟨k - 1, by omega⟩
    rcases hs k s i (by omega) hI with ⟨s', hI', he'⟩ | h
    · obtain ⟨r, hr, e⟩ := ih (i + 1) s' k (by omega) (by omega) hI' (by omega)
      exact ⟨r, hr, by rw [he']; simpa using e⟩
    · exact h
/-- .. whose state is known at each place. -/
theorem pp_lpE {σ ρ : Type} (E : Nat → σ → Int → Option ρ) (n : Nat) (st : Nat → σ) (r : ρ)
    (hs : ∀ k (i : Nat), i < n → E (k + 1) (st i) (i : Int) = E k (st (i + 1)) ((i : Int) + 1)) (he : ∀ k, E (k + 1) (st n) (n : Int) = some r) (k : Nat) (hk : n < k) : E k (st 0) 0 = some r := by
  obtain ⟨q, hq, h⟩ := pp_lp E n (fun i s => s = st i) (fun q => q = r) (fun k s i hi h => .inl ⟨st (i + 1), rfl, by rw [h]; exact hs k i hi⟩) (fun k s h => ⟨r, rfl, by rw [h]; exact he k⟩) n 0 (st 0) k (by omega) (by omega) rfl hk
  rw [← hq]; simpa using h
/-- .. that fills a row. -/
theorem pp_fill {α β : Type} (L : Nat → List β → Int → Option (List β)) (g : α → β) (xs : List α) (z : β)
    (hs : ∀ k out (i : Nat) (h : i < xs.length), out.length = xs.length → L (k + 1) out (i : Int) = L k (out.set i (g xs[i])) ((i : Int) + 1)) (he : ∀ k out, L (k + 1) out (xs.length : Int) = some out)
    (k : Nat) (hk : xs.length < k) : L k (List.replicate xs.length z) 0 = some (xs.map g) := by
  obtain ⟨r, hr, h⟩ := pp_lp L xs.length (fun i out => out.length = xs.length ∧ out.take i = (xs.map g).take i) (fun r => r = xs.map g)
    (fun k out i hi ⟨h1, h2⟩ => .inl ⟨out.set i (g xs[i]), ⟨by simpa using h1, by
      rw [List.take_succ_eq_append_getElem (by simpa [h1] using hi), List.take_succ_eq_append_getElem (by simpa using hi), List.take_set_of_le (by omega), h2]
      simp⟩, hs k out i hi h1⟩)
    (fun k out ⟨h1, h2⟩ => ⟨out, by
      rw [List.take_of_length_le (by omega), List.take_of_length_le (by simp)] at h2
      exact h2, he k out⟩) xs.length 0 (List.replicate xs.length z) k (by omega) (by omega) ⟨by simp, by simp⟩ hk
  rw [← hr]; simpa using h
theorem pp_getD {α : Type} (l : List α) (i : Nat) (z : α) (h : i < l.length) : l.getD (i : Int).toNat z = l[i] := by
  simp [List.getD_eq_getElem?_getD, List.getElem?_eq_getElem h]
theorem pp_rd {l : List Int} {i : Nat} (h : i < l.length) : rd l (i : Int) = l[i] := pp_getD l i 0 h

/-- What a reader reads: bytes, no more than 2000. -/
def ppRd (l : List Int) : Prop := l.length ≤ 2000 ∧ ∀ x ∈ l, 0 ≤ x ∧ x ≤ 255
theorem pp_u8 (l : List Int) (h : ∀ x ∈ l, (Lit.int .u8 x).wf = true) : ∀ x ∈ l, 0 ≤ x ∧ x ≤ 255 := by
  intro x hx
  have := h x hx
  simp [Lit.wf, IntKind.min, IntKind.max, IntKind.signed, IntKind.bits] at this
  omega
theorem pp_rdb (l : List Int) (h : ∀ x ∈ l, 0 ≤ x ∧ x ≤ 255) (i : Int) : 0 ≤ rd l i ∧ rd l i ≤ 255 := by
  unfold rd
  rw [List.getD_eq_getElem?_getD]
  cases e : l[i.toNat]? with
  | none => simp
  | some v => exact h v (List.mem_of_getElem? e)
theorem pp_open (l : List Int) (h : ∀ x ∈ l, (Lit.int .u8 x).wf = true) : ∃ b, spec_l20Open.f l = some (b, 0) ∧ ppRd b := by
  unfold spec_l20Open.f
  by_cases hl : (l.length : Int) > 2000
  · rw [if_pos hl, if_pos (by omega)]
    exact ⟨_, rfl, by rw [List.length_take]; omega, fun x hx => pp_u8 l h x (List.mem_of_mem_take hx)⟩
  · rw [if_neg hl]
    exact ⟨_, rfl, by omega, pp_u8 l h⟩
theorem pp_xor (x y : Int) (hx : 0 ≤ x) (hy : 0 ≤ y) (hx' : x < 4611686018427387904) (hy' : y < 4611686018427387904) : 0 ≤ Go.bits .xor .i64 x y ∧ Go.bits .xor .i64 x y < 4611686018427387904 := by
  obtain ⟨a, rfl⟩ : ∃ a : Nat, x = a := ⟨x.toNat, by omega⟩
  obtain ⟨b, rfl⟩ : ∃ b : Nat, y = b := ⟨y.toNat, by omega⟩
  have ha : a % 2 ^ 64 = a := Nat.mod_eq_of_lt (by omega)
  have hb : b % 2 ^ 64 = b := Nat.mod_eq_of_lt (by omega)
  have hlt : a ^^^ b < 2 ^ 62 := Nat.xor_lt_two_pow (by omega) (by omega)
  have e : Go.bits .xor .i64 (a : Int) (b : Int) = IntKind.i64.wrap ((a ^^^ b : Nat) : Int) := by
    have q : (BitVec.ofNat 64 a ^^^ BitVec.ofNat 64 b).toNat = a ^^^ b := by rw [BitVec.toNat_xor, BitVec.toNat_ofNat, BitVec.toNat_ofNat, ha, hb]
    simp only [Go.bits, BitVec.ofInt_natCast, IntKind.bits]
    exact congrArg (fun z : Nat => IntKind.i64.wrap (z : Int)) q
  rw [e, IntKind.wrap_i64]
  omega
theorem pp_pick (l : List Int) (h : ppRd l) (p n : Int) (hp : 0 ≤ p) (hp' : p ≤ 1000000000) (hn : n ≤ 1000000) :
    Evs (fun k => spec_l20Rd_pick.f k l p n) (fun r => r.2 = p + 1 ∧ 0 ≤ r.1 ∧ (n < 1 → r.1 = 0) ∧ (1 ≤ n → r.1 < n)) := by
  obtain ⟨hl, hb⟩ := h
  have e1 : wrap64 (p + 1) = p + 1 := pp_wrap_id _ (by omega) (by omega)
  have e2 : wrap64 (p + 1 - 1) = p := by rw [show p + 1 - 1 = p by omega]; exact pp_wrap_id _ (by omega) (by omega)
  unfold spec_l20Rd_pick.f
  rw [e1]
  by_cases h1 : n < 1
  · refine Evs.cong (fun k => if_pos h1) (Evs.step (f := fun _ => some (0, p + 1)) (fun k => by simp only [spec_l20Rd_pick.j0, if_true]) (Evs.now ⟨rfl, by simp, fun _ => rfl, fun h => by omega⟩))
  · refine Evs.cong (fun k => if_neg h1) ?_
    by_cases h0 : l.length = 0
    · refine Evs.step (f := fun _ => some (0, p + 1)) (fun k => by simp only [spec_l20Rd_pick.j0]; rw [if_pos (by simp [h0])]) (Evs.now ⟨rfl, by simp, fun _ => rfl, fun h => by simp; omega⟩)
    · have hne : (((l.length : Int) == 0) = true) = False := by
        have : l ≠ [] := fun e => h0 (by rw [e]; rfl)
        simpa using this
      by_cases hlt : p < (l.length : Int)
      · have hr := pp_rdb l hb p
        have hm := Int.emod_nonneg (rd l p) (show n ≠ 0 by omega)
        have hm' := Int.emod_lt_of_pos (rd l p) (show 0 < n by omega)
        refine Evs.step (f := fun _ => some (Int.tmod (rd l p) n, p + 1)) (fun k => by
          simp only [spec_l20Rd_pick.j0, e2, hne, if_false]
          rw [if_pos hlt, if_pos hp, if_neg (show ¬ n = 0 by omega), pp_wrap_id (rd l p) (by omega) (by omega)]) (Evs.now ⟨rfl, ?_, fun h => absurd h h1, fun _ => ?_⟩)
        · simp only [Int.tmod_eq_emod_of_nonneg hr.1]; exact hm
        · simp only [Int.tmod_eq_emod_of_nonneg hr.1]; exact hm'
      · have hL : (0 : Int) < (l.length : Int) := by omega
        have ei : Int.tmod p (l.length : Int) = p % (l.length : Int) := Int.tmod_eq_emod_of_nonneg hp
        have ed : Int.tdiv p (l.length : Int) = p / (l.length : Int) := Int.tdiv_eq_ediv_of_nonneg hp
        have i0 := Int.emod_nonneg p (show (l.length : Int) ≠ 0 by omega)
        have i1 := Int.emod_lt_of_pos p hL
        have d0 : 0 ≤ p / (l.length : Int) := Int.ediv_nonneg hp (by omega)
        have d1 : p / (l.length : Int) ≤ p := Int.ediv_le_self _ hp
        have e7 : wrap64 (wrap64 (p * 7) + 3) = p * 7 + 3 := by rw [pp_wrap_id (p * 7) (by omega) (by omega), pp_wrap_id _ (by omega) (by omega)]
        have ej : Int.tmod (p * 7 + 3) (l.length : Int) = (p * 7 + 3) % (l.length : Int) := Int.tmod_eq_emod_of_nonneg (by omega)
        have j0 := Int.emod_nonneg (p * 7 + 3) (show (l.length : Int) ≠ 0 by omega)
        have j1 := Int.emod_lt_of_pos (p * 7 + 3) hL
        obtain ⟨u, hu⟩ : ∃ u, u = rd l (p % (l.length : Int)) := ⟨_, rfl⟩
        obtain ⟨v, hv⟩ : ∃ v, v = rd l ((p * 7 + 3) % (l.length : Int)) := ⟨_, rfl⟩
        have hu' : 0 ≤ u ∧ u ≤ 255 := by rw [hu]; exact pp_rdb l hb _
        have hv' : 0 ≤ v ∧ v ≤ 255 := by rw [hv]; exact pp_rdb l hb _
        obtain ⟨dq, hdq⟩ : ∃ dq, dq = p / (l.length : Int) := ⟨_, rfl⟩
        rw [← hdq] at d0 d1
        have w1 : wrap64 u = u := pp_wrap_id _ (by omega) (by omega)
        have w2 : wrap64 (u * 131) = u * 131 := pp_wrap_id _ (by omega) (by omega)
        have w3 : wrap64 v = v := pp_wrap_id _ (by omega) (by omega)
        have w4 : wrap64 (v * 1117) = v * 1117 := pp_wrap_id _ (by omega) (by omega)
        have w5 : wrap64 (u * 131 + v * 1117) = u * 131 + v * 1117 := pp_wrap_id _ (by omega) (by omega)
        have w6 : wrap64 (p * 29) = p * 29 := pp_wrap_id _ (by omega) (by omega)
        have w7 : wrap64 (u * 131 + v * 1117 + p * 29) = u * 131 + v * 1117 + p * 29 := pp_wrap_id _ (by omega) (by omega)
        have w8 : wrap64 dq = dq := pp_wrap_id _ (by omega) (by omega)
        have w9 : wrap64 (dq * 53) = dq * 53 := pp_wrap_id _ (by omega) (by omega)
        have wa : wrap64 (u * 131 + v * 1117 + p * 29 + dq * 53) = u * 131 + v * 1117 + p * 29 + dq * 53 := pp_wrap_id _ (by omega) (by omega)
        obtain ⟨x, hx⟩ : ∃ x, x = u * 131 + v * 1117 + p * 29 + dq * 53 := ⟨_, rfl⟩
        have x0 : 0 ≤ x := by omega
        have x1 : x < 4611686018427387904 := by omega
        have wx : wrap64 x = x := pp_wrap_id _ (by omega) (by omega)
        have ex : Int.tdiv x 64 = x / 64 := Int.tdiv_eq_ediv_of_nonneg x0
        have wb : wrap64 (x / 64) = x / 64 := pp_wrap_id _ (by omega) (by omega)
        have hz := pp_xor x (x / 64) x0 (by omega) x1 (by omega)
        have hm := Int.emod_nonneg (Go.bits .xor .i64 x (x / 64)) (show n ≠ 0 by omega)
        have hm' := Int.emod_lt_of_pos (Go.bits .xor .i64 x (x / 64)) (show 0 < n by omega)
        refine Evs.step (f := fun _ => some (Int.tmod (Go.bits .xor .i64 x (x / 64)) n, p + 1)) (fun k => by
          simp only [spec_l20Rd_pick.j0, e2, hne, if_false, ei, ed, e7, ej, ← hu, ← hv, ← hdq, w1, w2, w3, w4, w5, w6, w7, w8, w9, wa, ← hx, wx, ex, wb]
          rw [if_neg hlt, if_neg (by omega), if_pos i0, if_pos i1, if_pos j0, if_pos j1, if_neg (by omega)]) (Evs.now ⟨rfl, ?_, fun h => absurd h h1, fun _ => ?_⟩)
        · simp only [Int.tmod_eq_emod_of_nonneg hz.1]; exact hm
        · simp only [Int.tmod_eq_emod_of_nonneg hz.1]; exact hm'

theorem pp_numbers_loop (l : List Int) (h : ppRd l) : ∀ (d : Nat) (x3 : List Int) (x4 p : Int), x4 = d → d ≤ 10 → 0 ≤ p → p + d ≤ 1000000000 → x3.length + d ≤ 100 → (∀ x ∈ x3, 0 ≤ x ∧ x < 20) →
    Evs (fun k => spec_l20Numbers.l0 k x3 x4 l p) (fun r => r.1.length = x3.length + d ∧ (∀ x ∈ r.1, 0 ≤ x ∧ x < 20) ∧ r.2 = p + d) := by
  intro d
  induction d with
  | zero =>
    intro x3 x4 p h4 _ hp hp' hl hx
    refine Evs.step (f := fun _ => some (x3, p)) (fun k => by simp only [spec_l20Numbers.l0]; rw [if_neg (by omega)]) (Evs.now ⟨by simp, hx, by simp⟩)
  | succ d ih =>
    intro x3 x4 p h4 hd hp hp' hl hx
    refine Evs.step (fun k => by simp only [spec_l20Numbers.l0]; rw [if_pos (by omega)]; try rfl) ?_
    refine Evs.bnd (pp_pick l h p 20 hp (by omega) (by omega)) ?_
    rintro ⟨v, q⟩ ⟨hq, h0, _, h1⟩
    simp only at hq h0 h1 ⊢
    refine Evs.pos (by omega) ?_
    rw [pp_wrap_id _ (by omega) (by omega), hq]
    refine (ih (x3 ++ [v]) (x4 - 1) (p + 1) (by omega) (by omega) (by omega) (by omega) (by simp; omega) ?_).imp ?_
    · intro x hxm
      rcases List.mem_append.1 hxm with hxm | hxm
      · exact hx x hxm
      · rw [List.mem_singleton.1 hxm]; exact ⟨h0, h1 (by omega)⟩
    · rintro ⟨r, q'⟩ ⟨a, b, c⟩
      simp only [List.length_append, List.length_singleton] at a b c ⊢
      exact ⟨by omega, b, by omega⟩
theorem pp_numbers (l : List Int) (h : ppRd l) (p : Int) (hp : 0 ≤ p) (hp' : p ≤ 900000000) :
    Evs (fun k => spec_l20Numbers.f k l p) (fun r => r.1.length ≤ 6 ∧ (∀ x ∈ r.1, 0 ≤ x ∧ x < 20) ∧ p ≤ r.2 ∧ r.2 ≤ p + 7) := by
  unfold spec_l20Numbers.f
  refine Evs.bnd (pp_pick l h p 7 hp (by omega) (by omega)) ?_
  rintro ⟨v, q⟩ ⟨hq, h0, _, h1⟩
  simp only at hq h0 h1 ⊢
  have h1 := h1 (by omega)
  refine (pp_numbers_loop l h v.toNat [] v q (by omega) (by omega) (by omega) (by omega) (by simp; omega) (by simp)).imp ?_
  rintro ⟨r, q'⟩ ⟨a, b, c⟩
  simp only [List.length_nil] at a b c ⊢
  exact ⟨by omega, b, by omega, by omega⟩
theorem pp_wf_small (x : Int) (h : 0 ≤ x ∧ x < 20) : (Lit.int .i64 x).wf = true := by
  simp [Lit.wf, IntKind.min, IntKind.max, IntKind.signed, IntKind.bits]; omega

/-- One of Go's numbers. -/
def ppW (x : Int) : Prop := (Lit.int .i64 x).wf = true
theorem ppW_of (x : Int) (h : -9223372036854775808 ≤ x) (h' : x ≤ 9223372036854775807) : ppW x := by
  unfold ppW
  simp [Lit.wf, IntKind.min, IntKind.max, IntKind.signed, IntKind.bits]; omega
theorem pp_place (l : List Int) (h : ppRd l) (p : Int) (hp : 0 ≤ p) (hp' : p ≤ 800000000) :
    Evs (fun k => spec_l20Place.f k l p) (fun r => ppW r.1 ∧ ppW r.2.1 ∧ ppW r.2.2.1 ∧ ppW r.2.2.2.1 ∧ r.2.2.2.2.1 = 0 ∧ p ≤ r.2.2.2.2.2 ∧ r.2.2.2.2.2 ≤ p + 7) := by
  unfold spec_l20Place.f
  refine Evs.bnd (pp_pick l h p 6 hp (by omega) (by omega)) ?_
  rintro ⟨v0, q0⟩ ⟨e0, a0, _, b0⟩
  simp only at e0 a0 b0 ⊢
  have b0 := b0 (by omega)
  refine Evs.bnd (pp_pick l h q0 6 (by omega) (by omega) (by omega)) ?_
  rintro ⟨v1, q1⟩ ⟨e1, a1, _, b1⟩
  simp only at e1 a1 b1 ⊢
  have b1 := b1 (by omega)
  refine Evs.bnd (pp_pick l h q1 4 (by omega) (by omega) (by omega)) ?_
  rintro ⟨v2, q2⟩ ⟨e2, a2, _, b2⟩
  simp only at e2 a2 b2 ⊢
  have b2 := b2 (by omega)
  refine Evs.bnd (pp_pick l h q2 4 (by omega) (by omega) (by omega)) ?_
  rintro ⟨v3, q3⟩ ⟨e3, a3, _, b3⟩
  simp only at e3 a3 b3 ⊢
  have b3 := b3 (by omega)
  refine Evs.bnd (pp_pick l h q3 9 (by omega) (by omega) (by omega)) ?_
  rintro ⟨v4, q4⟩ ⟨e4, a4, _, b4⟩
  simp only at e4 a4 b4 ⊢
  have w0 : ppW v0 := ppW_of _ (by omega) (by omega)
  have w1 : ppW v1 := ppW_of _ (by omega) (by omega)
  have w2 : ppW v2 := ppW_of _ (by omega) (by omega)
  have w3 : ppW v3 := ppW_of _ (by omega) (by omega)
  refine Evs.ite (fun _ => ?_) (fun _ => Evs.now ⟨w0, w1, w2, w3, rfl, by simp only; omega, by simp only; omega⟩)
  simp only [Option.bind_some]
  refine Evs.bnd (pp_pick l h q4 4 (by omega) (by omega) (by omega)) ?_
  rintro ⟨v5, q5⟩ ⟨e5, a5, _, b5⟩
  simp only at e5 a5 b5 ⊢
  have b5 := b5 (by omega)
  refine Evs.pos a5 (Evs.pos (by simp; omega) ?_)
  refine Evs.bnd (pp_pick l h q5 4 (by omega) (by omega) (by omega)) ?_
  rintro ⟨v6, q6⟩ ⟨e6, a6, _, b6⟩
  simp only at e6 a6 b6 ⊢
  have wn : ppW (rd [9223372036854775807, (-9223372036854775808), (-1), (-2)] v5) := by
    have : v5 = 0 ∨ v5 = 1 ∨ v5 = 2 ∨ v5 = 3 := by omega
    rcases this with rfl | rfl | rfl | rfl <;> exact ppW_of _ (by simp [rd]) (by simp [rd])
  refine Evs.ite (fun _ => Evs.now ⟨wn, w1, w2, w3, rfl, by simp only; omega, by simp only; omega⟩) (fun _ => ?_)
  refine Evs.ite (fun _ => Evs.now ⟨w0, wn, w2, w3, rfl, by simp only; omega, by simp only; omega⟩) (fun _ => ?_)
  refine Evs.ite (fun _ => Evs.now ⟨w0, w1, wn, w3, rfl, by simp only; omega, by simp only; omega⟩) (fun _ => ?_)
  exact Evs.now ⟨w0, w1, w2, wn, rfl, by simp only; omega, by simp only; omega⟩

theorem pp_abc : Txt.ppTxtOk (⟨#[97, 98, 32, 99]⟩ : ByteArray) = true := by kernel_rfl
theorem pp_pwOk : laws_pwOk.f = some true := by
  unfold laws_pwOk.f impl_TxtOk.f
  rw [if_pos (by decide), pp_abc]
  rfl

theorem pp_drawWidCell (l : List Int) (h : ∀ x ∈ l, (Lit.int .u8 x).wf = true) : Evs (fun k => spec_DrawWidCell.f k l) (fun r => r.1.length ≤ 6 ∧ ppW r.2.2.2.1 ∧ ppW r.2.2.2.2.2.1) := by
  obtain ⟨b, e, hb⟩ := pp_open l h
  unfold spec_DrawWidCell.f
  rw [e]
  simp only [Option.bind_some]
  refine Evs.bnd (pp_numbers b hb 0 (by omega) (by omega)) ?_
  rintro ⟨cols, p⟩ ⟨h1, h2, h3, h4⟩
  simp only at h1 h3 h4 ⊢
  refine Evs.bnd (pp_pick b hb p 5 (by omega) (by omega) (by omega)) ?_
  rintro ⟨c, q⟩ ⟨hq, c0, _, c1⟩
  simp only at hq c0 c1 ⊢
  have c1 := c1 (by omega)
  refine Evs.pos c0 (Evs.pos (by simp; omega) ?_)
  refine Evs.bnd (pp_place b hb q (by omega) (by omega)) ?_
  rintro ⟨a0, a1, a2, a3, a4, q'⟩ ⟨w0, w1, w2, w3, _⟩
  exact Evs.now ⟨h1, w1, w3⟩
theorem pp_widEndIn (l : List Int) (hl : l.length ≤ 9223372036854775807) (gap : Int) (c : Nat) (hc : c < l.length) (k : Nat) (hk : l.length < k) :
    impl_WidEnd.f k l gap (c : Int) = some (wrap64 (wrap64 ((l.take c).sum + gap * (c : Int)) + rd l (c : Int))) := by
  have ha : ppAhead l (c : Int) = c := by unfold ppAhead; omega
  unfold impl_WidEnd.f impl_in.f
  rw [pp_wrap_id ((l.length : Int) - 1) (by omega) (by omega), if_pos (by omega)]
  simp only [Option.bind_some]
  rw [if_pos (by simp; omega), pp_implWidAt l hl gap (c : Int) k hk, ha]
  simp only [Option.bind_some]
  rw [if_pos (by omega), if_pos (by omega)]
theorem ppSome_none (f m : Int) (h : m ≤ 0) (l : List Int) (i : Int) : ppSome f m l i = [] := by
  rw [pp_some_cut, show (f + m - max i f).toNat = 0 by omega, List.take_zero]
theorem FnWidCell : ∀ (l0 : List (Int)), (l0.length ≤ 9223372036854775807 ∧ ∀ (x : Int), x ∈ l0 → (Lit.int .u8 x).wf = true) → ∃ k, laws_FnWidCell.f k l0 = some true := by
  intro l ⟨hl, hw⟩
  refine Evs.ends ?_
  unfold laws_FnWidCell.f
  refine Evs.ite (fun _ => Evs.now rfl) (fun _ => ?_)
  refine Evs.bnd (pp_drawWidCell l hw) ?_
  rintro ⟨cols, gap, y0, f, y1, m, y2⟩ ⟨h6, hf, hm⟩
  simp only at h6 hf hm ⊢
  have bf := pp_wf f hf
  have bm := pp_wf m hm
  refine Evs.bnd (Evs.of (cols.length + 1) fun k hk => pp_implWidCell cols (by omega) gap y0 f y1 m y2 hf hm k (by omega)) ?_
  rintro _ rfl
  refine Evs.bnd (Evs.of (cols.length + 1) fun k hk => pp_specWidCell cols (by omega) gap y0 f y1 m y2 hf hm k (by omega)) ?_
  rintro _ rfl
  refine Evs.pos rfl ?_
  have fin : Evs (fun k => (laws_pwOk.f).bind fun t => some t) (fun q => q = true) := by
    rw [pp_pwOk]; exact Evs.now rfl
  have out : Evs (fun k => laws_FnWidCell.j0 k cols gap (wrap64 ((ppSome f m cols 0).sum + gap * mx (((ppSome f m cols 0).length : Int) - 1) 0)) true y0 f y1 m y2) (fun q => q = true) := by
    refine Evs.step (fun k => by simp only [laws_FnWidCell.j0, if_true]; try rfl) ?_
    refine Evs.ite (fun _ => fin) (fun h0 => ?_)
    refine Evs.pos ?_ fin
    rw [ppSome_none f m (by omega)]
    simp [mx, pp_wrap_0]
  refine Evs.ite (fun _ => out) (fun h1 => ?_)
  refine Evs.ite (fun _ => out) (fun h2 => ?_)
  refine Evs.ite (fun _ => out) (fun h3 => ?_)
  refine Evs.ite (fun _ => out) (fun h4 => ?_)
  rw [pp_wrap_id (f + m) (by omega) (by omega)]
  by_cases h5 : f + m > (cols.length : Int)
  · rw [decide_eq_true h5]; exact out
  · rw [decide_eq_false h5]
    obtain ⟨a, rfl⟩ : ∃ a : Nat, f = a := ⟨f.toNat, by omega⟩
    obtain ⟨b, rfl⟩ : ∃ b : Nat, m = ((b + 1 : Nat) : Int) := ⟨(m - 1).toNat, by omega⟩
    have ea : ppAhead cols (a : Int) = a := by unfold ppAhead; omega
    refine Evs.step (fun k => by simp only [laws_FnWidCell.j0, Bool.false_eq_true, if_false]; rw [pp_wrap_id ((a : Int) + ((b + 1 : Nat) : Int)) (by omega) (by omega), pp_wrap_id ((a : Int) + ((b + 1 : Nat) : Int) - 1) (by omega) (by omega), show (a : Int) + ((b + 1 : Nat) : Int) - 1 = ((a + b : Nat) : Int) by omega]) ?_
    refine Evs.bnd (Evs.of (cols.length + 1) fun k hk => pp_widEndIn cols (by omega) gap (a + b) (by omega) k (by omega)) ?_
    rintro _ rfl
    refine Evs.bnd (Evs.of (cols.length + 1) fun k hk => pp_implWidAt cols (by omega) gap (a : Int) k (by omega)) ?_
    rintro _ rfl
    refine Evs.pos ?_ fin
    rw [ea, pp_some_cut, show ((a : Int) - 0).toNat = a by omega, show ((a : Int) + ((b + 1 : Nat) : Int) - max 0 (a : Int)).toNat = b + 1 by omega, pp_sum_cut]
    have hlen : ((cols.drop a).take (b + 1)).length = b + 1 := by rw [List.length_take, List.length_drop]; omega
    rw [hlen, show mx (((b + 1 : Nat) : Int) - 1) 0 = (b : Int) by unfold mx; split <;> omega, show a + (b + 1) = a + b + 1 by omega, pp_sum_take cols (a + b) (by omega)]
    have em : gap * ((a + b : Nat) : Int) = gap * (a : Int) + gap * (b : Int) := by rw [Int.natCast_add, Int.mul_add]
    rw [em]
    unfold wrap64
    omega

end Go.Proofs.YtfcacpbblkahdaaDoor.Pure
