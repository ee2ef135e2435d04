/-
  impl.WidCell answers what spec.WidCell answers, at all numbers: all columns of the cell that there are and the gap between any two, as Go's 64-bit sum.
  Conditions: none but those of the statement.
-/
import Derived.Test.YtchimljcafnljaaPFnExactWidCellx2
namespace Go.Proofs.Ytchimljcafnljaa.Pure
open Go.RowKit Go.Proofs.Ytchimljcafnljaa.PFnExactWidCell Go.Proofs.YtchimljcafnljaaW.PrintWords Go.Proofs.YtchimljcafnljaaW.PrintLast Go.Proofs.YtchimljcafnljaaW.PrintMore

theorem pp_wrap_l (a b : Int) : wrap64 (wrap64 a + b) = wrap64 (a + b) := by unfold wrap64; omega
theorem pp_wrap_r (a b : Int) : wrap64 (a + wrap64 b) = wrap64 (a + b) := by unfold wrap64; omega
theorem pp_wrap_id (a : Int) (h : -9223372036854775808 ≤ a) (h' : a ≤ 9223372036854775807) : wrap64 a = a := by unfold wrap64; omega
theorem pp_wrap_0 : wrap64 0 = 0 := by unfold wrap64; omega
theorem pp_wf (a : Int) (h : (Lit.int .i64 a).wf = true) : -9223372036854775808 ≤ a ∧ a ≤ 9223372036854775807 := by
  simp [Lit.wf, IntKind.min, IntKind.max, IntKind.signed, IntKind.bits] at h; omega

theorem pp_toIntS_loop (l : List Int) (hl : l.length ≤ 9223372036854775807) : ∀ (d i k : Nat) (out : List Int), l.length - i = d → i ≤ l.length → d < k → out.length = l.length → out.take i = l.take i →
    laws_toIntS.l0 k l out (i : Int) = some l := by
  intro d
  induction d with
  | zero =>
    intro i k out hd hi hk ho ht
    obtain ⟨k, rfl⟩ : ∃ m, k = m + 1 := ⟨k - 1, by omega⟩
    have hil : i = l.length := by omega
    simp only [laws_toIntS.l0]
    rw [if_neg (by omega)]
    rw [hil, List.take_of_length_le (by omega), List.take_length] at ht
    rw [ht]
  | succ d ih =>
    intro i k out hd hi hk ho ht
    obtain ⟨k, rfl⟩ : ∃ m, k = m + 1 := ⟨k - 1, by omega⟩
    have hlt : i < l.length := by omega
    simp only [laws_toIntS.l0]
    rw [if_pos (by omega), if_pos (by omega), if_pos (by omega), pp_wrap_id _ (by omega) (by omega)]
    have e := ih (i + 1) k (out.set i (rd l i)) (by omega) (by omega) (by omega) (by simpa using ho) (by
      rw [List.take_succ_eq_append_getElem (by simpa [ho] using hlt), List.take_succ_eq_append_getElem hlt, List.take_set_of_le (by omega), ht]
      simp [rd, List.getD_eq_getElem?_getD, List.getElem?_eq_getElem hlt])
    simpa using e
theorem pp_toIntS (l : List Int) (hl : l.length ≤ 1048576) (k : Nat) (hk : l.length < k) : laws_toIntS.f k l = some l := by
  unfold laws_toIntS.f
  rw [if_pos (by omega), if_pos (by omega)]
  have := pp_toIntS_loop l (by omega) l.length 0 k (List.replicate l.length 0) (by omega) (by omega) hk (by simp) (by simp)
  simpa using this

theorem pp_eqIntS_loop (l : List Int) (hl : l.length ≤ 9223372036854775807) : ∀ (d i k : Nat), l.length - i = d → i ≤ l.length → d < k → laws_eqIntS.l0 k l l (i : Int) = some true := by
  intro d
  induction d with
  | zero =>
    intro i k hd hi hk
    obtain ⟨k, rfl⟩ : ∃ m, k = m + 1 := ⟨k - 1, by omega⟩
    simp only [laws_eqIntS.l0]
    rw [if_neg (by omega)]
  | succ d ih =>
    intro i k hd hi hk
    obtain ⟨k, rfl⟩ : ∃ m, k = m + 1 := ⟨k - 1, by omega⟩
    simp only [laws_eqIntS.l0]
    rw [if_pos (by omega), if_pos (by omega), if_pos (by omega), if_pos trivial, pp_wrap_id _ (by omega) (by omega)]
    have := ih (i + 1) k (by omega) (by omega) (by omega)
    simpa using this
theorem pp_eqIntS (l : List Int) (hl : l.length ≤ 1048576) (k : Nat) (hk : l.length < k) : laws_eqIntS.f k l l = some true := by
  unfold laws_eqIntS.f
  rw [if_pos rfl]
  have := pp_eqIntS_loop l (by omega) l.length 0 k (by omega) (by omega) hk
  simpa using this

theorem pp_sum_take (l : List Int) (i : Nat) (h : i < l.length) : (l.take (i + 1)).sum = (l.take i).sum + rd l (i : Int) := by
  rw [List.take_succ_eq_append_getElem h, List.sum_append]
  simp [rd, List.getD_eq_getElem?_getD, List.getElem?_eq_getElem h]

/-- Whether a number is one of so many from another one on. -/
def ppAmong (n f m : Int) : Bool := decide (f ≤ n) && (decide (0 < m) && decide (n - f < m))
theorem pp_implAmong (n f m : Int) (hn : (Lit.int .i64 n).wf = true) (hf : (Lit.int .i64 f).wf = true) (hm : (Lit.int .i64 m).wf = true) : impl_among.f n f m = some (ppAmong n f m) := by
  have := pp_wf n hn
  have := pp_wf f hf
  have := pp_wf m hm
  unfold impl_among.f ppAmong
  by_cases h0 : n ≥ f
  · by_cases h1 : m > 0
    · rw [if_pos h0, if_pos h1]
      simp only [IntKind.wrap_u64, Option.some.injEq]
      rw [Bool.eq_iff_iff]
      simp
      omega
    · rw [if_pos h0, if_neg h1]
      simp
      omega
  · rw [if_neg h0]
    simp
    omega
theorem pp_specAmong (n f m : Int) (hn : (Lit.int .i64 n).wf = true) (hf : (Lit.int .i64 f).wf = true) (hm : (Lit.int .i64 m).wf = true) (k : Nat) (hk : 0 < k) : spec_l1Among.f k n f m = some (ppAmong n f m) := by
  have := pp_wf n hn
  have := pp_wf f hf
  have := pp_wf m hm
  obtain ⟨k, rfl⟩ : ∃ q, k = q + 1 := ⟨k - 1, by omega⟩
  unfold spec_l1Among.f ppAmong
  simp only [spec_l1Among.j0]
  by_cases h0 : n < f
  · rw [if_pos h0]
    simp
    omega
  · rw [if_neg h0]
    by_cases h1 : m ≤ 0
    · rw [if_pos (by simpa using h1)]
      simp
      omega
    · rw [if_neg (by simpa using h1)]
      by_cases h2 : f < 0
      · rw [if_pos h2]
        by_cases h3 : n ≥ 0
        · rw [if_pos h3, pp_wrap_id _ (by omega) (by omega)]
          simp only [Option.some.injEq]
          rw [Bool.eq_iff_iff]
          simp
          omega
        · rw [if_neg h3, pp_wrap_id _ (by omega) (by omega)]
          simp only [Option.some.injEq]
          rw [Bool.eq_iff_iff]
          simp
          omega
      · rw [if_neg h2, pp_wrap_id _ (by omega) (by omega)]
        simp only [Option.some.injEq]
        rw [Bool.eq_iff_iff]
        simp
        omega

/-- Those of a list, from place i on, whose places are among some. -/
def ppSome (f m : Int) : List Int → Int → List Int
  | [], _ => []
  | x :: xs, i => (if ppAmong i f m = true then [x] else []) ++ ppSome f m xs (i + 1)
theorem ppSome_length (f m : Int) : ∀ (xs : List Int) (i : Int), (ppSome f m xs i).length ≤ xs.length
  | [], _ => by simp [ppSome]
  | x :: xs, i => by
    have := ppSome_length f m xs (i + 1)
    unfold ppSome
    rw [List.length_append, List.length_cons]
    split <;> simp <;> omega
theorem pp_nat_wf (i : Nat) (h : i ≤ 9223372036854775807) : (Lit.int .i64 (i : Int)).wf = true := by
  simp [Lit.wf, IntKind.min, IntKind.max, IntKind.signed, IntKind.bits]; omega
theorem pp_drop_rd (l : List Int) (i : Nat) (h : i < l.length) : l.drop i = rd l (i : Int) :: l.drop (i + 1) := by
  rw [List.drop_eq_getElem_cons h]
  simp [rd, List.getD_eq_getElem?_getD, List.getElem?_eq_getElem h]
theorem pp_some_loop (l : List Int) (hl : l.length ≤ 17592186044415) (f m : Int) (hf : (Lit.int .i64 f).wf = true) (hm : (Lit.int .i64 m).wf = true) : ∀ (d i k : Nat) (out : List Int), l.length - i = d → i ≤ l.length → d < k → out.length ≤ i →
    impl_some.l0 k f m out l (l.length : Int) (i : Int) = some (out ++ ppSome f m (l.drop i) (i : Int)) := by
  intro d
  induction d with
  | zero =>
    intro i k out hd hi hk ho
    obtain ⟨k, rfl⟩ : ∃ m, k = m + 1 := ⟨k - 1, by omega⟩
    simp only [impl_some.l0]
    rw [if_neg (by omega), List.drop_of_length_le (by omega)]
    simp [ppSome]
  | succ d ih =>
    intro i k out hd hi hk ho
    obtain ⟨k, rfl⟩ : ∃ m, k = m + 1 := ⟨k - 1, by omega⟩
    simp only [impl_some.l0]
    rw [if_pos (by omega), if_pos (by omega), if_pos (by omega), pp_implAmong (i : Int) f m (pp_nat_wf i (by omega)) hf hm, pp_wrap_id ((i : Int) + 1) (by omega) (by omega)]
    simp only [Option.bind_some]
    rw [pp_drop_rd l i (by omega)]
    cases hb : ppAmong (i : Int) f m with
    | true =>
      rw [if_pos rfl, if_pos (by omega)]
      have := ih (i + 1) k (out ++ [rd l (i : Int)]) (by omega) (by omega) (by omega) (by simp; omega)
      simp only [Int.natCast_add, Int.cast_ofNat_Int] at this
      rw [this]
      simp [ppSome, hb]
    | false =>
      rw [if_neg (by simp)]
      have := ih (i + 1) k out (by omega) (by omega) (by omega) (by omega)
      simp only [Int.natCast_add, Int.cast_ofNat_Int] at this
      rw [this]
      simp [ppSome, hb]
theorem pp_some (l : List Int) (hl : l.length ≤ 17592186044415) (f m : Int) (hf : (Lit.int .i64 f).wf = true) (hm : (Lit.int .i64 m).wf = true) (k : Nat) (hk : l.length < k) : impl_some.f k l f m = some (ppSome f m l 0) := by
  unfold impl_some.f
  have := pp_some_loop l hl f m hf hm l.length 0 k [] (by omega) (by omega) hk (by simp)
  simpa using this

theorem pp_sumOf_loop (l : List Int) (hl : l.length ≤ 9223372036854775807) : ∀ (d i k : Nat), l.length - i = d → i ≤ l.length → d < k →
    impl_sumOf.l0 k (wrap64 (l.take i).sum) l (l.length : Int) (i : Int) = some (wrap64 l.sum) := by
  intro d
  induction d with
  | zero =>
    intro i k hd hi hk
    obtain ⟨k, rfl⟩ : ∃ m, k = m + 1 := ⟨k - 1, by omega⟩
    simp only [impl_sumOf.l0]
    rw [if_neg (by omega), List.take_of_length_le (by omega)]
  | succ d ih =>
    intro i k hd hi hk
    obtain ⟨k, rfl⟩ : ∃ m, k = m + 1 := ⟨k - 1, by omega⟩
    simp only [impl_sumOf.l0]
    rw [if_pos (by omega), if_pos (by omega), if_pos (by omega), pp_wrap_id ((i : Int) + 1) (by omega) (by omega), pp_wrap_l, ← pp_sum_take l i (by omega)]
    have := ih (i + 1) k (by omega) (by omega) (by omega)
    simpa using this
theorem pp_sumOf (l : List Int) (hl : l.length ≤ 9223372036854775807) (k : Nat) (hk : l.length < k) : impl_sumOf.f k l = some (wrap64 l.sum) := by
  unfold impl_sumOf.f
  have := pp_sumOf_loop l hl l.length 0 k (by omega) (by omega) hk
  simpa [pp_wrap_0] using this

theorem pp_specWidCell_loop (l : List Int) (hl : l.length ≤ 17592186044415) (gap f m y0 y1 y2 : Int) (hf : (Lit.int .i64 f).wf = true) (hm : (Lit.int .i64 m).wf = true) : ∀ (d i k n : Nat) (acc : Int), l.length - i = d → i ≤ l.length → d < k → 0 < k → n ≤ i → (n = 0 → acc = 0) →
    spec_WidCell.l0 k l gap (wrap64 (acc + gap * ((n : Int) - 1) * (if n = 0 then 0 else 1))) (decide (0 < n)) (i : Int) y0 f y1 m y2 =
      some (wrap64 (acc + (ppSome f m (l.drop i) (i : Int)).sum + gap * mx (((n + (ppSome f m (l.drop i) (i : Int)).length : Nat) : Int) - 1) 0)) := by
  intro d
  induction d with
  | zero =>
    intro i k n acc hd hi hk hk0 hn h0
    obtain ⟨k, rfl⟩ : ∃ m, k = m + 1 := ⟨k - 1, by omega⟩
    simp only [spec_WidCell.l0]
    rw [if_neg (by omega), List.drop_of_length_le (by omega)]
    simp only [ppSome, List.sum_nil, List.length_nil, Nat.add_zero, Int.add_zero]
    by_cases hz : n = 0
    · subst hz
      simp [mx]
    · rw [if_neg hz, Int.mul_one, show mx ((n : Int) - 1) 0 = (n : Int) - 1 by unfold mx; split <;> omega]
  | succ d ih =>
    intro i k n acc hd hi hk hk0 hn h0
    obtain ⟨k, rfl⟩ : ∃ m, k = m + 1 := ⟨k - 1, by omega⟩
    simp only [spec_WidCell.l0]
    rw [if_pos (by omega), pp_specAmong (i : Int) f m (pp_nat_wf i (by omega)) hf hm k (by omega), pp_wrap_id ((i : Int) + 1) (by omega) (by omega)]
    simp only [Option.bind_some]
    rw [pp_drop_rd l i (by omega)]
    cases hb : ppAmong (i : Int) f m with
    | true =>
      rw [if_pos rfl]
      have := ih (i + 1) k (n + 1) (acc + rd l (i : Int)) (by omega) (by omega) (by omega) (by omega) (by omega) (by omega)
      simp only [Int.natCast_add, Int.cast_ofNat_Int] at this
      have el : (n + 1 + (ppSome f m (l.drop (i + 1)) ((i : Int) + 1)).length : Nat) = n + (ppSome f m (rd l (i : Int) :: l.drop (i + 1)) (i : Int)).length := by
        simp [ppSome, hb]; omega
      have es : acc + (ppSome f m (rd l (i : Int) :: l.drop (i + 1)) (i : Int)).sum = acc + rd l (i : Int) + (ppSome f m (l.drop (i + 1)) ((i : Int) + 1)).sum := by
        simp [ppSome, hb, Int.add_assoc]
      rw [es, ← el]
      by_cases hz : n = 0
      · subst hz
        rw [if_neg (by simp), if_pos (by omega)]
        have h0 := h0 rfl
        subst h0
        have e : wrap64 (wrap64 (0 + gap * (((0 : Nat) : Int) - 1) * (if 0 = 0 then 0 else 1)) + rd l (i : Int)) = wrap64 (0 + rd l (i : Int) + gap * (((0 : Nat) : Int) + 1 - 1) * (if 0 + 1 = 0 then 0 else 1)) := by
          simp [pp_wrap_0]
        rw [e]
        simpa using this
      · rw [if_pos (by simp; omega), if_pos (by omega)]
        have e : wrap64 (wrap64 (wrap64 (acc + gap * ((n : Int) - 1) * (if n = 0 then 0 else 1)) + gap) + rd l (i : Int)) = wrap64 (acc + rd l (i : Int) + gap * ((n : Int) + 1 - 1) * (if n + 1 = 0 then 0 else 1)) := by
          rw [if_neg hz, if_neg (by omega), Int.mul_one, Int.mul_one, Int.add_sub_cancel, Int.mul_sub, Int.mul_one]
          unfold wrap64
          omega
        rw [e]
        simpa using this
    | false =>
      rw [if_neg (by simp)]
      have := ih (i + 1) k n acc (by omega) (by omega) (by omega) (by omega) (by omega) h0
      simp only [Int.natCast_add, Int.cast_ofNat_Int] at this
      rw [this]
      simp [ppSome, hb]
theorem pp_specWidCell (l : List Int) (hl : l.length ≤ 17592186044415) (gap y0 f y1 m y2 : Int) (hf : (Lit.int .i64 f).wf = true) (hm : (Lit.int .i64 m).wf = true) (k : Nat) (hk : l.length < k) :
    spec_WidCell.f k l gap y0 f y1 m y2 = some (wrap64 ((ppSome f m l 0).sum + gap * mx (((ppSome f m l 0).length : Int) - 1) 0)) := by
  unfold spec_WidCell.f
  have := pp_specWidCell_loop l hl gap f m y0 y1 y2 hf hm l.length 0 k 0 0 (by omega) (by omega) hk (by omega) (by omega) (by simp)
  simpa [pp_wrap_0] using this
theorem pp_implWidCell (l : List Int) (hl : l.length ≤ 17592186044415) (gap y0 f y1 m y2 : Int) (hf : (Lit.int .i64 f).wf = true) (hm : (Lit.int .i64 m).wf = true) (k : Nat) (hk : l.length < k) :
    impl_WidCell.f k l gap y0 f y1 m y2 = some (wrap64 ((ppSome f m l 0).sum + gap * mx (((ppSome f m l 0).length : Int) - 1) 0)) := by
  have hs := ppSome_length f m l 0
  unfold impl_WidCell.f impl_wide.f
  rw [pp_some l hl f m hf hm k hk]
  simp only [Option.bind_some]
  rw [pp_sumOf _ (by omega) k (by omega), pp_wrap_id (((ppSome f m l 0).length : Int) - 1) (by omega) (by omega)]
  simp only [Option.bind_some]
  rw [pp_wrap_l, pp_wrap_r]

theorem FnExactWidCell : ∀ (l0 : List (Int)) (a1 : Int) (a2_0 : Int) (a2_1 : Int) (a2_2 : Int) (a2_3 : Int) (a2_4 : Int), (l0.length ≤ 9223372036854775807 ∧ ∀ x ∈ l0, (Lit.int .i64 x).wf = true) → ((Lit.int .i64 a1).wf = true) → ((Lit.int .i64 a2_0).wf = true) → ((Lit.int .i64 a2_1).wf = true) → ((Lit.int .i64 a2_2).wf = true) → ((Lit.int .i64 a2_3).wf = true) → ((Lit.int .i64 a2_4).wf = true) → ∃ k, laws_FnExactWidCell.f k l0 a1 a2_0 a2_1 a2_2 a2_3 a2_4 = some true := by
  intro l gap y0 f y1 m y2 _ _ _ hf _ hm _
  refine ⟨l.length + 1, ?_⟩
  unfold laws_FnExactWidCell.f laws_toGrdCell.f
  by_cases hl : (l.length : Int) > 1048576
  · rw [if_pos hl]
  · rw [if_neg hl, pp_toIntS l (by omega) _ (by omega)]
    simp only [Option.bind_some]
    rw [pp_specWidCell l (by omega) gap y0 f y1 m y2 hf hm _ (by omega), pp_implWidCell l (by omega) gap y0 f y1 m y2 hf hm _ (by omega), pp_eqIntS l (by omega) _ (by omega)]
    simp only [Option.bind_some, if_true]

end Go.Proofs.Ytchimljcafnljaa.Pure
