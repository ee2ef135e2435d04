/-
  impl.WidEnd answers what spec.WidEnd answers, at all numbers: where the column begins, and the column, as Go's 64-bit sum; 0 if there is no such column.
  Conditions: none but those of the statement.
-/
import Derived.Test.YtchimljcafnljaaPFnExactWidEndx2
namespace Go.Proofs.Ytchimljcafnljaa.Pure
open Go.RowKit Go.Proofs.Ytchimljcafnljaa.PFnExactWidEnd Go.Proofs.YtchimljcafnljaaW.PrintWords Go.Proofs.YtchimljcafnljaaW.PrintLast Go.Proofs.YtchimljcafnljaaW.PrintMore
set_option linter.unusedVariables false
set_option linter.unusedSimpArgs false

theorem pp_wrap_l (a b : Int) : wrap64 (wrap64 a + b) = wrap64 (a + b) := by unfold wrap64; omega
theorem pp_wrap_r (a b : Int) : wrap64 (a + wrap64 b) = wrap64 (a + b) := by unfold wrap64; omega
theorem pp_wrap_id (a : Int) (h : -9223372036854775808 ≤ a) (h' : a ≤ 9223372036854775807) : wrap64 a = a := by unfold wrap64; omega
theorem pp_wrap_0 : wrap64 0 = 0 := by unfold wrap64; omega
theorem pp_wf (a : Int) (h : (Lit.int .i64 a).wf = true) : -9223372036854775808 ≤ a ∧ a ≤ 9223372036854775807 := by
  simp [Lit.wf, IntKind.min, IntKind.max, IntKind.signed, IntKind.bits] at h; omega

theorem pp_toIntS_loop (l : List Int) (hl : l.length ≤ 9223372036854775807) : ∀ (d i k : Nat) (out : List Int), l.length - i = d → i ≤ l.length → d < k → out.length = l.length → out.take i = l.take i →
    laws_toIntS.l0 k l out (i : Int) = some l := by
  intro d
  induction d with
  | zero =>
    intro i k out hd hi hk ho ht
    obtain ⟨k, rfl⟩ : ∃ m, k = m + 1 := ⟨k - 1, by omega⟩
    have hil : i = l.length := by omega
    simp only [laws_toIntS.l0]
    rw [if_neg (by omega)]
    rw [hil, List.take_of_length_le (by omega), List.take_length] at ht
    rw [ht]
  | succ d ih =>
    intro i k out hd hi hk ho ht
    obtain ⟨k, rfl⟩ : ∃ m, k = m + 1 := ⟨k - 1, by omega⟩
    have hlt : i < l.length := by omega
    simp only [laws_toIntS.l0]
    rw [if_pos (by omega), if_pos (by omega), if_pos (by omega), pp_wrap_id _ (by omega) (by omega)]
    have e := ih (i + 1) k (out.set i (rd l i)) (by omega) (by omega) (by omega) (by simpa using ho) (by
      rw [List.take_succ_eq_append_getElem (by simpa [ho] using hlt), List.take_succ_eq_append_getElem hlt, List.take_set_of_le (by omega), ht]
      simp [rd, List.getD_eq_getElem?_getD, List.getElem?_eq_getElem hlt])
    simpa using e
theorem pp_toIntS (l : List Int) (hl : l.length ≤ 1048576) (k : Nat) (hk : l.length < k) : laws_toIntS.f k l = some l := by
  unfold laws_toIntS.f
  rw [if_pos (by omega), if_pos (by omega)]
  have := pp_toIntS_loop l (by omega) l.length 0 k (List.replicate l.length 0) (by omega) (by omega) hk (by simp) (by simp)
  simpa using this

theorem pp_eqIntS_loop (l : List Int) (hl : l.length ≤ 9223372036854775807) : ∀ (d i k : Nat), l.length - i = d → i ≤ l.length → d < k → laws_eqIntS.l0 k l l (i : Int) = some true := by
  intro d
  induction d with
  | zero =>
    intro i k hd hi hk
    obtain ⟨k, rfl⟩ : ∃ m, k = m + 1 := ⟨k - 1, by omega⟩
    simp only [laws_eqIntS.l0]
    rw [if_neg (by omega)]
  | succ d ih =>
    intro i k hd hi hk
    obtain ⟨k, rfl⟩ : ∃ m, k = m + 1 := ⟨k - 1, by omega⟩
    simp only [laws_eqIntS.l0]
    rw [if_pos (by omega), if_pos (by omega), if_pos (by omega), if_pos trivial, pp_wrap_id _ (by omega) (by omega)]
    have := ih (i + 1) k (by omega) (by omega) (by omega)
    simpa using this
theorem pp_eqIntS (l : List Int) (hl : l.length ≤ 1048576) (k : Nat) (hk : l.length < k) : laws_eqIntS.f k l l = some true := by
  unfold laws_eqIntS.f
  rw [if_pos rfl]
  have := pp_eqIntS_loop l (by omega) l.length 0 k (by omega) (by omega) hk
  simpa using this

theorem pp_sum_take (l : List Int) (i : Nat) (h : i < l.length) : (l.take (i + 1)).sum = (l.take i).sum + rd l (i : Int) := by
  rw [List.take_succ_eq_append_getElem h, List.sum_append]
  simp [rd, List.getD_eq_getElem?_getD, List.getElem?_eq_getElem h]

theorem pp_sumOf_loop (l : List Int) (hl : l.length ≤ 9223372036854775807) : ∀ (d i k : Nat), l.length - i = d → i ≤ l.length → d < k →
    impl_sumOf.l0 k (wrap64 (l.take i).sum) l (l.length : Int) (i : Int) = some (wrap64 l.sum) := by
  intro d
  induction d with
  | zero =>
    intro i k hd hi hk
    obtain ⟨k, rfl⟩ : ∃ m, k = m + 1 := ⟨k - 1, by omega⟩
    simp only [impl_sumOf.l0]
    rw [if_neg (by omega), List.take_of_length_le (by omega)]
  | succ d ih =>
    intro i k hd hi hk
    obtain ⟨k, rfl⟩ : ∃ m, k = m + 1 := ⟨k - 1, by omega⟩
    simp only [impl_sumOf.l0]
    rw [if_pos (by omega), if_pos (by omega), if_pos (by omega), pp_wrap_id ((i : Int) + 1) (by omega) (by omega), pp_wrap_l, ← pp_sum_take l i (by omega)]
    have := ih (i + 1) k (by omega) (by omega) (by omega)
    simpa using this
theorem pp_sumOf (l : List Int) (hl : l.length ≤ 9223372036854775807) (k : Nat) (hk : l.length < k) : impl_sumOf.f k l = some (wrap64 l.sum) := by
  unfold impl_sumOf.f
  have := pp_sumOf_loop l hl l.length 0 k (by omega) (by omega) hk
  simpa [pp_wrap_0] using this

/-- How many columns lie ahead. -/
def ppAhead (l : List Int) (c : Int) : Nat := min c.toNat l.length
theorem pp_ahead_le (l : List Int) (c : Int) : ppAhead l c ≤ l.length := by unfold ppAhead; omega
theorem pp_implWidAt (l : List Int) (hl : l.length ≤ 9223372036854775807) (gap col : Int) (k : Nat) (hk : l.length < k) :
    impl_WidAt.f k l gap col = some (wrap64 ((l.take (ppAhead l col)).sum + gap * (ppAhead l col : Int))) := by
  have hm : (mx (mn col (l.length : Int)) 0) = (ppAhead l col : Int) := by unfold mx mn ppAhead; split <;> split <;> omega
  have hle := pp_ahead_le l col
  unfold impl_WidAt.f
  rw [hm, if_pos (by omega), if_pos (by omega), Int.toNat_natCast, pp_sumOf _ (by rw [List.length_take]; omega) k (by rw [List.length_take]; omega)]
  simp only [Option.bind_some, List.length_take]
  rw [pp_wrap_l, pp_wrap_r, Nat.min_eq_left hle]

theorem pp_specWidAt_loop (l : List Int) (hl : l.length ≤ 9223372036854775807) (gap col : Int) : ∀ (d i k : Nat), ppAhead l col - i = d → i ≤ ppAhead l col → d < k →
    spec_WidAt.l0 k l gap col (wrap64 ((l.take i).sum + gap * (i : Int))) (i : Int) = some (wrap64 ((l.take (ppAhead l col)).sum + gap * (ppAhead l col : Int))) := by
  have hle := pp_ahead_le l col
  intro d
  induction d with
  | zero =>
    intro i k hd hi hk
    obtain ⟨k, rfl⟩ : ∃ m, k = m + 1 := ⟨k - 1, by omega⟩
    have hil : i = ppAhead l col := by omega
    simp only [spec_WidAt.l0]
    by_cases hc : (i : Int) < col
    · rw [if_pos hc, if_neg (by unfold ppAhead at hil; omega), hil]
    · rw [if_neg hc, hil]
  | succ d ih =>
    intro i k hd hi hk
    obtain ⟨k, rfl⟩ : ∃ m, k = m + 1 := ⟨k - 1, by omega⟩
    simp only [spec_WidAt.l0]
    rw [if_pos (by unfold ppAhead at hd; omega), if_pos (by omega), if_pos (by omega), pp_wrap_id ((i : Int) + 1) (by omega) (by omega)]
    have := ih (i + 1) k (by omega) (by omega) (by omega)
    rw [pp_sum_take l i (by omega)] at this
    have e : wrap64 (wrap64 (wrap64 ((List.take i l).sum + gap * (i : Int)) + rd l i) + gap) = wrap64 ((List.take i l).sum + rd l i + gap * ((i + 1 : Nat) : Int)) := by
      rw [pp_wrap_l, Int.natCast_add, Int.mul_add]
      unfold wrap64
      omega
    rw [e]
    simpa using this
theorem pp_specWidAt (l : List Int) (hl : l.length ≤ 9223372036854775807) (gap col : Int) (k : Nat) (hk : l.length < k) :
    spec_WidAt.f k l gap col = some (wrap64 ((l.take (ppAhead l col)).sum + gap * (ppAhead l col : Int))) := by
  unfold spec_WidAt.f
  have := pp_specWidAt_loop l hl gap col (ppAhead l col) 0 k (by omega) (by omega) (by unfold ppAhead; omega)
  simpa [pp_wrap_0] using this

/-- Where a column ends. -/
def ppEnd (l : List Int) (gap col : Int) : Int := if 0 ≤ col ∧ col < (l.length : Int) then wrap64 (wrap64 ((l.take (ppAhead l col)).sum + gap * (ppAhead l col : Int)) + rd l col) else 0
theorem pp_specWidEnd (l : List Int) (hl : l.length ≤ 9223372036854775807) (gap col : Int) (k : Nat) (hk : l.length < k) : spec_WidEnd.f k l gap col = some (ppEnd l gap col) := by
  unfold spec_WidEnd.f spec_l1In.f ppEnd
  rw [pp_wrap_id _ (by omega) (by omega), pp_specWidAt l hl gap col k hk]
  by_cases h0 : 0 ≤ col
  · by_cases h1 : col < (l.length : Int)
    · rw [if_pos (by omega), if_pos ⟨h0, h1⟩]
      simp only [Option.bind_some]
      rw [if_pos (by simp; omega), if_pos h0, if_pos h1]
    · rw [if_pos (by omega), if_neg (by omega)]
      simp only [Option.bind_some]
      rw [if_neg (by simp; omega)]
  · rw [if_neg (by omega), if_neg (by omega)]
    simp
theorem pp_implWidEnd (l : List Int) (hl : l.length ≤ 9223372036854775807) (gap col : Int) (k : Nat) (hk : l.length < k) : impl_WidEnd.f k l gap col = some (ppEnd l gap col) := by
  unfold impl_WidEnd.f impl_in.f ppEnd
  rw [pp_wrap_id _ (by omega) (by omega), pp_implWidAt l hl gap col k hk]
  by_cases h0 : 0 ≤ col
  · by_cases h1 : col < (l.length : Int)
    · rw [if_pos (by omega), if_pos ⟨h0, h1⟩]
      simp only [Option.bind_some]
      rw [if_pos (by simp; omega), if_pos h0, if_pos h1]
    · rw [if_pos (by omega), if_neg (by omega)]
      simp only [Option.bind_some]
      rw [if_neg (by simp; omega)]
  · rw [if_neg (by omega), if_neg (by omega)]
    simp

theorem FnExactWidEnd : ∀ (l0 : List (Int)) (a1 : Int) (a2 : Int), (l0.length ≤ 9223372036854775807 ∧ ∀ x ∈ l0, (Lit.int .i64 x).wf = true) → ((Lit.int .i64 a1).wf = true) → ((Lit.int .i64 a2).wf = true) → ∃ k, laws_FnExactWidEnd.f k l0 a1 a2 = some true := by
  intro l gap col _ _ _
  refine ⟨l.length + 1, ?_⟩
  unfold laws_FnExactWidEnd.f
  by_cases hl : (l.length : Int) > 1048576
  · rw [if_pos hl]
  · rw [if_neg hl, pp_toIntS l (by omega) _ (by omega)]
    simp only [Option.bind_some]
    rw [pp_specWidEnd l (by omega) gap col _ (by omega), pp_implWidEnd l (by omega) gap col _ (by omega), pp_eqIntS l (by omega) _ (by omega)]
    simp only [Option.bind_some, if_true]

end Go.Proofs.Ytchimljcafnljaa.Pure
