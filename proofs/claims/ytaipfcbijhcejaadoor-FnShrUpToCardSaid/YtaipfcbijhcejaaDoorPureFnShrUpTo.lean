/-
  what is shared up to what each wants: impl and spec tell the same; of what is enough each gets what it wants, and what is left is left; else all is shared, to each no more than it wants; at all draws.
  Conditions: none but those of the statement.
-/
import Derived.Test.YtaipfcbijhcejaaDoorQlawsFnShrUpTo
namespace Go.Proofs.YtaipfcbijhcejaaDoor.Pure
open Go.RowKit Go.Proofs.YtaipfcbijhcejaaDoor.Q Go.Proofs.YtaipfcbijhcejaaDoorW.PrintWords Go.Proofs.YtaipfcbijhcejaaDoorW.PrintLast Go.Proofs.YtaipfcbijhcejaaDoorW.PrintMore
set_option linter.unusedVariables false
set_option linter.unusedSimpArgs false

theorem pp_wrap_id (a : Int) (h : -9223372036854775808 ≤ a) (h' : a ≤ 9223372036854775807) : wrap64 a = a := by unfold wrap64; omega
/-- With enough rounds g answers, and P holds of the answer. -/
def Evs {α : Type} (g : Nat → Option α) (P : α → Prop) : Prop := ∃ r K, P r ∧ ∀ k, K ≤ k → g k = some r
theorem Evs.now {α : Type} {P : α → Prop} {r : α} (h : P r) : Evs (fun _ => some r) P := ⟨r, 0, h, fun _ _ => rfl⟩
theorem Evs.bnd {α β : Type} {g : Nat → Option α} {f : Nat → α → Option β} {P : α → Prop} {Q : β → Prop} (h : Evs g P) (k : ∀ a, P a → Evs (fun n => f n a) Q) : Evs (fun n => (g n).bind (f n)) Q := by
  obtain ⟨a, K, hP, h⟩ := h
  obtain ⟨r, K', hQ, k⟩ := k a hP
  refine ⟨r, max K K', hQ, fun n hn => ?_⟩
  show (g n).bind (f n) = some r
  rw [h n (by omega)]
  exact k n (by omega)
theorem Evs.step {α : Type} {g f : Nat → Option α} {P : α → Prop} (h : ∀ k, g (k + 1) = f k) (k : Evs f P) : Evs g P := by
  obtain ⟨r, K, hP, k⟩ := k
  refine ⟨r, K + 1, hP, fun n hn => ?_⟩
  obtain ⟨m, rfl⟩ : ∃ m, n = m + 1 := ⟨n - 1, by omega⟩
  rw [h]
  exact k m (by omega)
theorem Evs.cong {α : Type} {g f : Nat → Option α} {P : α → Prop} (h : ∀ k, g k = f k) (k : Evs f P) : Evs g P := by
  obtain ⟨r, K, hP, k⟩ := k
  exact ⟨r, K, hP, fun n hn => (h n).trans (k n hn)⟩
theorem Evs.of {α : Type} {g : Nat → Option α} {r : α} (K : Nat) (h : ∀ k, K ≤ k → g k = some r) : Evs g (fun q => q = r) := ⟨r, K, rfl, h⟩
theorem Evs.ends {α : Type} {g : Nat → Option α} {r : α} (h : Evs g (fun q => q = r)) : ∃ k, g k = some r := by
  obtain ⟨q, K, rfl, k⟩ := h
  exact ⟨K, k K (Nat.le_refl _)⟩
theorem Evs.pos {α : Type} {g f : Nat → Option α} {c : Prop} [Decidable c] {P : α → Prop} (hc : c) (h : Evs g P) : Evs (fun k => if c then g k else f k) P := h.cong (fun k => if_pos hc)
theorem Evs.neg {α : Type} {g f : Nat → Option α} {c : Prop} [Decidable c] {P : α → Prop} (hc : ¬ c) (h : Evs f P) : Evs (fun k => if c then g k else f k) P := h.cong (fun k => if_neg hc)
theorem Evs.ite {α : Type} {g f : Nat → Option α} {c : Prop} [Decidable c] {P : α → Prop} (h : c → Evs g P) (h' : ¬ c → Evs f P) : Evs (fun k => if c then g k else f k) P := by
  by_cases hc : c
  · exact Evs.pos hc (h hc)
  · exact Evs.neg hc (h' hc)
/-- A loop that counts up. -/
theorem Evs.up {σ ρ : Type} (E : Nat → σ → Int → Option ρ) (n : Nat) (Inv : Nat → σ → Prop) (Post : ρ → Prop)
    (hs : ∀ s (i : Nat), i < n → Inv i s → (∀ s', Inv (i + 1) s' → Evs (fun k => E k s' ((i : Int) + 1)) Post) → Evs (fun k => E k s (i : Int)) Post)
    (he : ∀ s, Inv n s → Evs (fun k => E k s (n : Int)) Post) : ∀ s, Inv 0 s → Evs (fun k => E k s 0) Post := by
  have key : ∀ (d i : Nat) (s : σ), n - i = d → i ≤ n → Inv i s → Evs (fun k => E k s (i : Int)) Post := by
    intro d
    induction d with
    | zero =>
      intro i s hd hi hI
      obtain rfl : i = n := by omega
      exact he s hI
    | succ d ih =>
      intro i s hd hi hI
      exact hs s i (by omega) hI (fun s' hI' => by simpa using ih (i + 1) s' (by omega) (by omega) hI')
  intro s hI
  simpa using key n 0 s (by omega) (by omega) hI

theorem pp_getD {α : Type} (l : List α) (i : Nat) (z : α) (h : i < l.length) : l.getD (i : Int).toNat z = l[i] := by
  simp [List.getD_eq_getElem?_getD, List.getElem?_eq_getElem h]
/-- What a reader reads: bytes, no more than 2000. -/
def ppRd (l : List Int) : Prop := l.length ≤ 2000 ∧ ∀ x ∈ l, 0 ≤ x ∧ x ≤ 255
theorem pp_u8 (l : List Int) (h : ∀ x ∈ l, (Lit.int .u8 x).wf = true) : ∀ x ∈ l, 0 ≤ x ∧ x ≤ 255 := by
  intro x hx
  have := h x hx
  simp [Lit.wf, IntKind.min, IntKind.max, IntKind.signed, IntKind.bits] at this
  omega
theorem pp_rdb (l : List Int) (h : ∀ x ∈ l, 0 ≤ x ∧ x ≤ 255) (i : Int) : 0 ≤ rd l i ∧ rd l i ≤ 255 := by
  unfold rd
  rw [List.getD_eq_getElem?_getD]
  cases e : l[i.toNat]? with
  | none => simp
  | some v => exact h v (List.mem_of_getElem? e)
theorem pp_open (l : List Int) (h : ∀ x ∈ l, (Lit.int .u8 x).wf = true) : ∃ b, spec_l20Open.f l = some (b, 0) ∧ ppRd b := by
  unfold spec_l20Open.f
  by_cases hl : (l.length : Int) > 2000
  · rw [if_pos hl, if_pos (by omega)]
    exact ⟨_, rfl, by rw [List.length_take]; omega, fun x hx => pp_u8 l h x (List.mem_of_mem_take hx)⟩
  · rw [if_neg hl]
    exact ⟨_, rfl, by omega, pp_u8 l h⟩
theorem pp_xor (x y : Int) (hx : 0 ≤ x) (hy : 0 ≤ y) (hx' : x < 4611686018427387904) (hy' : y < 4611686018427387904) : 0 ≤ Go.bits .xor .i64 x y ∧ Go.bits .xor .i64 x y < 4611686018427387904 := by
  obtain ⟨a, rfl⟩ : ∃ a : Nat, x = a := ⟨x.toNat, by omega⟩
  obtain ⟨b, rfl⟩ : ∃ b : Nat, y = b := ⟨y.toNat, by omega⟩
  have ha : a % 2 ^ 64 = a := Nat.mod_eq_of_lt (by omega)
  have hb : b % 2 ^ 64 = b := Nat.mod_eq_of_lt (by omega)
  have hlt : a ^^^ b < 2 ^ 62 := Nat.xor_lt_two_pow (by omega) (by omega)
  have e : Go.bits .xor .i64 (a : Int) (b : Int) = IntKind.i64.wrap ((a ^^^ b : Nat) : Int) := by
    have q : (BitVec.ofNat 64 a ^^^ BitVec.ofNat 64 b).toNat = a ^^^ b := by rw [BitVec.toNat_xor, BitVec.toNat_ofNat, BitVec.toNat_ofNat, ha, hb]
    simp only [Go.bits, BitVec.ofInt_natCast, IntKind.bits]
    exact congrArg (fun z : Nat => IntKind.i64.wrap (z : Int)) q
  rw [e, IntKind.wrap_i64]
  omega
theorem pp_pick (l : List Int) (h : ppRd l) (p n : Int) (hp : 0 ≤ p) (hp' : p ≤ 1000000000) (hn : n ≤ 1000000) :
    Evs (fun k => spec_l20Rd_pick.f k l p n) (fun r => r.2 = p + 1 ∧ 0 ≤ r.1 ∧ (n < 1 → r.1 = 0) ∧ (1 ≤ n → r.1 < n)) := by
  obtain ⟨hl, hb⟩ := h
  have e1 : wrap64 (p + 1) = p + 1 := pp_wrap_id _ (by omega) (by omega)
  have e2 : wrap64 (p + 1 - 1) = p := by rw [show p + 1 - 1 = p by omega]; exact pp_wrap_id _ (by omega) (by omega)
  unfold spec_l20Rd_pick.f
  rw [e1]
  by_cases h1 : n < 1
  · refine Evs.cong (fun k => if_pos h1) (Evs.step (f := fun _ => some (0, p + 1)) (fun k => by simp only [spec_l20Rd_pick.j0, if_true]) (Evs.now ⟨rfl, by simp, fun _ => rfl, fun h => by omega⟩))
  · refine Evs.cong (fun k => if_neg h1) ?_
    by_cases h0 : l.length = 0
    · refine Evs.step (f := fun _ => some (0, p + 1)) (fun k => by simp only [spec_l20Rd_pick.j0]; rw [if_pos (by simp [h0])]) (Evs.now ⟨rfl, by simp, fun _ => rfl, fun h => by simp; omega⟩)
    · have hne : (((l.length : Int) == 0) = true) = False := by
        have : l ≠ [] := fun e => h0 (by rw [e]; rfl)
        simpa using this
      by_cases hlt : p < (l.length : Int)
      · have hr := pp_rdb l hb p
        have hm := Int.emod_nonneg (rd l p) (show n ≠ 0 by omega)
        have hm' := Int.emod_lt_of_pos (rd l p) (show 0 < n by omega)
        refine Evs.step (f := fun _ => some (Int.tmod (rd l p) n, p + 1)) (fun k => by
          simp only [spec_l20Rd_pick.j0, e2, hne, if_false]
          rw [if_pos hlt, if_pos hp, if_neg (show ¬ n = 0 by omega), pp_wrap_id (rd l p) (by omega) (by omega)]) (Evs.now ⟨rfl, ?_, fun h => absurd h h1, fun _ => ?_⟩)
        · simp only [Int.tmod_eq_emod_of_nonneg hr.1]; exact hm
        · simp only [Int.tmod_eq_emod_of_nonneg hr.1]; exact hm'
      · have hL : (0 : Int) < (l.length : Int) := by omega
        have ei : Int.tmod p (l.length : Int) = p % (l.length : Int) := Int.tmod_eq_emod_of_nonneg hp
        have ed : Int.tdiv p (l.length : Int) = p / (l.length : Int) := Int.tdiv_eq_ediv_of_nonneg hp
        have i0 := Int.emod_nonneg p (show (l.length : Int) ≠ 0 by omega)
        have i1 := Int.emod_lt_of_pos p hL
        have d0 : 0 ≤ p / (l.length : Int) := Int.ediv_nonneg hp (by omega)
        have d1 : p / (l.length : Int) ≤ p := Int.ediv_le_self _ hp
        have e7 : wrap64 (wrap64 (p * 7) + 3) = p * 7 + 3 := by rw [pp_wrap_id (p * 7) (by omega) (by omega), pp_wrap_id _ (by omega) (by omega)]
        have ej : Int.tmod (p * 7 + 3) (l.length : Int) = (p * 7 + 3) % (l.length : Int) := Int.tmod_eq_emod_of_nonneg (by omega)
        have j0 := Int.emod_nonneg (p * 7 + 3) (show (l.length : Int) ≠ 0 by omega)
        have j1 := Int.emod_lt_of_pos (p * 7 + 3) hL
        obtain ⟨u, hu⟩ : ∃ u, u = rd l (p % (l.length : Int)) := ⟨_, rfl⟩
        obtain ⟨v, hv⟩ : ∃ v, v = rd l ((p * 7 + 3) % (l.length : Int)) := ⟨_, rfl⟩
        have hu' : 0 ≤ u ∧ u ≤ 255 := by rw [hu]; exact pp_rdb l hb _
        have hv' : 0 ≤ v ∧ v ≤ 255 := by rw [hv]; exact pp_rdb l hb _
        obtain ⟨dq, hdq⟩ : ∃ dq, dq = p / (l.length : Int) := ⟨_, rfl⟩
        rw [← hdq] at d0 d1
        have w1 : wrap64 u = u := pp_wrap_id _ (by omega) (by omega)
        have w2 : wrap64 (u * 131) = u * 131 := pp_wrap_id _ (by omega) (by omega)
        have w3 : wrap64 v = v := pp_wrap_id _ (by omega) (by omega)
        have w4 : wrap64 (v * 1117) = v * 1117 := pp_wrap_id _ (by omega) (by omega)
        have w5 : wrap64 (u * 131 + v * 1117) = u * 131 + v * 1117 := pp_wrap_id _ (by omega) (by omega)
        have w6 : wrap64 (p * 29) = p * 29 := pp_wrap_id _ (by omega) (by omega)
        have w7 : wrap64 (u * 131 + v * 1117 + p * 29) = u * 131 + v * 1117 + p * 29 := pp_wrap_id _ (by omega) (by omega)
        have w8 : wrap64 dq = dq := pp_wrap_id _ (by omega) (by omega)
        have w9 : wrap64 (dq * 53) = dq * 53 := pp_wrap_id _ (by omega) (by omega)
        have wa : wrap64 (u * 131 + v * 1117 + p * 29 + dq * 53) = u * 131 + v * 1117 + p * 29 + dq * 53 := pp_wrap_id _ (by omega) (by omega)
        obtain ⟨x, hx⟩ : ∃ x, x = u * 131 + v * 1117 + p * 29 + dq * 53 := ⟨_, rfl⟩
        have x0 : 0 ≤ x := by omega
        have x1 : x < 4611686018427387904 := by omega
        have wx : wrap64 x = x := pp_wrap_id _ (by omega) (by omega)
        have ex : Int.tdiv x 64 = x / 64 := Int.tdiv_eq_ediv_of_nonneg x0
        have wb : wrap64 (x / 64) = x / 64 := pp_wrap_id _ (by omega) (by omega)
        have hz := pp_xor x (x / 64) x0 (by omega) x1 (by omega)
        have hm := Int.emod_nonneg (Go.bits .xor .i64 x (x / 64)) (show n ≠ 0 by omega)
        have hm' := Int.emod_lt_of_pos (Go.bits .xor .i64 x (x / 64)) (show 0 < n by omega)
        refine Evs.step (f := fun _ => some (Int.tmod (Go.bits .xor .i64 x (x / 64)) n, p + 1)) (fun k => by
          simp only [spec_l20Rd_pick.j0, e2, hne, if_false, ei, ed, e7, ej, ← hu, ← hv, ← hdq, w1, w2, w3, w4, w5, w6, w7, w8, w9, wa, ← hx, wx, ex, wb]
          rw [if_neg hlt, if_neg (by omega), if_pos i0, if_pos i1, if_pos j0, if_pos j1, if_neg (by omega)]) (Evs.now ⟨rfl, ?_, fun h => absurd h h1, fun _ => ?_⟩)
        · simp only [Int.tmod_eq_emod_of_nonneg hz.1]; exact hm
        · simp only [Int.tmod_eq_emod_of_nonneg hz.1]; exact hm'

theorem pps_inS (x c d : Int) : spec_l1In.f x c d = some (decide (c ≤ x ∧ x ≤ d)) := by
  unfold spec_l1In.f
  split
  · congr 1; exact decide_eq_decide.2 (by omega)
  · congr 1; symm; exact decide_eq_false (by omega)
theorem pps_inP (x c d : Int) : impl_in.f x c d = some (decide (c ≤ x ∧ x ≤ d)) := by
  unfold impl_in.f
  split
  · congr 1; exact decide_eq_decide.2 (by omega)
  · congr 1; symm; exact decide_eq_false (by omega)
theorem pps_neg {α : Type} (p : α → Bool) (l : List α) : decide (0 ≤ ppIdx (fun x => !p x) l) = !l.all p := by
  by_cases h : l.all p = true
  · rw [h, ppIdx_miss _ _ (fun j hj => by simp [List.all_eq_true.1 h _ (List.getElem_mem hj)])]
    rfl
  · rw [Bool.eq_false_iff.2 h]
    have : ∃ x ∈ l, p x = false := by simpa using h
    obtain ⟨x, hx, hp⟩ := this
    refine decide_eq_true ?_
    unfold ppIdx
    cases e : l.findIdx? (fun x => !p x) with
    | some i => exact Int.natCast_nonneg _
    | none =>
      rw [List.findIdx?_eq_none_iff] at e
      have := e x hx
      rw [hp] at this
      cases this

section
variable {n : Nat}
/-- The greater key first; of alike ones the first. -/
def ppLex (key : Fin (n + 1) → Int) (x y : Fin (n + 1)) : Bool := decide (key y < key x ∨ (key y = key x ∧ x.val < y.val))
theorem ppLex_gt (key : Fin (n + 1) → Int) (x y : Fin (n + 1)) (h : y.val < x.val) : ppLex key x y = ppGt key x y := by
  unfold ppLex ppGt
  exact decide_eq_decide.2 (by omega)
theorem ppLex_swo (key : Fin (n + 1) → Int) : Sort.SWO (ppLex key) where
  irrefl x := decide_eq_false (by omega)
  trans x y z h1 h2 := by
    have h1 := of_decide_eq_true h1
    have h2 := of_decide_eq_true h2
    exact decide_eq_true (by omega)
  ntrans x y z h1 h2 := by
    have h1 := of_decide_eq_false h1
    have h2 := of_decide_eq_false h2
    exact decide_eq_false (by omega)
theorem ppSwp_size (d : Array (Fin (n + 1))) (i j : Nat) : (Sort.swp d i j).size = d.size := by simp [Sort.swp]
theorem ppSwp_at (d : Array (Fin (n + 1))) (j k : Nat) (hj : j + 1 < d.size) : (Sort.swp d (j + 1) j)[k]! = if k = j then d[j + 1]! else if k = j + 1 then d[j]! else d[k]! := by
  unfold Sort.swp
  by_cases h1 : k = j
  · subst h1
    rw [if_pos rfl, Sort.getElem!_set_same _ _ _ (by simp; omega)]
  · rw [if_neg h1, Sort.getElem!_set_other _ _ _ _ h1]
    by_cases h2 : k = j + 1
    · subst h2
      rw [if_pos rfl, Sort.getElem!_set_same _ _ _ hj]
    · rw [if_neg h2, Sort.getElem!_set_other _ _ _ _ h2]
/-- One value's way down: by either test alike, for it comes behind all ahead. -/
theorem ppInner_lex (key : Fin (n + 1) → Int) (a : Nat) : ∀ (j : Nat) (d : Array (Fin (n + 1))), j < d.size → (∀ i, i < j → (d[i]!).val < (d[j]!).val) →
    Sort.insInner (ppGt key) a j d = Sort.insInner (ppLex key) a j d ∧ (Sort.insInner (ppLex key) a j d).size = d.size ∧ (∀ k, j < k → (Sort.insInner (ppLex key) a j d)[k]! = d[k]!) ∧
    ∀ P : Fin (n + 1) → Prop, (∀ i, i ≤ j → P d[i]!) → ∀ i, i ≤ j → P (Sort.insInner (ppLex key) a j d)[i]!
  | 0, d, _, _ => ⟨by rw [Sort.insInner, Sort.insInner], by rw [Sort.insInner], fun k _ => by rw [Sort.insInner], fun P h i hi => by rw [Sort.insInner]; exact h i hi⟩
  | j + 1, d, hj, hv => by
    have e := ppLex_gt key d[j + 1]! d[j]! (hv j (by omega))
    have at_ := ppSwp_at d j
    by_cases c : (decide (j + 1 > a) && ppLex key d[j + 1]! d[j]!) = true
    · obtain ⟨i1, i2, i3, i4⟩ := ppInner_lex key a j (Sort.swp d (j + 1) j) (by rw [ppSwp_size]; omega) (fun i hi => by
        rw [at_ i hj, at_ j hj, if_neg (by omega), if_neg (by omega), if_pos rfl]
        exact hv i (by omega))
      have c' : (decide (j + 1 > a) && ppGt key d[j + 1]! d[j]!) = true := by rw [← e]; exact c
      rw [Sort.insInner, Sort.insInner, if_pos c, if_pos c']
      refine ⟨i1, by rw [i2, ppSwp_size], fun k hk => by rw [i3 k (by omega), at_ k hj, if_neg (by omega), if_neg (by omega)], fun P h i hi => ?_⟩
      by_cases hij : i = j + 1
      · subst hij
        rw [i3 _ (by omega), at_ _ hj, if_neg (by omega), if_pos rfl]
        exact h j (by omega)
      · refine i4 P (fun i hi => ?_) i (by omega)
        rw [at_ i hj]
        split
        · exact h _ (Nat.le_refl _)
        · rw [if_neg (by omega)]
          exact h i (by omega)
    · have c' : ¬ (decide (j + 1 > a) && ppGt key d[j + 1]! d[j]!) = true := by rw [← e]; exact c
      rw [Sort.insInner, Sort.insInner, if_neg c, if_neg c']
      exact ⟨rfl, rfl, fun k _ => rfl, fun P h i hi => h i hi⟩
theorem ppOuter_lex (key : Fin (n + 1) → Int) (a b : Nat) : ∀ (m i : Nat) (d : Array (Fin (n + 1))), b - i = m → b ≤ d.size → (∀ k, i ≤ k → k < b → ∀ i', i' < k → (d[i']!).val < (d[k]!).val) → Sort.insOuter (ppGt key) a b i d = Sort.insOuter (ppLex key) a b i d
  | 0, i, d, hm, _, _ => by rw [Go.Proofs.insOuter_stop _ _ _ _ _ (by omega), Go.Proofs.insOuter_stop _ _ _ _ _ (by omega)]
  | m + 1, i, d, hm, hb, hv => by
    obtain ⟨i1, i2, i3, i4⟩ := ppInner_lex key a i d (by omega) (hv i (Nat.le_refl _) (by omega))
    rw [Go.Proofs.insOuter_go (ppGt key) a b i d (by omega), Go.Proofs.insOuter_go (ppLex key) a b i d (by omega), i1]
    refine ppOuter_lex key a b m (i + 1) _ (by omega) (by rw [i2]; exact hb) (fun k hk hkb i' hi' => ?_)
    rw [i3 k (by omega)]
    by_cases h : i' ≤ i
    · exact i4 (fun x => x.val < (d[k]!).val) (fun i' hi' => hv k (by omega) hkb i' (by omega)) i' h
    · rw [i3 i' (by omega)]
      exact hv k (by omega) hkb i' hi'
theorem ppIds_at (i : Nat) (h : i < n + 1) : ((ppIds n)[i]!).val = i := by
  have hs : i < (ppIds n).size := by simp [ppIds]; exact h
  rw [getElem!_pos (ppIds n) i hs]
  simp [ppIds]
theorem ppOrd_all (key : Fin (n + 1) → Int) : (ppOrd key).size = n + 1 ∧ (ppOrd key).toList.Perm (ppIds n).toList ∧ ∀ i j, i < j → j < n + 1 → ppLex key (ppOrd key)[i]! (ppOrd key)[j]! = true := by
  have hs : (ppIds n).size = n + 1 := by simp [ppIds]
  have e : ppOrd key = Sort.insertionSort (ppLex key) (ppIds n) 0 (ppIds n).size := by
    unfold ppOrd Sort.insertionSort
    exact ppOuter_lex key 0 _ _ _ _ rfl (Nat.le_refl _) (fun k _ hk i' hi' => by rw [ppIds_at k (by omega), ppIds_at i' (by omega)]; exact hi')
  obtain ⟨⟨h1, _, h3⟩, h4⟩ := Sort.insertionSort_holds (lt := ppLex key) (ppLex_swo key) (ppIds n) 0 (ppIds n).size (Nat.zero_le _) (Nat.le_refl _)
  rw [← e] at h1 h3 h4
  have p : (ppOrd key).toList.Perm (ppIds n).toList := by
    have q1 : (ppOrd key).extract 0 (ppIds n).size = ppOrd key := by rw [← h1]; simp
    have q2 : (ppIds n).extract 0 (ppIds n).size = ppIds n := by simp
    rw [q1, q2] at h3
    exact h3
  refine ⟨by omega, p, fun i j hij hj => ?_⟩
  have h := h4 i j (Nat.zero_le _) hij (by omega)
  have h := of_decide_eq_false h
  refine decide_eq_true ?_
  have hne : (ppOrd key)[i]! ≠ (ppOrd key)[j]! := by
    have nd : (ppOrd key).toList.Nodup := p.nodup_iff.2 (by
      have : (ppIds n).toList = List.finRange (n + 1) := by simp [ppIds, List.finRange]
      rw [this]
      exact List.nodup_finRange _)
    rw [getElem!_pos (ppOrd key) i (by omega), getElem!_pos (ppOrd key) j (by omega)]
    intro q
    have := (List.getElem_inj (h₀ := by simp; omega) (h₁ := by simp; omega) nd).1 (show (ppOrd key).toList[i]'(by simp; omega) = (ppOrd key).toList[j]'(by simp; omega) by simpa using q)
    omega
  have hne : ((ppOrd key)[i]!).val ≠ ((ppOrd key)[j]!).val := fun q => hne (Fin.ext q)
  omega
end

/-- What is due, and what is left over of it, add up. -/
theorem ppShr_sum (t s : Int) : ∀ l : List Int, t * l.sum = s * (l.map (fun x => t * x / s)).sum + (l.map (fun x => t * x % s)).sum
  | [] => by simp
  | x :: r => by
    have ih := ppShr_sum t s r
    have e := Int.mul_ediv_add_emod (t * x) s
    simp only [List.sum_cons, List.map_cons]
    rw [Int.mul_add, Int.mul_add, ih]
    omega
theorem ppShr_rest (t s : Int) (hs : 0 < s) : ∀ l : List Int, 0 ≤ (l.map (fun x => t * x % s)).sum ∧ (l.map (fun x => t * x % s)).sum ≤ (l.length : Int) * (s - 1)
  | [] => by simp
  | x :: r => by
    have ih := ppShr_rest t s hs r
    have h1 := Int.emod_nonneg (t * x) (show s ≠ 0 by omega)
    have h2 := Int.emod_lt_of_pos (t * x) hs
    simp only [List.sum_cons, List.map_cons, List.length_cons]
    have e : ((r.length + 1 : Nat) : Int) * (s - 1) = (r.length : Int) * (s - 1) + (s - 1) := by
      rw [Int.natCast_add, Int.add_mul]; simp
    omega
/-- How many of the rest are shared, one each: fewer than there are. -/
theorem ppShr_many (t s : Int) (l : List Int) (hs : s = l.sum) (hp : 0 < s) (hl : l ≠ []) : 0 ≤ t - (l.map (fun x => t * x / s)).sum ∧ t - (l.map (fun x => t * x / s)).sum < (l.length : Int) ∧ s * (t - (l.map (fun x => t * x / s)).sum) = (l.map (fun x => t * x % s)).sum := by
  have h := ppShr_sum t s l
  obtain ⟨r0, r1⟩ := ppShr_rest t s hp l
  rw [← hs] at h
  generalize (l.map (fun x => t * x / s)).sum = q at *
  generalize (l.map (fun x => t * x % s)).sum = r at *
  have e : s * (t - q) = r := by rw [Int.mul_sub, Int.mul_comm s t]; omega
  have hn : 0 < (l.length : Int) := by
    have := List.length_pos_iff.2 hl
    omega
  refine ⟨?_, ?_, e⟩
  · by_cases h0 : 0 ≤ t - q
    · exact h0
    · have : s * (t - q) < 0 := Int.mul_neg_of_pos_of_neg hp (by omega)
      omega
  · by_cases h0 : t - q < (l.length : Int)
    · exact h0
    · have h1 : s * (l.length : Int) ≤ s * (t - q) := Int.mul_le_mul_of_nonneg_left (by omega) (by omega)
      have h2 : (l.length : Int) * (s - 1) = s * (l.length : Int) - (l.length : Int) := by rw [Int.mul_sub, Int.mul_comm]; omega
      omega

theorem pp_abc : Txt.ppTxtOk (⟨#[97, 98, 32, 99]⟩ : ByteArray) = true := by kernel_rfl
theorem pp_pwOk : laws_pwOk.f = some true := by
  unfold laws_pwOk.f impl_TxtOk.f
  rw [if_pos (by decide), pp_abc]
  rfl

theorem pps_rd {l : List Int} {i : Nat} (h : i < l.length) : rd l (i : Int) = l[i] := pp_getD l i _ h
/-- Whether something may be shared. -/
def ppShrB (t : Int) (l : List Int) : Bool := decide (0 ≤ t ∧ t ≤ 100000) && (decide (l.length ≤ 100) && l.all fun x => decide (0 ≤ x ∧ x ≤ 100000))
theorem pps_okI (k : Nat) (t : Int) (l : List Int) : impl_ShrOk.f k t l = some (ppShrB t l) := by
  unfold impl_ShrOk.f ppShrB
  rw [pps_inP]
  simp only [Option.bind_some]
  by_cases h : 0 ≤ t ∧ t ≤ 100000
  · rw [decide_eq_true h, if_pos rfl, Bool.true_and]
    by_cases h2 : (l.length : Int) ≤ 100
    · rw [if_pos h2, decide_eq_true (show l.length ≤ 100 by omega), Bool.true_and]
      have e : impl_ShrOk.wrong = fun x => !decide (0 ≤ x ∧ x ≤ 100000) := by
        funext x
        unfold impl_ShrOk.wrong
        rw [pps_inP]
        rfl
      rw [e, pps_neg, Bool.not_not]
    · rw [if_neg h2, decide_eq_false (show ¬ l.length ≤ 100 by omega), Bool.false_and]
  · rw [decide_eq_false h, if_neg (by decide), Bool.false_and]
theorem pps_allTake (p : Int → Bool) (l : List Int) (i : Nat) (h : i < l.length) (hi : (l.take i).all p = true) : l.all p = (p l[i] && (l.drop (i + 1)).all p) := by
  have e : l = l.take i ++ (l[i] :: l.drop (i + 1)) := by rw [← List.drop_eq_getElem_cons h, List.take_append_drop]
  have : l.all p = ((l.take i).all p && (p l[i] && (l.drop (i + 1)).all p)) := by
    conv => lhs; rw [e]
    rw [List.all_append, List.all_cons]
  rw [this, hi, Bool.true_and]
theorem pps_okS0 (l : List Int) (hl : l.length ≤ 100) : Evs (fun k => spec_ShrOk.l0 k l 0) (fun r => r = l.all fun x => decide (0 ≤ x ∧ x ≤ 100000)) := by
  refine Evs.up (fun k (_ : Unit) i => spec_ShrOk.l0 k l i) l.length (fun i _ => (l.take i).all (fun x => decide (0 ≤ x ∧ x ≤ 100000)) = true) _ ?_ ?_ () (by simp)
  · intro _ i hi hI hk
    have ew : wrap64 ((i : Int) + 1) = (i : Int) + 1 := pp_wrap_id _ (by omega) (by omega)
    refine Evs.step (fun k => by rw [spec_ShrOk.l0, ew, pps_inS]) ?_
    refine Evs.pos (by omega) (Evs.pos (by omega) ?_)
    refine Evs.bnd (Evs.now (P := fun q => q = decide (0 ≤ rd l (i : Int) ∧ rd l (i : Int) ≤ 100000)) rfl) ?_
    rintro _ rfl
    rw [pps_rd hi]
    refine Evs.ite (fun h => ?_) (fun h => ?_)
    · refine hk () ?_
      rw [List.take_succ_eq_append_getElem hi, List.all_append, hI, List.all_cons, h]
      rfl
    · refine Evs.now ?_
      rw [pps_allTake _ l i hi hI, Bool.eq_false_iff.2 h]
      rfl
  · intro _ hI
    refine Evs.step (fun k => by rw [spec_ShrOk.l0]) ?_
    refine Evs.neg (by omega) (Evs.now ?_)
    rw [List.take_length] at hI
    exact hI.symm
theorem pps_okS (t : Int) (l : List Int) : Evs (fun k => spec_ShrOk.f k t l) (fun r => r = ppShrB t l) := by
  unfold spec_ShrOk.f ppShrB
  rw [pps_inS]
  simp only [Option.bind_some]
  by_cases h : 0 ≤ t ∧ t ≤ 100000
  · rw [decide_eq_true h, Bool.true_and]
    refine Evs.pos rfl ?_
    by_cases h2 : (l.length : Int) > 100
    · rw [decide_eq_true h2, decide_eq_false (show ¬ l.length ≤ 100 by omega), Bool.false_and]
      refine Evs.step (fun k => by rw [spec_ShrOk.j0]) (Evs.pos rfl (Evs.now rfl))
    · rw [decide_eq_false h2, decide_eq_true (show l.length ≤ 100 by omega), Bool.true_and]
      refine Evs.step (fun k => by rw [spec_ShrOk.j0]) (Evs.neg (by decide) (pps_okS0 l (by omega)))
  · rw [decide_eq_false h, Bool.false_and]
    refine Evs.neg (by decide) ?_
    refine Evs.step (fun k => by rw [spec_ShrOk.j0]) (Evs.pos rfl (Evs.now rfl))
/-- Small numbers. -/
def ppSm (l : List Int) : Prop := l.length ≤ 100 ∧ ∀ x ∈ l, 0 ≤ x ∧ x ≤ 1000000
theorem pps_sum_bd : ∀ l : List Int, (∀ x ∈ l, 0 ≤ x ∧ x ≤ 1000000) → 0 ≤ l.sum ∧ l.sum ≤ 1000000 * (l.length : Int)
  | [], _ => by simp
  | x :: r, h => by
    have h1 := h x List.mem_cons_self
    have h2 := pps_sum_bd r (fun y hy => h y (List.mem_cons_of_mem _ hy))
    rw [List.sum_cons, List.length_cons]
    omega
theorem pps_take_sum (l : List Int) (i : Nat) (h : i < l.length) : (l.take (i + 1)).sum = (l.take i).sum + l[i] := by
  rw [List.take_succ_eq_append_getElem h, List.sum_append, List.sum_cons, List.sum_nil, Int.add_zero]
theorem pps_take_bd {l : List Int} (h : ppSm l) (i : Nat) (hi : i < l.length) : 0 ≤ (l.take i).sum ∧ (l.take i).sum ≤ 100000000 ∧ 0 ≤ l[i] ∧ l[i] ≤ 1000000 := by
  have h1 := pps_sum_bd (l.take i) (fun x hx => h.2 x (List.mem_of_mem_take hx))
  have h2 := h.2 _ (List.getElem_mem hi)
  have h3 := h.1
  rw [List.length_take] at h1
  omega
theorem pps_sumI (l : List Int) (h : ppSm l) : Evs (fun k => impl_sumOf.f k l) (fun r => r = l.sum) := by
  unfold impl_sumOf.f
  refine Evs.up (fun k s i => impl_sumOf.l0 k s l (l.length : Int) i) l.length (fun i s => s = (l.take i).sum) _ ?_ ?_ 0 (by simp)
  · rintro _ i hi rfl hk
    have hb := pps_take_bd h i hi
    have ew : wrap64 ((i : Int) + 1) = (i : Int) + 1 := pp_wrap_id _ (by have := h.1; omega) (by have := h.1; omega)
    have es : wrap64 ((l.take i).sum + rd l (i : Int)) = (l.take i).sum + l[i] := by rw [pps_rd hi]; exact pp_wrap_id _ (by omega) (by omega)
    refine Evs.step (fun k => by rw [impl_sumOf.l0, ew, es]) ?_
    exact Evs.pos (by omega) (Evs.pos (by omega) (Evs.pos (by omega) (hk _ (pps_take_sum l i hi).symm)))
  · rintro _ rfl
    refine Evs.step (fun k => by rw [impl_sumOf.l0]) ?_
    exact Evs.neg (by omega) (Evs.now (by rw [List.take_length]))
theorem pps_sumS (l : List Int) (h : ppSm l) : Evs (fun k => spec_l1Sum.f k l) (fun r => r = l.sum) := by
  unfold spec_l1Sum.f
  refine Evs.up (fun k s i => spec_l1Sum.l0 k l s i) l.length (fun i s => s = (l.take i).sum) _ ?_ ?_ 0 (by simp)
  · rintro _ i hi rfl hk
    have hb := pps_take_bd h i hi
    have ew : wrap64 ((i : Int) + 1) = (i : Int) + 1 := pp_wrap_id _ (by have := h.1; omega) (by have := h.1; omega)
    have es : wrap64 ((l.take i).sum + rd l (i : Int)) = (l.take i).sum + l[i] := by rw [pps_rd hi]; exact pp_wrap_id _ (by omega) (by omega)
    refine Evs.step (fun k => by rw [spec_l1Sum.l0, ew, es]) ?_
    exact Evs.pos (by omega) (Evs.pos (by omega) (hk _ (pps_take_sum l i hi).symm))
  · rintro _ rfl
    refine Evs.step (fun k => by rw [spec_l1Sum.l0]) ?_
    exact Evs.neg (by omega) (Evs.now (by rw [List.take_length]))
theorem pps_sumW (l : List Int) (h : ppSm l) : Evs (fun k => laws_pwSum.f k l) (fun r => r = l.sum) := by
  unfold laws_pwSum.f
  refine Evs.up (fun k s i => laws_pwSum.l0 k l s i) l.length (fun i s => s = (l.take i).sum) _ ?_ ?_ 0 (by simp)
  · rintro _ i hi rfl hk
    have hb := pps_take_bd h i hi
    have ew : wrap64 ((i : Int) + 1) = (i : Int) + 1 := pp_wrap_id _ (by have := h.1; omega) (by have := h.1; omega)
    have es : wrap64 ((l.take i).sum + rd l (i : Int)) = (l.take i).sum + l[i] := by rw [pps_rd hi]; exact pp_wrap_id _ (by omega) (by omega)
    refine Evs.step (fun k => by rw [laws_pwSum.l0, ew, es]) ?_
    exact Evs.pos (by omega) (Evs.pos (by omega) (hk _ (pps_take_sum l i hi).symm))
  · rintro _ rfl
    refine Evs.step (fun k => by rw [laws_pwSum.l0]) ?_
    exact Evs.neg (by omega) (Evs.now (by rw [List.take_length]))
theorem pps_same (l : List Int) (h : l.length ≤ 100) : Evs (fun k => laws_pwInts.f k l l) (fun r => r = true) := by
  unfold laws_pwInts.f
  refine Evs.pos rfl ?_
  refine Evs.up (fun k (_ : Unit) i => laws_pwInts.l0 k l l i) l.length (fun _ _ => True) _ ?_ ?_ () trivial
  · intro _ i hi _ hk
    have ew : wrap64 ((i : Int) + 1) = (i : Int) + 1 := pp_wrap_id _ (by omega) (by omega)
    refine Evs.step (fun k => by rw [laws_pwInts.l0, ew]) ?_
    exact Evs.pos (by omega) (Evs.pos (by omega) (Evs.pos (by omega) (Evs.pos rfl (hk () trivial))))
  · intro _ _
    refine Evs.step (fun k => by rw [laws_pwInts.l0]) ?_
    exact Evs.neg (by omega) (Evs.now rfl)
theorem pps_set_sum : ∀ (l : List Int) (i : Nat) (v : Int) (h : i < l.length), (l.set i v).sum = l.sum - l[i] + v
  | x :: r, 0, v, h => by simp only [List.set_cons_zero, List.sum_cons, List.getElem_cons_zero]; omega
  | x :: r, i + 1, v, h => by
    have ih := pps_set_sum r i v (by simpa using h)
    simp only [List.set_cons_succ, List.sum_cons, List.getElem_cons_succ, ih]
    omega
theorem pps_rd_set (l : List Int) (i j : Nat) (v : Int) (h : i < l.length) : rd (l.set i v) (j : Int) = if j = i then v else rd l (j : Int) := by
  unfold rd
  rw [Int.toNat_natCast, List.getD_eq_getElem?_getD, List.getElem?_set, List.getD_eq_getElem?_getD]
  by_cases e : i = j
  · rw [if_pos e, if_pos h, if_pos e.symm, Option.getD_some]
  · rw [if_neg e, if_neg (Ne.symm e)]
/-- One more to each: the sum, and what each has. -/
theorem pps_give : ∀ (ix out : List Int) (B : Int), (∀ i ∈ ix, 0 ≤ i ∧ i < (out.length : Int)) → (∀ x ∈ out, 0 ≤ x ∧ x ≤ B) → B + (ix.length : Int) ≤ 1000000000 → 0 ≤ B →
    (ppGive out ix).sum = out.sum + (ix.length : Int) ∧ (∀ j : Nat, rd (ppGive out ix) (j : Int) = rd out (j : Int) + (ix.count (j : Int) : Int)) ∧ ∀ x ∈ ppGive out ix, 0 ≤ x ∧ x ≤ B + (ix.length : Int)
  | [], out, B, _, hx, _, _ => ⟨by simp [ppGive], fun j => by simp [ppGive], fun x hm => by have := hx x hm; simp; omega⟩
  | i :: r, out, B, hi, hx, hB, hB0 => by
    have h0 := hi i List.mem_cons_self
    obtain ⟨n, rfl⟩ : ∃ n : Nat, i = n := ⟨i.toNat, by omega⟩
    have hn : n < out.length := by omega
    have hr : rd out (n : Int) = out[n] := pps_rd hn
    have hxn := hx _ (List.getElem_mem hn)
    rw [List.length_cons] at hB
    have ew : wrap64 (rd out (n : Int) + 1) = out[n] + 1 := by rw [hr]; exact pp_wrap_id _ (by omega) (by omega)
    have e : ppGive out ((n : Int) :: r) = ppGive (out.set n (out[n] + 1)) r := by
      show ppGive (out.set ((n : Int)).toNat (wrap64 (rd out (n : Int) + 1))) r = _
      rw [ew, Int.toNat_natCast]
    obtain ⟨s1, s2, s3⟩ := pps_give r (out.set n (out[n] + 1)) (B + 1) (fun i hm => by rw [List.length_set]; exact hi i (List.mem_cons_of_mem _ hm)) (fun x hm => by
      rcases List.mem_or_eq_of_mem_set hm with hm | rfl
      · have := hx x hm; omega
      · omega) (by omega) (by omega)
    rw [e]
    refine ⟨?_, fun j => ?_, fun x hm => ?_⟩
    · rw [s1, pps_set_sum _ _ _ hn, List.length_cons]
      omega
    · rw [s2 j, pps_rd_set _ _ _ _ hn, List.count_cons]
      by_cases ej : j = n
      · subst ej
        rw [if_pos rfl, hr]
        simp
        omega
      · rw [if_neg ej]
        have : ((n : Int) == (j : Int)) = false := by simp; omega
        rw [this]
        simp
    · have := s3 x hm
      rw [List.length_cons]
      omega
/-- An order: the greater number first, of alike ones the first. -/
structure ppOs (left os : List Int) : Prop where
  len : os.length = left.length
  bd : ∀ i ∈ os, 0 ≤ i ∧ i < (left.length : Int)
  nd : os.Nodup
  all : ∀ j : Nat, j < left.length → (j : Int) ∈ os
  lex : ∀ (i j : Nat) (hi : i < os.length) (hj : j < os.length), i < j → rd left os[j] < rd left os[i] ∨ (rd left os[j] = rd left os[i] ∧ os[i] < os[j])
  sum : (os.map (rd left)).sum = left.sum
theorem pps_mul (t x : Int) (ht : 0 ≤ t ∧ t ≤ 100000) (hx : 0 ≤ x ∧ x ≤ 100000) : 0 ≤ t * x ∧ t * x ≤ 10000000000 := by
  refine ⟨Int.mul_nonneg ht.1 hx.1, ?_⟩
  have := Int.mul_le_mul ht.2 hx.2 hx.1 (by omega : (0 : Int) ≤ 100000)
  omega
theorem pps_div (t s x : Int) (ht : 0 ≤ t ∧ t ≤ 100000) (hx : 0 ≤ x ∧ x ≤ 100000) (hs : 0 < s) : wrap64 (Int.tdiv (wrap64 (t * x)) s) = t * x / s ∧ Int.tmod (wrap64 (t * x)) s = t * x % s := by
  have h := pps_mul t x ht hx
  rw [pp_wrap_id (t * x) (by omega) (by omega), Int.tdiv_eq_ediv_of_nonneg h.1, Int.tmod_eq_emod_of_nonneg h.1]
  have h1 : 0 ≤ t * x / s := Int.ediv_nonneg h.1 (by omega)
  have h2 : t * x / s ≤ t * x := Int.ediv_le_self _ h.1
  exact ⟨pp_wrap_id _ (by omega) (by omega), rfl⟩
theorem pps_out0 (t s : Int) (l : List Int) (ht : 0 ≤ t ∧ t ≤ 100000) (hl : ∀ x ∈ l, 0 ≤ x ∧ x ≤ 100000) (hs : 0 < s) : ppOut0 t s l = l.map fun x => t * x / s := by
  unfold ppOut0
  exact List.map_congr_left fun x hx => (pps_div t s x ht (hl x hx) hs).1
theorem pps_perm {l m : List Int} (h : l.Perm m) : l.sum = m.sum := by
  induction h with
  | nil => rfl
  | cons x _ ih => rw [List.sum_cons, List.sum_cons, ih]
  | swap x y l => simp only [List.sum_cons]; omega
  | trans _ _ h1 h2 => exact h1.trans h2
theorem ppOs_of (t s : Int) (l : List Int) (n : Nat) (hn : l.length = n + 1) (ht : 0 ≤ t ∧ t ≤ 100000) (hl : ∀ x ∈ l, 0 ≤ x ∧ x ≤ 100000) (hs : 0 < s) : ppOs (l.map fun x => t * x % s) (ppOrder t s l) := by
  obtain ⟨o1, o2, o3⟩ := ppOrd_all (ppKey t s l n)
  have hk : ∀ i : Fin (n + 1), ppKey t s l n i = rd (l.map fun x => t * x % s) (i.val : Int) := fun i => by
    have hi : i.val < l.length := by have := i.isLt; omega
    have h1 : rd l (i.val : Int) = l[i.val] := pps_rd hi
    have h2 : rd (l.map fun x => t * x % s) (i.val : Int) = (l.map fun x => t * x % s)[i.val]'(by rw [List.length_map]; exact hi) := pps_rd _
    rw [h2, List.getElem_map]
    unfold ppKey
    rw [h1]
    exact (pps_div t s _ ht (hl _ (List.getElem_mem hi)) hs).2
  have hlen : (l.map fun x => t * x % s).length = n + 1 := by rw [List.length_map, hn]
  generalize hleft : (l.map fun x => t * x % s) = left at hk hlen
  rw [ppOrder_eq t s l n hn]
  generalize ppKey t s l n = key at o1 o2 o3 hk
  have hids : (ppIds n).toList = List.finRange (n + 1) := by simp [ppIds, List.finRange]
  refine ⟨by rw [List.length_map, Array.length_toList, o1, hlen], fun i hi => ?_, ?_, fun j hj => ?_, fun i j hi hj hij => ?_, ?_⟩
  · obtain ⟨x, _, rfl⟩ := List.mem_map.1 hi
    have := x.isLt
    exact ⟨Int.natCast_nonneg _, by omega⟩
  · have nd : (ppOrd key).toList.Nodup := o2.nodup_iff.2 (by rw [hids]; exact List.nodup_finRange _)
    exact List.Pairwise.map _ (fun a b hab e => hab (Fin.ext (by omega))) nd
  · refine List.mem_map.2 ⟨⟨j, by omega⟩, ?_, rfl⟩
    rw [o2.mem_iff, hids]
    exact List.mem_finRange _
  · rw [List.length_map, Array.length_toList] at hi hj
    have h := of_decide_eq_true (o3 i j hij (by omega))
    rw [getElem!_pos _ i hi, getElem!_pos _ j hj, hk, hk] at h
    simp only [List.getElem_map, Array.getElem_toList]
    omega
  · have h1 : (((ppOrd key).toList.map (fun i : Fin (n + 1) => (i.val : Int))).map (rd left)).sum = (((ppIds n).toList.map (fun i : Fin (n + 1) => (i.val : Int))).map (rd left)).sum := pps_perm ((o2.map _).map _)
    rw [h1]
    congr 1
    refine List.ext_getElem (by rw [List.length_map, List.length_map, Array.length_toList]; simp [ppIds]; omega) (fun i h1 h2 => ?_)
    simp only [List.getElem_map, Array.getElem_toList]
    have e : ((ppIds n)[i]'(by simpa using h1)).val = i := by simp [ppIds]
    rw [e]
    exact pps_rd h2
theorem pps_next (left : List Int) (g : List Bool) (c : Nat) (hl : left.length ≤ 100) (hg : g.length = left.length) (hc : c < left.length) (hgc : rdOf false g (c : Int) = false) (hmax : ∀ j : Nat, j < left.length → j ≠ c → rdOf false g (j : Int) = false → rd left (j : Int) < rd left (c : Int) ∨ (rd left (j : Int) = rd left (c : Int) ∧ c < j)) :
    Evs (fun k => spec_l4Next.f k left g) (fun r => r = (c : Int)) := by
  unfold spec_l4Next.f
  refine Evs.up (fun k s i => spec_l4Next.l0 k left g s i) left.length (fun i x => (c < i → x = (c : Int)) ∧ (¬ c < i → x = -1 ∨ ∃ b : Nat, x = (b : Int) ∧ b < i ∧ rdOf false g (b : Int) = false)) _ ?_ ?_ (-1) ⟨fun h => absurd h (Nat.not_lt_zero _), fun _ => .inl rfl⟩
  · rintro x i hi ⟨h1, h2⟩ hk
    have ew : wrap64 ((i : Int) + 1) = (i : Int) + 1 := pp_wrap_id _ (by omega) (by omega)
    refine Evs.step (fun k => by rw [spec_l4Next.l0, ew]) ?_
    refine Evs.pos (by omega) (Evs.pos (by omega) (Evs.pos (by omega) (Evs.ite (fun hb => ?_) (fun hb => ?_))))
    · refine hk x ⟨fun h => ?_, fun h => ?_⟩
      · by_cases e : c = i
        · subst e; rw [hgc] at hb; cases hb
        · exact h1 (by omega)
      · rcases h2 (by omega) with h2 | ⟨b, e, h3, h4⟩
        · exact .inl h2
        · exact .inr ⟨b, e, by omega, h4⟩
    · have hb : rdOf false g (i : Int) = false := by simpa using hb
      refine Evs.ite (fun hx => ?_) (fun hx => ?_)
      · refine hk (i : Int) ⟨fun h => ?_, fun h => .inr ⟨i, rfl, by omega, hb⟩⟩
        by_cases e : c = i
        · rw [e]
        · have := h1 (by omega); omega
      · have hx2 : ∃ b : Nat, x = (b : Int) ∧ b < left.length := by
          by_cases e : c < i
          · exact ⟨c, h1 e, hc⟩
          · rcases h2 e with h3 | ⟨b, h3, h4, _⟩
            · omega
            · exact ⟨b, h3, by omega⟩
        obtain ⟨b, rfl, hbl⟩ := hx2
        refine Evs.pos (by omega) (Evs.pos (by omega) (Evs.ite (fun hgt => ?_) (fun hgt => ?_)))
        · refine hk (i : Int) ⟨fun h => ?_, fun h => .inr ⟨i, rfl, by omega, hb⟩⟩
          by_cases e : c = i
          · rw [e]
          · have e2 := h1 (by omega)
            have := hmax i hi (fun e3 => e e3.symm) hb
            rw [e2] at hgt
            omega
        · refine hk (b : Int) ⟨fun h => ?_, fun h => ?_⟩
          · by_cases e : c = i
            · subst e
              rcases h2 (by omega) with h3 | ⟨b2, h3, h4, h5⟩
              · omega
              · have : b = b2 := by omega
                subst this
                have := hmax b hbl (by omega) h5
                omega
            · exact h1 (by omega)
          · rcases h2 (by omega) with h3 | ⟨b2, h3, h4, h5⟩
            · omega
            · exact .inr ⟨b2, h3, by omega, h5⟩
  · rintro x ⟨h1, _⟩
    refine Evs.step (fun k => by rw [spec_l4Next.l0]) ?_
    exact Evs.neg (by omega) (Evs.now (h1 hc))
theorem pps_rdB (l : List Bool) (i j : Nat) (v : Bool) (h : i < l.length) : rdOf false (l.set i v) (j : Int) = if j = i then v else rdOf false l (j : Int) := by
  unfold rdOf
  rw [Int.toNat_natCast, List.getD_eq_getElem?_getD, List.getElem?_set, List.getD_eq_getElem?_getD]
  by_cases e : i = j
  · rw [if_pos e, if_pos h, if_pos e.symm, Option.getD_some]
  · rw [if_neg e, if_neg (Ne.symm e)]
theorem pps_take1 (os : List Int) (i : Nat) (h : i < os.length) : os.take (i + 1) = os.take i ++ [os[i]] := List.take_succ_eq_append_getElem h
theorem pps_l2 {left os : List Int} (H : ppOs left os) (hl : left.length ≤ 100) (out : List Int) (ho : out.length = left.length) : ∀ (m i : Nat) (g : List Bool), i + m ≤ os.length → g.length = left.length → (∀ j : Nat, j < left.length → rdOf false g (j : Int) = decide ((j : Int) ∈ os.take i)) →
    Evs (fun k => spec_l4Share.l2 k (ppGive out (os.take i)) left g (m : Int)) (fun r => r = ppGive out (os.take (i + m)))
  | 0, i, g, _, _, _ => by
    refine Evs.step (fun k => by rw [spec_l4Share.l2]) (Evs.neg (by omega) ?_)
    refine Evs.step (fun k => by rw [spec_l4Share.j4]) ?_
    exact Evs.neg (by decide) (Evs.now rfl)
  | m + 1, i, g, hi, hg, hgm => by
    have hio : i < os.length := by omega
    have hlen := H.len
    obtain ⟨c, hc⟩ : ∃ c : Nat, os[i] = (c : Int) := ⟨os[i].toNat, by have := H.bd _ (List.getElem_mem hio); omega⟩
    have hcl : c < left.length := by have := H.bd _ (List.getElem_mem hio); omega
    have hpw := List.pairwise_iff_getElem.1 H.nd
    have hnot : ¬ (c : Int) ∈ os.take i := fun hm => by
      obtain ⟨q, hq, e⟩ := List.getElem_of_mem hm
      rw [List.getElem_take] at e
      rw [List.length_take] at hq
      exact hpw q i (by omega) hio (by omega) (by rw [e, hc])
    have glen : (ppGive out (os.take i)).length = left.length := by rw [ppGive_len, ho]
    have hnext := pps_next left g c hl hg hcl (by rw [hgm c hcl]; exact decide_eq_false hnot) (fun j hj hjc hgj => by
      rw [hgm j hj] at hgj
      have hj2 := of_decide_eq_false hgj
      obtain ⟨q, hq, e⟩ := List.getElem_of_mem (H.all j hj)
      have hqi : i < q := by
        rcases Nat.lt_trichotomy q i with h | h | h
        · exact absurd (List.mem_iff_getElem.2 ⟨q, by rw [List.length_take]; omega, by rw [List.getElem_take]; exact e⟩) hj2
        · subst h; omega
        · exact h
      have := H.lex i q hio hq hqi
      rw [e, hc] at this
      omega)
    refine Evs.step (fun k => by rw [spec_l4Share.l2]) (Evs.pos (by omega) ?_)
    have ew : wrap64 (((m + 1 : Nat) : Int) - 1) = (m : Int) := by rw [show ((m + 1 : Nat) : Int) - 1 = (m : Int) by omega]; exact pp_wrap_id _ (by omega) (by omega)
    refine Evs.step (fun k => by rw [spec_l4Share.j4, ew]) (Evs.pos (decide_eq_true (by omega)) ?_)
    refine Evs.bnd hnext ?_
    rintro _ rfl
    refine Evs.pos (by omega) (Evs.pos (by omega) (Evs.pos (by omega) (Evs.pos (by omega) ?_)))
    have e1 : (ppGive out (os.take i)).set ((c : Int)).toNat (wrap64 (rd (ppGive out (os.take i)) (c : Int) + 1)) = ppGive out (os.take (i + 1)) := by
      rw [pps_take1 os i hio, hc, ppGive_app]
    rw [e1, show i + (m + 1) = i + 1 + m by omega, Int.toNat_natCast]
    refine pps_l2 H hl out ho m (i + 1) (g.set c true) (by omega) (by rw [List.length_set]; exact hg) (fun j hj => ?_)
    rw [pps_rdB _ _ _ _ (by omega), hgm j hj, pps_take1 os i hio, hc]
    by_cases e : j = c
    · subst e
      rw [if_pos rfl]
      exact (decide_eq_true (List.mem_append_right _ (List.mem_singleton.2 rfl))).symm
    · rw [if_neg e]
      refine decide_eq_decide.2 ⟨fun h => List.mem_append_left _ h, fun h => ?_⟩
      rcases List.mem_append.1 h with h | h
      · exact h
      · have := List.mem_singleton.1 h; omega
/-- What is shared. -/
def ppX (t s : Int) (l : List Int) : List Int := ppGive (l.map fun x => t * x / s) ((ppOrder t s l).take (t - (l.map fun x => t * x / s).sum).toNat)
theorem pps_sm {l : List Int} (h : l.length ≤ 100) (hl : ∀ x ∈ l, 0 ≤ x ∧ x ≤ 100000) : ppSm l := ⟨h, fun x hx => by have := hl x hx; omega⟩
theorem pps_dsm {t s : Int} {l : List Int} (h : l.length ≤ 100) (ht : 0 ≤ t ∧ t ≤ 100000) (hl : ∀ x ∈ l, 0 ≤ x ∧ x ≤ 100000) (hs : t < s) : ∀ x ∈ l.map (fun x => t * x / s), 0 ≤ x ∧ x ≤ 100000 := fun y hy => by
  obtain ⟨x, hx, rfl⟩ := List.mem_map.1 hy
  have h1 := hl x hx
  have h2 := pps_mul t x ht h1
  refine ⟨Int.ediv_nonneg h2.1 (by omega), ?_⟩
  have h3 : t * x ≤ s * x := Int.mul_le_mul_of_nonneg_right (by omega) h1.1
  have h4 : t * x / s ≤ s * x / s := Int.ediv_le_ediv (by omega) h3
  rw [Int.mul_ediv_cancel_left x (by omega)] at h4
  omega
theorem pps_shareS (t s : Int) (l : List Int) (n : Nat) (hn : l.length = n + 1) (h : l.length ≤ 19) (ht : 0 ≤ t ∧ t ≤ 100000) (hl : ∀ x ∈ l, 0 ≤ x ∧ x ≤ 100000) (hs : s = l.sum) (hts : t < s) : Evs (fun k => spec_l4Share.f k t l) (fun r => r = ppX t s l) := by
  have hsm := pps_sm (by omega) hl
  have h0 : 0 < s := by omega
  have hb1 : ∀ i, i < l.length → ∀ xs : List Int, (xs.take i).length < 17592186044416 := fun i hi xs => by rw [List.length_take]; omega
  have hew : ∀ i : Nat, i < l.length → wrap64 ((i : Int) + 1) = (i : Int) + 1 := fun i hi => pp_wrap_id _ (by omega) (by omega)
  have hl100 : l.length ≤ 100 := by omega
  have hrl : ((l.length : Int)).toNat = l.length := by omega
  have hrl2 : ((l.length : Int)).toNat ≤ 281474976710656 := by omega
  have hl17 : ([] : List Int).length + l.length < 17592186044416 := by rw [List.length_nil]; omega
  have hne : l ≠ [] := fun e => by rw [e] at hn; simp at hn
  have hs0 : ¬ s = 0 := by omega
  obtain ⟨rest, hrest, hrestl, hrw⟩ : ∃ rest : Nat, rest = (t - (l.map fun x => t * x / s).sum).toNat ∧ rest ≤ l.length ∧ wrap64 (t - (l.map fun x => t * x / s).sum) = (rest : Int) := by
    have hmany := ppShr_many t s l hs h0 hne
    refine ⟨_, rfl, by omega, ?_⟩
    rw [pp_wrap_id _ (by omega) (by omega)]
    omega
  have hH := ppOs_of t s l n hn ht hl h0
  have hdsm := pps_dsm (t := t) (s := s) hl100 ht hl hts
  have hlo : (l.map fun x => t * x / s).length = l.length := List.length_map _
  have hll : (l.map fun x => t * x % s).length = l.length := List.length_map _
  have hol := hH.len
  unfold spec_l4Share.f
  refine Evs.bnd (Evs.now (P := fun q => q = ([] : List Int)) rfl) ?_
  rintro _ rfl
  refine Evs.pos hl17 ?_
  refine Evs.bnd (Evs.now (P := fun q => q = l) (by rw [List.nil_append])) (fun y hy => ?_)
  rw [hy]
  refine Evs.bnd (pps_sumS l hsm) ?_
  rintro _ rfl
  refine Evs.neg (by rw [← hs]; exact hs0) ?_
  refine Evs.step (fun k => by rw [spec_l4Share.j1]) ?_
  refine Evs.bnd (pps_sumS l hsm) ?_
  rintro _ rfl
  rw [← hs]
  refine Evs.pos (Int.natCast_nonneg _) ?_
  refine Evs.pos hrl2 ?_
  refine Evs.up (fun k (st : List Int × List Int) i => spec_l4Share.l1 k t l s st.1 st.2 (List.replicate ((l.length : Int)).toNat false) i) l.length (fun i st => st = ((l.map fun x => t * x / s).take i, (l.map fun x => t * x % s).take i)) _ ?_ ?_ ([], []) rfl
  · rintro _ i hi rfl hk
    have ew := hew i hi
    have hx := hl _ (List.getElem_mem hi)
    have hd := pps_div t s l[i] ht hx h0
    have hr : rd l (i : Int) = l[i] := pps_rd hi
    refine Evs.step (fun k => by rw [spec_l4Share.l1, ew, hr, hd.1, hd.2]) ?_
    refine Evs.pos (Int.ofNat_lt.2 hi) ?_
    refine Evs.pos (Int.natCast_nonneg _) ?_
    refine Evs.neg hs0 ?_
    refine Evs.pos (hb1 i hi _) ?_
    refine Evs.pos (hb1 i hi _) ?_
    refine hk ((l.map fun x => t * x / s).take i ++ [t * l[i] / s], (l.map fun x => t * x % s).take i ++ [t * l[i] % s]) ?_
    rw [List.take_succ_eq_append_getElem (by rw [hlo]; exact hi), List.take_succ_eq_append_getElem (by rw [hll]; exact hi), List.getElem_map, List.getElem_map]
  · rintro _ rfl
    refine Evs.step (fun k => by rw [spec_l4Share.l1]) (Evs.neg (Int.lt_irrefl _) ?_)
    have e1 : (l.map fun x => t * x / s).take l.length = l.map fun x => t * x / s := by rw [← hlo, List.take_length]
    have e2 : (l.map fun x => t * x % s).take l.length = l.map fun x => t * x % s := by rw [← hll, List.take_length]
    rw [e1, e2]
    refine Evs.bnd (pps_sumS (l.map fun x => t * x / s) (pps_sm (by rw [hlo]; exact hl100) hdsm)) ?_
    rintro _ rfl
    rw [hrw]
    unfold ppX
    rw [← hrest]
    have := pps_l2 hH (by rw [hll]; exact hl100) (l.map fun x => t * x / s) (by rw [hlo, hll]) rest 0 (List.replicate ((l.length : Int)).toNat false) (by rw [hol, hll, Nat.zero_add]; exact hrestl) (by rw [List.length_replicate, hll, hrl]) (fun j hj => by
      rw [List.take_zero]
      have : rdOf false (List.replicate ((l.length : Int)).toNat false) (j : Int) = false := by
        unfold rdOf
        rw [Int.toNat_natCast, List.getD_eq_getElem?_getD, List.getElem?_replicate]
        split <;> rfl
      rw [this]
      exact (decide_eq_false List.not_mem_nil).symm)
    rw [Nat.zero_add] at this
    exact this
theorem pps_shareI (t s : Int) (l : List Int) (n : Nat) (hn : l.length = n + 1) (h : l.length ≤ 19) (ht : 0 ≤ t ∧ t ≤ 100000) (hl : ∀ x ∈ l, 0 ≤ x ∧ x ≤ 100000) (hs : s = l.sum) (hts : t < s) (hok : ppShrB t l = true) : Evs (fun k => impl_ShrShare.f k t l) (fun r => r = ppX t s l) := by
  have hsm := pps_sm (by omega) hl
  have h0 : 0 < s := by omega
  have hmany := ppShr_many t s l hs h0 (fun e => by rw [e] at hn; simp at hn)
  have hdsm := pps_dsm (by omega) ht hl hts
  have ho := pps_out0 t s l ht hl h0
  unfold impl_ShrShare.f
  refine Evs.pos ⟨by omega, h⟩ ?_
  refine Evs.bnd (Evs.of 0 (fun k _ => pps_okI k t l)) ?_
  rintro _ rfl
  refine Evs.pos hok ?_
  refine Evs.bnd (pps_sumI l hsm) ?_
  rintro _ rfl
  rw [← hs]
  refine Evs.pos (by omega) ?_
  rw [ho]
  refine Evs.bnd (pps_sumI (l.map fun x => t * x / s) (pps_sm (by rw [List.length_map]; omega) hdsm)) ?_
  rintro _ rfl
  have ew : wrap64 (t - (l.map fun x => t * x / s).sum) = t - (l.map fun x => t * x / s).sum := pp_wrap_id _ (by omega) (by omega)
  rw [ew]
  exact Evs.pos ⟨by omega, by omega⟩ (Evs.now rfl)
/-- What is shared: all of it, and to each no more than it wants. -/
theorem pps_X (t s : Int) (l : List Int) (n : Nat) (hn : l.length = n + 1) (h : l.length ≤ 19) (ht : 0 ≤ t ∧ t ≤ 100000) (hl : ∀ x ∈ l, 0 ≤ x ∧ x ≤ 100000) (hs : s = l.sum) (hts : t < s) : (ppX t s l).sum = t ∧ (ppX t s l).length = l.length ∧ (∀ x ∈ ppX t s l, 0 ≤ x ∧ x ≤ 200000) ∧ ∀ j (hj : j < l.length), 0 ≤ rd (ppX t s l) (j : Int) ∧ rd (ppX t s l) (j : Int) ≤ l[j] := by
  have h0 : 0 < s := by omega
  have hmany := ppShr_many t s l hs h0 (fun e => by rw [e] at hn; simp at hn)
  have hH := ppOs_of t s l n hn ht hl h0
  have hdsm := pps_dsm (by omega) ht hl hts
  have hlo : (l.map fun x => t * x / s).length = l.length := List.length_map _
  have hll : (l.map fun x => t * x % s).length = l.length := List.length_map _
  have hol := hH.len
  unfold ppX
  generalize hrest : (t - (l.map fun x => t * x / s).sum).toNat = rest
  have hr1 : rest < l.length := by omega
  have htl : ((ppOrder t s l).take rest).length = rest := by rw [List.length_take]; omega
  obtain ⟨g1, g2, g3⟩ := pps_give ((ppOrder t s l).take rest) (l.map fun x => t * x / s) 100000 (fun i hi => by have := hH.bd i (List.mem_of_mem_take hi); rw [hll] at this; rw [hlo]; exact this) hdsm (by omega) (by omega)
  refine ⟨by rw [g1, htl]; omega, by rw [ppGive_len, hlo], fun x hx => by have := g3 x hx; omega, fun j hj => ?_⟩
  have hx := hl _ (List.getElem_mem hj)
  have hm := pps_mul t l[j] ht hx
  have e0 : rd (l.map fun x => t * x / s) (j : Int) = t * l[j] / s := by rw [pps_rd (by omega), List.getElem_map]
  have eL : rd (l.map fun x => t * x % s) (j : Int) = t * l[j] % s := by rw [pps_rd (by omega), List.getElem_map]
  have hq0 : 0 ≤ t * l[j] / s := Int.ediv_nonneg hm.1 (by omega)
  have hcnt : ((ppOrder t s l).take rest).count (j : Int) ≤ 1 := List.nodup_iff_count.1 (hH.nd.sublist (List.take_sublist _ _)) _
  rw [g2 j, e0]
  refine ⟨by omega, ?_⟩
  by_cases hz : l[j] = 0
  · have hnot : ¬ (j : Int) ∈ (ppOrder t s l).take rest := fun hmem => by
      obtain ⟨q, hq, eq⟩ := List.getElem_of_mem hmem
      rw [List.getElem_take] at eq
      rw [htl] at hq
      have hkey : rd (l.map fun x => t * x % s) (j : Int) = 0 := by rw [eL, hz]; simp
      -- all behind it have nothing left over
      have hnn : ∀ i (hi : i < (ppOrder t s l).length), 0 ≤ rd (l.map fun x => t * x % s) (ppOrder t s l)[i] ∧ rd (l.map fun x => t * x % s) (ppOrder t s l)[i] ≤ s - 1 := fun i hi => by
        have hb := hH.bd _ (List.getElem_mem hi)
        rw [hll] at hb
        obtain ⟨c, hc⟩ : ∃ c : Nat, (ppOrder t s l)[i] = (c : Int) := ⟨((ppOrder t s l)[i]).toNat, by omega⟩
        rw [hc, pps_rd (by omega), List.getElem_map]
        have h1 := Int.emod_nonneg (t * l[c]'(by omega)) (show s ≠ 0 by omega)
        have h2 := Int.emod_lt_of_pos (t * l[c]'(by omega)) h0
        omega
      have hzero : ∀ i (hi : i < (ppOrder t s l).length), q ≤ i → rd (l.map fun x => t * x % s) (ppOrder t s l)[i] = 0 := fun i hi hqi => by
        have h1 := (hnn i hi).1
        by_cases e : q = i
        · subst e; rw [eq]; exact hkey
        · have := hH.lex q i (by omega) hi (by omega)
          rw [eq, hkey] at this
          omega
      have hsum := hH.sum
      have hsplit : ((ppOrder t s l).map (rd (l.map fun x => t * x % s))).sum ≤ (q : Int) * (s - 1) := by
        have key : ∀ (a : Nat) (xs : List Int), (∀ i (hi : i < xs.length), 0 ≤ xs[i] ∧ xs[i] ≤ s - 1) → (∀ i (hi : i < xs.length), a ≤ i → xs[i] = 0) → xs.sum ≤ (a : Int) * (s - 1) := by
          intro a xs
          induction xs generalizing a with
          | nil => intro _ _; rw [List.sum_nil]; exact Int.mul_nonneg (Int.natCast_nonneg _) (by omega)
          | cons x r ih =>
            intro h1 h2
            have hx0 := h1 0 (by simp)
            simp only [List.getElem_cons_zero] at hx0
            rw [List.sum_cons]
            cases a with
            | zero =>
              have e1 := h2 0 (by simp) (Nat.zero_le _)
              simp only [List.getElem_cons_zero] at e1
              have := ih 0 (fun i hi => by have := h1 (i + 1) (by simpa using hi); simpa using this) (fun i hi _ => by have := h2 (i + 1) (by simpa using hi) (Nat.zero_le _); simpa using this)
              omega
            | succ a =>
              have := ih a (fun i hi => by have := h1 (i + 1) (by simpa using hi); simpa using this) (fun i hi ha => by have := h2 (i + 1) (by simpa using hi) (by omega); simpa using this)
              have e2 : ((a + 1 : Nat) : Int) * (s - 1) = (a : Int) * (s - 1) + (s - 1) := by rw [Int.natCast_add, Int.add_mul]; simp
              omega
        refine key q _ (fun i hi => ?_) (fun i hi hqi => ?_)
        · rw [List.getElem_map]; exact hnn i (by rw [List.length_map] at hi; exact hi)
        · rw [List.getElem_map]; exact hzero i (by rw [List.length_map] at hi; exact hi) hqi
      rw [hsum] at hsplit
      have h3 : (t - (l.map fun x => t * x / s).sum) = (rest : Int) := by omega
      rw [h3] at hmany
      rw [← hmany.2.2] at hsplit
      have h4 : (q : Int) * (s - 1) ≤ ((rest : Int) - 1) * (s - 1) := Int.mul_le_mul_of_nonneg_right (by omega) (by omega)
      have h5 : ((rest : Int) - 1) * (s - 1) = s * rest - rest - s + 1 := by rw [Int.sub_mul, Int.mul_sub, Int.mul_comm (rest : Int) s]; omega
      omega
    rw [List.count_eq_zero_of_not_mem hnot, hz]
    simp
  · have h1 : t * l[j] < l[j] * s := by
      have := Int.mul_lt_mul_of_pos_right hts (show 0 < l[j] by omega)
      rw [Int.mul_comm l[j] s]
      exact this
    have h2 : t * l[j] / s < l[j] := Int.ediv_lt_of_lt_mul h0 h1
    omega
theorem pps_weights0 (l : List Int) (h : ppRd l) : ∀ (m : Nat) (xs : List Int) (p : Int), xs.length + m ≤ 7 → 0 ≤ p → p + 2 * (m : Int) ≤ 500000000 → Evs (fun k => spec_l20Weights.l0 k 16 xs (m : Int) l p) (fun r => r.1.length ≤ 8)
  | 0, xs, p, hx, hp, hp' => by
    refine Evs.step (fun k => by rw [spec_l20Weights.l0]) ?_
    refine Evs.neg (by omega) ?_
    refine Evs.bnd (pp_pick l h p 16 hp (by omega) (by omega)) ?_
    rintro ⟨a, q⟩ ⟨hq, a0, _, a1⟩
    simp only at hq a0 a1 ⊢
    refine Evs.ite (fun _ => ?_) (fun _ => Evs.now (by simp only; omega))
    refine Evs.bnd (Evs.now (P := fun y => y = ([-1, 100000, 100001] : List Int)) rfl) ?_
    rintro _ rfl
    refine Evs.bnd (pp_pick l h q 3 (by omega) (by omega) (by omega)) ?_
    rintro ⟨b, q2⟩ ⟨hq2, b0, _, b1⟩
    simp only at hq2 b0 b1 ⊢
    exact Evs.pos b0 (Evs.pos (b1 (by omega)) (Evs.pos (by omega) (Evs.now (by simp only [List.length_append, List.length_singleton]; omega))))
  | m + 1, xs, p, hx, hp, hp' => by
    have ew : wrap64 (((m + 1 : Nat) : Int) - 1) = (m : Int) := by rw [show ((m + 1 : Nat) : Int) - 1 = (m : Int) by omega]; exact pp_wrap_id _ (by omega) (by omega)
    refine Evs.step (fun k => by rw [spec_l20Weights.l0, ew]) ?_
    refine Evs.pos (by omega) ?_
    refine Evs.bnd (pp_pick l h p 20 hp (by omega) (by omega)) ?_
    rintro ⟨a, q⟩ ⟨hq, a0, _, a1⟩
    simp only at hq a0 a1 ⊢
    refine Evs.bnd (Evs.now (P := fun y => y = ([0, 1, 2, 3, 7, 50, a] : List Int)) rfl) ?_
    rintro _ rfl
    refine Evs.bnd (pp_pick l h q 7 (by omega) (by omega) (by omega)) ?_
    rintro ⟨b, q2⟩ ⟨hq2, b0, _, b1⟩
    simp only at hq2 b0 b1 ⊢
    exact Evs.pos b0 (Evs.pos (b1 (by omega)) (Evs.pos (by omega) (pps_weights0 l h m _ q2 (by rw [List.length_append, List.length_singleton]; omega) (by omega) (by omega))))
theorem pps_draw (l : List Int) (h : ∀ x ∈ l, (Lit.int .u8 x).wf = true) : Evs (fun k => spec_DrawShrUpTo.f k l) (fun r => r.2.length ≤ 8) := by
  obtain ⟨b, e, hb⟩ := pp_open l h
  unfold spec_DrawShrUpTo.f spec_DrawShrShare.f
  rw [e]
  simp only [Option.bind_some]
  refine Evs.bnd (P := fun r => r.2.length ≤ 8) ?_ (fun r hr => Evs.now hr)
  refine Evs.bnd (pp_pick b hb 0 200 (by omega) (by omega) (by omega)) ?_
  rintro ⟨a, q⟩ ⟨hq, a0, _, a1⟩
  simp only at hq a0 a1 ⊢
  refine Evs.bnd (pp_pick b hb q 8 (by omega) (by omega) (by omega)) ?_
  rintro ⟨c, q2⟩ ⟨hq2, c0, _, c1⟩
  simp only at hq2 c0 c1 ⊢
  refine Evs.pos c0 (Evs.pos (c1 (by omega)) ?_)
  refine Evs.bnd (P := fun r => r.1.length ≤ 8) ?_ (fun r hr => Evs.now hr)
  unfold spec_l20Weights.f
  refine Evs.bnd (pp_pick b hb q2 8 (by omega) (by omega) (by omega)) ?_
  rintro ⟨d, q3⟩ ⟨hq3, d0, _, d1⟩
  simp only at hq3 d0 d1 ⊢
  have d1 := d1 (by omega)
  obtain ⟨m, rfl⟩ : ∃ m : Nat, d = m := ⟨d.toNat, by omega⟩
  exact pps_weights0 b hb m [] q3 (by rw [List.length_nil]; omega) (by omega) (by omega)
/-- The law's last loop. -/
theorem pps_fin (t left : Int) (l x : List Int) (hl : l.length ≤ 19) (hx : x.length = l.length) (hsm : ppSm x) (hb : ∀ j (hj : j < l.length), 0 ≤ rd x (j : Int) ∧ rd x (j : Int) ≤ l[j]) (hsum : x.sum + left = t) (ht : 0 ≤ t ∧ t ≤ 100000) (hlx : left = 0 ∨ x = l) : Evs (fun k => laws_FnShrUpTo.l0 k t l x left 0) (fun r => r = true) := by
  refine Evs.up (fun k (_ : Unit) i => laws_FnShrUpTo.l0 k t l x left i) x.length (fun _ _ => True) _ ?_ ?_ () trivial
  · intro _ i hi _ hk
    have hil : i < l.length := by omega
    have ew : wrap64 ((i : Int) + 1) = (i : Int) + 1 := pp_wrap_id _ (by omega) (by omega)
    have hr : rd l (i : Int) = l[i] := pps_rd hil
    have hbi := hb i hil
    refine Evs.step (fun k => by rw [laws_FnShrUpTo.l0, ew]) ?_
    exact Evs.pos (by omega) (Evs.pos (by omega) (Evs.pos (by omega) (Evs.neg (by omega) (Evs.neg (by omega) (hk () trivial)))))
  · intro _ _
    refine Evs.step (fun k => by rw [laws_FnShrUpTo.l0]) (Evs.neg (by omega) ?_)
    refine Evs.bnd (pps_sumW x hsm) ?_
    rintro _ rfl
    refine Evs.pos (by rw [hsum]; exact pp_wrap_id _ (by omega) (by omega)) ?_
    refine Evs.ite (fun _ => ?_) (fun h0 => ?_)
    · refine Evs.pos (by omega) ?_
      rw [pp_pwOk]
      exact Evs.now rfl
    · rcases hlx with h1 | h1
      · exact absurd h1 h0
      · rw [h1]
        refine Evs.bnd (pps_same l (by omega)) ?_
        rintro _ rfl
        refine Evs.pos rfl (Evs.pos rfl ?_)
        rw [pp_pwOk]
        exact Evs.now rfl
theorem FnShrUpTo : ∀ (l0 : List (Int)), (l0.length ≤ 9223372036854775807 ∧ ∀ (x : Int), x ∈ l0 → (Lit.int .u8 x).wf = true) → ∃ k, laws_FnShrUpTo.f k l0 = some true := by
  intro l0 hw
  refine Evs.ends ?_
  unfold laws_FnShrUpTo.f
  refine Evs.ite (fun _ => Evs.now rfl) (fun _ => ?_)
  refine Evs.bnd (pps_draw l0 hw.2) ?_
  rintro ⟨t, l⟩ h8
  simp only at h8 ⊢
  cases hok : ppShrB t l
  · have hI : Evs (fun k => impl_ShrUpTo.f k t l) (fun r => r = (([] : List Int), 0)) := by
      unfold impl_ShrUpTo.f
      refine Evs.bnd (Evs.of 0 (fun k _ => pps_okI k t l)) ?_
      rintro _ rfl
      exact Evs.neg (by rw [hok]; decide) (Evs.now rfl)
    have hS : Evs (fun k => spec_ShrUpTo.f k t l) (fun r => r = (([] : List Int), 0)) := by
      unfold spec_ShrUpTo.f
      refine Evs.bnd (pps_okS t l) ?_
      rintro _ rfl
      exact Evs.neg (by rw [hok]; decide) (Evs.now rfl)
    refine Evs.bnd hI ?_
    rintro _ rfl
    refine Evs.bnd hS ?_
    rintro _ rfl
    refine Evs.bnd (pps_same [] (by decide)) ?_
    rintro _ rfl
    refine Evs.pos rfl ?_
    refine Evs.step (fun k => by rw [laws_FnShrUpTo.j0]) ?_
    refine Evs.neg (by decide) ?_
    refine Evs.bnd (pps_okS t l) ?_
    rintro _ rfl
    refine Evs.neg (by rw [hok]; decide) (Evs.pos rfl (Evs.pos rfl ?_))
    rw [pp_pwOk]
    exact Evs.now rfl
  · have hok2 := hok
    unfold ppShrB at hok2
    simp only [Bool.and_eq_true, decide_eq_true_eq, List.all_eq_true] at hok2
    obtain ⟨ht, h100, hl⟩ := hok2
    have hsm := pps_sm h100 hl
    have hsb := pps_sum_bd l hsm.2
    obtain ⟨x, left, hI, hS, hx, hxs, hb, hsum, hlx⟩ : ∃ (x : List Int) (left : Int), Evs (fun k => impl_ShrUpTo.f k t l) (fun r => r = (x, left)) ∧ Evs (fun k => spec_ShrUpTo.f k t l) (fun r => r = (x, left)) ∧ x.length = l.length ∧ ppSm x ∧ (∀ j (hj : j < l.length), 0 ≤ rd x (j : Int) ∧ rd x (j : Int) ≤ l[j]) ∧ x.sum + left = t ∧ (left = 0 ∨ x = l) := by
      have ew : wrap64 (t - l.sum) = t - l.sum := pp_wrap_id _ (by omega) (by omega)
      by_cases hts : l.sum ≤ t
      · refine ⟨l, t - l.sum, ?_, ?_, rfl, hsm, fun j hj => ?_, by omega, .inr rfl⟩
        · unfold impl_ShrUpTo.f
          refine Evs.bnd (Evs.of 0 (fun k _ => pps_okI k t l)) ?_
          rintro _ rfl
          refine Evs.pos hok ?_
          refine Evs.bnd (pps_sumI l hsm) ?_
          rintro _ rfl
          rw [ew]
          refine Evs.pos (by omega) ?_
          refine Evs.bnd (Evs.of (r := l) 0 (fun k _ => by unfold slices_Clone_int_int.f; rw [if_pos (by omega)])) ?_
          intro y hy
          rw [hy]
          exact Evs.now rfl
        · unfold spec_ShrUpTo.f
          refine Evs.bnd (pps_okS t l) ?_
          rintro _ rfl
          refine Evs.pos hok ?_
          refine Evs.bnd (P := fun r => r = (l, t - l.sum)) ?_ (fun r hr => by rw [hr]; exact Evs.now rfl)
          unfold spec_l4UpTo.f
          refine Evs.bnd (pps_sumS l hsm) ?_
          rintro _ rfl
          refine Evs.pos (by omega) ?_
          refine Evs.bnd (Evs.now (P := fun q => q = ([] : List Int)) rfl) ?_
          rintro _ rfl
          refine Evs.pos (by rw [List.length_nil]; omega) ?_
          rw [ew, List.nil_append]
          exact Evs.now rfl
        · have := hl _ (List.getElem_mem hj)
          rw [pps_rd hj]
          omega
      · have hne : l.length ≠ 0 := fun e => by
          rw [List.length_eq_zero_iff] at e
          rw [e] at hts
          simp at hts
          omega
        obtain ⟨n, hn⟩ : ∃ n, l.length = n + 1 := ⟨l.length - 1, by omega⟩
        have hX := pps_X t l.sum l n hn (by omega) ht hl rfl (by omega)
        refine ⟨ppX t l.sum l, 0, ?_, ?_, hX.2.1, ⟨by omega, fun x hx => by have := hX.2.2.1 x hx; omega⟩, hX.2.2.2, by omega, .inl rfl⟩
        · unfold impl_ShrUpTo.f
          refine Evs.bnd (Evs.of 0 (fun k _ => pps_okI k t l)) ?_
          rintro _ rfl
          refine Evs.pos hok ?_
          refine Evs.bnd (pps_sumI l hsm) ?_
          rintro _ rfl
          rw [ew]
          refine Evs.neg (by omega) ?_
          refine Evs.bnd (pps_shareI t l.sum l n hn (by omega) ht hl rfl (by omega) hok) ?_
          intro y hy
          rw [hy]
          exact Evs.now rfl
        · unfold spec_ShrUpTo.f
          refine Evs.bnd (pps_okS t l) ?_
          rintro _ rfl
          refine Evs.pos hok ?_
          refine Evs.bnd (P := fun r => r = (ppX t l.sum l, 0)) ?_ (fun r hr => by rw [hr]; exact Evs.now rfl)
          unfold spec_l4UpTo.f
          refine Evs.bnd (pps_sumS l hsm) ?_
          rintro _ rfl
          refine Evs.neg (by omega) ?_
          refine Evs.bnd (pps_shareS t l.sum l n hn (by omega) ht hl rfl (by omega)) ?_
          intro y hy
          rw [hy]
          exact Evs.now rfl
    refine Evs.bnd hI ?_
    rintro _ rfl
    refine Evs.bnd hS ?_
    rintro _ rfl
    refine Evs.bnd (pps_same x hxs.1) ?_
    rintro _ rfl
    refine Evs.pos rfl ?_
    refine Evs.step (fun k => by rw [laws_FnShrUpTo.j0]) ?_
    refine Evs.neg (by simp) ?_
    refine Evs.bnd (pps_okS t l) ?_
    rintro _ rfl
    refine Evs.pos hok ?_
    exact pps_fin t left l x (by omega) hx hxs hb hsum ht hlx

end Go.Proofs.YtaipfcbijhcejaaDoor.Pure
