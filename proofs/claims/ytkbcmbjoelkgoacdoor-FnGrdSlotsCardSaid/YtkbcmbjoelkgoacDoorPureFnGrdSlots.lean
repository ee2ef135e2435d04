/-
  of drawn tables impl and spec tell the same grid; it is ok where the table is, each cell has just its own slots, and is cut where its part ends; at all draws.
  Conditions: none but those of the statement.
-/
import Derived.Test.YtkbcmbjoelkgoacDoorQimplGrdAt
namespace Go.Proofs.YtkbcmbjoelkgoacDoor.Pure
open Go.RowKit Go.Proofs.YtkbcmbjoelkgoacDoor.Q Go.Proofs.YtkbcmbjoelkgoacDoorW.PrintWords Go.Proofs.YtkbcmbjoelkgoacDoorW.PrintLast Go.Proofs.YtkbcmbjoelkgoacDoorW.PrintMore
set_option linter.unusedVariables false
set_option linter.unusedSimpArgs false

theorem pp_wrap_id (a : Int) (h : -9223372036854775808 ≤ a) (h' : a ≤ 9223372036854775807) : wrap64 a = a := by unfold wrap64; omega
theorem pp_wf (a : Int) (h : (Lit.int .i64 a).wf = true) : -9223372036854775808 ≤ a ∧ a ≤ 9223372036854775807 := by
  simp [Lit.wf, IntKind.min, IntKind.max, IntKind.signed, IntKind.bits] at h; omega
theorem pp_wfi (a : Int) (h : -9223372036854775808 ≤ a) (h' : a ≤ 9223372036854775807) : (Lit.int .i64 a).wf = true := by
  simp [Lit.wf, IntKind.min, IntKind.max, IntKind.signed, IntKind.bits]; omega

/-- With enough rounds g answers, and P holds of the answer. -/
def Evs {α : Type} (g : Nat → Option α) (P : α → Prop) : Prop := ∃ r K, P r ∧ ∀ k, K ≤ k → g k = some r
theorem Evs.now {α : Type} {P : α → Prop} {r : α} (h : P r) : Evs (fun _ => some r) P := ⟨r, 0, h, fun _ _ => rfl⟩
theorem Evs.bnd {α β : Type} {g : Nat → Option α} {f : Nat → α → Option β} {P : α → Prop} {Q : β → Prop} (h : Evs g P) (k : ∀ a, P a → Evs (fun n => f n a) Q) : Evs (fun n => (g n).bind (f n)) Q := by
  obtain ⟨a, K, hP, h⟩ := h
  obtain ⟨r, K', hQ, k⟩ := k a hP
  refine ⟨r, max K K', hQ, fun n hn => ?_⟩
  show (g n).bind (f n) = some r
  rw [h n (by omega)]
  exact k n (by omega)
theorem Evs.step {α : Type} {g f : Nat → Option α} {P : α → Prop} (h : ∀ k, g (k + 1) = f k) (k : Evs f P) : Evs g P := by
  obtain ⟨r, K, hP, k⟩ := k
  refine ⟨r, K + 1, hP, fun n hn => ?_⟩
  obtain ⟨m, rfl⟩ : ∃ m, n = m + 1 := ⟨n - 1, by omega⟩
  rw [h]
  exact k m (by omega)
theorem Evs.cong {α : Type} {g f : Nat → Option α} {P : α → Prop} (h : ∀ k, g k = f k) (k : Evs f P) : Evs g P := by
  obtain ⟨r, K, hP, k⟩ := k
  exact ⟨r, K, hP, fun n hn => (h n).trans (k n hn)⟩
theorem Evs.imp {α : Type} {g : Nat → Option α} {P Q : α → Prop} (h : Evs g P) (hq : ∀ r, P r → Q r) : Evs g Q := by
  obtain ⟨r, K, hP, k⟩ := h
  exact ⟨r, K, hq r hP, k⟩
theorem Evs.of {α : Type} {g : Nat → Option α} {r : α} (K : Nat) (h : ∀ k, K ≤ k → g k = some r) : Evs g (fun q => q = r) := ⟨r, K, rfl, h⟩
theorem Evs.ends {α : Type} {g : Nat → Option α} {r : α} (h : Evs g (fun q => q = r)) : ∃ k, g k = some r := by
  obtain ⟨q, K, rfl, k⟩ := h
  exact ⟨K, k K (Nat.le_refl _)⟩
theorem Evs.pos {α : Type} {g f : Nat → Option α} {c : Prop} [Decidable c] {P : α → Prop} (hc : c) (h : Evs g P) : Evs (fun k => if c then g k else f k) P := h.cong (fun k => if_pos hc)
theorem Evs.neg {α : Type} {g f : Nat → Option α} {c : Prop} [Decidable c] {P : α → Prop} (hc : ¬ c) (h : Evs f P) : Evs (fun k => if c then g k else f k) P := h.cong (fun k => if_neg hc)
theorem Evs.ite {α : Type} {g f : Nat → Option α} {c : Prop} [Decidable c] {P : α → Prop} (h : c → Evs g P) (h' : ¬ c → Evs f P) : Evs (fun k => if c then g k else f k) P := by
  by_cases hc : c
  · exact Evs.pos hc (h hc)
  · exact Evs.neg hc (h' hc)
theorem pp_getD {α : Type} (l : List α) (i : Nat) (z : α) (h : i < l.length) : l.getD (i : Int).toNat z = l[i] := by
  simp [List.getD_eq_getElem?_getD, List.getElem?_eq_getElem h]
/-- A small letter. -/
def ppLow (c : UInt8) : Bool := decide (97 ≤ c.toNat ∧ c.toNat ≤ 122)
/-- A text, byte by byte; b: its beginning or a blank stands ahead. -/
def ppOkL : Bool → List UInt8 → Bool
  | b, [] => !b
  | b, c :: r => if c = 32 then !b && ppOkL true r else ppLow c && ppOkL false r
/-- Whether a text is ok. -/
def ppTxtB (x : ByteArray) : Bool := decide (x.size ≤ 30) && (decide (x.size = 0) || ppOkL true x.data.toList)
/-- A text's pieces between its blanks. -/
def ppPcs : List UInt8 → List (List UInt8)
  | [] => [[]]
  | c :: r => if c = 32 then [] :: ppPcs r else match ppPcs r with
    | h :: t => (c :: h) :: t
    | [] => [[c]]
theorem ppPcs_split : ∀ l : List UInt8, Lib.splitK [32] 0 (Lib.count l [32]) l = ppPcs l
  | [] => by rw [Lib.count_one]; rfl
  | c :: r => by
    have ih := ppPcs_split r
    by_cases h : c = 32
    · subst h
      rw [Lib.count_cons_eq, Nat.add_comm]
      have hix : Lib.index (32 :: r) [32] = 0 := by rw [Lib.index]; simp [List.isPrefixOf]
      unfold Lib.splitK ppPcs
      rw [hix, if_neg (by decide), if_pos rfl, ← ih]
      simp
    · rw [Lib.count_cons_ne c 32 r h]
      have hp : ([32] : List UInt8).isPrefixOf (c :: r) = false := by simp [List.isPrefixOf, Ne.symm h]
      have hix : Lib.index (c :: r) [32] = if Lib.index r [32] == -1 then -1 else Lib.index r [32] + 1 := by rw [Lib.index, hp]; simp
      unfold ppPcs
      rw [if_neg h, ← ih]
      by_cases hm : Lib.index r [32] = -1
      · rw [Lib.count_miss hm]
        rfl
      · have hge := Lib.index_ge r [32]
        obtain ⟨j, hj⟩ : ∃ j : Nat, Lib.index r [32] = j := ⟨(Lib.index r [32]).toNat, by omega⟩
        have hc := Lib.count_hit (s := r) (sub := [32]) (by simp) hj
        rw [hc, Nat.add_comm]
        have e1 : ¬ ((j : Int) == -1) = true := fun e => by have := beq_iff_eq.1 e; omega
        have e2 : ¬ ((j : Int) + 1 == -1) = true := fun e => by have := beq_iff_eq.1 e; omega
        have e3 : ((j : Int) + 1).toNat = j + 1 := by omega
        unfold Lib.splitK
        rw [hix, hj, if_neg e1, if_neg e2, if_neg e1, e3]
        simp
def ppWordL (x : List UInt8) : Bool := !x.isEmpty && x.all ppLow
theorem ppPcs_ok : ∀ (l : List UInt8) (b : Bool), ∃ h t, ppPcs l = h :: t ∧ ppOkL b l = ((!(b && h.isEmpty)) && h.all ppLow && t.all ppWordL)
  | [], b => ⟨[], [], rfl, by cases b <;> rfl⟩
  | c :: r, b => by
    by_cases h : c = 32
    · obtain ⟨h', t', e, q⟩ := ppPcs_ok r true
      refine ⟨[], h' :: t', by unfold ppPcs; rw [if_pos h, e], ?_⟩
      unfold ppOkL
      rw [if_pos h, q]
      simp only [List.all_cons, ppWordL, List.isEmpty_nil, List.all_nil, Bool.and_true, Bool.true_and]
    · obtain ⟨h', t', e, q⟩ := ppPcs_ok r false
      refine ⟨c :: h', t', by unfold ppPcs; rw [if_neg h, e], ?_⟩
      unfold ppOkL
      rw [if_neg h, q]
      simp only [List.all_cons, List.isEmpty_cons, Bool.and_false, Bool.not_false, Bool.false_and, Bool.true_and, Bool.and_assoc]
theorem ppPcs_all (l : List UInt8) : (ppPcs l).all ppWordL = ppOkL true l := by
  obtain ⟨h, t, e, q⟩ := ppPcs_ok l true
  rw [e, q]
  simp only [List.all_cons, ppWordL, Bool.true_and]
theorem ppAz_low : ∀ c : UInt8, Txt.ppAz.contains c = ppLow c := by
  have h : ∀ n : Fin 256, Txt.ppAz.contains (UInt8.ofNat n.val) = ppLow (UInt8.ofNat n.val) := by decide +kernel
  intro c
  have := h ⟨c.toNat, c.toNat_lt⟩
  simpa using this
theorem ppDrop_head {α : Type} (p : α → Bool) : ∀ (l : List α) (a : α) (t : List α), l.dropWhile p = a :: t → p a = false
  | [], _, _, h => by simp at h
  | b :: r, a, t, h => by
    rw [List.dropWhile_cons] at h
    by_cases hb : p b = true
    · rw [if_pos hb] at h
      exact ppDrop_head p r a t h
    · rw [if_neg hb] at h
      injection h with h1 h2
      rw [← h1]
      simpa using hb
theorem ppDrop_nil {α : Type} (p : α → Bool) : ∀ l : List α, l.dropWhile p = [] ↔ ∀ x ∈ l, p x = true
  | [] => by simp
  | b :: r => by
    rw [List.dropWhile_cons]
    by_cases hb : p b = true
    · rw [if_pos hb, ppDrop_nil p r]
      simp [hb]
    · rw [if_neg hb]
      simp [hb]
theorem ppTrim_nil (l cs : List UInt8) : (Lib.trimS l cs).isEmpty = l.all (cs.contains ·) := by
  have hall : (Lib.trimS l cs) = [] ↔ ∀ x ∈ l, cs.contains x = true := by
    unfold Lib.trimS Lib.trimLeftS Lib.trimRightS
    cases hy : l.reverse.dropWhile (cs.contains ·) with
    | nil =>
      have h2 := (ppDrop_nil _ _).1 hy
      exact ⟨fun _ x hx => h2 x (List.mem_reverse.2 hx), fun _ => rfl⟩
    | cons a t =>
      have ha := ppDrop_head _ _ _ _ hy
      have hm : a ∈ l := List.mem_reverse.1 ((List.dropWhile_suffix _).subset (hy ▸ List.mem_cons_self))
      refine ⟨fun h => ?_, fun h => ?_⟩
      · have := (ppDrop_nil _ _).1 h a (by simp)
        rw [this] at ha
        cases ha
      · have := h a hm
        rw [this] at ha
        cases ha
  rw [Bool.eq_iff_iff, List.isEmpty_iff, hall, List.all_eq_true]
theorem ppWord_eq (x : ByteArray) : Txt.ppWordOk x = ppWordL x.data.toList := by
  unfold Txt.ppWordOk ppWordL Txt.ppRest
  rw [Lib.toList_data, Lib.toList_data]
  have e : ∀ l : List UInt8, (⟨l.toArray⟩ : ByteArray).data.toList = l := fun l => by simp
  rw [e, ppTrim_nil]
  congr 1
  exact List.all_congr rfl (fun c => ppAz_low c)
theorem ppTxt_eq (x : ByteArray) : Txt.ppTxtOk x = ppTxtB x := by
  unfold Txt.ppTxtOk ppTxtB
  have hw : (Txt.ppWords x).all Txt.ppWordOk = ppOkL true x.data.toList := by
    have h1 : (Txt.ppWords x).all Txt.ppWordOk = ((Txt.ppWords x).map (·.data.toList)).all ppWordL := by
      rw [List.all_map]
      exact List.all_congr rfl (fun c => ppWord_eq c)
    rw [h1]
    unfold Txt.ppWords
    rw [Lib.splitB_data]
    rw [← ppPcs_all, ← ppPcs_split]
  rw [hw, Lib.toList_data]
  have hs := Lib.size_eq x
  by_cases h0 : x.size = 0
  · have : x.data.toList = [] := List.eq_nil_of_length_eq_zero (by omega)
    rw [this, h0]
    rfl
  · have : x.data.toList.isEmpty = false := by
      rw [List.isEmpty_eq_false_iff]
      intro e
      rw [e] at hs
      exact h0 hs
    rw [this, decide_eq_false h0, Bool.false_or, Bool.false_or, Bool.and_comm]
    congr 1
    exact decide_eq_decide.2 (by omega)
/-- The byte at a place, as a number. -/
theorem pp_bt (x : ByteArray) (i : Nat) (h : i < x.size) : bt x (i : Int) = ((x.data.toList[i]'(by rw [← Lib.size_eq]; exact h)).toNat : Int) := by
  unfold bt
  rw [dif_pos (by simpa using h)]
  congr 2

theorem pp_inS (x c d : Int) : spec_l1In.f x c d = some (decide (c ≤ x ∧ x ≤ d)) := by
  unfold spec_l1In.f
  split
  · congr 1; exact decide_eq_decide.2 (by omega)
  · congr 1; symm; exact decide_eq_false (by omega)
theorem pp_inP (x c d : Int) : impl_in.f x c d = some (decide (c ≤ x ∧ x ≤ d)) := by
  unfold impl_in.f
  split
  · congr 1; exact decide_eq_decide.2 (by omega)
  · congr 1; symm; exact decide_eq_false (by omega)
theorem ppList_getElem {α : Type} (l : List α) (i : Nat) (h : i < l.length) : l.drop i = l[i] :: l.drop (i + 1) := List.drop_eq_getElem_cons h
/-- spec.TxtOk, exactly. -/
theorem pp_txtS (x : ByteArray) : Evs (fun k => spec_TxtOk.f k x) (fun r => r = ppTxtB x) := by
  unfold spec_TxtOk.f
  have hsz := Lib.size_eq x
  refine Evs.ite (fun h => Evs.now ?_) (fun hx => ?_)
  · unfold ppTxtB
    rw [decide_eq_false (by omega)]
    rfl
  have e30 : decide (x.size ≤ 30) = true := decide_eq_true (by omega)
  have loop : ∀ (d i : Nat) (b : Bool), x.size - i = d → i ≤ x.size → (b = true ↔ (i = 0 ∨ bt x ((i : Int) - 1) = 32)) → (i = x.size → 0 < i → b = false) → Evs (fun k => spec_TxtOk.l0 k x (i : Int)) (fun r => r = (decide (i = x.size) || ppOkL b (x.data.toList.drop i))) := by
    intro d
    induction d with
    | zero =>
      intro i b hd hi hb hend
      refine Evs.step (f := fun _ => some true) (fun k => by simp only [spec_TxtOk.l0]; rw [if_neg (by omega)]) (Evs.now ?_)
      rw [decide_eq_true (show i = x.size by omega)]
      rfl
    | succ d ih =>
      intro i b hd hi hb hend
      have hil : i < x.data.toList.length := by omega
      have hbt := pp_bt x i (by omega)
      have hdr := ppList_getElem x.data.toList i hil
      generalize hc : x.data.toList[i] = c at hbt hdr
      have hcn : c.toNat < 256 := c.toNat_lt
      have c32 : c = 32 ↔ (c.toNat : Int) = 32 := by
        constructor
        · intro h; rw [h]; rfl
        · intro h; exact UInt8.toNat_inj.1 (show c.toNat = (32 : UInt8).toNat from by show c.toNat = 32; omega)
      have hne : decide (i = x.size) = false := decide_eq_false (by omega)
      -- behind the first test
      have J : ∀ w, (w = true → (decide (i = x.size) || ppOkL b (x.data.toList.drop i)) = false) → (w = false → c = 32 → b = false ∧ i + 1 < x.size) → Evs (fun k => spec_TxtOk.j1 k x (i : Int) w) (fun r => r = (decide (i = x.size) || ppOkL b (x.data.toList.drop i))) := by
        intro w hw1 hw2
        refine Evs.step (fun k => by simp only [spec_TxtOk.j1]; rfl) ?_
        refine Evs.ite (fun hw => Evs.now (hw1 hw).symm) (fun hw => Evs.pos (by omega) (Evs.pos (by omega) ?_))
        have hw : w = false := by simpa using hw
        rw [hbt, pp_wrap_id ((i : Int) + 1) (by omega) (by omega), pp_wrap_id (c.toNat : Int) (by omega) (by omega)]
        rw [hdr, hne]
        unfold ppOkL
        refine Evs.ite (fun h32 => ?_) (fun h32 => ?_)
        · obtain ⟨hb0, hlt⟩ := hw2 hw (c32.2 h32)
          rw [if_pos (c32.2 h32), hb0]
          have n := ih (i + 1) true (by omega) (by omega) ⟨fun _ => .inr (by rw [show (((i + 1 : Nat)) : Int) - 1 = (i : Int) by omega, hbt]; exact h32), fun _ => rfl⟩ (fun h => by omega)
          rw [decide_eq_false (show ¬ i + 1 = x.size by omega)] at n
          exact n
        · rw [if_neg (fun h => h32 (c32.1 h)), pp_inS]
          simp only [Option.bind_some]
          have n := ih (i + 1) false (by omega) (by omega) ⟨fun h => (by cases h), fun h => (by
            rcases h with h | h
            · omega
            · rw [show (((i + 1 : Nat)) : Int) - 1 = (i : Int) by omega, hbt] at h
              exact absurd h h32)⟩ (fun _ _ => rfl)
          refine Evs.ite (fun hin => ?_) (fun hin => Evs.now ?_)
          · have hin := of_decide_eq_true hin
            refine n.imp fun r hr => ?_
            rw [hr]
            have hl : ppLow c = true := decide_eq_true (by omega)
            rw [hl]
            by_cases he : i + 1 = x.size
            · rw [decide_eq_true he, List.drop_of_length_le (by omega)]
              rfl
            · rw [decide_eq_false he]
              rfl
          · have hin : ¬ (97 ≤ (c.toNat : Int) ∧ (c.toNat : Int) ≤ 122) := fun h => hin (decide_eq_true h)
            have hl : ppLow c = false := decide_eq_false (by omega)
            rw [hl]
            rfl
      refine Evs.step (fun k => by simp only [spec_TxtOk.l0]; rfl) ?_
      refine Evs.pos (by omega) (Evs.pos (by omega) ?_)
      rw [hbt]
      refine Evs.ite (fun h32 => ?_) (fun h32 => J false (fun h => (by cases h)) (fun _ h => absurd (c32.1 h) h32))
      have hpos : ppOkL b (x.data.toList.drop i) = (!b && ppOkL true (x.data.toList.drop (i + 1))) := by
        rw [hdr]
        show (if c = 32 then _ else _) = _
        rw [if_pos (c32.2 h32)]
      refine Evs.ite (fun h0 => J true (fun _ => ?_) (fun h => (by cases h))) (fun h0 => ?_)
      · rw [hne, hpos, hb.2 (.inl (by omega))]
        rfl
      rw [pp_wrap_id ((x.size : Int) - 1) (by omega) (by omega), pp_wrap_id ((i : Int) - 1) (by omega) (by omega)]
      refine Evs.ite (fun h1 => J true (fun _ => ?_) (fun h => (by cases h))) (fun h1 => Evs.pos (by omega) (Evs.pos (by omega) (J _ (fun h => ?_) (fun h _ => ?_))))
      · rw [hne, hpos, List.drop_of_length_le (show x.data.toList.length ≤ i + 1 by omega)]
        simp [ppOkL]
      · rw [hne, hpos, hb.2 (.inr (by simpa using h))]
        rfl
      · refine ⟨?_, by omega⟩
        rw [← Bool.not_eq_true]
        intro hbt'
        rcases hb.1 hbt' with h' | h'
        · omega
        · rw [h'] at h
          simp at h
  refine (loop _ 0 true rfl (by omega) ⟨fun _ => .inl rfl, fun _ => rfl⟩ (fun _ h => absurd h (Nat.lt_irrefl _))).imp fun r hr => ?_
  rw [hr]
  unfold ppTxtB
  rw [e30, List.drop_zero, Bool.true_and]
  congr 1
  exact decide_eq_decide.2 ⟨fun h => h.symm, fun h => h.symm⟩
def ppBrdB (a b : Int) : Bool := decide ((a = 0 ∨ a = 4) ∧ b = 0 ∨ (1 ≤ a ∧ a ≤ 3) ∧ 1 ≤ b ∧ b ≤ 3)
theorem pp_brdS (a b : Int) : Evs (fun k => spec_BrdOk.f k a b) (fun r => r = ppBrdB a b) := by
  have J : ∀ w, (w = true ↔ (a = 0 ∨ a = 4)) → Evs (fun k => spec_BrdOk.j0 k w a b) (fun r => r = ppBrdB a b) := by
    intro w hw
    refine Evs.step (fun k => by simp only [spec_BrdOk.j0]; rfl) ?_
    unfold ppBrdB
    refine Evs.ite (fun h => Evs.now ?_) (fun h => ?_)
    · have := hw.1 h
      rw [show (b == 0) = decide (b = 0) from rfl]
      exact decide_eq_decide.2 (by omega)
    · have : ¬ (a = 0 ∨ a = 4) := fun q => h (hw.2 q)
      rw [pp_inS, pp_inS]
      simp only [Option.bind_some]
      refine Evs.ite (fun h1 => Evs.now ?_) (fun h1 => Evs.now ?_)
      · have h1 := of_decide_eq_true h1
        exact decide_eq_decide.2 (by omega)
      · have h1 : ¬ (1 ≤ a ∧ a ≤ 3) := fun q => h1 (decide_eq_true q)
        exact (decide_eq_false (by omega)).symm
  unfold spec_BrdOk.f
  exact Evs.ite (fun h => J true (by simp [h])) (fun h => J _ (by simp [h]))
theorem pp_brdP (a b : Int) : impl_BrdOk.f a b = some (ppBrdB a b) := by
  unfold impl_BrdOk.f impl_BrdLine_drawn.f ppBrdB
  rw [pp_inP, pp_inP]
  simp only [Option.bind_some]
  by_cases h : 1 ≤ a ∧ a ≤ 3
  · rw [decide_eq_true h, if_pos rfl]
    congr 1
    exact decide_eq_decide.2 (by omega)
  · rw [decide_eq_false h, if_neg (by decide)]
    by_cases h0 : a = 0
    · rw [if_pos h0]
      congr 1
      rw [show (b == 0) = decide (b = 0) from rfl]
      exact decide_eq_decide.2 (by omega)
    · rw [if_neg h0]
      by_cases h4 : a = 4
      · rw [if_pos h4]
        congr 1
        rw [show (b == 0) = decide (b = 0) from rfl]
        exact decide_eq_decide.2 (by omega)
      · rw [if_neg h4]
        congr 1
        exact (decide_eq_false (by omega)).symm
/-- Whether a cell is ok. -/
def ppCellB (x : S41) : Bool := ppTxtB x.f0 && decide (1 ≤ x.f1 ∧ x.f1 ≤ 4) && decide (1 ≤ x.f2 ∧ x.f2 ≤ 4) && ppBrdB x.f3.f0 x.f3.f1 && ppBrdB x.f4.f0 x.f4.f1 && ppBrdB x.f5.f0 x.f5.f1 && ppBrdB x.f6.f0 x.f6.f1
theorem pp_cellS (x : S41) : Evs (fun k => spec_CellOk.f k x.f0 x.f1 x.f2 x.f3.f0 x.f3.f1 x.f4.f0 x.f4.f1 x.f5.f0 x.f5.f1 x.f6.f0 x.f6.f1) (fun r => r = ppCellB x) := by
  unfold spec_CellOk.f ppCellB
  rw [pp_inS, pp_inS]
  refine Evs.bnd (pp_txtS _) ?_
  rintro _ rfl
  refine Evs.ite (fun h1 => ?_) (fun h1 => Evs.now (by rw [(by simpa using h1 : ppTxtB x.f0 = false)]; simp))
  rw [h1]
  simp only [Option.bind_some]
  refine Evs.ite (fun h2 => ?_) (fun h2 => Evs.now (by rw [Bool.eq_false_iff.2 h2]; simp))
  rw [h2]
  refine Evs.ite (fun h3 => ?_) (fun h3 => Evs.now (by rw [Bool.eq_false_iff.2 h3]; simp))
  rw [h3]
  refine Evs.bnd (pp_brdS _ _) ?_
  rintro _ rfl
  refine Evs.ite (fun h4 => ?_) (fun h4 => Evs.now (by rw [Bool.eq_false_iff.2 h4]; simp))
  rw [h4]
  refine Evs.bnd (pp_brdS _ _) ?_
  rintro _ rfl
  refine Evs.ite (fun h5 => ?_) (fun h5 => Evs.now (by rw [Bool.eq_false_iff.2 h5]; simp))
  rw [h5]
  refine Evs.bnd (pp_brdS _ _) ?_
  rintro _ rfl
  refine Evs.ite (fun h6 => ?_) (fun h6 => Evs.now (by rw [Bool.eq_false_iff.2 h6]; simp))
  rw [h6]
  refine Evs.bnd (pp_brdS _ _) ?_
  rintro _ rfl
  exact Evs.now (by simp)
theorem pp_cellP (x : S41) (hs : x.f0.size < 4294967281) : impl_CellOk.f x.f0 x.f1 x.f2 x.f3.f0 x.f3.f1 x.f4.f0 x.f4.f1 x.f5.f0 x.f5.f1 x.f6.f0 x.f6.f1 = some (ppCellB x) := by
  unfold impl_CellOk.f impl_TxtOk.f ppCellB
  rw [if_pos hs, ppTxt_eq, pp_inP, pp_inP, pp_brdP, pp_brdP, pp_brdP, pp_brdP]
  simp only [Option.bind_some]
  cases ppTxtB x.f0 <;> cases decide (1 ≤ x.f1 ∧ x.f1 ≤ 4) <;> cases decide (1 ≤ x.f2 ∧ x.f2 ≤ 4) <;> cases ppBrdB x.f3.f0 x.f3.f1 <;> cases ppBrdB x.f4.f0 x.f4.f1 <;> cases ppBrdB x.f5.f0 x.f5.f1 <;> rfl
def ppColB (x : S58) : Bool := decide (x.f0 = 0 ∧ x.f1 = 0 ∨ x.f0 = 1 ∧ 0 ≤ x.f1 ∧ x.f1 ≤ 60 ∨ x.f0 = 2 ∧ 1 ≤ x.f1 ∧ x.f1 ≤ 100)
theorem pp_colS (x : S58) : spec_l2Col.f x.f0 x.f1 = some (ppColB x) := by
  unfold spec_l2Col.f ppColB
  rw [pp_inS, pp_inS]
  simp only [Option.bind_some]
  repeat' split
  · congr 1; rw [show (x.f1 == 0) = decide (x.f1 = 0) from rfl]; exact decide_eq_decide.2 (by omega)
  · congr 1; exact decide_eq_decide.2 (by omega)
  · congr 1; exact decide_eq_decide.2 (by omega)
  · congr 1; exact (decide_eq_false (by omega)).symm
theorem pp_colP (x : S58) : impl_TblCol_ok.f x.f0 x.f1 = some (ppColB x) := by
  unfold impl_TblCol_ok.f ppColB
  rw [pp_inP, pp_inP]
  simp only [Option.bind_some]
  repeat' split
  · congr 1; rw [show (x.f1 == 0) = decide (x.f1 = 0) from rfl]; exact decide_eq_decide.2 (by omega)
  · congr 1; exact decide_eq_decide.2 (by omega)
  · congr 1; exact decide_eq_decide.2 (by omega)
  · congr 1; exact (decide_eq_false (by omega)).symm
def ppRowB (r : S44) : Bool := decide (r.f0.length ≤ 5) && r.f0.all ppCellB
/-- Whether a table is ok. -/
def ppTblB (cs : List S58) (hd ft : Int) (rs : List S44) (gp : Int) : Bool :=
  decide ((1 ≤ rs.length ∧ rs.length ≤ 8) ∧ cs.length ≤ 8 ∧ (0 ≤ hd ∧ hd ≤ rs.length) ∧ (0 ≤ ft ∧ ft ≤ rs.length - hd) ∧ 0 ≤ gp ∧ gp ≤ 3) && cs.all ppColB && rs.all ppRowB
theorem ppAll_step {α : Type} (p : α → Bool) (l : List α) (i : Nat) (h : i < l.length) (hi : (l.take i).all p = true) : l.all p = (p l[i] && (l.drop (i + 1)).all p) := by
  have e : l = l.take i ++ (l[i] :: l.drop (i + 1)) := by rw [← List.drop_eq_getElem_cons h, List.take_append_drop]
  have : l.all p = ((l.take i).all p && (p l[i] && (l.drop (i + 1)).all p)) := by
    conv => lhs; rw [e]
    rw [List.all_append, List.all_cons]
  rw [this, hi, Bool.true_and]
theorem ppAll_take {α : Type} (p : α → Bool) (l : List α) (i : Nat) (h : i < l.length) (hi : (l.take i).all p = true) (hp : p l[i] = true) : (l.take (i + 1)).all p = true := by
  rw [List.take_succ_eq_append_getElem h, List.all_append, hi]
  simp [hp]
theorem pp_tblS (cs : List S58) (hd ft : Int) (rs : List S44) (gp : Int) : Evs (fun k => spec_TblOk.f k cs hd ft rs gp) (fun r => r = ppTblB cs hd ft rs gp) := by
  generalize hT : ppTblB cs hd ft rs gp = T
  have F : (rs.all ppRowB = false ∨ cs.all ppColB = false) → T = false := by
    intro h
    rw [← hT]
    unfold ppTblB
    rcases h with h | h <;> rw [h] <;> simp
  have L : rs.length ≤ 8 → (cs.all ppColB = true) → (rs.all ppRowB = true → T = true) → ∀ (d i : Nat), rs.length - i = d → i ≤ rs.length → (rs.take i).all ppRowB = true → Evs (fun k => spec_TblOk.l1 k (i : Int) cs hd ft rs gp) (fun r => r = T) := by
    intro h8 hcs hyes d
    induction d with
    | zero =>
      intro i hd' hi hI
      rw [List.take_of_length_le (by omega)] at hI
      exact Evs.step (f := fun _ => some true) (fun k => by simp only [spec_TblOk.l1]; rw [if_neg (by omega)]) (Evs.now (hyes hI).symm)
    | succ d ih =>
      intro i hd' hi hI
      have hil : i < rs.length := by omega
      have hir : rd_T44 rs (i : Int) = rs[i] := pp_getD rs i _ hil
      have hstep := ppAll_step ppRowB rs i hil hI
      refine Evs.step (fun k => by simp only [spec_TblOk.l1]; rfl) ?_
      refine Evs.pos (by omega) (Evs.pos (by omega) ?_)
      rw [hir]
      refine Evs.ite (fun h5 => Evs.now ?_) (fun h5 => ?_)
      · refine (F (.inl ?_)).symm
        rw [hstep]
        unfold ppRowB
        rw [decide_eq_false (by omega)]
        rfl
      have n := fun (hc : rs[i].f0.all ppCellB = true) => ih (i + 1) (by omega) (by omega) (ppAll_take ppRowB rs i hil hI (by unfold ppRowB; rw [hc, decide_eq_true (by omega)]; rfl))
      rw [show (((i + 1 : Nat)) : Int) = wrap64 ((i : Int) + 1) by rw [pp_wrap_id _ (by omega) (by omega)]; rfl] at n
      have M : ∀ (d j : Nat), rs[i].f0.length - j = d → j ≤ rs[i].f0.length → (rs[i].f0.take j).all ppCellB = true → Evs (fun k => spec_TblOk.l2 k (i : Int) (j : Int) cs hd ft rs gp) (fun r => r = T) := by
        intro d
        induction d with
        | zero =>
          intro j hd2 hj hJ
          rw [List.take_of_length_le (by omega)] at hJ
          refine Evs.step (fun k => by simp only [spec_TblOk.l2]; rw [hir]) ?_
          exact Evs.pos (by omega) (Evs.pos (by omega) (Evs.neg (by omega) (n hJ)))
        | succ d ih2 =>
          intro j hd2 hj hJ
          have hjl : j < rs[i].f0.length := by omega
          have hjr : rd_T41 rs[i].f0 (j : Int) = rs[i].f0[j] := pp_getD rs[i].f0 j _ hjl
          refine Evs.step (fun k => by simp only [spec_TblOk.l2]; rw [hir, hjr]) ?_
          refine Evs.pos (by omega) (Evs.pos (by omega) (Evs.pos (by omega) (Evs.pos (by omega) ?_)))
          refine Evs.bnd (pp_cellS _) ?_
          rintro _ rfl
          refine Evs.ite (fun h => ?_) (fun h => Evs.now ?_)
          · have n2 := ih2 (j + 1) (by omega) (by omega) (ppAll_take ppCellB rs[i].f0 j hjl hJ h)
            rw [show (((j + 1 : Nat)) : Int) = wrap64 ((j : Int) + 1) by rw [pp_wrap_id _ (by omega) (by omega)]; rfl] at n2
            exact n2
          · refine (F (.inl ?_)).symm
            rw [hstep]
            unfold ppRowB
            rw [ppAll_step ppCellB rs[i].f0 j hjl hJ, Bool.eq_false_iff.2 h]
            simp
      exact M _ 0 rfl (by omega) rfl
  have K : cs.length ≤ 8 → rs.length ≤ 8 → (cs.all ppColB = true → rs.all ppRowB = true → T = true) → ∀ (d i : Nat), cs.length - i = d → i ≤ cs.length → (cs.take i).all ppColB = true → Evs (fun k => spec_TblOk.l0 k (i : Int) cs hd ft rs gp) (fun r => r = T) := by
    intro h8 h8' hyes d
    induction d with
    | zero =>
      intro i hd' hi hI
      rw [List.take_of_length_le (by omega)] at hI
      exact Evs.step (f := fun k => spec_TblOk.l1 k ((0 : Nat) : Int) cs hd ft rs gp) (fun k => by simp only [spec_TblOk.l0]; rw [if_neg (by omega)]; rfl) (L h8' hI (hyes hI) _ 0 rfl (by omega) rfl)
    | succ d ih =>
      intro i hd' hi hI
      have hil : i < cs.length := by omega
      have hir : rd_T58 cs (i : Int) = cs[i] := pp_getD cs i _ hil
      refine Evs.step (fun k => by simp only [spec_TblOk.l0]; rw [hir, pp_colS]) ?_
      simp only [Option.bind_some]
      refine Evs.pos (by omega) (Evs.pos (by omega) (Evs.ite (fun h => ?_) (fun h => Evs.now ?_)))
      · have n := ih (i + 1) (by omega) (by omega) (ppAll_take ppColB cs i hil hI h)
        rw [show (((i + 1 : Nat)) : Int) = wrap64 ((i : Int) + 1) by rw [pp_wrap_id _ (by omega) (by omega)]; rfl] at n
        exact n
      · refine (F (.inr ?_)).symm
        rw [ppAll_step ppColB cs i hil hI, Bool.eq_false_iff.2 h]
        rfl
  have J0 : T = false → Evs (fun k => spec_TblOk.j0 k true cs hd ft rs gp) (fun r => r = T) := fun h => Evs.step (f := fun _ => some false) (fun k => by simp only [spec_TblOk.j0]; rfl) (Evs.now h.symm)
  have no : ¬ ((1 ≤ rs.length ∧ rs.length ≤ 8) ∧ cs.length ≤ 8 ∧ (0 ≤ hd ∧ hd ≤ rs.length) ∧ (0 ≤ ft ∧ ft ≤ rs.length - hd) ∧ 0 ≤ gp ∧ gp ≤ 3) → T = false := by
    intro h
    rw [← hT]
    unfold ppTblB
    rw [decide_eq_false h]
    rfl
  unfold spec_TblOk.f
  rw [pp_inS, pp_inS, pp_inS, pp_inS]
  simp only [Option.bind_some]
  refine Evs.ite (fun h1 => ?_) (fun h1 => J0 (no fun q => h1 (decide_eq_true ⟨by omega, by omega⟩)))
  have h1 := of_decide_eq_true h1
  refine Evs.ite (fun h2 => J0 (no fun q => by omega)) (fun h2 => ?_)
  refine Evs.ite (fun h3 => ?_) (fun h3 => J0 (no fun q => h3 (decide_eq_true ⟨by omega, by omega⟩)))
  have h3 := of_decide_eq_true h3
  rw [pp_wrap_id ((rs.length : Int) - hd) (by omega) (by omega)]
  refine Evs.ite (fun h4 => ?_) (fun h4 => J0 (no fun q => h4 (decide_eq_true ⟨by omega, by omega⟩)))
  have h4 := of_decide_eq_true h4
  by_cases h5 : 0 ≤ gp ∧ gp ≤ 3
  · rw [decide_eq_true h5]
    refine Evs.step (fun k => by simp only [spec_TblOk.j0]; rfl) ?_
    refine Evs.neg (by decide) (K (by omega) (by omega) (fun c r => ?_) _ 0 rfl (by omega) rfl)
    rw [← hT]
    unfold ppTblB
    rw [decide_eq_true ⟨by omega, by omega, by omega, by omega, h5⟩, c, r]
    rfl
  · rw [decide_eq_false h5]
    exact J0 (no fun q => h5 q.2.2.2.2)
theorem ppIdx_neg {α : Type} (p : α → Bool) (l : List α) : decide (0 ≤ ppIdx (fun x => !p x) l) = !l.all p := by
  by_cases h : l.all p = true
  · rw [h, ppIdx_miss _ _ (fun j hj => by simp [List.all_eq_true.1 h _ (List.getElem_mem hj)])]
    rfl
  · rw [Bool.eq_false_iff.2 h]
    have : ∃ x ∈ l, p x = false := by simpa using h
    obtain ⟨x, hx, hp⟩ := this
    refine decide_eq_true ?_
    unfold ppIdx
    cases e : l.findIdx? (fun x => !p x) with
    | some i => exact Int.natCast_nonneg _
    | none =>
      rw [List.findIdx?_eq_none_iff] at e
      have := e x hx
      rw [hp] at this
      cases this
/-- impl.TblOk, exactly, of texts that are not too long. -/
theorem pp_tblP (cs : List S58) (hd ft : Int) (rs : List S44) (gp : Int) (hf : ∀ x ∈ rs, ∀ c ∈ x.f0, c.f0.size < 4294967281) (k : Nat) : impl_TblOk.f k cs hd ft rs gp = some (ppTblB cs hd ft rs gp) := by
  unfold impl_TblOk.f
  have hfits : impl_TblOk.fits rs = true := by
    unfold impl_TblOk.fits
    simpa using hf
  rw [if_pos hfits, pp_inP, pp_inP, pp_inP, pp_inP]
  simp only [Option.bind_some]
  have hcol : (fun c : S58 => !impl_TblOk.colB c) = (fun c => !ppColB c) := by
    funext c
    unfold impl_TblOk.colB
    rw [pp_colP]
    rfl
  have hrow : decide (0 ≤ ppIdx impl_TblOk.rowW rs) = !rs.all ppRowB := by
    rw [← ppIdx_neg]
    congr 2
    have key : ∀ x ∈ rs, impl_TblOk.rowW x = !ppRowB x := by
      intro x hx
      unfold impl_TblOk.rowW ppRowB
      have hcell : ppIdx (fun c => !impl_TblOk.cellB c) x.f0 = ppIdx (fun c => !ppCellB c) x.f0 := by
        unfold ppIdx
        have : x.f0.findIdx? (fun c => !impl_TblOk.cellB c) = x.f0.findIdx? (fun c => !ppCellB c) := by
          have h := hf x hx
          generalize x.f0 = l at h
          induction l with
          | nil => rfl
          | cons y ys ih =>
            rw [List.findIdx?_cons, List.findIdx?_cons, ih (fun c hc => h c (List.mem_cons_of_mem _ hc))]
            have : impl_TblOk.cellB y = ppCellB y := by
              unfold impl_TblOk.cellB
              rw [pp_cellP y (h y List.mem_cons_self)]
              rfl
            rw [this]
        rw [this]
      rw [hcell, ppIdx_neg]
      by_cases h5 : x.f0.length ≤ 5
      · rw [decide_eq_true h5, decide_eq_false (by omega)]
        simp
      · rw [decide_eq_false h5, decide_eq_true (by omega)]
        simp
    unfold ppIdx
    have : rs.findIdx? impl_TblOk.rowW = rs.findIdx? (fun x => !ppRowB x) := by
      clear hfits hf hcol
      induction rs with
      | nil => rfl
      | cons y ys ih =>
        rw [List.findIdx?_cons, List.findIdx?_cons, ih (fun c hc => key c (List.mem_cons_of_mem _ hc)), key y List.mem_cons_self]
    rw [this]
  rw [hcol, hrow]
  have hcs : (¬ 0 ≤ ppIdx (fun c => !ppColB c) cs) ↔ cs.all ppColB = true := by
    have := ppIdx_neg ppColB cs
    cases h : cs.all ppColB
    · rw [h] at this
      simp at this
      simp; omega
    · rw [h] at this
      simp at this
      simp; omega
  unfold ppTblB
  by_cases h1 : (1 : Int) ≤ (rs.length : Int) ∧ (rs.length : Int) ≤ 8
  · rw [decide_eq_true h1, if_pos rfl]
    by_cases h2 : (cs.length : Int) ≤ 8
    · rw [if_pos h2]
      by_cases h5 : 0 ≤ gp ∧ gp ≤ 3
      · rw [decide_eq_true h5, if_pos rfl]
        by_cases h3 : 0 ≤ hd ∧ hd ≤ (rs.length : Int)
        · rw [decide_eq_true h3, if_pos rfl, pp_wrap_id ((rs.length : Int) - hd) (by omega) (by omega)]
          by_cases h4 : 0 ≤ ft ∧ ft ≤ (rs.length : Int) - hd
          · rw [decide_eq_true h4, if_pos rfl, decide_eq_true ⟨by omega, by omega, h3, h4, h5⟩]
            by_cases h6 : cs.all ppColB = true
            · rw [if_pos (hcs.2 h6), h6]
              simp
            · rw [if_neg (fun q => h6 (hcs.1 q)), Bool.eq_false_iff.2 h6]
              simp
          · rw [decide_eq_false h4, if_neg (by decide), decide_eq_false (fun q => h4 q.2.2.2.1)]
            rfl
        · rw [decide_eq_false h3, if_neg (by decide), decide_eq_false (fun q => h3 q.2.2.1)]
          rfl
      · rw [decide_eq_false h5, if_neg (by decide), decide_eq_false (fun q => h5 q.2.2.2.2)]
        rfl
    · rw [if_neg h2, decide_eq_false (fun q => h2 (by omega))]
      rfl
  · rw [decide_eq_false h1, if_neg (by decide), decide_eq_false (fun q => h1 (by omega))]
    rfl

/-- What a reader reads: bytes, no more than 2000. -/
def ppRd (l : List Int) : Prop := l.length ≤ 2000 ∧ ∀ x ∈ l, 0 ≤ x ∧ x ≤ 255
theorem pp_u8 (l : List Int) (h : ∀ x ∈ l, (Lit.int .u8 x).wf = true) : ∀ x ∈ l, 0 ≤ x ∧ x ≤ 255 := by
  intro x hx
  have := h x hx
  simp [Lit.wf, IntKind.min, IntKind.max, IntKind.signed, IntKind.bits] at this
  omega
theorem pp_rdb (l : List Int) (h : ∀ x ∈ l, 0 ≤ x ∧ x ≤ 255) (i : Int) : 0 ≤ rd l i ∧ rd l i ≤ 255 := by
  unfold rd
  rw [List.getD_eq_getElem?_getD]
  cases e : l[i.toNat]? with
  | none => simp
  | some v => exact h v (List.mem_of_getElem? e)
theorem pp_open (l : List Int) (h : ∀ x ∈ l, (Lit.int .u8 x).wf = true) : ∃ b, spec_l20Open.f l = some (b, 0) ∧ ppRd b := by
  unfold spec_l20Open.f
  by_cases hl : (l.length : Int) > 2000
  · rw [if_pos hl, if_pos (by omega)]
    exact ⟨_, rfl, by rw [List.length_take]; omega, fun x hx => pp_u8 l h x (List.mem_of_mem_take hx)⟩
  · rw [if_neg hl]
    exact ⟨_, rfl, by omega, pp_u8 l h⟩
theorem pp_xor (x y : Int) (hx : 0 ≤ x) (hy : 0 ≤ y) (hx' : x < 4611686018427387904) (hy' : y < 4611686018427387904) : 0 ≤ Go.bits .xor .i64 x y ∧ Go.bits .xor .i64 x y < 4611686018427387904 := by
  obtain ⟨a, rfl⟩ : ∃ a : Nat, x = a := ⟨x.toNat, by omega⟩
  obtain ⟨b, rfl⟩ : ∃ b : Nat, y = b := ⟨y.toNat, by omega⟩
  have ha : a % 2 ^ 64 = a := Nat.mod_eq_of_lt (by omega)
  have hb : b % 2 ^ 64 = b := Nat.mod_eq_of_lt (by omega)
  have hlt : a ^^^ b < 2 ^ 62 := Nat.xor_lt_two_pow (by omega) (by omega)
  have e : Go.bits .xor .i64 (a : Int) (b : Int) = IntKind.i64.wrap ((a ^^^ b : Nat) : Int) := by
    have q : (BitVec.ofNat 64 a ^^^ BitVec.ofNat 64 b).toNat = a ^^^ b := by rw [BitVec.toNat_xor, BitVec.toNat_ofNat, BitVec.toNat_ofNat, ha, hb]
    simp only [Go.bits, BitVec.ofInt_natCast, IntKind.bits]
    exact congrArg (fun z : Nat => IntKind.i64.wrap (z : Int)) q
  rw [e, IntKind.wrap_i64]
  omega
theorem pp_pick (l : List Int) (h : ppRd l) (p n : Int) (hp : 0 ≤ p) (hp' : p ≤ 1000000000) (hn : n ≤ 1000000) :
    Evs (fun k => spec_l20Rd_pick.f k l p n) (fun r => r.2 = p + 1 ∧ 0 ≤ r.1 ∧ (n < 1 → r.1 = 0) ∧ (1 ≤ n → r.1 < n)) := by
  obtain ⟨hl, hb⟩ := h
  have e1 : wrap64 (p + 1) = p + 1 := pp_wrap_id _ (by omega) (by omega)
  have e2 : wrap64 (p + 1 - 1) = p := by rw [show p + 1 - 1 = p by omega]; exact pp_wrap_id _ (by omega) (by omega)
  unfold spec_l20Rd_pick.f
  rw [e1]
  by_cases h1 : n < 1
  · refine Evs.cong (fun k => if_pos h1) (Evs.step (f := fun _ => some (0, p + 1)) (fun k => by simp only [spec_l20Rd_pick.j0, if_true]) (Evs.now ⟨rfl, by simp, fun _ => rfl, fun h => by omega⟩))
  · refine Evs.cong (fun k => if_neg h1) ?_
    by_cases h0 : l.length = 0
    · refine Evs.step (f := fun _ => some (0, p + 1)) (fun k => by simp only [spec_l20Rd_pick.j0]; rw [if_pos (by simp [h0])]) (Evs.now ⟨rfl, by simp, fun _ => rfl, fun h => by simp; omega⟩)
    · have hne : (((l.length : Int) == 0) = true) = False := by
        have : l ≠ [] := fun e => h0 (by rw [e]; rfl)
        simpa using this
      by_cases hlt : p < (l.length : Int)
      · have hr := pp_rdb l hb p
        have hm := Int.emod_nonneg (rd l p) (show n ≠ 0 by omega)
        have hm' := Int.emod_lt_of_pos (rd l p) (show 0 < n by omega)
        refine Evs.step (f := fun _ => some (Int.tmod (rd l p) n, p + 1)) (fun k => by
          simp only [spec_l20Rd_pick.j0, e2, hne, if_false]
          rw [if_pos hlt, if_pos hp, if_neg (show ¬ n = 0 by omega), pp_wrap_id (rd l p) (by omega) (by omega)]) (Evs.now ⟨rfl, ?_, fun h => absurd h h1, fun _ => ?_⟩)
        · simp only [Int.tmod_eq_emod_of_nonneg hr.1]; exact hm
        · simp only [Int.tmod_eq_emod_of_nonneg hr.1]; exact hm'
      · have hL : (0 : Int) < (l.length : Int) := by omega
        have ei : Int.tmod p (l.length : Int) = p % (l.length : Int) := Int.tmod_eq_emod_of_nonneg hp
        have ed : Int.tdiv p (l.length : Int) = p / (l.length : Int) := Int.tdiv_eq_ediv_of_nonneg hp
        have i0 := Int.emod_nonneg p (show (l.length : Int) ≠ 0 by omega)
        have i1 := Int.emod_lt_of_pos p hL
        have d0 : 0 ≤ p / (l.length : Int) := Int.ediv_nonneg hp (by omega)
        have d1 : p / (l.length : Int) ≤ p := Int.ediv_le_self _ hp
        have e7 : wrap64 (wrap64 (p * 7) + 3) = p * 7 + 3 := by rw [pp_wrap_id (p * 7) (by omega) (by omega), pp_wrap_id _ (by omega) (by omega)]
        have ej : Int.tmod (p * 7 + 3) (l.length : Int) = (p * 7 + 3) % (l.length : Int) := Int.tmod_eq_emod_of_nonneg (by omega)
        have j0 := Int.emod_nonneg (p * 7 + 3) (show (l.length : Int) ≠ 0 by omega)
        have j1 := Int.emod_lt_of_pos (p * 7 + 3) hL
        obtain ⟨u, hu⟩ : ∃ u, u = rd l (p % (l.length : Int)) := ⟨_, rfl⟩
        obtain ⟨v, hv⟩ : ∃ v, v = rd l ((p * 7 + 3) % (l.length : Int)) := ⟨_, rfl⟩
        have hu' : 0 ≤ u ∧ u ≤ 255 := by rw [hu]; exact pp_rdb l hb _
        have hv' : 0 ≤ v ∧ v ≤ 255 := by rw [hv]; exact pp_rdb l hb _
        obtain ⟨dq, hdq⟩ : ∃ dq, dq = p / (l.length : Int) := ⟨_, rfl⟩
        rw [← hdq] at d0 d1
        have w1 : wrap64 u = u := pp_wrap_id _ (by omega) (by omega)
        have w2 : wrap64 (u * 131) = u * 131 := pp_wrap_id _ (by omega) (by omega)
        have w3 : wrap64 v = v := pp_wrap_id _ (by omega) (by omega)
        have w4 : wrap64 (v * 1117) = v * 1117 := pp_wrap_id _ (by omega) (by omega)
        have w5 : wrap64 (u * 131 + v * 1117) = u * 131 + v * 1117 := pp_wrap_id _ (by omega) (by omega)
        have w6 : wrap64 (p * 29) = p * 29 := pp_wrap_id _ (by omega) (by omega)
        have w7 : wrap64 (u * 131 + v * 1117 + p * 29) = u * 131 + v * 1117 + p * 29 := pp_wrap_id _ (by omega) (by omega)
        have w8 : wrap64 dq = dq := pp_wrap_id _ (by omega) (by omega)
        have w9 : wrap64 (dq * 53) = dq * 53 := pp_wrap_id _ (by omega) (by omega)
        have wa : wrap64 (u * 131 + v * 1117 + p * 29 + dq * 53) = u * 131 + v * 1117 + p * 29 + dq * 53 := pp_wrap_id _ (by omega) (by omega)
        obtain ⟨x, hx⟩ : ∃ x, x = u * 131 + v * 1117 + p * 29 + dq * 53 := ⟨_, rfl⟩
        have x0 : 0 ≤ x := by omega
        have x1 : x < 4611686018427387904 := by omega
        have wx : wrap64 x = x := pp_wrap_id _ (by omega) (by omega)
        have ex : Int.tdiv x 64 = x / 64 := Int.tdiv_eq_ediv_of_nonneg x0
        have wb : wrap64 (x / 64) = x / 64 := pp_wrap_id _ (by omega) (by omega)
        have hz := pp_xor x (x / 64) x0 (by omega) x1 (by omega)
        have hm := Int.emod_nonneg (Go.bits .xor .i64 x (x / 64)) (show n ≠ 0 by omega)
        have hm' := Int.emod_lt_of_pos (Go.bits .xor .i64 x (x / 64)) (show 0 < n by omega)
        refine Evs.step (f := fun _ => some (Int.tmod (Go.bits .xor .i64 x (x / 64)) n, p + 1)) (fun k => by
          simp only [spec_l20Rd_pick.j0, e2, hne, if_false, ei, ed, e7, ej, ← hu, ← hv, ← hdq, w1, w2, w3, w4, w5, w6, w7, w8, w9, wa, ← hx, wx, ex, wb]
          rw [if_neg hlt, if_neg (by omega), if_pos i0, if_pos i1, if_pos j0, if_pos j1, if_neg (by omega)]) (Evs.now ⟨rfl, ?_, fun h => absurd h h1, fun _ => ?_⟩)
        · simp only [Int.tmod_eq_emod_of_nonneg hz.1]; exact hm
        · simp only [Int.tmod_eq_emod_of_nonneg hz.1]; exact hm'

theorem pp_brd_j1 (l : List Int) (h : ppRd l) (n p s w : Int) (hn : n ≤ 1000000) (hp : 0 ≤ p) (hp' : p ≤ 900000000) (hs : -1 ≤ s ∧ s ≤ 5) (hw : -1 ≤ w ∧ w ≤ 4) :
    Evs (fun k => spec_l20Brd.j1 k n l p s w) (fun r => (-1 ≤ r.1 ∧ r.1 ≤ 5) ∧ (-1 ≤ r.2.1 ∧ r.2.1 ≤ 4) ∧ p ≤ r.2.2 ∧ r.2.2 ≤ p + 3) := by
  refine Evs.step (fun k => by simp only [spec_l20Brd.j1]; try rfl) ?_
  refine Evs.bnd (pp_pick l h p n hp (by omega) (by omega)) ?_
  rintro ⟨v, q⟩ ⟨hq, h0, _, _⟩
  simp only at hq h0 ⊢
  refine Evs.ite (fun _ => ?_) (fun _ => Evs.now ⟨hs, hw, by simp only; omega, by simp only; omega⟩)
  refine Evs.bnd (pp_pick l h q 2 (by omega) (by omega) (by omega)) ?_
  rintro ⟨v2, q2⟩ ⟨hq2, h02, _, _⟩
  simp only at hq2 h02 ⊢
  refine Evs.ite (fun _ => ?_) (fun _ => ?_)
  · simp only [Option.bind_some]
    refine Evs.bnd (pp_pick l h q2 3 (by omega) (by omega) (by omega)) ?_
    rintro ⟨v3, q3⟩ ⟨hq3, h03, _, h13⟩
    simp only at hq3 h03 h13 ⊢
    have h13 := h13 (by omega)
    refine Evs.pos h03 (Evs.pos (by simp; omega) (Evs.now ⟨?_, hw, by simp only; omega, by simp only; omega⟩))
    have : v3 = 0 ∨ v3 = 1 ∨ v3 = 2 := by omega
    rcases this with rfl | rfl | rfl <;> simp [rd]
  · simp only [Option.bind_some]
    refine Evs.bnd (pp_pick l h q2 4 (by omega) (by omega) (by omega)) ?_
    rintro ⟨v3, q3⟩ ⟨hq3, h03, _, h13⟩
    simp only at hq3 h03 h13 ⊢
    have h13 := h13 (by omega)
    refine Evs.pos h03 (Evs.pos (by simp; omega) (Evs.now ⟨hs, ?_, by simp only; omega, by simp only; omega⟩))
    have : v3 = 0 ∨ v3 = 1 ∨ v3 = 2 ∨ v3 = 3 := by omega
    rcases this with rfl | rfl | rfl | rfl <;> simp [rd]
theorem pp_brd (l : List Int) (h : ppRd l) (n p : Int) (hn : n ≤ 1000000) (hp : 0 ≤ p) (hp' : p ≤ 800000000) :
    Evs (fun k => spec_l20Brd.f k l p n) (fun r => (-1 ≤ r.1 ∧ r.1 ≤ 5) ∧ (-1 ≤ r.2.1 ∧ r.2.1 ≤ 4) ∧ p ≤ r.2.2 ∧ r.2.2 ≤ p + 6) := by
  have two : ∀ q, p ≤ q → q ≤ p + 1 → Evs (fun k => (spec_l20Rd_pick.f k l q 3).bind fun a => (spec_l20Rd_pick.f k l a.2 3).bind fun b => spec_l20Brd.j1 k n l b.2 (wrap64 (1 + a.1)) (wrap64 (1 + b.1))) (fun r => (-1 ≤ r.1 ∧ r.1 ≤ 5) ∧ (-1 ≤ r.2.1 ∧ r.2.1 ≤ 4) ∧ p ≤ r.2.2 ∧ r.2.2 ≤ p + 6) := by
    intro q hq0 hq1
    refine Evs.bnd (pp_pick l h q 3 (by omega) (by omega) (by omega)) ?_
    rintro ⟨v2, q2⟩ ⟨hq2, h02, _, h12⟩
    simp only at hq2 h02 h12 ⊢
    have h12 := h12 (by omega)
    refine Evs.bnd (pp_pick l h q2 3 (by omega) (by omega) (by omega)) ?_
    rintro ⟨v3, q3⟩ ⟨hq3, h03, _, h13⟩
    simp only at hq3 h03 h13 ⊢
    have h13 := h13 (by omega)
    rw [pp_wrap_id (1 + v2) (by omega) (by omega), pp_wrap_id (1 + v3) (by omega) (by omega)]
    exact (pp_brd_j1 l h n q3 _ _ hn (by omega) (by omega) ⟨by omega, by omega⟩ ⟨by omega, by omega⟩).imp fun r ⟨a, b, c, d⟩ => ⟨a, b, by omega, by omega⟩
  unfold spec_l20Brd.f
  refine Evs.bnd (pp_pick l h p 4 hp (by omega) (by omega)) ?_
  rintro ⟨v, q⟩ ⟨hq, h0, _, h1⟩
  simp only at hq h0 h1 ⊢
  refine Evs.ite (fun hv => ?_) (fun hv => ?_)
  · refine Evs.step (fun k => by simp only [spec_l20Brd.j0]; rw [if_pos (by simp [hv])]; try rfl) ?_
    exact two q (by omega) (by omega)
  · by_cases hv1 : v = 1
    · refine Evs.step (fun k => by simp only [spec_l20Brd.j0]; rw [if_pos (by simp [hv1])]; try rfl) ?_
      exact two q (by omega) (by omega)
    · refine Evs.step (fun k => by simp only [spec_l20Brd.j0]; rw [if_neg (by simp [hv1])]; try rfl) ?_
      refine Evs.ite (fun _ => ?_) (fun _ => (pp_brd_j1 l h n q 0 0 hn (by omega) (by omega) ⟨by omega, by omega⟩ ⟨by omega, by omega⟩).imp fun r ⟨a, b, c, d⟩ => ⟨a, b, by omega, by omega⟩)
      refine Evs.bnd (pp_pick l h q 3 (by omega) (by omega) (by omega)) ?_
      rintro ⟨v2, q2⟩ ⟨hq2, h02, _, h12⟩
      simp only at hq2 h02 h12 ⊢
      refine Evs.ite (fun _ => ?_) (fun _ => ?_)
      · exact (pp_brd_j1 l h n q2 _ _ hn (by omega) (by omega) ⟨by omega, by omega⟩ ⟨by omega, by omega⟩).imp fun r ⟨a, b, c, d⟩ => ⟨a, b, by omega, by omega⟩
      · exact (pp_brd_j1 l h n q2 _ _ hn (by omega) (by omega) ⟨by omega, by omega⟩ ⟨by omega, by omega⟩).imp fun r ⟨a, b, c, d⟩ => ⟨a, b, by omega, by omega⟩

theorem pp_join (x y : ByteArray) (hx : x.size ≤ 30) (hy : y.size ≤ 10) : (ppJoin x y).size ≤ 30 := by
  unfold ppJoin
  split
  · omega
  · split
    · rename_i h
      rw [ByteArray.size_append, ByteArray.size_append]
      have : (⟨#[32]⟩ : ByteArray).size = 1 := rfl
      omega
    · exact hx
theorem pp_text_l (l : List Int) (h : ppRd l) : ∀ (n : Nat) (x : ByteArray) (p : Int), x.size ≤ 30 → 0 ≤ p → p + n ≤ 800000000 → n ≤ 10 → Evs (fun k => spec_l20Text.l k l n x p) (fun r => r.1.size ≤ 30 ∧ p ≤ r.2 ∧ r.2 ≤ p + n)
  | 0, x, p, hx, hp, hp', hn => Evs.cong (f := fun _ => some (x, p)) (fun _ => rfl) (Evs.now ⟨hx, by simp, by simp⟩)
  | n + 1, x, p, hx, hp, hp', hn => by
    unfold spec_l20Text.l
    refine Evs.bnd (pp_pick l h p 7 hp (by omega) (by omega)) ?_
    rintro ⟨v, q⟩ ⟨hq, h0, _, h1⟩
    simp only at hq h0 h1 ⊢
    have h1 := h1 (by omega)
    refine Evs.pos ⟨h0, h1, hx⟩ ((pp_text_l l h n _ q (pp_join _ _ hx (ppW7_size _)) (by omega) (by omega) (by omega)).imp fun r ⟨a, b, c⟩ => ⟨a, by omega, by omega⟩)
theorem pp_text (l : List Int) (h : ppRd l) (p : Int) (hp : 0 ≤ p) (hp' : p ≤ 700000000) : Evs (fun k => spec_l20Text.f k l p) (fun r => r.1.size ≤ 30 ∧ p ≤ r.2 ∧ r.2 ≤ p + 6) := by
  unfold spec_l20Text.f
  refine Evs.bnd (pp_pick l h p 6 hp (by omega) (by omega)) ?_
  rintro ⟨v, q⟩ ⟨hq, h0, _, h1⟩
  simp only at hq h0 h1 ⊢
  have h1 := h1 (by omega)
  refine Evs.pos ⟨h0, by omega⟩ ((pp_text_l l h v.toNat ⟨#[]⟩ q (by decide) (by omega) (by omega) (by omega)).imp fun r ⟨a, b, c⟩ => ⟨a, by omega, by omega⟩)
theorem ppd_ext (x : ByteArray) (i j : Nat) : (x.extract i j).size ≤ x.size := by
  rw [ByteArray.size_extract]
  omega
theorem ppd_anyText (l : List Int) (h : ppRd l) (p n : Int) (hp : 0 ≤ p) (hp' : p ≤ 700000000) (hn : n ≤ 1000000) : Evs (fun k => spec_l20AnyText.f k l p n) (fun r => r.1.size ≤ 100 ∧ p ≤ r.2 ∧ r.2 ≤ p + 9) := by
  unfold spec_l20AnyText.f
  refine Evs.bnd (pp_text l h p hp hp') ?_
  rintro ⟨x, q⟩ ⟨hx, q0, q1⟩
  simp only at hx q0 q1 ⊢
  refine Evs.bnd (pp_pick l h q n (by omega) (by omega) hn) ?_
  rintro ⟨v, q2⟩ ⟨hq, _, _, _⟩
  simp only at hq ⊢
  refine Evs.ite (fun _ => Evs.now ⟨by simp only; omega, by simp only; omega, by simp only; omega⟩) (fun _ => Evs.pos (by omega) ?_)
  refine Evs.bnd (pp_pick l h q2 ((x.size : Int) + 1) (by omega) (by omega) (by omega)) ?_
  rintro ⟨d, q3⟩ ⟨hq3, d0, _, d1⟩
  simp only at hq3 d0 d1 ⊢
  have d1 := d1 (by omega)
  refine Evs.bnd (pp_pick l h q3 7 (by omega) (by omega) (by omega)) ?_
  rintro ⟨e, q4⟩ ⟨hq4, e0, _, e1⟩
  simp only at hq4 e0 e1 ⊢
  have e1 := e1 (by omega)
  refine Evs.pos ⟨d0, by omega, e0, e1⟩ (Evs.now ⟨?_, by simp only; omega, by simp only; omega⟩)
  simp only
  rw [ByteArray.size_append, ByteArray.size_append]
  have := ppd_ext x 0 d.toNat
  have := ppd_ext x d.toNat x.size
  have := ppWrong7_size e.toNat
  omega
/-- A drawn cell: its text is short, and it does not go over four rows. -/
def ppDc (c : S41) : Prop := c.f0.size ≤ 100 ∧ c.f2 ≠ 4
theorem ppd_cell_j (l : List Int) (h : ppRd l) (n : Int) (x : S41) (p : Int) (hn : n ≤ 1000000) (hp : 0 ≤ p) (hp' : p ≤ 600000000) (hx : ppDc x) : Evs (fun k => spec_l20Cel.j k l n x p) (fun r => ppDc r.1 ∧ p ≤ r.2 ∧ r.2 ≤ p + 11) := by
  unfold spec_l20Cel.j
  refine Evs.bnd (pp_pick l h p n hp (by omega) hn) ?_
  rintro ⟨v, q⟩ ⟨hq, _, _, _⟩
  simp only at hq ⊢
  refine Evs.ite (fun _ => Evs.now ⟨hx, by simp only; omega, by simp only; omega⟩) (fun _ => ?_)
  refine Evs.bnd (pp_pick l h q 4 (by omega) (by omega) (by omega)) ?_
  rintro ⟨d, q2⟩ ⟨hq2, d0, _, d1⟩
  simp only at hq2 d0 d1 ⊢
  refine Evs.ite (fun _ => ?_) (fun _ => Evs.ite (fun _ => ?_) (fun _ => Evs.ite (fun _ => ?_) (fun _ => ?_)))
  · refine Evs.bnd (ppd_anyText l h q2 1 (by omega) (by omega) (by omega)) ?_
    rintro ⟨t, q3⟩ ⟨a, b, c⟩
    exact Evs.now ⟨⟨a, hx.2⟩, by simp only at *; omega, by simp only at *; omega⟩
  · refine Evs.bnd (pp_pick l h q2 3 (by omega) (by omega) (by omega)) ?_
    rintro ⟨e, q3⟩ ⟨hq3, e0, _, e1⟩
    simp only at hq3 e0 e1 ⊢
    exact Evs.pos ⟨e0, e1 (by omega)⟩ (Evs.now ⟨⟨hx.1, hx.2⟩, by simp only; omega, by simp only; omega⟩)
  · refine Evs.bnd (pp_pick l h q2 3 (by omega) (by omega) (by omega)) ?_
    rintro ⟨e, q3⟩ ⟨hq3, e0, _, e1⟩
    simp only at hq3 e0 e1 ⊢
    refine Evs.pos ⟨e0, e1 (by omega)⟩ (Evs.now ⟨⟨hx.1, ?_⟩, by simp only; omega, by simp only; omega⟩)
    show ppOf3.getD e.toNat 0 ≠ 4
    match e.toNat with
    | 0 => decide
    | 1 => decide
    | 2 => decide
    | n + 3 => exact (by decide : (0 : Int) ≠ 4)
  · refine Evs.bnd (pp_brd l h 1 q2 (by omega) (by omega) (by omega)) ?_
    rintro ⟨s, w, q3⟩ ⟨_, _, g0, g1⟩
    exact Evs.now ⟨⟨hx.1, hx.2⟩, by simp only at *; omega, by simp only at *; omega⟩
theorem ppd_cell (l : List Int) (h : ppRd l) (p n : Int) (hn : n ≤ 1000000) (hp : 0 ≤ p) (hp' : p ≤ 500000000) : Evs (fun k => spec_l20Cel.f k l p n) (fun r => ppDc r.1 ∧ p ≤ r.2 ∧ r.2 ≤ p + 43) := by
  unfold spec_l20Cel.f
  refine Evs.bnd (pp_text l h p hp (by omega)) ?_
  rintro ⟨t, q1⟩ ⟨a0, a1, b1⟩
  simp only at a0 a1 b1 ⊢
  refine Evs.bnd (pp_pick l h q1 6 (by omega) (by omega) (by omega)) ?_
  rintro ⟨c, q2⟩ ⟨hq2, c0, _, c1⟩
  simp only at hq2 c0 c1 ⊢
  refine Evs.bnd (pp_pick l h q2 6 (by omega) (by omega) (by omega)) ?_
  rintro ⟨r, q3⟩ ⟨hq3, r0, _, r1⟩
  simp only at hq3 r0 r1 ⊢
  refine Evs.pos ⟨c0, c1 (by omega), r0, r1 (by omega)⟩ ?_
  refine Evs.bnd (pp_brd l h 999 q3 (by omega) (by omega) (by omega)) ?_
  rintro ⟨s1, w1, q4⟩ ⟨_, _, g0, g1⟩
  simp only at g0 g1 ⊢
  refine Evs.bnd (pp_brd l h 999 q4 (by omega) (by omega) (by omega)) ?_
  rintro ⟨s2, w2, q5⟩ ⟨_, _, g2, g3⟩
  simp only at g2 g3 ⊢
  refine Evs.bnd (pp_brd l h 999 q5 (by omega) (by omega) (by omega)) ?_
  rintro ⟨s3, w3, q6⟩ ⟨_, _, g4, g5⟩
  simp only at g4 g5 ⊢
  refine Evs.bnd (pp_brd l h 999 q6 (by omega) (by omega) (by omega)) ?_
  rintro ⟨s4, w4, q7⟩ ⟨_, _, g6, g7⟩
  simp only at g6 g7 ⊢
  refine (ppd_cell_j l h n _ q7 hn (by omega) (by omega) ?_).imp fun r ⟨e, a, b⟩ => ⟨e, by omega, by omega⟩
  split
  · exact ⟨by show (⟨#[]⟩ : ByteArray).size ≤ 100; decide, by show (1 : Int) ≠ 4; decide⟩
  · refine ⟨by show t.size ≤ 100; omega, ?_⟩
    show ppOf6b.getD r.toNat 0 ≠ 4
    match r.toNat with
    | 0 | 1 | 2 | 3 | 4 | 5 => decide
    | n + 6 => exact (by decide : (0 : Int) ≠ 4)
theorem ppd_tab_s (l : List Int) (h : ppRd l) : ∀ (n : Nat) (xs : List S41) (p : Int), 0 ≤ p → p + 43 * n ≤ 400000000 → n ≤ 10 → (∀ c ∈ xs, ppDc c) → Evs (fun k => spec_l20Tab.ls k l n xs p) (fun r => (r.1.length = xs.length + n ∧ ∀ c ∈ r.1, ppDc c) ∧ p ≤ r.2 ∧ r.2 ≤ p + 43 * n)
  | 0, xs, p, hp, hp', hn, hx => Evs.cong (f := fun _ => some (xs, p)) (fun _ => rfl) (Evs.now ⟨⟨rfl, hx⟩, by simp, by simp⟩)
  | n + 1, xs, p, hp, hp', hn, hx => by
    unfold spec_l20Tab.ls
    refine Evs.bnd (ppd_cell l h p 99999 (by omega) hp (by omega)) ?_
    rintro ⟨c, q⟩ ⟨hc, q0, q1⟩
    simp only at hc q0 q1 ⊢
    refine (ppd_tab_s l h n (xs ++ [c]) q (by omega) (by omega) (by omega) (fun y hy => ?_)).imp fun r ⟨⟨e, f⟩, a, b⟩ => ⟨⟨by rw [e, List.length_append, List.length_singleton]; omega, f⟩, by omega, by omega⟩
    rcases List.mem_append.1 hy with hy | hy
    · exact hx y hy
    · rw [List.mem_singleton.1 hy]; exact hc
/-- Drawn rows: at most so many cells, each as drawn. -/
def ppDr (m : Nat) (x : S44) : Prop := x.f0.length ≤ m ∧ ∀ c ∈ x.f0, ppDc c
theorem ppd_tab_r (l : List Int) (h : ppRd l) : ∀ (n : Nat) (xs : List S44) (p : Int), 0 ≤ p → p + 200 * n ≤ 300000000 → n ≤ 10 → (∀ x ∈ xs, ppDr 4 x) → Evs (fun k => spec_l20Tab.lr k l n xs p) (fun r => (r.1.length = xs.length + n ∧ ∀ x ∈ r.1, ppDr 4 x) ∧ p ≤ r.2 ∧ r.2 ≤ p + 200 * n)
  | 0, xs, p, hp, hp', hn, hx => Evs.cong (f := fun _ => some (xs, p)) (fun _ => rfl) (Evs.now ⟨⟨rfl, hx⟩, by simp, by simp⟩)
  | n + 1, xs, p, hp, hp', hn, hx => by
    unfold spec_l20Tab.lr
    refine Evs.bnd (pp_pick l h p 4 hp (by omega) (by omega)) ?_
    rintro ⟨a, q⟩ ⟨hq, a0, _, a1⟩
    simp only at hq a0 a1 ⊢
    refine Evs.bnd (pp_pick l h q 5 (by omega) (by omega) (by omega)) ?_
    rintro ⟨b, q2⟩ ⟨hq2, b0, _, b1⟩
    simp only at hq2 b0 b1 ⊢
    have b1 := b1 (by omega)
    refine Evs.pos ⟨b0, by omega⟩ ?_
    refine Evs.bnd (ppd_tab_s l h b.toNat [] q2 (by omega) (by omega) (by omega) (fun _ hc => by cases hc)) ?_
    rintro ⟨c, q3⟩ ⟨⟨hl, hc⟩, g0, g1⟩
    simp only [List.length_nil] at hl hc g0 g1 ⊢
    refine (ppd_tab_r l h n (xs ++ [(⟨c, a == 0⟩ : S44)]) q3 (by omega) (by omega) (by omega) (fun y hy => ?_)).imp fun r ⟨⟨e, f⟩, a, b⟩ => ⟨⟨by rw [e, List.length_append, List.length_singleton]; omega, f⟩, by omega, by omega⟩
    rcases List.mem_append.1 hy with hy | hy
    · exact hx y hy
    · rw [List.mem_singleton.1 hy]
      exact ⟨by show c.length ≤ 4; omega, hc⟩
theorem ppd_tab_c (l : List Int) (h : ppRd l) : ∀ (n : Nat) (xs : List S58) (p : Int), 0 ≤ p → p + 3 * n ≤ 400000000 → n ≤ 10 → Evs (fun k => spec_l20Tab.lc k l n xs p) (fun r => p ≤ r.2 ∧ r.2 ≤ p + 3 * n)
  | 0, xs, p, hp, hp', hn => Evs.cong (f := fun _ => some (xs, p)) (fun _ => rfl) (Evs.now ⟨by simp, by simp⟩)
  | n + 1, xs, p, hp, hp', hn => by
    unfold spec_l20Tab.lc
    refine Evs.bnd (pp_pick l h p 30 hp (by omega) (by omega)) ?_
    rintro ⟨a, q⟩ ⟨hq, a0, _, a1⟩
    simp only at hq a0 a1 ⊢
    refine Evs.bnd (pp_pick l h q 4 (by omega) (by omega) (by omega)) ?_
    rintro ⟨b, q2⟩ ⟨hq2, b0, _, b1⟩
    simp only at hq2 b0 b1 ⊢
    refine Evs.bnd (pp_pick l h q2 4 (by omega) (by omega) (by omega)) ?_
    rintro ⟨c, q3⟩ ⟨hq3, c0, _, c1⟩
    simp only at hq3 c0 c1 ⊢
    exact Evs.pos ⟨b0, b1 (by omega), c0, c1 (by omega)⟩ ((ppd_tab_c l h n _ q3 (by omega) (by omega) (by omega)).imp fun r ⟨a, b⟩ => ⟨by omega, by omega⟩)
theorem ppTblB_shape {cs : List S58} {hd ft : Int} {rs : List S44} {gp : Int} (h : ppTblB cs hd ft rs gp = true) : (1 ≤ rs.length ∧ rs.length ≤ 8) ∧ cs.length ≤ 8 ∧ (0 ≤ hd ∧ hd ≤ rs.length) ∧ (0 ≤ ft ∧ ft ≤ rs.length - hd) ∧ rs.all ppRowB = true := by
  unfold ppTblB at h
  simp only [Bool.and_eq_true, decide_eq_true_eq] at h
  obtain ⟨⟨h1, _⟩, h3⟩ := h
  exact ⟨h1.1, h1.2.1, h1.2.2.1, h1.2.2.2.1, h3⟩
theorem ppd_tab_f (t : PTab) (p : Int) (ht : t.rows.length ≤ 6 ∧ 1 ≤ t.rows.length ∧ ∀ x ∈ t.rows, ppDr 4 x) : Evs (fun k => spec_l20Tab.fin k t p) (fun r => (r.1.rows.length ≤ 6 ∧ 1 ≤ r.1.rows.length ∧ (∀ x ∈ r.1.rows, ppDr 4 x) ∧ r.1.cols.length ≤ 8) ∧ r.2 = p) := by
  unfold spec_l20Tab.fin
  refine Evs.bnd (pp_tblS _ _ _ _ _) (fun b hb => Evs.now ⟨?_, rfl⟩)
  simp only
  split
  · rename_i e
    rw [e] at hb
    exact ⟨ht.1, ht.2.1, ht.2.2, (ppTblB_shape hb.symm).2.1⟩
  · refine ⟨by decide, by decide, ?_, by decide⟩
    intro x hx
    rw [show ppNoTab.rows = [⟨[], false⟩] from rfl] at hx
    rw [List.mem_singleton.1 hx]
    exact ⟨by decide, fun c hc => by cases hc⟩
theorem ppd_table (l : List Int) (h : ppRd l) (p : Int) (hp : 0 ≤ p) (hp' : p ≤ 200000000) : Evs (fun k => spec_l20Tab.f k l p) (fun r => (r.1.rows.length ≤ 6 ∧ 1 ≤ r.1.rows.length ∧ (∀ x ∈ r.1.rows, ppDr 4 x) ∧ r.1.cols.length ≤ 8) ∧ p ≤ r.2 ∧ r.2 ≤ p + 2000) := by
  unfold spec_l20Tab.f
  refine Evs.bnd (pp_pick l h p 4 hp (by omega) (by omega)) ?_
  rintro ⟨gap, q⟩ ⟨hq, _, _, _⟩
  simp only at hq ⊢
  refine Evs.bnd (pp_pick l h q 6 (by omega) (by omega) (by omega)) ?_
  rintro ⟨nc, q2⟩ ⟨hq2, c0, _, c1⟩
  simp only at hq2 c0 c1 ⊢
  have c1 := c1 (by omega)
  refine Evs.pos ⟨c0, by omega⟩ ?_
  refine Evs.bnd (ppd_tab_c l h nc.toNat [] q2 (by omega) (by omega) (by omega)) ?_
  rintro ⟨cols, q3⟩ ⟨g0, g1⟩
  simp only at g0 g1 ⊢
  refine Evs.bnd (pp_pick l h q3 6 (by omega) (by omega) (by omega)) ?_
  rintro ⟨nr, q4⟩ ⟨hq4, r0, _, r1⟩
  simp only at hq4 r0 r1 ⊢
  have r1 := r1 (by omega)
  refine Evs.pos ⟨r0, by omega⟩ ?_
  refine Evs.bnd (ppd_tab_r l h (nr.toNat + 1) [] q4 (by omega) (by omega) (by omega) (fun _ hx => by cases hx)) ?_
  rintro ⟨rows, q5⟩ ⟨⟨hl, hr⟩, g2, g3⟩
  simp only [List.length_nil] at hl hr g2 g3 ⊢
  have hrows : rows.length ≤ 6 ∧ 1 ≤ rows.length ∧ ∀ x ∈ rows, ppDr 4 x := ⟨by omega, by omega, hr⟩
  refine Evs.bnd (pp_pick l h q5 2 (by omega) (by omega) (by omega)) ?_
  rintro ⟨hf, q6⟩ ⟨hq6, _, _, _⟩
  simp only at hq6 ⊢
  refine Evs.ite (fun _ => ?_) (fun _ => (ppd_tab_f ⟨cols, 0, 0, rows, gap⟩ _ hrows).imp fun r ⟨t, e⟩ => ⟨t, by omega, by omega⟩)
  refine Evs.bnd (pp_pick l h q6 2 (by omega) (by omega) (by omega)) ?_
  rintro ⟨hd, q7⟩ ⟨hq7, d0, _, d1⟩
  simp only at hq7 d0 d1 ⊢
  have d1 := d1 (by omega)
  refine Evs.bnd (pp_pick l h q7 2 (by omega) (by omega) (by omega)) ?_
  rintro ⟨ft, q8⟩ ⟨hq8, f0, _, f1⟩
  simp only at hq8 f0 f1 ⊢
  have f1 := f1 (by omega)
  exact Evs.pos ⟨d0, by omega, f0, by omega⟩ ((ppd_tab_f ⟨cols, hd, _, rows, gap⟩ _ hrows).imp fun r ⟨t, e⟩ => ⟨t, by omega, by omega⟩)
/-- Drawn rows, one of which may have a cell more. -/
def ppDrs (rs : List S44) : Prop := ∃ a : Nat, ∀ i (hi : i < rs.length), ppDr (if i = a then 5 else 4) rs[i]
theorem ppDrs_of {rs : List S44} (h : ∀ x ∈ rs, ppDr 4 x) : ppDrs rs := by
  refine ⟨0, fun i hi => ?_⟩
  have := h _ (List.getElem_mem hi)
  exact ⟨by have := this.1; split <;> omega, this.2⟩
theorem pp_paRow (rows : List S44) (a : Nat) (h : a < rows.length) : paRow rows a = rows[a] := by
  unfold paRow
  simp [List.getD_eq_getElem?_getD, List.getElem?_eq_getElem h]
theorem ppDrs_put {rows : List S44} (hr : ∀ x ∈ rows, ppDr 4 x) {a : Nat} (ha : a < rows.length) {x : S41} (hx : ppDc x) : ppDrs (paPut rows a x) := by
  refine ⟨a, fun i hi => ?_⟩
  unfold paPut at hi ⊢
  have hil : i < rows.length := by rwa [List.length_set] at hi
  have hra := hr _ (List.getElem_mem ha)
  by_cases e : i = a
  · subst e
    rw [if_pos rfl, List.getElem_set_self, pp_paRow rows i ha]
    refine ⟨by show (rows[i].f0 ++ [x]).length ≤ 5; rw [List.length_append, List.length_singleton]; have := hra.1; omega, fun c hc => ?_⟩
    rcases List.mem_append.1 hc with hc | hc
    · exact hra.2 c hc
    · rw [List.mem_singleton.1 hc]; exact hx
  · rw [if_neg e, List.getElem_set_ne (Ne.symm e)]
    exact hr _ (List.getElem_mem hil)
theorem ppd_any (l : List Int) (h : ppRd l) (p n : Int) (hp : 0 ≤ p) (hp' : p ≤ 100000000) (hn : n ≤ 1000000) : Evs (fun k => spec_l20Any.f k l p n) (fun r => ppDrs r.1.rows) := by
  unfold spec_l20Any.f
  refine Evs.bnd (ppd_table l h p hp (by omega)) ?_
  rintro ⟨⟨cols, hd, ft, rows, gap⟩, q⟩ ⟨⟨h6, h1, hr, h8⟩, q0, q1⟩
  simp only at h6 h1 hr h8 q0 q1 ⊢
  refine Evs.bnd (pp_pick l h q n (by omega) (by omega) hn) ?_
  rintro ⟨c, q2⟩ ⟨hq2, _, _, _⟩
  simp only at hq2 ⊢
  have hr0 := ppDrs_of hr
  refine Evs.ite (fun _ => Evs.now hr0) (fun _ => ?_)
  refine Evs.bnd (pp_pick l h q2 (rows.length : Int) (by omega) (by omega) (by omega)) ?_
  rintro ⟨a, q3⟩ ⟨hq3, a0, _, a1⟩
  simp only at hq3 a0 a1 ⊢
  have a1 := a1 (by omega)
  refine Evs.pos ⟨a0, a1⟩ ?_
  refine Evs.bnd (pp_pick l h q3 6 (by omega) (by omega) (by omega)) ?_
  rintro ⟨sw, q4⟩ ⟨hq4, s0, _, s1⟩
  simp only at hq4 s0 s1 ⊢
  unfold spec_l20Any.turn
  refine Evs.ite (fun _ => ?_) (fun _ => Evs.ite (fun _ => ?_) (fun _ => Evs.ite (fun _ => ?_) (fun _ => Evs.ite (fun _ => ?_) (fun _ => Evs.ite (fun _ => ?_) (fun _ => ?_)))))
  · refine Evs.bnd (pp_pick l h q4 3 (by omega) (by omega) (by omega)) ?_
    rintro ⟨e, q5⟩ ⟨hq5, e0, _, e1⟩
    exact Evs.pos ⟨e0, e1 (by omega)⟩ (Evs.now hr0)
  · refine Evs.bnd (pp_pick l h q4 3 (by omega) (by omega) (by omega)) ?_
    rintro ⟨e, q5⟩ ⟨hq5, e0, _, e1⟩
    exact Evs.pos ⟨e0, e1 (by omega)⟩ (Evs.now hr0)
  · refine Evs.bnd (pp_pick l h q4 2 (by omega) (by omega) (by omega)) ?_
    rintro ⟨e, q5⟩ ⟨hq5, e0, _, e1⟩
    exact Evs.pos ⟨e0, e1 (by omega)⟩ (Evs.now hr0)
  · refine Evs.bnd (pp_pick l h q4 4 (by omega) (by omega) (by omega)) ?_
    rintro ⟨d, q5⟩ ⟨hq5, _, _, _⟩
    simp only at hq5 ⊢
    refine Evs.bnd (pp_pick l h q5 4 (by omega) (by omega) (by omega)) ?_
    rintro ⟨e, q6⟩ ⟨hq6, e0, _, e1⟩
    exact Evs.pos ⟨e0, e1 (by omega), by omega⟩ (Evs.now hr0)
  · refine Evs.bnd (ppd_cell l h q4 1 (by omega) (by omega) (by omega)) ?_
    rintro ⟨x, q5⟩ ⟨hx, _, _⟩
    simp only at hx ⊢
    have hpr := pp_paRow rows a.toNat (by omega)
    have hra := hr _ (List.getElem_mem (show a.toNat < rows.length by omega))
    exact Evs.pos (by rw [hpr]; have := hra.1; omega) (Evs.now (ppDrs_put hr (by omega) hx))
  · refine Evs.now (ppDrs_of ?_)
    intro x hx
    unfold paFill at hx
    rcases List.mem_append.1 hx with hx | hx
    · exact hr x hx
    · rw [(List.mem_replicate.1 hx).2]
      exact ⟨by decide, fun c hc => by cases hc⟩

theorem pp_rdc {l : List S37} {i : Nat} (h : i < l.length) : rd_T37 l (i : Int) = l[i] := pp_getD l i _ h
/-- The cell lies in a grid of so many rows and columns. -/
def ppLies (a b : Int) (x : S37) : Prop := 0 ≤ x.f0 ∧ x.f0 ≤ a - 1 ∧ 0 ≤ x.f1 ∧ x.f1 ≤ b - 1 ∧ 1 ≤ x.f2 ∧ x.f2 ≤ a - x.f0 ∧ 1 ≤ x.f3 ∧ x.f3 ≤ b - x.f1 ∧ 0 ≤ x.f4 ∧ x.f4 ≤ 4
/-- Two cells share a slot. -/
def ppMeet (x y : S37) : Prop := x.f0 < y.f0 + y.f2 ∧ y.f0 < x.f0 + x.f2 ∧ x.f1 < y.f1 + y.f3 ∧ y.f1 < x.f1 + x.f3
/-- The grid is ok. -/
def ppGood (a b : Int) (l : List S37) : Prop := (1 ≤ a ∧ a ≤ 8) ∧ (1 ≤ b ∧ b ≤ 94) ∧ l.length ≤ 40 ∧ (∀ x ∈ l, ppLies a b x) ∧ l.Pairwise (fun x y => ¬ ppMeet x y)
theorem ppMeet_comm (x y : S37) : ppMeet x y ↔ ppMeet y x := by unfold ppMeet; omega
theorem pp_meetS (a b : Int) (x y : S37) (ha : 1 ≤ a ∧ a ≤ 8) (hb : 1 ≤ b ∧ b ≤ 94) (hx : ppLies a b x) (hy : ppLies a b y) : ∃ r, spec_l3Meets.f x.f0 x.f1 x.f2 x.f3 x.f4 y.f0 y.f1 y.f2 y.f3 y.f4 = some r ∧ (r = true ↔ ppMeet x y) := by
  unfold ppLies at hx hy
  unfold spec_l3Meets.f ppMeet
  rw [pp_wrap_id (y.f0 + y.f2) (by omega) (by omega), pp_wrap_id (x.f0 + x.f2) (by omega) (by omega), pp_wrap_id (y.f1 + y.f3) (by omega) (by omega), pp_wrap_id (x.f1 + x.f3) (by omega) (by omega)]
  split
  · split
    · split
      · exact ⟨_, rfl, by simp; omega⟩
      · exact ⟨_, rfl, by simp; omega⟩
    · exact ⟨_, rfl, by simp; omega⟩
  · exact ⟨_, rfl, by simp; omega⟩
theorem pp_meetI (a b : Int) (x y : S37) (ha : 1 ≤ a ∧ a ≤ 8) (hb : 1 ≤ b ∧ b ≤ 94) (hx : ppLies a b x) (hy : ppLies a b y) : ppMeetB x y = true ↔ ppMeet x y := by
  unfold ppLies at hx hy
  unfold ppMeetB impl_GrdCell_meets.f ppMeet
  rw [pp_wrap_id (y.f0 + y.f2) (by omega) (by omega), pp_wrap_id (x.f0 + x.f2) (by omega) (by omega), pp_wrap_id (y.f1 + y.f3) (by omega) (by omega), pp_wrap_id (x.f1 + x.f3) (by omega) (by omega)]
  split
  · split
    · split
      · simp; omega
      · simp; omega
    · simp; omega
  · simp; omega
/-- Cells of l up to i: they lie in the grid, none meets one ahead of it. -/
def ppTo (a b : Int) (l : List S37) (i : Nat) : Prop := (∀ x ∈ l.take i, ppLies a b x) ∧ (l.take i).Pairwise (fun x y => ¬ ppMeet x y)
theorem ppTo_succ (a b : Int) (l : List S37) (i : Nat) (h : i < l.length) : ppTo a b l (i + 1) ↔ ppTo a b l i ∧ ppLies a b l[i] ∧ ∀ y ∈ l.take i, ¬ ppMeet y l[i] := by
  unfold ppTo
  rw [List.take_succ_eq_append_getElem h, List.pairwise_append]
  simp only [List.mem_append, List.mem_singleton, List.pairwise_singleton, true_and]
  constructor
  · rintro ⟨h1, h2, h3⟩
    exact ⟨⟨fun x hx => h1 x (.inl hx), h2⟩, h1 _ (.inr rfl), fun y hy => h3 y hy _ rfl⟩
  · rintro ⟨⟨h1, h2⟩, h3, h4⟩
    exact ⟨fun x hx => by rcases hx with hx | rfl; exact h1 x hx; exact h3, h2, fun y hy z hz => by subst hz; exact h4 y hy⟩
theorem ppTo_mono (a b : Int) (l : List S37) {i j : Nat} (h : i ≤ j) (hj : ppTo a b l j) : ppTo a b l i := by
  have e : l.take i = (l.take j).take i := by rw [List.take_take, Nat.min_eq_left h]
  unfold ppTo
  rw [e]
  exact ⟨fun x hx => hj.1 x (List.mem_of_mem_take hx), hj.2.sublist (List.take_sublist _ _)⟩
theorem ppTo_all (a b : Int) (l : List S37) : ppTo a b l l.length ↔ (∀ x ∈ l, ppLies a b x) ∧ l.Pairwise (fun x y => ¬ ppMeet x y) := by unfold ppTo; rw [List.take_length]
theorem pp_inI (x c d : Int) : impl_in.f x c d = some (decide (c ≤ x ∧ x ≤ d)) := by
  unfold impl_in.f
  split
  · congr 1; rw [Bool.eq_iff_iff]; simp; omega
  · congr 1; rw [Bool.eq_iff_iff]; simp; omega
theorem pp_freeE (a b : Int) (x : S37) (ha : 1 ≤ a ∧ a ≤ 8) (hb : 1 ≤ b ∧ b ≤ 94) (hx : ppLies a b x) (l : List S37) (hl : l.length ≤ 1000) (h : ∀ y ∈ l, ppLies a b y) :
    Evs (fun k => spec_l3Free.f k l x.f0 x.f1 x.f2 x.f3 x.f4) (fun r => r = true ↔ ∀ y ∈ l, ¬ ppMeet y x) := by
  unfold spec_l3Free.f
  have loop : ∀ (d i : Nat), l.length - i = d → i ≤ l.length → (∀ j (hj : j < l.length), j < i → ¬ ppMeet l[j] x) → Evs (fun k => spec_l3Free.l0 k l (i : Int) x.f0 x.f1 x.f2 x.f3 x.f4) (fun r => r = true ↔ ∀ y ∈ l, ¬ ppMeet y x) := by
    intro d
    induction d with
    | zero =>
      intro i hd hi hI
      refine Evs.step (f := fun _ => some true) (fun k => by simp only [spec_l3Free.l0]; rw [if_neg (by omega)]) (Evs.now ⟨fun _ y hy => ?_, fun _ => rfl⟩)
      obtain ⟨j, hj, rfl⟩ := List.getElem_of_mem hy
      exact hI j hj (by omega)
    | succ d ih =>
      intro i hd hi hI
      have hil : i < l.length := by omega
      obtain ⟨r, hr, hm⟩ := pp_meetS a b l[i] x ha hb (h _ (List.getElem_mem _)) hx
      refine Evs.step (f := fun k => if r = true then some false else spec_l3Free.l0 k l (((i + 1 : Nat)) : Int) x.f0 x.f1 x.f2 x.f3 x.f4) (fun k => by
        simp only [spec_l3Free.l0]
        rw [if_pos (by omega), if_pos (by omega), pp_rdc hil, hr, pp_wrap_id _ (by omega) (by omega)]
        rfl) ?_
      refine Evs.ite (fun ht => Evs.now ⟨fun h => (by cases h), fun hall => absurd (hm.1 ht) (hall _ (List.getElem_mem _))⟩) (fun ht => ?_)
      refine ih (i + 1) (by omega) (by omega) (fun j hj hji => ?_)
      by_cases e : j = i
      · subst e; exact fun q => ht (hm.2 q)
      · exact hI j hj (by omega)
  exact loop _ 0 rfl (by omega) (fun j _ h => absurd h (Nat.not_lt_zero _))
theorem pp_cells (a b : Int) (x : S37) (ha : 1 ≤ a ∧ a ≤ 8) (hb : 1 ≤ b ∧ b ≤ 94) (hx : ppLies a b x) (l : List S37) (h : ∀ y ∈ l, ppLies a b y) (k : Nat) :
    ∃ r, impl_ccells.f k l x.f0 x.f1 x.f2 x.f3 x.f4 = some r ∧ (r = false ↔ ∀ y ∈ l, ¬ ppMeet y x) := by
  refine ⟨_, rfl, ?_⟩
  by_cases hall : ∀ y ∈ l, ¬ ppMeet y x
  · rw [ppIdx_miss _ _ (fun j hj => by
      have := hall l[j] (List.getElem_mem _)
      rw [ppMeet_comm] at this
      rw [← Bool.not_eq_true]
      exact fun q => this ((pp_meetI a b ⟨x.f0, x.f1, x.f2, x.f3, x.f4⟩ l[j] ha hb hx (h _ (List.getElem_mem _))).1 q))]
    simpa using hall
  · have : ∃ j, ∃ hj : j < l.length, ppMeetB ⟨x.f0, x.f1, x.f2, x.f3, x.f4⟩ l[j] = true := by
      simp only [Classical.not_forall, Classical.not_not] at hall
      obtain ⟨y, hy, hm⟩ := hall
      obtain ⟨j, hj, rfl⟩ := List.getElem_of_mem hy
      exact ⟨j, hj, (pp_meetI a b ⟨x.f0, x.f1, x.f2, x.f3, x.f4⟩ l[j] ha hb hx (h _ (List.getElem_mem _))).2 ((ppMeet_comm _ _).1 hm)⟩
    have hp : 0 ≤ ppIdx (fun y => ppMeetB ⟨x.f0, x.f1, x.f2, x.f3, x.f4⟩ y) l := by
      unfold ppIdx
      cases e : l.findIdx? (fun y => ppMeetB ⟨x.f0, x.f1, x.f2, x.f3, x.f4⟩ y) with
      | some i => exact Int.natCast_nonneg _
      | none =>
        rw [List.findIdx?_eq_none_iff] at e
        obtain ⟨j, hj, hm⟩ := this
        rw [e _ (List.getElem_mem hj)] at hm
        cases hm
    rw [decide_eq_true hp]
    exact ⟨fun h => (by cases h), fun q => absurd q hall⟩

/-- How many numbers below c lie from a on and ahead of b. -/
def ppCnt (a b : Int) : Nat → Nat
  | 0 => 0
  | c + 1 => ppCnt a b c + if a ≤ (c : Int) ∧ (c : Int) < b then 1 else 0
theorem ppCnt_le (a b : Int) (h : a ≤ b) : ∀ c : Nat, (ppCnt a b c : Int) ≤ b - a ∧ ((c : Int) ≤ a → ppCnt a b c = 0) ∧ (a ≤ (c : Int) → (c : Int) ≤ b → (ppCnt a b c : Int) ≤ c - a)
  | 0 => ⟨by simp [ppCnt]; omega, fun _ => rfl, fun _ _ => by simp [ppCnt]; omega⟩
  | c + 1 => by
    obtain ⟨h1, h2, h3⟩ := ppCnt_le a b h c
    unfold ppCnt
    by_cases q : a ≤ (c : Int) ∧ (c : Int) < b
    · rw [if_pos q]
      have := h3 q.1 (by omega)
      exact ⟨by omega, fun _ => by omega, fun _ _ => by omega⟩
    · rw [if_neg q]
      refine ⟨by omega, fun _ => by rw [h2 (by omega)], fun q1 q2 => ?_⟩
      have := h2 (by omega)
      omega
def ppCnts (L : List (Int × Int)) (c : Nat) : Nat := (L.map fun I => ppCnt I.1 I.2 c).sum
theorem ppCnts_le (c m : Nat) : ∀ L : List (Int × Int), (∀ I ∈ L, I.1 ≤ I.2 ∧ I.2 - I.1 ≤ m) → ppCnts L c ≤ m * L.length
  | [], _ => by simp [ppCnts]
  | I :: r, h => by
    have ih := ppCnts_le c m r (fun J hJ => h J (List.mem_cons_of_mem _ hJ))
    obtain ⟨h1, h2⟩ := h I List.mem_cons_self
    have h3 := (ppCnt_le I.1 I.2 h1 c).1
    unfold ppCnts at ih ⊢
    simp only [List.map_cons, List.sum_cons, List.length_cons, Nat.mul_succ]
    omega
theorem ppCnts_succ (c : Nat) : ∀ L : List (Int × Int), ppCnts L c ≤ ppCnts L (c + 1) ∧ ((∃ I ∈ L, I.1 ≤ (c : Int) ∧ (c : Int) < I.2) → ppCnts L c + 1 ≤ ppCnts L (c + 1))
  | [] => ⟨Nat.le_refl _, fun ⟨I, hI, _⟩ => by cases hI⟩
  | J :: r => by
    obtain ⟨h1, h2⟩ := ppCnts_succ c r
    unfold ppCnts at h1 h2 ⊢
    simp only [List.map_cons, List.sum_cons]
    rw [show ppCnt J.1 J.2 (c + 1) = ppCnt J.1 J.2 c + (if J.1 ≤ (c : Int) ∧ (c : Int) < J.2 then 1 else 0) from rfl]
    refine ⟨by split <;> omega, ?_⟩
    rintro ⟨I, hI, hi⟩
    rcases List.mem_cons.1 hI with rfl | hI
    · rw [if_pos hi]; omega
    · have := h2 ⟨I, hI, hi⟩
      split <;> omega
/-- So many numbers that each lie in one of some stretches are no more than these are long together. -/
theorem ppPig (L : List (Int × Int)) (m : Nat) (hL : ∀ I ∈ L, I.1 ≤ I.2 ∧ I.2 - I.1 ≤ m) (c : Nat) (h : ∀ j : Nat, j < c → ∃ I ∈ L, I.1 ≤ (j : Int) ∧ (j : Int) < I.2) : c ≤ m * L.length := by
  have key : ∀ c : Nat, (∀ j : Nat, j < c → ∃ I ∈ L, I.1 ≤ (j : Int) ∧ (j : Int) < I.2) → c ≤ ppCnts L c := by
    intro c
    induction c with
    | zero => intro _; exact Nat.zero_le _
    | succ c ih =>
      intro h
      have h1 := ih (fun j hj => h j (by omega))
      have h2 := (ppCnts_succ c L).2 (h c (by omega))
      omega
  exact Nat.le_trans (key c h) (ppCnts_le c m L hL)

instance (x y : S37) : Decidable (ppMeet x y) := by unfold ppMeet; infer_instance
/-- No cell of ds meets t. -/
def ppFreeB (ds : List S37) (t : S37) : Bool := ds.all fun y => !decide (ppMeet y t)
theorem ppFreeB_iff (ds : List S37) (t : S37) : ppFreeB ds t = true ↔ ∀ y ∈ ds, ¬ ppMeet y t := by
  unfold ppFreeB
  simp
/-- The first column that is free, so many columns on at most. -/
def ppFit (ds : List S37) : Nat → S37 → S37
  | 0, t => t
  | n + 1, t => if ppFreeB ds t = true then t else ppFit ds n { t with f1 := t.f1 + 1 }
theorem ppFit_keeps (ds : List S37) : ∀ (n : Nat) (t : S37), (ppFit ds n t).f0 = t.f0 ∧ (t.f1 ≤ (ppFit ds n t).f1 ∧ (ppFit ds n t).f1 ≤ t.f1 + n) ∧ (ppFit ds n t).f2 = t.f2 ∧ (ppFit ds n t).f3 = t.f3 ∧ (ppFit ds n t).f4 = t.f4 ∧
    (∀ q : Nat, (q : Int) < (ppFit ds n t).f1 - t.f1 → ppFreeB ds { t with f1 := t.f1 + q } = false) ∧ ((ppFit ds n t).f1 < t.f1 + n → ppFreeB ds (ppFit ds n t) = true)
  | 0, t => ⟨rfl, ⟨Int.le_refl _, by simp [ppFit]⟩, rfl, rfl, rfl, fun q hq => by simp only [ppFit] at hq; omega, fun h => by simp only [ppFit] at h; omega⟩
  | n + 1, t => by
    unfold ppFit
    split
    · rename_i h
      exact ⟨rfl, by omega, rfl, rfl, rfl, fun q hq => by omega, fun _ => h⟩
    · rename_i h
      obtain ⟨e0, e1, e2, e3, e4, e5, e6⟩ := ppFit_keeps ds n { t with f1 := t.f1 + 1 }
      simp only at e0 e1 e2 e3 e4 e5 e6
      refine ⟨e0, by omega, e2, e3, e4, fun q hq => ?_, fun hl => e6 (by omega)⟩
      cases q with
      | zero => simpa using h
      | succ q =>
        have := e5 q (by omega)
        rw [← this]
        congr 2
        omega
/-- The row behind the last one of row i's part. -/
def ppEnd (hd ft n i : Int) : Int := if i < hd then hd else if n - ft ≤ i then n else n - ft
/-- A cell as it begins to look for its place. -/
def ppNew (hd ft n : Int) (i j : Nat) (x : S41) : S37 := ⟨i, 0, if ppEnd hd ft n i < (i : Int) + x.f2 then ppEnd hd ft n i - i else x.f2, x.f1, j⟩
theorem ppEnd_in {hd ft : Int} {n i : Nat} (h : 0 ≤ hd ∧ 0 ≤ ft ∧ hd + ft ≤ n) (hi : i < n) : (i : Int) < ppEnd hd ft n i ∧ ppEnd hd ft n i ≤ n := by
  unfold ppEnd
  split
  · omega
  · split <;> omega
/-- A cell that is ok and was drawn goes over one to four columns and one to three rows. -/
def ppCx (c : S41) : Prop := 1 ≤ c.f1 ∧ c.f1 ≤ 4 ∧ 1 ≤ c.f2 ∧ c.f2 ≤ 3
/-- A table that is ok and was drawn. -/
structure ppShp (hd ft : Int) (rs : List S44) : Prop where
  n8 : 1 ≤ rs.length ∧ rs.length ≤ 8
  hf : 0 ≤ hd ∧ 0 ≤ ft ∧ hd + ft ≤ (rs.length : Int)
  cx : ∀ i (hi : i < rs.length), ∀ c ∈ rs[i].f0, ppCx c
  len : ∃ a : Nat, ∀ i (hi : i < rs.length), rs[i].f0.length ≤ if i = a then 5 else 4
theorem ppShp_of {cs : List S58} {hd ft : Int} {rs : List S44} {gp : Int} (h : ppTblB cs hd ft rs gp = true) (hd' : ppDrs rs) : ppShp hd ft rs := by
  obtain ⟨h1, _, h3, h4, h5⟩ := ppTblB_shape h
  obtain ⟨a, ha⟩ := hd'
  refine ⟨h1, by omega, fun i hi c hc => ?_, a, fun i hi => (ha i hi).1⟩
  have hr := List.all_eq_true.1 h5 _ (List.getElem_mem hi)
  unfold ppRowB at hr
  rw [Bool.and_eq_true] at hr
  have hcell := List.all_eq_true.1 hr.2 c hc
  have hdc := ((ha i hi).2 c hc).2
  unfold ppCellB at hcell
  simp only [Bool.and_eq_true, decide_eq_true_eq] at hcell
  obtain ⟨⟨⟨⟨⟨⟨_, k1⟩, k2⟩, _⟩, _⟩, _⟩, _⟩ := hcell
  exact ⟨k1.1, k1.2, k2.1, by omega⟩
/-- How many cells begin in a row. -/
def ppNum (r : Int) (ds : List S37) : Nat := (ds.filter fun d => decide (d.f0 = r)).length
theorem ppNum_app (r : Int) (ds : List S37) (t : S37) : ppNum r (ds ++ [t]) = ppNum r ds + if t.f0 = r then 1 else 0 := by
  unfold ppNum
  rw [List.filter_append, List.length_append]
  congr 1
  by_cases h : t.f0 = r
  · simp [h]
  · simp [h]
theorem ppNum_none {r : Int} {ds : List S37} (h : ∀ d ∈ ds, d.f0 ≠ r) : ppNum r ds = 0 := by
  unfold ppNum
  rw [List.length_eq_zero_iff, List.filter_eq_nil_iff]
  intro d hd
  simpa using h d hd
theorem ppNum_three (i : Int) : ∀ ds : List S37, (∀ d ∈ ds, d.f0 ≤ i) → (ds.filter fun d => decide (i - 2 ≤ d.f0)).length ≤ ppNum (i - 2) ds + ppNum (i - 1) ds + ppNum i ds
  | [], _ => Nat.zero_le _
  | d :: r, h => by
    have ih := ppNum_three i r (fun x hx => h x (List.mem_cons_of_mem _ hx))
    have hd := h d List.mem_cons_self
    have cons : ∀ q, ppNum q (d :: r) = ppNum q r + if d.f0 = q then 1 else 0 := by
      intro q
      unfold ppNum
      by_cases e : d.f0 = q
      · simp [e]
      · simp [e]
    rw [cons, cons, cons]
    by_cases e : i - 2 ≤ d.f0
    · rw [List.filter_cons_of_pos (by simpa using e), List.length_cons]
      have : d.f0 = i - 2 ∨ d.f0 = i - 1 ∨ d.f0 = i := by omega
      rcases this with e | e | e
      · rw [if_pos e]; omega
      · rw [if_pos e]; omega
      · rw [if_pos e]; omega
    · rw [List.filter_cons_of_neg (by simpa using e)]
      omega
/-- One of the cells that were laid. -/
structure ppOne (hd ft : Int) (rs : List S44) (d : S37) : Prop where
  ex : ∃ (i j : Nat) (hi : i < rs.length) (hj : j < rs[i].f0.length), d.f0 = i ∧ d.f4 = j ∧ d.f3 = rs[i].f0[j].f1 ∧ d.f2 = (ppNew hd ft rs.length i j rs[i].f0[j]).f2
  col : 0 ≤ d.f1 ∧ d.f1 ≤ 84
theorem ppNew_f2 {hd ft : Int} {rs : List S44} (h : ppShp hd ft rs) (i j : Nat) (hi : i < rs.length) (hj : j < rs[i].f0.length) : 1 ≤ (ppNew hd ft rs.length i j rs[i].f0[j]).f2 ∧ (ppNew hd ft rs.length i j rs[i].f0[j]).f2 ≤ 3 ∧ (ppNew hd ft rs.length i j rs[i].f0[j]).f2 ≤ rs[i].f0[j].f2 ∧ (ppNew hd ft rs.length i j rs[i].f0[j]).f2 + i ≤ ppEnd hd ft rs.length i ∧ ((ppNew hd ft rs.length i j rs[i].f0[j]).f2 < rs[i].f0[j].f2 → (ppNew hd ft rs.length i j rs[i].f0[j]).f2 + i = ppEnd hd ft rs.length i) := by
  have he := ppEnd_in h.hf hi
  have hc := h.cx i hi _ (List.getElem_mem hj)
  unfold ppCx at hc
  unfold ppNew
  simp only
  split <;> omega
theorem ppOne.lies {hd ft : Int} {rs : List S44} {d : S37} (h : ppOne hd ft rs d) (hs : ppShp hd ft rs) (b : Int) (hb : d.f1 + d.f3 ≤ b) : ppLies rs.length b d ∧ d.f2 ≤ 3 ∧ d.f3 ≤ 4 := by
  obtain ⟨i, j, hi, hj, e0, e4, e3, e2⟩ := h.ex
  have hf := ppNew_f2 hs i j hi hj
  have he := ppEnd_in hs.hf hi
  have hc := hs.cx i hi _ (List.getElem_mem hj)
  obtain ⟨a, ha⟩ := hs.len
  have hl : rs[i].f0.length ≤ 5 := by have := ha i hi; split at this <;> omega
  have h1 := h.col
  unfold ppCx at hc
  unfold ppLies
  omega
theorem ppFit_84 {ds : List S37} {t : S37} {i : Int} (h0 : t.f0 = i) (h1 : t.f1 = 0) (h3 : 1 ≤ t.f3 ∧ t.f3 ≤ 4) (hd : ∀ d ∈ ds, d.f2 ≤ 3 ∧ 1 ≤ d.f3 ∧ d.f3 ≤ 4) (hr : (ds.filter fun d => decide (i - 2 ≤ d.f0)).length ≤ 12) : (ppFit ds 90 t).f1 ≤ 84 := by
  obtain ⟨e0, e1, e2, e3, e4, e5, _⟩ := ppFit_keeps ds 90 t
  have hp := ppPig ((ds.filter fun d => decide (i - 2 ≤ d.f0)).map fun y => (y.f1 - t.f3 + 1, y.f1 + y.f3)) 7 (fun I hI => by
    obtain ⟨y, hy, rfl⟩ := List.mem_map.1 hI
    have := hd y (List.mem_filter.1 hy).1
    simp only
    omega) (ppFit ds 90 t).f1.toNat (fun q hq => by
    have hb := e5 q (by omega)
    have hnot : ¬ ∀ y ∈ ds, ¬ ppMeet y { t with f1 := t.f1 + q } := fun h => by rw [(ppFreeB_iff _ _).2 h] at hb; cases hb
    simp only [Classical.not_forall, Classical.not_not] at hnot
    obtain ⟨y, hy, hm⟩ := hnot
    have hy2 := hd y hy
    unfold ppMeet at hm
    simp only at hm
    refine ⟨_, List.mem_map.2 ⟨y, List.mem_filter.2 ⟨hy, by simp only [decide_eq_true_eq]; omega⟩, rfl⟩, ?_, ?_⟩
    · simp only; omega
    · simp only; omega)
  rw [List.length_map] at hp
  omega
theorem pp_fitE (ds : List S37) (hl : ds.length ≤ 1000) (h : ∀ y ∈ ds, ppLies 8 94 y) : ∀ (n : Nat) (t : S37), (∀ q : Nat, q ≤ n → ppLies 8 94 { t with f1 := t.f1 + q }) → Evs (fun k => spec_l3Of.fit k ds n t) (fun u => u = ppFit ds n t)
  | 0, t, _ => Evs.cong (f := fun _ => some t) (fun _ => rfl) (Evs.now rfl)
  | n + 1, t, ht => by
    unfold spec_l3Of.fit
    have h0 := ht 0 (by omega)
    simp only [Int.natCast_zero, Int.add_zero] at h0
    refine Evs.bnd (pp_freeE 8 94 t (by omega) (by omega) h0 ds hl h) (fun b hb => ?_)
    unfold ppFit
    refine Evs.ite (fun hb1 => ?_) (fun hb1 => ?_)
    · rw [if_pos ((ppFreeB_iff _ _).2 (hb.1 hb1))]
      exact Evs.now rfl
    · rw [if_neg (fun q => hb1 (hb.2 ((ppFreeB_iff _ _).1 q)))]
      refine pp_fitE ds hl h n _ (fun q hq => ?_)
      have := ht (q + 1) (by omega)
      simp only at this ⊢
      rw [show t.f1 + 1 + (q : Int) = t.f1 + ((q + 1 : Nat) : Int) by omega]
      exact this
theorem pp_fitI (ds : List S37) (h : ∀ y ∈ ds, ppLies 8 94 y) (k : Nat) : ∀ (m n : Nat) (t : S37), (∀ q : Nat, q ≤ m → ppLies 8 94 { t with f1 := t.f1 + q }) → (ppFit ds m t).f1 < t.f1 + m → m ≤ n → impl_GrdOf.fit k ds n t = some (ppFit ds m t)
  | 0, n, t, _, hf, _ => by simp only [ppFit] at hf; omega
  | m + 1, n, t, ht, hf, hn => by
    obtain ⟨n, rfl⟩ : ∃ q, n = q + 1 := ⟨n - 1, by omega⟩
    have h0 := ht 0 (by omega)
    simp only [Int.natCast_zero, Int.add_zero] at h0
    obtain ⟨r, hr, hri⟩ := pp_cells 8 94 t (by omega) (by omega) h0 ds h k
    unfold impl_GrdOf.fit
    rw [hr]
    simp only [Option.bind_some]
    unfold ppFit at hf ⊢
    cases r
    · rw [if_neg (by decide), if_pos ((ppFreeB_iff _ _).2 (hri.1 rfl))]
    · have hb : ¬ ppFreeB ds t = true := fun q => by have := hri.2 ((ppFreeB_iff _ _).1 q); cases this
      rw [if_neg hb] at hf
      have h0' : 0 ≤ t.f1 ∧ t.f1 < 1000000 := ⟨h0.2.2.1, by have := h0.2.2.2.1; simp only at this; omega⟩
      rw [if_pos rfl, if_neg hb, if_pos h0']
      refine pp_fitI ds h k m n _ (fun q hq => ?_) (by simp only at hf ⊢; omega) (by omega)
      have := ht (q + 1) (by omega)
      simp only at this ⊢
      rw [show t.f1 + 1 + (q : Int) = t.f1 + ((q + 1 : Nat) : Int) by omega]
      exact this
theorem pp_endE (cs : List S58) (hd ft : Int) (rs : List S44) (gp : Int) (i : Nat) (h : 0 ≤ hd ∧ 0 ≤ ft ∧ hd + ft ≤ rs.length) (hn : rs.length ≤ 8) : spec_l2End.f cs hd ft rs gp i = some (ppEnd hd ft rs.length i) := by
  unfold spec_l2End.f spec_l2Part.f ppEnd
  have w : wrap64 ((rs.length : Int) - ft) = (rs.length : Int) - ft := pp_wrap_id _ (by omega) (by omega)
  rw [w]
  by_cases h1 : (i : Int) < hd
  · rw [if_pos h1, if_pos h1]
    rfl
  · rw [if_neg h1, if_neg h1]
    by_cases h2 : (rs.length : Int) - ft ≤ i
    · rw [if_pos h2, if_pos (by omega)]
      rfl
    · rw [if_neg h2, if_neg (by omega)]
      rfl
theorem pp_partE (cs : List S58) (hd ft : Int) (rs : List S44) (gp : Int) (i : Nat) (h : 0 ≤ hd ∧ 0 ≤ ft ∧ hd + ft ≤ rs.length) (hn : rs.length ≤ 8) : ∃ p : Nat, p < 3 ∧ impl_TblTable_part.f cs hd ft rs gp i = some (p : Int) ∧ (ppEnds hd ft rs.length).getD p 0 = ppEnd hd ft rs.length i := by
  unfold impl_TblTable_part.f ppEnd ppEnds
  have w : wrap64 ((rs.length : Int) - ft) = (rs.length : Int) - ft := pp_wrap_id _ (by omega) (by omega)
  rw [w]
  by_cases h1 : (i : Int) < hd
  · rw [if_pos h1, if_pos h1]
    exact ⟨0, by omega, rfl, rfl⟩
  · rw [if_neg h1, if_neg h1]
    by_cases h2 : (rs.length : Int) - ft ≤ i
    · rw [if_pos h2, if_pos (by omega)]
      exact ⟨2, by omega, rfl, rfl⟩
    · rw [if_neg h2, if_neg (by omega)]
      exact ⟨1, by omega, rfl, rfl⟩
/-- What holds of the cells that were laid ahead of cell j of row i. -/
structure ppInv (nc : Nat) (hd ft : Int) (rs : List S44) (i j : Nat) (wd : Int) (ds : List S37) : Prop where
  one : ∀ d ∈ ds, ppOne hd ft rs d
  ord : ∀ d ∈ ds, d.f0 ≤ i
  num : ∀ r (hr : r < rs.length), r < i → ppNum r ds ≤ rs[r].f0.length
  numi : ppNum i ds ≤ j
  len : ds.length ≤ 5 * i + j
  pw : ds.Pairwise (fun x y => ¬ ppMeet x y)
  wdb : 1 ≤ wd ∧ wd ≤ 88 ∧ (nc : Int) ≤ wd
  wdd : ∀ d ∈ ds, d.f1 + d.f3 ≤ wd
theorem ppInv.three {nc : Nat} {hd ft : Int} {rs : List S44} {i j : Nat} {wd : Int} {ds : List S37} (h : ppInv nc hd ft rs i j wd ds) (hs : ppShp hd ft rs) (hi : i < rs.length) (hj : j < rs[i].f0.length) : (ds.filter fun d => decide ((i : Int) - 2 ≤ d.f0)).length ≤ 12 := by
  have h3 := ppNum_three i ds h.ord
  obtain ⟨a, ha⟩ := hs.len
  have b0 := h.numi
  have l0 := ha i hi
  have nn : ∀ d ∈ ds, 0 ≤ d.f0 := fun d hd => by obtain ⟨p, q, hp, hq, e, _⟩ := (h.one d hd).ex; omega
  have b1 : ppNum ((i : Int) - 1) ds ≤ if i = a + 1 then 5 else 4 := by
    by_cases e : 1 ≤ i
    · have := h.num (i - 1) (by omega) (by omega)
      have l1 := ha (i - 1) (by omega)
      rw [show ((i - 1 : Nat) : Int) = (i : Int) - 1 by omega] at this
      split at l1 <;> split <;> omega
    · rw [ppNum_none (fun d hd => by have := nn d hd; omega)]
      omega
  have b2 : ppNum ((i : Int) - 2) ds ≤ if i = a + 2 then 5 else 4 := by
    by_cases e : 2 ≤ i
    · have := h.num (i - 2) (by omega) (by omega)
      have l1 := ha (i - 2) (by omega)
      rw [show ((i - 2 : Nat) : Int) = (i : Int) - 2 by omega] at this
      split at l1 <;> split <;> omega
    · rw [ppNum_none (fun d hd => by have := nn d hd; omega)]
      omega
  split at l0 <;> split at b1 <;> split at b2 <;> omega
theorem ppInv.l94 {nc : Nat} {hd ft : Int} {rs : List S44} {i j : Nat} {wd : Int} {ds : List S37} (h : ppInv nc hd ft rs i j wd ds) (hs : ppShp hd ft rs) : ∀ d ∈ ds, ppLies 8 94 d ∧ d.f2 ≤ 3 ∧ 1 ≤ d.f3 ∧ d.f3 ≤ 4 := by
  intro d hd
  have h1 := (h.one d hd).lies hs wd (h.wdd d hd)
  have h2 := hs.n8
  have h3 := h.wdb
  unfold ppLies at h1 ⊢
  omega
/-- Both lay a cell at the same place. -/
theorem ppInv.step {nc : Nat} {hd ft : Int} {rs : List S44} {i j : Nat} {wd : Int} {ds : List S37} (h : ppInv nc hd ft rs i j wd ds) (hs : ppShp hd ft rs) (hi : i < rs.length) (hj : j < rs[i].f0.length) :
    ∃ t : S37, Evs (fun k => spec_l3Of.fit k ds 90 (ppNew hd ft rs.length i j rs[i].f0[j])) (fun u => u = t) ∧ (∀ k, 100 ≤ k → impl_GrdOf.fit k ds k (ppNew hd ft rs.length i j rs[i].f0[j]) = some t) ∧ (t.f1 + t.f3 ≤ 88 ∧ 1 ≤ t.f1 + t.f3) ∧ ds.length ≤ 100 ∧
      ∀ wd', (wd' = if wd < t.f1 + t.f3 then t.f1 + t.f3 else wd) → ppInv nc hd ft rs i (j + 1) wd' (ds ++ [t]) := by
  have hl := h.l94 hs
  have h3 := h.three hs hi hj
  have hf := ppNew_f2 hs i j hi hj
  have he := ppEnd_in hs.hf hi
  have hc := hs.cx i hi _ (List.getElem_mem hj)
  have hlen := h.len
  obtain ⟨a, ha⟩ := hs.len
  have h5 : rs[i].f0.length ≤ 5 := by have := ha i hi; split at this <;> omega
  have h8 := hs.n8
  unfold ppCx at hc
  have q0 : (ppNew hd ft rs.length i j rs[i].f0[j]).f0 = i := rfl
  have q1 : (ppNew hd ft rs.length i j rs[i].f0[j]).f1 = 0 := rfl
  have q3 : (ppNew hd ft rs.length i j rs[i].f0[j]).f3 = rs[i].f0[j].f1 := rfl
  have q4 : (ppNew hd ft rs.length i j rs[i].f0[j]).f4 = j := rfl
  have hle : ∀ q : Nat, q ≤ 90 → ppLies 8 94 { ppNew hd ft rs.length i j rs[i].f0[j] with f1 := (ppNew hd ft rs.length i j rs[i].f0[j]).f1 + q } := by
    intro q hq
    unfold ppLies
    simp only [q0, q1, q3, q4]
    omega
  have h84 := ppFit_84 (ds := ds) (t := ppNew hd ft rs.length i j rs[i].f0[j]) q0 q1 (by omega) (fun d hd => ⟨(hl d hd).2.1, (hl d hd).2.2⟩) h3
  obtain ⟨e0, e1, e2, e3, e4, e5, e6⟩ := ppFit_keeps ds 90 (ppNew hd ft rs.length i j rs[i].f0[j])
  have hfree := (ppFreeB_iff _ _).1 (e6 (by omega))
  refine ⟨ppFit ds 90 (ppNew hd ft rs.length i j rs[i].f0[j]), pp_fitE ds (by omega) (fun y hy => (hl y hy).1) 90 _ hle, fun k hk => pp_fitI ds (fun y hy => (hl y hy).1) k 90 k _ hle (by omega) (by omega), by omega, by omega, fun wd' hw => ?_⟩
  generalize ppFit ds 90 (ppNew hd ft rs.length i j rs[i].f0[j]) = t at e0 e1 e2 e3 e4 h84 hfree hw
  have hone : ppOne hd ft rs t := ⟨⟨i, j, hi, hj, by omega, by omega, by omega, e2⟩, by omega, h84⟩
  have hwd := h.wdb
  refine ⟨fun d hd' => ?_, fun d hd' => ?_, fun r hr hri => ?_, ?_, ?_, ?_, ?_, fun d hd' => ?_⟩
  · rcases List.mem_append.1 hd' with hd' | hd'
    · exact h.one d hd'
    · rw [List.mem_singleton.1 hd']; exact hone
  · rcases List.mem_append.1 hd' with hd' | hd'
    · exact h.ord d hd'
    · rw [List.mem_singleton.1 hd']; omega
  · rw [ppNum_app, if_neg (by omega)]
    exact h.num r hr hri
  · rw [ppNum_app, if_pos (by omega)]
    have := h.numi
    omega
  · rw [List.length_append, List.length_singleton]
    omega
  · rw [List.pairwise_append]
    exact ⟨h.pw, List.pairwise_singleton _ _, fun x hx y hy => by rw [List.mem_singleton.1 hy]; exact hfree x hx⟩
  · rw [hw]
    split <;> omega
  · rw [hw]
    rcases List.mem_append.1 hd' with hd' | hd'
    · have := h.wdd d hd'
      split <;> omega
    · rw [List.mem_singleton.1 hd']
      split <;> omega
theorem ppInv.cells (cs : List S58) (gp : Int) {nc : Nat} {hd ft : Int} {rs : List S44} {i : Nat} (hs : ppShp hd ft rs) (hi : i < rs.length) : ∀ (m j : Nat) (wd : Int) (ds : List S37), j + m = rs[i].f0.length → ppInv nc hd ft rs i j wd ds →
    ∃ (wd' : Int) (ds' : List S37), ppInv nc hd ft rs i rs[i].f0.length wd' ds' ∧ Evs (fun k => spec_l3Of.cs k cs hd ft rs gp rs[i].f0 i m j wd ds) (fun r => r = (wd', ds')) ∧ (∀ k, 100 ≤ k → impl_GrdOf.cs k cs hd ft rs gp rs[i].f0 i m j wd ds = some (wd', ds'))
  | 0, j, wd, ds, hj, h => ⟨wd, ds, by rw [← hj]; exact h, Evs.cong (f := fun _ => some (wd, ds)) (fun _ => rfl) (Evs.now rfl), fun _ _ => rfl⟩
  | m + 1, j, wd, ds, hj, h => by
    obtain ⟨t, hS, hI, hb, hlen, hn⟩ := h.step hs hi (show j < rs[i].f0.length by omega)
    obtain ⟨wd', ds', hx, hS2, hI2⟩ := ppInv.cells cs gp hs hi m (j + 1) (if wd < t.f1 + t.f3 then t.f1 + t.f3 else wd) (ds ++ [t]) (by omega) (hn _ rfl)
    have hwd := h.wdb
    have h8 := hs.n8
    have hc := hs.cx i hi _ (List.getElem_mem (show j < rs[i].f0.length by omega))
    unfold ppCx at hc
    have he := ppEnd_in hs.hf hi
    have hjr : rd_T41 rs[i].f0 (j : Int) = rs[i].f0[j] := pp_getD rs[i].f0 j _ (by omega)
    have w1 : wrap64 ((i : Int) + rs[i].f0[j].f2) = (i : Int) + rs[i].f0[j].f2 := pp_wrap_id _ (by omega) (by omega)
    have w2 : wrap64 (ppEnd hd ft rs.length i - (i : Int)) = ppEnd hd ft rs.length i - (i : Int) := pp_wrap_id _ (by omega) (by omega)
    have w3 : wrap64 (t.f1 + t.f3) = t.f1 + t.f3 := pp_wrap_id _ (by omega) (by omega)
    refine ⟨wd', ds', hx, ?_, fun k hk => ?_⟩
    · unfold spec_l3Of.cs
      rw [hjr, pp_endE cs hd ft rs gp i hs.hf h8.2]
      simp only [Option.bind_some]
      rw [w1, w2]
      have e : (⟨(i : Int), 0, if (i : Int) + rs[i].f0[j].f2 > ppEnd hd ft rs.length i then ppEnd hd ft rs.length i - (i : Int) else rs[i].f0[j].f2, rs[i].f0[j].f1, (j : Int)⟩ : S37) = ppNew hd ft rs.length i j rs[i].f0[j] := rfl
      rw [e]
      refine Evs.bnd hS (fun u hu => ?_)
      rw [hu, w3]
      have e2 : spec_l1Max.f wd (t.f1 + t.f3) = some (if wd < t.f1 + t.f3 then t.f1 + t.f3 else wd) := by
        unfold spec_l1Max.f
        by_cases q : wd < t.f1 + t.f3
        · rw [if_neg (by omega), if_pos q]
        · rw [if_neg q]
          by_cases q2 : wd > t.f1 + t.f3
          · rw [if_pos q2]
          · rw [if_neg q2, show t.f1 + t.f3 = wd by omega]
      rw [e2]
      simp only [Option.bind_some]
      exact Evs.pos (by omega) hS2
    · obtain ⟨p, hp3, hp, hpe⟩ := pp_partE cs hd ft rs gp i hs.hf h8.2
      unfold impl_GrdOf.cs
      rw [hp]
      simp only [Option.bind_some]
      rw [if_pos (by omega), hjr, Int.toNat_natCast, hpe, w2]
      have e : (⟨(i : Int), 0, pgMin rs[i].f0[j].f2 (ppEnd hd ft rs.length i - (i : Int)), rs[i].f0[j].f1, (j : Int)⟩ : S37) = ppNew hd ft rs.length i j rs[i].f0[j] := by
        unfold pgMin ppNew
        congr 1
        by_cases q : ppEnd hd ft rs.length i - (i : Int) < rs[i].f0[j].f2
        · rw [if_pos q, if_pos (by omega)]
        · rw [if_neg q, if_neg (by omega)]
      rw [e, hI k hk]
      simp only [Option.bind_some]
      rw [if_pos (by omega), w3]
      exact hI2 k hk
theorem ppInv.rows (cs : List S58) (gp : Int) {nc : Nat} {hd ft : Int} {rs : List S44} (hs : ppShp hd ft rs) : ∀ (n i : Nat) (wd : Int) (ds : List S37), i + n = rs.length → ppInv nc hd ft rs i 0 wd ds →
    ∃ (wd' : Int) (ds' : List S37), ppInv nc hd ft rs rs.length 0 wd' ds' ∧ Evs (fun k => spec_l3Of.rs k cs hd ft rs gp n i wd ds) (fun r => r = (wd', ds')) ∧ (∀ k, 100 ≤ k → impl_GrdOf.rs k cs hd ft rs gp n i wd ds = some (wd', ds'))
  | 0, i, wd, ds, hn, h => ⟨wd, ds, by rw [show rs.length = i by omega]; exact h, Evs.cong (f := fun _ => some (wd, ds)) (fun _ => rfl) (Evs.now rfl), fun _ _ => rfl⟩
  | n + 1, i, wd, ds, hn, h => by
    have hi : i < rs.length := by omega
    obtain ⟨wd1, ds1, h1, hS1, hI1⟩ := ppInv.cells cs gp hs hi rs[i].f0.length 0 wd ds (by omega) h
    obtain ⟨a, ha⟩ := hs.len
    have h5 : rs[i].f0.length ≤ 5 := by have := ha i hi; split at this <;> omega
    have h2 : ppInv nc hd ft rs (i + 1) 0 wd1 ds1 := by
      refine ⟨h1.one, fun d hd' => by have := h1.ord d hd'; omega, fun r hr hri => ?_, ?_, by have := h1.len; omega, h1.pw, h1.wdb, h1.wdd⟩
      · by_cases e : r = i
        · subst e; exact h1.numi
        · exact h1.num r hr (by omega)
      · rw [ppNum_none (fun d hd' => by have := h1.ord d hd'; omega)]
        omega
    obtain ⟨wd', ds', hx, hS2, hI2⟩ := ppInv.rows cs gp hs n (i + 1) wd1 ds1 (by omega) h2
    have hir : rd_T44 rs (i : Int) = rs[i] := pp_getD rs i _ hi
    refine ⟨wd', ds', hx, ?_, fun k hk => ?_⟩
    · unfold spec_l3Of.rs
      rw [hir]
      refine Evs.bnd hS1 ?_
      rintro _ rfl
      exact hS2
    · unfold impl_GrdOf.rs
      rw [hir, hI1 k hk]
      exact hI2 k hk
/-- The grid of a drawn table: both tell the same, and it is ok. -/
theorem pp_gridE (cs : List S58) (hd ft : Int) (rs : List S44) (gp : Int) (hdr : ppDrs rs) :
    ∃ (a b : Int) (l : List S37), Evs (fun k => spec_GrdOf.f k cs hd ft rs gp) (fun r => r = (a, b, l)) ∧ Evs (fun k => impl_GrdOf.f k cs hd ft rs gp) (fun r => r = (a, b, l)) ∧
      ((ppTblB cs hd ft rs gp = false ∧ a = 0 ∧ b = 0 ∧ l = []) ∨ (ppTblB cs hd ft rs gp = true ∧ ppShp hd ft rs ∧ a = rs.length ∧ ppGood a b l ∧ (cs.length : Int) ≤ b ∧ b ≤ 88 ∧ ∀ d ∈ l, ppOne hd ft rs d)) := by
  have hfit : ∀ x ∈ rs, ∀ c ∈ x.f0, c.f0.size < 4294967281 := by
    obtain ⟨q, hq⟩ := hdr
    intro x hx c hc
    obtain ⟨i, hi, rfl⟩ := List.getElem_of_mem hx
    have := ((hq i hi).2 c hc).1
    omega
  cases hB : ppTblB cs hd ft rs gp
  · refine ⟨0, 0, [], ?_, ?_, .inl ⟨rfl, rfl, rfl, rfl⟩⟩
    · unfold spec_GrdOf.f
      refine Evs.bnd (pp_tblS cs hd ft rs gp) ?_
      rintro _ rfl
      exact Evs.neg (by rw [hB]; decide) (Evs.now rfl)
    · refine Evs.of 0 (fun k _ => ?_)
      unfold impl_GrdOf.f
      rw [pp_tblP cs hd ft rs gp hfit k, hB]
      rfl
  · have hs := ppShp_of hB hdr
    have h8 := (ppTblB_shape hB).2.1
    have h0 : ppInv cs.length hd ft rs 0 0 (if (cs.length : Int) < 1 then 1 else (cs.length : Int)) [] := by
      exact { one := fun d hd => absurd hd List.not_mem_nil, ord := fun d hd => absurd hd List.not_mem_nil, num := fun r hr hri => absurd hri (Nat.not_lt_zero _), numi := Nat.le_refl _, len := Nat.le_refl _, pw := List.Pairwise.nil, wdb := (by split <;> omega), wdd := fun d hd => absurd hd List.not_mem_nil }
    obtain ⟨wd, ds, hx, hS, hI⟩ := ppInv.rows cs gp hs rs.length 0 _ [] (by omega) h0
    have hb := hx.wdb
    have h8r := hs.n8
    refine ⟨rs.length, wd, ds, ?_, ?_, .inr ⟨rfl, hs, rfl, ⟨by omega, by omega, by have := hx.len; omega, fun d hd' => ((hx.one d hd').lies hs wd (hx.wdd d hd')).1, hx.pw⟩, hb.2.2, hb.2.1, hx.one⟩⟩
    · unfold spec_GrdOf.f
      refine Evs.bnd (pp_tblS cs hd ft rs gp) ?_
      rintro _ rfl
      refine Evs.pos hB ?_
      have : Evs (fun k => spec_l3Of.f k cs hd ft rs gp) (fun r => r = ((rs.length : Int), wd, ds)) := by
        unfold spec_l3Of.f
        have e : spec_l1Max.f 1 (cs.length : Int) = some (if (cs.length : Int) < 1 then 1 else (cs.length : Int)) := by
          unfold spec_l1Max.f
          by_cases q : (cs.length : Int) < 1
          · rw [if_pos (by omega), if_pos q]
          · rw [if_neg (by omega), if_neg q]
        rw [e]
        simp only [Option.bind_some]
        refine Evs.bnd hS ?_
        rintro _ rfl
        exact Evs.now rfl
      refine Evs.bnd this ?_
      rintro _ rfl
      exact Evs.now rfl
    · refine Evs.of 100 (fun k hk => ?_)
      unfold impl_GrdOf.f
      rw [pp_tblP cs hd ft rs gp hfit k, hB]
      simp only [Option.bind_some, if_true]
      have e : pgMax (cs.length : Int) 1 = if (cs.length : Int) < 1 then 1 else (cs.length : Int) := rfl
      rw [e, hI k hk]
      rfl

theorem pp_implOk (a b : Int) (l : List S37) : Evs (fun k => impl_GrdOk.f k a b l) (fun r => r = true ↔ ppGood a b l) := by
  unfold impl_GrdOk.f
  have F : ∀ b', b' = true → ¬ ppGood a b l → Evs (fun k => impl_GrdOk.j0 k b' a b l) (fun r => r = true ↔ ppGood a b l) := by
    intro b' hb' hn
    subst hb'
    exact Evs.step (f := fun _ => some false) (fun k => by simp only [impl_GrdOk.j0]; rfl) (Evs.now ⟨fun h => (by cases h), fun h => absurd h hn⟩)
  rw [pp_inI, pp_inI]
  simp only [Option.bind_some]
  refine Evs.ite (fun ha => Evs.ite (fun hb => ?_) (fun hb => F _ rfl (fun g => hb (decide_eq_true g.2.1)))) (fun ha => F _ rfl (fun g => ha (decide_eq_true g.1)))
  have ha := of_decide_eq_true ha
  have hb := of_decide_eq_true hb
  by_cases hl : l.length ≤ 40
  · rw [decide_eq_false (by omega)]
    refine Evs.step (f := fun k => impl_GrdOk.l0 k l (l.length : Int) ((0 : Nat) : Int) a b l) (fun k => by simp only [impl_GrdOk.j0]; rfl) ?_
    have loop : ∀ (d i : Nat), l.length - i = d → i ≤ l.length → ppTo a b l i → Evs (fun k => impl_GrdOk.l0 k l (l.length : Int) (i : Int) a b l) (fun r => r = true ↔ ppGood a b l) := by
      intro d
      induction d with
      | zero =>
        intro i hd hi hI
        obtain rfl : i = l.length := by omega
        exact Evs.step (f := fun _ => some true) (fun k => by simp only [impl_GrdOk.l0]; rw [if_neg (by omega)]) (Evs.now ⟨fun _ => ⟨ha, hb, hl, (ppTo_all a b l).1 hI⟩, fun _ => rfl⟩)
      | succ d ih =>
        intro i hd hi hI
        have hil : i < l.length := by omega
        have hg : ¬ ppTo a b l (i + 1) → ¬ ppGood a b l := fun hn g => absurd (ppTo_mono a b l (by omega) ((ppTo_all a b l).2 g.2.2.2)) hn
        rw [ppTo_succ a b l i hil] at hg
        have O : ∀ b', b' = true → ¬ ppGood a b l → Evs (fun k => impl_GrdOk.j2 k (i : Int) l (l.length : Int) (i : Int) b' a b l l[i].f0 l[i].f1 l[i].f2 l[i].f3 l[i].f4) (fun r => r = true ↔ ppGood a b l) := by
          intro b' hb' hn
          subst hb'
          exact Evs.step (f := fun _ => some false) (fun k => by simp only [impl_GrdOk.j2]; rfl) (Evs.now ⟨fun h => (by cases h), fun h => absurd h hn⟩)
        refine Evs.step (fun k => by simp only [impl_GrdOk.l0]; rw [if_pos (by omega), if_pos (by omega), if_pos (by omega), pp_rdc hil, pp_inI, pp_inI, pp_inI, pp_inI]) ?_
        simp only [Option.bind_some]
        rw [pp_wrap_id (a - 1) (by omega) (by omega), pp_wrap_id (b - 1) (by omega) (by omega)]
        refine Evs.ite (fun h0 => ?_) (fun h0 => O _ rfl (hg (fun q => h0 (decide_eq_true ⟨q.2.1.1, q.2.1.2.1⟩))))
        have h0 := of_decide_eq_true h0
        rw [pp_wrap_id (a - l[i].f0) (by omega) (by omega)]
        refine Evs.ite (fun h2 => ?_) (fun h2 => O _ rfl (hg (fun q => h2 (decide_eq_true ⟨q.2.1.2.2.2.2.1, q.2.1.2.2.2.2.2.1⟩))))
        have h2 := of_decide_eq_true h2
        refine Evs.ite (fun h1 => ?_) (fun h1 => O _ rfl (hg (fun q => h1 (decide_eq_true ⟨q.2.1.2.2.1, q.2.1.2.2.2.1⟩))))
        have h1 := of_decide_eq_true h1
        rw [pp_wrap_id (b - l[i].f1) (by omega) (by omega)]
        by_cases h3 : 1 ≤ l[i].f3 ∧ l[i].f3 ≤ b - l[i].f1
        · rw [decide_eq_true h3]
          refine Evs.step (fun k => by simp only [impl_GrdOk.j2]; rw [pp_inI]) ?_
          simp only [Option.bind_some]
          refine Evs.neg (by decide) ?_
          refine Evs.ite (fun h4 => ?_) (fun h4 => Evs.now ⟨fun h => (by cases h), fun g => absurd g (hg (fun q => h4 (decide_eq_true ⟨q.2.1.2.2.2.2.2.2.2.2.1, q.2.1.2.2.2.2.2.2.2.2.2⟩)))⟩)
          have h4 := of_decide_eq_true h4
          have hx : ppLies a b l[i] := ⟨h0.1, h0.2, h1.1, h1.2, h2.1, h2.2, h3.1, h3.2, h4.1, h4.2⟩
          refine Evs.pos (by omega) (Evs.pos (by omega) ?_)
          rw [Int.toNat_natCast]
          obtain ⟨r, hr, hm⟩ := pp_cells a b l[i] ha hb hx (l.take i) hI.1 0
          have hr' : ∀ k, impl_ccells.f k (l.take i) l[i].f0 l[i].f1 l[i].f2 l[i].f3 l[i].f4 = some r := fun _ => hr
          refine Evs.cong (fun k => by rw [hr']) ?_
          simp only [Option.bind_some]
          cases r with
          | true => exact Evs.pos rfl (Evs.now ⟨fun h => (by cases h), fun g => absurd g (hg (fun q => by have := hm.2 q.2.2; cases this))⟩)
          | false =>
            refine Evs.neg (by decide) ?_
            rw [pp_wrap_id _ (by omega) (by omega)]
            exact ih (i + 1) (by omega) (by omega) ((ppTo_succ a b l i hil).2 ⟨hI, hx, hm.1 rfl⟩)
        · rw [decide_eq_false h3]
          exact O _ rfl (hg (fun q => h3 ⟨q.2.1.2.2.2.2.2.2.1, q.2.1.2.2.2.2.2.2.2.1⟩))
    exact loop _ 0 rfl (by omega) ⟨by simp, by simp⟩
  · exact F _ (decide_eq_true (by omega)) (fun g => hl g.2.2.1)

/-- Whether a number is one of so many from another one on. -/
def ppAmong (n f m : Int) : Bool := decide (f ≤ n) && (decide (0 < m) && decide (n - f < m))
theorem pp_implAmong (n f m : Int) (hn : (Lit.int .i64 n).wf = true) (hf : (Lit.int .i64 f).wf = true) (hm : (Lit.int .i64 m).wf = true) : impl_among.f n f m = some (ppAmong n f m) := by
  have := pp_wf n hn
  have := pp_wf f hf
  have := pp_wf m hm
  unfold impl_among.f ppAmong
  by_cases h0 : n ≥ f
  · by_cases h1 : m > 0
    · rw [if_pos h0, if_pos h1]
      simp only [IntKind.wrap_u64, Option.some.injEq]
      rw [Bool.eq_iff_iff]
      simp
      omega
    · rw [if_pos h0, if_neg h1]
      simp
      omega
  · rw [if_neg h0]
    simp
    omega

/-- Whether a cell has a slot. -/
def ppHas (x : S37) (i j : Int) : Prop := (x.f0 ≤ i ∧ i < x.f0 + x.f2) ∧ (x.f1 ≤ j ∧ j < x.f1 + x.f3)
instance (x : S37) (i j : Int) : Decidable (ppHas x i j) := inferInstanceAs (Decidable (_ ∧ _))
theorem pp_wfiC (a b : Int) (x : S37) (ha : 1 ≤ a ∧ a ≤ 8) (hb : 1 ≤ b ∧ b ≤ 94) (h : ppLies a b x) (i j : Int) (hi : -1 ≤ i ∧ i ≤ 100) (hj : -1 ≤ j ∧ j ≤ 100) : ppHasB x i j = true ↔ ppHas x i j := by
  obtain ⟨h0, h1, h2, h3, h4, h5, h6, h7, _, _⟩ := h
  unfold ppHasB impl_GrdCell_has.f ppHas
  rw [pp_implAmong i x.f0 x.f2 (pp_wfi _ (by omega) (by omega)) (pp_wfi _ (by omega) (by omega)) (pp_wfi _ (by omega) (by omega)), pp_implAmong j x.f1 x.f3 (pp_wfi _ (by omega) (by omega)) (pp_wfi _ (by omega) (by omega)) (pp_wfi _ (by omega) (by omega))]
  simp only [Option.bind_some]
  unfold ppAmong
  by_cases q : (x.f0 ≤ i ∧ i < x.f0 + x.f2)
  · rw [if_pos (by simp; omega)]
    simp
    omega
  · rw [if_neg (by simp; omega)]
    simp
    intro q1 q2
    omega
theorem pp_abc : Txt.ppTxtOk (⟨#[97, 98, 32, 99]⟩ : ByteArray) = true := by kernel_rfl
theorem pp_pwOk : laws_pwOk.f = some true := by
  unfold laws_pwOk.f impl_TxtOk.f
  rw [if_pos (by decide), pp_abc]
  rfl

theorem pp_pwGridE (k : Nat) (a b : Int) (l : List S37) : laws_pwGrid.f k a b l a b l = some true := by
  unfold laws_pwGrid.f
  rw [if_pos ⟨rfl, rfl, rfl⟩]
theorem pp_atI {a b : Int} {l : List S37} (hg : ppGood a b l) (i : Nat) (hi : i < l.length) (r j : Int) (hr : 0 ≤ r ∧ r ≤ 100) (hj : 0 ≤ j ∧ j ≤ 100) (k : Nat) (c d : Int) : ∃ t, impl_GrdAt.f k c d l r j = some t ∧ (t = (i : Int) ↔ ppHas l[i] r j) := by
  obtain ⟨ha, hb, hl, hf, hpw⟩ := hg
  have has : ∀ (q : Nat) (hq : q < l.length), ppHasB l[q] r j = true ↔ ppHas l[q] r j := fun q hq => pp_wfiC a b _ ha hb (hf _ (List.getElem_mem hq)) r j (by omega) (by omega)
  refine ⟨_, rfl, fun h => ?_, fun h => ?_⟩
  · unfold ppIdx at h
    cases e : l.findIdx? (fun x => ppHasB x r j) with
    | none => rw [e] at h; simp at h
    | some q =>
      rw [e] at h
      have e2 : q = i := by simp at h; omega
      subst e2
      rw [List.findIdx?_eq_some_iff_getElem] at e
      exact (has q hi).1 e.2.1
  · refine ppIdx_hit _ l i hi ((has i hi).2 h) (fun q hq hqi => ?_)
    rw [← Bool.not_eq_true]
    intro hh
    have h2 := (has q hq).1 hh
    refine List.pairwise_iff_getElem.1 hpw q i hq hi hqi ?_
    unfold ppHas at h h2
    unfold ppMeet
    omega
theorem pp_inHas {a b : Int} {c : S37} (ha : a ≤ 8) (hb : b ≤ 94) (h : ppLies a b c) (r j : Int) : laws_FnGrdSlots.In c r j ↔ ppHas c r j := by
  unfold ppLies at h
  unfold laws_FnGrdSlots.In ppHas
  rw [pp_wrap_id _ (by omega) (by omega), pp_wrap_id _ (by omega) (by omega)]
  constructor
  · rintro ⟨h1, h2, h3, h4⟩
    exact ⟨⟨h1, h2⟩, h3, h4⟩
  · rintro ⟨⟨h1, h2⟩, h3, h4⟩
    exact ⟨h1, h2, h3, h4⟩
theorem pp_law2 {a b : Int} {l : List S37} (hg : ppGood a b l) (i : Nat) (hi : i < l.length) (r : Nat) (hr : r ≤ 100) (k : Nat) : ∀ (n j : Nat), j + n ≤ 100 → laws_FnGrdSlots.l2 k a b l i l[i] r n j = some true
  | 0, j, _ => rfl
  | n + 1, j, h => by
    obtain ⟨t, h1, h2⟩ := pp_atI hg i hi r j (by omega) (by omega) k a b
    unfold laws_FnGrdSlots.l2
    rw [h1]
    simp only [Option.bind_some]
    rw [if_pos (by
      apply decide_eq_decide.2
      rw [pp_inHas hg.1.2 hg.2.1.2 (hg.2.2.2.1 _ (List.getElem_mem hi)), h2])]
    exact pp_law2 hg i hi r hr k n (j + 1) (by omega)
theorem pp_law1 {a b : Int} {l : List S37} (hg : ppGood a b l) (i : Nat) (hi : i < l.length) (k : Nat) : ∀ (n r : Nat), r + n ≤ 100 → laws_FnGrdSlots.l1 k a b l i l[i] n r = some true
  | 0, r, _ => rfl
  | n + 1, r, h => by
    have hb := hg.2.1
    unfold laws_FnGrdSlots.l1
    rw [pp_law2 hg i hi r (by omega) k b.toNat 0 (by omega)]
    exact pp_law1 hg i hi k n (r + 1) (by omega)
/-- The part of a row. -/
def ppTP (hd ft n r : Int) : Int := if 0 ≤ r ∧ r ≤ n - 1 then (if r < hd then 0 else if n - ft ≤ r then 2 else 1) else -1
theorem pp_tblPartE {cs : List S58} {hd ft : Int} {rs : List S44} {gp : Int} (hB : ppTblB cs hd ft rs gp = true) (hs : ppShp hd ft rs) (hf : ∀ x ∈ rs, ∀ c ∈ x.f0, c.f0.size < 4294967281) (k : Nat) (r : Int) : impl_TblPart.f k cs hd ft rs gp r = some (ppTP hd ft rs.length r) := by
  have h8 := hs.n8
  have hhf := hs.hf
  unfold impl_TblPart.f impl_TblTable_part.f ppTP
  rw [pp_tblP cs hd ft rs gp hf k, hB, pp_inP, pp_wrap_id ((rs.length : Int) - 1) (by omega) (by omega), pp_wrap_id ((rs.length : Int) - ft) (by omega) (by omega)]
  simp only [Option.bind_some, if_true]
  by_cases h : 0 ≤ r ∧ r ≤ (rs.length : Int) - 1
  · rw [if_pos h, if_pos (decide_eq_true h)]
    by_cases h1 : r < hd
    · rw [if_pos h1, if_pos h1]
      rfl
    · rw [if_neg h1, if_neg h1]
      by_cases h2 : (rs.length : Int) - ft ≤ r
      · rw [if_pos h2, if_pos (by omega)]
        rfl
      · rw [if_neg h2, if_neg (by omega)]
        rfl
  · rw [if_neg h, if_neg (fun q => h (of_decide_eq_true q))]
theorem pp_partsE {hd ft n i f2 x2 : Int} (h : 0 ≤ hd ∧ 0 ≤ ft ∧ hd + ft ≤ n) (hi : 0 ≤ i ∧ i < n) (h1 : 1 ≤ f2) (h2 : f2 + i ≤ ppEnd hd ft n i) (h3 : f2 < x2 → f2 + i = ppEnd hd ft n i) : ppTP hd ft n (i + f2 - 1) = ppTP hd ft n i ∧ (f2 < x2 → ppTP hd ft n (i + f2) ≠ ppTP hd ft n i) := by
  unfold ppEnd at h2 h3
  unfold ppTP
  constructor
  · split at h2
    · rw [if_pos (by omega), if_pos (by omega), if_pos (by omega), if_pos (by omega)]
    · split at h2
      · rw [if_pos (by omega), if_neg (by omega), if_pos (by omega), if_pos (by omega), if_neg (by omega), if_pos (by omega)]
      · rw [if_pos (by omega), if_neg (by omega), if_neg (by omega), if_pos (by omega), if_neg (by omega), if_neg (by omega)]
  · intro hx
    have h3 := h3 hx
    rw [if_pos (show 0 ≤ i ∧ i ≤ n - 1 by omega)]
    by_cases c1 : i < hd
    · rw [if_pos c1] at h3 ⊢
      by_cases c2 : 0 ≤ i + f2 ∧ i + f2 ≤ n - 1
      · rw [if_pos c2, if_neg (show ¬ i + f2 < hd by omega)]
        split <;> decide
      · rw [if_neg c2]
        decide
    · rw [if_neg c1] at h3 ⊢
      by_cases c3 : n - ft ≤ i
      · rw [if_pos c3] at h3 ⊢
        rw [if_neg (show ¬ (0 ≤ i + f2 ∧ i + f2 ≤ n - 1) by omega)]
        decide
      · rw [if_neg c3] at h3 ⊢
        by_cases c2 : 0 ≤ i + f2 ∧ i + f2 ≤ n - 1
        · rw [if_pos c2, if_neg (show ¬ i + f2 < hd by omega), if_pos (show n - ft ≤ i + f2 by omega)]
          decide
        · rw [if_neg c2]
          decide
theorem pp_law0 {cs : List S58} {hd ft : Int} {rs : List S44} {gp : Int} (hB : ppTblB cs hd ft rs gp = true) (hs : ppShp hd ft rs) (hf : ∀ x ∈ rs, ∀ c ∈ x.f0, c.f0.size < 4294967281) {a b : Int} {l : List S37} (hg : ppGood a b l) (h1 : ∀ d ∈ l, ppOne hd ft rs d) (k : Nat) : ∀ (n i : Nat), i + n = l.length → laws_FnGrdSlots.l0 k cs hd ft rs gp a b l n i = some true
  | 0, i, _ => rfl
  | n + 1, i, h => by
    have hi : i < l.length := by omega
    have hir : rd_T37 l (i : Int) = l[i] := pp_getD l i _ hi
    have ho := h1 _ (List.getElem_mem hi)
    have hlie := hg.2.2.2.1 _ (List.getElem_mem hi)
    have ha := hg.1
    obtain ⟨p, q, hp, hq, e0, e4, e3, e2⟩ := ho.ex
    have hn := ppNew_f2 hs p q hp hq
    rw [← e2] at hn
    have hrow : rd_T44 rs l[i].f0 = rs[p] := by rw [e0]; exact pp_getD rs p _ hp
    have hcell : laws_FnGrdSlots.cell rs l[i] = rs[p].f0[q] := by
      unfold laws_FnGrdSlots.cell
      rw [hrow, e4]
      exact pp_getD rs[p].f0 q _ hq
    have hlies : laws_FnGrdSlots.Lies rs l[i] := by
      unfold laws_FnGrdSlots.Lies
      rw [hcell, hrow]
      exact ⟨⟨by omega, by omega, by omega, by omega⟩, e3, hn.2.2.1⟩
    have hpe := pp_partsE (x2 := rs[p].f0[q].f2) hs.hf (show 0 ≤ l[i].f0 ∧ l[i].f0 < (rs.length : Int) by omega) hn.1 (by rw [e0]; exact hn.2.2.2.1) (by rw [e0]; exact hn.2.2.2.2)
    have hn8 := hs.n8
    unfold ppLies at hlie
    have w1 : wrap64 (l[i].f0 + l[i].f2) = l[i].f0 + l[i].f2 := pp_wrap_id _ (by omega) (by omega)
    have w2 : wrap64 (l[i].f0 + l[i].f2 - 1) = l[i].f0 + l[i].f2 - 1 := pp_wrap_id _ (by omega) (by omega)
    unfold laws_FnGrdSlots.l0
    rw [hir, if_pos hlies, w1, w2, pp_tblPartE hB hs hf, pp_tblPartE hB hs hf]
    simp only [Option.bind_some]
    rw [if_pos hpe.1]
    have hcut : laws_FnGrdSlots.cut k cs hd ft rs gp l[i] (ppTP hd ft rs.length (l[i].f0 + l[i].f2 - 1)) = some true := by
      unfold laws_FnGrdSlots.cut
      rw [hcell, w1, pp_tblPartE hB hs hf, hpe.1]
      split
      · rename_i hlt
        simp only [Option.bind_some]
        rw [decide_eq_true (hpe.2 hlt)]
      · rfl
    rw [hcut]
    simp only [Option.bind_some, if_true]
    rw [pp_law1 hg i hi k a.toNat 0 (by omega)]
    exact pp_law0 hB hs hf hg h1 k n (i + 1) (by omega)
theorem pp_drawOf (l : List Int) (h : ∀ x ∈ l, (Lit.int .u8 x).wf = true) : Evs (fun k => spec_DrawGrdOf.f k l) (fun r => ppDrs r.2.2.2.1) := by
  obtain ⟨b, e, hb⟩ := pp_open l h
  unfold spec_DrawGrdOf.f spec_l20AnyTable.f
  rw [e]
  simp only [Option.bind_some]
  have : Evs (fun k => (spec_l20Any.f k b 0 12).bind fun t => some (t.1.cols, t.1.head, t.1.foot, t.1.rows, t.1.gap, t.2)) (fun r => ppDrs r.2.2.2.1) := by
    refine Evs.bnd (ppd_any b hb 0 12 (by omega) (by omega) (by omega)) (fun t ht => ?_)
    exact Evs.now ht
  refine Evs.bnd this (fun t ht => ?_)
  exact Evs.now ht
theorem FnGrdSlots : ∀ (l0 : List (Int)), (l0.length ≤ 9223372036854775807 ∧ ∀ (x : Int), x ∈ l0 → (Lit.int .u8 x).wf = true) → ∃ k, laws_FnGrdSlots.f k l0 = some true := by
  intro l0 h
  refine Evs.ends ?_
  unfold laws_FnGrdSlots.f
  refine Evs.ite (fun _ => Evs.now rfl) (fun _ => ?_)
  refine Evs.bnd (pp_drawOf l0 h.2) ?_
  rintro ⟨cs, hd, ft, rs, gp⟩ hdr
  simp only at hdr ⊢
  have hfit : ∀ x ∈ rs, ∀ c ∈ x.f0, c.f0.size < 4294967281 := by
    obtain ⟨q, hq⟩ := hdr
    intro x hx c hc
    obtain ⟨i, hi, rfl⟩ := List.getElem_of_mem hx
    have := ((hq i hi).2 c hc).1
    omega
  obtain ⟨a, b, l, hS, hI, hor⟩ := pp_gridE cs hd ft rs gp hdr
  refine Evs.bnd hI ?_
  rintro _ rfl
  refine Evs.bnd hS ?_
  rintro _ rfl
  simp only
  rw [show (fun k => (laws_pwGrid.f k a b l a b l).bind fun e => if e = true then (spec_TblOk.f k cs hd ft rs gp).bind fun o => (impl_GrdOk.f k a b l).bind fun q => if o = true then (if q = true ∧ (cs.length : Int) ≤ b ∧ a < 1000000 ∧ b < 1000000 then laws_FnGrdSlots.l0 k cs hd ft rs gp a b l l.length 0 else none) else (if q = false then laws_pwOk.f else none) else none) = fun k => (spec_TblOk.f k cs hd ft rs gp).bind fun o => (impl_GrdOk.f k a b l).bind fun q => if o = true then (if q = true ∧ (cs.length : Int) ≤ b ∧ a < 1000000 ∧ b < 1000000 then laws_FnGrdSlots.l0 k cs hd ft rs gp a b l l.length 0 else none) else (if q = false then laws_pwOk.f else none) from funext fun k => by rw [pp_pwGridE]; simp only [Option.bind_some, if_true]]
  refine Evs.bnd (pp_tblS cs hd ft rs gp) ?_
  rintro _ rfl
  refine Evs.bnd (pp_implOk a b l) (fun q hq => ?_)
  rcases hor with ⟨hB, rfl, rfl, rfl⟩ | ⟨hB, hs, rfl, hg, hcs, hb8, h1⟩
  · have hqf : q = false := by
      rw [← Bool.not_eq_true]
      intro hh
      have := (hq.1 hh).1
      omega
    refine Evs.neg (by rw [hB]; decide) (Evs.pos hqf ?_)
    rw [pp_pwOk]
    exact Evs.now rfl
  · have h8 := hs.n8
    refine Evs.pos hB (Evs.pos ⟨hq.2 hg, hcs, by omega, by omega⟩ ?_)
    exact Evs.of 0 (fun k _ => pp_law0 hB hs hfit hg h1 k l.length 0 (by omega))

end Go.Proofs.YtkbcmbjoelkgoacDoor.Pure
