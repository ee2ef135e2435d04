-- Told by a program of this session (uprint.py, ulay.py).
import Derived.Test.YtkbcmbjoelkgoaaDoorQ0
import Derived.Test.YtkbcmbjoelkgoaaDoorQspecl20Open
import Derived.Test.YtkbcmbjoelkgoaaDoorQspecTblOk
import Derived.Test.YtkbcmbjoelkgoaaDoorQspecDrawGrdRow
namespace Go.Proofs.YtkbcmbjoelkgoaaDoor.Q
open Go.RowKit Go.Proofs.YtkbcmbjoelkgoaaDoorW.PrintWords Go.Proofs.YtkbcmbjoelkgoaaDoorW.PrintLast Go.Proofs.YtkbcmbjoelkgoaaDoorW.PrintMore
attribute [local go_sem] max2_int min2_int max_two min_two max_three min_three max_four min_four
set_option linter.unusedVariables false
set_option linter.unusedSimpArgs false

/-! ### spec_GrdOk: function 11 (by hand) -/

mutual
def spec_GrdOk.j0 : Nat → Bool → Int → Int → List (S34) → Option (Bool)
  | 0, _, _, _, _ => none
  | k + 1, x20, x315000, x315001, x315002 => if x20 = true then (some false) else (spec_GrdOk.l0 k 0 x315000 x315001 x315002)
def spec_GrdOk.l0 : Nat → Int → Int → Int → List (S34) → Option (Bool)
  | 0, _, _, _, _ => none
  | k + 1, x3, x315000, x315001, x315002 => if x3 < (x315002.length : Int) then (if 0 ≤ x3 then ((spec_l1In.f ((rd_T34 x315002 x3).f0) 0 (wrap64 (x315000 - 1))).bind fun t319 => (if t319 = true then ((spec_l1In.f ((rd_T34 x315002 x3).f1) 0 (wrap64 (x315001 - 1))).bind fun t320 => (if t320 = true then ((spec_l1In.f ((rd_T34 x315002 x3).f2) 1 (wrap64 (x315000 - ((rd_T34 x315002 x3).f0)))).bind fun t321 => (if t321 = true then ((spec_l1In.f ((rd_T34 x315002 x3).f3) 1 (wrap64 (x315001 - ((rd_T34 x315002 x3).f1)))).bind fun t322 => (if t322 = true then ((spec_l1In.f ((rd_T34 x315002 x3).f4) 0 4).bind fun t323 => (if t323 = true then (if x3 ≤ (x315002.length : Int) then ((spec_l3Free.f k (x315002.take (x3 : Int).toNat) ((rd_T34 x315002 x3).f0) ((rd_T34 x315002 x3).f1) ((rd_T34 x315002 x3).f2) ((rd_T34 x315002 x3).f3) ((rd_T34 x315002 x3).f4)).bind fun t328 => (if t328 = true then (spec_GrdOk.l0 k (wrap64 (x3 + 1)) x315000 x315001 x315002) else (some false))) else (none)) else (some false))) else (some false))) else (some false))) else (some false))) else (some false))) else (none)) else (some true)
end
def spec_GrdOk.f (k : Nat) (a0_0 : Int) (a0_1 : Int) (l0_2 : List (S34)) : Option (Bool) := (spec_l1In.f a0_0 1 8).bind fun t315 => (if t315 = true then ((spec_l1In.f a0_1 1 94).bind fun t316 => (if t316 = true then (spec_GrdOk.j0 k (decide ((l0_2.length : Int) > 40)) a0_0 a0_1 l0_2) else (spec_GrdOk.j0 k true a0_0 a0_1 l0_2))) else (spec_GrdOk.j0 k true a0_0 a0_1 l0_2))
theorem spec_GrdOk.mono_l : ∀ k, (∀ y0 y1 y2 y3, LeO (spec_GrdOk.j0 k y0 y1 y2 y3) (spec_GrdOk.j0 (k + 1) y0 y1 y2 y3)) ∧ (∀ y0 y1 y2 y3, LeO (spec_GrdOk.l0 k y0 y1 y2 y3) (spec_GrdOk.l0 (k + 1) y0 y1 y2 y3))
  | 0 => ⟨fun _ _ _ _ r h => by simp [spec_GrdOk.j0] at h, fun _ _ _ _ r h => by simp [spec_GrdOk.l0] at h⟩
  | k + 1 => by
    obtain ⟨ih0, ih1⟩ := spec_GrdOk.mono_l k
    refine ⟨?_, ?_⟩
    · intro y0 y1 y2 y3
      unfold spec_GrdOk.j0
      repeat' first
      | (with_reducible exact ih0 _ _ _ _)
      | (with_reducible exact ih1 _ _ _ _)
      | (with_reducible exact spec_l3Free.mono _ _ _ _ _ _ _)
      | (with_reducible exact LeO.refl _)
      | (with_reducible exact LeO.none _)
      | (with_reducible refine LeO.ite ?_ ?_)
      | (with_reducible refine LeO.bind ?_ (fun _ => ?_))
      | exact ih0 _ _ _ _
      | exact ih1 _ _ _ _
      | exact spec_l3Free.mono _ _ _ _ _ _ _
      | exact LeO.none _
      | refine LeO.ite ?_ ?_
      | refine LeO.bind ?_ (fun _ => ?_)
    · intro y0 y1 y2 y3
      unfold spec_GrdOk.l0
      repeat' first
      | (with_reducible exact ih0 _ _ _ _)
      | (with_reducible exact ih1 _ _ _ _)
      | (with_reducible exact spec_l3Free.mono _ _ _ _ _ _ _)
      | (with_reducible exact LeO.refl _)
      | (with_reducible exact LeO.none _)
      | (with_reducible refine LeO.ite ?_ ?_)
      | (with_reducible refine LeO.bind ?_ (fun _ => ?_))
      | exact ih0 _ _ _ _
      | exact ih1 _ _ _ _
      | exact spec_l3Free.mono _ _ _ _ _ _ _
      | exact LeO.none _
      | refine LeO.ite ?_ ?_
      | refine LeO.bind ?_ (fun _ => ?_)
theorem spec_GrdOk.mono : ∀ a0 a1 a2 k, LeO (spec_GrdOk.f k a0 a1 a2) (spec_GrdOk.f (k + 1) a0 a1 a2) := by
  intro a0 a1 a2 k
  obtain ⟨ih0, ih1⟩ := spec_GrdOk.mono_l k
  unfold spec_GrdOk.f
  repeat' first
      | (with_reducible exact ih0 _ _ _ _)
      | (with_reducible exact ih1 _ _ _ _)
      | (with_reducible exact spec_l3Free.mono _ _ _ _ _ _ _)
      | (with_reducible exact LeO.refl _)
      | (with_reducible exact LeO.none _)
      | (with_reducible refine LeO.ite ?_ ?_)
      | (with_reducible refine LeO.bind ?_ (fun _ => ?_))
      | exact ih0 _ _ _ _
      | exact ih1 _ _ _ _
      | exact spec_l3Free.mono _ _ _ _ _ _ _
      | exact LeO.none _
      | refine LeO.ite ?_ ?_
      | refine LeO.bind ?_ (fun _ => ?_)
def spec_GrdOk.T7 : Bool × List (List Nat × List Nat) := (true, [([], []), ([0], [0]), ([], []), ([2], [2]), ([3], [3]), ([1, 4], [1, 4]), ([5], [5]), ([6, 5], [6]), ([7], [7]), ([8, 7], [7, 8]), ([7], [7]), ([10, 7], [7, 10]), ([11, 7], [7, 11]), ([9, 12, 7, 7], [7, 9, 12]), ([13, 7], [7, 13]), ([7, 14], [7, 14]), ([15, 13], [15]), ([16], [16]), ([17, 16], [16, 17]), ([16], [16]), ([19, 16], [16, 19]), ([16], [16]), ([21, 16], [16, 21]), ([20, 22, 16], [16, 20, 22]), ([18, 23, 16, 16], [16, 18, 23]), ([24, 16], [16, 24]), ([16, 25], [16, 25]), ([26, 24], [26]), ([27], [27]), ([28, 27], [27, 28]), ([27], [27]), ([30, 27], [27, 30]), ([27], [27]), ([32, 27], [27, 32]), ([31, 33, 27], [27, 31, 33]), ([29, 34, 27, 27], [27, 29, 34]), ([35, 27], [27, 35]), ([27, 36], [27, 36]), ([37, 35], [37]), ([38], [38]), ([39, 38], [38, 39]), ([40, 38, 38], [38, 40]), ([41, 38], [38, 41]), ([38, 42], [38, 42]), ([43, 41], [43]), ([44], [44]), ([45, 44], [44, 45]), ([44], [44]), ([46, 47, 44], [44, 46, 47]), ([44], [44]), ([48, 49, 44, 44], [44, 48, 49]), ([50, 44], [44, 50]), ([44, 51], [44, 51])])
def spec_GrdOk.B7 : List Nat := [0, 1, 0, 4, 12, 31, 63, 127, 255, 511, 255, 1279, 3327, 8191, 16383, 32767, 65535, 131071, 262143, 131071, 655359, 131071, 2228223, 7995391, 16777215, 33554431, 67108863, 134217727, 268435455, 536870911, 268435455, 1342177279, 268435455, 4563402751, 16374562815, 34359738367, 68719476735, 137438953471, 274877906943, 549755813887, 1099511627775, 2199023255551, 4398046511103, 8796093022207, 17592186044415, 35184372088831, 70368744177663, 35184372088831, 281474976710655, 35184372088831, 1125899906842623, 2251799813685247, 4503599627370495]
theorem spec_GrdOk.tab7 : rtab .any (opsOf Tryd.f11 7) = spec_GrdOk.T7 := by kernel_rfl
theorem spec_GrdOk.bits7 : waitsOk spec_GrdOk.T7.2 spec_GrdOk.B7 = true := by kernel_rfl
/-- Which test of a cell falls first, if one does. -/
theorem spec_GrdOk.step {k : Nat} {i a b : Int} {l : List S34} {r : Bool} (hi : i < (l.length : Int)) (h : spec_GrdOk.l0 (k + 1) i a b l = some r) :
    0 ≤ i ∧ ∃ x, x = rd_T34 l i ∧
    ((r = false ∧ (Aside0 (spec_l1In.f x.f0 0 (wrap64 (a - 1)) = some false) ∨ (Aside0 (spec_l1In.f x.f0 0 (wrap64 (a - 1)) = some true) ∧ Aside0 (spec_l1In.f x.f1 0 (wrap64 (b - 1)) = some false)) ∨
      (Aside0 (spec_l1In.f x.f0 0 (wrap64 (a - 1)) = some true) ∧ Aside0 (spec_l1In.f x.f1 0 (wrap64 (b - 1)) = some true) ∧ Aside0 (spec_l1In.f x.f2 1 (wrap64 (a - x.f0)) = some false)) ∨
      (Aside0 (spec_l1In.f x.f0 0 (wrap64 (a - 1)) = some true) ∧ Aside0 (spec_l1In.f x.f1 0 (wrap64 (b - 1)) = some true) ∧ Aside0 (spec_l1In.f x.f2 1 (wrap64 (a - x.f0)) = some true) ∧ Aside0 (spec_l1In.f x.f3 1 (wrap64 (b - x.f1)) = some false)) ∨
      (Aside0 (spec_l1In.f x.f0 0 (wrap64 (a - 1)) = some true) ∧ Aside0 (spec_l1In.f x.f1 0 (wrap64 (b - 1)) = some true) ∧ Aside0 (spec_l1In.f x.f2 1 (wrap64 (a - x.f0)) = some true) ∧ Aside0 (spec_l1In.f x.f3 1 (wrap64 (b - x.f1)) = some true) ∧ Aside0 (spec_l1In.f x.f4 0 4 = some false)))) ∨
    (Aside0 (spec_l1In.f x.f0 0 (wrap64 (a - 1)) = some true) ∧ Aside0 (spec_l1In.f x.f1 0 (wrap64 (b - 1)) = some true) ∧ Aside0 (spec_l1In.f x.f2 1 (wrap64 (a - x.f0)) = some true) ∧ Aside0 (spec_l1In.f x.f3 1 (wrap64 (b - x.f1)) = some true) ∧ Aside0 (spec_l1In.f x.f4 0 4 = some true) ∧
      ∃ t, Aside0 (spec_l3Free.f k (l.take i.toNat) x.f0 x.f1 x.f2 x.f3 x.f4 = some t) ∧ ((t = false ∧ r = false) ∨ (t = true ∧ Aside0 (spec_GrdOk.l0 k (wrap64 (i + 1)) a b l = some r))))) := by
  simp only [spec_GrdOk.l0] at h
  rw [if_pos hi] at h
  split at h
  · rename_i h0
    refine ⟨h0, _, rfl, ?_⟩
    rw [Option.bind_eq_some_iff] at h
    obtain ⟨t1, h1, h⟩ := h
    cases t1
    · exact .inl ⟨(Option.some.inj h).symm, .inl ⟨h1⟩⟩
    · rw [if_pos rfl, Option.bind_eq_some_iff] at h
      obtain ⟨t2, h2, h⟩ := h
      cases t2
      · exact .inl ⟨(Option.some.inj h).symm, .inr (.inl ⟨⟨h1⟩, ⟨h2⟩⟩)⟩
      · rw [if_pos rfl, Option.bind_eq_some_iff] at h
        obtain ⟨t3, h3, h⟩ := h
        cases t3
        · exact .inl ⟨(Option.some.inj h).symm, .inr (.inr (.inl ⟨⟨h1⟩, ⟨h2⟩, ⟨h3⟩⟩))⟩
        · rw [if_pos rfl, Option.bind_eq_some_iff] at h
          obtain ⟨t4, h4, h⟩ := h
          cases t4
          · exact .inl ⟨(Option.some.inj h).symm, .inr (.inr (.inr (.inl ⟨⟨h1⟩, ⟨h2⟩, ⟨h3⟩, ⟨h4⟩⟩)))⟩
          · rw [if_pos rfl, Option.bind_eq_some_iff] at h
            obtain ⟨t5, h5, h⟩ := h
            cases t5
            · exact .inl ⟨(Option.some.inj h).symm, .inr (.inr (.inr (.inr ⟨⟨h1⟩, ⟨h2⟩, ⟨h3⟩, ⟨h4⟩, ⟨h5⟩⟩)))⟩
            · rw [if_pos rfl, if_pos (Int.le_of_lt hi), Option.bind_eq_some_iff] at h
              obtain ⟨t6, h6, h⟩ := h
              refine .inr ⟨⟨h1⟩, ⟨h2⟩, ⟨h3⟩, ⟨h4⟩, ⟨h5⟩, t6, ⟨h6⟩, ?_⟩
              cases t6
              · exact .inl ⟨rfl, (Option.some.inj h).symm⟩
              · exact .inr ⟨rfl, ⟨h⟩⟩
  · cases h
theorem spec_GrdOk.parts {k : Nat} {a b : Int} {l : List S34} {r : Bool} (h : spec_GrdOk.f k a b l = some r) :
    (r = false ∧ (Aside0 (spec_l1In.f a 1 8 = some false) ∨ (Aside0 (spec_l1In.f a 1 8 = some true) ∧ Aside0 (spec_l1In.f b 1 94 = some false)) ∨ (Aside0 (spec_l1In.f a 1 8 = some true) ∧ Aside0 (spec_l1In.f b 1 94 = some true) ∧ 40 < (l.length : Int)))) ∨
    (Aside0 (spec_l1In.f a 1 8 = some true) ∧ Aside0 (spec_l1In.f b 1 94 = some true) ∧ (l.length : Int) ≤ 40 ∧ ∃ q, Aside0 (spec_GrdOk.l0 q 0 a b l = some r)) := by
  have bad : spec_GrdOk.j0 k true a b l = some r → r = false := by
    intro h
    cases k with
    | zero => unfold spec_GrdOk.j0 at h; cases h
    | succ k =>
      simp only [spec_GrdOk.j0, if_true] at h
      exact (Option.some.inj h).symm
  unfold spec_GrdOk.f at h
  rw [Option.bind_eq_some_iff] at h
  obtain ⟨t1, h1, h⟩ := h
  cases t1
  · exact .inl ⟨bad h, .inl ⟨h1⟩⟩
  · rw [if_pos rfl, Option.bind_eq_some_iff] at h
    obtain ⟨t2, h2, h⟩ := h
    cases t2
    · exact .inl ⟨bad h, .inr (.inl ⟨⟨h1⟩, ⟨h2⟩⟩)⟩
    · rw [if_pos rfl] at h
      by_cases hl : (l.length : Int) > 40
      · rw [decide_eq_true hl] at h
        exact .inl ⟨bad h, .inr (.inr ⟨⟨h1⟩, ⟨h2⟩, hl⟩)⟩
      · rw [decide_eq_false hl] at h
        refine .inr ⟨⟨h1⟩, ⟨h2⟩, by omega, ?_⟩
        cases k with
        | zero => unfold spec_GrdOk.j0 at h; cases h
        | succ k =>
          simp only [spec_GrdOk.j0, Bool.false_eq_true, if_false] at h
          exact ⟨k, ⟨h⟩⟩
theorem gk_free (A : Option Addr) (n c : Nat) (l : List S34) (x0 x1 x2 x3 x4 : Int) (t : Bool) (W : World) (hr : Kd.C k34 W A l.length l) (hn : n ≤ l.length) (hc : l.length ≤ c) {q : Nat} (h : spec_l3Free.f q (l.take n) x0 x1 x2 x3 x4 = some t) :
    Calls Tryd.prog 23 #[.slice A n c, .agg #[.int .i64 x0, .int .i64 x1, .int .i64 x2, .int .i64 x3, .int .i64 x4]] W fun e w' => e = .returned (.bool t) ∧ Below W.heap.size W w' := by
  have hl : (l.take n).length = n := by rw [List.length_take]; omega
  have hC : Kd.C k34 W A (l.take n).length (l.take n) := by
    refine ⟨rfl, by rw [hl]; exact Nat.le_trans hn hr.2.1, fun hp => ?_⟩
    rw [hl] at hp
    obtain ⟨ad, e, hcl⟩ := hr.2.2 (by omega)
    exact ⟨ad, e, fun j p hj => hcl j p (by
      rw [List.getElem?_take] at hj
      split at hj
      · exact hj
      · cases hj)⟩
  have := spec_l3Free.calls q A c (l.take n) x0 x1 x2 x3 x4 t W hC (by omega) h
  rwa [hl] at this
set_option maxHeartbeats 4000000 in
set_option maxRecDepth 100000 in
theorem spec_GrdOk.calls (k : Nat) (a0_0 : Int) (a0_1 : Int) (A0_2 : Option Addr) (c0_2 : Nat) (l0_2 : List (S34)) (r : Bool) (w : World) (hr0_2 : Kd.C k34 w A0_2 l0_2.length l0_2) (hc0_2 : l0_2.length ≤ c0_2) (h : spec_GrdOk.f k a0_0 a0_1 l0_2 = some r) :
    Calls Tryd.prog 11 #[.agg #[.int .i64 a0_0, .int .i64 a0_1, .slice A0_2 l0_2.length c0_2]] w fun e w' => e = .returned (.bool r) ∧ Below w.heap.size w w' := by
  have HR := Aside0.mk hr0_2
  have HC := Aside0.mk hc0_2
  have hbig := hr0_2.2.1
  clear hr0_2 hc0_2
  have hu1 := Tryd.underlying25
  have hu2 := Tryd.underlying34
  rcases spec_GrdOk.parts h with ⟨rfl, A1 | ⟨A1, A2⟩ | ⟨A1, A2, hl⟩⟩ | ⟨A1, A2, hl, q, AL⟩
  iterate 3
    · clear h
      go_enter Tryd.func11, Tryd.ntmps11
      go_wp2_with (go_at_call 22; (first | (with_reducible refine (spec_l1In.calls _ _ _ _ _ A1.out).mono ?_) | (with_reducible refine (spec_l1In.calls _ _ _ _ _ A2.out).mono ?_)); rintro e W' ⟨rfl, ⟨nd, rfl⟩⟩)
      go_ret
      exact ⟨rfl, by repeat (with_reducible first | exact Below.refl _ _ | apply below_alloc | apply pw_below_drewN | apply below_drew1)⟩
  clear h
  go_enter Tryd.func11, Tryd.ntmps11
  go_wp2_with (go_at_call 22; (first | (with_reducible refine (spec_l1In.calls _ _ _ _ _ A1.out).mono ?_) | (with_reducible refine (spec_l1In.calls _ _ _ _ _ A2.out).mono ?_)); rintro e W' ⟨rfl, ⟨nd, rfl⟩⟩)
  go_loopg [3] q (fun gg s3 wr => ∃ (q' : Nat) (i : Int), q' ≤ gg ∧ s3 = .int .i64 i ∧ Aside0 (spec_GrdOk.l0 q' i a0_0 a0_1 l0_2 = some r) ∧ Aside0 (wr.heap[w.heap.size]? = some (.cells #[.int .i64 a0_0, .int .i64 a0_1, .slice A0_2 l0_2.length c0_2] 25 (0, 0))) ∧ Aside0 (Below w.heap.size w wr))
  case atStart => exact ⟨q, 0, Nat.le_refl _, rfl, AL, ⟨by (with_reducible repeat (first | refine blk_drewN ?_ _ | refine blk_drew ?_)); exact blk_new w _⟩, ⟨by repeat (with_reducible first | exact Below.refl _ _ | apply below_alloc | apply pw_below_drewN | apply below_drew1)⟩⟩
  case round =>
    obtain ⟨q', i, hq, rfl, HL, HG, HB⟩ := hrel
    have g0 : wr.cell? ⟨w.heap.size, 0, none⟩ = some (.int .i64 a0_0) := (blk_cell HG.out 0).trans rfl
    have g1 : wr.cell? ⟨w.heap.size, 1, none⟩ = some (.int .i64 a0_1) := (blk_cell HG.out 1).trans rfl
    have g2 : wr.cell? ⟨w.heap.size, 2, none⟩ = some (.slice A0_2 l0_2.length c0_2) := (blk_cell HG.out 2).trans rfl
    cases q' with
    | zero => exact absurd HL.out (by simp [spec_GrdOk.l0])
    | succ q' =>
      by_cases hlt : i < (l0_2.length : Int)
      · obtain ⟨h0, x, hx, hs⟩ := spec_GrdOk.step hlt HL.out
        obtain ⟨ad, hA, p0, p1, p2, p3, p4⟩ := at_T34 (Kd.C_below HR.out HB.out) i h0 hlt
        rw [← hx] at p0 p1 p2 p3 p4
        have hz : (0 : Int) ≤ (l0_2.length : Int) := by omega
        have hle : i ≤ (l0_2.length : Int) := by omega
        have hcap : (l0_2.length : Int) ≤ (c0_2 : Int) := by have := HC.out; omega
        have HX := Aside0.mk hx
        clear hx HL AL
        subst hA
        obtain ⟨n, rfl⟩ : ∃ n : Nat, i = n := ⟨i.toNat, by omega⟩
        rw [Int.toNat_natCast] at hs p0 p1 p2 p3 p4
        have FR := Aside0.mk (fun (u : Ext (wr.alloc (.cells (gcA x.f0 x.f1 x.f2 x.f3 x.f4) 34))) (t : Bool) (ht : spec_l3Free.f q' (l0_2.take n) x.f0 x.f1 x.f2 x.f3 x.f4 = some t) => gk_free (some ad) n c0_2 l0_2 x.f0 x.f1 x.f2 x.f3 x.f4 t u.world (Kd.C_below HR.out (below_step (below_alloc HB.out _) u.below)) (by omega) (by omega) ht)
        go_wp2
        obtain ⟨c0, c1, c2, c3, c4⟩ := gcA_cells (blk_new wr (.cells (gcA x.f0 x.f1 x.f2 x.f3 x.f4) 34))
        have n0 := alloc_cell HG.out
        replace g0 := (n0 (.cells (gcA x.f0 x.f1 x.f2 x.f3 x.f4) 34) 0).trans g0
        replace g1 := (n0 (.cells (gcA x.f0 x.f1 x.f2 x.f3 x.f4) 34) 1).trans g1
        replace g2 := (n0 (.cells (gcA x.f0 x.f1 x.f2 x.f3 x.f4) 34) 2).trans g2
        replace HG := Aside0.mk (blk_alloc HG.out (.cells (gcA x.f0 x.f1 x.f2 x.f3 x.f4) 34))
        replace HB := Aside0.mk (below_alloc HB.out (.cells (gcA x.f0 x.f1 x.f2 x.f3 x.f4) 34))
        show Code.wp _ _ _ _ (wr.alloc (.cells (gcA x.f0 x.f1 x.f2 x.f3 x.f4) 34))
        obtain ⟨W0, hW0⟩ : ∃ W0, wr.alloc (.cells (gcA x.f0 x.f1 x.f2 x.f3 x.f4) 34) = W0 := ⟨_, rfl⟩
        rw [hW0] at c0 c1 c2 c3 c4 g0 g1 g2 FR HG HB ⊢
        clear hW0 p0 p1 p2 p3 p4 n0
        have xc := Ext.cell c0
        have xc1 := Ext.cell c1
        have xc2 := Ext.cell c2
        have xc3 := Ext.cell c3
        have xc4 := Ext.cell c4
        have xg := Ext.cell g0
        have xg1 := Ext.cell g1
        have xg2 := Ext.cell g2
        clear c0 c1 c2 c3 c4 g0 g1 g2
        have e1 : IntKind.i64.wrap (a0_0 - 1) = wrap64 (a0_0 - 1) := by simp [IntKind.wrap_i64, wrap64]
        have e2 : IntKind.i64.wrap (a0_1 - 1) = wrap64 (a0_1 - 1) := by simp [IntKind.wrap_i64, wrap64]
        have e3 : IntKind.i64.wrap (a0_0 - x.f0) = wrap64 (a0_0 - x.f0) := by simp [IntKind.wrap_i64, wrap64]
        have e4 : IntKind.i64.wrap (a0_1 - x.f1) = wrap64 (a0_1 - x.f1) := by simp [IntKind.wrap_i64, wrap64]
        rcases hs with ⟨rfl, B1 | ⟨B1, B2⟩ | ⟨B1, B2, B3⟩ | ⟨B1, B2, B3, B4⟩ | ⟨B1, B2, B3, B4, B5⟩⟩ | ⟨B1, B2, B3, B4, B5, t, B6, ⟨rfl, rfl⟩ | ⟨rfl, AL⟩⟩
        iterate 6
          · refine region_ext (by kernel_rfl) (by kernel_rfl) ?_
            repeat (go_big_quiet_step (first | (go_at_call 22; first | exact Calls.ext0 (spec_l1In.calls _ _ _ _ _ B1.out) | exact Calls.ext0 (spec_l1In.calls _ _ _ _ _ B2.out) | exact Calls.ext0 (spec_l1In.calls _ _ _ _ _ B3.out) | exact Calls.ext0 (spec_l1In.calls _ _ _ _ _ B4.out) | exact Calls.ext0 (spec_l1In.calls _ _ _ _ _ B5.out)) | (go_at_call 23; exact Calls.ext (FR.out _ _ B6.out))))
            refine wpQuiet_nil ?_
            rintro _ ⟨⟨W3, hb3⟩, rfl⟩
            go_wp2
            go_ret
            exact ⟨rfl, below_step HB.out hb3⟩
        refine region_ext (by kernel_rfl) (by kernel_rfl) ?_
        repeat (go_big_quiet_step (first | (go_at_call 22; first | exact Calls.ext0 (spec_l1In.calls _ _ _ _ _ B1.out) | exact Calls.ext0 (spec_l1In.calls _ _ _ _ _ B2.out) | exact Calls.ext0 (spec_l1In.calls _ _ _ _ _ B3.out) | exact Calls.ext0 (spec_l1In.calls _ _ _ _ _ B4.out) | exact Calls.ext0 (spec_l1In.calls _ _ _ _ _ B5.out)) | (go_at_call 23; exact Calls.ext (FR.out _ _ B6.out))))
        refine wpQuiet_nil ?_
        rintro _ ⟨⟨W3, hb3⟩, rfl⟩
        go_wp2
        go_roundg q'
        case measure => omega
        case rel => exact ⟨q', (n : Int) + 1, Nat.le_refl _, rfl, ⟨by rw [show ((n : Int) + 1) = wrap64 ((n : Int) + 1) by unfold wrap64; omega]; exact AL.out⟩, ⟨blk_below HG.out hb3⟩, ⟨below_step HB.out hb3⟩⟩
      · have hl := HL.out
        simp only [spec_GrdOk.l0] at hl
        rw [if_neg hlt] at hl
        obtain rfl := Option.some.inj hl
        clear hl HL
        go_wp2
        go_ret
        exact ⟨rfl, HB.out⟩

/-! ### impl_among: function 40 -/
def impl_among.f (a0 : Int) (a1 : Int) (a2 : Int) : Option (Bool) := if a0 ≥ a1 then (if a2 > 0 then (some (decide ((IntKind.u64.wrap ((IntKind.u64.wrap (a0)) - (IntKind.u64.wrap (a1)))) < (IntKind.u64.wrap (a2))))) else (some false)) else (some false)
set_option maxHeartbeats 8000000 in
set_option maxRecDepth 100000 in
theorem impl_among.calls (a0 : Int) (a1 : Int) (a2 : Int) (r : Bool) (w : World) (h : impl_among.f a0 a1 a2 = some r) :
    Calls Tryd.prog 40 #[.int .i64 a0, .int .i64 a1, .int .i64 a2] w fun e w' => e = .returned (.bool r) ∧ Drawn0 w w' := by
  have H : (if a0 ≥ a1 then (if a2 > 0 then (some (decide ((IntKind.u64.wrap ((IntKind.u64.wrap (a0)) - (IntKind.u64.wrap (a1)))) < (IntKind.u64.wrap (a2))))) else (some false)) else (some false)) = some r := h
  clear h
  by_cases c4 : a0 ≥ a1
  · rw [if_pos c4] at H
    have c4b0 : decide (a1 ≤ a0) = true := decide_eq_true c4
    clear c4
    by_cases c5 : a2 > 0
    · rw [if_pos c5] at H
      have c5b0 : decide (0 < a2) = true := decide_eq_true c5
      clear c5
      obtain rfl := Option.some.inj H
      go_enter Tryd.func40, Tryd.ntmps40
      go_wp2
      go_ret
      exact ⟨by first | rfl | (simp [IntKind.wrap_i64, wrap64]; done) | (simp; done) | (simp [*]; done), by repeat (first | exact Drawn0.refl _ | apply Drawn0.step)⟩
    · rw [if_neg c5] at H
      have c5b0 : decide (0 < a2) = false := decide_eq_false c5
      clear c5
      obtain rfl := Option.some.inj H
      go_enter Tryd.func40, Tryd.ntmps40
      go_wp2
      go_ret
      exact ⟨by first | rfl | (simp [IntKind.wrap_i64, wrap64]; done) | (simp; done) | (simp [*]; done), by repeat (first | exact Drawn0.refl _ | apply Drawn0.step)⟩
  · rw [if_neg c4] at H
    have c4b0 : decide (a1 ≤ a0) = false := decide_eq_false c4
    clear c4
    obtain rfl := Option.some.inj H
    go_enter Tryd.func40, Tryd.ntmps40
    go_wp2
    go_ret
    exact ⟨by first | rfl | (simp [IntKind.wrap_i64, wrap64]; done) | (simp; done) | (simp [*]; done), by repeat (first | exact Drawn0.refl _ | apply Drawn0.step)⟩

/-! ### impl_GrdCell_has: function 32 -/
def impl_GrdCell_has.f (a0_0 : Int) (a0_1 : Int) (a0_2 : Int) (a0_3 : Int) (a0_4 : Int) (a1 : Int) (a2 : Int) : Option (Bool) := (impl_among.f a1 a0_0 a0_2).bind fun t330 => (if t330 = true then ((impl_among.f a2 a0_1 a0_3).bind fun t331 => (some t331)) else (some false))
set_option maxHeartbeats 8000000 in
set_option maxRecDepth 100000 in
theorem impl_GrdCell_has.calls (a0_0 : Int) (a0_1 : Int) (a0_2 : Int) (a0_3 : Int) (a0_4 : Int) (a1 : Int) (a2 : Int) (r : Bool) (w : World) (h : impl_GrdCell_has.f a0_0 a0_1 a0_2 a0_3 a0_4 a1 a2 = some r) :
    Calls Tryd.prog 32 #[.agg #[.int .i64 a0_0, .int .i64 a0_1, .int .i64 a0_2, .int .i64 a0_3, .int .i64 a0_4], .int .i64 a1, .int .i64 a2] w fun e w' => e = .returned (.bool r) ∧ Below w.heap.size w w' := by
  have hu34 := Tryd.underlying34
  have HB := Aside0.mk (Below.refl w.heap.size w)
  have H : ((impl_among.f a1 a0_0 a0_2).bind fun t330 => (if t330 = true then ((impl_among.f a2 a0_1 a0_3).bind fun t331 => (some t331)) else (some false))) = some r := h
  clear h
  replace H := Option.bind_eq_some_iff.mp H
  obtain ⟨t330, A40, H⟩ := H
  replace H : (if t330 = true then ((impl_among.f a2 a0_1 a0_3).bind fun t331 => (some t331)) else (some false)) = some r := H
  have A4 := Aside0.mk A40
  clear A40
  by_cases c5 : t330 = true
  · subst c5
    have H1 : ((impl_among.f a2 a0_1 a0_3).bind fun t331 => (some t331)) = some r := by rw [if_pos rfl] at H; exact H
    clear H
    have H := H1
    clear H1
    replace H := Option.bind_eq_some_iff.mp H
    obtain ⟨t331, A60, H⟩ := H
    replace H : (some t331) = some r := H
    have A6 := Aside0.mk A60
    clear A60
    obtain rfl := Option.some.inj H
    go_enter Tryd.func32, Tryd.ntmps32
    go_wp2_with (first | ((with_reducible refine gate_dst (N := 3) rfl ?_); refine box_event ?hg (N := 3) ?hd (cs := #[.int .i64 a0_0, .int .i64 a0_1, .int .i64 a0_2, .int .i64 a0_3, .int .i64 a0_4]) (t := 34) ?hr ?_; (case hd => rfl); (case hg => rfl); (case hr => first | (go_simp; done) | (go_simp; rfl)); intro gb329 hg w7 hbox hb; have n0_ := Aside0.mk (below_step (by repeat (first | (with_reducible first | exact HB.out | apply below_alloc | apply pw_below_drewN | apply below_drew1) | exact HB.out)) hb); have n1_ := Aside0.mk (hbox); have n2_ := Aside0.mk ((by rw [hg]; exact (below_size (by repeat (first | (with_reducible first | exact HB.out | apply below_alloc | apply pw_below_drewN | apply below_drew1) | exact HB.out))) : w.heap.size ≤ gb329)); have n3_ := Aside0.mk ((by rw [hg]; exact (below_size (by repeat (first | (with_reducible first | exact HB.out | apply below_alloc | apply pw_below_drewN | apply below_drew1) | exact HB.out))) : w.heap.size ≤ gb329)); clear HB; have HB := n0_; have BK329 := n1_; have GW329 := n2_; have GE329 := n3_; clear n0_ n1_ n2_ n3_; clear hb hbox hg; have hcz8_0 : w7.cell? ⟨gb329, 0, none⟩ = some (.int .i64 a0_0) := (blk_cell BK329.out 0).trans rfl; have hcz8_1 : w7.cell? ⟨gb329, 1, none⟩ = some (.int .i64 a0_1) := (blk_cell BK329.out 1).trans rfl; have hcz8_2 : w7.cell? ⟨gb329, 2, none⟩ = some (.int .i64 a0_2) := (blk_cell BK329.out 2).trans rfl; have hcz8_3 : w7.cell? ⟨gb329, 3, none⟩ = some (.int .i64 a0_3) := (blk_cell BK329.out 3).trans rfl; have hcz8_4 : w7.cell? ⟨gb329, 4, none⟩ = some (.int .i64 a0_4) := (blk_cell BK329.out 4).trans rfl; have hfz8_0 := blk_frozen BK329.out 0; have hfz8_1 := blk_frozen BK329.out 1; have hfz8_2 := blk_frozen BK329.out 2; have hfz8_3 := blk_frozen BK329.out 3; have hfz8_4 := blk_frozen BK329.out 4) | ((with_reducible refine gate_callee (f := 40) rfl ?_); refine goesL_ (some 12) rfl rfl Tryd.func40 (by kernel_rfl) rfl #[.int .i64 a1, .int .i64 a0_0, .int .i64 a0_2] rfl (by (try simp only [List.map_toArray, List.map_cons, List.map_nil]); first | done | rfl | (simp only [List.length_drop, List.length_take]; rfl)) ?_; (with_reducible refine (impl_among.calls a1 a0_0 a0_2 true _ A4.out).mono ?_); rintro e w' ⟨rfl, ⟨nd, rfl⟩⟩; refine ⟨_, rfl, ?_⟩) | (go_at_call 40; (with_reducible refine (impl_among.calls a2 a0_1 a0_3 t331 _ A6.out).mono ?_); rintro e w' ⟨rfl, ⟨nd, rfl⟩⟩))
    go_ret
    exact ⟨by first | rfl | (simp [IntKind.wrap_i64, wrap64]; done) | (simp [errW_none, errW_some] <;> rfl) | (simp [*, errW_none, errW_some] <;> rfl), by repeat (first | (with_reducible first | exact HB.out | apply below_alloc | apply pw_below_drewN | apply below_drew1 | refine below_set ?_ GE329.out) | exact HB.out)⟩
  · replace c5 := Bool.eq_false_iff.mpr c5
    subst c5
    have H1 : (some false) = some r := by rw [if_neg (show ¬ (false = true) by decide)] at H; exact H
    clear H
    have H := H1
    clear H1
    obtain rfl := Option.some.inj H
    go_enter Tryd.func32, Tryd.ntmps32
    go_wp2_with (first | ((with_reducible refine gate_dst (N := 3) rfl ?_); refine box_event ?hg (N := 3) ?hd (cs := #[.int .i64 a0_0, .int .i64 a0_1, .int .i64 a0_2, .int .i64 a0_3, .int .i64 a0_4]) (t := 34) ?hr ?_; (case hd => rfl); (case hg => rfl); (case hr => first | (go_simp; done) | (go_simp; rfl)); intro gb329 hg w9 hbox hb; have n0_ := Aside0.mk (below_step (by repeat (first | (with_reducible first | exact HB.out | apply below_alloc | apply pw_below_drewN | apply below_drew1) | exact HB.out)) hb); have n1_ := Aside0.mk (hbox); have n2_ := Aside0.mk ((by rw [hg]; exact (below_size (by repeat (first | (with_reducible first | exact HB.out | apply below_alloc | apply pw_below_drewN | apply below_drew1) | exact HB.out))) : w.heap.size ≤ gb329)); have n3_ := Aside0.mk ((by rw [hg]; exact (below_size (by repeat (first | (with_reducible first | exact HB.out | apply below_alloc | apply pw_below_drewN | apply below_drew1) | exact HB.out))) : w.heap.size ≤ gb329)); clear HB; have HB := n0_; have BK329 := n1_; have GW329 := n2_; have GE329 := n3_; clear n0_ n1_ n2_ n3_; clear hb hbox hg; have hcz10_0 : w9.cell? ⟨gb329, 0, none⟩ = some (.int .i64 a0_0) := (blk_cell BK329.out 0).trans rfl; have hcz10_1 : w9.cell? ⟨gb329, 1, none⟩ = some (.int .i64 a0_1) := (blk_cell BK329.out 1).trans rfl; have hcz10_2 : w9.cell? ⟨gb329, 2, none⟩ = some (.int .i64 a0_2) := (blk_cell BK329.out 2).trans rfl; have hcz10_3 : w9.cell? ⟨gb329, 3, none⟩ = some (.int .i64 a0_3) := (blk_cell BK329.out 3).trans rfl; have hcz10_4 : w9.cell? ⟨gb329, 4, none⟩ = some (.int .i64 a0_4) := (blk_cell BK329.out 4).trans rfl; have hfz10_0 := blk_frozen BK329.out 0; have hfz10_1 := blk_frozen BK329.out 1; have hfz10_2 := blk_frozen BK329.out 2; have hfz10_3 := blk_frozen BK329.out 3; have hfz10_4 := blk_frozen BK329.out 4) | ((with_reducible refine gate_callee (f := 40) rfl ?_); refine goesL_ (some 12) rfl rfl Tryd.func40 (by kernel_rfl) rfl #[.int .i64 a1, .int .i64 a0_0, .int .i64 a0_2] rfl (by (try simp only [List.map_toArray, List.map_cons, List.map_nil]); first | done | rfl | (simp only [List.length_drop, List.length_take]; rfl)) ?_; (with_reducible refine (impl_among.calls a1 a0_0 a0_2 false _ A4.out).mono ?_); rintro e w' ⟨rfl, ⟨nd, rfl⟩⟩; refine ⟨_, rfl, ?_⟩))
    go_ret
    exact ⟨by first | rfl | (simp [IntKind.wrap_i64, wrap64]; done) | (simp [errW_none, errW_some] <;> rfl) | (simp [*, errW_none, errW_some] <;> rfl), by repeat (first | (with_reducible first | exact HB.out | apply below_alloc | apply pw_below_drewN | apply below_drew1 | refine below_set ?_ GE329.out) | exact HB.out)⟩

/-! ### impl_GrdAt: function 19 (by hand) -/
set_option maxHeartbeats 2000000 in
set_option maxRecDepth 100000 in
/-- slices.IndexFunc over cells at their places, whatever the function asks. -/
theorem idxf_cell (p : S34 → Bool) (g : Nat) (lb : Array Value) (eg : ∀ args w, (callFunc g args).run Tryd.prog w = .ok (.enter g args) w) (A : Option Addr) (c : Nat) (l : List S34) (w : World)
    (hr : Kd.C k34 w A l.length l) (hc : l.length ≤ c)
    (hp : ∀ (W : World) (x : S34), Below w.heap.size w W → Calls Tryd.prog g (#[.agg #[.int .i64 x.f0, .int .i64 x.f1, .int .i64 x.f2, .int .i64 x.f3, .int .i64 x.f4]] ++ lb) W fun e W' => e = .returned (.bool (p x)) ∧ Below w.heap.size w W') :
    Calls Tryd.prog 30 #[.slice A l.length c, .func (.func g) #[] lb] w fun e w' => e = .returned (.int .i64 (ppIdx p l)) ∧ Below w.heap.size w w' := by
  have hbig := hr.2.1
  have HR := Aside0.mk hr
  clear hr
  go_enter Tryd.func30, Tryd.ntmps30
  go_wp2
  go_loopg [5, 8] l.length (fun gg _ s8 wr => ∃ kk : Nat, kk ≤ l.length ∧ l.length - kk ≤ gg ∧ s8 = .int .i64 kk ∧ Aside0 (Below w.heap.size w wr) ∧ Aside0 (∀ j (h : j < l.length), j < kk → p l[j] = false))
  case atStart => exact ⟨0, Nat.zero_le _, by omega, rfl, ⟨Below.refl _ w⟩, ⟨fun j _ hj => absurd hj (Nat.not_lt_zero _)⟩⟩
  case round =>
    obtain ⟨kk, hkk, hg, rfl, BW, AA⟩ := hrel
    by_cases hlt : kk < l.length
    · have hltz : (kk : Int) < (l.length : Int) := by omega
      obtain ⟨ad, e0, h0, h1, h2, h3, h4⟩ := at_T34 HR.out (kk : Int) (by omega) hltz
      cases e0
      replace h0 := (BW.out.cell (World.block_lt_of_cell? w _ h0)).trans h0
      replace h1 := (BW.out.cell (World.block_lt_of_cell? w _ h1)).trans h1
      replace h2 := (BW.out.cell (World.block_lt_of_cell? w _ h2)).trans h2
      replace h3 := (BW.out.cell (World.block_lt_of_cell? w _ h3)).trans h3
      replace h4 := (BW.out.cell (World.block_lt_of_cell? w _ h4)).trans h4
      simp only [Int.toNat_natCast] at h0 h1 h2 h3 h4
      have hcall := hp wr (rd_T34 l (kk : Int)) BW.out
      have hy : rd_T34 l (kk : Int) = l[kk] := by unfold rd_T34; simp [List.getD_eq_getElem?_getD, List.getElem?_eq_getElem hlt]
      generalize rd_T34 l (kk : Int) = y at h0 h1 h2 h3 h4 hcall hy
      have HY := Aside0.mk hy
      clear hy hp
      cases hq : p y with
      | true =>
        rw [hq] at hcall
        go_wp2_with (go_at_fn g; refine hcall.mono ?_; rintro e w' ⟨rfl, hb'⟩)
        go_ret
        refine ⟨?_, hb'⟩
        rw [ppIdx_hit p l kk hlt (by rw [← HY.out]; exact hq) AA.out]
        rfl
      | false =>
        rw [hq] at hcall
        go_wp2_with (go_at_fn g; refine hcall.mono ?_; rintro e w' ⟨rfl, hb'⟩)
        go_roundg (l.length - (kk + 1))
        case measure => omega
        case rel =>
          refine ⟨kk + 1, by omega, by omega, by go_num, ⟨hb'⟩, ⟨fun j h hj => ?_⟩⟩
          by_cases e : j = kk
          · subst e
            rw [← HY.out]; exact hq
          · exact AA.out j h (by omega)
    · have hltz : ¬ (kk : Int) < (l.length : Int) := by omega
      have hk : kk = l.length := by omega
      subst hk
      go_wp2
      go_ret
      refine ⟨?_, BW.out⟩
      rw [ppIdx_miss p l (fun j hj => AA.out j hj hj)]
      rfl
/-- The cell has the slot. -/
def ppHasB (x : S34) (row col : Int) : Bool := (impl_GrdCell_has.f x.f0 x.f1 x.f2 x.f3 x.f4 row col).getD false
theorem ppAmongS (n f m : Int) : ∃ b, impl_among.f n f m = some b := by
  unfold impl_among.f
  split
  · split
    · exact ⟨_, rfl⟩
    · exact ⟨_, rfl⟩
  · exact ⟨_, rfl⟩
theorem ppHas_some (x : S34) (row col : Int) : impl_GrdCell_has.f x.f0 x.f1 x.f2 x.f3 x.f4 row col = some (ppHasB x row col) := by
  unfold ppHasB impl_GrdCell_has.f
  obtain ⟨b1, h1⟩ := ppAmongS row x.f0 x.f2
  obtain ⟨b2, h2⟩ := ppAmongS col x.f1 x.f3
  rw [h1, h2]
  cases b1 <;> rfl
set_option maxHeartbeats 2000000 in
set_option maxRecDepth 100000 in
theorem clo_GrdAt (x : S34) (row col : Int) (b1 b2 : Nat) (w : World) (h1 : w.cell? ⟨b1, 0, none⟩ = some (.int .i64 row)) (h2 : w.cell? ⟨b2, 0, none⟩ = some (.int .i64 col)) :
    Calls Tryd.prog 31 #[.agg #[.int .i64 x.f0, .int .i64 x.f1, .int .i64 x.f2, .int .i64 x.f3, .int .i64 x.f4], .pointer (some ⟨b1, 0, none⟩), .pointer (some ⟨b2, 0, none⟩)] w fun e w' => e = .returned (.bool (ppHasB x row col)) ∧ Below w.heap.size w w' := by
  have hb1 := World.block_lt_of_cell? w _ h1
  have hb2 := World.block_lt_of_cell? w _ h2
  have HS := Aside0.mk (ppHas_some x row col)
  have hu := Tryd.underlying34
  go_enter Tryd.func31, Tryd.ntmps31
  go_wp2_with (go_at_call 32; refine (impl_GrdCell_has.calls _ _ _ _ _ _ _ _ _ HS.out).mono ?_; rintro e w' ⟨rfl, hb⟩)
  go_ret
  exact ⟨rfl, below_step (below_alloc (Below.refl _ _) _) hb⟩
def impl_GrdAt.f (k : Nat) (a0_0 : Int) (a0_1 : Int) (l0_2 : List S34) (a1 : Int) (a2 : Int) : Option Int := some (ppIdx (fun x => ppHasB x a1 a2) l0_2)
theorem impl_GrdAt.mono : ∀ a0_0 a0_1 a0_2 a1 a2 k, LeO (impl_GrdAt.f k a0_0 a0_1 a0_2 a1 a2) (impl_GrdAt.f (k + 1) a0_0 a0_1 a0_2 a1 a2) := fun _ _ _ _ _ _ => LeO.refl _
set_option maxHeartbeats 2000000 in
set_option maxRecDepth 100000 in
theorem impl_GrdAt.calls (k : Nat) (a0_0 : Int) (a0_1 : Int) (A0_2 : Option Addr) (c0_2 : Nat) (l0_2 : List (S34)) (a1 : Int) (a2 : Int) (r : Int) (w : World) (hr0_2 : Kd.C k34 w A0_2 l0_2.length l0_2) (hc0_2 : l0_2.length ≤ c0_2) (h : impl_GrdAt.f k a0_0 a0_1 l0_2 a1 a2 = some r) :
    Calls Tryd.prog 19 #[.agg #[.int .i64 a0_0, .int .i64 a0_1, .slice A0_2 l0_2.length c0_2], .int .i64 a1, .int .i64 a2] w fun e w' => e = .returned (.int .i64 r) ∧ Below w.heap.size w w' := by
  obtain rfl := Option.some.inj h
  have HR := Aside0.mk hr0_2
  have HC := Aside0.mk hc0_2
  clear hr0_2 hc0_2 h
  have eg := enters_of Tryd.func31 (by kernel_rfl) rfl
  have hu := Tryd.underlying25
  have hp : ∀ (W0 : World), W0.cell? ⟨w.heap.size + 1, 0, none⟩ = some (.int .i64 a1) → W0.cell? ⟨w.heap.size + 2, 0, none⟩ = some (.int .i64 a2) → w.heap.size + 3 ≤ W0.heap.size → ∀ (W : World) (x : S34), Below W0.heap.size W0 W → Calls Tryd.prog 31 (#[.agg #[.int .i64 x.f0, .int .i64 x.f1, .int .i64 x.f2, .int .i64 x.f3, .int .i64 x.f4]] ++ #[.pointer (some ⟨w.heap.size + 1, 0, none⟩), .pointer (some ⟨w.heap.size + 2, 0, none⟩)]) W fun e W' => e = .returned (.bool (ppHasB x a1 a2)) ∧ Below W0.heap.size W0 W' := by
    intro W0 h1 h2 hs W x hb
    have h1' := (hb.cell (World.block_lt_of_cell? W0 _ h1)).trans h1
    have h2' := (hb.cell (World.block_lt_of_cell? W0 _ h2)).trans h2
    exact (clo_GrdAt x a1 a2 _ _ W h1' h2').mono fun e W' ⟨he, hb'⟩ => ⟨he, below_then hb hb.size hb'⟩
  have HP := Aside0.mk hp
  clear hp
  go_enter Tryd.func19, Tryd.ntmps19
  go_wp2_with (go_at_call 30; refine (idxf_cell (fun x => ppHasB x a1 a2) 31 _ eg A0_2 c0_2 l0_2 _ ?hr HC.out (HP.out _ ?h1 ?h2 ?hs)).mono ?_; (case hr => repeat (first | exact HR.out | (with_reducible refine Kd.C_alloc ?_ _))); (case h1 => go_simp); (case h2 => go_simp); (case hs => simp); rintro e w' ⟨rfl, hb⟩)
  go_ret
  exact ⟨rfl, below_step (below_alloc (below_alloc (below_alloc (Below.refl _ _) _) _) _) hb⟩

/-! ### impl_GrdRow: function 6 (by hand) -/
theorem clo_GrdRow (a00 a01 : Int) (A : Option Addr) (c : Nat) (l : List S34) (at_ k : Int) (b1 b2 : Nat) (w : World) (h1 : w.heap[b1]? = some (.cells #[.int .i64 a00, .int .i64 a01, .slice A l.length c] 25 (0, 0))) (h2 : w.cell? ⟨b2, 0, none⟩ = some (.int .i64 at_)) (hr : Kd.C k34 w A l.length l) (hc : l.length ≤ c) :
    Calls Tryd.prog 18 #[.int .i64 k, .pointer (some ⟨b1, 0, none⟩), .pointer (some ⟨b2, 0, none⟩)] w fun e w' => e = .returned (.int .i64 (ppIdx (fun x => ppHasB x at_ k) l)) ∧ Below w.heap.size w w' := by
  have hcz0 : w.cell? ⟨b1, 0, none⟩ = some (.int .i64 a00) := (blk_cell h1 0).trans rfl
  have hcz1 : w.cell? ⟨b1, 1, none⟩ = some (.int .i64 a01) := (blk_cell h1 1).trans rfl
  have hcz2 : w.cell? ⟨b1, 2, none⟩ = some (.slice A l.length c) := (blk_cell h1 2).trans rfl
  have hfz0 := blk_frozen h1 0
  have hfz1 := blk_frozen h1 1
  have hfz2 := blk_frozen h1 2
  have hb1 := blk_lt h1
  have hb2 := World.block_lt_of_cell? w _ h2
  have HR := Aside0.mk hr
  have HC := Aside0.mk hc
  clear hr hc h1
  have hu := Tryd.underlying25
  go_enter Tryd.func18, Tryd.ntmps18
  go_wp2_with (go_at_call 19; (with_reducible refine (impl_GrdAt.calls 0 a00 a01 A c l at_ k _ _ ?hr HC.out rfl).mono ?_); (case hr => repeat (first | exact HR.out | (with_reducible refine Kd.C_alloc ?_ _))); rintro e w' ⟨rfl, hb⟩)
  go_ret
  exact ⟨rfl, hb⟩
def impl_GrdRow.f (k : Nat) (a0_0 : Int) (a0_1 : Int) (l0_2 : List S34) (a1 : Int) : Option (List Int) := impl_changes.f (fun j => ppIdx (fun x => ppHasB x a1 j) l0_2) k (if 94 < (if a0_1 < 0 then 0 else a0_1) then 94 else (if a0_1 < 0 then 0 else a0_1))
theorem impl_GrdRow.mono : ∀ a0_0 a0_1 a0_2 a1 k, LeO (impl_GrdRow.f k a0_0 a0_1 a0_2 a1) (impl_GrdRow.f (k + 1) a0_0 a0_1 a0_2 a1) := fun _ _ _ _ _ => impl_changes.mono _ _ _
set_option maxHeartbeats 2000000 in
set_option maxRecDepth 100000 in
theorem impl_GrdRow.calls (k : Nat) (a0_0 : Int) (a0_1 : Int) (A0_2 : Option Addr) (c0_2 : Nat) (l0_2 : List (S34)) (a1 : Int) (r : List Int) (w : World) (hr0_2 : Kd.C k34 w A0_2 l0_2.length l0_2) (hc0_2 : l0_2.length ≤ c0_2) (h : impl_GrdRow.f k a0_0 a0_1 l0_2 a1 = some r) :
    Calls Tryd.prog 6 #[.agg #[.int .i64 a0_0, .int .i64 a0_1, .slice A0_2 l0_2.length c0_2], .int .i64 a1] w fun e w' => ∃ v0_ : Value, e = .returned (v0_) ∧ Kd.R (Kd.int .i64) 3 w' w.heap.size (fun _ => True) v0_ r ∧ Below w.heap.size w w' := by
  have HR := Aside0.mk hr0_2
  have HC := Aside0.mk hc0_2
  unfold impl_GrdRow.f at h
  have H := Aside0.mk h
  clear hr0_2 hc0_2 h
  have eg : ∀ args w, (callFunc 18 args).run Tryd.prog w = .ok (.enter 18 args) w := enters_of Tryd.func18 (by kernel_rfl) rfl
  have hu := Tryd.underlying25
  have hp : ∀ (W0 : World), W0.heap[w.heap.size]? = some (.cells #[.int .i64 a0_0, .int .i64 a0_1, .slice A0_2 l0_2.length c0_2] 25 (0, 0)) → W0.cell? ⟨w.heap.size + 1, 0, none⟩ = some (.int .i64 a1) → Kd.C k34 W0 A0_2 l0_2.length l0_2 → ∀ (W : World) (j : Int), Below W0.heap.size W0 W → Calls Tryd.prog 18 (#[.int .i64 j] ++ #[.pointer (some ⟨w.heap.size, 0, none⟩), .pointer (some ⟨w.heap.size + 1, 0, none⟩)]) W fun e W' => e = .returned (.int .i64 ((fun j => ppIdx (fun x => ppHasB x a1 j) l0_2) j)) ∧ Below W.heap.size W W' := by
    intro W0 h1 h2 h3 W j hb
    exact clo_GrdRow a0_0 a0_1 A0_2 c0_2 l0_2 a1 j _ _ W (blk_below h1 hb) ((hb.cell (World.block_lt_of_cell? W0 _ h2)).trans h2) (Kd.C_below h3 hb) HC.out
  have HP := Aside0.mk hp
  clear hp
  go_enter Tryd.func6, Tryd.ntmps6
  go_wp2_with (go_at_call 17; (with_reducible refine (impl_changes.calls (fun j => ppIdx (fun x => ppHasB x a1 j) l0_2) 18 _ eg k _ r _ (HP.out _ ?h1 ?h2 ?h3) H.out).mono ?_); (case h1 => first | exact blk_alloc (blk_new _ _) _ | exact blk_alloc (blk_alloc (blk_new _ _) _) _ | go_simp); (case h2 => go_simp); (case h3 => repeat (first | exact HR.out | (with_reducible refine Kd.C_alloc ?_ _))); rintro e w' ⟨v_, rfl, ho, hb⟩)
  all_goals (go_ret; exact ⟨_, rfl, Kd.R_lower ho (below_alloc (below_alloc (Below.refl w.heap.size w) _) _).size, below_step (below_alloc (below_alloc (Below.refl _ _) _) _) hb⟩)

/-! ### spec_GrdCol: function 10 -/
mutual
def spec_GrdCol.l0 : Nat → Int → List Int → Int → Int → Int → List (S34) → Option (List Int)
  | 0, _, _, _, _, _, _ => none
  | k + 1, x1, x5, x6, x346000, x346001, x346002 => if x6 < x346000 then (spec_GrdCol.j1 k x1 x5 x6 (decide (x6 < 8)) x346000 x346001 x346002) else (spec_GrdCol.j1 k x1 x5 x6 false x346000 x346001 x346002)
def spec_GrdCol.j1 : Nat → Int → List Int → Int → Bool → Int → Int → List (S34) → Option (List Int)
  | 0, _, _, _, _, _, _, _ => none
  | k + 1, x1, x5, x6, x16, x346000, x346001, x346002 => if x16 = true then ((spec_GrdAt.f k x346000 x346001 x346002 x6 x1).bind fun t349 => (if t349 ≥ 0 then (if (x5.length : Int) = 0 then (if x5.length < 17592186044416 then (spec_GrdCol.l0 k x1 (x5 ++ [t349]) (wrap64 (x6 + 1)) x346000 x346001 x346002) else (none)) else (if 0 ≤ (wrap64 ((x5.length : Int) - 1)) then (if (wrap64 ((x5.length : Int) - 1)) < (x5.length : Int) then (if (rd x5 (wrap64 ((x5.length : Int) - 1))) = t349 then (spec_GrdCol.l0 k x1 x5 (wrap64 (x6 + 1)) x346000 x346001 x346002) else (if x5.length < 17592186044416 then (spec_GrdCol.l0 k x1 (x5 ++ [t349]) (wrap64 (x6 + 1)) x346000 x346001 x346002) else (none))) else (none)) else (none))) else (spec_GrdCol.l0 k x1 x5 (wrap64 (x6 + 1)) x346000 x346001 x346002))) else (some x5)
end
def spec_GrdCol.f (k : Nat) (a0_0 : Int) (a0_1 : Int) (l0_2 : List (S34)) (a1 : Int) : Option (List Int) := spec_GrdCol.l0 k a1 (([] : List Int)) 0 a0_0 a0_1 l0_2
theorem spec_GrdCol.mono_l : ∀ k, (∀ y0 y1 y2 y3 y4 y5, LeO (spec_GrdCol.l0 k y0 y1 y2 y3 y4 y5) (spec_GrdCol.l0 (k + 1) y0 y1 y2 y3 y4 y5)) ∧ (∀ y0 y1 y2 y3 y4 y5 y6, LeO (spec_GrdCol.j1 k y0 y1 y2 y3 y4 y5 y6) (spec_GrdCol.j1 (k + 1) y0 y1 y2 y3 y4 y5 y6))
  | 0 => ⟨fun _ _ _ _ _ _ r h => by simp [spec_GrdCol.l0] at h, fun _ _ _ _ _ _ _ r h => by simp [spec_GrdCol.j1] at h⟩
  | k + 1 => by
    obtain ⟨ih0, ih1⟩ := spec_GrdCol.mono_l k
    refine ⟨?_, ?_⟩
    · intro y0 y1 y2 y3 y4 y5
      unfold spec_GrdCol.l0
      repeat' first
      | (with_reducible exact ih0 _ _ _ _ _ _)
      | (with_reducible exact ih1 _ _ _ _ _ _ _)
      | (with_reducible exact spec_GrdAt.mono _ _ _ _ _ _)
      | (with_reducible exact LeO.refl _)
      | (with_reducible exact LeO.none _)
      | (with_reducible refine LeO.ite ?_ ?_)
      | (with_reducible refine LeO.bind ?_ (fun _ => ?_))
      | exact ih0 _ _ _ _ _ _
      | exact ih1 _ _ _ _ _ _ _
      | exact spec_GrdAt.mono _ _ _ _ _ _
      | exact LeO.none _
      | refine LeO.ite ?_ ?_
      | refine LeO.bind ?_ (fun _ => ?_)
    · intro y0 y1 y2 y3 y4 y5 y6
      unfold spec_GrdCol.j1
      repeat' first
      | (with_reducible exact ih0 _ _ _ _ _ _)
      | (with_reducible exact ih1 _ _ _ _ _ _ _)
      | (with_reducible exact spec_GrdAt.mono _ _ _ _ _ _)
      | (with_reducible exact LeO.refl _)
      | (with_reducible exact LeO.none _)
      | (with_reducible refine LeO.ite ?_ ?_)
      | (with_reducible refine LeO.bind ?_ (fun _ => ?_))
      | exact ih0 _ _ _ _ _ _
      | exact ih1 _ _ _ _ _ _ _
      | exact spec_GrdAt.mono _ _ _ _ _ _
      | exact LeO.none _
      | refine LeO.ite ?_ ?_
      | refine LeO.bind ?_ (fun _ => ?_)
theorem spec_GrdCol.mono : ∀ a0 a1 a2 a3 k, LeO (spec_GrdCol.f k a0 a1 a2 a3) (spec_GrdCol.f (k + 1) a0 a1 a2 a3) := by
  intro a0 a1 a2 a3 k
  obtain ⟨ih0, ih1⟩ := spec_GrdCol.mono_l k
  unfold spec_GrdCol.f
  repeat' first
      | (with_reducible exact ih0 _ _ _ _ _ _)
      | (with_reducible exact ih1 _ _ _ _ _ _ _)
      | (with_reducible exact spec_GrdAt.mono _ _ _ _ _ _)
      | (with_reducible exact LeO.refl _)
      | (with_reducible exact LeO.none _)
      | (with_reducible refine LeO.ite ?_ ?_)
      | (with_reducible refine LeO.bind ?_ (fun _ => ?_))
      | exact ih0 _ _ _ _ _ _
      | exact ih1 _ _ _ _ _ _ _
      | exact spec_GrdAt.mono _ _ _ _ _ _
      | exact LeO.none _
      | refine LeO.ite ?_ ?_
      | refine LeO.bind ?_ (fun _ => ?_)
set_option maxHeartbeats 8000000 in
set_option maxRecDepth 100000 in
theorem spec_GrdCol.calls (k : Nat) (a0_0 : Int) (a0_1 : Int) (A0_2 : Option Addr) (c0_2 : Nat) (l0_2 : List (S34)) (a1 : Int) (r : List Int) (w : World) (hr0_2 : Kd.C k34 w A0_2 l0_2.length l0_2) (hc0_2 : l0_2.length ≤ c0_2) (h : spec_GrdCol.f k a0_0 a0_1 l0_2 a1 = some r) :
    Calls Tryd.prog 10 #[.agg #[.int .i64 a0_0, .int .i64 a0_1, .slice A0_2 l0_2.length c0_2], .int .i64 a1] w fun e w' => ∃ v0_ : Value, e = .returned (v0_) ∧ Kd.R (Kd.int .i64) 3 w' w.heap.size (fun _ => True) v0_ r ∧ Below w.heap.size w w' := by
  have hu25 := Tryd.underlying25
  have HR0_2 := Aside0.mk hr0_2
  have HC0_2 := Aside0.mk hc0_2
  clear hr0_2 hc0_2
  have HB := Aside0.mk (Below.refl w.heap.size w)
  have H : (spec_GrdCol.l0 k a1 (([] : List Int)) 0 a0_0 a0_1 l0_2) = some r := h
  clear h
  obtain ⟨y346, hy346⟩ : ∃ y_ : List Int, y_ = (([] : List Int)) := ⟨_, rfl⟩
  replace H : (spec_GrdCol.l0 k a1 y346 0 a0_0 a0_1 l0_2) = some r := by first | (rw [hy346]; with_reducible exact H) | (have H2_ := (Option.bind_some _ _).symm.trans H; rw [hy346]; with_reducible exact H2_) | (have H2_ := (Option.bind_some _ _).symm.trans H; with_reducible exact H2_) | with_reducible exact H | (rw [hy346]; exact H) | exact H
  have Ny346 := Aside0.mk hy346
  clear hy346
  have H' := Aside0.mk H
  clear H
  go_enter Tryd.func10, Tryd.ntmps10
  go_wp2_with (first | ((with_reducible refine gate_dst (N := 2) rfl ?_); (try (refine gate_guard (by rfl) ?_; dsimp only)); refine box_event ?hg (N := 2) ?hd (cs := #[.int .i64 a0_0, .int .i64 a0_1, .slice A0_2 l0_2.length c0_2]) (t := 25) ?hr ?_; (case hd => rfl); (case hg => rfl); (case hr => first | (go_simp; done) | (go_simp; rfl)); intro gb345 hg w3 hbox hb; have n0_ := Aside0.mk (below_step (by repeat (first | (with_reducible first | exact HB.out | apply below_alloc | apply pw_below_drewN | apply below_drew1) | exact HB.out)) hb); have n1_ := Aside0.mk (hbox); have n2_ := Aside0.mk ((by rw [hg]; exact (below_size (by repeat (first | (with_reducible first | exact HB.out | apply below_alloc | apply pw_below_drewN | apply below_drew1) | exact HB.out))) : w.heap.size ≤ gb345)); have n3_ := Aside0.mk ((by rw [hg]; exact (below_size (by repeat (first | (with_reducible first | exact HB.out | apply below_alloc | apply pw_below_drewN | apply below_drew1) | exact HB.out))) : w.heap.size ≤ gb345)); clear HB; have HB := n0_; have BK345 := n1_; have GW345 := n2_; have GE345 := n3_; clear n0_ n1_ n2_ n3_; clear hb hbox hg) | ((with_reducible refine gate_dst (N := 8) rfl ?_); (try (refine gate_guard (by rfl) ?_; dsimp only)); refine Kd.R_lit (Kd.int .i64) _ 3 ?hg (N := 8) ?hd (xs := ([] : List Int)) (inner := []) (ok := fun _ => True) (okp := fun _ => True) ?hr ?hp (fun _ hk => hk) trivial (Below.refl _ _) (Nat.le_refl _) (by simp) ?_; (case hd => rfl); (case hg => rfl); (case hr => first | (go_simp; done) | (go_simp; rfl)); (case hp => exact (Reps.none _ _)); intro v347 w4 ho5 hb hg_ hnew_; clear hg_ hnew_; (first | rw [← Ny346.out] at ho5 | (simp only [Int.reduceToNat] at ho5; rw [← Ny346.out] at ho5)); have n0_ := Aside0.mk (Kd.R_lower ho5 (below_size (by repeat (first | (with_reducible first | exact HB.out | apply below_alloc | apply pw_below_drewN | apply below_drew1 | refine below_set ?_ GE345.out) | exact HB.out)))); have n1_ := Aside0.mk (blk_below (g := gb345) (o := .cells #[.int .i64 a0_0, .int .i64 a0_1, .slice A0_2 l0_2.length c0_2] 25 (0, 0)) (by (with_reducible repeat (first | refine blk_drewN ?_ _ | refine blk_drew ?_ | refine blk_alloc ?_ _)); exact BK345.out) hb); have n2_ := Aside0.mk (below_step (by repeat (first | (with_reducible first | exact HB.out | apply below_alloc | apply pw_below_drewN | apply below_drew1 | refine below_set ?_ GE345.out) | exact HB.out)) hb); clear BK345; clear HB; have HO348 := n0_; have BK345 := n1_; have HB := n2_; clear n0_ n1_ n2_; clear hb ho5))
  go_loopg [5, 6] k (fun kq v5 v6 w' => ∃ (x5_1 : List Int) (x6_1 : Int), v6 = .int .i64 x6_1 ∧ Aside0 (spec_GrdCol.l0 kq a1 x5_1 x6_1 a0_0 a0_1 l0_2 = some r) ∧ Aside0 (kq ≤ k) ∧ Aside0 (Kd.R (Kd.int .i64) 3 w' w.heap.size (fun _ => True) v5 x5_1) ∧ Aside0 (w'.heap[gb345]? = some (.cells #[.int .i64 a0_0, .int .i64 a0_1, (.slice A0_2 l0_2.length c0_2)] 25 (0, 0))) ∧ Aside0 (Below w.heap.size w w'))
  case atStart => exact ⟨(y346), (0), (by first | rfl | (simp; done) | (simp [*]; done)), H', ⟨Nat.le_refl _⟩, ⟨by (with_reducible repeat (first | apply Kd.R_alloc | apply Kd.R_drewN | apply Kd.R_drew)); exact HO348.out⟩, ⟨by (with_reducible repeat (first | refine blk_drewN ?_ _ | refine blk_drew ?_ | refine blk_alloc ?_ _)); exact BK345.out⟩, ⟨by repeat (first | (with_reducible first | exact HB.out | apply below_alloc | apply pw_below_drewN | apply below_drew1 | refine below_set ?_ GE345.out) | exact HB.out)⟩⟩
  case round =>
    clear H'
    try clear c1
    try clear p2
    obtain ⟨x5_1, x6_1, rfl, HA, HK1, HO_5, BK345, HB⟩ := hrel
    cases gk with
    | zero => exact absurd HA.out (by simp [spec_GrdCol.l0])
    | succ k1 =>
      have H := HA.out
      clear HA
      simp only [spec_GrdCol.l0] at H
      have HC6 := Aside0.mk H
      clear H
      go_upto_region 3 with (fail)
      go_cut [16] (fun v16 wc => ∃ (kq : Nat) (x16_5 : Bool), v16 = .bool x16_5 ∧ Aside0 (spec_GrdCol.j1 kq a1 x5_1 x6_1 x16_5 a0_0 a0_1 l0_2 = some r) ∧ Aside0 (kq ≤ k1) ∧ Aside0 (Kd.R (Kd.int .i64) 3 wc w.heap.size (fun _ => True) u5 x5_1) ∧ Aside0 (wc.heap[gb345]? = some (.cells #[.int .i64 a0_0, .int .i64 a0_1, (.slice A0_2 l0_2.length c0_2)] 25 (0, 0))) ∧ Aside0 (Below w.heap.size w wc))
      case first =>
        have H := HC6.out
        clear HC6
        by_cases c7 : x6_1 < a0_0
        · rw [if_pos c7] at H
          have c7b0 : decide (x6_1 < a0_0) = true := decide_eq_true c7
          clear c7
          (first | rw [c7b0] | (simp only [i64_w, i32_w]; rw [c7b0]) | skip)
          have H' := Aside0.mk H
          clear H
          have hcz8_0 : wr.cell? ⟨gb345, 0, none⟩ = some (.int .i64 a0_0) := (blk_cell BK345.out 0).trans rfl
          have hcz8_1 : wr.cell? ⟨gb345, 1, none⟩ = some (.int .i64 a0_1) := (blk_cell BK345.out 1).trans rfl
          have hcz8_2 : wr.cell? ⟨gb345, 2, none⟩ = some (.slice A0_2 l0_2.length c0_2) := (blk_cell BK345.out 2).trans rfl
          have hfz8_0 := blk_frozen BK345.out 0
          have hfz8_1 := blk_frozen BK345.out 1
          have hfz8_2 := blk_frozen BK345.out 2
          go_wp2
          go_meet
          case rel => exact ⟨_, (decide (x6_1 < 8)), (by first | rfl | (simp; done) | (simp [*]; done)), H', ⟨by have := HK1.out; first | omega | exact Nat.le_refl _⟩, ⟨by (with_reducible repeat (first | apply Kd.R_alloc | apply Kd.R_drewN | apply Kd.R_drew)); exact HO_5.out⟩, ⟨by (with_reducible repeat (first | refine blk_drewN ?_ _ | refine blk_drew ?_ | refine blk_alloc ?_ _)); exact BK345.out⟩, ⟨by repeat (first | (with_reducible first | exact HB.out | apply below_alloc | apply pw_below_drewN | apply below_drew1 | refine below_set ?_ GE345.out) | exact HB.out)⟩⟩
        · rw [if_neg c7] at H
          have c7b0 : decide (x6_1 < a0_0) = false := decide_eq_false c7
          clear c7
          (first | rw [c7b0] | (simp only [i64_w, i32_w]; rw [c7b0]) | skip)
          have H' := Aside0.mk H
          clear H
          have hcz9_0 : wr.cell? ⟨gb345, 0, none⟩ = some (.int .i64 a0_0) := (blk_cell BK345.out 0).trans rfl
          have hcz9_1 : wr.cell? ⟨gb345, 1, none⟩ = some (.int .i64 a0_1) := (blk_cell BK345.out 1).trans rfl
          have hcz9_2 : wr.cell? ⟨gb345, 2, none⟩ = some (.slice A0_2 l0_2.length c0_2) := (blk_cell BK345.out 2).trans rfl
          have hfz9_0 := blk_frozen BK345.out 0
          have hfz9_1 := blk_frozen BK345.out 1
          have hfz9_2 := blk_frozen BK345.out 2
          go_wp2
          go_meet
          case rel => exact ⟨_, (false), (by first | rfl | (simp; done) | (simp [*]; done)), H', ⟨by have := HK1.out; first | omega | exact Nat.le_refl _⟩, ⟨by (with_reducible repeat (first | apply Kd.R_alloc | apply Kd.R_drewN | apply Kd.R_drew)); exact HO_5.out⟩, ⟨by (with_reducible repeat (first | refine blk_drewN ?_ _ | refine blk_drew ?_ | refine blk_alloc ?_ _)); exact BK345.out⟩, ⟨by repeat (first | (with_reducible first | exact HB.out | apply below_alloc | apply pw_below_drewN | apply below_drew1 | refine below_set ?_ GE345.out) | exact HB.out)⟩⟩
      case rest =>
        clear HC6
        try clear c1
        try clear p2
        try clear c7
        try clear c7b0
        try clear hcz8_0
        try clear hcz8_1
        try clear hcz8_2
        try clear hcz9_0
        try clear hcz9_1
        try clear hcz9_2
        try clear hfz8_0
        try clear hfz8_1
        try clear hfz8_2
        try clear hfz9_0
        try clear hfz9_1
        try clear hfz9_2
        try clear p2
        obtain ⟨kq, x16_5, rfl, HA, HJ5, HO_5, BK345, HB⟩ := hcut
        cases kq with
        | zero => exact absurd HA.out (by simp [spec_GrdCol.j1])
        | succ kj5 =>
          have H := HA.out
          clear HA
          simp only [spec_GrdCol.j1] at H
          by_cases c10 : x16_5 = true
          · subst c10
            have H1 : ((spec_GrdAt.f kj5 a0_0 a0_1 l0_2 x6_1 a1).bind fun t349 => (if t349 ≥ 0 then (if (x5_1.length : Int) = 0 then (if x5_1.length < 17592186044416 then (spec_GrdCol.l0 kj5 a1 (x5_1 ++ [t349]) (wrap64 (x6_1 + 1)) a0_0 a0_1 l0_2) else (none)) else (if 0 ≤ (wrap64 ((x5_1.length : Int) - 1)) then (if (wrap64 ((x5_1.length : Int) - 1)) < (x5_1.length : Int) then (if (rd x5_1 (wrap64 ((x5_1.length : Int) - 1))) = t349 then (spec_GrdCol.l0 kj5 a1 x5_1 (wrap64 (x6_1 + 1)) a0_0 a0_1 l0_2) else (if x5_1.length < 17592186044416 then (spec_GrdCol.l0 kj5 a1 (x5_1 ++ [t349]) (wrap64 (x6_1 + 1)) a0_0 a0_1 l0_2) else (none))) else (none)) else (none))) else (spec_GrdCol.l0 kj5 a1 x5_1 (wrap64 (x6_1 + 1)) a0_0 a0_1 l0_2))) = some r := by rw [if_pos rfl] at H; exact H
            clear H
            have H := H1
            clear H1
            replace H := Option.bind_eq_some_iff.mp H
            obtain ⟨t349, A110, H⟩ := H
            replace H : (if t349 ≥ 0 then (if (x5_1.length : Int) = 0 then (if x5_1.length < 17592186044416 then (spec_GrdCol.l0 kj5 a1 (x5_1 ++ [t349]) (wrap64 (x6_1 + 1)) a0_0 a0_1 l0_2) else (none)) else (if 0 ≤ (wrap64 ((x5_1.length : Int) - 1)) then (if (wrap64 ((x5_1.length : Int) - 1)) < (x5_1.length : Int) then (if (rd x5_1 (wrap64 ((x5_1.length : Int) - 1))) = t349 then (spec_GrdCol.l0 kj5 a1 x5_1 (wrap64 (x6_1 + 1)) a0_0 a0_1 l0_2) else (if x5_1.length < 17592186044416 then (spec_GrdCol.l0 kj5 a1 (x5_1 ++ [t349]) (wrap64 (x6_1 + 1)) a0_0 a0_1 l0_2) else (none))) else (none)) else (none))) else (spec_GrdCol.l0 kj5 a1 x5_1 (wrap64 (x6_1 + 1)) a0_0 a0_1 l0_2)) = some r := H
            have A11 := Aside0.mk A110
            clear A110
            by_cases c12 : t349 ≥ 0
            · rw [if_pos c12] at H
              have c12b0 : decide (0 ≤ t349) = true := decide_eq_true c12
              clear c12
              by_cases c13 : (x5_1.length : Int) = 0
              · rw [if_pos c13] at H
                have c13b0 : ((x5_1.length : Int) == 0) = true := beq_iff_eq.mpr c13
                have c13b1 : ((x5_1.length : Int) != 0) = false := bne_eq_false_iff_eq.mpr c13
                clear c13
                by_cases c14 : x5_1.length < 17592186044416
                · rw [if_pos c14] at H
                  have LMc14 := Aside0.mk c14
                  clear c14
                  obtain ⟨y350, hy350⟩ : ∃ y_ : List Int, y_ = (x5_1 ++ [t349]) := ⟨_, rfl⟩
                  replace H : (spec_GrdCol.l0 kj5 a1 y350 (wrap64 (x6_1 + 1)) a0_0 a0_1 l0_2) = some r := by first | (rw [hy350]; with_reducible exact H) | (have H2_ := (Option.bind_some _ _).symm.trans H; rw [hy350]; with_reducible exact H2_) | (have H2_ := (Option.bind_some _ _).symm.trans H; with_reducible exact H2_) | with_reducible exact H | (rw [hy350]; exact H) | exact H
                  have Ny350 := Aside0.mk hy350
                  clear hy350
                  have H' := Aside0.mk H
                  clear H
                  have hcz15_0 : wc.cell? ⟨gb345, 0, none⟩ = some (.int .i64 a0_0) := (blk_cell BK345.out 0).trans rfl
                  have hcz15_1 : wc.cell? ⟨gb345, 1, none⟩ = some (.int .i64 a0_1) := (blk_cell BK345.out 1).trans rfl
                  have hcz15_2 : wc.cell? ⟨gb345, 2, none⟩ = some (.slice A0_2 l0_2.length c0_2) := (blk_cell BK345.out 2).trans rfl
                  have hfz15_0 := blk_frozen BK345.out 0
                  have hfz15_1 := blk_frozen BK345.out 1
                  have hfz15_2 := blk_frozen BK345.out 2
                  go_wp2_with (first | ((with_reducible refine gate_callee (f := 21) rfl ?_); refine goesL_ (some 22) rfl rfl Tryd.func21 (by kernel_rfl) rfl #[.agg #[.int .i64 a0_0, .int .i64 a0_1, .slice A0_2 l0_2.length c0_2], .int .i64 x6_1, .int .i64 a1] rfl (by (try simp only [List.map_toArray, List.map_cons, List.map_nil]); first | done | rfl | (simp only [List.length_drop, List.length_take]; rfl)) ?_; (with_reducible refine (spec_GrdAt.calls kj5 a0_0 a0_1 _ _ l0_2 x6_1 a1 t349 _ ?side1 ?side2 A11.out).mono ?_); (case side1 => repeat (first | exact HR0_2.out | exact (Kd.C_below HR0_2.out HB.out) | (with_reducible refine Kd.C_alloc ?_ _) | (with_reducible refine Kd.C_drewN ?_ _) | (with_reducible refine Kd.C_drew ?_))); (case side2 => exact HC0_2.out); rintro e w16 ⟨rfl, hb⟩; refine ⟨_, rfl, ?_⟩; have n0_ := Aside0.mk (Kd.R_below (by (with_reducible repeat (first | apply Kd.R_alloc | apply Kd.R_drewN | apply Kd.R_drew)); exact HO_5.out) hb); have n1_ := Aside0.mk (blk_below (g := gb345) (o := .cells #[.int .i64 a0_0, .int .i64 a0_1, .slice A0_2 l0_2.length c0_2] 25 (0, 0)) (by (with_reducible repeat (first | refine blk_drewN ?_ _ | refine blk_drew ?_ | refine blk_alloc ?_ _)); exact BK345.out) hb); have n2_ := Aside0.mk (below_step (by repeat (first | (with_reducible first | exact HB.out | apply below_alloc | apply pw_below_drewN | apply below_drew1 | refine below_set ?_ GE345.out) | exact HB.out)) hb); clear HO_5; clear BK345; clear HB; have HO_5 := n0_; have BK345 := n1_; have HB := n2_; clear n0_ n1_ n2_; (try clear hb); (try clear hb2); (try clear hk); (try clear hi); obtain ⟨Ao17, co17, eo17⟩ := Kd.R_slice HO_5.out; subst eo17) | ((with_reducible refine gate_builtin (b := .append) (xs := #[.tmp 40, .tmp 42]) rfl ?_); (try (refine gate_guard (by rfl) ?_; dsimp only)); at_builtin; refine Kd.R_append (Kd.int .i64) (w0 := w) w.heap.size rfl (.tmp 40) (.tmp 42) 28 3 (.int .i64 0) 8 rfl Tryd.underlying28 info3 rfl (by decide) (by omega) (.slice Ao17 x5_1.length co17) x5_1 t349 [.int .i64 t349] (fun _ => True) (fun _ => False) rfl rfl ?aP (fun _ hk => hk.elim) ?aF ?aO ?aB ?aS ?aL ?_; (case aP => exact rfl); (case aB => exact (by repeat (first | (with_reducible first | exact HB.out | apply below_alloc | apply pw_below_drewN | apply below_drew1 | refine below_set ?_ GE345.out) | exact HB.out))); (case aF => exact (fun _ _ => trivial)); (case aO => exact (by (with_reducible repeat (first | apply Kd.R_alloc | apply Kd.R_drewN | apply Kd.R_drew)); exact HO_5.out)); (case aS => exact (below_size (by repeat (first | (with_reducible first | exact HB.out | apply below_alloc | apply pw_below_drewN | apply below_drew1 | refine below_set ?_ GE345.out) | exact HB.out)))); (case aL => have := LMc14.out; omega); intro v351 w18 ho hb hg hat; rw [← Ny350.out] at ho; have n0_ := Aside0.mk (blk_grown (g := gb345) (o := .cells #[.int .i64 a0_0, .int .i64 a0_1, .slice A0_2 l0_2.length c0_2] 25 (0, 0)) (by (with_reducible repeat (first | refine blk_drewN ?_ _ | refine blk_drew ?_ | refine blk_alloc ?_ _)); exact BK345.out) hg (Kd.R_ne HO_5.out BK345.out (by decide))); have n1_ := Aside0.mk (hb); have n2_ := Aside0.mk (ho); clear BK345; clear HB; clear HO_5; have BK345 := n0_; have HB := n1_; have HO352 := n2_; clear n0_ n1_ n2_; clear ho hb hg hat))
                  go_roundg kj5
                  case measure => have := HK1.out; have := HJ5.out; omega
                  case rel => exact ⟨(y350), (wrap64 (x6_1 + 1)), (by first | rfl | (simp; done) | (simp [*]; done)), H', ⟨by have := HK1.out; have := HJ5.out; omega⟩, ⟨by (with_reducible repeat (first | apply Kd.R_alloc | apply Kd.R_drewN | apply Kd.R_drew)); exact HO352.out⟩, ⟨by (with_reducible repeat (first | refine blk_drewN ?_ _ | refine blk_drew ?_ | refine blk_alloc ?_ _)); exact BK345.out⟩, ⟨by repeat (first | (with_reducible first | exact HB.out | apply below_alloc | apply pw_below_drewN | apply below_drew1 | refine below_set ?_ GE345.out) | exact HB.out)⟩⟩
                · rw [if_neg c14] at H
                  exact absurd H (by simp)
              · rw [if_neg c13] at H
                have c13b0 : ((x5_1.length : Int) == 0) = false := beq_eq_false_iff_ne.mpr c13
                have c13b1 : ((x5_1.length : Int) != 0) = true := bne_iff_ne.mpr c13
                have c13b2 : ¬ (x5_1 = []) := fun h_ => c13 (by rw [h_]; rfl)
                obtain ⟨ji19, hji19⟩ : ∃ j_ : Int, (wrap64 ((x5_1.length : Int) - 1)) = j_ := ⟨_, rfl⟩
                replace H : (if 0 ≤ (ji19) then (if (ji19) < (x5_1.length : Int) then (if (rd x5_1 (ji19)) = t349 then (spec_GrdCol.l0 kj5 a1 x5_1 (wrap64 (x6_1 + 1)) a0_0 a0_1 l0_2) else (if x5_1.length < 17592186044416 then (spec_GrdCol.l0 kj5 a1 (x5_1 ++ [t349]) (wrap64 (x6_1 + 1)) a0_0 a0_1 l0_2) else (none))) else (none)) else (none)) = some r := by first | (rw [hji19] at H; exact H) | (simp only [hji19] at H ⊢; exact H)
                (try rw [hji19] at A11)
                have hji19w : (IntKind.i64.wrap ((x5_1.length : Int) - 1)) = ji19 := (i64_w _).trans hji19
                by_cases c20 : 0 ≤ (ji19)
                · rw [if_pos c20] at H
                  have c20b0 : decide (0 ≤ (ji19)) = true := decide_eq_true c20
                  clear c20
                  by_cases c21 : (ji19) < (x5_1.length : Int)
                  · rw [if_pos c21] at H
                    have c21b0 : decide ((ji19) < (x5_1.length : Int)) = true := decide_eq_true c21
                    clear c21
                    by_cases c22 : (rd x5_1 (ji19)) = t349
                    · rw [if_pos c22] at H
                      have c22b0 : ((rd x5_1 (ji19)) == t349) = true := beq_iff_eq.mpr c22
                      have c22b1 : ((rd x5_1 (ji19)) != t349) = false := bne_eq_false_iff_eq.mpr c22
                      clear c22
                      have H' := Aside0.mk H
                      clear H
                      have hcz23_0 : wc.cell? ⟨gb345, 0, none⟩ = some (.int .i64 a0_0) := (blk_cell BK345.out 0).trans rfl
                      have hcz23_1 : wc.cell? ⟨gb345, 1, none⟩ = some (.int .i64 a0_1) := (blk_cell BK345.out 1).trans rfl
                      have hcz23_2 : wc.cell? ⟨gb345, 2, none⟩ = some (.slice A0_2 l0_2.length c0_2) := (blk_cell BK345.out 2).trans rfl
                      have hfz23_0 := blk_frozen BK345.out 0
                      have hfz23_1 := blk_frozen BK345.out 1
                      have hfz23_2 := blk_frozen BK345.out 2
                      go_wp2_with (first | ((with_reducible refine gate_callee (f := 21) rfl ?_); refine goesL_ (some 22) rfl rfl Tryd.func21 (by kernel_rfl) rfl #[.agg #[.int .i64 a0_0, .int .i64 a0_1, .slice A0_2 l0_2.length c0_2], .int .i64 x6_1, .int .i64 a1] rfl (by (try simp only [List.map_toArray, List.map_cons, List.map_nil]); first | done | rfl | (simp only [List.length_drop, List.length_take]; rfl)) ?_; (with_reducible refine (spec_GrdAt.calls kj5 a0_0 a0_1 _ _ l0_2 x6_1 a1 t349 _ ?side1 ?side2 A11.out).mono ?_); (case side1 => repeat (first | exact HR0_2.out | exact (Kd.C_below HR0_2.out HB.out) | (with_reducible refine Kd.C_alloc ?_ _) | (with_reducible refine Kd.C_drewN ?_ _) | (with_reducible refine Kd.C_drew ?_))); (case side2 => exact HC0_2.out); rintro e w24 ⟨rfl, hb⟩; refine ⟨_, rfl, ?_⟩; have n0_ := Aside0.mk (Kd.R_below (by (with_reducible repeat (first | apply Kd.R_alloc | apply Kd.R_drewN | apply Kd.R_drew)); exact HO_5.out) hb); have n1_ := Aside0.mk (blk_below (g := gb345) (o := .cells #[.int .i64 a0_0, .int .i64 a0_1, .slice A0_2 l0_2.length c0_2] 25 (0, 0)) (by (with_reducible repeat (first | refine blk_drewN ?_ _ | refine blk_drew ?_ | refine blk_alloc ?_ _)); exact BK345.out) hb); have n2_ := Aside0.mk (below_step (by repeat (first | (with_reducible first | exact HB.out | apply below_alloc | apply pw_below_drewN | apply below_drew1 | refine below_set ?_ GE345.out) | exact HB.out)) hb); clear HO_5; clear BK345; clear HB; have HO_5 := n0_; have BK345 := n1_; have HB := n2_; clear n0_ n1_ n2_; (try clear hb); (try clear hb2); (try clear hk); (try clear hi); obtain ⟨Ao25, co25, eo25⟩ := Kd.R_slice HO_5.out; subst eo25; have p353 : 0 ≤ ((ji19) : Int) := of_decide_eq_true (by first | (with_reducible assumption) | assumption); have q353 : (ji19) < (x5_1.length : Int) := of_decide_eq_true (by first | (with_reducible assumption) | assumption); obtain ⟨ad353, e353, hx353_0⟩ := Kd.at_int (Kd.R_reads' HO_5.out).2.2 (ji19) p353 q353; cases e353; replace p353 := eq_true p353; replace q353 := eq_true q353))
                      go_roundg kj5
                      case measure => have := HK1.out; have := HJ5.out; omega
                      case rel => exact ⟨(x5_1), (wrap64 (x6_1 + 1)), (by first | rfl | (simp; done) | (simp [*]; done)), H', ⟨by have := HK1.out; have := HJ5.out; omega⟩, ⟨by (with_reducible repeat (first | apply Kd.R_alloc | apply Kd.R_drewN | apply Kd.R_drew)); exact HO_5.out⟩, ⟨by (with_reducible repeat (first | refine blk_drewN ?_ _ | refine blk_drew ?_ | refine blk_alloc ?_ _)); exact BK345.out⟩, ⟨by repeat (first | (with_reducible first | exact HB.out | apply below_alloc | apply pw_below_drewN | apply below_drew1 | refine below_set ?_ GE345.out) | exact HB.out)⟩⟩
                    · rw [if_neg c22] at H
                      have c22b0 : ((rd x5_1 (ji19)) == t349) = false := beq_eq_false_iff_ne.mpr c22
                      have c22b1 : ((rd x5_1 (ji19)) != t349) = true := bne_iff_ne.mpr c22
                      by_cases c26 : x5_1.length < 17592186044416
                      · rw [if_pos c26] at H
                        have LMc26 := Aside0.mk c26
                        clear c26
                        obtain ⟨y354, hy354⟩ : ∃ y_ : List Int, y_ = (x5_1 ++ [t349]) := ⟨_, rfl⟩
                        replace H : (spec_GrdCol.l0 kj5 a1 y354 (wrap64 (x6_1 + 1)) a0_0 a0_1 l0_2) = some r := by first | (rw [hy354]; with_reducible exact H) | (have H2_ := (Option.bind_some _ _).symm.trans H; rw [hy354]; with_reducible exact H2_) | (have H2_ := (Option.bind_some _ _).symm.trans H; with_reducible exact H2_) | with_reducible exact H | (rw [hy354]; exact H) | exact H
                        have Ny354 := Aside0.mk hy354
                        clear hy354
                        have H' := Aside0.mk H
                        clear H
                        have hcz27_0 : wc.cell? ⟨gb345, 0, none⟩ = some (.int .i64 a0_0) := (blk_cell BK345.out 0).trans rfl
                        have hcz27_1 : wc.cell? ⟨gb345, 1, none⟩ = some (.int .i64 a0_1) := (blk_cell BK345.out 1).trans rfl
                        have hcz27_2 : wc.cell? ⟨gb345, 2, none⟩ = some (.slice A0_2 l0_2.length c0_2) := (blk_cell BK345.out 2).trans rfl
                        have hfz27_0 := blk_frozen BK345.out 0
                        have hfz27_1 := blk_frozen BK345.out 1
                        have hfz27_2 := blk_frozen BK345.out 2
                        go_wp2_with (first | ((with_reducible refine gate_callee (f := 21) rfl ?_); refine goesL_ (some 22) rfl rfl Tryd.func21 (by kernel_rfl) rfl #[.agg #[.int .i64 a0_0, .int .i64 a0_1, .slice A0_2 l0_2.length c0_2], .int .i64 x6_1, .int .i64 a1] rfl (by (try simp only [List.map_toArray, List.map_cons, List.map_nil]); first | done | rfl | (simp only [List.length_drop, List.length_take]; rfl)) ?_; (with_reducible refine (spec_GrdAt.calls kj5 a0_0 a0_1 _ _ l0_2 x6_1 a1 t349 _ ?side1 ?side2 A11.out).mono ?_); (case side1 => repeat (first | exact HR0_2.out | exact (Kd.C_below HR0_2.out HB.out) | (with_reducible refine Kd.C_alloc ?_ _) | (with_reducible refine Kd.C_drewN ?_ _) | (with_reducible refine Kd.C_drew ?_))); (case side2 => exact HC0_2.out); rintro e w28 ⟨rfl, hb⟩; refine ⟨_, rfl, ?_⟩; have n0_ := Aside0.mk (Kd.R_below (by (with_reducible repeat (first | apply Kd.R_alloc | apply Kd.R_drewN | apply Kd.R_drew)); exact HO_5.out) hb); have n1_ := Aside0.mk (blk_below (g := gb345) (o := .cells #[.int .i64 a0_0, .int .i64 a0_1, .slice A0_2 l0_2.length c0_2] 25 (0, 0)) (by (with_reducible repeat (first | refine blk_drewN ?_ _ | refine blk_drew ?_ | refine blk_alloc ?_ _)); exact BK345.out) hb); have n2_ := Aside0.mk (below_step (by repeat (first | (with_reducible first | exact HB.out | apply below_alloc | apply pw_below_drewN | apply below_drew1 | refine below_set ?_ GE345.out) | exact HB.out)) hb); clear HO_5; clear BK345; clear HB; have HO_5 := n0_; have BK345 := n1_; have HB := n2_; clear n0_ n1_ n2_; (try clear hb); (try clear hb2); (try clear hk); (try clear hi); obtain ⟨Ao29, co29, eo29⟩ := Kd.R_slice HO_5.out; subst eo29; have p353 : 0 ≤ ((ji19) : Int) := of_decide_eq_true (by first | (with_reducible assumption) | assumption); have q353 : (ji19) < (x5_1.length : Int) := of_decide_eq_true (by first | (with_reducible assumption) | assumption); obtain ⟨ad353, e353, hx353_0⟩ := Kd.at_int (Kd.R_reads' HO_5.out).2.2 (ji19) p353 q353; cases e353; replace p353 := eq_true p353; replace q353 := eq_true q353) | ((with_reducible refine gate_builtin (b := .append) (xs := #[.tmp 40, .tmp 42]) rfl ?_); (try (refine gate_guard (by rfl) ?_; dsimp only)); at_builtin; refine Kd.R_append (Kd.int .i64) (w0 := w) w.heap.size rfl (.tmp 40) (.tmp 42) 28 3 (.int .i64 0) 8 rfl Tryd.underlying28 info3 rfl (by decide) (by omega) (.slice (some ad353) x5_1.length co29) x5_1 t349 [.int .i64 t349] (fun _ => True) (fun _ => False) rfl rfl ?aP (fun _ hk => hk.elim) ?aF ?aO ?aB ?aS ?aL ?_; (case aP => exact rfl); (case aB => exact (by repeat (first | (with_reducible first | exact HB.out | apply below_alloc | apply pw_below_drewN | apply below_drew1 | refine below_set ?_ GE345.out) | exact HB.out))); (case aF => exact (fun _ _ => trivial)); (case aO => exact (by (with_reducible repeat (first | apply Kd.R_alloc | apply Kd.R_drewN | apply Kd.R_drew)); exact HO_5.out)); (case aS => exact (below_size (by repeat (first | (with_reducible first | exact HB.out | apply below_alloc | apply pw_below_drewN | apply below_drew1 | refine below_set ?_ GE345.out) | exact HB.out)))); (case aL => have := LMc26.out; omega); intro v355 w30 ho hb hg hat; rw [← Ny354.out] at ho; have n0_ := Aside0.mk (blk_grown (g := gb345) (o := .cells #[.int .i64 a0_0, .int .i64 a0_1, .slice A0_2 l0_2.length c0_2] 25 (0, 0)) (by (with_reducible repeat (first | refine blk_drewN ?_ _ | refine blk_drew ?_ | refine blk_alloc ?_ _)); exact BK345.out) hg (Kd.R_ne HO_5.out BK345.out (by decide))); have n1_ := Aside0.mk (hb); have n2_ := Aside0.mk (ho); clear BK345; clear HB; clear HO_5; have BK345 := n0_; have HB := n1_; have HO356 := n2_; clear n0_ n1_ n2_; clear ho hb hg hat))
                        go_roundg kj5
                        case measure => have := HK1.out; have := HJ5.out; omega
                        case rel => exact ⟨(y354), (wrap64 (x6_1 + 1)), (by first | rfl | (simp; done) | (simp [*]; done)), H', ⟨by have := HK1.out; have := HJ5.out; omega⟩, ⟨by (with_reducible repeat (first | apply Kd.R_alloc | apply Kd.R_drewN | apply Kd.R_drew)); exact HO356.out⟩, ⟨by (with_reducible repeat (first | refine blk_drewN ?_ _ | refine blk_drew ?_ | refine blk_alloc ?_ _)); exact BK345.out⟩, ⟨by repeat (first | (with_reducible first | exact HB.out | apply below_alloc | apply pw_below_drewN | apply below_drew1 | refine below_set ?_ GE345.out) | exact HB.out)⟩⟩
                      · rw [if_neg c26] at H
                        exact absurd H (by simp)
                  · rw [if_neg c21] at H
                    exact absurd H (by simp)
                · rw [if_neg c20] at H
                  exact absurd H (by simp)
            · rw [if_neg c12] at H
              have c12b0 : decide (0 ≤ t349) = false := decide_eq_false c12
              clear c12
              have H' := Aside0.mk H
              clear H
              have hcz31_0 : wc.cell? ⟨gb345, 0, none⟩ = some (.int .i64 a0_0) := (blk_cell BK345.out 0).trans rfl
              have hcz31_1 : wc.cell? ⟨gb345, 1, none⟩ = some (.int .i64 a0_1) := (blk_cell BK345.out 1).trans rfl
              have hcz31_2 : wc.cell? ⟨gb345, 2, none⟩ = some (.slice A0_2 l0_2.length c0_2) := (blk_cell BK345.out 2).trans rfl
              have hfz31_0 := blk_frozen BK345.out 0
              have hfz31_1 := blk_frozen BK345.out 1
              have hfz31_2 := blk_frozen BK345.out 2
              go_wp2_with (first | ((with_reducible refine gate_callee (f := 21) rfl ?_); refine goesL_ (some 22) rfl rfl Tryd.func21 (by kernel_rfl) rfl #[.agg #[.int .i64 a0_0, .int .i64 a0_1, .slice A0_2 l0_2.length c0_2], .int .i64 x6_1, .int .i64 a1] rfl (by (try simp only [List.map_toArray, List.map_cons, List.map_nil]); first | done | rfl | (simp only [List.length_drop, List.length_take]; rfl)) ?_; (with_reducible refine (spec_GrdAt.calls kj5 a0_0 a0_1 _ _ l0_2 x6_1 a1 t349 _ ?side1 ?side2 A11.out).mono ?_); (case side1 => repeat (first | exact HR0_2.out | exact (Kd.C_below HR0_2.out HB.out) | (with_reducible refine Kd.C_alloc ?_ _) | (with_reducible refine Kd.C_drewN ?_ _) | (with_reducible refine Kd.C_drew ?_))); (case side2 => exact HC0_2.out); rintro e w32 ⟨rfl, hb⟩; refine ⟨_, rfl, ?_⟩; have n0_ := Aside0.mk (Kd.R_below (by (with_reducible repeat (first | apply Kd.R_alloc | apply Kd.R_drewN | apply Kd.R_drew)); exact HO_5.out) hb); have n1_ := Aside0.mk (blk_below (g := gb345) (o := .cells #[.int .i64 a0_0, .int .i64 a0_1, .slice A0_2 l0_2.length c0_2] 25 (0, 0)) (by (with_reducible repeat (first | refine blk_drewN ?_ _ | refine blk_drew ?_ | refine blk_alloc ?_ _)); exact BK345.out) hb); have n2_ := Aside0.mk (below_step (by repeat (first | (with_reducible first | exact HB.out | apply below_alloc | apply pw_below_drewN | apply below_drew1 | refine below_set ?_ GE345.out) | exact HB.out)) hb); clear HO_5; clear BK345; clear HB; have HO_5 := n0_; have BK345 := n1_; have HB := n2_; clear n0_ n1_ n2_; (try clear hb); (try clear hb2); (try clear hk); (try clear hi)))
              go_roundg kj5
              case measure => have := HK1.out; have := HJ5.out; omega
              case rel => exact ⟨(x5_1), (wrap64 (x6_1 + 1)), (by first | rfl | (simp; done) | (simp [*]; done)), H', ⟨by have := HK1.out; have := HJ5.out; omega⟩, ⟨by (with_reducible repeat (first | apply Kd.R_alloc | apply Kd.R_drewN | apply Kd.R_drew)); exact HO_5.out⟩, ⟨by (with_reducible repeat (first | refine blk_drewN ?_ _ | refine blk_drew ?_ | refine blk_alloc ?_ _)); exact BK345.out⟩, ⟨by repeat (first | (with_reducible first | exact HB.out | apply below_alloc | apply pw_below_drewN | apply below_drew1 | refine below_set ?_ GE345.out) | exact HB.out)⟩⟩
          · replace c10 := Bool.eq_false_iff.mpr c10
            subst c10
            have H1 : (some x5_1) = some r := by rw [if_neg (show ¬ (false = true) by decide)] at H; exact H
            clear H
            have H := H1
            clear H1
            obtain rfl := Option.some.inj H
            go_wp2
            go_ret
            exact ⟨_, by first | rfl | (simp [errW_none, errW_some] <;> rfl) | (simp [*, errW_none, errW_some] <;> rfl), by (with_reducible repeat (first | apply Kd.R_alloc | apply Kd.R_drewN | apply Kd.R_drew)); exact HO_5.out, by repeat (first | (with_reducible first | exact HB.out | apply below_alloc | apply pw_below_drewN | apply below_drew1 | refine below_set ?_ GE345.out) | exact HB.out)⟩

/-! ### impl_GrdCol: function 7 (by hand) -/
theorem clo_GrdCol (a00 a01 : Int) (A : Option Addr) (c : Nat) (l : List S34) (at_ k : Int) (b1 b2 : Nat) (w : World) (h1 : w.heap[b1]? = some (.cells #[.int .i64 a00, .int .i64 a01, .slice A l.length c] 25 (0, 0))) (h2 : w.cell? ⟨b2, 0, none⟩ = some (.int .i64 at_)) (hr : Kd.C k34 w A l.length l) (hc : l.length ≤ c) :
    Calls Tryd.prog 20 #[.int .i64 k, .pointer (some ⟨b1, 0, none⟩), .pointer (some ⟨b2, 0, none⟩)] w fun e w' => e = .returned (.int .i64 (ppIdx (fun x => ppHasB x k at_) l)) ∧ Below w.heap.size w w' := by
  have hcz0 : w.cell? ⟨b1, 0, none⟩ = some (.int .i64 a00) := (blk_cell h1 0).trans rfl
  have hcz1 : w.cell? ⟨b1, 1, none⟩ = some (.int .i64 a01) := (blk_cell h1 1).trans rfl
  have hcz2 : w.cell? ⟨b1, 2, none⟩ = some (.slice A l.length c) := (blk_cell h1 2).trans rfl
  have hfz0 := blk_frozen h1 0
  have hfz1 := blk_frozen h1 1
  have hfz2 := blk_frozen h1 2
  have hb1 := blk_lt h1
  have hb2 := World.block_lt_of_cell? w _ h2
  have HR := Aside0.mk hr
  have HC := Aside0.mk hc
  clear hr hc h1
  have hu := Tryd.underlying25
  go_enter Tryd.func20, Tryd.ntmps20
  go_wp2_with (go_at_call 19; (with_reducible refine (impl_GrdAt.calls 0 a00 a01 A c l k at_ _ _ ?hr HC.out rfl).mono ?_); (case hr => repeat (first | exact HR.out | (with_reducible refine Kd.C_alloc ?_ _))); rintro e w' ⟨rfl, hb⟩)
  go_ret
  exact ⟨rfl, hb⟩
def impl_GrdCol.f (k : Nat) (a0_0 : Int) (a0_1 : Int) (l0_2 : List S34) (a1 : Int) : Option (List Int) := impl_changes.f (fun j => ppIdx (fun x => ppHasB x j a1) l0_2) k (if 8 < (if a0_0 < 0 then 0 else a0_0) then 8 else (if a0_0 < 0 then 0 else a0_0))
theorem impl_GrdCol.mono : ∀ a0_0 a0_1 a0_2 a1 k, LeO (impl_GrdCol.f k a0_0 a0_1 a0_2 a1) (impl_GrdCol.f (k + 1) a0_0 a0_1 a0_2 a1) := fun _ _ _ _ _ => impl_changes.mono _ _ _
set_option maxHeartbeats 2000000 in
set_option maxRecDepth 100000 in
theorem impl_GrdCol.calls (k : Nat) (a0_0 : Int) (a0_1 : Int) (A0_2 : Option Addr) (c0_2 : Nat) (l0_2 : List (S34)) (a1 : Int) (r : List Int) (w : World) (hr0_2 : Kd.C k34 w A0_2 l0_2.length l0_2) (hc0_2 : l0_2.length ≤ c0_2) (h : impl_GrdCol.f k a0_0 a0_1 l0_2 a1 = some r) :
    Calls Tryd.prog 7 #[.agg #[.int .i64 a0_0, .int .i64 a0_1, .slice A0_2 l0_2.length c0_2], .int .i64 a1] w fun e w' => ∃ v0_ : Value, e = .returned (v0_) ∧ Kd.R (Kd.int .i64) 3 w' w.heap.size (fun _ => True) v0_ r ∧ Below w.heap.size w w' := by
  have HR := Aside0.mk hr0_2
  have HC := Aside0.mk hc0_2
  unfold impl_GrdCol.f at h
  have H := Aside0.mk h
  clear hr0_2 hc0_2 h
  have eg : ∀ args w, (callFunc 20 args).run Tryd.prog w = .ok (.enter 20 args) w := enters_of Tryd.func20 (by kernel_rfl) rfl
  have hu := Tryd.underlying25
  have hp : ∀ (W0 : World), W0.heap[w.heap.size]? = some (.cells #[.int .i64 a0_0, .int .i64 a0_1, .slice A0_2 l0_2.length c0_2] 25 (0, 0)) → W0.cell? ⟨w.heap.size + 1, 0, none⟩ = some (.int .i64 a1) → Kd.C k34 W0 A0_2 l0_2.length l0_2 → ∀ (W : World) (j : Int), Below W0.heap.size W0 W → Calls Tryd.prog 20 (#[.int .i64 j] ++ #[.pointer (some ⟨w.heap.size, 0, none⟩), .pointer (some ⟨w.heap.size + 1, 0, none⟩)]) W fun e W' => e = .returned (.int .i64 ((fun j => ppIdx (fun x => ppHasB x j a1) l0_2) j)) ∧ Below W.heap.size W W' := by
    intro W0 h1 h2 h3 W j hb
    exact clo_GrdCol a0_0 a0_1 A0_2 c0_2 l0_2 a1 j _ _ W (blk_below h1 hb) ((hb.cell (World.block_lt_of_cell? W0 _ h2)).trans h2) (Kd.C_below h3 hb) HC.out
  have HP := Aside0.mk hp
  clear hp
  go_enter Tryd.func7, Tryd.ntmps7
  go_wp2_with (go_at_call 17; (with_reducible refine (impl_changes.calls (fun j => ppIdx (fun x => ppHasB x j a1) l0_2) 20 _ eg k _ r _ (HP.out _ ?h1 ?h2 ?h3) H.out).mono ?_); (case h1 => first | exact blk_alloc (blk_new _ _) _ | exact blk_alloc (blk_alloc (blk_new _ _) _) _ | go_simp); (case h2 => go_simp); (case h3 => repeat (first | exact HR.out | (with_reducible refine Kd.C_alloc ?_ _))); rintro e w' ⟨v_, rfl, ho, hb⟩)
  all_goals (go_ret; exact ⟨_, rfl, Kd.R_lower ho (below_alloc (below_alloc (Below.refl w.heap.size w) _) _).size, below_step (below_alloc (below_alloc (Below.refl _ _) _) _) hb⟩)

/-! ### laws_pwInts: function 8 -/
def laws_pwInts.l0 : Nat → List Int → List Int → Int → Option (Bool)
  | 0, _, _, _ => none
  | k + 1, x0, x1, x5 => if x5 < (x0.length : Int) then (if 0 ≤ x5 then (if x5 < (x1.length : Int) then (if (rd x0 x5) = (rd x1 x5) then (laws_pwInts.l0 k x0 x1 (wrap64 (x5 + 1))) else (some false)) else (none)) else (none)) else (some true)
def laws_pwInts.f (k : Nat) (l0 : List Int) (l1 : List Int) : Option (Bool) := if (l0.length : Int) = (l1.length : Int) then (laws_pwInts.l0 k l0 l1 0) else (some false)
theorem laws_pwInts.mono_l : ∀ k, (∀ y0 y1 y2, LeO (laws_pwInts.l0 k y0 y1 y2) (laws_pwInts.l0 (k + 1) y0 y1 y2))
  | 0 => fun _ _ _ r h => by simp [laws_pwInts.l0] at h
  | k + 1 => by
    have ih0 := laws_pwInts.mono_l k
    · intro y0 y1 y2
      unfold laws_pwInts.l0
      repeat' first
      | (with_reducible exact ih0 _ _ _)
      | (with_reducible exact LeO.refl _)
      | (with_reducible exact LeO.none _)
      | (with_reducible refine LeO.ite ?_ ?_)
      | (with_reducible refine LeO.bind ?_ (fun _ => ?_))
      | exact ih0 _ _ _
      | exact LeO.none _
      | refine LeO.ite ?_ ?_
      | refine LeO.bind ?_ (fun _ => ?_)
theorem laws_pwInts.mono : ∀ a0 a1 k, LeO (laws_pwInts.f k a0 a1) (laws_pwInts.f (k + 1) a0 a1) := by
  intro a0 a1 k
  have ih0 := laws_pwInts.mono_l k
  unfold laws_pwInts.f
  repeat' first
      | (with_reducible exact ih0 _ _ _)
      | (with_reducible exact LeO.refl _)
      | (with_reducible exact LeO.none _)
      | (with_reducible refine LeO.ite ?_ ?_)
      | (with_reducible refine LeO.bind ?_ (fun _ => ?_))
      | exact ih0 _ _ _
      | exact LeO.none _
      | refine LeO.ite ?_ ?_
      | refine LeO.bind ?_ (fun _ => ?_)
set_option maxHeartbeats 8000000 in
set_option maxRecDepth 100000 in
theorem laws_pwInts.calls (k : Nat) (A0 : Option Addr) (c0 : Nat) (l0 : List Int) (A1 : Option Addr) (c1 : Nat) (l1 : List Int) (r : Bool) (w : World) (hr0 : Kd.C (Kd.int .i64) w A0 l0.length l0) (hc0 : l0.length ≤ c0) (hr1 : Kd.C (Kd.int .i64) w A1 l1.length l1) (hc1 : l1.length ≤ c1) (h : laws_pwInts.f k l0 l1 = some r) :
    Calls Tryd.prog 8 #[.slice A0 l0.length c0, .slice A1 l1.length c1] w fun e w' => e = .returned (.bool r) ∧ Drawn0 w w' := by
  have HR0 := Aside0.mk hr0
  have HC0 := Aside0.mk hc0
  clear hr0 hc0
  have HR1 := Aside0.mk hr1
  have HC1 := Aside0.mk hc1
  clear hr1 hc1
  have H : (if (l0.length : Int) = (l1.length : Int) then (laws_pwInts.l0 k l0 l1 0) else (some false)) = some r := h
  clear h
  by_cases c3 : (l0.length : Int) = (l1.length : Int)
  · rw [if_pos c3] at H
    have c3b0 : ((l0.length : Int) == (l1.length : Int)) = true := beq_iff_eq.mpr c3
    have c3b1 : ((l0.length : Int) != (l1.length : Int)) = false := bne_eq_false_iff_eq.mpr c3
    have c3b2 : (l0.length == l1.length) = true := by first | simpa using c3 | (simp at c3 ⊢; omega)
    clear c3
    have H' := Aside0.mk H
    clear H
    go_enter Tryd.func8, Tryd.ntmps8
    go_wp2
    repeat (go_quiet (fail); try go_wp2)
    go_loopg [5] k (fun kq v5 w' => ∃ (x5_1 : Int), v5 = .int .i64 x5_1 ∧ Aside0 (laws_pwInts.l0 kq l0 l1 x5_1 = some r) ∧ Aside0 (kq ≤ k) ∧ Drawn0 w w')
    case atStart => exact ⟨(0), (by first | rfl | (simp; done) | (simp [*]; done)), H', ⟨Nat.le_refl _⟩, by repeat (first | exact Drawn0.refl _ | apply Drawn0.step)⟩
    case round =>
      clear H'
      try clear c1
      try clear p2
      try clear c3
      try clear c3b0
      try clear c3b1
      try clear c3b2
      obtain ⟨x5_1, rfl, HA, HK1, ⟨m1, rfl⟩⟩ := hrel
      cases gk with
      | zero => exact absurd HA.out (by simp [laws_pwInts.l0])
      | succ k1 =>
        have H := HA.out
        clear HA
        simp only [laws_pwInts.l0] at H
        by_cases c4 : x5_1 < (l0.length : Int)
        · rw [if_pos c4] at H
          have c4b0 : decide (x5_1 < (l0.length : Int)) = true := decide_eq_true c4
          clear c4
          by_cases c5 : 0 ≤ x5_1
          · rw [if_pos c5] at H
            have c5b0 : decide (0 ≤ x5_1) = true := decide_eq_true c5
            clear c5
            by_cases c6 : x5_1 < (l1.length : Int)
            · rw [if_pos c6] at H
              have c6b0 : decide (x5_1 < (l1.length : Int)) = true := decide_eq_true c6
              clear c6
              by_cases c7 : (rd l0 x5_1) = (rd l1 x5_1)
              · rw [if_pos c7] at H
                have c7b0 : ((rd l0 x5_1) == (rd l1 x5_1)) = true := beq_iff_eq.mpr c7
                have c7b1 : ((rd l0 x5_1) != (rd l1 x5_1)) = false := bne_eq_false_iff_eq.mpr c7
                clear c7
                have H' := Aside0.mk H
                clear H
                have p369 : 0 ≤ (x5_1 : Int) := of_decide_eq_true (by first | (with_reducible assumption) | assumption)
                have q369 : x5_1 < (l0.length : Int) := of_decide_eq_true (by first | (with_reducible assumption) | assumption)
                obtain ⟨ad369, e369, hx369_0⟩ := Kd.at_int HR0.out x5_1 p369 q369
                cases e369
                replace p369 := eq_true p369
                replace q369 := eq_true q369
                have p370 : 0 ≤ (x5_1 : Int) := of_decide_eq_true (by first | (with_reducible assumption) | assumption)
                have q370 : x5_1 < (l1.length : Int) := of_decide_eq_true (by first | (with_reducible assumption) | assumption)
                obtain ⟨ad370, e370, hx370_0⟩ := Kd.at_int HR1.out x5_1 p370 q370
                cases e370
                replace p370 := eq_true p370
                replace q370 := eq_true q370
                go_wp2
                repeat (go_quiet (fail); try go_wp2)
                go_roundg k1
                case measure => have := HK1.out; omega
                case rel => exact ⟨(wrap64 (x5_1 + 1)), (by first | rfl | (simp; done) | (simp [*]; done)), H', ⟨by have := HK1.out; omega⟩, by repeat (first | exact Drawn0.refl _ | apply Drawn0.step)⟩
              · rw [if_neg c7] at H
                have c7b0 : ((rd l0 x5_1) == (rd l1 x5_1)) = false := beq_eq_false_iff_ne.mpr c7
                have c7b1 : ((rd l0 x5_1) != (rd l1 x5_1)) = true := bne_iff_ne.mpr c7
                obtain rfl := Option.some.inj H
                have p369 : 0 ≤ (x5_1 : Int) := of_decide_eq_true (by first | (with_reducible assumption) | assumption)
                have q369 : x5_1 < (l0.length : Int) := of_decide_eq_true (by first | (with_reducible assumption) | assumption)
                obtain ⟨ad369, e369, hx369_0⟩ := Kd.at_int HR0.out x5_1 p369 q369
                cases e369
                replace p369 := eq_true p369
                replace q369 := eq_true q369
                have p370 : 0 ≤ (x5_1 : Int) := of_decide_eq_true (by first | (with_reducible assumption) | assumption)
                have q370 : x5_1 < (l1.length : Int) := of_decide_eq_true (by first | (with_reducible assumption) | assumption)
                obtain ⟨ad370, e370, hx370_0⟩ := Kd.at_int HR1.out x5_1 p370 q370
                cases e370
                replace p370 := eq_true p370
                replace q370 := eq_true q370
                go_wp2
                repeat (go_quiet (fail); try go_wp2)
                go_ret
                exact ⟨by first | rfl | (simp [IntKind.wrap_i64, wrap64]; done) | (simp; done) | (simp [*]; done), by repeat (first | exact Drawn0.refl _ | apply Drawn0.step)⟩
            · rw [if_neg c6] at H
              exact absurd H (by simp)
          · rw [if_neg c5] at H
            exact absurd H (by simp)
        · rw [if_neg c4] at H
          have c4b0 : decide (x5_1 < (l0.length : Int)) = false := decide_eq_false c4
          clear c4
          obtain rfl := Option.some.inj H
          go_wp2
          repeat (go_quiet (fail); try go_wp2)
          go_ret
          exact ⟨by first | rfl | (simp [IntKind.wrap_i64, wrap64]; done) | (simp; done) | (simp [*]; done), by repeat (first | exact Drawn0.refl _ | apply Drawn0.step)⟩
  · rw [if_neg c3] at H
    have c3b0 : ((l0.length : Int) == (l1.length : Int)) = false := beq_eq_false_iff_ne.mpr c3
    have c3b1 : ((l0.length : Int) != (l1.length : Int)) = true := bne_iff_ne.mpr c3
    have c3b2 : (l0.length == l1.length) = false := by first | simpa using c3 | (simp at c3 ⊢; omega)
    obtain rfl := Option.some.inj H
    go_enter Tryd.func8, Tryd.ntmps8
    go_wp2
    repeat (go_quiet (fail); try go_wp2)
    go_ret
    exact ⟨by first | rfl | (simp [IntKind.wrap_i64, wrap64]; done) | (simp; done) | (simp [*]; done), by repeat (first | exact Drawn0.refl _ | apply Drawn0.step)⟩

/-! ### impl_in: function 24 -/
def impl_in.f (a0 : Int) (a1 : Int) (a2 : Int) : Option (Bool) := if a0 ≥ a1 then (some (decide (a0 ≤ a2))) else (some false)
set_option maxHeartbeats 8000000 in
set_option maxRecDepth 100000 in
theorem impl_in.calls (a0 : Int) (a1 : Int) (a2 : Int) (r : Bool) (w : World) (h : impl_in.f a0 a1 a2 = some r) :
    Calls Tryd.prog 24 #[.int .i64 a0, .int .i64 a1, .int .i64 a2] w fun e w' => e = .returned (.bool r) ∧ Drawn0 w w' := by
  have H : (if a0 ≥ a1 then (some (decide (a0 ≤ a2))) else (some false)) = some r := h
  clear h
  by_cases c4 : a0 ≥ a1
  · rw [if_pos c4] at H
    have c4b0 : decide (a1 ≤ a0) = true := decide_eq_true c4
    clear c4
    obtain rfl := Option.some.inj H
    go_enter Tryd.func24, Tryd.ntmps24
    go_wp2
    go_ret
    exact ⟨by first | rfl | (simp [IntKind.wrap_i64, wrap64]; done) | (simp; done) | (simp [*]; done), by repeat (first | exact Drawn0.refl _ | apply Drawn0.step)⟩
  · rw [if_neg c4] at H
    have c4b0 : decide (a1 ≤ a0) = false := decide_eq_false c4
    clear c4
    obtain rfl := Option.some.inj H
    go_enter Tryd.func24, Tryd.ntmps24
    go_wp2
    go_ret
    exact ⟨by first | rfl | (simp [IntKind.wrap_i64, wrap64]; done) | (simp; done) | (simp [*]; done), by repeat (first | exact Drawn0.refl _ | apply Drawn0.step)⟩

/-! ### impl_GrdCell_meets: function 26 (by hand) -/
def impl_GrdCell_meets.f (a0_0 : Int) (a0_1 : Int) (a0_2 : Int) (a0_3 : Int) (a0_4 : Int) (a1_0 : Int) (a1_1 : Int) (a1_2 : Int) (a1_3 : Int) (a1_4 : Int) : Option (Bool) := if a0_0 < (wrap64 (a1_0 + a1_2)) then (if a1_0 < (wrap64 (a0_0 + a0_2)) then (if a0_1 < (wrap64 (a1_1 + a1_3)) then (some (decide (a1_1 < (wrap64 (a0_1 + a0_3))))) else (some false)) else (some false)) else (some false)
theorem impl_GrdCell_meets.part {c : Prop} [Decidable c] {f : Option Bool} {r : Bool} (h : (if c then f else some false) = some r) : (decide c = false ∧ r = false) ∨ (decide c = true ∧ f = some r) := by
  by_cases hc : c
  · rw [if_pos hc] at h
    exact .inr ⟨decide_eq_true hc, h⟩
  · rw [if_neg hc] at h
    exact .inl ⟨decide_eq_false hc, (Option.some.inj h).symm⟩
set_option maxHeartbeats 4000000 in
set_option maxRecDepth 100000 in
theorem impl_GrdCell_meets.calls (a0_0 : Int) (a0_1 : Int) (a0_2 : Int) (a0_3 : Int) (a0_4 : Int) (a1_0 : Int) (a1_1 : Int) (a1_2 : Int) (a1_3 : Int) (a1_4 : Int) (r : Bool) (w : World) (h : impl_GrdCell_meets.f a0_0 a0_1 a0_2 a0_3 a0_4 a1_0 a1_1 a1_2 a1_3 a1_4 = some r) :
    Calls Tryd.prog 26 #[.agg #[.int .i64 a0_0, .int .i64 a0_1, .int .i64 a0_2, .int .i64 a0_3, .int .i64 a0_4], .agg #[.int .i64 a1_0, .int .i64 a1_1, .int .i64 a1_2, .int .i64 a1_3, .int .i64 a1_4]] w fun e w' => e = .returned (.bool r) ∧ Below w.heap.size w w' := by
  have hu1 := Tryd.underlying34
  unfold impl_GrdCell_meets.f at h
  obtain ⟨d1, rfl⟩ | ⟨d1, h⟩ := impl_GrdCell_meets.part h
  rotate_left
  obtain ⟨d2, rfl⟩ | ⟨d2, h⟩ := impl_GrdCell_meets.part h
  rotate_left
  obtain ⟨d3, rfl⟩ | ⟨d3, h⟩ := impl_GrdCell_meets.part h
  rotate_left
  obtain rfl := Option.some.inj h
  all_goals
    clear h
    go_enter Tryd.func26, Tryd.ntmps26
    go_wp2
    go_ret
    exact ⟨by first | rfl | (simp [IntKind.wrap_i64, wrap64]; done), by repeat (with_reducible first | exact Below.refl _ _ | apply below_alloc | apply pw_below_drewN | apply below_drew1)⟩


end Go.Proofs.YtkbcmbjoelkgoaaDoor.Q
