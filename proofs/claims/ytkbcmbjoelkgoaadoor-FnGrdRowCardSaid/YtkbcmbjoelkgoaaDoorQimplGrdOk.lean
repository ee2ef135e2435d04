-- Told by a program of this session (uprint.py, ulay.py).
import Derived.Test.YtkbcmbjoelkgoaaDoorQ0
import Derived.Test.YtkbcmbjoelkgoaaDoorQspecl20Open
import Derived.Test.YtkbcmbjoelkgoaaDoorQspecGrdOk
namespace Go.Proofs.YtkbcmbjoelkgoaaDoor.Q
open Go.RowKit Go.Proofs.YtkbcmbjoelkgoaaDoorW.PrintWords Go.Proofs.YtkbcmbjoelkgoaaDoorW.PrintLast Go.Proofs.YtkbcmbjoelkgoaaDoorW.PrintMore
attribute [local go_sem] max2_int min2_int max_two min_two max_three min_three max_four min_four
set_option linter.unusedVariables false
set_option linter.unusedSimpArgs false

/-! ### impl_GrdOk: function 12 (by hand) -/
set_option maxHeartbeats 2000000 in
set_option maxRecDepth 100000 in
/-- slices.IndexFunc over cells at their places, whatever a bound method asks. -/
theorem idxf_cellm (p : S34 → Bool) (g : Nat) (fb : Array Value) (eg : ∀ args w, (callFunc g args).run Tryd.prog w = .ok (.enter g args) w) (A : Option Addr) (c : Nat) (l : List S34) (w : World)
    (hr : Kd.C k34 w A l.length l) (hc : l.length ≤ c)
    (hp : ∀ (W : World) (x : S34), Below w.heap.size w W → Calls Tryd.prog g (fb ++ #[.agg #[.int .i64 x.f0, .int .i64 x.f1, .int .i64 x.f2, .int .i64 x.f3, .int .i64 x.f4]]) W fun e W' => e = .returned (.bool (p x)) ∧ Below w.heap.size w W') :
    Calls Tryd.prog 30 #[.slice A l.length c, .func (.func g) fb #[]] w fun e w' => e = .returned (.int .i64 (ppIdx p l)) ∧ Below w.heap.size w w' := by
  have hbig := hr.2.1
  have HR := Aside0.mk hr
  clear hr
  go_enter Tryd.func30, Tryd.ntmps30
  go_wp2
  go_loopg [5, 8] l.length (fun gg _ s8 wr => ∃ kk : Nat, kk ≤ l.length ∧ l.length - kk ≤ gg ∧ s8 = .int .i64 kk ∧ Aside0 (Below w.heap.size w wr) ∧ Aside0 (∀ j (h : j < l.length), j < kk → p l[j] = false))
  case atStart => exact ⟨0, Nat.zero_le _, by omega, rfl, ⟨Below.refl _ w⟩, ⟨fun j _ hj => absurd hj (Nat.not_lt_zero _)⟩⟩
  case round =>
    obtain ⟨kk, hkk, hg, rfl, BW, AA⟩ := hrel
    by_cases hlt : kk < l.length
    · have hltz : (kk : Int) < (l.length : Int) := by omega
      obtain ⟨ad, e0, h0, h1, h2, h3, h4⟩ := at_T34 HR.out (kk : Int) (by omega) hltz
      cases e0
      replace h0 := (BW.out.cell (World.block_lt_of_cell? w _ h0)).trans h0
      replace h1 := (BW.out.cell (World.block_lt_of_cell? w _ h1)).trans h1
      replace h2 := (BW.out.cell (World.block_lt_of_cell? w _ h2)).trans h2
      replace h3 := (BW.out.cell (World.block_lt_of_cell? w _ h3)).trans h3
      replace h4 := (BW.out.cell (World.block_lt_of_cell? w _ h4)).trans h4
      simp only [Int.toNat_natCast] at h0 h1 h2 h3 h4
      have hcall := hp wr (rd_T34 l (kk : Int)) BW.out
      have hy : rd_T34 l (kk : Int) = l[kk] := by unfold rd_T34; simp [List.getD_eq_getElem?_getD, List.getElem?_eq_getElem hlt]
      generalize rd_T34 l (kk : Int) = y at h0 h1 h2 h3 h4 hcall hy
      have HY := Aside0.mk hy
      clear hy hp
      cases hq : p y with
      | true =>
        rw [hq] at hcall
        go_wp2_with (go_at_fn g; refine hcall.mono ?_; rintro e w' ⟨rfl, hb'⟩)
        go_ret
        refine ⟨?_, hb'⟩
        rw [ppIdx_hit p l kk hlt (by rw [← HY.out]; exact hq) AA.out]
        rfl
      | false =>
        rw [hq] at hcall
        go_wp2_with (go_at_fn g; refine hcall.mono ?_; rintro e w' ⟨rfl, hb'⟩)
        go_roundg (l.length - (kk + 1))
        case measure => omega
        case rel =>
          refine ⟨kk + 1, by omega, by omega, by go_num, ⟨hb'⟩, ⟨fun j h hj => ?_⟩⟩
          by_cases e : j = kk
          · subst e
            rw [← HY.out]; exact hq
          · exact AA.out j h (by omega)
    · have hltz : ¬ (kk : Int) < (l.length : Int) := by omega
      have hk : kk = l.length := by omega
      subst hk
      go_wp2
      go_ret
      refine ⟨?_, BW.out⟩
      rw [ppIdx_miss p l (fun j hj => AA.out j hj hj)]
      rfl
set_option maxHeartbeats 2000000 in
set_option maxRecDepth 100000 in
theorem cntf_cellm (p : S34 → Bool) (g : Nat) (fb : Array Value) (eg : ∀ args w, (callFunc g args).run Tryd.prog w = .ok (.enter g args) w) (A : Option Addr) (c : Nat) (l : List S34) (w : World)
    (hr : Kd.C k34 w A l.length l) (hc : l.length ≤ c)
    (hp : ∀ (W : World) (x : S34), Below w.heap.size w W → Calls Tryd.prog g (fb ++ #[.agg #[.int .i64 x.f0, .int .i64 x.f1, .int .i64 x.f2, .int .i64 x.f3, .int .i64 x.f4]]) W fun e W' => e = .returned (.bool (p x)) ∧ Below w.heap.size w W') :
    Calls Tryd.prog 25 #[.slice A l.length c, .func (.func g) fb #[]] w fun e w' => e = .returned (.bool (decide (0 ≤ ppIdx p l))) ∧ Below w.heap.size w w' := by
  have HR := Aside0.mk hr
  have HC := Aside0.mk hc
  have HP := Aside0.mk hp
  clear hr hc hp
  go_enter Tryd.func25, Tryd.ntmps25
  go_wp2_with (go_at_call 30; (with_reducible refine (idxf_cellm p g fb eg A c l _ HR.out HC.out HP.out).mono ?_); rintro e w' ⟨rfl, hb⟩)
  go_ret
  exact ⟨rfl, hb⟩
/-- The two cells have a slot in common, as the program asks it. -/
def ppMeetB (a b : S34) : Bool := (impl_GrdCell_meets.f a.f0 a.f1 a.f2 a.f3 a.f4 b.f0 b.f1 b.f2 b.f3 b.f4).getD false
theorem ppMeet_some (a b : S34) : impl_GrdCell_meets.f a.f0 a.f1 a.f2 a.f3 a.f4 b.f0 b.f1 b.f2 b.f3 b.f4 = some (ppMeetB a b) := by
  unfold ppMeetB impl_GrdCell_meets.f
  (repeat' split) <;> rfl
def impl_ccells.f (k : Nat) (l : List S34) (a0 a1 a2 a3 a4 : Int) : Option Bool := some (decide (0 ≤ ppIdx (fun x => ppMeetB ⟨a0, a1, a2, a3, a4⟩ x) l))
theorem impl_ccells.mono : ∀ l a0 a1 a2 a3 a4 k, LeO (impl_ccells.f k l a0 a1 a2 a3 a4) (impl_ccells.f (k + 1) l a0 a1 a2 a3 a4) := fun _ _ _ _ _ _ _ => LeO.refl _
theorem impl_ccells.calls (k : Nat) (A : Option Addr) (c : Nat) (l : List S34) (a0 a1 a2 a3 a4 : Int) (r : Bool) (w : World) (hr : Kd.C k34 w A l.length l) (hc : l.length ≤ c) (h : impl_ccells.f k l a0 a1 a2 a3 a4 = some r) :
    Calls Tryd.prog 25 #[.slice A l.length c, .func (.func 26) #[.agg #[.int .i64 a0, .int .i64 a1, .int .i64 a2, .int .i64 a3, .int .i64 a4]] #[]] w fun e w' => e = .returned (.bool r) ∧ Below w.heap.size w w' := by
  obtain rfl := Option.some.inj h
  exact cntf_cellm (fun x => ppMeetB ⟨a0, a1, a2, a3, a4⟩ x) 26 _ (enters_of Tryd.func26 (by kernel_rfl) rfl) A c l w hr hc (fun W x hb => (impl_GrdCell_meets.calls _ _ _ _ _ _ _ _ _ _ _ _ (ppMeet_some ⟨a0, a1, a2, a3, a4⟩ x)).mono fun e W' ⟨he, hb'⟩ => ⟨he, below_then hb hb.size hb'⟩)
mutual
def impl_GrdOk.j0 : Nat → Bool → Int → Int → List (S34) → Option (Bool)
  | 0, _, _, _, _ => none
  | k + 1, x20, x374000, x374001, x374002 => if x20 = true then (some false) else (impl_GrdOk.l0 k x374002 (x374002.length : Int) 0 x374000 x374001 x374002)
def impl_GrdOk.l0 : Nat → List (S34) → Int → Int → Int → Int → List (S34) → Option (Bool)
  | 0, _, _, _, _, _, _ => none
  | k + 1, x22, x23, x24, x374000, x374001, x374002 => if x24 < x23 then (if 0 ≤ x24 then (if x24 < (x22.length : Int) then ((impl_in.f ((rd_T34 x22 x24).f0) 0 (wrap64 (x374000 - 1))).bind fun t378 => (if t378 = true then ((impl_in.f ((rd_T34 x22 x24).f2) 1 (wrap64 (x374000 - ((rd_T34 x22 x24).f0)))).bind fun t379 => (if t379 = true then ((impl_in.f ((rd_T34 x22 x24).f1) 0 (wrap64 (x374001 - 1))).bind fun t380 => (if t380 = true then ((impl_in.f ((rd_T34 x22 x24).f3) 1 (wrap64 (x374001 - ((rd_T34 x22 x24).f1)))).bind fun t381 => (impl_GrdOk.j2 k x24 x22 x23 x24 (!t381) x374000 x374001 x374002 ((rd_T34 x22 x24).f0) ((rd_T34 x22 x24).f1) ((rd_T34 x22 x24).f2) ((rd_T34 x22 x24).f3) ((rd_T34 x22 x24).f4))) else (impl_GrdOk.j2 k x24 x22 x23 x24 true x374000 x374001 x374002 ((rd_T34 x22 x24).f0) ((rd_T34 x22 x24).f1) ((rd_T34 x22 x24).f2) ((rd_T34 x22 x24).f3) ((rd_T34 x22 x24).f4)))) else (impl_GrdOk.j2 k x24 x22 x23 x24 true x374000 x374001 x374002 ((rd_T34 x22 x24).f0) ((rd_T34 x22 x24).f1) ((rd_T34 x22 x24).f2) ((rd_T34 x22 x24).f3) ((rd_T34 x22 x24).f4)))) else (impl_GrdOk.j2 k x24 x22 x23 x24 true x374000 x374001 x374002 ((rd_T34 x22 x24).f0) ((rd_T34 x22 x24).f1) ((rd_T34 x22 x24).f2) ((rd_T34 x22 x24).f3) ((rd_T34 x22 x24).f4)))) else (none)) else (none)) else (some true)
def impl_GrdOk.j2 : Nat → Int → List (S34) → Int → Int → Bool → Int → Int → List (S34) → Int → Int → Int → Int → Int → Option (Bool)
  | 0, _, _, _, _, _, _, _, _, _, _, _, _, _ => none
  | k + 1, x3, x22, x23, x24, x66, x374000, x374001, x374002, x378000, x378001, x378002, x378003, x378004 => if x66 = true then (some false) else ((impl_in.f x378004 0 4).bind fun t382 => (if t382 = true then (if 0 ≤ x3 then (if x3 ≤ (x374002.length : Int) then ((impl_ccells.f k (x374002.take (x3 : Int).toNat) x378000 x378001 x378002 x378003 x378004).bind fun t387 => (if t387 = true then (some false) else (impl_GrdOk.l0 k x22 x23 (wrap64 (x24 + 1)) x374000 x374001 x374002))) else (none)) else (none)) else (some false)))
end
def impl_GrdOk.f (k : Nat) (a0_0 : Int) (a0_1 : Int) (l0_2 : List (S34)) : Option (Bool) := (impl_in.f a0_0 1 8).bind fun t374 => (if t374 = true then ((impl_in.f a0_1 1 94).bind fun t375 => (if t375 = true then (impl_GrdOk.j0 k (decide ((l0_2.length : Int) > 40)) a0_0 a0_1 l0_2) else (impl_GrdOk.j0 k true a0_0 a0_1 l0_2))) else (impl_GrdOk.j0 k true a0_0 a0_1 l0_2))
theorem impl_GrdOk.mono_l : ∀ k, (∀ y0 y1 y2 y3, LeO (impl_GrdOk.j0 k y0 y1 y2 y3) (impl_GrdOk.j0 (k + 1) y0 y1 y2 y3)) ∧ (∀ y0 y1 y2 y3 y4 y5, LeO (impl_GrdOk.l0 k y0 y1 y2 y3 y4 y5) (impl_GrdOk.l0 (k + 1) y0 y1 y2 y3 y4 y5)) ∧ (∀ y0 y1 y2 y3 y4 y5 y6 y7 y8 y9 y10 y11 y12, LeO (impl_GrdOk.j2 k y0 y1 y2 y3 y4 y5 y6 y7 y8 y9 y10 y11 y12) (impl_GrdOk.j2 (k + 1) y0 y1 y2 y3 y4 y5 y6 y7 y8 y9 y10 y11 y12))
  | 0 => ⟨fun _ _ _ _ r h => by simp [impl_GrdOk.j0] at h, fun _ _ _ _ _ _ r h => by simp [impl_GrdOk.l0] at h, fun _ _ _ _ _ _ _ _ _ _ _ _ _ r h => by simp [impl_GrdOk.j2] at h⟩
  | k + 1 => by
    obtain ⟨ih0, ih1, ih2⟩ := impl_GrdOk.mono_l k
    refine ⟨?_, ?_, ?_⟩
    · intro y0 y1 y2 y3
      unfold impl_GrdOk.j0
      repeat' first
      | (with_reducible exact ih0 _ _ _ _)
      | (with_reducible exact ih1 _ _ _ _ _ _)
      | (with_reducible exact ih2 _ _ _ _ _ _ _ _ _ _ _ _ _)
      | (with_reducible exact impl_ccells.mono _ _ _ _ _ _ _)
      | (with_reducible exact LeO.refl _)
      | (with_reducible exact LeO.none _)
      | (with_reducible refine LeO.ite ?_ ?_)
      | (with_reducible refine LeO.bind ?_ (fun _ => ?_))
      | exact ih0 _ _ _ _
      | exact ih1 _ _ _ _ _ _
      | exact ih2 _ _ _ _ _ _ _ _ _ _ _ _ _
      | exact impl_ccells.mono _ _ _ _ _ _ _
      | exact LeO.none _
      | refine LeO.ite ?_ ?_
      | refine LeO.bind ?_ (fun _ => ?_)
    · intro y0 y1 y2 y3 y4 y5
      unfold impl_GrdOk.l0
      repeat' first
      | (with_reducible exact ih0 _ _ _ _)
      | (with_reducible exact ih1 _ _ _ _ _ _)
      | (with_reducible exact ih2 _ _ _ _ _ _ _ _ _ _ _ _ _)
      | (with_reducible exact impl_ccells.mono _ _ _ _ _ _ _)
      | (with_reducible exact LeO.refl _)
      | (with_reducible exact LeO.none _)
      | (with_reducible refine LeO.ite ?_ ?_)
      | (with_reducible refine LeO.bind ?_ (fun _ => ?_))
      | exact ih0 _ _ _ _
      | exact ih1 _ _ _ _ _ _
      | exact ih2 _ _ _ _ _ _ _ _ _ _ _ _ _
      | exact impl_ccells.mono _ _ _ _ _ _ _
      | exact LeO.none _
      | refine LeO.ite ?_ ?_
      | refine LeO.bind ?_ (fun _ => ?_)
    · intro y0 y1 y2 y3 y4 y5 y6 y7 y8 y9 y10 y11 y12
      unfold impl_GrdOk.j2
      repeat' first
      | (with_reducible exact ih0 _ _ _ _)
      | (with_reducible exact ih1 _ _ _ _ _ _)
      | (with_reducible exact ih2 _ _ _ _ _ _ _ _ _ _ _ _ _)
      | (with_reducible exact impl_ccells.mono _ _ _ _ _ _ _)
      | (with_reducible exact LeO.refl _)
      | (with_reducible exact LeO.none _)
      | (with_reducible refine LeO.ite ?_ ?_)
      | (with_reducible refine LeO.bind ?_ (fun _ => ?_))
      | exact ih0 _ _ _ _
      | exact ih1 _ _ _ _ _ _
      | exact ih2 _ _ _ _ _ _ _ _ _ _ _ _ _
      | exact impl_ccells.mono _ _ _ _ _ _ _
      | exact LeO.none _
      | refine LeO.ite ?_ ?_
      | refine LeO.bind ?_ (fun _ => ?_)
theorem impl_GrdOk.mono : ∀ a0 a1 a2 k, LeO (impl_GrdOk.f k a0 a1 a2) (impl_GrdOk.f (k + 1) a0 a1 a2) := by
  intro a0 a1 a2 k
  obtain ⟨ih0, ih1, ih2⟩ := impl_GrdOk.mono_l k
  unfold impl_GrdOk.f
  repeat' first
      | (with_reducible exact ih0 _ _ _ _)
      | (with_reducible exact ih1 _ _ _ _ _ _)
      | (with_reducible exact ih2 _ _ _ _ _ _ _ _ _ _ _ _ _)
      | (with_reducible exact impl_ccells.mono _ _ _ _ _ _ _)
      | (with_reducible exact LeO.refl _)
      | (with_reducible exact LeO.none _)
      | (with_reducible refine LeO.ite ?_ ?_)
      | (with_reducible refine LeO.bind ?_ (fun _ => ?_))
      | exact ih0 _ _ _ _
      | exact ih1 _ _ _ _ _ _
      | exact ih2 _ _ _ _ _ _ _ _ _ _ _ _ _
      | exact impl_ccells.mono _ _ _ _ _ _ _
      | exact LeO.none _
      | refine LeO.ite ?_ ?_
      | refine LeO.bind ?_ (fun _ => ?_)
def impl_GrdOk.T8 : Bool × List (List Nat × List Nat) := (true, [([], []), ([0], [0]), ([1], [1]), ([2], [2]), ([3, 2], [3]), ([4], [4]), ([5, 4], [4, 5]), ([4], [4]), ([6, 7, 4], [4, 6, 7]), ([4], [4]), ([9, 4], [4, 9]), ([8, 10, 4, 4], [4, 8, 10]), ([4, 11], [4, 11])])
def impl_GrdOk.B8 : List Nat := [0, 1, 3, 7, 15, 31, 63, 31, 255, 31, 543, 2047, 4095]
theorem impl_GrdOk.tab8 : rtab .any (opsOf Tryd.f12 8) = impl_GrdOk.T8 := by kernel_rfl
theorem impl_GrdOk.bits8 : waitsOk impl_GrdOk.T8.2 impl_GrdOk.B8 = true := by kernel_rfl
theorem impl_GrdOk.step {k : Nat} {i a b : Int} {l : List S34} {r : Bool} (hi : i < (l.length : Int)) (h : impl_GrdOk.l0 (k + 1) l (l.length : Int) i a b l = some r) :
    0 ≤ i ∧ ∃ x, x = rd_T34 l i ∧
    ((r = false ∧ (Aside0 (impl_in.f x.f0 0 (wrap64 (a - 1)) = some false) ∨ (Aside0 (impl_in.f x.f0 0 (wrap64 (a - 1)) = some true) ∧ Aside0 (impl_in.f x.f2 1 (wrap64 (a - x.f0)) = some false)) ∨
      (Aside0 (impl_in.f x.f0 0 (wrap64 (a - 1)) = some true) ∧ Aside0 (impl_in.f x.f2 1 (wrap64 (a - x.f0)) = some true) ∧ Aside0 (impl_in.f x.f1 0 (wrap64 (b - 1)) = some false)) ∨
      (Aside0 (impl_in.f x.f0 0 (wrap64 (a - 1)) = some true) ∧ Aside0 (impl_in.f x.f2 1 (wrap64 (a - x.f0)) = some true) ∧ Aside0 (impl_in.f x.f1 0 (wrap64 (b - 1)) = some true) ∧ Aside0 (impl_in.f x.f3 1 (wrap64 (b - x.f1)) = some false)))) ∨
    (Aside0 (impl_in.f x.f0 0 (wrap64 (a - 1)) = some true) ∧ Aside0 (impl_in.f x.f2 1 (wrap64 (a - x.f0)) = some true) ∧ Aside0 (impl_in.f x.f1 0 (wrap64 (b - 1)) = some true) ∧ Aside0 (impl_in.f x.f3 1 (wrap64 (b - x.f1)) = some true) ∧
      ((r = false ∧ Aside0 (impl_in.f x.f4 0 4 = some false)) ∨ (Aside0 (impl_in.f x.f4 0 4 = some true) ∧ ∃ q t, q < k ∧ Aside0 (impl_ccells.f q (l.take i.toNat) x.f0 x.f1 x.f2 x.f3 x.f4 = some t) ∧ ((t = true ∧ r = false) ∨ (t = false ∧ Aside0 (impl_GrdOk.l0 q l (l.length : Int) (wrap64 (i + 1)) a b l = some r))))))) := by
  have bad : ∀ y0 y1 y2 y3 y4, impl_GrdOk.j2 k i l (l.length : Int) i true a b l y0 y1 y2 y3 y4 = some r → r = false := by
    intro _ _ _ _ _ h
    cases k with
    | zero => unfold impl_GrdOk.j2 at h; cases h
    | succ k =>
      simp only [impl_GrdOk.j2, if_true] at h
      exact (Option.some.inj h).symm
  simp only [impl_GrdOk.l0] at h
  rw [if_pos hi] at h
  split at h
  · rename_i h0
    refine ⟨h0, _, rfl, ?_⟩
    first | rw [if_pos hi, Option.bind_eq_some_iff] at h | rw [Option.bind_eq_some_iff] at h
    obtain ⟨t1, h1, h⟩ := h
    cases t1
    · exact .inl ⟨bad _ _ _ _ _ h, .inl ⟨h1⟩⟩
    · rw [if_pos rfl, Option.bind_eq_some_iff] at h
      obtain ⟨t2, h2, h⟩ := h
      cases t2
      · exact .inl ⟨bad _ _ _ _ _ h, .inr (.inl ⟨⟨h1⟩, ⟨h2⟩⟩)⟩
      · rw [if_pos rfl, Option.bind_eq_some_iff] at h
        obtain ⟨t3, h3, h⟩ := h
        cases t3
        · exact .inl ⟨bad _ _ _ _ _ h, .inr (.inr (.inl ⟨⟨h1⟩, ⟨h2⟩, ⟨h3⟩⟩))⟩
        · rw [if_pos rfl, Option.bind_eq_some_iff] at h
          obtain ⟨t4, h4, h⟩ := h
          cases t4
          · exact .inl ⟨bad _ _ _ _ _ h, .inr (.inr (.inr ⟨⟨h1⟩, ⟨h2⟩, ⟨h3⟩, ⟨h4⟩⟩))⟩
          · refine .inr ⟨⟨h1⟩, ⟨h2⟩, ⟨h3⟩, ⟨h4⟩, ?_⟩
            cases k with
            | zero => unfold impl_GrdOk.j2 at h; cases h
            | succ k =>
              simp only [impl_GrdOk.j2, Bool.not_true, Bool.false_eq_true, if_false] at h
              rw [Option.bind_eq_some_iff] at h
              obtain ⟨t5, h5, h⟩ := h
              cases t5
              · exact .inl ⟨(Option.some.inj h).symm, ⟨h5⟩⟩
              · rw [if_pos rfl, if_pos h0, if_pos (Int.le_of_lt hi), Option.bind_eq_some_iff] at h
                obtain ⟨t6, h6, h⟩ := h
                refine .inr ⟨⟨h5⟩, k, t6, Nat.lt_succ_self _, ⟨h6⟩, ?_⟩
                cases t6
                · exact .inr ⟨rfl, ⟨h⟩⟩
                · exact .inl ⟨rfl, (Option.some.inj h).symm⟩
  · cases h
theorem impl_GrdOk.parts {k : Nat} {a b : Int} {l : List S34} {r : Bool} (h : impl_GrdOk.f k a b l = some r) :
    (r = false ∧ (Aside0 (impl_in.f a 1 8 = some false) ∨ (Aside0 (impl_in.f a 1 8 = some true) ∧ Aside0 (impl_in.f b 1 94 = some false)) ∨ (Aside0 (impl_in.f a 1 8 = some true) ∧ Aside0 (impl_in.f b 1 94 = some true) ∧ 40 < (l.length : Int)))) ∨
    (Aside0 (impl_in.f a 1 8 = some true) ∧ Aside0 (impl_in.f b 1 94 = some true) ∧ (l.length : Int) ≤ 40 ∧ ∃ q, Aside0 (impl_GrdOk.l0 q l (l.length : Int) 0 a b l = some r)) := by
  have bad : impl_GrdOk.j0 k true a b l = some r → r = false := by
    intro h
    cases k with
    | zero => unfold impl_GrdOk.j0 at h; cases h
    | succ k =>
      simp only [impl_GrdOk.j0, if_true] at h
      exact (Option.some.inj h).symm
  unfold impl_GrdOk.f at h
  rw [Option.bind_eq_some_iff] at h
  obtain ⟨t1, h1, h⟩ := h
  cases t1
  · exact .inl ⟨bad h, .inl ⟨h1⟩⟩
  · rw [if_pos rfl, Option.bind_eq_some_iff] at h
    obtain ⟨t2, h2, h⟩ := h
    cases t2
    · exact .inl ⟨bad h, .inr (.inl ⟨⟨h1⟩, ⟨h2⟩⟩)⟩
    · rw [if_pos rfl] at h
      by_cases hl : (l.length : Int) > 40
      · rw [decide_eq_true hl] at h
        exact .inl ⟨bad h, .inr (.inr ⟨⟨h1⟩, ⟨h2⟩, hl⟩)⟩
      · rw [decide_eq_false hl] at h
        refine .inr ⟨⟨h1⟩, ⟨h2⟩, by omega, ?_⟩
        cases k with
        | zero => unfold impl_GrdOk.j0 at h; cases h
        | succ k =>
          simp only [impl_GrdOk.j0, Bool.false_eq_true, if_false] at h
          exact ⟨k, ⟨h⟩⟩
theorem gk_cells (A : Option Addr) (n c : Nat) (l : List S34) (x0 x1 x2 x3 x4 : Int) (t : Bool) (W : World) (hr : Kd.C k34 W A l.length l) (hn : n ≤ l.length) (hc : l.length ≤ c) {q : Nat} (h : impl_ccells.f q (l.take n) x0 x1 x2 x3 x4 = some t) :
    Calls Tryd.prog 25 #[.slice A n c, .func (.func 26) #[.agg #[.int .i64 x0, .int .i64 x1, .int .i64 x2, .int .i64 x3, .int .i64 x4]] #[]] W fun e w' => e = .returned (.bool t) ∧ Below W.heap.size W w' := by
  have hl : (l.take n).length = n := by rw [List.length_take]; omega
  have := impl_ccells.calls q A c (l.take n) x0 x1 x2 x3 x4 t W (Kd.C_take hr hn) (by omega) h
  rwa [hl] at this
set_option maxHeartbeats 4000000 in
set_option maxRecDepth 100000 in
theorem impl_GrdOk.calls (k : Nat) (a0_0 : Int) (a0_1 : Int) (A0_2 : Option Addr) (c0_2 : Nat) (l0_2 : List S34) (r : Bool) (w : World) (hr0_2 : Kd.C k34 w A0_2 l0_2.length l0_2) (hc0_2 : l0_2.length ≤ c0_2) (h : impl_GrdOk.f k a0_0 a0_1 l0_2 = some r) :
    Calls Tryd.prog 12 #[.agg #[.int .i64 a0_0, .int .i64 a0_1, .slice A0_2 l0_2.length c0_2]] w fun e w' => e = .returned (.bool r) ∧ Below w.heap.size w w' := by
  have HR := Aside0.mk hr0_2
  have HC := Aside0.mk hc0_2
  have hbig := hr0_2.2.1
  clear hr0_2 hc0_2
  have hu1 := Tryd.underlying25
  have hu2 := Tryd.underlying34
  rcases impl_GrdOk.parts h with ⟨rfl, A1 | ⟨A1, A2⟩ | ⟨A1, A2, hl⟩⟩ | ⟨A1, A2, hl, q, AL⟩
  iterate 3
    · clear h
      go_enter Tryd.func12, Tryd.ntmps12
      go_wp2_with (go_at_call 24; (first | (with_reducible refine (impl_in.calls _ _ _ _ _ A1.out).mono ?_) | (with_reducible refine (impl_in.calls _ _ _ _ _ A2.out).mono ?_)); rintro e W' ⟨rfl, ⟨nd, rfl⟩⟩)
      go_ret
      exact ⟨rfl, by repeat (with_reducible first | exact Below.refl _ _ | apply below_alloc | apply pw_below_drewN | apply below_drew1)⟩
  clear h
  go_enter Tryd.func12, Tryd.ntmps12
  go_wp2_with (go_at_call 24; (first | (with_reducible refine (impl_in.calls _ _ _ _ _ A1.out).mono ?_) | (with_reducible refine (impl_in.calls _ _ _ _ _ A2.out).mono ?_)); rintro e W' ⟨rfl, ⟨nd, rfl⟩⟩)
  go_loopg [24] q (fun gg s24 wr => ∃ (q' : Nat) (i : Int), q' ≤ gg ∧ s24 = .int .i64 i ∧ Aside0 (impl_GrdOk.l0 q' l0_2 (l0_2.length : Int) i a0_0 a0_1 l0_2 = some r) ∧ Aside0 (wr.heap[w.heap.size]? = some (.cells #[.int .i64 a0_0, .int .i64 a0_1, .slice A0_2 l0_2.length c0_2] 25 (0, 0))) ∧ Aside0 (Below w.heap.size w wr))
  case atStart => exact ⟨q, 0, Nat.le_refl _, rfl, AL, ⟨by (with_reducible repeat (first | refine blk_drewN ?_ _ | refine blk_drew ?_)); exact blk_new w _⟩, ⟨by repeat (with_reducible first | exact Below.refl _ _ | apply below_alloc | apply pw_below_drewN | apply below_drew1)⟩⟩
  case round =>
    obtain ⟨q', i, hq, rfl, HL, HG, HB⟩ := hrel
    cases q' with
    | zero => exact absurd HL.out (by simp [impl_GrdOk.l0])
    | succ q' =>
      by_cases hlt : i < (l0_2.length : Int)
      · obtain ⟨h0, x, hx, hs⟩ := impl_GrdOk.step hlt HL.out
        obtain ⟨ad, hA, p0, p1, p2, p3, p4⟩ := at_T34 (Kd.C_below HR.out HB.out) i h0 hlt
        rw [← hx] at p0 p1 p2 p3 p4
        have hz : (0 : Int) ≤ (l0_2.length : Int) := by omega
        have hle : i ≤ (l0_2.length : Int) := by omega
        have hcap : (l0_2.length : Int) ≤ (c0_2 : Int) := by have := HC.out; omega
        have HX := Aside0.mk hx
        clear hx HL AL
        subst hA
        obtain ⟨n, rfl⟩ : ∃ n : Nat, i = n := ⟨i.toNat, by omega⟩
        rw [Int.toNat_natCast] at hs p0 p1 p2 p3 p4
        have HNL : Aside0 (n ≤ l0_2.length) := ⟨by omega⟩
        have g0 : wr.cell? ⟨w.heap.size, 0, none⟩ = some (.int .i64 a0_0) := (blk_cell HG.out 0).trans rfl
        have g1 : wr.cell? ⟨w.heap.size, 1, none⟩ = some (.int .i64 a0_1) := (blk_cell HG.out 1).trans rfl
        have n0 := alloc_cell HG.out
        have HN := Aside0.mk (blk_new wr (.cells (gcA x.f0 x.f1 x.f2 x.f3 x.f4) 34))
        replace HG := Aside0.mk (blk_alloc HG.out (.cells (gcA x.f0 x.f1 x.f2 x.f3 x.f4) 34))
        replace HB := Aside0.mk (below_alloc HB.out (.cells (gcA x.f0 x.f1 x.f2 x.f3 x.f4) 34))
        rcases hs with ⟨rfl, B1 | ⟨B1, B2⟩ | ⟨B1, B2, B3⟩ | ⟨B1, B2, B3, B4⟩⟩ | ⟨B1, B2, B3, B4, ⟨rfl, B5⟩ | ⟨B5, q2, t, hq2, B6, ⟨rfl, rfl⟩ | ⟨rfl, AL⟩⟩⟩
        iterate 4
          · go_wp2_with (go_at_call 24; (first | (with_reducible refine (impl_in.calls _ _ _ _ _ B1.out).mono ?_) | (with_reducible refine (impl_in.calls _ _ _ _ _ B2.out).mono ?_) | (with_reducible refine (impl_in.calls _ _ _ _ _ B3.out).mono ?_) | (with_reducible refine (impl_in.calls _ _ _ _ _ B4.out).mono ?_)); rintro e W' ⟨rfl, ⟨nd, rfl⟩⟩)
            go_ret
            exact ⟨rfl, by (repeat (with_reducible first | apply pw_below_drewN | apply below_drew1)); exact HB.out⟩
        iterate 2
          · go_wp2_with (go_at_call 24; (first | (with_reducible refine (impl_in.calls _ _ _ _ _ B1.out).mono ?_) | (with_reducible refine (impl_in.calls _ _ _ _ _ B2.out).mono ?_) | (with_reducible refine (impl_in.calls _ _ _ _ _ B3.out).mono ?_) | (with_reducible refine (impl_in.calls _ _ _ _ _ B4.out).mono ?_)); rintro e W' ⟨rfl, ⟨nd, rfl⟩⟩)
            refine wp_letter (fun W0 => W0.heap[w.heap.size]? = some (.cells #[.int .i64 a0_0, .int .i64 a0_1, .slice (some ad) l0_2.length c0_2] 25 (0, 0)) ∧ W0.heap[wr.heap.size]? = some (.cells (gcA x.f0 x.f1 x.f2 x.f3 x.f4) 34 (0, 0)) ∧ Below w.heap.size w W0) ⟨HG.out, HN.out, pw_below_drewN HB.out _⟩ ?_
            clear HG HN HB p0 p1 p2 p3 p4 g0 g1 n0
            intro W0 hW
            have HG := Aside0.mk hW.1
            have HN := Aside0.mk hW.2.1
            have HB := Aside0.mk hW.2.2
            clear hW
            obtain ⟨c0, c1, c2, c3, c4⟩ := gcA_cells HN.out
            have xc0 := Ext.cell c0
            have xc1 := Ext.cell c1
            have xc2 := Ext.cell c2
            have xc3 := Ext.cell c3
            have xc4 := Ext.cell c4
            have xg0 := Ext.cell ((blk_cell HG.out 0).trans rfl : _ = some (.int .i64 a0_0))
            have xg1 := Ext.cell ((blk_cell HG.out 1).trans rfl : _ = some (.int .i64 a0_1))
            have xg2 := Ext.cell ((blk_cell HG.out 2).trans rfl : _ = some (.slice (some ad) l0_2.length c0_2))
            clear c0 c1 c2 c3 c4
            refine region_ext (by kernel_rfl) (by kernel_rfl) ?_
            repeat (go_big_quiet_step (first | (go_at_call 24; first | exact Calls.ext0 (impl_in.calls _ _ _ _ _ B1.out) | exact Calls.ext0 (impl_in.calls _ _ _ _ _ B2.out) | exact Calls.ext0 (impl_in.calls _ _ _ _ _ B3.out) | exact Calls.ext0 (impl_in.calls _ _ _ _ _ B4.out) | exact Calls.ext0 (impl_in.calls _ _ _ _ _ B5.out)) | (go_at_call 25; exact Calls.ext (gk_cells _ _ _ _ _ _ _ _ _ _ _ (Kd.C_below HR.out (below_step HB.out (Ext.below _))) HNL.out HC.out B6.out))))
            refine wpQuiet_nil ?_
            rintro _ ⟨⟨W3, hb3⟩, rfl⟩
            clear xc0 xc1 xc2 xc3 xc4 xg0 xg1 xg2
            replace HG := Aside0.mk (blk_below HG.out hb3)
            replace HN := Aside0.mk (blk_below HN.out hb3)
            replace HB := Aside0.mk (below_step HB.out hb3)
            clear hb3
            go_wp2
            go_ret
            exact ⟨rfl, HB.out⟩
        go_wp2_with (go_at_call 24; (first | (with_reducible refine (impl_in.calls _ _ _ _ _ B1.out).mono ?_) | (with_reducible refine (impl_in.calls _ _ _ _ _ B2.out).mono ?_) | (with_reducible refine (impl_in.calls _ _ _ _ _ B3.out).mono ?_) | (with_reducible refine (impl_in.calls _ _ _ _ _ B4.out).mono ?_)); rintro e W' ⟨rfl, ⟨nd, rfl⟩⟩)
        refine wp_letter (fun W0 => W0.heap[w.heap.size]? = some (.cells #[.int .i64 a0_0, .int .i64 a0_1, .slice (some ad) l0_2.length c0_2] 25 (0, 0)) ∧ W0.heap[wr.heap.size]? = some (.cells (gcA x.f0 x.f1 x.f2 x.f3 x.f4) 34 (0, 0)) ∧ Below w.heap.size w W0) ⟨HG.out, HN.out, pw_below_drewN HB.out _⟩ ?_
        clear HG HN HB p0 p1 p2 p3 p4 g0 g1 n0
        intro W0 hW
        have HG := Aside0.mk hW.1
        have HN := Aside0.mk hW.2.1
        have HB := Aside0.mk hW.2.2
        clear hW
        obtain ⟨c0, c1, c2, c3, c4⟩ := gcA_cells HN.out
        have xc0 := Ext.cell c0
        have xc1 := Ext.cell c1
        have xc2 := Ext.cell c2
        have xc3 := Ext.cell c3
        have xc4 := Ext.cell c4
        have xg0 := Ext.cell ((blk_cell HG.out 0).trans rfl : _ = some (.int .i64 a0_0))
        have xg1 := Ext.cell ((blk_cell HG.out 1).trans rfl : _ = some (.int .i64 a0_1))
        have xg2 := Ext.cell ((blk_cell HG.out 2).trans rfl : _ = some (.slice (some ad) l0_2.length c0_2))
        clear c0 c1 c2 c3 c4
        refine region_ext (by kernel_rfl) (by kernel_rfl) ?_
        repeat (go_big_quiet_step (first | (go_at_call 24; first | exact Calls.ext0 (impl_in.calls _ _ _ _ _ B1.out) | exact Calls.ext0 (impl_in.calls _ _ _ _ _ B2.out) | exact Calls.ext0 (impl_in.calls _ _ _ _ _ B3.out) | exact Calls.ext0 (impl_in.calls _ _ _ _ _ B4.out) | exact Calls.ext0 (impl_in.calls _ _ _ _ _ B5.out)) | (go_at_call 25; exact Calls.ext (gk_cells _ _ _ _ _ _ _ _ _ _ _ (Kd.C_below HR.out (below_step HB.out (Ext.below _))) HNL.out HC.out B6.out))))
        refine wpQuiet_nil ?_
        rintro _ ⟨⟨W3, hb3⟩, rfl⟩
        clear xc0 xc1 xc2 xc3 xc4 xg0 xg1 xg2
        replace HG := Aside0.mk (blk_below HG.out hb3)
        replace HN := Aside0.mk (blk_below HN.out hb3)
        replace HB := Aside0.mk (below_step HB.out hb3)
        clear hb3
        go_wp2
        go_roundg q2
        case measure => omega
        case rel => exact ⟨q2, (n : Int) + 1, Nat.le_refl _, rfl, ⟨by rw [show ((n : Int) + 1) = wrap64 ((n : Int) + 1) by unfold wrap64; omega]; exact AL.out⟩, HG, HB⟩
      · have hl := HL.out
        simp only [impl_GrdOk.l0] at hl
        rw [if_neg hlt] at hl
        obtain rfl := Option.some.inj hl
        clear hl HL
        go_wp2
        go_ret
        exact ⟨rfl, HB.out⟩

/-! ### impl_TxtOk: function 27 (by hand) -/
def impl_TxtOk.f (a0 : ByteArray) : Option Bool := if a0.size < 4294967281 then some (Txt.ppTxtOk a0) else none
set_option maxHeartbeats 2000000 in
set_option maxRecDepth 100000 in
theorem impl_TxtOk.calls (a0 : ByteArray) (r : Bool) (w : World) (hM : Txt.MLen w) (h : impl_TxtOk.f a0 = some r) :
    Calls Tryd.prog 27 #[.string a0] w fun e w' => e = .returned (.bool r) ∧ Below w.heap.size w w' := by
  unfold impl_TxtOk.f at h
  split at h
  · rename_i hs
    have hr := Option.some.inj h
    have HM := Aside0.mk hM
    have HS := Aside0.mk hs
    clear hM hs h
    by_cases h0 : a0.toList.isEmpty = true
    · have e0 : a0.toList.isEmpty = true := h0
      have er : Txt.ppTxtOk a0 = true := by unfold Txt.ppTxtOk; rw [e0]; rfl
      rw [er] at hr
      subst hr
      clear er h0
      go_enter Tryd.func27, Tryd.ntmps27
      go_wp2
      go_ret
      exact ⟨rfl, Below.refl _ _⟩
    · have e0 : a0.toList.isEmpty = false := Bool.eq_false_iff.2 h0
      have er : Txt.ppTxtOk a0 = ((Txt.ppWords a0).all Txt.ppWordOk && decide ((a0.size : Int) ≤ 30)) := by unfold Txt.ppTxtOk; rw [e0]; rfl
      rw [er] at hr
      clear er h0
      obtain ⟨L, hL⟩ : ∃ L, Txt.ppWords a0 = L := ⟨_, rfl⟩
      have hsp := Txt.split_sp a0 w HM.out HS.out
      have hsz : ∀ x ∈ L, x.size ≤ 9223372036854775807 := fun x hx => by
        have := Txt.ppWords_le a0 x (hL ▸ hx)
        have := HS.out
        omega
      have hln : L.length ≤ 4294967281 := by
        have := Txt.ppWords_len a0
        have := HS.out
        rw [hL] at *
        omega
      have HLN := Aside0.mk hln
      clear hln
      rw [hL] at hsp hr
      have HE := Aside0.mk hr
      clear hr
      have HSP := Aside0.mk hsp
      have HSZ := Aside0.mk hsz
      clear hsp hsz hL
      go_enter Tryd.func27, Tryd.ntmps27
      go_wp2_with (go_at_call 35; (with_reducible refine HSP.out.mono ?_); rintro e w' ⟨rfl, rfl⟩)
      go_loopg [10] L.length (fun gg v10 wr => ∃ kk : Nat, kk ≤ L.length ∧ L.length - kk ≤ gg ∧ v10 = .int .i64 kk ∧ Aside0 (Below w.heap.size w wr) ∧ Aside0 (wr.heap[w.heap.size]? = some (.cells (L.map Value.string).toArray 9 (0, 0))) ∧ Aside0 (∀ j (h : j < L.length), j < kk → Txt.ppWordOk L[j] = true))
      case atStart => exact ⟨0, Nat.zero_le _, by omega, rfl, ⟨below_alloc (Below.refl _ _) _⟩, ⟨blk_new _ _⟩, ⟨fun j _ hj => absurd hj (Nat.not_lt_zero _)⟩⟩
      case round =>
        obtain ⟨kk, hkk, hg, rfl, HB, BK, AA⟩ := hrel
        by_cases hlt : kk < L.length
        · have hltz : (kk : Int) < (L.length : Int) := by omega
          have hcell : wr.cell? ⟨w.heap.size, kk, none⟩ = some (.string L[kk]) := (blk_cell BK.out kk).trans (by simp [hlt])
          have hfz := blk_frozen BK.out kk
          have hsk := HSZ.out L[kk] (List.getElem_mem hlt)
          have htrim := fun W => Txt.trim_az L[kk] W hsk
          have HT := Aside0.mk htrim
          obtain ⟨y, hy⟩ : ∃ y, L[kk] = y := ⟨_, rfl⟩
          have HY := Aside0.mk hy
          rw [hy] at hcell HT
          clear hsk htrim hy
          obtain ⟨z, hz⟩ : ∃ z, Txt.ppRest y = z := ⟨_, rfl⟩
          rw [hz] at HT
          have HZ := Aside0.mk hz
          clear hz
          by_cases h1 : y.toList.isEmpty = true
          · have e1 : y.toList.isEmpty = true := h1
            have hno : (L.all Txt.ppWordOk && decide ((a0.size : Int) ≤ 30)) = false := by
              have : L.all Txt.ppWordOk = false := List.all_eq_false.2 ⟨L[kk], List.getElem_mem hlt, by rw [HY.out]; unfold Txt.ppWordOk; rw [e1]; simp⟩
              rw [this]; rfl
            have HNO := Aside0.mk hno
            clear hno h1
            go_wp2
            go_ret
            exact ⟨by rw [← HE.out, HNO.out]; rfl, HB.out⟩
          · have e1 : y.toList.isEmpty = false := Bool.eq_false_iff.2 h1
            clear h1
            by_cases h2 : z.toList.isEmpty = true
            · have e2 : z.toList.isEmpty = true := h2
              have hyes : Txt.ppWordOk L[kk] = true := by rw [HY.out]; unfold Txt.ppWordOk; rw [HZ.out, e1, e2]; rfl
              have HYES := Aside0.mk hyes
              clear hyes h2
              go_wp2_with (go_at_call 36; (with_reducible refine (HT.out _).mono ?_); rintro e w' ⟨rfl, hb⟩)
              go_roundg (L.length - (kk + 1))
              case measure => omega
              case rel =>
                refine ⟨kk + 1, by omega, by omega, (by have := HLN.out; show Value.int .i64 (wrap64 ((kk : Int) + 1)) = Value.int .i64 ((kk + 1 : Nat) : Int); congr 1; unfold wrap64; omega), ⟨below_step HB.out hb⟩, ⟨blk_below BK.out hb⟩, ⟨fun j h hj => ?_⟩⟩
                by_cases e : j = kk
                · subst e
                  exact HYES.out
                · exact AA.out j h (by omega)
            · have e2 : z.toList.isEmpty = false := Bool.eq_false_iff.2 h2
              have hno : (L.all Txt.ppWordOk && decide ((a0.size : Int) ≤ 30)) = false := by
                have : L.all Txt.ppWordOk = false := List.all_eq_false.2 ⟨L[kk], List.getElem_mem hlt, by rw [HY.out]; unfold Txt.ppWordOk; rw [HZ.out, e1, e2]; simp⟩
                rw [this]; rfl
              have HNO := Aside0.mk hno
              clear hno h2
              go_wp2_with (go_at_call 36; (with_reducible refine (HT.out _).mono ?_); rintro e w' ⟨rfl, hb⟩)
              go_ret
              exact ⟨by rw [← HE.out, HNO.out]; rfl, below_step HB.out hb⟩
        · have hltz : ¬ (kk : Int) < (L.length : Int) := by omega
          have hk : kk = L.length := by omega
          have hall : (L.all Txt.ppWordOk && decide ((a0.size : Int) ≤ 30)) = decide ((a0.size : Int) ≤ 30) := by
            have : L.all Txt.ppWordOk = true := List.all_eq_true.2 (fun x hx => by
              obtain ⟨j, hj, rfl⟩ := List.getElem_of_mem hx
              exact AA.out j hj (by omega))
            rw [this]; rfl
          have HALL := Aside0.mk hall
          clear hall
          go_wp2
          go_ret
          exact ⟨by rw [← HE.out, HALL.out]; rfl, HB.out⟩
  · exact absurd h (by simp)

/-! ### laws_pwOk: function 13 -/
def laws_pwOk.f  : Option (Bool) := (impl_TxtOk.f (⟨#[97, 98, 32, 99]⟩ : ByteArray)).bind fun t388 => (some t388)
set_option maxHeartbeats 8000000 in
set_option maxRecDepth 100000 in
theorem laws_pwOk.calls  (r : Bool) (w : World) (hM : Txt.MLen w) (h : laws_pwOk.f  = some r) :
    Calls Tryd.prog 13 #[] w fun e w' => e = .returned (.bool r) ∧ Below w.heap.size w w' := by
  have HM := Aside0.mk hM
  clear hM
  have HB := Aside0.mk (Below.refl w.heap.size w)
  have H : ((impl_TxtOk.f (⟨#[97, 98, 32, 99]⟩ : ByteArray)).bind fun t388 => (some t388)) = some r := h
  clear h
  replace H := Option.bind_eq_some_iff.mp H
  obtain ⟨t388, A10, H⟩ := H
  replace H : (some t388) = some r := H
  have A1 := Aside0.mk A10
  clear A10
  obtain rfl := Option.some.inj H
  go_enter Tryd.func13, Tryd.ntmps13
  go_wp2_with (first | ((with_reducible refine gate_callee (f := 27) rfl ?_); refine goesL_ (some 1) rfl rfl Tryd.func27 (by kernel_rfl) rfl #[.string (⟨#[97, 98, 32, 99]⟩ : ByteArray)] rfl (by (try simp only [List.map_toArray, List.map_cons, List.map_nil]); first | done | rfl | (simp only [List.length_drop, List.length_take]; rfl)) ?_; (with_reducible refine (impl_TxtOk.calls (⟨#[97, 98, 32, 99]⟩ : ByteArray) t388 _ ?sideM A1.out).mono ?_); (case sideM => repeat (first | exact HM.out | exact (Txt.MLen_below HM.out HB.out) | (with_reducible refine Txt.MLen_alloc ?_ _) | (with_reducible refine Txt.MLen_drewN ?_ _) | (with_reducible refine Txt.MLen_drew ?_))); rintro e w2 ⟨rfl, hb⟩; refine ⟨_, rfl, ?_⟩; have n0_ := Aside0.mk (below_step (by repeat (first | (with_reducible first | exact HB.out | apply below_alloc | apply pw_below_drewN | apply below_drew1) | exact HB.out)) hb); clear HB; have HB := n0_; clear n0_; (try clear hb); (try clear hb2); (try clear hk); (try clear hi)))
  go_ret
  exact ⟨by first | rfl | (simp [IntKind.wrap_i64, wrap64]; done) | (simp [errW_none, errW_some] <;> rfl) | (simp [*, errW_none, errW_some] <;> rfl), by repeat (first | (with_reducible first | exact HB.out | apply below_alloc | apply pw_below_drewN | apply below_drew1) | exact HB.out)⟩


end Go.Proofs.YtkbcmbjoelkgoaaDoor.Q
