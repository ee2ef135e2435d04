-- Told by a program of this session (uprint.py, ulay.py).
import Derived.Test.YtobpcokoahgpdabQ0
import Derived.Test.YtobpcokoahgpdabQlawsszGrdCellS
import Derived.Test.YtobpcokoahgpdabQlawstoGrdGrid
namespace Go.Proofs.Ytobpcokoahgpdab.Q
open Go.RowKit Go.Proofs.YtobpcokoahgpdabW.PrintWords Go.Proofs.YtobpcokoahgpdabW.PrintLast Go.Proofs.YtobpcokoahgpdabW.PrintMore
attribute [local go_sem] max2_int min2_int max_two min_two max_three min_three max_four min_four
set_option linter.unusedVariables false
set_option linter.unusedSimpArgs false

/-! ### impl_GrdOk: function 17 (by hand) -/
set_option maxHeartbeats 2000000 in
set_option maxRecDepth 100000 in
/-- slices.IndexFunc over cells at their places, whatever a bound method asks. -/
theorem idxf_cellm (p : S48 → Bool) (g : Nat) (fb : Array Value) (eg : ∀ args w, (callFunc g args).run Try.prog w = .ok (.enter g args) w) (A : Option Addr) (c : Nat) (l : List S48) (w : World)
    (hr : Kd.C k48 w A l.length l) (hc : l.length ≤ c)
    (hp : ∀ (W : World) (x : S48), Below w.heap.size w W → Calls Try.prog g (fb ++ #[.agg #[.int .i64 x.f0, .int .i64 x.f1, .int .i64 x.f2, .int .i64 x.f3, .int .i64 x.f4]]) W fun e W' => e = .returned (.bool (p x)) ∧ Below w.heap.size w W') :
    Calls Try.prog 32 #[.slice A l.length c, .func (.func g) fb #[]] w fun e w' => e = .returned (.int .i64 (ppIdx p l)) ∧ Below w.heap.size w w' := by
  have hbig := hr.2.1
  have HR := Aside0.mk hr
  clear hr
  go_enter Try.func32, Try.ntmps32
  go_wp2
  go_loopg [5, 8] l.length (fun gg _ s8 wr => ∃ kk : Nat, kk ≤ l.length ∧ l.length - kk ≤ gg ∧ s8 = .int .i64 kk ∧ Aside0 (Below w.heap.size w wr) ∧ Aside0 (∀ j (h : j < l.length), j < kk → p l[j] = false))
  case atStart => exact ⟨0, Nat.zero_le _, by omega, rfl, ⟨Below.refl _ w⟩, ⟨fun j _ hj => absurd hj (Nat.not_lt_zero _)⟩⟩
  case round =>
    obtain ⟨kk, hkk, hg, rfl, BW, AA⟩ := hrel
    by_cases hlt : kk < l.length
    · have hltz : (kk : Int) < (l.length : Int) := by omega
      obtain ⟨ad, e0, h0, h1, h2, h3, h4⟩ := at_T48 HR.out (kk : Int) (by omega) hltz
      cases e0
      replace h0 := (BW.out.cell (World.block_lt_of_cell? w _ h0)).trans h0
      replace h1 := (BW.out.cell (World.block_lt_of_cell? w _ h1)).trans h1
      replace h2 := (BW.out.cell (World.block_lt_of_cell? w _ h2)).trans h2
      replace h3 := (BW.out.cell (World.block_lt_of_cell? w _ h3)).trans h3
      replace h4 := (BW.out.cell (World.block_lt_of_cell? w _ h4)).trans h4
      simp only [Int.toNat_natCast] at h0 h1 h2 h3 h4
      have hcall := hp wr (rd_T48 l (kk : Int)) BW.out
      have hy : rd_T48 l (kk : Int) = l[kk] := by unfold rd_T48; simp [List.getD_eq_getElem?_getD, List.getElem?_eq_getElem hlt]
      generalize rd_T48 l (kk : Int) = y at h0 h1 h2 h3 h4 hcall hy
      have HY := Aside0.mk hy
      clear hy hp
      cases hq : p y with
      | true =>
        rw [hq] at hcall
        go_wp2_with (go_at_fn g; refine hcall.mono ?_; rintro e w' ⟨rfl, hb'⟩)
        go_ret
        refine ⟨?_, hb'⟩
        rw [ppIdx_hit p l kk hlt (by rw [← HY.out]; exact hq) AA.out]
        rfl
      | false =>
        rw [hq] at hcall
        go_wp2_with (go_at_fn g; refine hcall.mono ?_; rintro e w' ⟨rfl, hb'⟩)
        go_roundg (l.length - (kk + 1))
        case measure => omega
        case rel =>
          refine ⟨kk + 1, by omega, by omega, by go_num, ⟨hb'⟩, ⟨fun j h hj => ?_⟩⟩
          by_cases e : j = kk
          · subst e
            rw [← HY.out]; exact hq
          · exact AA.out j h (by omega)
    · have hltz : ¬ (kk : Int) < (l.length : Int) := by omega
      have hk : kk = l.length := by omega
      subst hk
      go_wp2
      go_ret
      refine ⟨?_, BW.out⟩
      rw [ppIdx_miss p l (fun j hj => AA.out j hj hj)]
      rfl
set_option maxHeartbeats 2000000 in
set_option maxRecDepth 100000 in
theorem cntf_cellm (p : S48 → Bool) (g : Nat) (fb : Array Value) (eg : ∀ args w, (callFunc g args).run Try.prog w = .ok (.enter g args) w) (A : Option Addr) (c : Nat) (l : List S48) (w : World)
    (hr : Kd.C k48 w A l.length l) (hc : l.length ≤ c)
    (hp : ∀ (W : World) (x : S48), Below w.heap.size w W → Calls Try.prog g (fb ++ #[.agg #[.int .i64 x.f0, .int .i64 x.f1, .int .i64 x.f2, .int .i64 x.f3, .int .i64 x.f4]]) W fun e W' => e = .returned (.bool (p x)) ∧ Below w.heap.size w W') :
    Calls Try.prog 28 #[.slice A l.length c, .func (.func g) fb #[]] w fun e w' => e = .returned (.bool (decide (0 ≤ ppIdx p l))) ∧ Below w.heap.size w w' := by
  have HR := Aside0.mk hr
  have HC := Aside0.mk hc
  have HP := Aside0.mk hp
  clear hr hc hp
  go_enter Try.func28, Try.ntmps28
  go_wp2_with (go_at_call 32; (with_reducible refine (idxf_cellm p g fb eg A c l _ HR.out HC.out HP.out).mono ?_); rintro e w' ⟨rfl, hb⟩)
  go_ret
  exact ⟨rfl, hb⟩
/-- The two cells have a slot in common, as the program asks it. -/
def ppMeetB (a b : S48) : Bool := (impl_GrdCell_meets.f a.f0 a.f1 a.f2 a.f3 a.f4 b.f0 b.f1 b.f2 b.f3 b.f4).getD false
theorem ppMeet_some (a b : S48) : impl_GrdCell_meets.f a.f0 a.f1 a.f2 a.f3 a.f4 b.f0 b.f1 b.f2 b.f3 b.f4 = some (ppMeetB a b) := by
  unfold ppMeetB impl_GrdCell_meets.f
  (repeat' split) <;> rfl
def impl_ccells.f (k : Nat) (l : List S48) (a0 a1 a2 a3 a4 : Int) : Option Bool := some (decide (0 ≤ ppIdx (fun x => ppMeetB ⟨a0, a1, a2, a3, a4⟩ x) l))
theorem impl_ccells.mono : ∀ l a0 a1 a2 a3 a4 k, LeO (impl_ccells.f k l a0 a1 a2 a3 a4) (impl_ccells.f (k + 1) l a0 a1 a2 a3 a4) := fun _ _ _ _ _ _ _ => LeO.refl _
theorem impl_ccells.calls (k : Nat) (A : Option Addr) (c : Nat) (l : List S48) (a0 a1 a2 a3 a4 : Int) (r : Bool) (w : World) (hr : Kd.C k48 w A l.length l) (hc : l.length ≤ c) (h : impl_ccells.f k l a0 a1 a2 a3 a4 = some r) :
    Calls Try.prog 28 #[.slice A l.length c, .func (.func 29) #[.agg #[.int .i64 a0, .int .i64 a1, .int .i64 a2, .int .i64 a3, .int .i64 a4]] #[]] w fun e w' => e = .returned (.bool r) ∧ Below w.heap.size w w' := by
  obtain rfl := Option.some.inj h
  exact cntf_cellm (fun x => ppMeetB ⟨a0, a1, a2, a3, a4⟩ x) 29 _ (enters_of Try.func29 (by kernel_rfl) rfl) A c l w hr hc (fun W x hb => (impl_GrdCell_meets.calls _ _ _ _ _ _ _ _ _ _ _ _ (ppMeet_some ⟨a0, a1, a2, a3, a4⟩ x)).mono fun e W' ⟨he, hb'⟩ => ⟨he, below_then hb hb.size hb'⟩)
mutual
def impl_GrdOk.j0 : Nat → Bool → Int → Int → List (S48) → Option (Bool)
  | 0, _, _, _, _ => none
  | k + 1, x20, x165000, x165001, x165002 => if x20 = true then (some false) else (impl_GrdOk.l0 k x165002 (x165002.length : Int) 0 x165000 x165001 x165002)
def impl_GrdOk.l0 : Nat → List (S48) → Int → Int → Int → Int → List (S48) → Option (Bool)
  | 0, _, _, _, _, _, _ => none
  | k + 1, x22, x23, x24, x165000, x165001, x165002 => if x24 < x23 then (if 0 ≤ x24 then (if x24 < (x22.length : Int) then ((impl_in.f ((rd_T48 x22 x24).f0) 0 (wrap64 (x165000 - 1))).bind fun t169 => (if t169 = true then ((impl_in.f ((rd_T48 x22 x24).f2) 1 (wrap64 (x165000 - ((rd_T48 x22 x24).f0)))).bind fun t170 => (if t170 = true then ((impl_in.f ((rd_T48 x22 x24).f1) 0 (wrap64 (x165001 - 1))).bind fun t171 => (if t171 = true then ((impl_in.f ((rd_T48 x22 x24).f3) 1 (wrap64 (x165001 - ((rd_T48 x22 x24).f1)))).bind fun t172 => (impl_GrdOk.j2 k x24 x22 x23 x24 (!t172) x165000 x165001 x165002 ((rd_T48 x22 x24).f0) ((rd_T48 x22 x24).f1) ((rd_T48 x22 x24).f2) ((rd_T48 x22 x24).f3) ((rd_T48 x22 x24).f4))) else (impl_GrdOk.j2 k x24 x22 x23 x24 true x165000 x165001 x165002 ((rd_T48 x22 x24).f0) ((rd_T48 x22 x24).f1) ((rd_T48 x22 x24).f2) ((rd_T48 x22 x24).f3) ((rd_T48 x22 x24).f4)))) else (impl_GrdOk.j2 k x24 x22 x23 x24 true x165000 x165001 x165002 ((rd_T48 x22 x24).f0) ((rd_T48 x22 x24).f1) ((rd_T48 x22 x24).f2) ((rd_T48 x22 x24).f3) ((rd_T48 x22 x24).f4)))) else (impl_GrdOk.j2 k x24 x22 x23 x24 true x165000 x165001 x165002 ((rd_T48 x22 x24).f0) ((rd_T48 x22 x24).f1) ((rd_T48 x22 x24).f2) ((rd_T48 x22 x24).f3) ((rd_T48 x22 x24).f4)))) else (none)) else (none)) else (some true)
def impl_GrdOk.j2 : Nat → Int → List (S48) → Int → Int → Bool → Int → Int → List (S48) → Int → Int → Int → Int → Int → Option (Bool)
  | 0, _, _, _, _, _, _, _, _, _, _, _, _, _ => none
  | k + 1, x3, x22, x23, x24, x66, x165000, x165001, x165002, x169000, x169001, x169002, x169003, x169004 => if x66 = true then (some false) else ((impl_in.f x169004 0 4).bind fun t173 => (if t173 = true then (if 0 ≤ x3 then (if x3 ≤ (x165002.length : Int) then ((impl_ccells.f k (x165002.take (x3 : Int).toNat) x169000 x169001 x169002 x169003 x169004).bind fun t178 => (if t178 = true then (some false) else (impl_GrdOk.l0 k x22 x23 (wrap64 (x24 + 1)) x165000 x165001 x165002))) else (none)) else (none)) else (some false)))
end
def impl_GrdOk.f (k : Nat) (a0_0 : Int) (a0_1 : Int) (l0_2 : List (S48)) : Option (Bool) := (impl_in.f a0_0 1 8).bind fun t165 => (if t165 = true then ((impl_in.f a0_1 1 94).bind fun t166 => (if t166 = true then (impl_GrdOk.j0 k (decide ((l0_2.length : Int) > 40)) a0_0 a0_1 l0_2) else (impl_GrdOk.j0 k true a0_0 a0_1 l0_2))) else (impl_GrdOk.j0 k true a0_0 a0_1 l0_2))
theorem impl_GrdOk.mono_l : ∀ k, (∀ y0 y1 y2 y3, LeO (impl_GrdOk.j0 k y0 y1 y2 y3) (impl_GrdOk.j0 (k + 1) y0 y1 y2 y3)) ∧ (∀ y0 y1 y2 y3 y4 y5, LeO (impl_GrdOk.l0 k y0 y1 y2 y3 y4 y5) (impl_GrdOk.l0 (k + 1) y0 y1 y2 y3 y4 y5)) ∧ (∀ y0 y1 y2 y3 y4 y5 y6 y7 y8 y9 y10 y11 y12, LeO (impl_GrdOk.j2 k y0 y1 y2 y3 y4 y5 y6 y7 y8 y9 y10 y11 y12) (impl_GrdOk.j2 (k + 1) y0 y1 y2 y3 y4 y5 y6 y7 y8 y9 y10 y11 y12))
  | 0 => ⟨fun _ _ _ _ r h => by simp [impl_GrdOk.j0] at h, fun _ _ _ _ _ _ r h => by simp [impl_GrdOk.l0] at h, fun _ _ _ _ _ _ _ _ _ _ _ _ _ r h => by simp [impl_GrdOk.j2] at h⟩
  | k + 1 => by
    obtain ⟨ih0, ih1, ih2⟩ := impl_GrdOk.mono_l k
    refine ⟨?_, ?_, ?_⟩
    · intro y0 y1 y2 y3
      unfold impl_GrdOk.j0
      repeat' first
      | (with_reducible exact ih0 _ _ _ _)
      | (with_reducible exact ih1 _ _ _ _ _ _)
      | (with_reducible exact ih2 _ _ _ _ _ _ _ _ _ _ _ _ _)
      | (with_reducible exact impl_ccells.mono _ _ _ _ _ _ _)
      | (with_reducible exact LeO.refl _)
      | (with_reducible exact LeO.none _)
      | (with_reducible refine LeO.ite ?_ ?_)
      | (with_reducible refine LeO.bind ?_ (fun _ => ?_))
      | exact ih0 _ _ _ _
      | exact ih1 _ _ _ _ _ _
      | exact ih2 _ _ _ _ _ _ _ _ _ _ _ _ _
      | exact impl_ccells.mono _ _ _ _ _ _ _
      | exact LeO.none _
      | refine LeO.ite ?_ ?_
      | refine LeO.bind ?_ (fun _ => ?_)
    · intro y0 y1 y2 y3 y4 y5
      unfold impl_GrdOk.l0
      repeat' first
      | (with_reducible exact ih0 _ _ _ _)
      | (with_reducible exact ih1 _ _ _ _ _ _)
      | (with_reducible exact ih2 _ _ _ _ _ _ _ _ _ _ _ _ _)
      | (with_reducible exact impl_ccells.mono _ _ _ _ _ _ _)
      | (with_reducible exact LeO.refl _)
      | (with_reducible exact LeO.none _)
      | (with_reducible refine LeO.ite ?_ ?_)
      | (with_reducible refine LeO.bind ?_ (fun _ => ?_))
      | exact ih0 _ _ _ _
      | exact ih1 _ _ _ _ _ _
      | exact ih2 _ _ _ _ _ _ _ _ _ _ _ _ _
      | exact impl_ccells.mono _ _ _ _ _ _ _
      | exact LeO.none _
      | refine LeO.ite ?_ ?_
      | refine LeO.bind ?_ (fun _ => ?_)
    · intro y0 y1 y2 y3 y4 y5 y6 y7 y8 y9 y10 y11 y12
      unfold impl_GrdOk.j2
      repeat' first
      | (with_reducible exact ih0 _ _ _ _)
      | (with_reducible exact ih1 _ _ _ _ _ _)
      | (with_reducible exact ih2 _ _ _ _ _ _ _ _ _ _ _ _ _)
      | (with_reducible exact impl_ccells.mono _ _ _ _ _ _ _)
      | (with_reducible exact LeO.refl _)
      | (with_reducible exact LeO.none _)
      | (with_reducible refine LeO.ite ?_ ?_)
      | (with_reducible refine LeO.bind ?_ (fun _ => ?_))
      | exact ih0 _ _ _ _
      | exact ih1 _ _ _ _ _ _
      | exact ih2 _ _ _ _ _ _ _ _ _ _ _ _ _
      | exact impl_ccells.mono _ _ _ _ _ _ _
      | exact LeO.none _
      | refine LeO.ite ?_ ?_
      | refine LeO.bind ?_ (fun _ => ?_)
theorem impl_GrdOk.mono : ∀ a0 a1 a2 k, LeO (impl_GrdOk.f k a0 a1 a2) (impl_GrdOk.f (k + 1) a0 a1 a2) := by
  intro a0 a1 a2 k
  obtain ⟨ih0, ih1, ih2⟩ := impl_GrdOk.mono_l k
  unfold impl_GrdOk.f
  repeat' first
      | (with_reducible exact ih0 _ _ _ _)
      | (with_reducible exact ih1 _ _ _ _ _ _)
      | (with_reducible exact ih2 _ _ _ _ _ _ _ _ _ _ _ _ _)
      | (with_reducible exact impl_ccells.mono _ _ _ _ _ _ _)
      | (with_reducible exact LeO.refl _)
      | (with_reducible exact LeO.none _)
      | (with_reducible refine LeO.ite ?_ ?_)
      | (with_reducible refine LeO.bind ?_ (fun _ => ?_))
      | exact ih0 _ _ _ _
      | exact ih1 _ _ _ _ _ _
      | exact ih2 _ _ _ _ _ _ _ _ _ _ _ _ _
      | exact impl_ccells.mono _ _ _ _ _ _ _
      | exact LeO.none _
      | refine LeO.ite ?_ ?_
      | refine LeO.bind ?_ (fun _ => ?_)
def impl_GrdOk.T8 : Bool × List (List Nat × List Nat) := (true, [([], []), ([0], [0]), ([1], [1]), ([2], [2]), ([3, 2], [3]), ([4], [4]), ([5, 4], [4, 5]), ([4], [4]), ([6, 7, 4], [4, 6, 7]), ([4], [4]), ([9, 4], [4, 9]), ([8, 10, 4, 4], [4, 8, 10]), ([4, 11], [4, 11])])
def impl_GrdOk.B8 : List Nat := [0, 1, 3, 7, 15, 31, 63, 31, 255, 31, 543, 2047, 4095]
theorem impl_GrdOk.tab8 : rtab .any (opsOf Try.f17 8) = impl_GrdOk.T8 := by kernel_rfl
theorem impl_GrdOk.bits8 : waitsOk impl_GrdOk.T8.2 impl_GrdOk.B8 = true := by kernel_rfl
set_option maxHeartbeats 8000000 in
set_option maxRecDepth 100000 in
theorem impl_GrdOk.calls (k : Nat) (a0_0 : Int) (a0_1 : Int) (A0_2 : Option Addr) (c0_2 : Nat) (l0_2 : List (S48)) (r : Bool) (w : World) (hr0_2 : Kd.C k48 w A0_2 l0_2.length l0_2) (hc0_2 : l0_2.length ≤ c0_2) (h : impl_GrdOk.f k a0_0 a0_1 l0_2 = some r) :
    Calls Try.prog 17 #[.agg #[.int .i64 a0_0, .int .i64 a0_1, .slice A0_2 l0_2.length c0_2]] w fun e w' => e = .returned (.bool r) ∧ Below w.heap.size w w' := by
  have hu30 := Try.underlying30
  have hu48 := Try.underlying48
  have HR0_2 := Aside0.mk hr0_2
  have HC0_2 := Aside0.mk hc0_2
  clear hr0_2 hc0_2
  have HB := Aside0.mk (Below.refl w.heap.size w)
  have H : ((impl_in.f a0_0 1 8).bind fun t165 => (if t165 = true then ((impl_in.f a0_1 1 94).bind fun t166 => (if t166 = true then (impl_GrdOk.j0 k (decide ((l0_2.length : Int) > 40)) a0_0 a0_1 l0_2) else (impl_GrdOk.j0 k true a0_0 a0_1 l0_2))) else (impl_GrdOk.j0 k true a0_0 a0_1 l0_2))) = some r := h
  clear h
  have HC2 := Aside0.mk H
  clear H
  go_enter Try.func17, Try.ntmps17
  go_upto_region 1 with (first | ((with_reducible refine gate_dst (N := 1) rfl ?_); (try (refine gate_guard (by rfl) ?_; dsimp only)); refine box_event ?hg (N := 1) ?hd (cs := #[.int .i64 a0_0, .int .i64 a0_1, .slice A0_2 l0_2.length c0_2]) (t := 30) ?hr ?_; (case hd => rfl); (case hg => rfl); (case hr => first | (go_simp; done) | (go_simp; rfl)); intro gb164 hg w3 hbox hb; have n0_ := Aside0.mk (below_step (by repeat (first | (with_reducible first | exact HB.out | apply below_alloc | apply pw_below_drewN | apply below_drew1) | exact HB.out)) hb); have n1_ := Aside0.mk (hbox); have n2_ := Aside0.mk ((by rw [hg]; exact (below_size (by repeat (first | (with_reducible first | exact HB.out | apply below_alloc | apply pw_below_drewN | apply below_drew1) | exact HB.out))) : w.heap.size ≤ gb164)); have n3_ := Aside0.mk ((by rw [hg]; exact (below_size (by repeat (first | (with_reducible first | exact HB.out | apply below_alloc | apply pw_below_drewN | apply below_drew1) | exact HB.out))) : w.heap.size ≤ gb164)); clear HB; have HB := n0_; have BK164 := n1_; have GW164 := n2_; have GE164 := n3_; clear n0_ n1_ n2_ n3_; clear hb hbox hg))
  (try simp only [Act.put, List.setIfInBounds_toArray, List.set_cons_zero, List.set_cons_succ])
  go_cut [20] (fun v20 wc => ∃ (kq : Nat) (x20_1 : Bool), v20 = .bool x20_1 ∧ Aside0 (impl_GrdOk.j0 kq x20_1 a0_0 a0_1 l0_2 = some r) ∧ Aside0 (kq ≤ k) ∧ Aside0 (wc.heap[gb164]? = some (.cells #[.int .i64 a0_0, .int .i64 a0_1, (.slice A0_2 l0_2.length c0_2)] 30 (0, 0))) ∧ Aside0 (Below w.heap.size w wc))
  case first =>
    have H := HC2.out
    clear HC2
    replace H := Option.bind_eq_some_iff.mp H
    obtain ⟨t165, A40, H⟩ := H
    replace H : (if t165 = true then ((impl_in.f a0_1 1 94).bind fun t166 => (if t166 = true then (impl_GrdOk.j0 k (decide ((l0_2.length : Int) > 40)) a0_0 a0_1 l0_2) else (impl_GrdOk.j0 k true a0_0 a0_1 l0_2))) else (impl_GrdOk.j0 k true a0_0 a0_1 l0_2)) = some r := H
    have A4 := Aside0.mk A40
    clear A40
    by_cases c5 : t165 = true
    · subst c5
      have H1 : ((impl_in.f a0_1 1 94).bind fun t166 => (if t166 = true then (impl_GrdOk.j0 k (decide ((l0_2.length : Int) > 40)) a0_0 a0_1 l0_2) else (impl_GrdOk.j0 k true a0_0 a0_1 l0_2))) = some r := by rw [if_pos rfl] at H; exact H
      clear H
      have H := H1
      clear H1
      replace H := Option.bind_eq_some_iff.mp H
      obtain ⟨t166, A60, H⟩ := H
      replace H : (if t166 = true then (impl_GrdOk.j0 k (decide ((l0_2.length : Int) > 40)) a0_0 a0_1 l0_2) else (impl_GrdOk.j0 k true a0_0 a0_1 l0_2)) = some r := H
      have A6 := Aside0.mk A60
      clear A60
      by_cases c7 : t166 = true
      · subst c7
        have H1 : (impl_GrdOk.j0 k (decide ((l0_2.length : Int) > 40)) a0_0 a0_1 l0_2) = some r := by rw [if_pos rfl] at H; exact H
        clear H
        have H := H1
        clear H1
        have H' := Aside0.mk H
        clear H
        have hcz8_0 : w3.cell? ⟨gb164, 0, none⟩ = some (.int .i64 a0_0) := (blk_cell BK164.out 0).trans rfl
        have hcz8_1 : w3.cell? ⟨gb164, 1, none⟩ = some (.int .i64 a0_1) := (blk_cell BK164.out 1).trans rfl
        have hcz8_2 : w3.cell? ⟨gb164, 2, none⟩ = some (.slice A0_2 l0_2.length c0_2) := (blk_cell BK164.out 2).trans rfl
        have hfz8_0 := blk_frozen BK164.out 0
        have hfz8_1 := blk_frozen BK164.out 1
        have hfz8_2 := blk_frozen BK164.out 2
        go_wp2_with (first | ((with_reducible refine gate_callee (f := 27) rfl ?_); refine goesL_ (some 7) rfl rfl Try.func27 (by kernel_rfl) rfl #[.int .i64 a0_0, .int .i64 1, .int .i64 8] rfl (by (try simp only [List.map_toArray, List.map_cons, List.map_nil]); first | done | rfl | (simp only [List.length_drop, List.length_take]; rfl)) ?_; (with_reducible refine (impl_in.calls a0_0 1 8 true _ A4.out).mono ?_); rintro e w' ⟨rfl, ⟨nd, rfl⟩⟩; refine ⟨_, rfl, ?_⟩) | (go_at_call 27; (with_reducible refine (impl_in.calls a0_1 1 94 true _ A6.out).mono ?_); rintro e w' ⟨rfl, ⟨nd, rfl⟩⟩))
        go_meet
        case rel => exact ⟨_, (decide ((l0_2.length : Int) > 40)), (by first | rfl | (simp; done) | (simp [*]; done)), H', ⟨by first | omega | exact Nat.le_refl _⟩, ⟨by (with_reducible repeat (first | refine blk_drewN ?_ _ | refine blk_drew ?_ | refine blk_alloc ?_ _)); exact BK164.out⟩, ⟨by repeat (first | (with_reducible first | exact HB.out | apply below_alloc | apply pw_below_drewN | apply below_drew1 | refine below_set ?_ GE164.out) | exact HB.out)⟩⟩
      · replace c7 := Bool.eq_false_iff.mpr c7
        subst c7
        have H1 : (impl_GrdOk.j0 k true a0_0 a0_1 l0_2) = some r := by rw [if_neg (show ¬ (false = true) by decide)] at H; exact H
        clear H
        have H := H1
        clear H1
        have H' := Aside0.mk H
        clear H
        have hcz9_0 : w3.cell? ⟨gb164, 0, none⟩ = some (.int .i64 a0_0) := (blk_cell BK164.out 0).trans rfl
        have hcz9_1 : w3.cell? ⟨gb164, 1, none⟩ = some (.int .i64 a0_1) := (blk_cell BK164.out 1).trans rfl
        have hcz9_2 : w3.cell? ⟨gb164, 2, none⟩ = some (.slice A0_2 l0_2.length c0_2) := (blk_cell BK164.out 2).trans rfl
        have hfz9_0 := blk_frozen BK164.out 0
        have hfz9_1 := blk_frozen BK164.out 1
        have hfz9_2 := blk_frozen BK164.out 2
        go_wp2_with (first | ((with_reducible refine gate_callee (f := 27) rfl ?_); refine goesL_ (some 7) rfl rfl Try.func27 (by kernel_rfl) rfl #[.int .i64 a0_0, .int .i64 1, .int .i64 8] rfl (by (try simp only [List.map_toArray, List.map_cons, List.map_nil]); first | done | rfl | (simp only [List.length_drop, List.length_take]; rfl)) ?_; (with_reducible refine (impl_in.calls a0_0 1 8 true _ A4.out).mono ?_); rintro e w' ⟨rfl, ⟨nd, rfl⟩⟩; refine ⟨_, rfl, ?_⟩) | (go_at_call 27; (with_reducible refine (impl_in.calls a0_1 1 94 false _ A6.out).mono ?_); rintro e w' ⟨rfl, ⟨nd, rfl⟩⟩))
        go_meet
        case rel => exact ⟨_, (true), (by first | rfl | (simp; done) | (simp [*]; done)), H', ⟨by first | omega | exact Nat.le_refl _⟩, ⟨by (with_reducible repeat (first | refine blk_drewN ?_ _ | refine blk_drew ?_ | refine blk_alloc ?_ _)); exact BK164.out⟩, ⟨by repeat (first | (with_reducible first | exact HB.out | apply below_alloc | apply pw_below_drewN | apply below_drew1 | refine below_set ?_ GE164.out) | exact HB.out)⟩⟩
    · replace c5 := Bool.eq_false_iff.mpr c5
      subst c5
      have H1 : (impl_GrdOk.j0 k true a0_0 a0_1 l0_2) = some r := by rw [if_neg (show ¬ (false = true) by decide)] at H; exact H
      clear H
      have H := H1
      clear H1
      have H' := Aside0.mk H
      clear H
      have hcz10_0 : w3.cell? ⟨gb164, 0, none⟩ = some (.int .i64 a0_0) := (blk_cell BK164.out 0).trans rfl
      have hcz10_1 : w3.cell? ⟨gb164, 1, none⟩ = some (.int .i64 a0_1) := (blk_cell BK164.out 1).trans rfl
      have hcz10_2 : w3.cell? ⟨gb164, 2, none⟩ = some (.slice A0_2 l0_2.length c0_2) := (blk_cell BK164.out 2).trans rfl
      have hfz10_0 := blk_frozen BK164.out 0
      have hfz10_1 := blk_frozen BK164.out 1
      have hfz10_2 := blk_frozen BK164.out 2
      go_wp2_with (first | ((with_reducible refine gate_callee (f := 27) rfl ?_); refine goesL_ (some 7) rfl rfl Try.func27 (by kernel_rfl) rfl #[.int .i64 a0_0, .int .i64 1, .int .i64 8] rfl (by (try simp only [List.map_toArray, List.map_cons, List.map_nil]); first | done | rfl | (simp only [List.length_drop, List.length_take]; rfl)) ?_; (with_reducible refine (impl_in.calls a0_0 1 8 false _ A4.out).mono ?_); rintro e w' ⟨rfl, ⟨nd, rfl⟩⟩; refine ⟨_, rfl, ?_⟩))
      go_meet
      case rel => exact ⟨_, (true), (by first | rfl | (simp; done) | (simp [*]; done)), H', ⟨by first | omega | exact Nat.le_refl _⟩, ⟨by (with_reducible repeat (first | refine blk_drewN ?_ _ | refine blk_drew ?_ | refine blk_alloc ?_ _)); exact BK164.out⟩, ⟨by repeat (first | (with_reducible first | exact HB.out | apply below_alloc | apply pw_below_drewN | apply below_drew1 | refine below_set ?_ GE164.out) | exact HB.out)⟩⟩
  case rest =>
    clear HC2
    try clear c1
    try clear c2
    try clear p2
    try clear c5
    try clear c7
    try clear hcz10_0
    try clear hcz10_1
    try clear hcz10_2
    try clear hcz8_0
    try clear hcz8_1
    try clear hcz8_2
    try clear hcz9_0
    try clear hcz9_1
    try clear hcz9_2
    try clear hfz10_0
    try clear hfz10_1
    try clear hfz10_2
    try clear hfz8_0
    try clear hfz8_1
    try clear hfz8_2
    try clear hfz9_0
    try clear hfz9_1
    try clear hfz9_2
    obtain ⟨kq, x20_1, rfl, HA, HJ1, BK164, HB⟩ := hcut
    cases kq with
    | zero => exact absurd HA.out (by simp [impl_GrdOk.j0])
    | succ kj1 =>
      have H := HA.out
      clear HA
      simp only [impl_GrdOk.j0] at H
      by_cases c11 : x20_1 = true
      · subst c11
        have H1 : (some false) = some r := by rw [if_pos rfl] at H; exact H
        clear H
        have H := H1
        clear H1
        obtain rfl := Option.some.inj H
        go_wp2
        go_ret
        exact ⟨by first | rfl | (simp [IntKind.wrap_i64, wrap64]; done) | (simp [errW_none, errW_some] <;> rfl) | (simp [*, errW_none, errW_some] <;> rfl), by repeat (first | (with_reducible first | exact HB.out | apply below_alloc | apply pw_below_drewN | apply below_drew1 | refine below_set ?_ GE164.out) | exact HB.out)⟩
      · replace c11 := Bool.eq_false_iff.mpr c11
        subst c11
        have H1 : (impl_GrdOk.l0 kj1 l0_2 (l0_2.length : Int) 0 a0_0 a0_1 l0_2) = some r := by rw [if_neg (show ¬ (false = true) by decide)] at H; exact H
        clear H
        have H := H1
        clear H1
        have H' := Aside0.mk H
        clear H
        have hcz12_0 : wc.cell? ⟨gb164, 0, none⟩ = some (.int .i64 a0_0) := (blk_cell BK164.out 0).trans rfl
        have hcz12_1 : wc.cell? ⟨gb164, 1, none⟩ = some (.int .i64 a0_1) := (blk_cell BK164.out 1).trans rfl
        have hcz12_2 : wc.cell? ⟨gb164, 2, none⟩ = some (.slice A0_2 l0_2.length c0_2) := (blk_cell BK164.out 2).trans rfl
        have hfz12_0 := blk_frozen BK164.out 0
        have hfz12_1 := blk_frozen BK164.out 1
        have hfz12_2 := blk_frozen BK164.out 2
        go_wp2
        go_loopg [24] kj1 (fun kq v24 w' => ∃ (x24_2 : Int), v24 = .int .i64 x24_2 ∧ Aside0 (impl_GrdOk.l0 kq l0_2 (l0_2.length : Int) x24_2 a0_0 a0_1 l0_2 = some r) ∧ Aside0 (kq ≤ kj1) ∧ Aside0 (w'.heap[gb164]? = some (.cells #[.int .i64 a0_0, .int .i64 a0_1, (.slice A0_2 l0_2.length c0_2)] 30 (0, 0))) ∧ Aside0 (Below w.heap.size w w'))
        case atStart => exact ⟨(0), (by first | rfl | (simp; done) | (simp [*]; done)), H', ⟨Nat.le_refl _⟩, ⟨by (with_reducible repeat (first | refine blk_drewN ?_ _ | refine blk_drew ?_ | refine blk_alloc ?_ _)); exact BK164.out⟩, ⟨by repeat (first | (with_reducible first | exact HB.out | apply below_alloc | apply pw_below_drewN | apply below_drew1 | refine below_set ?_ GE164.out) | exact HB.out)⟩⟩
        case round =>
          clear H'
          try clear c1
          try clear c2
          try clear p2
          try clear c5
          try clear c7
          try clear c11
          try clear hcz10_0
          try clear hcz10_1
          try clear hcz10_2
          try clear hcz12_0
          try clear hcz12_1
          try clear hcz12_2
          try clear hcz8_0
          try clear hcz8_1
          try clear hcz8_2
          try clear hcz9_0
          try clear hcz9_1
          try clear hcz9_2
          try clear hfz10_0
          try clear hfz10_1
          try clear hfz10_2
          try clear hfz12_0
          try clear hfz12_1
          try clear hfz12_2
          try clear hfz8_0
          try clear hfz8_1
          try clear hfz8_2
          try clear hfz9_0
          try clear hfz9_1
          try clear hfz9_2
          try clear p2
          obtain ⟨x24_2, rfl, HA, HK2, BK164, HB⟩ := hrel
          cases gk with
          | zero => exact absurd HA.out (by simp [impl_GrdOk.l0])
          | succ k2 =>
            have H := HA.out
            clear HA
            simp only [impl_GrdOk.l0] at H
            by_cases c13 : x24_2 < (l0_2.length : Int)
            · rw [if_pos c13] at H
              have c13b0 : decide (x24_2 < (l0_2.length : Int)) = true := decide_eq_true c13
              clear c13
              by_cases c14 : 0 ≤ x24_2
              · rw [if_pos c14] at H
                have c14b0 : decide (0 ≤ x24_2) = true := decide_eq_true c14
                clear c14
                by_cases c15 : x24_2 < (l0_2.length : Int)
                · rw [if_pos c15] at H
                  have c15b0 : decide (x24_2 < (l0_2.length : Int)) = true := decide_eq_true c15
                  clear c15
                  have HC16 := Aside0.mk H
                  clear H
                  have p167 : 0 ≤ (x24_2 : Int) := of_decide_eq_true (by first | (with_reducible assumption) | assumption)
                  have q167 : x24_2 < (l0_2.length : Int) := of_decide_eq_true (by first | (with_reducible assumption) | assumption)
                  obtain ⟨ad167, e167, hx167_0, hx167_1, hx167_2, hx167_3, hx167_4⟩ := at_T48 HR0_2.out x24_2 p167 q167
                  cases e167
                  replace hx167_0 := (HB.out.cell (World.block_lt_of_cell? w _ hx167_0)).trans hx167_0
                  replace hx167_1 := (HB.out.cell (World.block_lt_of_cell? w _ hx167_1)).trans hx167_1
                  replace hx167_2 := (HB.out.cell (World.block_lt_of_cell? w _ hx167_2)).trans hx167_2
                  replace hx167_3 := (HB.out.cell (World.block_lt_of_cell? w _ hx167_3)).trans hx167_3
                  replace hx167_4 := (HB.out.cell (World.block_lt_of_cell? w _ hx167_4)).trans hx167_4
                  replace p167 := eq_true p167
                  replace q167 := eq_true q167
                  go_upto_region 6 with (first | ((with_reducible refine gate_dst (N := 4) rfl ?_); (try (refine gate_guard (by rfl) ?_; dsimp only)); refine box_event ?hg (N := 4) ?hd (cs := #[.int .i64 0, .int .i64 0, .int .i64 0, .int .i64 0, .int .i64 0]) (t := 48) ?hr ?_; (case hd => rfl); (case hg => rfl); (case hr => first | (go_simp; done) | (go_simp; rfl)); intro gb168 hg w17 hbox hb; have n0_ := Aside0.mk (blk_below (g := gb164) (o := .cells #[.int .i64 a0_0, .int .i64 a0_1, .slice (some ad167) l0_2.length c0_2] 30 (0, 0)) (by (with_reducible repeat (first | refine blk_drewN ?_ _ | refine blk_drew ?_ | refine blk_alloc ?_ _)); exact BK164.out) hb); have n1_ := Aside0.mk (below_step (by repeat (first | (with_reducible first | exact HB.out | apply below_alloc | apply pw_below_drewN | apply below_drew1 | refine below_set ?_ GE164.out) | exact HB.out)) hb); have n2_ := Aside0.mk (hbox); have n3_ := Aside0.mk ((by rw [hg]; exact (below_size (by repeat (first | (with_reducible first | exact HB.out | apply below_alloc | apply pw_below_drewN | apply below_drew1 | refine below_set ?_ GE164.out) | exact HB.out))) : w.heap.size ≤ gb168)); have n4_ := Aside0.mk ((by rw [hg]; exact (below_size (by repeat (first | (with_reducible first | exact HB.out | apply below_alloc | apply pw_below_drewN | apply below_drew1 | refine below_set ?_ GE164.out) | exact HB.out))) : w.heap.size ≤ gb168)); have n5_ := Aside0.mk ((by rw [hg]; exact Nat.ne_of_lt (blk_lt (g := gb164) (o := .cells #[.int .i64 a0_0, .int .i64 a0_1, .slice (some ad167) l0_2.length c0_2] 30 (0, 0)) (by (with_reducible repeat (first | refine blk_drewN ?_ _ | refine blk_drew ?_ | refine blk_alloc ?_ _)); exact BK164.out)) : gb164 ≠ gb168)); have n6_ := Aside0.mk ((by rw [hg]; exact Nat.ne_of_gt (blk_lt (g := gb164) (o := .cells #[.int .i64 a0_0, .int .i64 a0_1, .slice (some ad167) l0_2.length c0_2] 30 (0, 0)) (by (with_reducible repeat (first | refine blk_drewN ?_ _ | refine blk_drew ?_ | refine blk_alloc ?_ _)); exact BK164.out)) : gb168 ≠ gb164)); clear BK164; clear HB; have BK164 := n0_; have HB := n1_; have BK168 := n2_; have GW168 := n3_; have GE168 := n4_; have NB164_168 := n5_; have NB168_164 := n6_; clear n0_ n1_ n2_ n3_ n4_ n5_ n6_; clear hb hbox hg; have hnb18 := NB168_164.out; have hnc18 := NB164_168.out; have hcz19_0 : w17.cell? ⟨gb168, 0, none⟩ = some (.int .i64 0) := (blk_cell BK168.out 0).trans rfl; have hcz19_1 : w17.cell? ⟨gb168, 1, none⟩ = some (.int .i64 0) := (blk_cell BK168.out 1).trans rfl; have hcz19_2 : w17.cell? ⟨gb168, 2, none⟩ = some (.int .i64 0) := (blk_cell BK168.out 2).trans rfl; have hcz19_3 : w17.cell? ⟨gb168, 3, none⟩ = some (.int .i64 0) := (blk_cell BK168.out 3).trans rfl; have hcz19_4 : w17.cell? ⟨gb168, 4, none⟩ = some (.int .i64 0) := (blk_cell BK168.out 4).trans rfl; have hfz19_0 := blk_frozen BK168.out 0; have hfz19_1 := blk_frozen BK168.out 1; have hfz19_2 := blk_frozen BK168.out 2; have hfz19_3 := blk_frozen BK168.out 3; have hfz19_4 := blk_frozen BK168.out 4))
                  (try simp only [Act.put, List.setIfInBounds_toArray, List.set_cons_zero, List.set_cons_succ])
                  go_cut [66] (fun v66 wc => ∃ (kq : Nat) (x66_15 : Bool), v66 = .bool x66_15 ∧ Aside0 (impl_GrdOk.j2 kq x24_2 l0_2 (l0_2.length : Int) x24_2 x66_15 a0_0 a0_1 l0_2 ((rd_T48 l0_2 x24_2).f0) ((rd_T48 l0_2 x24_2).f1) ((rd_T48 l0_2 x24_2).f2) ((rd_T48 l0_2 x24_2).f3) ((rd_T48 l0_2 x24_2).f4) = some r) ∧ Aside0 (kq ≤ k2) ∧ Aside0 (wc.heap[gb164]? = some (.cells #[.int .i64 a0_0, .int .i64 a0_1, (.slice (some ad167) l0_2.length c0_2)] 30 (0, 0))) ∧ Aside0 (wc.heap[gb168]? = some (.cells #[.int .i64 ((rd_T48 l0_2 x24_2).f0), .int .i64 ((rd_T48 l0_2 x24_2).f1), .int .i64 ((rd_T48 l0_2 x24_2).f2), .int .i64 ((rd_T48 l0_2 x24_2).f3), .int .i64 ((rd_T48 l0_2 x24_2).f4)] 48 (0, 0))) ∧ Aside0 (Below w.heap.size w wc))
                  case first =>
                    have H := HC16.out
                    clear HC16
                    replace H := Option.bind_eq_some_iff.mp H
                    obtain ⟨t169, A200, H⟩ := H
                    replace H : (if t169 = true then ((impl_in.f ((rd_T48 l0_2 x24_2).f2) 1 (wrap64 (a0_0 - ((rd_T48 l0_2 x24_2).f0)))).bind fun t170 => (if t170 = true then ((impl_in.f ((rd_T48 l0_2 x24_2).f1) 0 (wrap64 (a0_1 - 1))).bind fun t171 => (if t171 = true then ((impl_in.f ((rd_T48 l0_2 x24_2).f3) 1 (wrap64 (a0_1 - ((rd_T48 l0_2 x24_2).f1)))).bind fun t172 => (impl_GrdOk.j2 k2 x24_2 l0_2 (l0_2.length : Int) x24_2 (!t172) a0_0 a0_1 l0_2 ((rd_T48 l0_2 x24_2).f0) ((rd_T48 l0_2 x24_2).f1) ((rd_T48 l0_2 x24_2).f2) ((rd_T48 l0_2 x24_2).f3) ((rd_T48 l0_2 x24_2).f4))) else (impl_GrdOk.j2 k2 x24_2 l0_2 (l0_2.length : Int) x24_2 true a0_0 a0_1 l0_2 ((rd_T48 l0_2 x24_2).f0) ((rd_T48 l0_2 x24_2).f1) ((rd_T48 l0_2 x24_2).f2) ((rd_T48 l0_2 x24_2).f3) ((rd_T48 l0_2 x24_2).f4)))) else (impl_GrdOk.j2 k2 x24_2 l0_2 (l0_2.length : Int) x24_2 true a0_0 a0_1 l0_2 ((rd_T48 l0_2 x24_2).f0) ((rd_T48 l0_2 x24_2).f1) ((rd_T48 l0_2 x24_2).f2) ((rd_T48 l0_2 x24_2).f3) ((rd_T48 l0_2 x24_2).f4)))) else (impl_GrdOk.j2 k2 x24_2 l0_2 (l0_2.length : Int) x24_2 true a0_0 a0_1 l0_2 ((rd_T48 l0_2 x24_2).f0) ((rd_T48 l0_2 x24_2).f1) ((rd_T48 l0_2 x24_2).f2) ((rd_T48 l0_2 x24_2).f3) ((rd_T48 l0_2 x24_2).f4))) = some r := H
                    have A20 := Aside0.mk A200
                    clear A200
                    by_cases c21 : t169 = true
                    · subst c21
                      have H1 : ((impl_in.f ((rd_T48 l0_2 x24_2).f2) 1 (wrap64 (a0_0 - ((rd_T48 l0_2 x24_2).f0)))).bind fun t170 => (if t170 = true then ((impl_in.f ((rd_T48 l0_2 x24_2).f1) 0 (wrap64 (a0_1 - 1))).bind fun t171 => (if t171 = true then ((impl_in.f ((rd_T48 l0_2 x24_2).f3) 1 (wrap64 (a0_1 - ((rd_T48 l0_2 x24_2).f1)))).bind fun t172 => (impl_GrdOk.j2 k2 x24_2 l0_2 (l0_2.length : Int) x24_2 (!t172) a0_0 a0_1 l0_2 ((rd_T48 l0_2 x24_2).f0) ((rd_T48 l0_2 x24_2).f1) ((rd_T48 l0_2 x24_2).f2) ((rd_T48 l0_2 x24_2).f3) ((rd_T48 l0_2 x24_2).f4))) else (impl_GrdOk.j2 k2 x24_2 l0_2 (l0_2.length : Int) x24_2 true a0_0 a0_1 l0_2 ((rd_T48 l0_2 x24_2).f0) ((rd_T48 l0_2 x24_2).f1) ((rd_T48 l0_2 x24_2).f2) ((rd_T48 l0_2 x24_2).f3) ((rd_T48 l0_2 x24_2).f4)))) else (impl_GrdOk.j2 k2 x24_2 l0_2 (l0_2.length : Int) x24_2 true a0_0 a0_1 l0_2 ((rd_T48 l0_2 x24_2).f0) ((rd_T48 l0_2 x24_2).f1) ((rd_T48 l0_2 x24_2).f2) ((rd_T48 l0_2 x24_2).f3) ((rd_T48 l0_2 x24_2).f4)))) = some r := by rw [if_pos rfl] at H; exact H
                      clear H
                      have H := H1
                      clear H1
                      replace H := Option.bind_eq_some_iff.mp H
                      obtain ⟨t170, A220, H⟩ := H
                      replace H : (if t170 = true then ((impl_in.f ((rd_T48 l0_2 x24_2).f1) 0 (wrap64 (a0_1 - 1))).bind fun t171 => (if t171 = true then ((impl_in.f ((rd_T48 l0_2 x24_2).f3) 1 (wrap64 (a0_1 - ((rd_T48 l0_2 x24_2).f1)))).bind fun t172 => (impl_GrdOk.j2 k2 x24_2 l0_2 (l0_2.length : Int) x24_2 (!t172) a0_0 a0_1 l0_2 ((rd_T48 l0_2 x24_2).f0) ((rd_T48 l0_2 x24_2).f1) ((rd_T48 l0_2 x24_2).f2) ((rd_T48 l0_2 x24_2).f3) ((rd_T48 l0_2 x24_2).f4))) else (impl_GrdOk.j2 k2 x24_2 l0_2 (l0_2.length : Int) x24_2 true a0_0 a0_1 l0_2 ((rd_T48 l0_2 x24_2).f0) ((rd_T48 l0_2 x24_2).f1) ((rd_T48 l0_2 x24_2).f2) ((rd_T48 l0_2 x24_2).f3) ((rd_T48 l0_2 x24_2).f4)))) else (impl_GrdOk.j2 k2 x24_2 l0_2 (l0_2.length : Int) x24_2 true a0_0 a0_1 l0_2 ((rd_T48 l0_2 x24_2).f0) ((rd_T48 l0_2 x24_2).f1) ((rd_T48 l0_2 x24_2).f2) ((rd_T48 l0_2 x24_2).f3) ((rd_T48 l0_2 x24_2).f4))) = some r := H
                      have A22 := Aside0.mk A220
                      clear A220
                      by_cases c23 : t170 = true
                      · subst c23
                        have H1 : ((impl_in.f ((rd_T48 l0_2 x24_2).f1) 0 (wrap64 (a0_1 - 1))).bind fun t171 => (if t171 = true then ((impl_in.f ((rd_T48 l0_2 x24_2).f3) 1 (wrap64 (a0_1 - ((rd_T48 l0_2 x24_2).f1)))).bind fun t172 => (impl_GrdOk.j2 k2 x24_2 l0_2 (l0_2.length : Int) x24_2 (!t172) a0_0 a0_1 l0_2 ((rd_T48 l0_2 x24_2).f0) ((rd_T48 l0_2 x24_2).f1) ((rd_T48 l0_2 x24_2).f2) ((rd_T48 l0_2 x24_2).f3) ((rd_T48 l0_2 x24_2).f4))) else (impl_GrdOk.j2 k2 x24_2 l0_2 (l0_2.length : Int) x24_2 true a0_0 a0_1 l0_2 ((rd_T48 l0_2 x24_2).f0) ((rd_T48 l0_2 x24_2).f1) ((rd_T48 l0_2 x24_2).f2) ((rd_T48 l0_2 x24_2).f3) ((rd_T48 l0_2 x24_2).f4)))) = some r := by rw [if_pos rfl] at H; exact H
                        clear H
                        have H := H1
                        clear H1
                        replace H := Option.bind_eq_some_iff.mp H
                        obtain ⟨t171, A240, H⟩ := H
                        replace H : (if t171 = true then ((impl_in.f ((rd_T48 l0_2 x24_2).f3) 1 (wrap64 (a0_1 - ((rd_T48 l0_2 x24_2).f1)))).bind fun t172 => (impl_GrdOk.j2 k2 x24_2 l0_2 (l0_2.length : Int) x24_2 (!t172) a0_0 a0_1 l0_2 ((rd_T48 l0_2 x24_2).f0) ((rd_T48 l0_2 x24_2).f1) ((rd_T48 l0_2 x24_2).f2) ((rd_T48 l0_2 x24_2).f3) ((rd_T48 l0_2 x24_2).f4))) else (impl_GrdOk.j2 k2 x24_2 l0_2 (l0_2.length : Int) x24_2 true a0_0 a0_1 l0_2 ((rd_T48 l0_2 x24_2).f0) ((rd_T48 l0_2 x24_2).f1) ((rd_T48 l0_2 x24_2).f2) ((rd_T48 l0_2 x24_2).f3) ((rd_T48 l0_2 x24_2).f4))) = some r := H
                        have A24 := Aside0.mk A240
                        clear A240
                        by_cases c25 : t171 = true
                        · subst c25
                          have H1 : ((impl_in.f ((rd_T48 l0_2 x24_2).f3) 1 (wrap64 (a0_1 - ((rd_T48 l0_2 x24_2).f1)))).bind fun t172 => (impl_GrdOk.j2 k2 x24_2 l0_2 (l0_2.length : Int) x24_2 (!t172) a0_0 a0_1 l0_2 ((rd_T48 l0_2 x24_2).f0) ((rd_T48 l0_2 x24_2).f1) ((rd_T48 l0_2 x24_2).f2) ((rd_T48 l0_2 x24_2).f3) ((rd_T48 l0_2 x24_2).f4))) = some r := by rw [if_pos rfl] at H; exact H
                          clear H
                          have H := H1
                          clear H1
                          replace H := Option.bind_eq_some_iff.mp H
                          obtain ⟨t172, A260, H⟩ := H
                          replace H : (impl_GrdOk.j2 k2 x24_2 l0_2 (l0_2.length : Int) x24_2 (!t172) a0_0 a0_1 l0_2 ((rd_T48 l0_2 x24_2).f0) ((rd_T48 l0_2 x24_2).f1) ((rd_T48 l0_2 x24_2).f2) ((rd_T48 l0_2 x24_2).f3) ((rd_T48 l0_2 x24_2).f4)) = some r := H
                          have A26 := Aside0.mk A260
                          clear A260
                          have H' := Aside0.mk H
                          clear H
                          have hnb27 := NB168_164.out
                          have hnc27 := NB164_168.out
                          have hcz28_0 : w17.cell? ⟨gb168, 0, none⟩ = some (.int .i64 0) := (blk_cell BK168.out 0).trans rfl
                          have hcz28_1 : w17.cell? ⟨gb168, 1, none⟩ = some (.int .i64 0) := (blk_cell BK168.out 1).trans rfl
                          have hcz28_2 : w17.cell? ⟨gb168, 2, none⟩ = some (.int .i64 0) := (blk_cell BK168.out 2).trans rfl
                          have hcz28_3 : w17.cell? ⟨gb168, 3, none⟩ = some (.int .i64 0) := (blk_cell BK168.out 3).trans rfl
                          have hcz28_4 : w17.cell? ⟨gb168, 4, none⟩ = some (.int .i64 0) := (blk_cell BK168.out 4).trans rfl
                          have hfz28_0 := blk_frozen BK168.out 0
                          have hfz28_1 := blk_frozen BK168.out 1
                          have hfz28_2 := blk_frozen BK168.out 2
                          have hfz28_3 := blk_frozen BK168.out 3
                          have hfz28_4 := blk_frozen BK168.out 4
                          have hcz29_0 : w17.cell? ⟨gb164, 0, none⟩ = some (.int .i64 a0_0) := (blk_cell BK164.out 0).trans rfl
                          have hcz29_1 : w17.cell? ⟨gb164, 1, none⟩ = some (.int .i64 a0_1) := (blk_cell BK164.out 1).trans rfl
                          have hcz29_2 : w17.cell? ⟨gb164, 2, none⟩ = some (.slice (some ad167) l0_2.length c0_2) := (blk_cell BK164.out 2).trans rfl
                          have hfz29_0 := blk_frozen BK164.out 0
                          have hfz29_1 := blk_frozen BK164.out 1
                          have hfz29_2 := blk_frozen BK164.out 2
                          go_wp2_with (first | ((with_reducible refine gate_callee (f := 27) rfl ?_); refine goesL_ (some 34) rfl rfl Try.func27 (by kernel_rfl) rfl #[.int .i64 ((rd_T48 l0_2 x24_2).f0), .int .i64 0, .int .i64 (wrap64 (a0_0 - 1))] rfl (by (try simp only [List.map_toArray, List.map_cons, List.map_nil]); first | done | rfl | (simp only [List.length_drop, List.length_take]; rfl)) ?_; (with_reducible refine (impl_in.calls ((rd_T48 l0_2 x24_2).f0) 0 (wrap64 (a0_0 - 1)) true _ A20.out).mono ?_); rintro e w' ⟨rfl, ⟨nd, rfl⟩⟩; refine ⟨_, rfl, ?_⟩) | (go_at_call 27; (with_reducible refine (impl_in.calls ((rd_T48 l0_2 x24_2).f2) 1 (wrap64 (a0_0 - ((rd_T48 l0_2 x24_2).f0))) true _ A22.out).mono ?_); rintro e w' ⟨rfl, ⟨nd, rfl⟩⟩) | (go_at_call 27; (with_reducible refine (impl_in.calls ((rd_T48 l0_2 x24_2).f1) 0 (wrap64 (a0_1 - 1)) true _ A24.out).mono ?_); rintro e w' ⟨rfl, ⟨nd, rfl⟩⟩) | (go_at_call 27; (with_reducible refine (impl_in.calls ((rd_T48 l0_2 x24_2).f3) 1 (wrap64 (a0_1 - ((rd_T48 l0_2 x24_2).f1))) t172 _ A26.out).mono ?_); rintro e w' ⟨rfl, ⟨nd, rfl⟩⟩))
                          go_meet
                          case rel => exact ⟨_, (!t172), (by first | rfl | (simp; done) | (simp [*]; done)), H', ⟨by have := HJ1.out; have := HK2.out; first | omega | exact Nat.le_refl _⟩, ⟨by (with_reducible repeat (first | refine blk_drewN ?_ _ | refine blk_drew ?_ | refine blk_alloc ?_ _)); refine blk_far ?_ NB164_168.out _; (with_reducible repeat (first | refine blk_drewN ?_ _ | refine blk_drew ?_ | refine blk_alloc ?_ _)); refine blk_far ?_ NB164_168.out _; (with_reducible repeat (first | refine blk_drewN ?_ _ | refine blk_drew ?_ | refine blk_alloc ?_ _)); refine blk_far ?_ NB164_168.out _; (with_reducible repeat (first | refine blk_drewN ?_ _ | refine blk_drew ?_ | refine blk_alloc ?_ _)); refine blk_far ?_ NB164_168.out _; (with_reducible repeat (first | refine blk_drewN ?_ _ | refine blk_drew ?_ | refine blk_alloc ?_ _)); refine blk_far ?_ NB164_168.out _; (with_reducible repeat (first | refine blk_drewN ?_ _ | refine blk_drew ?_ | refine blk_alloc ?_ _)); exact BK164.out⟩, ⟨by (with_reducible repeat (first | refine blk_drewN ?_ _ | refine blk_drew ?_ | refine blk_alloc ?_ _)); refine blk_put (cs := #[.int .i64 ((rd_T48 l0_2 x24_2).f0), .int .i64 ((rd_T48 l0_2 x24_2).f1), .int .i64 ((rd_T48 l0_2 x24_2).f2), .int .i64 ((rd_T48 l0_2 x24_2).f3), .int .i64 0]) ?_ 4 _ rfl; (with_reducible repeat (first | refine blk_drewN ?_ _ | refine blk_drew ?_ | refine blk_alloc ?_ _)); refine blk_put (cs := #[.int .i64 ((rd_T48 l0_2 x24_2).f0), .int .i64 ((rd_T48 l0_2 x24_2).f1), .int .i64 ((rd_T48 l0_2 x24_2).f2), .int .i64 0, .int .i64 0]) ?_ 3 _ rfl; (with_reducible repeat (first | refine blk_drewN ?_ _ | refine blk_drew ?_ | refine blk_alloc ?_ _)); refine blk_put (cs := #[.int .i64 ((rd_T48 l0_2 x24_2).f0), .int .i64 ((rd_T48 l0_2 x24_2).f1), .int .i64 0, .int .i64 0, .int .i64 0]) ?_ 2 _ rfl; (with_reducible repeat (first | refine blk_drewN ?_ _ | refine blk_drew ?_ | refine blk_alloc ?_ _)); refine blk_put (cs := #[.int .i64 ((rd_T48 l0_2 x24_2).f0), .int .i64 0, .int .i64 0, .int .i64 0, .int .i64 0]) ?_ 1 _ rfl; (with_reducible repeat (first | refine blk_drewN ?_ _ | refine blk_drew ?_ | refine blk_alloc ?_ _)); refine blk_put (cs := #[.int .i64 0, .int .i64 0, .int .i64 0, .int .i64 0, .int .i64 0]) ?_ 0 _ rfl; (with_reducible repeat (first | refine blk_drewN ?_ _ | refine blk_drew ?_ | refine blk_alloc ?_ _)); exact BK168.out⟩, ⟨by repeat (first | (with_reducible first | exact HB.out | apply below_alloc | apply pw_below_drewN | apply below_drew1 | refine below_set ?_ GE164.out | refine below_set ?_ GE168.out) | exact HB.out)⟩⟩
                        · replace c25 := Bool.eq_false_iff.mpr c25
                          subst c25
                          have H1 : (impl_GrdOk.j2 k2 x24_2 l0_2 (l0_2.length : Int) x24_2 true a0_0 a0_1 l0_2 ((rd_T48 l0_2 x24_2).f0) ((rd_T48 l0_2 x24_2).f1) ((rd_T48 l0_2 x24_2).f2) ((rd_T48 l0_2 x24_2).f3) ((rd_T48 l0_2 x24_2).f4)) = some r := by rw [if_neg (show ¬ (false = true) by decide)] at H; exact H
                          clear H
                          have H := H1
                          clear H1
                          have H' := Aside0.mk H
                          clear H
                          have hnb30 := NB168_164.out
                          have hnc30 := NB164_168.out
                          have hcz31_0 : w17.cell? ⟨gb168, 0, none⟩ = some (.int .i64 0) := (blk_cell BK168.out 0).trans rfl
                          have hcz31_1 : w17.cell? ⟨gb168, 1, none⟩ = some (.int .i64 0) := (blk_cell BK168.out 1).trans rfl
                          have hcz31_2 : w17.cell? ⟨gb168, 2, none⟩ = some (.int .i64 0) := (blk_cell BK168.out 2).trans rfl
                          have hcz31_3 : w17.cell? ⟨gb168, 3, none⟩ = some (.int .i64 0) := (blk_cell BK168.out 3).trans rfl
                          have hcz31_4 : w17.cell? ⟨gb168, 4, none⟩ = some (.int .i64 0) := (blk_cell BK168.out 4).trans rfl
                          have hfz31_0 := blk_frozen BK168.out 0
                          have hfz31_1 := blk_frozen BK168.out 1
                          have hfz31_2 := blk_frozen BK168.out 2
                          have hfz31_3 := blk_frozen BK168.out 3
                          have hfz31_4 := blk_frozen BK168.out 4
                          have hcz32_0 : w17.cell? ⟨gb164, 0, none⟩ = some (.int .i64 a0_0) := (blk_cell BK164.out 0).trans rfl
                          have hcz32_1 : w17.cell? ⟨gb164, 1, none⟩ = some (.int .i64 a0_1) := (blk_cell BK164.out 1).trans rfl
                          have hcz32_2 : w17.cell? ⟨gb164, 2, none⟩ = some (.slice (some ad167) l0_2.length c0_2) := (blk_cell BK164.out 2).trans rfl
                          have hfz32_0 := blk_frozen BK164.out 0
                          have hfz32_1 := blk_frozen BK164.out 1
                          have hfz32_2 := blk_frozen BK164.out 2
                          go_wp2_with (first | ((with_reducible refine gate_callee (f := 27) rfl ?_); refine goesL_ (some 34) rfl rfl Try.func27 (by kernel_rfl) rfl #[.int .i64 ((rd_T48 l0_2 x24_2).f0), .int .i64 0, .int .i64 (wrap64 (a0_0 - 1))] rfl (by (try simp only [List.map_toArray, List.map_cons, List.map_nil]); first | done | rfl | (simp only [List.length_drop, List.length_take]; rfl)) ?_; (with_reducible refine (impl_in.calls ((rd_T48 l0_2 x24_2).f0) 0 (wrap64 (a0_0 - 1)) true _ A20.out).mono ?_); rintro e w' ⟨rfl, ⟨nd, rfl⟩⟩; refine ⟨_, rfl, ?_⟩) | (go_at_call 27; (with_reducible refine (impl_in.calls ((rd_T48 l0_2 x24_2).f2) 1 (wrap64 (a0_0 - ((rd_T48 l0_2 x24_2).f0))) true _ A22.out).mono ?_); rintro e w' ⟨rfl, ⟨nd, rfl⟩⟩) | (go_at_call 27; (with_reducible refine (impl_in.calls ((rd_T48 l0_2 x24_2).f1) 0 (wrap64 (a0_1 - 1)) false _ A24.out).mono ?_); rintro e w' ⟨rfl, ⟨nd, rfl⟩⟩))
                          go_meet
                          case rel => exact ⟨_, (true), (by first | rfl | (simp; done) | (simp [*]; done)), H', ⟨by have := HJ1.out; have := HK2.out; first | omega | exact Nat.le_refl _⟩, ⟨by (with_reducible repeat (first | refine blk_drewN ?_ _ | refine blk_drew ?_ | refine blk_alloc ?_ _)); refine blk_far ?_ NB164_168.out _; (with_reducible repeat (first | refine blk_drewN ?_ _ | refine blk_drew ?_ | refine blk_alloc ?_ _)); refine blk_far ?_ NB164_168.out _; (with_reducible repeat (first | refine blk_drewN ?_ _ | refine blk_drew ?_ | refine blk_alloc ?_ _)); refine blk_far ?_ NB164_168.out _; (with_reducible repeat (first | refine blk_drewN ?_ _ | refine blk_drew ?_ | refine blk_alloc ?_ _)); refine blk_far ?_ NB164_168.out _; (with_reducible repeat (first | refine blk_drewN ?_ _ | refine blk_drew ?_ | refine blk_alloc ?_ _)); refine blk_far ?_ NB164_168.out _; (with_reducible repeat (first | refine blk_drewN ?_ _ | refine blk_drew ?_ | refine blk_alloc ?_ _)); exact BK164.out⟩, ⟨by (with_reducible repeat (first | refine blk_drewN ?_ _ | refine blk_drew ?_ | refine blk_alloc ?_ _)); refine blk_put (cs := #[.int .i64 ((rd_T48 l0_2 x24_2).f0), .int .i64 ((rd_T48 l0_2 x24_2).f1), .int .i64 ((rd_T48 l0_2 x24_2).f2), .int .i64 ((rd_T48 l0_2 x24_2).f3), .int .i64 0]) ?_ 4 _ rfl; (with_reducible repeat (first | refine blk_drewN ?_ _ | refine blk_drew ?_ | refine blk_alloc ?_ _)); refine blk_put (cs := #[.int .i64 ((rd_T48 l0_2 x24_2).f0), .int .i64 ((rd_T48 l0_2 x24_2).f1), .int .i64 ((rd_T48 l0_2 x24_2).f2), .int .i64 0, .int .i64 0]) ?_ 3 _ rfl; (with_reducible repeat (first | refine blk_drewN ?_ _ | refine blk_drew ?_ | refine blk_alloc ?_ _)); refine blk_put (cs := #[.int .i64 ((rd_T48 l0_2 x24_2).f0), .int .i64 ((rd_T48 l0_2 x24_2).f1), .int .i64 0, .int .i64 0, .int .i64 0]) ?_ 2 _ rfl; (with_reducible repeat (first | refine blk_drewN ?_ _ | refine blk_drew ?_ | refine blk_alloc ?_ _)); refine blk_put (cs := #[.int .i64 ((rd_T48 l0_2 x24_2).f0), .int .i64 0, .int .i64 0, .int .i64 0, .int .i64 0]) ?_ 1 _ rfl; (with_reducible repeat (first | refine blk_drewN ?_ _ | refine blk_drew ?_ | refine blk_alloc ?_ _)); refine blk_put (cs := #[.int .i64 0, .int .i64 0, .int .i64 0, .int .i64 0, .int .i64 0]) ?_ 0 _ rfl; (with_reducible repeat (first | refine blk_drewN ?_ _ | refine blk_drew ?_ | refine blk_alloc ?_ _)); exact BK168.out⟩, ⟨by repeat (first | (with_reducible first | exact HB.out | apply below_alloc | apply pw_below_drewN | apply below_drew1 | refine below_set ?_ GE164.out | refine below_set ?_ GE168.out) | exact HB.out)⟩⟩
                      · replace c23 := Bool.eq_false_iff.mpr c23
                        subst c23
                        have H1 : (impl_GrdOk.j2 k2 x24_2 l0_2 (l0_2.length : Int) x24_2 true a0_0 a0_1 l0_2 ((rd_T48 l0_2 x24_2).f0) ((rd_T48 l0_2 x24_2).f1) ((rd_T48 l0_2 x24_2).f2) ((rd_T48 l0_2 x24_2).f3) ((rd_T48 l0_2 x24_2).f4)) = some r := by rw [if_neg (show ¬ (false = true) by decide)] at H; exact H
                        clear H
                        have H := H1
                        clear H1
                        have H' := Aside0.mk H
                        clear H
                        have hnb33 := NB168_164.out
                        have hnc33 := NB164_168.out
                        have hcz34_0 : w17.cell? ⟨gb168, 0, none⟩ = some (.int .i64 0) := (blk_cell BK168.out 0).trans rfl
                        have hcz34_1 : w17.cell? ⟨gb168, 1, none⟩ = some (.int .i64 0) := (blk_cell BK168.out 1).trans rfl
                        have hcz34_2 : w17.cell? ⟨gb168, 2, none⟩ = some (.int .i64 0) := (blk_cell BK168.out 2).trans rfl
                        have hcz34_3 : w17.cell? ⟨gb168, 3, none⟩ = some (.int .i64 0) := (blk_cell BK168.out 3).trans rfl
                        have hcz34_4 : w17.cell? ⟨gb168, 4, none⟩ = some (.int .i64 0) := (blk_cell BK168.out 4).trans rfl
                        have hfz34_0 := blk_frozen BK168.out 0
                        have hfz34_1 := blk_frozen BK168.out 1
                        have hfz34_2 := blk_frozen BK168.out 2
                        have hfz34_3 := blk_frozen BK168.out 3
                        have hfz34_4 := blk_frozen BK168.out 4
                        have hcz35_0 : w17.cell? ⟨gb164, 0, none⟩ = some (.int .i64 a0_0) := (blk_cell BK164.out 0).trans rfl
                        have hcz35_1 : w17.cell? ⟨gb164, 1, none⟩ = some (.int .i64 a0_1) := (blk_cell BK164.out 1).trans rfl
                        have hcz35_2 : w17.cell? ⟨gb164, 2, none⟩ = some (.slice (some ad167) l0_2.length c0_2) := (blk_cell BK164.out 2).trans rfl
                        have hfz35_0 := blk_frozen BK164.out 0
                        have hfz35_1 := blk_frozen BK164.out 1
                        have hfz35_2 := blk_frozen BK164.out 2
                        go_wp2_with (first | ((with_reducible refine gate_callee (f := 27) rfl ?_); refine goesL_ (some 34) rfl rfl Try.func27 (by kernel_rfl) rfl #[.int .i64 ((rd_T48 l0_2 x24_2).f0), .int .i64 0, .int .i64 (wrap64 (a0_0 - 1))] rfl (by (try simp only [List.map_toArray, List.map_cons, List.map_nil]); first | done | rfl | (simp only [List.length_drop, List.length_take]; rfl)) ?_; (with_reducible refine (impl_in.calls ((rd_T48 l0_2 x24_2).f0) 0 (wrap64 (a0_0 - 1)) true _ A20.out).mono ?_); rintro e w' ⟨rfl, ⟨nd, rfl⟩⟩; refine ⟨_, rfl, ?_⟩) | (go_at_call 27; (with_reducible refine (impl_in.calls ((rd_T48 l0_2 x24_2).f2) 1 (wrap64 (a0_0 - ((rd_T48 l0_2 x24_2).f0))) false _ A22.out).mono ?_); rintro e w' ⟨rfl, ⟨nd, rfl⟩⟩))
                        go_meet
                        case rel => exact ⟨_, (true), (by first | rfl | (simp; done) | (simp [*]; done)), H', ⟨by have := HJ1.out; have := HK2.out; first | omega | exact Nat.le_refl _⟩, ⟨by (with_reducible repeat (first | refine blk_drewN ?_ _ | refine blk_drew ?_ | refine blk_alloc ?_ _)); refine blk_far ?_ NB164_168.out _; (with_reducible repeat (first | refine blk_drewN ?_ _ | refine blk_drew ?_ | refine blk_alloc ?_ _)); refine blk_far ?_ NB164_168.out _; (with_reducible repeat (first | refine blk_drewN ?_ _ | refine blk_drew ?_ | refine blk_alloc ?_ _)); refine blk_far ?_ NB164_168.out _; (with_reducible repeat (first | refine blk_drewN ?_ _ | refine blk_drew ?_ | refine blk_alloc ?_ _)); refine blk_far ?_ NB164_168.out _; (with_reducible repeat (first | refine blk_drewN ?_ _ | refine blk_drew ?_ | refine blk_alloc ?_ _)); refine blk_far ?_ NB164_168.out _; (with_reducible repeat (first | refine blk_drewN ?_ _ | refine blk_drew ?_ | refine blk_alloc ?_ _)); exact BK164.out⟩, ⟨by (with_reducible repeat (first | refine blk_drewN ?_ _ | refine blk_drew ?_ | refine blk_alloc ?_ _)); refine blk_put (cs := #[.int .i64 ((rd_T48 l0_2 x24_2).f0), .int .i64 ((rd_T48 l0_2 x24_2).f1), .int .i64 ((rd_T48 l0_2 x24_2).f2), .int .i64 ((rd_T48 l0_2 x24_2).f3), .int .i64 0]) ?_ 4 _ rfl; (with_reducible repeat (first | refine blk_drewN ?_ _ | refine blk_drew ?_ | refine blk_alloc ?_ _)); refine blk_put (cs := #[.int .i64 ((rd_T48 l0_2 x24_2).f0), .int .i64 ((rd_T48 l0_2 x24_2).f1), .int .i64 ((rd_T48 l0_2 x24_2).f2), .int .i64 0, .int .i64 0]) ?_ 3 _ rfl; (with_reducible repeat (first | refine blk_drewN ?_ _ | refine blk_drew ?_ | refine blk_alloc ?_ _)); refine blk_put (cs := #[.int .i64 ((rd_T48 l0_2 x24_2).f0), .int .i64 ((rd_T48 l0_2 x24_2).f1), .int .i64 0, .int .i64 0, .int .i64 0]) ?_ 2 _ rfl; (with_reducible repeat (first | refine blk_drewN ?_ _ | refine blk_drew ?_ | refine blk_alloc ?_ _)); refine blk_put (cs := #[.int .i64 ((rd_T48 l0_2 x24_2).f0), .int .i64 0, .int .i64 0, .int .i64 0, .int .i64 0]) ?_ 1 _ rfl; (with_reducible repeat (first | refine blk_drewN ?_ _ | refine blk_drew ?_ | refine blk_alloc ?_ _)); refine blk_put (cs := #[.int .i64 0, .int .i64 0, .int .i64 0, .int .i64 0, .int .i64 0]) ?_ 0 _ rfl; (with_reducible repeat (first | refine blk_drewN ?_ _ | refine blk_drew ?_ | refine blk_alloc ?_ _)); exact BK168.out⟩, ⟨by repeat (first | (with_reducible first | exact HB.out | apply below_alloc | apply pw_below_drewN | apply below_drew1 | refine below_set ?_ GE164.out | refine below_set ?_ GE168.out) | exact HB.out)⟩⟩
                    · replace c21 := Bool.eq_false_iff.mpr c21
                      subst c21
                      have H1 : (impl_GrdOk.j2 k2 x24_2 l0_2 (l0_2.length : Int) x24_2 true a0_0 a0_1 l0_2 ((rd_T48 l0_2 x24_2).f0) ((rd_T48 l0_2 x24_2).f1) ((rd_T48 l0_2 x24_2).f2) ((rd_T48 l0_2 x24_2).f3) ((rd_T48 l0_2 x24_2).f4)) = some r := by rw [if_neg (show ¬ (false = true) by decide)] at H; exact H
                      clear H
                      have H := H1
                      clear H1
                      have H' := Aside0.mk H
                      clear H
                      have hnb36 := NB168_164.out
                      have hnc36 := NB164_168.out
                      have hcz37_0 : w17.cell? ⟨gb168, 0, none⟩ = some (.int .i64 0) := (blk_cell BK168.out 0).trans rfl
                      have hcz37_1 : w17.cell? ⟨gb168, 1, none⟩ = some (.int .i64 0) := (blk_cell BK168.out 1).trans rfl
                      have hcz37_2 : w17.cell? ⟨gb168, 2, none⟩ = some (.int .i64 0) := (blk_cell BK168.out 2).trans rfl
                      have hcz37_3 : w17.cell? ⟨gb168, 3, none⟩ = some (.int .i64 0) := (blk_cell BK168.out 3).trans rfl
                      have hcz37_4 : w17.cell? ⟨gb168, 4, none⟩ = some (.int .i64 0) := (blk_cell BK168.out 4).trans rfl
                      have hfz37_0 := blk_frozen BK168.out 0
                      have hfz37_1 := blk_frozen BK168.out 1
                      have hfz37_2 := blk_frozen BK168.out 2
                      have hfz37_3 := blk_frozen BK168.out 3
                      have hfz37_4 := blk_frozen BK168.out 4
                      have hcz38_0 : w17.cell? ⟨gb164, 0, none⟩ = some (.int .i64 a0_0) := (blk_cell BK164.out 0).trans rfl
                      have hcz38_1 : w17.cell? ⟨gb164, 1, none⟩ = some (.int .i64 a0_1) := (blk_cell BK164.out 1).trans rfl
                      have hcz38_2 : w17.cell? ⟨gb164, 2, none⟩ = some (.slice (some ad167) l0_2.length c0_2) := (blk_cell BK164.out 2).trans rfl
                      have hfz38_0 := blk_frozen BK164.out 0
                      have hfz38_1 := blk_frozen BK164.out 1
                      have hfz38_2 := blk_frozen BK164.out 2
                      go_wp2_with (first | ((with_reducible refine gate_callee (f := 27) rfl ?_); refine goesL_ (some 34) rfl rfl Try.func27 (by kernel_rfl) rfl #[.int .i64 ((rd_T48 l0_2 x24_2).f0), .int .i64 0, .int .i64 (wrap64 (a0_0 - 1))] rfl (by (try simp only [List.map_toArray, List.map_cons, List.map_nil]); first | done | rfl | (simp only [List.length_drop, List.length_take]; rfl)) ?_; (with_reducible refine (impl_in.calls ((rd_T48 l0_2 x24_2).f0) 0 (wrap64 (a0_0 - 1)) false _ A20.out).mono ?_); rintro e w' ⟨rfl, ⟨nd, rfl⟩⟩; refine ⟨_, rfl, ?_⟩))
                      go_meet
                      case rel => exact ⟨_, (true), (by first | rfl | (simp; done) | (simp [*]; done)), H', ⟨by have := HJ1.out; have := HK2.out; first | omega | exact Nat.le_refl _⟩, ⟨by (with_reducible repeat (first | refine blk_drewN ?_ _ | refine blk_drew ?_ | refine blk_alloc ?_ _)); refine blk_far ?_ NB164_168.out _; (with_reducible repeat (first | refine blk_drewN ?_ _ | refine blk_drew ?_ | refine blk_alloc ?_ _)); refine blk_far ?_ NB164_168.out _; (with_reducible repeat (first | refine blk_drewN ?_ _ | refine blk_drew ?_ | refine blk_alloc ?_ _)); refine blk_far ?_ NB164_168.out _; (with_reducible repeat (first | refine blk_drewN ?_ _ | refine blk_drew ?_ | refine blk_alloc ?_ _)); refine blk_far ?_ NB164_168.out _; (with_reducible repeat (first | refine blk_drewN ?_ _ | refine blk_drew ?_ | refine blk_alloc ?_ _)); refine blk_far ?_ NB164_168.out _; (with_reducible repeat (first | refine blk_drewN ?_ _ | refine blk_drew ?_ | refine blk_alloc ?_ _)); exact BK164.out⟩, ⟨by (with_reducible repeat (first | refine blk_drewN ?_ _ | refine blk_drew ?_ | refine blk_alloc ?_ _)); refine blk_put (cs := #[.int .i64 ((rd_T48 l0_2 x24_2).f0), .int .i64 ((rd_T48 l0_2 x24_2).f1), .int .i64 ((rd_T48 l0_2 x24_2).f2), .int .i64 ((rd_T48 l0_2 x24_2).f3), .int .i64 0]) ?_ 4 _ rfl; (with_reducible repeat (first | refine blk_drewN ?_ _ | refine blk_drew ?_ | refine blk_alloc ?_ _)); refine blk_put (cs := #[.int .i64 ((rd_T48 l0_2 x24_2).f0), .int .i64 ((rd_T48 l0_2 x24_2).f1), .int .i64 ((rd_T48 l0_2 x24_2).f2), .int .i64 0, .int .i64 0]) ?_ 3 _ rfl; (with_reducible repeat (first | refine blk_drewN ?_ _ | refine blk_drew ?_ | refine blk_alloc ?_ _)); refine blk_put (cs := #[.int .i64 ((rd_T48 l0_2 x24_2).f0), .int .i64 ((rd_T48 l0_2 x24_2).f1), .int .i64 0, .int .i64 0, .int .i64 0]) ?_ 2 _ rfl; (with_reducible repeat (first | refine blk_drewN ?_ _ | refine blk_drew ?_ | refine blk_alloc ?_ _)); refine blk_put (cs := #[.int .i64 ((rd_T48 l0_2 x24_2).f0), .int .i64 0, .int .i64 0, .int .i64 0, .int .i64 0]) ?_ 1 _ rfl; (with_reducible repeat (first | refine blk_drewN ?_ _ | refine blk_drew ?_ | refine blk_alloc ?_ _)); refine blk_put (cs := #[.int .i64 0, .int .i64 0, .int .i64 0, .int .i64 0, .int .i64 0]) ?_ 0 _ rfl; (with_reducible repeat (first | refine blk_drewN ?_ _ | refine blk_drew ?_ | refine blk_alloc ?_ _)); exact BK168.out⟩, ⟨by repeat (first | (with_reducible first | exact HB.out | apply below_alloc | apply pw_below_drewN | apply below_drew1 | refine below_set ?_ GE164.out | refine below_set ?_ GE168.out) | exact HB.out)⟩⟩
                  case rest =>
                    clear HC16
                    try clear c1
                    try clear p1
                    try clear q1
                    try clear hx1
                    try clear c2
                    try clear p2
                    try clear c3
                    try clear c5
                    try clear p6
                    try clear c7
                    try clear c11
                    try clear c13
                    try clear c13b0
                    try clear c14
                    try clear c14b0
                    try clear c15
                    try clear c15b0
                    try clear p16
                    try clear q16
                    try clear hx16
                    try clear c17
                    try clear c18
                    try clear c21
                    try clear c23
                    try clear c25
                    try clear c27
                    try clear c30
                    try clear c33
                    try clear c36
                    try clear hcz10_0
                    try clear hcz10_1
                    try clear hcz10_2
                    try clear hcz12_0
                    try clear hcz12_1
                    try clear hcz12_2
                    try clear hcz19_0
                    try clear hcz19_1
                    try clear hcz19_2
                    try clear hcz19_3
                    try clear hcz19_4
                    try clear hcz28_0
                    try clear hcz28_1
                    try clear hcz28_2
                    try clear hcz28_3
                    try clear hcz28_4
                    try clear hcz29_0
                    try clear hcz29_1
                    try clear hcz29_2
                    try clear hcz31_0
                    try clear hcz31_1
                    try clear hcz31_2
                    try clear hcz31_3
                    try clear hcz31_4
                    try clear hcz32_0
                    try clear hcz32_1
                    try clear hcz32_2
                    try clear hcz34_0
                    try clear hcz34_1
                    try clear hcz34_2
                    try clear hcz34_3
                    try clear hcz34_4
                    try clear hcz35_0
                    try clear hcz35_1
                    try clear hcz35_2
                    try clear hcz37_0
                    try clear hcz37_1
                    try clear hcz37_2
                    try clear hcz37_3
                    try clear hcz37_4
                    try clear hcz38_0
                    try clear hcz38_1
                    try clear hcz38_2
                    try clear hcz8_0
                    try clear hcz8_1
                    try clear hcz8_2
                    try clear hcz9_0
                    try clear hcz9_1
                    try clear hcz9_2
                    try clear hfz10_0
                    try clear hfz10_1
                    try clear hfz10_2
                    try clear hfz12_0
                    try clear hfz12_1
                    try clear hfz12_2
                    try clear hfz19_0
                    try clear hfz19_1
                    try clear hfz19_2
                    try clear hfz19_3
                    try clear hfz19_4
                    try clear hfz28_0
                    try clear hfz28_1
                    try clear hfz28_2
                    try clear hfz28_3
                    try clear hfz28_4
                    try clear hfz29_0
                    try clear hfz29_1
                    try clear hfz29_2
                    try clear hfz31_0
                    try clear hfz31_1
                    try clear hfz31_2
                    try clear hfz31_3
                    try clear hfz31_4
                    try clear hfz32_0
                    try clear hfz32_1
                    try clear hfz32_2
                    try clear hfz34_0
                    try clear hfz34_1
                    try clear hfz34_2
                    try clear hfz34_3
                    try clear hfz34_4
                    try clear hfz35_0
                    try clear hfz35_1
                    try clear hfz35_2
                    try clear hfz37_0
                    try clear hfz37_1
                    try clear hfz37_2
                    try clear hfz37_3
                    try clear hfz37_4
                    try clear hfz38_0
                    try clear hfz38_1
                    try clear hfz38_2
                    try clear hfz8_0
                    try clear hfz8_1
                    try clear hfz8_2
                    try clear hfz9_0
                    try clear hfz9_1
                    try clear hfz9_2
                    try clear hx167_0
                    try clear hx167_1
                    try clear hx167_2
                    try clear hx167_3
                    try clear hx167_4
                    try clear p167
                    try clear p2
                    try clear q167
                    obtain ⟨kq, x66_15, rfl, HA, HJ15, BK164, BK168, HB⟩ := hcut
                    cases kq with
                    | zero => exact absurd HA.out (by simp [impl_GrdOk.j2])
                    | succ kj15 =>
                      have H := HA.out
                      clear HA
                      simp only [impl_GrdOk.j2] at H
                      by_cases c39 : x66_15 = true
                      · subst c39
                        have H1 : (some false) = some r := by rw [if_pos rfl] at H; exact H
                        clear H
                        have H := H1
                        clear H1
                        obtain rfl := Option.some.inj H
                        go_wp2
                        go_ret
                        exact ⟨by first | rfl | (simp [IntKind.wrap_i64, wrap64]; done) | (simp [errW_none, errW_some] <;> rfl) | (simp [*, errW_none, errW_some] <;> rfl), by repeat (first | (with_reducible first | exact HB.out | apply below_alloc | apply pw_below_drewN | apply below_drew1 | refine below_set ?_ GE164.out | refine below_set ?_ GE168.out) | exact HB.out)⟩
                      · replace c39 := Bool.eq_false_iff.mpr c39
                        subst c39
                        have H1 : ((impl_in.f ((rd_T48 l0_2 x24_2).f4) 0 4).bind fun t173 => (if t173 = true then (if 0 ≤ x24_2 then (if x24_2 ≤ (l0_2.length : Int) then ((impl_ccells.f kj15 (l0_2.take (x24_2 : Int).toNat) ((rd_T48 l0_2 x24_2).f0) ((rd_T48 l0_2 x24_2).f1) ((rd_T48 l0_2 x24_2).f2) ((rd_T48 l0_2 x24_2).f3) ((rd_T48 l0_2 x24_2).f4)).bind fun t178 => (if t178 = true then (some false) else (impl_GrdOk.l0 kj15 l0_2 (l0_2.length : Int) (wrap64 (x24_2 + 1)) a0_0 a0_1 l0_2))) else (none)) else (none)) else (some false))) = some r := by rw [if_neg (show ¬ (false = true) by decide)] at H; exact H
                        clear H
                        have H := H1
                        clear H1
                        replace H := Option.bind_eq_some_iff.mp H
                        obtain ⟨t173, A400, H⟩ := H
                        replace H : (if t173 = true then (if 0 ≤ x24_2 then (if x24_2 ≤ (l0_2.length : Int) then ((impl_ccells.f kj15 (l0_2.take (x24_2 : Int).toNat) ((rd_T48 l0_2 x24_2).f0) ((rd_T48 l0_2 x24_2).f1) ((rd_T48 l0_2 x24_2).f2) ((rd_T48 l0_2 x24_2).f3) ((rd_T48 l0_2 x24_2).f4)).bind fun t178 => (if t178 = true then (some false) else (impl_GrdOk.l0 kj15 l0_2 (l0_2.length : Int) (wrap64 (x24_2 + 1)) a0_0 a0_1 l0_2))) else (none)) else (none)) else (some false)) = some r := H
                        have A40 := Aside0.mk A400
                        clear A400
                        by_cases c41 : t173 = true
                        · subst c41
                          have H1 : (if 0 ≤ x24_2 then (if x24_2 ≤ (l0_2.length : Int) then ((impl_ccells.f kj15 (l0_2.take (x24_2 : Int).toNat) ((rd_T48 l0_2 x24_2).f0) ((rd_T48 l0_2 x24_2).f1) ((rd_T48 l0_2 x24_2).f2) ((rd_T48 l0_2 x24_2).f3) ((rd_T48 l0_2 x24_2).f4)).bind fun t178 => (if t178 = true then (some false) else (impl_GrdOk.l0 kj15 l0_2 (l0_2.length : Int) (wrap64 (x24_2 + 1)) a0_0 a0_1 l0_2))) else (none)) else (none)) = some r := by rw [if_pos rfl] at H; exact H
                          clear H
                          have H := H1
                          clear H1
                          by_cases c42 : 0 ≤ x24_2
                          · rw [if_pos c42] at H
                            have c42b0 := eq_true c42
                            have c42b1 : decide (0 ≤ x24_2) = true := decide_eq_true c42
                            clear c42
                            by_cases c43 : x24_2 ≤ (l0_2.length : Int)
                            · rw [if_pos c43] at H
                              have c43b0 := eq_true c43
                              have c43b1 : decide (x24_2 ≤ (l0_2.length : Int)) = true := decide_eq_true c43
                              clear c43
                              obtain ⟨y174, hy174⟩ : ∃ y_ : List (S48), y_ = (l0_2.take (x24_2 : Int).toNat) := ⟨_, rfl⟩
                              replace H : ((impl_ccells.f kj15 y174 ((rd_T48 l0_2 x24_2).f0) ((rd_T48 l0_2 x24_2).f1) ((rd_T48 l0_2 x24_2).f2) ((rd_T48 l0_2 x24_2).f3) ((rd_T48 l0_2 x24_2).f4)).bind fun t178 => (if t178 = true then (some false) else (impl_GrdOk.l0 kj15 l0_2 (l0_2.length : Int) (wrap64 (x24_2 + 1)) a0_0 a0_1 l0_2))) = some r := by first | (rw [hy174]; with_reducible exact H) | (have H2_ := (Option.bind_some _ _).symm.trans H; rw [hy174]; with_reducible exact H2_) | (have H2_ := (Option.bind_some _ _).symm.trans H; with_reducible exact H2_) | with_reducible exact H | (rw [hy174]; exact H) | exact H
                              have Ny174 := Aside0.mk hy174
                              clear hy174
                              replace H := Option.bind_eq_some_iff.mp H
                              obtain ⟨t178, A440, H⟩ := H
                              replace H : (if t178 = true then (some false) else (impl_GrdOk.l0 kj15 l0_2 (l0_2.length : Int) (wrap64 (x24_2 + 1)) a0_0 a0_1 l0_2)) = some r := H
                              have A44 := Aside0.mk A440
                              clear A440
                              by_cases c45 : t178 = true
                              · subst c45
                                have H1 : (some false) = some r := by rw [if_pos rfl] at H; exact H
                                clear H
                                have H := H1
                                clear H1
                                obtain rfl := Option.some.inj H
                                try go_wp2
                                have n0_ := Aside0.mk (blk_drew BK164.out)
                                have n1_ := Aside0.mk (blk_drew BK168.out)
                                have n2_ := Aside0.mk (below_drew1 HB.out)
                                clear BK164
                                clear BK168
                                clear HB
                                have BK164 := n0_
                                have BK168 := n1_
                                have HB := n2_
                                clear n0_ n1_ n2_
                                refine start_ (n := 13) (S := fun w' => w'.cell? ⟨gb168, 0, none⟩ = some (.int .i64 ((rd_T48 l0_2 x24_2).f0)) ∧ w'.cell? ⟨gb168, 1, none⟩ = some (.int .i64 ((rd_T48 l0_2 x24_2).f1)) ∧ w'.cell? ⟨gb168, 2, none⟩ = some (.int .i64 ((rd_T48 l0_2 x24_2).f2)) ∧ w'.cell? ⟨gb168, 3, none⟩ = some (.int .i64 ((rd_T48 l0_2 x24_2).f3)) ∧ w'.cell? ⟨gb168, 4, none⟩ = some (.int .i64 ((rd_T48 l0_2 x24_2).f4)) ∧ w'.cell? ⟨gb164, 0, none⟩ = some (.int .i64 a0_0) ∧ w'.cell? ⟨gb164, 1, none⟩ = some (.int .i64 a0_1) ∧ w'.cell? ⟨gb164, 2, none⟩ = some (.slice (some ad167) l0_2.length c0_2)) (ds := []) #[false, false, false, false, false, false, false, false, false, false, false, false, false] (by kernel_rfl) rfl rfl ⟨(blk_cell BK168.out 0).trans rfl, (blk_cell BK168.out 1).trans rfl, (blk_cell BK168.out 2).trans rfl, (blk_cell BK168.out 3).trans rfl, (blk_cell BK168.out 4).trans rfl, (blk_cell BK164.out 0).trans rfl, (blk_cell BK164.out 1).trans rfl, (blk_cell BK164.out 2).trans rfl⟩ (fun hHeld => ?_); refine with_tabW impl_GrdOk.tab8 impl_GrdOk.bits8 (fun HT_ HW_ => ?_)
                                generalize wc.drew = w46 at BK164 BK168 HB hHeld ⊢
                                refine pure_ (i := 0) (N := some 67) (v := ?_) (a' := ?_) #[true, false, false, false, false, false, false, false, false, false, false, false, false] rfl rfl (any_of HT_.out (by kernel_rfl)) (fun _ _ _ h => h) (Or.inl ⟨by rfl, ?_⟩) ?_ ?_
                                rotate_left
                                · intro w'
                                  go_simp
                                  with_reducible rfl
                                rotate_left
                                · simp only [Act.put, List.setIfInBounds_toArray, List.set_cons_zero, List.set_cons_succ, i64_w, i32_w]
                                  rfl
                                refine take_ (i := 1) (N := some 68) (v := ?_) (a' := ?_) #[true, true, false, false, false, false, false, false, false, false, false, false, false] rfl rfl (take_ofW HT_.out HW_.out (by kernel_rfl)) (fun _ _ _ h => h) (Or.inl ⟨by rfl, ?_⟩) hHeld ?_ ?_
                                rotate_left
                                · rintro w' ⟨s0, s1, s2, s3, s4, s5, s6, s7⟩
                                  go_simp
                                  with_reducible rfl
                                rotate_left
                                · simp only [Act.put, List.setIfInBounds_toArray, List.set_cons_zero, List.set_cons_succ, i64_w, i32_w]
                                  rfl
                                refine one_ (i := 2) (N := some 69) #[true, true, true, false, false, false, false, false, false, false, false, false, false] rfl rfl (one_of HT_.out (by kernel_rfl)) (by decide) (fun K hK => ?_)
                                refine goes_ Try.func27 (by kernel_rfl) rfl #[.int .i64 ((rd_T48 l0_2 x24_2).f4), .int .i64 0, .int .i64 4] (by rfl) rfl rfl (by (try simp only [List.map_toArray, List.map_cons, List.map_nil]); first | done | rfl | (simp only [List.length_drop, List.length_take]; rfl)) ?_
                                with_reducible refine (impl_in.calls ((rd_T48 l0_2 x24_2).f4) 0 4 true _ A40.out).mono ?_
                                rintro e w' ⟨rfl, ⟨nd, rfl⟩⟩
                                refine ⟨_, rfl, ?_⟩
                                have q47 : (x24_2 : Int) ≤ ((l0_2.length : Int) : Int) := of_decide_eq_true (by first | (with_reducible assumption) | assumption)
                                obtain ⟨i047, hi047, _, hsz47, _⟩ := info_parts info48
                                have hroom47 : l0_2.length ≤ c0_2 := HC0_2.out
                                have hC47 : Kd.C k48 _ (some ad167) l0_2.length l0_2 := HR0_2.out
                                have hcut47 := cut_to (P := Try.prog) 28 48 .i64 Try.underlying28 hi047 (some ad167) l0_2.length c0_2 x24_2 (of_decide_eq_true (by first | (with_reducible assumption) | assumption)) q47 hroom47
                                have hr47 := Kd.C_take (m := (x24_2 : Int).toNat) hC47 (by omega)
                                have hy47 : y174.length = (x24_2 : Int).toNat := (by rw [Ny174.out, List.length_take]; omega)
                                rw [← Ny174.out] at hr47
                                rw [← hy47] at hcut47
                                have HR177 := Aside0.mk hr47
                                have HC177 := Aside0.mk (show y174.length ≤ c0_2 from by omega)
                                clear hr47 hC47 hroom47 hi047 hsz47
                                have KY47 := Aside0.mk hy47
                                clear hy47
                                replace q47 := eq_true q47
                                refine hK.out _ _ ⟨(blk_cell BK168.out 0).trans rfl, (blk_cell BK168.out 1).trans rfl, (blk_cell BK168.out 2).trans rfl, (blk_cell BK168.out 3).trans rfl, (blk_cell BK168.out 4).trans rfl, (blk_cell BK164.out 0).trans rfl, (blk_cell BK164.out 1).trans rfl, (blk_cell BK164.out 2).trans rfl⟩ (fun hHeld => ?_)
                                clear hK K
                                refine norm_ (a' := ?_) ?_ ?_
                                rotate_left
                                · show Act.put _ (some 69) _ = _
                                  simp only [Act.put, List.setIfInBounds_toArray, List.set_cons_zero, List.set_cons_succ, i64_w, i32_w]
                                  rfl
                                refine pure_ (i := 3) (N := some 70) (v := ?_) (a' := ?_) #[true, true, true, true, false, false, false, false, false, false, false, false, false] rfl rfl (any_of HT_.out (by kernel_rfl)) (fun _ _ _ h => h) (Or.inl ⟨by rfl, ?_⟩) ?_ ?_
                                rotate_left
                                · intro w'
                                  go_simp
                                  with_reducible rfl
                                rotate_left
                                · simp only [Act.put, List.setIfInBounds_toArray, List.set_cons_zero, List.set_cons_succ, i64_w, i32_w]
                                  rfl
                                refine pure_ (i := 4) (N := some 71) (v := ?_) (a' := ?_) #[true, true, true, true, true, false, false, false, false, false, false, false, false] rfl rfl (any_of HT_.out (by kernel_rfl)) (fun _ _ _ h => h) (Or.inl ⟨by rfl, ?_⟩) ?_ ?_
                                rotate_left
                                · intro w'
                                  go_simp
                                  with_reducible rfl
                                rotate_left
                                · simp only [Act.put, List.setIfInBounds_toArray, List.set_cons_zero, List.set_cons_succ, i64_w, i32_w]
                                  rfl
                                refine pure_ (i := 5) (N := some 72) (v := ?_) (a' := ?_) #[true, true, true, true, true, true, false, false, false, false, false, false, false] rfl rfl (any_of HT_.out (by kernel_rfl)) (fun _ _ _ h => h) (Or.inl ⟨by rfl, ?_⟩) ?_ ?_
                                rotate_left
                                · intro w'
                                  go_simp
                                  with_reducible rfl
                                rotate_left
                                · simp only [Act.put, List.setIfInBounds_toArray, List.set_cons_zero, List.set_cons_succ, i64_w, i32_w]
                                  rfl
                                refine pure_ (i := 7) (N := some 74) (v := ?_) (a' := ?_) #[true, true, true, true, true, true, false, true, false, false, false, false, false] rfl rfl (any_of HT_.out (by kernel_rfl)) (fun _ _ _ h => h) (Or.inl ⟨by rfl, ?_⟩) ?_ ?_
                                rotate_left
                                · intro w'
                                  go_simp
                                  with_reducible rfl
                                rotate_left
                                · simp only [Act.put, List.setIfInBounds_toArray, List.set_cons_zero, List.set_cons_succ, i64_w, i32_w]
                                  rfl
                                refine take_ (i := 6) (N := some 73) (v := ?_) (a' := ?_) #[true, true, true, true, true, true, true, true, false, false, false, false, false] rfl rfl (take_ofW HT_.out HW_.out (by kernel_rfl)) (fun _ _ _ h => h) (Or.inl ⟨by rfl, ?_⟩) hHeld ?_ ?_
                                rotate_left
                                · rintro w' ⟨s0, s1, s2, s3, s4, s5, s6, s7⟩
                                  go_simp
                                  with_reducible rfl
                                rotate_left
                                · simp only [Act.put, List.setIfInBounds_toArray, List.set_cons_zero, List.set_cons_succ, i64_w, i32_w]
                                  rfl
                                refine pure_ (i := 8) (N := some 75) (v := ?_) (a' := ?_) #[true, true, true, true, true, true, true, true, true, false, false, false, false] rfl rfl (any_of HT_.out (by kernel_rfl)) (fun _ _ _ h => h) (Or.inl ⟨by rfl, ?_⟩) ?_ ?_
                                rotate_left
                                · intro w'
                                  go_simp
                                  with_reducible rfl
                                rotate_left
                                · simp only [Act.put, List.setIfInBounds_toArray, List.set_cons_zero, List.set_cons_succ, i64_w, i32_w]
                                  rfl
                                refine take_ (i := 9) (N := some 76) (v := ?_) (a' := ?_) #[true, true, true, true, true, true, true, true, true, true, false, false, false] rfl rfl (take_ofW HT_.out HW_.out (by kernel_rfl)) (fun _ _ _ h => h) (Or.inl ⟨by rfl, ?_⟩) hHeld ?_ ?_
                                rotate_left
                                · rintro w' ⟨s0, s1, s2, s3, s4, s5, s6, s7⟩
                                  go_simp
                                  with_reducible rfl
                                rotate_left
                                · simp only [Act.put, List.setIfInBounds_toArray, List.set_cons_zero, List.set_cons_succ, i64_w, i32_w]
                                  rfl
                                refine pure_ (i := 10) (N := some 77) (v := ?_) (a' := ?_) #[true, true, true, true, true, true, true, true, true, true, true, false, false] rfl rfl (any_of HT_.out (by kernel_rfl)) (fun _ _ _ h => h) (Or.inl ⟨by rfl, ?_⟩) ?_ ?_
                                rotate_left
                                · intro w'
                                  go_simp
                                  with_reducible rfl
                                rotate_left
                                · simp only [Act.put, List.setIfInBounds_toArray, List.set_cons_zero, List.set_cons_succ, i64_w, i32_w]
                                  rfl
                                refine one_ (i := 11) (N := some 78) #[true, true, true, true, true, true, true, true, true, true, true, true, false] rfl rfl (one_of HT_.out (by kernel_rfl)) (by decide) (fun K hK => ?_)
                                refine goes_ Try.func28 (by kernel_rfl) rfl #[.slice (some ad167) y174.length c0_2, .func (.func 29) #[.agg #[.int .i64 ((rd_T48 l0_2 x24_2).f0), .int .i64 ((rd_T48 l0_2 x24_2).f1), .int .i64 ((rd_T48 l0_2 x24_2).f2), .int .i64 ((rd_T48 l0_2 x24_2).f3), .int .i64 ((rd_T48 l0_2 x24_2).f4)]] #[]] (by rfl) rfl rfl (by (try simp only [List.map_toArray, List.map_cons, List.map_nil]); first | done | rfl | (simp only [List.length_drop, List.length_take]; rfl) | (simp only [Ny174.out, List.length_drop, List.length_take]; rfl)) ?_
                                with_reducible refine (impl_ccells.calls kj15 _ _ y174 ((rd_T48 l0_2 x24_2).f0) ((rd_T48 l0_2 x24_2).f1) ((rd_T48 l0_2 x24_2).f2) ((rd_T48 l0_2 x24_2).f3) ((rd_T48 l0_2 x24_2).f4) true _ ?side1 ?side2 A44.out).mono ?_
                                (case side1 => repeat (first | exact (Kd.C_below HR177.out (by repeat (first | (with_reducible first | exact HB.out | apply below_alloc | apply pw_below_drewN | apply below_drew1 | refine below_set ?_ GE164.out | refine below_set ?_ GE168.out) | exact HB.out))) | (with_reducible refine Kd.C_alloc ?_ _) | (with_reducible refine Kd.C_drewN ?_ _) | (with_reducible refine Kd.C_drew ?_)))
                                (case side2 => exact HC177.out)
                                rintro e w48 ⟨rfl, hb⟩
                                refine ⟨_, rfl, ?_⟩
                                have n0_ := Aside0.mk (blk_below (g := gb164) (o := .cells #[.int .i64 a0_0, .int .i64 a0_1, .slice (some ad167) l0_2.length c0_2] 30 (0, 0)) (by (with_reducible repeat (first | refine blk_drewN ?_ _ | refine blk_drew ?_ | refine blk_alloc ?_ _)); exact BK164.out) hb)
                                have n1_ := Aside0.mk (blk_below (g := gb168) (o := .cells #[.int .i64 ((rd_T48 l0_2 x24_2).f0), .int .i64 ((rd_T48 l0_2 x24_2).f1), .int .i64 ((rd_T48 l0_2 x24_2).f2), .int .i64 ((rd_T48 l0_2 x24_2).f3), .int .i64 ((rd_T48 l0_2 x24_2).f4)] 48 (0, 0)) (by (with_reducible repeat (first | refine blk_drewN ?_ _ | refine blk_drew ?_ | refine blk_alloc ?_ _)); exact BK168.out) hb)
                                have n2_ := Aside0.mk (below_step (by repeat (first | (with_reducible first | exact HB.out | apply below_alloc | apply pw_below_drewN | apply below_drew1 | refine below_set ?_ GE164.out | refine below_set ?_ GE168.out) | exact HB.out)) hb)
                                clear BK164
                                clear BK168
                                clear HB
                                have BK164 := n0_
                                have BK168 := n1_
                                have HB := n2_
                                clear n0_ n1_ n2_
                                (try clear hb)
                                (try clear hb2)
                                (try clear hk)
                                (try clear hi)
                                refine hK.out _ _ ⟨(blk_cell BK168.out 0).trans rfl, (blk_cell BK168.out 1).trans rfl, (blk_cell BK168.out 2).trans rfl, (blk_cell BK168.out 3).trans rfl, (blk_cell BK168.out 4).trans rfl, (blk_cell BK164.out 0).trans rfl, (blk_cell BK164.out 1).trans rfl, (blk_cell BK164.out 2).trans rfl⟩ (fun hHeld => ?_)
                                clear hK K
                                refine norm_ (a' := ?_) ?_ ?_
                                rotate_left
                                · show Act.put _ (some 78) _ = _
                                  simp only [Act.put, List.setIfInBounds_toArray, List.set_cons_zero, List.set_cons_succ, i64_w, i32_w]
                                  rfl
                                refine pure_ (i := 12) (N := some 79) (v := ?_) (a' := ?_) #[true, true, true, true, true, true, true, true, true, true, true, true, true] rfl rfl (any_of HT_.out (by kernel_rfl)) (fun _ _ _ h => h) (Or.inl ⟨by rfl, ?_⟩) ?_ ?_
                                rotate_left
                                · intro w'
                                  go_simp
                                  with_reducible rfl
                                rotate_left
                                · simp only [Act.put, List.setIfInBounds_toArray, List.set_cons_zero, List.set_cons_succ, i64_w, i32_w]
                                  rfl
                                refine done_ (done_of HT_.out (by kernel_rfl)) ?_
                                try go_wp2
                                all_goals (go_ret; exact ⟨by first | rfl | (simp [IntKind.wrap_i64, wrap64]; done) | (simp [errW_none, errW_some] <;> rfl) | (simp [*, errW_none, errW_some] <;> rfl), by repeat (first | (with_reducible first | exact HB.out | apply below_alloc | apply pw_below_drewN | apply below_drew1 | refine below_set ?_ GE164.out | refine below_set ?_ GE168.out) | exact HB.out)⟩)
                              · replace c45 := Bool.eq_false_iff.mpr c45
                                subst c45
                                have H1 : (impl_GrdOk.l0 kj15 l0_2 (l0_2.length : Int) (wrap64 (x24_2 + 1)) a0_0 a0_1 l0_2) = some r := by rw [if_neg (show ¬ (false = true) by decide)] at H; exact H
                                clear H
                                have H := H1
                                clear H1
                                have H' := Aside0.mk H
                                clear H
                                try go_wp2
                                have n0_ := Aside0.mk (blk_drew BK164.out)
                                have n1_ := Aside0.mk (blk_drew BK168.out)
                                have n2_ := Aside0.mk (below_drew1 HB.out)
                                clear BK164
                                clear BK168
                                clear HB
                                have BK164 := n0_
                                have BK168 := n1_
                                have HB := n2_
                                clear n0_ n1_ n2_
                                refine start_ (n := 13) (S := fun w' => w'.cell? ⟨gb168, 0, none⟩ = some (.int .i64 ((rd_T48 l0_2 x24_2).f0)) ∧ w'.cell? ⟨gb168, 1, none⟩ = some (.int .i64 ((rd_T48 l0_2 x24_2).f1)) ∧ w'.cell? ⟨gb168, 2, none⟩ = some (.int .i64 ((rd_T48 l0_2 x24_2).f2)) ∧ w'.cell? ⟨gb168, 3, none⟩ = some (.int .i64 ((rd_T48 l0_2 x24_2).f3)) ∧ w'.cell? ⟨gb168, 4, none⟩ = some (.int .i64 ((rd_T48 l0_2 x24_2).f4)) ∧ w'.cell? ⟨gb164, 0, none⟩ = some (.int .i64 a0_0) ∧ w'.cell? ⟨gb164, 1, none⟩ = some (.int .i64 a0_1) ∧ w'.cell? ⟨gb164, 2, none⟩ = some (.slice (some ad167) l0_2.length c0_2)) (ds := []) #[false, false, false, false, false, false, false, false, false, false, false, false, false] (by kernel_rfl) rfl rfl ⟨(blk_cell BK168.out 0).trans rfl, (blk_cell BK168.out 1).trans rfl, (blk_cell BK168.out 2).trans rfl, (blk_cell BK168.out 3).trans rfl, (blk_cell BK168.out 4).trans rfl, (blk_cell BK164.out 0).trans rfl, (blk_cell BK164.out 1).trans rfl, (blk_cell BK164.out 2).trans rfl⟩ (fun hHeld => ?_); refine with_tabW impl_GrdOk.tab8 impl_GrdOk.bits8 (fun HT_ HW_ => ?_)
                                generalize wc.drew = w49 at BK164 BK168 HB hHeld ⊢
                                refine pure_ (i := 0) (N := some 67) (v := ?_) (a' := ?_) #[true, false, false, false, false, false, false, false, false, false, false, false, false] rfl rfl (any_of HT_.out (by kernel_rfl)) (fun _ _ _ h => h) (Or.inl ⟨by rfl, ?_⟩) ?_ ?_
                                rotate_left
                                · intro w'
                                  go_simp
                                  with_reducible rfl
                                rotate_left
                                · simp only [Act.put, List.setIfInBounds_toArray, List.set_cons_zero, List.set_cons_succ, i64_w, i32_w]
                                  rfl
                                refine take_ (i := 1) (N := some 68) (v := ?_) (a' := ?_) #[true, true, false, false, false, false, false, false, false, false, false, false, false] rfl rfl (take_ofW HT_.out HW_.out (by kernel_rfl)) (fun _ _ _ h => h) (Or.inl ⟨by rfl, ?_⟩) hHeld ?_ ?_
                                rotate_left
                                · rintro w' ⟨s0, s1, s2, s3, s4, s5, s6, s7⟩
                                  go_simp
                                  with_reducible rfl
                                rotate_left
                                · simp only [Act.put, List.setIfInBounds_toArray, List.set_cons_zero, List.set_cons_succ, i64_w, i32_w]
                                  rfl
                                refine one_ (i := 2) (N := some 69) #[true, true, true, false, false, false, false, false, false, false, false, false, false] rfl rfl (one_of HT_.out (by kernel_rfl)) (by decide) (fun K hK => ?_)
                                refine goes_ Try.func27 (by kernel_rfl) rfl #[.int .i64 ((rd_T48 l0_2 x24_2).f4), .int .i64 0, .int .i64 4] (by rfl) rfl rfl (by (try simp only [List.map_toArray, List.map_cons, List.map_nil]); first | done | rfl | (simp only [List.length_drop, List.length_take]; rfl)) ?_
                                with_reducible refine (impl_in.calls ((rd_T48 l0_2 x24_2).f4) 0 4 true _ A40.out).mono ?_
                                rintro e w' ⟨rfl, ⟨nd, rfl⟩⟩
                                refine ⟨_, rfl, ?_⟩
                                have q50 : (x24_2 : Int) ≤ ((l0_2.length : Int) : Int) := of_decide_eq_true (by first | (with_reducible assumption) | assumption)
                                obtain ⟨i050, hi050, _, hsz50, _⟩ := info_parts info48
                                have hroom50 : l0_2.length ≤ c0_2 := HC0_2.out
                                have hC50 : Kd.C k48 _ (some ad167) l0_2.length l0_2 := HR0_2.out
                                have hcut50 := cut_to (P := Try.prog) 28 48 .i64 Try.underlying28 hi050 (some ad167) l0_2.length c0_2 x24_2 (of_decide_eq_true (by first | (with_reducible assumption) | assumption)) q50 hroom50
                                have hr50 := Kd.C_take (m := (x24_2 : Int).toNat) hC50 (by omega)
                                have hy50 : y174.length = (x24_2 : Int).toNat := (by rw [Ny174.out, List.length_take]; omega)
                                rw [← Ny174.out] at hr50
                                rw [← hy50] at hcut50
                                have HR177 := Aside0.mk hr50
                                have HC177 := Aside0.mk (show y174.length ≤ c0_2 from by omega)
                                clear hr50 hC50 hroom50 hi050 hsz50
                                have KY50 := Aside0.mk hy50
                                clear hy50
                                replace q50 := eq_true q50
                                refine hK.out _ _ ⟨(blk_cell BK168.out 0).trans rfl, (blk_cell BK168.out 1).trans rfl, (blk_cell BK168.out 2).trans rfl, (blk_cell BK168.out 3).trans rfl, (blk_cell BK168.out 4).trans rfl, (blk_cell BK164.out 0).trans rfl, (blk_cell BK164.out 1).trans rfl, (blk_cell BK164.out 2).trans rfl⟩ (fun hHeld => ?_)
                                clear hK K
                                refine norm_ (a' := ?_) ?_ ?_
                                rotate_left
                                · show Act.put _ (some 69) _ = _
                                  simp only [Act.put, List.setIfInBounds_toArray, List.set_cons_zero, List.set_cons_succ, i64_w, i32_w]
                                  rfl
                                refine pure_ (i := 3) (N := some 70) (v := ?_) (a' := ?_) #[true, true, true, true, false, false, false, false, false, false, false, false, false] rfl rfl (any_of HT_.out (by kernel_rfl)) (fun _ _ _ h => h) (Or.inl ⟨by rfl, ?_⟩) ?_ ?_
                                rotate_left
                                · intro w'
                                  go_simp
                                  with_reducible rfl
                                rotate_left
                                · simp only [Act.put, List.setIfInBounds_toArray, List.set_cons_zero, List.set_cons_succ, i64_w, i32_w]
                                  rfl
                                refine pure_ (i := 4) (N := some 71) (v := ?_) (a' := ?_) #[true, true, true, true, true, false, false, false, false, false, false, false, false] rfl rfl (any_of HT_.out (by kernel_rfl)) (fun _ _ _ h => h) (Or.inl ⟨by rfl, ?_⟩) ?_ ?_
                                rotate_left
                                · intro w'
                                  go_simp
                                  with_reducible rfl
                                rotate_left
                                · simp only [Act.put, List.setIfInBounds_toArray, List.set_cons_zero, List.set_cons_succ, i64_w, i32_w]
                                  rfl
                                refine pure_ (i := 5) (N := some 72) (v := ?_) (a' := ?_) #[true, true, true, true, true, true, false, false, false, false, false, false, false] rfl rfl (any_of HT_.out (by kernel_rfl)) (fun _ _ _ h => h) (Or.inl ⟨by rfl, ?_⟩) ?_ ?_
                                rotate_left
                                · intro w'
                                  go_simp
                                  with_reducible rfl
                                rotate_left
                                · simp only [Act.put, List.setIfInBounds_toArray, List.set_cons_zero, List.set_cons_succ, i64_w, i32_w]
                                  rfl
                                refine pure_ (i := 7) (N := some 74) (v := ?_) (a' := ?_) #[true, true, true, true, true, true, false, true, false, false, false, false, false] rfl rfl (any_of HT_.out (by kernel_rfl)) (fun _ _ _ h => h) (Or.inl ⟨by rfl, ?_⟩) ?_ ?_
                                rotate_left
                                · intro w'
                                  go_simp
                                  with_reducible rfl
                                rotate_left
                                · simp only [Act.put, List.setIfInBounds_toArray, List.set_cons_zero, List.set_cons_succ, i64_w, i32_w]
                                  rfl
                                refine take_ (i := 6) (N := some 73) (v := ?_) (a' := ?_) #[true, true, true, true, true, true, true, true, false, false, false, false, false] rfl rfl (take_ofW HT_.out HW_.out (by kernel_rfl)) (fun _ _ _ h => h) (Or.inl ⟨by rfl, ?_⟩) hHeld ?_ ?_
                                rotate_left
                                · rintro w' ⟨s0, s1, s2, s3, s4, s5, s6, s7⟩
                                  go_simp
                                  with_reducible rfl
                                rotate_left
                                · simp only [Act.put, List.setIfInBounds_toArray, List.set_cons_zero, List.set_cons_succ, i64_w, i32_w]
                                  rfl
                                refine pure_ (i := 8) (N := some 75) (v := ?_) (a' := ?_) #[true, true, true, true, true, true, true, true, true, false, false, false, false] rfl rfl (any_of HT_.out (by kernel_rfl)) (fun _ _ _ h => h) (Or.inl ⟨by rfl, ?_⟩) ?_ ?_
                                rotate_left
                                · intro w'
                                  go_simp
                                  with_reducible rfl
                                rotate_left
                                · simp only [Act.put, List.setIfInBounds_toArray, List.set_cons_zero, List.set_cons_succ, i64_w, i32_w]
                                  rfl
                                refine take_ (i := 9) (N := some 76) (v := ?_) (a' := ?_) #[true, true, true, true, true, true, true, true, true, true, false, false, false] rfl rfl (take_ofW HT_.out HW_.out (by kernel_rfl)) (fun _ _ _ h => h) (Or.inl ⟨by rfl, ?_⟩) hHeld ?_ ?_
                                rotate_left
                                · rintro w' ⟨s0, s1, s2, s3, s4, s5, s6, s7⟩
                                  go_simp
                                  with_reducible rfl
                                rotate_left
                                · simp only [Act.put, List.setIfInBounds_toArray, List.set_cons_zero, List.set_cons_succ, i64_w, i32_w]
                                  rfl
                                refine pure_ (i := 10) (N := some 77) (v := ?_) (a' := ?_) #[true, true, true, true, true, true, true, true, true, true, true, false, false] rfl rfl (any_of HT_.out (by kernel_rfl)) (fun _ _ _ h => h) (Or.inl ⟨by rfl, ?_⟩) ?_ ?_
                                rotate_left
                                · intro w'
                                  go_simp
                                  with_reducible rfl
                                rotate_left
                                · simp only [Act.put, List.setIfInBounds_toArray, List.set_cons_zero, List.set_cons_succ, i64_w, i32_w]
                                  rfl
                                refine one_ (i := 11) (N := some 78) #[true, true, true, true, true, true, true, true, true, true, true, true, false] rfl rfl (one_of HT_.out (by kernel_rfl)) (by decide) (fun K hK => ?_)
                                refine goes_ Try.func28 (by kernel_rfl) rfl #[.slice (some ad167) y174.length c0_2, .func (.func 29) #[.agg #[.int .i64 ((rd_T48 l0_2 x24_2).f0), .int .i64 ((rd_T48 l0_2 x24_2).f1), .int .i64 ((rd_T48 l0_2 x24_2).f2), .int .i64 ((rd_T48 l0_2 x24_2).f3), .int .i64 ((rd_T48 l0_2 x24_2).f4)]] #[]] (by rfl) rfl rfl (by (try simp only [List.map_toArray, List.map_cons, List.map_nil]); first | done | rfl | (simp only [List.length_drop, List.length_take]; rfl) | (simp only [Ny174.out, List.length_drop, List.length_take]; rfl)) ?_
                                with_reducible refine (impl_ccells.calls kj15 _ _ y174 ((rd_T48 l0_2 x24_2).f0) ((rd_T48 l0_2 x24_2).f1) ((rd_T48 l0_2 x24_2).f2) ((rd_T48 l0_2 x24_2).f3) ((rd_T48 l0_2 x24_2).f4) false _ ?side1 ?side2 A44.out).mono ?_
                                (case side1 => repeat (first | exact (Kd.C_below HR177.out (by repeat (first | (with_reducible first | exact HB.out | apply below_alloc | apply pw_below_drewN | apply below_drew1 | refine below_set ?_ GE164.out | refine below_set ?_ GE168.out) | exact HB.out))) | (with_reducible refine Kd.C_alloc ?_ _) | (with_reducible refine Kd.C_drewN ?_ _) | (with_reducible refine Kd.C_drew ?_)))
                                (case side2 => exact HC177.out)
                                rintro e w51 ⟨rfl, hb⟩
                                refine ⟨_, rfl, ?_⟩
                                have n0_ := Aside0.mk (blk_below (g := gb164) (o := .cells #[.int .i64 a0_0, .int .i64 a0_1, .slice (some ad167) l0_2.length c0_2] 30 (0, 0)) (by (with_reducible repeat (first | refine blk_drewN ?_ _ | refine blk_drew ?_ | refine blk_alloc ?_ _)); exact BK164.out) hb)
                                have n1_ := Aside0.mk (blk_below (g := gb168) (o := .cells #[.int .i64 ((rd_T48 l0_2 x24_2).f0), .int .i64 ((rd_T48 l0_2 x24_2).f1), .int .i64 ((rd_T48 l0_2 x24_2).f2), .int .i64 ((rd_T48 l0_2 x24_2).f3), .int .i64 ((rd_T48 l0_2 x24_2).f4)] 48 (0, 0)) (by (with_reducible repeat (first | refine blk_drewN ?_ _ | refine blk_drew ?_ | refine blk_alloc ?_ _)); exact BK168.out) hb)
                                have n2_ := Aside0.mk (below_step (by repeat (first | (with_reducible first | exact HB.out | apply below_alloc | apply pw_below_drewN | apply below_drew1 | refine below_set ?_ GE164.out | refine below_set ?_ GE168.out) | exact HB.out)) hb)
                                clear BK164
                                clear BK168
                                clear HB
                                have BK164 := n0_
                                have BK168 := n1_
                                have HB := n2_
                                clear n0_ n1_ n2_
                                (try clear hb)
                                (try clear hb2)
                                (try clear hk)
                                (try clear hi)
                                refine hK.out _ _ ⟨(blk_cell BK168.out 0).trans rfl, (blk_cell BK168.out 1).trans rfl, (blk_cell BK168.out 2).trans rfl, (blk_cell BK168.out 3).trans rfl, (blk_cell BK168.out 4).trans rfl, (blk_cell BK164.out 0).trans rfl, (blk_cell BK164.out 1).trans rfl, (blk_cell BK164.out 2).trans rfl⟩ (fun hHeld => ?_)
                                clear hK K
                                refine norm_ (a' := ?_) ?_ ?_
                                rotate_left
                                · show Act.put _ (some 78) _ = _
                                  simp only [Act.put, List.setIfInBounds_toArray, List.set_cons_zero, List.set_cons_succ, i64_w, i32_w]
                                  rfl
                                refine pure_ (i := 12) (N := some 79) (v := ?_) (a' := ?_) #[true, true, true, true, true, true, true, true, true, true, true, true, true] rfl rfl (any_of HT_.out (by kernel_rfl)) (fun _ _ _ h => h) (Or.inl ⟨by rfl, ?_⟩) ?_ ?_
                                rotate_left
                                · intro w'
                                  go_simp
                                  with_reducible rfl
                                rotate_left
                                · simp only [Act.put, List.setIfInBounds_toArray, List.set_cons_zero, List.set_cons_succ, i64_w, i32_w]
                                  rfl
                                refine done_ (done_of HT_.out (by kernel_rfl)) ?_
                                try go_wp2
                                go_roundg kj15
                                case measure => have := HJ1.out; have := HK2.out; have := HJ15.out; omega
                                case rel => exact ⟨(wrap64 (x24_2 + 1)), (by first | rfl | (simp; done) | (simp [*]; done)), H', ⟨by have := HJ1.out; have := HK2.out; have := HJ15.out; omega⟩, ⟨by (with_reducible repeat (first | refine blk_drewN ?_ _ | refine blk_drew ?_ | refine blk_alloc ?_ _)); exact BK164.out⟩, ⟨by repeat (first | (with_reducible first | exact HB.out | apply below_alloc | apply pw_below_drewN | apply below_drew1 | refine below_set ?_ GE164.out | refine below_set ?_ GE168.out) | exact HB.out)⟩⟩
                            · rw [if_neg c43] at H
                              exact absurd H (by simp)
                          · rw [if_neg c42] at H
                            exact absurd H (by simp)
                        · replace c41 := Bool.eq_false_iff.mpr c41
                          subst c41
                          have H1 : (some false) = some r := by rw [if_neg (show ¬ (false = true) by decide)] at H; exact H
                          clear H
                          have H := H1
                          clear H1
                          obtain rfl := Option.some.inj H
                          try go_wp2
                          have n0_ := Aside0.mk (blk_drew BK164.out)
                          have n1_ := Aside0.mk (blk_drew BK168.out)
                          have n2_ := Aside0.mk (below_drew1 HB.out)
                          clear BK164
                          clear BK168
                          clear HB
                          have BK164 := n0_
                          have BK168 := n1_
                          have HB := n2_
                          clear n0_ n1_ n2_
                          refine start_ (n := 13) (S := fun w' => w'.cell? ⟨gb168, 0, none⟩ = some (.int .i64 ((rd_T48 l0_2 x24_2).f0)) ∧ w'.cell? ⟨gb168, 1, none⟩ = some (.int .i64 ((rd_T48 l0_2 x24_2).f1)) ∧ w'.cell? ⟨gb168, 2, none⟩ = some (.int .i64 ((rd_T48 l0_2 x24_2).f2)) ∧ w'.cell? ⟨gb168, 3, none⟩ = some (.int .i64 ((rd_T48 l0_2 x24_2).f3)) ∧ w'.cell? ⟨gb168, 4, none⟩ = some (.int .i64 ((rd_T48 l0_2 x24_2).f4))) (ds := []) #[false, false, false, false, false, false, false, false, false, false, false, false, false] (by kernel_rfl) rfl rfl ⟨(blk_cell BK168.out 0).trans rfl, (blk_cell BK168.out 1).trans rfl, (blk_cell BK168.out 2).trans rfl, (blk_cell BK168.out 3).trans rfl, (blk_cell BK168.out 4).trans rfl⟩ (fun hHeld => ?_); refine with_tabW impl_GrdOk.tab8 impl_GrdOk.bits8 (fun HT_ HW_ => ?_)
                          generalize wc.drew = w52 at BK164 BK168 HB hHeld ⊢
                          refine pure_ (i := 0) (N := some 67) (v := ?_) (a' := ?_) #[true, false, false, false, false, false, false, false, false, false, false, false, false] rfl rfl (any_of HT_.out (by kernel_rfl)) (fun _ _ _ h => h) (Or.inl ⟨by rfl, ?_⟩) ?_ ?_
                          rotate_left
                          · intro w'
                            go_simp
                            with_reducible rfl
                          rotate_left
                          · simp only [Act.put, List.setIfInBounds_toArray, List.set_cons_zero, List.set_cons_succ, i64_w, i32_w]
                            rfl
                          refine take_ (i := 1) (N := some 68) (v := ?_) (a' := ?_) #[true, true, false, false, false, false, false, false, false, false, false, false, false] rfl rfl (take_ofW HT_.out HW_.out (by kernel_rfl)) (fun _ _ _ h => h) (Or.inl ⟨by rfl, ?_⟩) hHeld ?_ ?_
                          rotate_left
                          · rintro w' ⟨s0, s1, s2, s3, s4⟩
                            go_simp
                            with_reducible rfl
                          rotate_left
                          · simp only [Act.put, List.setIfInBounds_toArray, List.set_cons_zero, List.set_cons_succ, i64_w, i32_w]
                            rfl
                          refine one_ (i := 2) (N := some 69) #[true, true, true, false, false, false, false, false, false, false, false, false, false] rfl rfl (one_of HT_.out (by kernel_rfl)) (by decide) (fun K hK => ?_)
                          refine goes_ Try.func27 (by kernel_rfl) rfl #[.int .i64 ((rd_T48 l0_2 x24_2).f4), .int .i64 0, .int .i64 4] (by rfl) rfl rfl (by (try simp only [List.map_toArray, List.map_cons, List.map_nil]); first | done | rfl | (simp only [List.length_drop, List.length_take]; rfl)) ?_
                          with_reducible refine (impl_in.calls ((rd_T48 l0_2 x24_2).f4) 0 4 false _ A40.out).mono ?_
                          rintro e w' ⟨rfl, ⟨nd, rfl⟩⟩
                          refine ⟨_, rfl, ?_⟩
                          refine hK.out _ _ ⟨(blk_cell BK168.out 0).trans rfl, (blk_cell BK168.out 1).trans rfl, (blk_cell BK168.out 2).trans rfl, (blk_cell BK168.out 3).trans rfl, (blk_cell BK168.out 4).trans rfl⟩ (fun hHeld => ?_)
                          clear hK K
                          refine norm_ (a' := ?_) ?_ ?_
                          rotate_left
                          · show Act.put _ (some 69) _ = _
                            simp only [Act.put, List.setIfInBounds_toArray, List.set_cons_zero, List.set_cons_succ, i64_w, i32_w]
                            rfl
                          refine pure_ (i := 3) (N := some 70) (v := ?_) (a' := ?_) #[true, true, true, true, false, false, false, false, false, false, false, false, false] rfl rfl (any_of HT_.out (by kernel_rfl)) (fun _ _ _ h => h) (Or.inl ⟨by rfl, ?_⟩) ?_ ?_
                          rotate_left
                          · intro w'
                            go_simp
                            with_reducible rfl
                          rotate_left
                          · simp only [Act.put, List.setIfInBounds_toArray, List.set_cons_zero, List.set_cons_succ, i64_w, i32_w]
                            rfl
                          refine pure_ (i := 4) (N := some 71) (v := ?_) (a' := ?_) #[true, true, true, true, true, false, false, false, false, false, false, false, false] rfl rfl (any_of HT_.out (by kernel_rfl)) (fun _ _ _ h => h) (Or.inl ⟨by rfl, ?_⟩) ?_ ?_
                          rotate_left
                          · intro w'
                            go_simp
                            with_reducible rfl
                          rotate_left
                          · simp only [Act.put, List.setIfInBounds_toArray, List.set_cons_zero, List.set_cons_succ, i64_w, i32_w]
                            rfl
                          refine pure_ (i := 5) (N := some 72) (v := undef) (a' := ?_) #[true, true, true, true, true, true, false, false, false, false, false, false, false] rfl rfl (any_of HT_.out (by kernel_rfl)) (fun _ _ _ h => h) (Or.inr ⟨by rfl, rfl⟩) ?_ ?_
                          rotate_left
                          · simp only [Act.put, List.setIfInBounds_toArray, List.set_cons_zero, List.set_cons_succ, i64_w, i32_w]
                            rfl
                          refine pure_ (i := 6) (N := some 73) (v := undef) (a' := ?_) #[true, true, true, true, true, true, true, false, false, false, false, false, false] rfl rfl (any_of HT_.out (by kernel_rfl)) (fun _ _ _ h => h) (Or.inr ⟨by rfl, rfl⟩) ?_ ?_
                          rotate_left
                          · simp only [Act.put, List.setIfInBounds_toArray, List.set_cons_zero, List.set_cons_succ, i64_w, i32_w]
                            rfl
                          refine pure_ (i := 7) (N := some 74) (v := undef) (a' := ?_) #[true, true, true, true, true, true, true, true, false, false, false, false, false] rfl rfl (any_of HT_.out (by kernel_rfl)) (fun _ _ _ h => h) (Or.inr ⟨by rfl, rfl⟩) ?_ ?_
                          rotate_left
                          · simp only [Act.put, List.setIfInBounds_toArray, List.set_cons_zero, List.set_cons_succ, i64_w, i32_w]
                            rfl
                          refine pure_ (i := 8) (N := some 75) (v := undef) (a' := ?_) #[true, true, true, true, true, true, true, true, true, false, false, false, false] rfl rfl (any_of HT_.out (by kernel_rfl)) (fun _ _ _ h => h) (Or.inr ⟨by rfl, rfl⟩) ?_ ?_
                          rotate_left
                          · simp only [Act.put, List.setIfInBounds_toArray, List.set_cons_zero, List.set_cons_succ, i64_w, i32_w]
                            rfl
                          refine pure_ (i := 9) (N := some 76) (v := undef) (a' := ?_) #[true, true, true, true, true, true, true, true, true, true, false, false, false] rfl rfl (any_of HT_.out (by kernel_rfl)) (fun _ _ _ h => h) (Or.inr ⟨by rfl, rfl⟩) ?_ ?_
                          rotate_left
                          · simp only [Act.put, List.setIfInBounds_toArray, List.set_cons_zero, List.set_cons_succ, i64_w, i32_w]
                            rfl
                          refine pure_ (i := 10) (N := some 77) (v := undef) (a' := ?_) #[true, true, true, true, true, true, true, true, true, true, true, false, false] rfl rfl (any_of HT_.out (by kernel_rfl)) (fun _ _ _ h => h) (Or.inr ⟨by rfl, rfl⟩) ?_ ?_
                          rotate_left
                          · simp only [Act.put, List.setIfInBounds_toArray, List.set_cons_zero, List.set_cons_succ, i64_w, i32_w]
                            rfl
                          refine pure_ (i := 11) (N := some 78) (v := undef) (a' := ?_) #[true, true, true, true, true, true, true, true, true, true, true, true, false] rfl rfl (any_of HT_.out (by kernel_rfl)) (fun _ _ _ h => h) (Or.inr ⟨by rfl, rfl⟩) ?_ ?_
                          rotate_left
                          · simp only [Act.put, List.setIfInBounds_toArray, List.set_cons_zero, List.set_cons_succ, i64_w, i32_w]
                            rfl
                          refine pure_ (i := 12) (N := some 79) (v := ?_) (a' := ?_) #[true, true, true, true, true, true, true, true, true, true, true, true, true] rfl rfl (any_of HT_.out (by kernel_rfl)) (fun _ _ _ h => h) (Or.inl ⟨by rfl, ?_⟩) ?_ ?_
                          rotate_left
                          · intro w'
                            go_simp
                            with_reducible rfl
                          rotate_left
                          · simp only [Act.put, List.setIfInBounds_toArray, List.set_cons_zero, List.set_cons_succ, i64_w, i32_w]
                            rfl
                          refine done_ (done_of HT_.out (by kernel_rfl)) ?_
                          try go_wp2
                          all_goals (go_ret; exact ⟨by first | rfl | (simp [IntKind.wrap_i64, wrap64]; done) | (simp [errW_none, errW_some] <;> rfl) | (simp [*, errW_none, errW_some] <;> rfl), by repeat (first | (with_reducible first | exact HB.out | apply below_alloc | apply pw_below_drewN | apply below_drew1 | refine below_set ?_ GE164.out | refine below_set ?_ GE168.out) | exact HB.out)⟩)
                · rw [if_neg c15] at H
                  exact absurd H (by simp)
              · rw [if_neg c14] at H
                exact absurd H (by simp)
            · rw [if_neg c13] at H
              have c13b0 : decide (x24_2 < (l0_2.length : Int)) = false := decide_eq_false c13
              clear c13
              obtain rfl := Option.some.inj H
              go_wp2
              go_ret
              exact ⟨by first | rfl | (simp [IntKind.wrap_i64, wrap64]; done) | (simp [errW_none, errW_some] <;> rfl) | (simp [*, errW_none, errW_some] <;> rfl), by repeat (first | (with_reducible first | exact HB.out | apply below_alloc | apply pw_below_drewN | apply below_drew1 | refine below_set ?_ GE164.out) | exact HB.out)⟩


end Go.Proofs.Ytobpcokoahgpdab.Q
