-- Told by a program of this session (uprint.py, ulay.py).
import Derived.Test.YtkbcmbjoelkgoacDoorQ0
import Derived.Test.YtkbcmbjoelkgoacDoorReg
import Derived.Test.YtkbcmbjoelkgoacDoorQimplGrdCellmeets
import Derived.Test.YtkbcmbjoelkgoacDoorQspecTblOk
import Derived.Test.YtkbcmbjoelkgoacDoorQspecl20AnyTable
import Derived.Test.YtkbcmbjoelkgoacDoorQspecGrdOf
import Derived.Test.YtkbcmbjoelkgoacDoorQimplGrdOf
namespace Go.Proofs.YtkbcmbjoelkgoacDoor.Q
open Go.RowKit Go.Proofs.YtkbcmbjoelkgoacDoorW.PrintWords Go.Proofs.YtkbcmbjoelkgoacDoorW.PrintLast Go.Proofs.YtkbcmbjoelkgoacDoorW.PrintMore Go.Proofs.YtkbcmbjoelkgoacDoor.Reg Go.Proofs.YtkbcmbjoelkgoacDoor.Box
attribute [local go_sem] max2_int min2_int max_two min_two max_three min_three max_four min_four
set_option linter.unusedVariables false
set_option linter.unusedSimpArgs false

/-! ### impl_GrdAt: function 12 (by hand) -/
set_option maxHeartbeats 2000000 in
set_option maxRecDepth 100000 in
/-- slices.IndexFunc over cells at their places, whatever the function asks. -/
theorem idxf_gcell (p : S37 → Bool) (g : Nat) (lb : Array Value) (eg : ∀ args w, (callFunc g args).run Tryd.prog w = .ok (.enter g args) w) (A : Option Addr) (c : Nat) (l : List S37) (w : World)
    (hr : Kd.C k37 w A l.length l) (hc : l.length ≤ c)
    (hp : ∀ (W : World) (x : S37), Below w.heap.size w W → Calls Tryd.prog g (#[.agg #[.int .i64 x.f0, .int .i64 x.f1, .int .i64 x.f2, .int .i64 x.f3, .int .i64 x.f4]] ++ lb) W fun e W' => e = .returned (.bool (p x)) ∧ Below w.heap.size w W') :
    Calls Tryd.prog 25 #[.slice A l.length c, .func (.func g) #[] lb] w fun e w' => e = .returned (.int .i64 (ppIdx p l)) ∧ Below w.heap.size w w' := by
  have hbig := hr.2.1
  have HR := Aside0.mk hr
  clear hr
  go_enter Tryd.func25, Tryd.ntmps25
  go_wp2
  go_loopg [5, 8] l.length (fun gg _ s8 wr => ∃ kk : Nat, kk ≤ l.length ∧ l.length - kk ≤ gg ∧ s8 = .int .i64 kk ∧ Aside0 (Below w.heap.size w wr) ∧ Aside0 (∀ j (h : j < l.length), j < kk → p l[j] = false))
  case atStart => exact ⟨0, Nat.zero_le _, by omega, rfl, ⟨Below.refl _ w⟩, ⟨fun j _ hj => absurd hj (Nat.not_lt_zero _)⟩⟩
  case round =>
    obtain ⟨kk, hkk, hg, rfl, BW, AA⟩ := hrel
    by_cases hlt : kk < l.length
    · have hltz : (kk : Int) < (l.length : Int) := by omega
      obtain ⟨ad, e0, h0, h1, h2, h3, h4⟩ := at_T37 HR.out (kk : Int) (by omega) hltz
      cases e0
      replace h0 := (BW.out.cell (World.block_lt_of_cell? w _ h0)).trans h0
      replace h1 := (BW.out.cell (World.block_lt_of_cell? w _ h1)).trans h1
      replace h2 := (BW.out.cell (World.block_lt_of_cell? w _ h2)).trans h2
      replace h3 := (BW.out.cell (World.block_lt_of_cell? w _ h3)).trans h3
      replace h4 := (BW.out.cell (World.block_lt_of_cell? w _ h4)).trans h4
      simp only [Int.toNat_natCast] at h0 h1 h2 h3 h4
      have hcall := hp wr (rd_T37 l (kk : Int)) BW.out
      have hy : rd_T37 l (kk : Int) = l[kk] := by unfold rd_T37; simp [List.getD_eq_getElem?_getD, List.getElem?_eq_getElem hlt]
      generalize rd_T37 l (kk : Int) = y at h0 h1 h2 h3 h4 hcall hy
      have HY := Aside0.mk hy
      clear hy hp
      cases hq : p y with
      | true =>
        rw [hq] at hcall
        go_wp2_with (go_at_fn g; refine hcall.mono ?_; rintro e w' ⟨rfl, hb'⟩)
        go_ret
        refine ⟨?_, hb'⟩
        rw [ppIdx_hit p l kk hlt (by rw [← HY.out]; exact hq) AA.out]
        rfl
      | false =>
        rw [hq] at hcall
        go_wp2_with (go_at_fn g; refine hcall.mono ?_; rintro e w' ⟨rfl, hb'⟩)
        go_roundg (l.length - (kk + 1))
        case measure => omega
        case rel =>
          refine ⟨kk + 1, by omega, by omega, by go_num, ⟨hb'⟩, ⟨fun j h hj => ?_⟩⟩
          by_cases e : j = kk
          · subst e
            rw [← HY.out]; exact hq
          · exact AA.out j h (by omega)
    · have hltz : ¬ (kk : Int) < (l.length : Int) := by omega
      have hk : kk = l.length := by omega
      subst hk
      go_wp2
      go_ret
      refine ⟨?_, BW.out⟩
      rw [ppIdx_miss p l (fun j hj => AA.out j hj hj)]
      rfl
/-- The cell has the slot. -/
def ppHasB (x : S37) (row col : Int) : Bool := (impl_GrdCell_has.f x.f0 x.f1 x.f2 x.f3 x.f4 row col).getD false
theorem ppAmongS (n f m : Int) : ∃ b, impl_among.f n f m = some b := by
  unfold impl_among.f
  split
  · split
    · exact ⟨_, rfl⟩
    · exact ⟨_, rfl⟩
  · exact ⟨_, rfl⟩
theorem ppHas_some (x : S37) (row col : Int) : impl_GrdCell_has.f x.f0 x.f1 x.f2 x.f3 x.f4 row col = some (ppHasB x row col) := by
  unfold ppHasB impl_GrdCell_has.f
  obtain ⟨b1, h1⟩ := ppAmongS row x.f0 x.f2
  obtain ⟨b2, h2⟩ := ppAmongS col x.f1 x.f3
  rw [h1, h2]
  cases b1 <;> rfl
set_option maxHeartbeats 2000000 in
set_option maxRecDepth 100000 in
theorem clo_GrdAt (x : S37) (row col : Int) (b1 b2 : Nat) (w : World) (h1 : w.cell? ⟨b1, 0, none⟩ = some (.int .i64 row)) (h2 : w.cell? ⟨b2, 0, none⟩ = some (.int .i64 col)) :
    Calls Tryd.prog 26 #[.agg #[.int .i64 x.f0, .int .i64 x.f1, .int .i64 x.f2, .int .i64 x.f3, .int .i64 x.f4], .pointer (some ⟨b1, 0, none⟩), .pointer (some ⟨b2, 0, none⟩)] w fun e w' => e = .returned (.bool (ppHasB x row col)) ∧ Below w.heap.size w w' := by
  have hb1 := World.block_lt_of_cell? w _ h1
  have hb2 := World.block_lt_of_cell? w _ h2
  have HS := Aside0.mk (ppHas_some x row col)
  have hu := Tryd.underlying37
  go_enter Tryd.func26, Tryd.ntmps26
  go_wp2_with (go_at_call 27; refine (impl_GrdCell_has.calls _ _ _ _ _ _ _ _ _ HS.out).mono ?_; rintro e w' ⟨rfl, hb⟩)
  go_ret
  exact ⟨rfl, below_step (below_alloc (Below.refl _ _) _) hb⟩
def impl_GrdAt.f (k : Nat) (a0_0 : Int) (a0_1 : Int) (l0_2 : List S37) (a1 : Int) (a2 : Int) : Option Int := some (ppIdx (fun x => ppHasB x a1 a2) l0_2)
theorem impl_GrdAt.mono : ∀ a0_0 a0_1 a0_2 a1 a2 k, LeO (impl_GrdAt.f k a0_0 a0_1 a0_2 a1 a2) (impl_GrdAt.f (k + 1) a0_0 a0_1 a0_2 a1 a2) := fun _ _ _ _ _ _ => LeO.refl _
set_option maxHeartbeats 2000000 in
set_option maxRecDepth 100000 in
theorem impl_GrdAt.calls (k : Nat) (a0_0 : Int) (a0_1 : Int) (A0_2 : Option Addr) (c0_2 : Nat) (l0_2 : List (S37)) (a1 : Int) (a2 : Int) (r : Int) (w : World) (hr0_2 : Kd.C k37 w A0_2 l0_2.length l0_2) (hc0_2 : l0_2.length ≤ c0_2) (h : impl_GrdAt.f k a0_0 a0_1 l0_2 a1 a2 = some r) :
    Calls Tryd.prog 12 #[.agg #[.int .i64 a0_0, .int .i64 a0_1, .slice A0_2 l0_2.length c0_2], .int .i64 a1, .int .i64 a2] w fun e w' => e = .returned (.int .i64 r) ∧ Below w.heap.size w w' := by
  obtain rfl := Option.some.inj h
  have HR := Aside0.mk hr0_2
  have HC := Aside0.mk hc0_2
  clear hr0_2 hc0_2 h
  have eg := enters_of Tryd.func26 (by kernel_rfl) rfl
  have hu := Tryd.underlying30
  have hp : ∀ (W0 : World), W0.cell? ⟨w.heap.size + 1, 0, none⟩ = some (.int .i64 a1) → W0.cell? ⟨w.heap.size + 2, 0, none⟩ = some (.int .i64 a2) → w.heap.size + 3 ≤ W0.heap.size → ∀ (W : World) (x : S37), Below W0.heap.size W0 W → Calls Tryd.prog 26 (#[.agg #[.int .i64 x.f0, .int .i64 x.f1, .int .i64 x.f2, .int .i64 x.f3, .int .i64 x.f4]] ++ #[.pointer (some ⟨w.heap.size + 1, 0, none⟩), .pointer (some ⟨w.heap.size + 2, 0, none⟩)]) W fun e W' => e = .returned (.bool (ppHasB x a1 a2)) ∧ Below W0.heap.size W0 W' := by
    intro W0 h1 h2 hs W x hb
    have h1' := (hb.cell (World.block_lt_of_cell? W0 _ h1)).trans h1
    have h2' := (hb.cell (World.block_lt_of_cell? W0 _ h2)).trans h2
    exact (clo_GrdAt x a1 a2 _ _ W h1' h2').mono fun e W' ⟨he, hb'⟩ => ⟨he, below_then hb hb.size hb'⟩
  have HP := Aside0.mk hp
  clear hp
  go_enter Tryd.func12, Tryd.ntmps12
  go_wp2_with (go_at_call 25; refine (idxf_gcell (fun x => ppHasB x a1 a2) 26 _ eg A0_2 c0_2 l0_2 _ ?hr HC.out (HP.out _ ?h1 ?h2 ?hs)).mono ?_; (case hr => repeat (first | exact HR.out | (with_reducible refine Kd.C_alloc ?_ _))); (case h1 => go_simp); (case h2 => go_simp); (case hs => simp); rintro e w' ⟨rfl, hb⟩)
  go_ret
  exact ⟨rfl, below_step (below_alloc (below_alloc (below_alloc (Below.refl _ _) _) _) _) hb⟩

/-! ### laws_FnGrdSlots: function 3 (by hand) -/
/-- A slot is of a cell. -/
def laws_FnGrdSlots.In (c : S37) (r j : Int) : Prop := c.f0 ≤ r ∧ r < wrap64 (c.f0 + c.f2) ∧ c.f1 ≤ j ∧ j < wrap64 (c.f1 + c.f3)
instance (c : S37) (r j : Int) : Decidable (laws_FnGrdSlots.In c r j) := by unfold laws_FnGrdSlots.In; infer_instance
def laws_FnGrdSlots.l2 (k : Nat) (a b : Int) (l : List S37) (i : Nat) (c : S37) (r : Int) : Nat → Nat → Option Bool
  | 0, _ => some true
  | n + 1, j => (impl_GrdAt.f k a b l r j).bind fun t => if decide (laws_FnGrdSlots.In c r j) = decide (t = (i : Int)) then laws_FnGrdSlots.l2 k a b l i c r n (j + 1) else none
def laws_FnGrdSlots.l1 (k : Nat) (a b : Int) (l : List S37) (i : Nat) (c : S37) : Nat → Nat → Option Bool
  | 0, _ => some true
  | n + 1, r => (laws_FnGrdSlots.l2 k a b l i c r b.toNat 0).bind fun _ => laws_FnGrdSlots.l1 k a b l i c n (r + 1)
/-- The cell of the table that a grid's cell tells. -/
def laws_FnGrdSlots.cell (rs : List S44) (c : S37) : S41 := rd_T41 (rd_T44 rs c.f0).f0 c.f4
def laws_FnGrdSlots.Lies (rs : List S44) (c : S37) : Prop := (0 ≤ c.f0 ∧ c.f0 < (rs.length : Int) ∧ 0 ≤ c.f4 ∧ c.f4 < ((rd_T44 rs c.f0).f0.length : Int)) ∧ c.f3 = (laws_FnGrdSlots.cell rs c).f1 ∧ c.f2 ≤ (laws_FnGrdSlots.cell rs c).f2
instance (rs : List S44) (c : S37) : Decidable (laws_FnGrdSlots.Lies rs c) := by unfold laws_FnGrdSlots.Lies; infer_instance
/-- A cell that is cut goes up to its part's end. -/
def laws_FnGrdSlots.cut (k : Nat) (cs : List S58) (hd ft : Int) (rs : List S44) (gp : Int) (c : S37) (p : Int) : Option Bool := if c.f2 < (laws_FnGrdSlots.cell rs c).f2 then (impl_TblPart.f k cs hd ft rs gp (wrap64 (c.f0 + c.f2))).bind fun u => some (decide (u ≠ p)) else some true
def laws_FnGrdSlots.l0 (k : Nat) (cs : List S58) (hd ft : Int) (rs : List S44) (gp : Int) (a b : Int) (l : List S37) : Nat → Nat → Option Bool
  | 0, _ => some true
  | n + 1, i => if laws_FnGrdSlots.Lies rs (rd_T37 l i) then (impl_TblPart.f k cs hd ft rs gp (wrap64 (wrap64 ((rd_T37 l i).f0 + (rd_T37 l i).f2) - 1))).bind fun p => (impl_TblPart.f k cs hd ft rs gp (rd_T37 l i).f0).bind fun q => if p = q then (laws_FnGrdSlots.cut k cs hd ft rs gp (rd_T37 l i) p).bind fun v => if v = true then (laws_FnGrdSlots.l1 k a b l i (rd_T37 l i) a.toNat 0).bind fun _ => laws_FnGrdSlots.l0 k cs hd ft rs gp a b l n (i + 1) else none else none else none
/-- The law: no answer where it falls. -/
def laws_FnGrdSlots.f (k : Nat) (l0 : List Int) : Option Bool :=
  if (l0.length : Int) > 1048576 then some true else (spec_DrawGrdOf.f k l0).bind fun t => (impl_GrdOf.f k t.1 t.2.1 t.2.2.1 t.2.2.2.1 t.2.2.2.2).bind fun g => (spec_GrdOf.f k t.1 t.2.1 t.2.2.1 t.2.2.2.1 t.2.2.2.2).bind fun h => (laws_pwGrid.f k g.1 g.2.1 g.2.2 h.1 h.2.1 h.2.2).bind fun e =>
    if e = true then (spec_TblOk.f k t.1 t.2.1 t.2.2.1 t.2.2.2.1 t.2.2.2.2).bind fun o => (impl_GrdOk.f k g.1 g.2.1 g.2.2).bind fun q => if o = true then (if q = true ∧ (t.1.length : Int) ≤ g.2.1 ∧ g.1 < 1000000 ∧ g.2.1 < 1000000 then laws_FnGrdSlots.l0 k t.1 t.2.1 t.2.2.1 t.2.2.2.1 t.2.2.2.2 g.1 g.2.1 g.2.2 g.2.2.length 0 else none) else (if q = false then laws_pwOk.f else none) else none
theorem laws_FnGrdSlots.parts {k : Nat} {l0 : List Int} {r : Bool} (hn : ¬ (l0.length : Int) > 1048576) (h : laws_FnGrdSlots.f k l0 = some r) :
    ∃ (cs : List S58) (hd ft : Int) (rs : List S44) (gp : Int) (a b : Int) (l : List S37) (a2 b2 : Int) (l2 : List S37), Aside0 (spec_DrawGrdOf.f k l0 = some (cs, hd, ft, rs, gp)) ∧ Aside0 (impl_GrdOf.f k cs hd ft rs gp = some (a, b, l)) ∧ Aside0 (spec_GrdOf.f k cs hd ft rs gp = some (a2, b2, l2)) ∧ Aside0 (laws_pwGrid.f k a b l a2 b2 l2 = some true) ∧
    ((Aside0 (spec_TblOk.f k cs hd ft rs gp = some true) ∧ Aside0 (impl_GrdOk.f k a b l = some true) ∧ ((cs.length : Int) ≤ b ∧ a < 1000000 ∧ b < 1000000) ∧ Aside0 (laws_FnGrdSlots.l0 k cs hd ft rs gp a b l l.length 0 = some r)) ∨
     (Aside0 (spec_TblOk.f k cs hd ft rs gp = some false) ∧ Aside0 (impl_GrdOk.f k a b l = some false) ∧ Aside0 (laws_pwOk.f = some r))) := by
  unfold laws_FnGrdSlots.f at h
  rw [if_neg hn] at h
  obtain ⟨⟨cs, hd, ft, rs, gp⟩, h1, g1⟩ := Option.bind_eq_some_iff.1 h
  clear h
  obtain ⟨⟨a, b, l⟩, h2, g2⟩ := Option.bind_eq_some_iff.1 g1
  clear g1
  obtain ⟨⟨a2, b2, l2⟩, h3, g3⟩ := Option.bind_eq_some_iff.1 g2
  clear g2
  obtain ⟨e, h4, g4⟩ := Option.bind_eq_some_iff.1 g3
  clear g3
  cases e
  · rw [if_neg (by decide)] at g4; cases g4
  rw [if_pos rfl] at g4
  obtain ⟨o, h5, g5⟩ := Option.bind_eq_some_iff.1 g4
  clear g4
  obtain ⟨q, h6, g6⟩ := Option.bind_eq_some_iff.1 g5
  clear g5
  refine ⟨cs, hd, ft, rs, gp, a, b, l, a2, b2, l2, ⟨h1⟩, ⟨h2⟩, ⟨h3⟩, ⟨h4⟩, ?_⟩
  cases o
  · rw [if_neg (by decide)] at g6
    split at g6
    · rename_i e; subst e; exact .inr ⟨⟨h5⟩, ⟨h6⟩, ⟨g6⟩⟩
    · cases g6
  · rw [if_pos rfl] at g6
    split at g6
    · rename_i e; obtain ⟨e, e2⟩ := e; subst e; exact .inl ⟨⟨h5⟩, ⟨h6⟩, e2, ⟨g6⟩⟩
    · cases g6
theorem laws_FnGrdSlots.step {k : Nat} {cs : List S58} {hd ft : Int} {rs : List S44} {gp a b : Int} {l : List S37} {n i : Nat} {r : Bool} (h : laws_FnGrdSlots.l0 k cs hd ft rs gp a b l (n + 1) i = some r) :
    ∃ c x p v, rd_T37 l i = c ∧ rd_T41 (rd_T44 rs c.f0).f0 c.f4 = x ∧ (0 ≤ c.f0 ∧ c.f0 < (rs.length : Int) ∧ 0 ≤ c.f4 ∧ c.f4 < ((rd_T44 rs c.f0).f0.length : Int)) ∧ c.f3 = x.f1 ∧ c.f2 ≤ x.f2 ∧ Aside0 (impl_TblPart.f k cs hd ft rs gp (wrap64 (wrap64 (c.f0 + c.f2) - 1)) = some p) ∧ Aside0 (impl_TblPart.f k cs hd ft rs gp c.f0 = some p) ∧
      (¬ c.f2 < x.f2 ∨ (c.f2 < x.f2 ∧ ∃ u, Aside0 (impl_TblPart.f k cs hd ft rs gp (wrap64 (c.f0 + c.f2)) = some u) ∧ u ≠ p)) ∧ Aside0 (laws_FnGrdSlots.l1 k a b l i c a.toNat 0 = some v) ∧ Aside0 (laws_FnGrdSlots.l0 k cs hd ft rs gp a b l n (i + 1) = some r) := by
  unfold laws_FnGrdSlots.l0 at h
  split at h
  · rename_i hl
    obtain ⟨p, h1, g1⟩ := Option.bind_eq_some_iff.1 h
    clear h
    obtain ⟨q, h2, g2⟩ := Option.bind_eq_some_iff.1 g1
    clear g1
    split at g2
    · rename_i e
      subst e
      obtain ⟨v, h3, g3⟩ := Option.bind_eq_some_iff.1 g2
      clear g2
      split at g3
      · rename_i e
        subst e
        obtain ⟨v, h4, g4⟩ := Option.bind_eq_some_iff.1 g3
        clear g3
        refine ⟨_, _, p, v, rfl, rfl, hl.1, hl.2.1, hl.2.2, ⟨h1⟩, ⟨h2⟩, ?_, ⟨h4⟩, ⟨g4⟩⟩
        unfold laws_FnGrdSlots.cut at h3
        split at h3
        · rename_i hc
          obtain ⟨u, h5, h6⟩ := Option.bind_eq_some_iff.1 h3
          exact .inr ⟨hc, u, ⟨h5⟩, of_decide_eq_true (Option.some.inj h6)⟩
        · rename_i hc
          exact .inl hc
      · cases g3
    · cases g2
  · cases h
theorem laws_FnGrdSlots.step1 {k : Nat} {a b : Int} {l : List S37} {i : Nat} {c : S37} {n q : Nat} {v : Bool} (h : laws_FnGrdSlots.l1 k a b l i c (n + 1) q = some v) :
    ∃ v2, Aside0 (laws_FnGrdSlots.l2 k a b l i c q b.toNat 0 = some v2) ∧ Aside0 (laws_FnGrdSlots.l1 k a b l i c n (q + 1) = some v) := by
  unfold laws_FnGrdSlots.l1 at h
  obtain ⟨v2, h1, h2⟩ := Option.bind_eq_some_iff.1 h
  exact ⟨v2, ⟨h1⟩, ⟨h2⟩⟩
theorem laws_FnGrdSlots.step2 {k : Nat} {a b : Int} {l : List S37} {i : Nat} {c : S37} {q : Int} {n j : Nat} {v : Bool} (h : laws_FnGrdSlots.l2 k a b l i c q (n + 1) j = some v) :
    ∃ t, Aside0 (impl_GrdAt.f k a b l q j = some t) ∧ Aside0 (laws_FnGrdSlots.l2 k a b l i c q n (j + 1) = some v) ∧ ((t = (i : Int) ∧ c.f0 ≤ q ∧ q < wrap64 (c.f0 + c.f2) ∧ c.f1 ≤ (j : Int) ∧ (j : Int) < wrap64 (c.f1 + c.f3)) ∨
      (t ≠ (i : Int) ∧ (¬ c.f0 ≤ q ∨ (c.f0 ≤ q ∧ ¬ q < wrap64 (c.f0 + c.f2)) ∨ (c.f0 ≤ q ∧ q < wrap64 (c.f0 + c.f2) ∧ ¬ c.f1 ≤ (j : Int)) ∨ (c.f0 ≤ q ∧ q < wrap64 (c.f0 + c.f2) ∧ c.f1 ≤ (j : Int) ∧ ¬ (j : Int) < wrap64 (c.f1 + c.f3))))) := by
  unfold laws_FnGrdSlots.l2 at h
  obtain ⟨t, h1, h2⟩ := Option.bind_eq_some_iff.1 h
  split at h2
  · rename_i e
    refine ⟨t, ⟨h1⟩, ⟨h2⟩, ?_⟩
    by_cases hi : laws_FnGrdSlots.In c q j
    · rw [decide_eq_true hi] at e
      exact .inl ⟨of_decide_eq_true e.symm, hi⟩
    · rw [decide_eq_false hi] at e
      refine .inr ⟨of_decide_eq_false e.symm, ?_⟩
      unfold laws_FnGrdSlots.In at hi
      by_cases p1 : c.f0 ≤ q <;> by_cases p2 : q < wrap64 (c.f0 + c.f2) <;> by_cases p3 : c.f1 ≤ (j : Int) <;> by_cases p4 : (j : Int) < wrap64 (c.f1 + c.f3) <;> simp_all
  · cases h2
structure laws_FnGrdSlots.Wd (w : World) (T G : Nat) (pa ga : Array Value) (Ac Ar AG : Option Addr) (cs : List S58) (rs : List S44) (l : List S37) (W : World) : Prop where
  bt : W.heap[T]? = some (.cells pa 26 (0, 0))
  bg : W.heap[G]? = some (.cells ga 30 (0, 0))
  kc : Kd.C k58 W Ac cs.length cs
  kr : Kd.C k44 W Ar rs.length rs
  kg : Kd.C k37 W AG l.length l
  bl : Below w.heap.size w W
theorem laws_FnGrdSlots.Wd.below {w W W' : World} {T G : Nat} {pa ga : Array Value} {Ac Ar AG : Option Addr} {cs : List S58} {rs : List S44} {l : List S37} (h : laws_FnGrdSlots.Wd w T G pa ga Ac Ar AG cs rs l W) (hb : Below W.heap.size W W') : laws_FnGrdSlots.Wd w T G pa ga Ac Ar AG cs rs l W' :=
  ⟨blk_below h.bt hb, blk_below h.bg hb, Kd.C_below h.kc hb, Kd.C_below h.kr hb, Kd.C_below h.kg hb, below_step h.bl hb⟩
def laws_FnGrdSlots.T5 : Bool × List (List Nat × List Nat) := (true, [([], []), ([], []), ([1], [1]), ([0, 2, 2], [0, 2]), ([3], [3])])
def laws_FnGrdSlots.B5 : List Nat := [0, 0, 2, 7, 15]
def laws_FnGrdSlots.L5 : List (Nat × Tmp) := [(0, 18), (1, 19), (2, 20), (3, 21), (4, 22)]
def laws_FnGrdSlots.O5 : List Nat := [0, 1, 2, 3, 4]
theorem laws_FnGrdSlots.tab5 : rtab .any (opsOf Tryd.f3 5) = laws_FnGrdSlots.T5 := by kernel_rfl
theorem laws_FnGrdSlots.bits5 : waitsOk laws_FnGrdSlots.T5.2 laws_FnGrdSlots.B5 = true := by kernel_rfl
theorem laws_FnGrdSlots.base5 : baseOk laws_FnGrdSlots.T5.2 laws_FnGrdSlots.O5 = true := by kernel_rfl
theorem laws_FnGrdSlots.lof5 : (lof laws_FnGrdSlots.T5.2.length laws_FnGrdSlots.O5 (fun _ => false) == List.replicate laws_FnGrdSlots.T5.2.length false && laws_FnGrdSlots.O5.length == laws_FnGrdSlots.T5.2.length) = true := by kernel_rfl
theorem laws_FnGrdSlots.ents5 : chkL (opsOf Tryd.f3 5) laws_FnGrdSlots.O5 laws_FnGrdSlots.L5 = true := by kernel_rfl
def laws_FnGrdSlots.Phi (vg vt : Value) (a2 b2 : Int) (l2 : List S37) (j : Nat) (v : Value) (W : World) : Prop := match j with
  | 0 => v = vg
  | 1 => v = vt
  | 2 => ∃ A c, v = .agg #[.int .i64 a2, .int .i64 b2, .slice A l2.length c] ∧ Kd.C k37 W A l2.length l2 ∧ l2.length ≤ c
  | 3 => v = .bool true
  | _ => v = .bool false
theorem laws_FnGrdSlots.Phi.keep {vg vt : Value} {a2 b2 : Int} {l2 : List S37} (i : Nat) (v : Value) (W W' : World) (h : laws_FnGrdSlots.Phi vg vt a2 b2 l2 i v W) (hb : Below W.heap.size W W') : laws_FnGrdSlots.Phi vg vt a2 b2 l2 i v W' := by
  match i with
  | 0 => exact h
  | 1 => exact h
  | 2 => obtain ⟨A, c, h1, h2, h3⟩ := h; exact ⟨A, c, h1, Kd.C_below h2 hb, h3⟩
  | 3 => exact h
  | _ + 4 => exact h
set_option maxHeartbeats 4000000 in
set_option maxRecDepth 100000 in
theorem laws_FnGrdSlots.calls (k : Nat) (A0 : Option Addr) (c0 : Nat) (l0 : List Int) (r : Bool) (w : World) (hr0 : Kd.C (Kd.int .u8) w A0 l0.length l0) (hc0 : l0.length ≤ c0) (hM : Txt.MLen w) (h : laws_FnGrdSlots.f k l0 = some r) :
    Calls Tryd.prog 3 #[.slice A0 l0.length c0] w fun e w' => e = .returned (.bool r) ∧ Below w.heap.size w w' := by
  have HM := Aside0.mk hM
  clear hM
  have HR := Aside0.mk hr0
  have HC := Aside0.mk hc0
  clear hr0 hc0
  have hu1 := Tryd.underlying30
  have hu2 := Tryd.underlying37
  have hu3 := Tryd.underlying26
  by_cases hbig : (l0.length : Int) > 1048576
  · have hf : r = true := by unfold laws_FnGrdSlots.f at h; rw [if_pos hbig] at h; exact (Option.some.inj h).symm
    subst hf
    clear h
    have b0 : decide (1048576 < (l0.length : Int)) = true := decide_eq_true hbig
    have b1 : decide (1048576 < l0.length) = true := decide_eq_true (by omega)
    clear hbig
    go_enter Tryd.func3, Tryd.ntmps3
    go_wp2
    go_ret
    exact ⟨rfl, by (repeat (with_reducible first | exact Below.refl _ _ | apply below_alloc | apply pw_below_drewN | apply below_drew1))⟩
  obtain ⟨cs, hd, ft, rs, gp, a, b, l, a2, b2, l2, A1, A2, A3, A4, hs⟩ := laws_FnGrdSlots.parts hbig h
  have b0 : decide (1048576 < (l0.length : Int)) = false := decide_eq_false hbig
  have b1 : decide (1048576 < l0.length) = false := decide_eq_false (by omega)
  clear hbig h
  have HS := Aside0.mk hs
  clear hs
  go_enter Tryd.func3, Tryd.ntmps3
  go_upto_region 4 with (go_at_call 4; (with_reducible refine (spec_DrawGrdOf.calls k _ _ l0 cs hd ft rs gp _ (by repeat (first | exact HR.out | (with_reducible refine Kd.C_alloc ?_ _) | (with_reducible refine Kd.C_drewN ?_ _) | (with_reducible refine Kd.C_drew ?_))) HC.out A1.out).mono ?_); rintro e W1 ⟨v0, v3, rfl, hv0, hv3, hb⟩; obtain ⟨Ac, cc, rfl⟩ := Kd.R_slice hv0; obtain ⟨Ar, cr, rfl⟩ := Kd.R_slice (Kd.S_R hv3); have HKc := Aside0.mk (Kd.R_reads' hv0).2.2; have HLc := Aside0.mk (Kd.R_reads' hv0).2.1; have HKr := Aside0.mk (Kd.R_reads' (Kd.S_R hv3)).2.2; have HLr := Aside0.mk (Kd.R_reads' (Kd.S_R hv3)).2.1; have HB := Aside0.mk (below_step (by (repeat (with_reducible first | exact Below.refl _ _ | apply below_alloc | apply pw_below_drewN | apply below_drew1))) hb); clear hb hv0 hv3)
  refine wp_letter (fun W0 => W0.heap[W1.heap.size]? = some (.cells (l3A (.slice Ac cs.length cc) (.slice Ar rs.length cr) hd ft gp) 26 (0, 0)) ∧ Kd.C k58 W0 Ac cs.length cs ∧ Kd.C k44 W0 Ar rs.length rs ∧ Below w.heap.size w W0) ⟨blk_new W1 _, Kd.C_alloc HKc.out _, Kd.C_alloc HKr.out _, below_alloc HB.out _⟩ ?_
  rintro W2 ⟨hT, hKc, hKr, hB⟩
  generalize W1.heap.size = T at hT ⊢
  clear HKc HKr HB b0 b1
  have HT := Aside0.mk hT
  have HKc := Aside0.mk hKc
  have HKr := Aside0.mk hKr
  have HB := Aside0.mk hB
  clear hT hKc hKr hB
  go_upto_region 5 with (first | (refine wpList_load_row rfl 26 _ rfl T rfl 26 (l3A (.slice Ac cs.length cc) (.slice Ar rs.length cr) hd ft gp) (0, 0) _ HT.out Tryd.underlying26 rfl (by kernel_rfl) ?_) | (go_at_call 5; (with_reducible refine (impl_GrdOf.calls k Ac cc cs hd ft Ar cr rs gp a b l _ HKc.out HLc.out HKr.out HLr.out (Txt.MLen_below HM.out HB.out) A2.out).mono ?_); rintro e W3 ⟨v2, rfl, hv, hb⟩; obtain ⟨AG, cg, rfl⟩ := Kd.R_slice hv; have HKg := Aside0.mk (Kd.R_reads' hv).2.2; have HLg := Aside0.mk (Kd.R_reads' hv).2.1; replace HT := Aside0.mk (blk_below HT.out hb); replace HKc := Aside0.mk (Kd.C_below HKc.out hb); replace HKr := Aside0.mk (Kd.C_below HKr.out hb); replace HB := Aside0.mk (below_step HB.out hb); clear hb hv))
  refine wp_letter (fun W0 => laws_FnGrdSlots.Wd w T W3.heap.size (l3A (.slice Ac cs.length cc) (.slice Ar rs.length cr) hd ft gp) (gridA a b (.slice AG l.length cg)) Ac Ar AG cs rs l W0) ⟨blk_alloc HT.out _, blk_new W3 _, Kd.C_alloc HKc.out _, Kd.C_alloc HKr.out _, Kd.C_alloc HKg.out _, below_alloc HB.out _⟩ ?_
  rintro W4 hW
  generalize W3.heap.size = G at hW ⊢
  clear HT HKc HKr HKg HB
  have HW := Aside0.mk hW
  clear hW
  have t0 : _ = some (Value.slice Ac cs.length cc) := (blk_cell HW.out.bt 0).trans rfl
  have t1 : _ = some (Value.int .i64 hd) := (blk_cell HW.out.bt 1).trans rfl
  have t2 : _ = some (Value.int .i64 ft) := (blk_cell HW.out.bt 2).trans rfl
  have t3 : _ = some (Value.slice Ar rs.length cr) := (blk_cell HW.out.bt 3).trans rfl
  have t4 : _ = some (Value.int .i64 gp) := (blk_cell HW.out.bt 4).trans rfl
  have g0 : _ = some (Value.int .i64 a) := (blk_cell HW.out.bg 0).trans rfl
  have g1 : _ = some (Value.int .i64 b) := (blk_cell HW.out.bg 1).trans rfl
  have g2 : _ = some (Value.slice AG l.length cg) := (blk_cell HW.out.bg 2).trans rfl
  clear t0 t1 t2 t3 t4 g0 g1 g2
  have hk0 := fun (W : World) => Below.refl W.heap.size W
  refine region_env (T := laws_FnGrdSlots.T5) (B := laws_FnGrdSlots.B5) laws_FnGrdSlots.O5 laws_FnGrdSlots.L5 (laws_FnGrdSlots.Phi (.agg (gridA a b (.slice AG l.length cg))) (.agg (l3A (.slice Ac cs.length cc) (.slice Ar rs.length cr) hd ft gp)) a2 b2 l2) (fun _ W => laws_FnGrdSlots.Wd w T G (l3A (.slice Ac cs.length cc) (.slice Ar rs.length cr) hd ft gp) (gridA a b (.slice AG l.length cg)) Ac Ar AG cs rs l W) (fun W W' => Below W.heap.size W W')
    rfl laws_FnGrdSlots.tab5 laws_FnGrdSlots.bits5 laws_FnGrdSlots.base5 laws_FnGrdSlots.lof5 laws_FnGrdSlots.ents5 laws_FnGrdSlots.Phi.keep (HW.out.below (below_drew1 (Below.refl _ _))) ?_ ?_
  · skip
    refine all_cons (EStep.pure hk0 fun bs E a' W ha hG hP => ?_) ?_
    · have s4 : a'.tmps[4]? = some (.pointer (some ⟨G, 0, none⟩)) := (slot_off ha rfl).trans rfl
      have g0 : W.cell? ⟨G, 0, none⟩ = some (Value.int .i64 a) := (blk_cell hG.bg 0).trans rfl
      have g1 : W.cell? ⟨G, 1, none⟩ = some (Value.int .i64 b) := (blk_cell hG.bg 1).trans rfl
      have g2 : W.cell? ⟨G, 2, none⟩ = some (Value.slice AG l.length cg) := (blk_cell hG.bg 2).trans rfl
      exact ⟨_, .agg (gridA a b (.slice AG l.length cg)), rfl, rfl, by clear ha hG hP; go_simp; try rfl, rfl, hG⟩
    refine all_cons (EStep.pure hk0 fun bs E a' W ha hG hP => ?_) ?_
    · have s3 : a'.tmps[3]? = some (.pointer (some ⟨T, 0, none⟩)) := (slot_off ha rfl).trans rfl
      have t0 : W.cell? ⟨T, 0, none⟩ = some (Value.slice Ac cs.length cc) := (blk_cell hG.bt 0).trans rfl
      have t1 : W.cell? ⟨T, 1, none⟩ = some (Value.int .i64 hd) := (blk_cell hG.bt 1).trans rfl
      have t2 : W.cell? ⟨T, 2, none⟩ = some (Value.int .i64 ft) := (blk_cell hG.bt 2).trans rfl
      have t3 : W.cell? ⟨T, 3, none⟩ = some (Value.slice Ar rs.length cr) := (blk_cell hG.bt 3).trans rfl
      have t4 : W.cell? ⟨T, 4, none⟩ = some (Value.int .i64 gp) := (blk_cell hG.bt 4).trans rfl
      exact ⟨_, .agg (l3A (.slice Ac cs.length cc) (.slice Ar rs.length cr) hd ft gp), rfl, rfl, by clear ha hG hP; go_simp; try rfl, rfl, hG⟩
    refine all_cons (EStep.call Tryd.func7 (by kernel_rfl) rfl ⟨_, rfl, rfl, rfl⟩ fun bs E a' W ha hG hP hoff hb => ⟨#[.agg (l3A (.slice Ac cs.length cc) (.slice Ar rs.length cr) hd ft gp)], ?_, ?_⟩) ?_
    · have s19 : a'.tmps[19]? = some (.agg (l3A (.slice Ac cs.length cc) (.slice Ar rs.length cr) hd ft gp)) := slotv ha (hP 1 rfl).1 rfl (hP 1 rfl).2
      clear ha hG hP hoff hb
      simp [Act.eval, Array.getD_eq_getD_getElem?, s19]
    · refine (spec_GrdOf.calls k Ac cc cs hd ft Ar cr rs gp a2 b2 l2 W hG.kc HLc.out hG.kr HLr.out A3.out).mono ?_
      rintro _ W2 ⟨v2, rfl, hv, hd⟩
      obtain ⟨AH, ch, rfl⟩ := Kd.R_slice hv
      exact ⟨_, rfl, ⟨AH, ch, rfl, (Kd.R_reads' hv).2.2, (Kd.R_reads' hv).2.1⟩, hd, hG.below hd⟩
    refine all_cons (EStep.call Tryd.func6 (by kernel_rfl) rfl ⟨_, rfl, rfl, rfl⟩ fun bs E a' W ha hG hP hoff hb => ?_) ?_
    · obtain ⟨AH, ch, hv, hkh, hlh⟩ := (hP 2 rfl).2
      refine ⟨#[.agg (gridA a b (.slice AG l.length cg)), .agg #[.int .i64 a2, .int .i64 b2, .slice AH l2.length ch]], ?_, ?_⟩
      · have s18 : a'.tmps[18]? = some (.agg (gridA a b (.slice AG l.length cg))) := slotv ha (hP 0 rfl).1 rfl (hP 0 rfl).2
        have s20 : a'.tmps[20]? = some (.agg #[.int .i64 a2, .int .i64 b2, .slice AH l2.length ch]) := slotv ha (hP 2 rfl).1 rfl hv
        clear ha hG hP hoff hb hkh hlh
        simp [Act.eval, Array.getD_eq_getD_getElem?, s18, s20]
      · refine (laws_pwGrid.calls k a b AG cg l a2 b2 AH ch l2 true W hG.kg HLg.out hkh hlh A4.out).mono ?_
        rintro _ W2 ⟨rfl, hd⟩
        exact ⟨_, rfl, rfl, hd, hG.below hd⟩
    refine all_cons (EStep.pure hk0 fun bs E a' W ha hG hP => ?_) all_nil
    have s21 : a'.tmps[21]? = some (.bool true) := slotv ha (hP 3 rfl).1 rfl (hP 3 rfl).2
    exact ⟨_, .bool false, rfl, rfl, by clear ha hG hP; go_simp, rfl, hG⟩
  · intro E bs W hall hF hG
    have e4 : E 4 = .bool false := hF 4 rfl
    rw [putSel_all (fun x hx => hall x.1 (by revert x; decide))]
    simp only [laws_FnGrdSlots.L5, List.foldl, e4, Act.put, List.setIfInBounds_toArray, List.set_cons_zero, List.set_cons_succ]
    clear hall hF e4 HW hk0
    have HW := Aside0.mk hG
    clear hG
    have t0 : _ = some (Value.slice Ac cs.length cc) := (blk_cell HW.out.bt 0).trans rfl
    have t1 : _ = some (Value.int .i64 hd) := (blk_cell HW.out.bt 1).trans rfl
    have t2 : _ = some (Value.int .i64 ft) := (blk_cell HW.out.bt 2).trans rfl
    have t3 : _ = some (Value.slice Ar rs.length cr) := (blk_cell HW.out.bt 3).trans rfl
    have t4 : _ = some (Value.int .i64 gp) := (blk_cell HW.out.bt 4).trans rfl
    have g0 : _ = some (Value.int .i64 a) := (blk_cell HW.out.bg 0).trans rfl
    have g1 : _ = some (Value.int .i64 b) := (blk_cell HW.out.bg 1).trans rfl
    have g2 : _ = some (Value.slice AG l.length cg) := (blk_cell HW.out.bg 2).trans rfl
    rcases HS.out with ⟨B1, B2, ⟨hcs, ha6, hb6_⟩, AL⟩ | ⟨B1, B2, B3⟩
    · clear HS
      have d1 : decide (b < (cs.length : Int)) = false := decide_eq_false (by omega)
      go_upto_region 12 with (first | (go_at_call 8; (with_reducible refine (spec_TblOk.calls k Ac cc cs hd ft Ar cr rs gp true _ HW.out.kc HLc.out HW.out.kr HLr.out B1.out).mono ?_); rintro e W5 ⟨rfl, hb⟩; clear t0 t1 t2 t3 t4 g0 g1 g2; replace HW := Aside0.mk (HW.out.below hb); clear hb; have t0 : _ = some (Value.slice Ac cs.length cc) := (blk_cell HW.out.bt 0).trans rfl; have t1 : _ = some (Value.int .i64 hd) := (blk_cell HW.out.bt 1).trans rfl; have t2 : _ = some (Value.int .i64 ft) := (blk_cell HW.out.bt 2).trans rfl; have t3 : _ = some (Value.slice Ar rs.length cr) := (blk_cell HW.out.bt 3).trans rfl; have t4 : _ = some (Value.int .i64 gp) := (blk_cell HW.out.bt 4).trans rfl; have g0 : _ = some (Value.int .i64 a) := (blk_cell HW.out.bg 0).trans rfl; have g1 : _ = some (Value.int .i64 b) := (blk_cell HW.out.bg 1).trans rfl; have g2 : _ = some (Value.slice AG l.length cg) := (blk_cell HW.out.bg 2).trans rfl) | (go_at_call 9; (with_reducible refine (impl_GrdOk.calls k a b AG cg l true _ HW.out.kg HLg.out B2.out).mono ?_); rintro e W5 ⟨rfl, hb⟩; clear t0 t1 t2 t3 t4 g0 g1 g2; replace HW := Aside0.mk (HW.out.below hb); clear hb; have t0 : _ = some (Value.slice Ac cs.length cc) := (blk_cell HW.out.bt 0).trans rfl; have t1 : _ = some (Value.int .i64 hd) := (blk_cell HW.out.bt 1).trans rfl; have t2 : _ = some (Value.int .i64 ft) := (blk_cell HW.out.bt 2).trans rfl; have t3 : _ = some (Value.slice Ar rs.length cr) := (blk_cell HW.out.bt 3).trans rfl; have t4 : _ = some (Value.int .i64 gp) := (blk_cell HW.out.bt 4).trans rfl; have g0 : _ = some (Value.int .i64 a) := (blk_cell HW.out.bg 0).trans rfl; have g1 : _ = some (Value.int .i64 b) := (blk_cell HW.out.bg 1).trans rfl; have g2 : _ = some (Value.slice AG l.length cg) := (blk_cell HW.out.bg 2).trans rfl))
      clear t0 t1 t2 t3 t4 g0 g1 g2 d1
      have hl1 : (l.length : Int) ≤ 9223372036854775807 := by have := HW.out.kg.2.1; omega
      go_loopg [5] l.length (fun gg s5 wr => ∃ (n i : Nat), n ≤ gg ∧ i + n = l.length ∧ s5 = .int .i64 i ∧ Aside0 (laws_FnGrdSlots.l0 k cs hd ft rs gp a b l n i = some r) ∧ Aside0 (laws_FnGrdSlots.Wd w T G (l3A (.slice Ac cs.length cc) (.slice Ar rs.length cr) hd ft gp) (gridA a b (.slice AG l.length cg)) Ac Ar AG cs rs l wr))
      case atStart => exact ⟨l.length, 0, Nat.le_refl _, by omega, rfl, AL, HW⟩
      case round =>
        clear AL HW
        obtain ⟨n, i, hg, hin, rfl, HL, HW⟩ := hrel
        have g2 : wr.cell? ⟨G, 2, none⟩ = some (Value.slice AG l.length cg) := (blk_cell HW.out.bg 2).trans rfl
        cases n with
        | zero =>
          have hl := HL.out
          unfold laws_FnGrdSlots.l0 at hl
          obtain rfl := Option.some.inj hl
          have hlt : ¬ (i : Int) < (l.length : Int) := by omega
          clear hl HL
          go_wp2
          go_ret
          exact ⟨rfl, HW.out.bl⟩
        | succ n =>
          obtain ⟨c, x, p, v1, hc, hx, ⟨h0, h1, h2, h3⟩, he, hle, P1, P2, hq, AK, HL2⟩ := laws_FnGrdSlots.step HL.out
          clear HL
          have HE := Aside0.mk he
          have HLE := Aside0.mk hle
          have HQ := Aside0.mk hq
          clear he hle hq
          have hlt : (i : Int) < (l.length : Int) := by omega
          obtain ⟨ad, hA, p0, p1, p2, p3, p4⟩ := at_T37 HW.out.kg i (by omega) hlt
          rw [hA] at g2
          clear hA
          simp only [Int.toNat_natCast] at p0 p1 p2 p3 p4
          rw [hc] at p0 p1 p2 p3 p4
          clear hc
          go_upto_region 15 with (fail)
          refine wp_letter (fun W0 => laws_FnGrdSlots.Wd w T G (l3A (.slice Ac cs.length cc) (.slice Ar rs.length cr) hd ft gp) (gridA a b (.slice AG l.length cg)) Ac Ar AG cs rs l W0 ∧ W0.heap[wr.heap.size]? = some (.cells (gcA c.f0 c.f1 c.f2 c.f3 c.f4) 37 (0, 0))) ⟨HW.out.below (below_alloc (Below.refl _ _) _), blk_new wr _⟩ ?_
          rintro W6 ⟨hW, hN⟩
          generalize wr.heap.size = X6 at hN ⊢
          clear HW g2 p0 p1 p2 p3 p4
          have HW := Aside0.mk hW
          have HN := Aside0.mk hN
          clear hW hN
          have t3 : _ = some (Value.slice Ar rs.length cr) := (blk_cell HW.out.bt 3).trans rfl
          obtain ⟨n0, n1, n2, n3, n4⟩ := gcA_cells HN.out
          obtain ⟨ar, A1', c1', hA, hx0, hx1, hl1', hC1⟩ := at_T44 HW.out.kr c.f0 h0 h1
          rw [hA] at t3
          clear hA
          obtain ⟨ax, rfl, y0, y1, y2, y3, y4, y5, y6, y7, y8, y9, y10⟩ := at_T41 hC1 c.f4 h2 h3
          rw [hx] at y0 y1 y2 y3 y4 y5 y6 y7 y8 y9 y10
          clear hx hC1
          clear hx1 n1 n2 n3
          have hb6 := Below.refl W6.heap.size W6
          go_region_held3 (fun w' => w'.cell? ⟨T, 3, none⟩ = some (.slice (some ar) rs.length cr) ∧ w'.cell? ⟨X6, 0, none⟩ = some (.int .i64 c.f0) ∧ w'.cell? ⟨X6, 4, none⟩ = some (.int .i64 c.f4) ∧ w'.cell? (ar.add (c.f0.toNat * 2)) = some (.slice (some ax) (rd_T44 rs c.f0).f0.length c1') ∧ w'.cell? (ax.add (c.f4.toNat * 11)) = some (.string x.f0) ∧ w'.cell? ⟨(ax.add (c.f4.toNat * 11)).block, (ax.add (c.f4.toNat * 11)).off + 1, none⟩ = some (.int .i64 x.f1) ∧ w'.cell? ⟨(ax.add (c.f4.toNat * 11)).block, (ax.add (c.f4.toNat * 11)).off + 2, none⟩ = some (.int .i64 x.f2) ∧ w'.cell? ⟨(ax.add (c.f4.toNat * 11)).block, (ax.add (c.f4.toNat * 11)).off + 3, none⟩ = some (.int .i64 x.f3.f0) ∧ w'.cell? ⟨(ax.add (c.f4.toNat * 11)).block, (ax.add (c.f4.toNat * 11)).off + 4, none⟩ = some (.int .i64 x.f3.f1) ∧ w'.cell? ⟨(ax.add (c.f4.toNat * 11)).block, (ax.add (c.f4.toNat * 11)).off + 5, none⟩ = some (.int .i64 x.f4.f0) ∧ w'.cell? ⟨(ax.add (c.f4.toNat * 11)).block, (ax.add (c.f4.toNat * 11)).off + 6, none⟩ = some (.int .i64 x.f4.f1) ∧ w'.cell? ⟨(ax.add (c.f4.toNat * 11)).block, (ax.add (c.f4.toNat * 11)).off + 7, none⟩ = some (.int .i64 x.f5.f0) ∧ w'.cell? ⟨(ax.add (c.f4.toNat * 11)).block, (ax.add (c.f4.toNat * 11)).off + 8, none⟩ = some (.int .i64 x.f5.f1) ∧ w'.cell? ⟨(ax.add (c.f4.toNat * 11)).block, (ax.add (c.f4.toNat * 11)).off + 9, none⟩ = some (.int .i64 x.f6.f0) ∧ w'.cell? ⟨(ax.add (c.f4.toNat * 11)).block, (ax.add (c.f4.toNat * 11)).off + 10, none⟩ = some (.int .i64 x.f6.f1)) ((repeat' apply And.intro) <;> exact keepc (W := W6) (by assumption) (by repeat (with_reducible first | exact Below.refl _ _ | apply below_alloc | apply pw_below_drewN | apply below_drew1 | (refine below_set ?_ (by simp)) | refine below_step ?_ hb6))) (fail)
          go_upto_region 16 with (fail)
          have hbd := below_drew1 (below_alloc hb6 (.cells #[.string x.f0, .int .i64 x.f1, .int .i64 x.f2, .int .i64 x.f3.f0, .int .i64 x.f3.f1, .int .i64 x.f4.f0, .int .i64 x.f4.f1, .int .i64 x.f5.f0, .int .i64 x.f5.f1, .int .i64 x.f6.f0, .int .i64 x.f6.f1] 41))
          have hxd := blk_drew (blk_new W6 (.cells #[.string x.f0, .int .i64 x.f1, .int .i64 x.f2, .int .i64 x.f3.f0, .int .i64 x.f3.f1, .int .i64 x.f4.f0, .int .i64 x.f4.f1, .int .i64 x.f5.f0, .int .i64 x.f5.f1, .int .i64 x.f6.f0, .int .i64 x.f6.f1] 41))
          refine wp_letter (fun W0 => laws_FnGrdSlots.Wd w T G (l3A (.slice Ac cs.length cc) (.slice Ar rs.length cr) hd ft gp) (gridA a b (.slice AG l.length cg)) Ac Ar AG cs rs l W0 ∧ W0.heap[X6]? = some (.cells (gcA c.f0 c.f1 c.f2 c.f3 c.f4) 37 (0, 0)) ∧ W0.heap[W6.heap.size]? = some (.cells #[.string x.f0, .int .i64 x.f1, .int .i64 x.f2, .int .i64 x.f3.f0, .int .i64 x.f3.f1, .int .i64 x.f4.f0, .int .i64 x.f4.f1, .int .i64 x.f5.f0, .int .i64 x.f5.f1, .int .i64 x.f6.f0, .int .i64 x.f6.f1] 41 (0, 0))) ⟨HW.out.below hbd, blk_below HN.out hbd, hxd⟩ ?_
          rintro W7 ⟨hW, hN, hX⟩
          generalize W6.heap.size = X7 at hX ⊢
          clear HW HN hbd hxd hb6 t3 n0 n4 hx0 y0 y1 y2 y3 y4 y5 y6 y7 y8 y9 y10
          have HW := Aside0.mk hW
          have HN := Aside0.mk hN
          clear hW hN
          have t0 : _ = some (Value.slice Ac cs.length cc) := (blk_cell HW.out.bt 0).trans rfl
          have t1 : _ = some (Value.int .i64 hd) := (blk_cell HW.out.bt 1).trans rfl
          have t2 : _ = some (Value.int .i64 ft) := (blk_cell HW.out.bt 2).trans rfl
          have t3 : _ = some (Value.slice Ar rs.length cr) := (blk_cell HW.out.bt 3).trans rfl
          have t4 : _ = some (Value.int .i64 gp) := (blk_cell HW.out.bt 4).trans rfl
          have g0 : _ = some (Value.int .i64 a) := (blk_cell HW.out.bg 0).trans rfl
          have g1 : _ = some (Value.int .i64 b) := (blk_cell HW.out.bg 1).trans rfl
          have g2 : _ = some (Value.slice AG l.length cg) := (blk_cell HW.out.bg 2).trans rfl
          obtain ⟨n0, n1, n2, n3, n4⟩ := gcA_cells HN.out
          have y1 : W7.cell? ⟨X7, 1, none⟩ = some (.int .i64 x.f1) := (blk_cell hX 1).trans rfl
          have y2 : W7.cell? ⟨X7, 2, none⟩ = some (.int .i64 x.f2) := (blk_cell hX 2).trans rfl
          rw [← HE.out] at y1
          have xt0 := Ext.cell t0
          have xt1 := Ext.cell t1
          have xt2 := Ext.cell t2
          have xt3 := Ext.cell t3
          have xt4 := Ext.cell t4
          have xn0 := Ext.cell n0
          have xn2 := Ext.cell n2
          have xn3 := Ext.cell n3
          have xy1 := Ext.cell y1
          have xy2 := Ext.cell y2
          clear t0 t1 t2 t3 t4 g0 g1 g2 n0 n1 n2 n3 n4 y1 y2 hX
          have FC := Aside0.mk (fun (v : Ext W7) => Kd.C_below HW.out.kc v.below)
          have FR := Aside0.mk (fun (v : Ext W7) => Kd.C_below HW.out.kr v.below)
          have FM := Aside0.mk (fun (v : Ext W7) => Txt.MLen_below (Txt.MLen_below HM.out HW.out.bl) v.below)
          have d1 : decide (x.f2 < c.f2) = false := decide_eq_false (by have := HLE.out; omega)
          go_cut [113] (fun s113 wx => s113 = .bool false ∧ Aside0 (Below W7.heap.size W7 wx))
          case first =>
            rcases HQ.out with d2 | ⟨d2, u, PU, hu⟩
            · clear HQ
              replace d2 : decide (c.f2 < x.f2) = false := decide_eq_false d2
              refine region_ext (by kernel_rfl) (by kernel_rfl) ?_
              repeat (go_big_quiet_step (first | (go_at_call 11; first | exact Calls.ext (impl_TblPart.calls k Ac cc cs hd ft Ar cr rs gp _ p _ (FC.out _) HLc.out (FR.out _) HLr.out (FM.out _) P1.out) | exact Calls.ext (impl_TblPart.calls k Ac cc cs hd ft Ar cr rs gp _ p _ (FC.out _) HLc.out (FR.out _) HLr.out (FM.out _) P2.out) | exact Calls.ext (impl_TblPart.calls k Ac cc cs hd ft Ar cr rs gp _ u _ (FC.out _) HLc.out (FR.out _) HLr.out (FM.out _) PU.out))))
              refine wpQuiet_nil ?_
              rintro W8 ⟨⟨W9, hb3⟩, rfl⟩
              go_wp2
              go_meet
              exact ⟨rfl, ⟨hb3⟩⟩
            · clear HQ
              replace d2 : decide (c.f2 < x.f2) = true := decide_eq_true d2
              replace hu : (u == p) = false := beq_eq_false_iff_ne.2 hu
              refine region_ext (by kernel_rfl) (by kernel_rfl) ?_
              repeat (go_big_quiet_step (first | (go_at_call 11; first | exact Calls.ext (impl_TblPart.calls k Ac cc cs hd ft Ar cr rs gp _ p _ (FC.out _) HLc.out (FR.out _) HLr.out (FM.out _) P1.out) | exact Calls.ext (impl_TblPart.calls k Ac cc cs hd ft Ar cr rs gp _ p _ (FC.out _) HLc.out (FR.out _) HLr.out (FM.out _) P2.out) | exact Calls.ext (impl_TblPart.calls k Ac cc cs hd ft Ar cr rs gp _ u _ (FC.out _) HLc.out (FR.out _) HLr.out (FM.out _) PU.out))))
              refine wpQuiet_nil ?_
              rintro W8 ⟨⟨W9, hb3⟩, rfl⟩
              go_wp2
              go_meet
              exact ⟨rfl, ⟨hb3⟩⟩
          case rest =>
            obtain ⟨rfl, hb7⟩ := hcut
            clear xt0 xt1 xt2 xt3 xt4 xn0 xn2 xn3 xy1 xy2 FC FR FM d1 HQ P1 P2 HE HLE h0 h1 h2 h3 hlt
            replace HW := Aside0.mk (HW.out.below hb7.out)
            replace HN := Aside0.mk (blk_below HN.out hb7.out)
            clear hb7
            go_upto_region 19 with (fail)
            go_loopg [8] a.toNat (fun gg s8 wr => ∃ (m q : Nat), m ≤ gg ∧ q + m = a.toNat ∧ s8 = .int .i64 q ∧ Aside0 (laws_FnGrdSlots.l1 k a b l i c m q = some v1) ∧ Aside0 (laws_FnGrdSlots.Wd w T G (l3A (.slice Ac cs.length cc) (.slice Ar rs.length cr) hd ft gp) (gridA a b (.slice AG l.length cg)) Ac Ar AG cs rs l wr) ∧ Aside0 (wr.heap[X6]? = some (.cells (gcA c.f0 c.f1 c.f2 c.f3 c.f4) 37 (0, 0))))
            case atStart => exact ⟨a.toNat, 0, Nat.le_refl _, by omega, rfl, AK, HW, HN⟩
            case round =>
              clear AK HW HN
              obtain ⟨m, q, hgq, hqm, rfl, HLQ, HW, HN⟩ := hrel
              have g0 : wr.cell? ⟨G, 0, none⟩ = some (Value.int .i64 a) := (blk_cell HW.out.bg 0).trans rfl
              cases m with
              | zero =>
                have hlt : ¬ (q : Int) < a := by omega
                go_wp2
                go_roundg n
                case measure => omega
                case rel => exact ⟨n, i + 1, Nat.le_refl _, by omega, by go_num, HL2, HW⟩
              | succ m =>
                have hlt : (q : Int) < a := by omega
                obtain ⟨v2, AC, AD⟩ := laws_FnGrdSlots.step1 HLQ.out
                clear HLQ
                go_upto_region 22 with (fail)
                clear g0
                go_loopg [9] b.toNat (fun gg s9 wr => ∃ (u j : Nat), u ≤ gg ∧ j + u = b.toNat ∧ s9 = .int .i64 j ∧ Aside0 (laws_FnGrdSlots.l2 k a b l i c q u j = some v2) ∧ Aside0 (laws_FnGrdSlots.Wd w T G (l3A (.slice Ac cs.length cc) (.slice Ar rs.length cr) hd ft gp) (gridA a b (.slice AG l.length cg)) Ac Ar AG cs rs l wr) ∧ Aside0 (wr.heap[X6]? = some (.cells (gcA c.f0 c.f1 c.f2 c.f3 c.f4) 37 (0, 0))))
                case atStart => exact ⟨b.toNat, 0, Nat.le_refl _, by omega, rfl, AC, HW, HN⟩
                case round =>
                  clear AC HW HN
                  obtain ⟨u, j, hgu, hju, rfl, HLJ, HW, HN⟩ := hrel
                  have g0 : wr.cell? ⟨G, 0, none⟩ = some (Value.int .i64 a) := (blk_cell HW.out.bg 0).trans rfl
                  have g1 : wr.cell? ⟨G, 1, none⟩ = some (Value.int .i64 b) := (blk_cell HW.out.bg 1).trans rfl
                  have g2 : wr.cell? ⟨G, 2, none⟩ = some (Value.slice AG l.length cg) := (blk_cell HW.out.bg 2).trans rfl
                  cases u with
                  | zero =>
                    have hltj : ¬ (j : Int) < b := by omega
                    go_wp2
                    go_roundg m
                    case measure => omega
                    case rel => exact ⟨m, q + 1, Nat.le_refl _, by omega, by go_num, AD, HW, HN⟩
                  | succ u =>
                    have hltj : (j : Int) < b := by omega
                    obtain ⟨t, AT, AE, hs⟩ := laws_FnGrdSlots.step2 HLJ.out
                    clear HLJ
                    obtain ⟨n0, n1, n2, n3, n4⟩ := gcA_cells HN.out
                    rcases hs with ⟨rfl, e1, e2, e3, e4⟩ | ⟨et, hs⟩
                    · replace e1 : decide (c.f0 ≤ (q : Int)) = true := decide_eq_true e1
                      replace e2 : decide ((q : Int) < wrap64 (c.f0 + c.f2)) = true := decide_eq_true e2
                      replace e3 : decide (c.f1 ≤ (j : Int)) = true := decide_eq_true e3
                      replace e4 : decide ((j : Int) < wrap64 (c.f1 + c.f3)) = true := decide_eq_true e4
                      go_wp2_with (go_at_call 12; (with_reducible refine (impl_GrdAt.calls k a b AG cg l q j i _ HW.out.kg HLg.out AT.out).mono ?_); rintro e W5 ⟨rfl, hb⟩; clear g0 g1 g2 n0 n1 n2 n3 n4; replace HW := Aside0.mk (HW.out.below hb); replace HN := Aside0.mk (blk_below HN.out hb); clear hb)
                      go_roundg u
                      case measure => omega
                      case rel => exact ⟨u, j + 1, Nat.le_refl _, by omega, by go_num, AE, HW, HN⟩
                    · have et2 : (t == (i : Int)) = false := beq_eq_false_iff_ne.2 et
                      rcases hs with e1 | ⟨e1, e2⟩ | ⟨e1, e2, e3⟩ | ⟨e1, e2, e3, e4⟩
                      · replace e1 : decide (c.f0 ≤ (q : Int)) = false := decide_eq_false e1
                        go_wp2_with (go_at_call 12; (with_reducible refine (impl_GrdAt.calls k a b AG cg l q j t _ HW.out.kg HLg.out AT.out).mono ?_); rintro e W5 ⟨rfl, hb⟩; clear g0 g1 g2 n0 n1 n2 n3 n4; replace HW := Aside0.mk (HW.out.below hb); replace HN := Aside0.mk (blk_below HN.out hb); clear hb)
                        go_roundg u
                        case measure => omega
                        case rel => exact ⟨u, j + 1, Nat.le_refl _, by omega, by go_num, AE, HW, HN⟩
                      · replace e1 : decide (c.f0 ≤ (q : Int)) = true := decide_eq_true e1
                        replace e2 : decide ((q : Int) < wrap64 (c.f0 + c.f2)) = false := decide_eq_false e2
                        go_wp2_with (go_at_call 12; (with_reducible refine (impl_GrdAt.calls k a b AG cg l q j t _ HW.out.kg HLg.out AT.out).mono ?_); rintro e W5 ⟨rfl, hb⟩; clear g0 g1 g2 n0 n1 n2 n3 n4; replace HW := Aside0.mk (HW.out.below hb); replace HN := Aside0.mk (blk_below HN.out hb); clear hb)
                        go_roundg u
                        case measure => omega
                        case rel => exact ⟨u, j + 1, Nat.le_refl _, by omega, by go_num, AE, HW, HN⟩
                      · replace e1 : decide (c.f0 ≤ (q : Int)) = true := decide_eq_true e1
                        replace e2 : decide ((q : Int) < wrap64 (c.f0 + c.f2)) = true := decide_eq_true e2
                        replace e3 : decide (c.f1 ≤ (j : Int)) = false := decide_eq_false e3
                        go_wp2_with (go_at_call 12; (with_reducible refine (impl_GrdAt.calls k a b AG cg l q j t _ HW.out.kg HLg.out AT.out).mono ?_); rintro e W5 ⟨rfl, hb⟩; clear g0 g1 g2 n0 n1 n2 n3 n4; replace HW := Aside0.mk (HW.out.below hb); replace HN := Aside0.mk (blk_below HN.out hb); clear hb)
                        go_roundg u
                        case measure => omega
                        case rel => exact ⟨u, j + 1, Nat.le_refl _, by omega, by go_num, AE, HW, HN⟩
                      · replace e1 : decide (c.f0 ≤ (q : Int)) = true := decide_eq_true e1
                        replace e2 : decide ((q : Int) < wrap64 (c.f0 + c.f2)) = true := decide_eq_true e2
                        replace e3 : decide (c.f1 ≤ (j : Int)) = true := decide_eq_true e3
                        replace e4 : decide ((j : Int) < wrap64 (c.f1 + c.f3)) = false := decide_eq_false e4
                        go_wp2_with (go_at_call 12; (with_reducible refine (impl_GrdAt.calls k a b AG cg l q j t _ HW.out.kg HLg.out AT.out).mono ?_); rintro e W5 ⟨rfl, hb⟩; clear g0 g1 g2 n0 n1 n2 n3 n4; replace HW := Aside0.mk (HW.out.below hb); replace HN := Aside0.mk (blk_below HN.out hb); clear hb)
                        go_roundg u
                        case measure => omega
                        case rel => exact ⟨u, j + 1, Nat.le_refl _, by omega, by go_num, AE, HW, HN⟩
    · clear HS
      go_upto_region 8 with (first | (go_at_call 8; (with_reducible refine (spec_TblOk.calls k Ac cc cs hd ft Ar cr rs gp false _ HW.out.kc HLc.out HW.out.kr HLr.out B1.out).mono ?_); rintro e W5 ⟨rfl, hb⟩; clear t0 t1 t2 t3 t4 g0 g1 g2; replace HW := Aside0.mk (HW.out.below hb); clear hb; have t0 : _ = some (Value.slice Ac cs.length cc) := (blk_cell HW.out.bt 0).trans rfl; have t1 : _ = some (Value.int .i64 hd) := (blk_cell HW.out.bt 1).trans rfl; have t2 : _ = some (Value.int .i64 ft) := (blk_cell HW.out.bt 2).trans rfl; have t3 : _ = some (Value.slice Ar rs.length cr) := (blk_cell HW.out.bt 3).trans rfl; have t4 : _ = some (Value.int .i64 gp) := (blk_cell HW.out.bt 4).trans rfl; have g0 : _ = some (Value.int .i64 a) := (blk_cell HW.out.bg 0).trans rfl; have g1 : _ = some (Value.int .i64 b) := (blk_cell HW.out.bg 1).trans rfl; have g2 : _ = some (Value.slice AG l.length cg) := (blk_cell HW.out.bg 2).trans rfl))
      go_wp2_with (first | (go_at_call 9; (with_reducible refine (impl_GrdOk.calls k a b AG cg l false _ HW.out.kg HLg.out B2.out).mono ?_); rintro e W5 ⟨rfl, hb⟩; clear t0 t1 t2 t3 t4 g0 g1 g2; replace HW := Aside0.mk (HW.out.below hb); clear hb; have t0 : _ = some (Value.slice Ac cs.length cc) := (blk_cell HW.out.bt 0).trans rfl; have t1 : _ = some (Value.int .i64 hd) := (blk_cell HW.out.bt 1).trans rfl; have t2 : _ = some (Value.int .i64 ft) := (blk_cell HW.out.bt 2).trans rfl; have t3 : _ = some (Value.slice Ar rs.length cr) := (blk_cell HW.out.bt 3).trans rfl; have t4 : _ = some (Value.int .i64 gp) := (blk_cell HW.out.bt 4).trans rfl; have g0 : _ = some (Value.int .i64 a) := (blk_cell HW.out.bg 0).trans rfl; have g1 : _ = some (Value.int .i64 b) := (blk_cell HW.out.bg 1).trans rfl; have g2 : _ = some (Value.slice AG l.length cg) := (blk_cell HW.out.bg 2).trans rfl) | (go_at_call 10; (with_reducible refine (laws_pwOk.calls r _ (Txt.MLen_below HM.out HW.out.bl) B3.out).mono ?_); rintro e W5 ⟨rfl, hb⟩; replace HW := Aside0.mk (HW.out.below hb); clear hb))
      go_ret
      exact ⟨rfl, HW.out.bl⟩
def laws_FnGrdSlots.Pure : Prop := ∀ (l0 : List Int), l0.length ≤ maxLen → l0.length * 1 ≤ 140737488351232 → (∀ x ∈ l0, (Lit.int .u8 x).wf = true) → ∃ k, laws_FnGrdSlots.f k l0 = some true


end Go.Proofs.YtkbcmbjoelkgoacDoor.Q
