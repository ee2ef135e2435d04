-- Told by a program of this session (uprint.py, ulay.py).
import Derived.Test.YtalnklnfiopaoabDoorQ0
import Derived.Test.YtalnklnfiopaoabDoorReg
import Derived.Test.YtalnklnfiopaoabDoorQspecl20Open
import Derived.Test.YtalnklnfiopaoabDoorQspecTblOk
import Derived.Test.YtalnklnfiopaoabDoorQspecDrawQryRange
import Derived.Test.YtalnklnfiopaoabDoorQimplGrdCellhull
namespace Go.Proofs.YtalnklnfiopaoabDoor.Q
open Go.RowKit Go.Proofs.YtalnklnfiopaoabDoorW.PrintWords Go.Proofs.YtalnklnfiopaoabDoorW.PrintLast Go.Proofs.YtalnklnfiopaoabDoorW.PrintMore Go.Proofs.YtalnklnfiopaoabDoor.Reg Go.Proofs.YtalnklnfiopaoabDoor.Box
attribute [local go_sem] max2_int min2_int max_two min_two max_three min_three max_four min_four
set_option linter.unusedVariables false
set_option linter.unusedSimpArgs false

/-! ### spec_QryRange: function 6 (by hand) -/
mutual
def spec_QryRange.j0 : Nat → Int → Int → Bool → Int → Int → List (S29) → Option (Int × Int × Int × Int × Int)
  | 0, _, _, _, _, _, _ => none
  | k + 1, x1, x2, x30, x347000, x347001, x347002 => if x30 = true then (some (0, 0, 0, 0, 0)) else (if 0 ≤ x1 then (if x1 < (x347002.length : Int) then (if 0 ≤ x2 then (if x2 < (x347002.length : Int) then ((spec_l10Span.f ((rd_T29 x347002 x1).f0) ((rd_T29 x347002 x1).f1) ((rd_T29 x347002 x1).f2) ((rd_T29 x347002 x1).f3) ((rd_T29 x347002 x1).f4) ((rd_T29 x347002 x2).f0) ((rd_T29 x347002 x2).f1) ((rd_T29 x347002 x2).f2) ((rd_T29 x347002 x2).f3) ((rd_T29 x347002 x2).f4)).bind fun bt353 => (spec_QryRange.l0 k 0 x347000 x347001 x347002 bt353.1 bt353.2.1 bt353.2.2.1 bt353.2.2.2.1 0)) else (none)) else (none)) else (none)) else (none))
def spec_QryRange.l0 : Nat → Int → Int → Int → List (S29) → Int → Int → Int → Int → Int → Option (Int × Int × Int × Int × Int)
  | 0, _, _, _, _, _, _, _, _, _ => none
  | k + 1, x8, x347000, x347001, x347002, x359000, x359001, x359002, x359003, x359004 => if x8 < (x347002.length : Int) then (spec_QryRange.l1 k x8 0 x347000 x347001 x347002 x359000 x359001 x359002 x359003 x359004) else (some (x359000, x359001, x359002, x359003, x359004))
def spec_QryRange.l1 : Nat → Int → Int → Int → Int → List (S29) → Int → Int → Int → Int → Int → Option (Int × Int × Int × Int × Int)
  | 0, _, _, _, _, _, _, _, _, _, _ => none
  | k + 1, x8, x9, x347000, x347001, x347002, x359000, x359001, x359002, x359003, x359004 => if x9 < (x347002.length : Int) then (if 0 ≤ x9 then ((spec_l3Meets.f x359000 x359001 x359002 x359003 x359004 ((rd_T29 x347002 x9).f0) ((rd_T29 x347002 x9).f1) ((rd_T29 x347002 x9).f2) ((rd_T29 x347002 x9).f3) ((rd_T29 x347002 x9).f4)).bind fun t360 => (if t360 = true then ((spec_l10Span.f x359000 x359001 x359002 x359003 x359004 ((rd_T29 x347002 x9).f0) ((rd_T29 x347002 x9).f1) ((rd_T29 x347002 x9).f2) ((rd_T29 x347002 x9).f3) ((rd_T29 x347002 x9).f4)).bind fun bt362 => (spec_QryRange.l1 k x8 (wrap64 (x9 + 1)) x347000 x347001 x347002 bt362.1 bt362.2.1 bt362.2.2.1 bt362.2.2.2.1 bt362.2.2.2.2)) else (spec_QryRange.l1 k x8 (wrap64 (x9 + 1)) x347000 x347001 x347002 x359000 x359001 x359002 x359003 x359004))) else (none)) else (spec_QryRange.l0 k (wrap64 (x8 + 1)) x347000 x347001 x347002 x359000 x359001 x359002 x359003 x359004)
end
def spec_QryRange.f (k : Nat) (a0_0 : Int) (a0_1 : Int) (l0_2 : List (S29)) (a1 : Int) (a2 : Int) : Option (Int × Int × Int × Int × Int) := (spec_GrdOk.f k a0_0 a0_1 l0_2).bind fun t348 => (if t348 = true then ((spec_l1In.f a1 0 (wrap64 ((l0_2.length : Int) - 1))).bind fun t349 => (if t349 = true then ((spec_l1In.f a2 0 (wrap64 ((l0_2.length : Int) - 1))).bind fun t350 => (spec_QryRange.j0 k a1 a2 (!t350) a0_0 a0_1 l0_2)) else (spec_QryRange.j0 k a1 a2 true a0_0 a0_1 l0_2))) else (spec_QryRange.j0 k a1 a2 true a0_0 a0_1 l0_2))
theorem spec_QryRange.mono_l : ∀ k, (∀ y0 y1 y2 y3 y4 y5, LeO (spec_QryRange.j0 k y0 y1 y2 y3 y4 y5) (spec_QryRange.j0 (k + 1) y0 y1 y2 y3 y4 y5)) ∧ (∀ y0 y1 y2 y3 y4 y5 y6 y7 y8, LeO (spec_QryRange.l0 k y0 y1 y2 y3 y4 y5 y6 y7 y8) (spec_QryRange.l0 (k + 1) y0 y1 y2 y3 y4 y5 y6 y7 y8)) ∧ (∀ y0 y1 y2 y3 y4 y5 y6 y7 y8 y9, LeO (spec_QryRange.l1 k y0 y1 y2 y3 y4 y5 y6 y7 y8 y9) (spec_QryRange.l1 (k + 1) y0 y1 y2 y3 y4 y5 y6 y7 y8 y9))
  | 0 => ⟨fun _ _ _ _ _ _ r h => by simp [spec_QryRange.j0] at h, fun _ _ _ _ _ _ _ _ _ r h => by simp [spec_QryRange.l0] at h, fun _ _ _ _ _ _ _ _ _ _ r h => by simp [spec_QryRange.l1] at h⟩
  | k + 1 => by
    obtain ⟨ih0, ih1, ih2⟩ := spec_QryRange.mono_l k
    refine ⟨?_, ?_, ?_⟩
    · intro y0 y1 y2 y3 y4 y5
      unfold spec_QryRange.j0
      repeat' first
      | (with_reducible exact ih0 _ _ _ _ _ _)
      | (with_reducible exact ih1 _ _ _ _ _ _ _ _ _)
      | (with_reducible exact ih2 _ _ _ _ _ _ _ _ _ _)
      | (with_reducible exact spec_GrdOk.mono _ _ _ _)
      | (with_reducible exact LeO.refl _)
      | (with_reducible exact LeO.none _)
      | (with_reducible refine LeO.ite ?_ ?_)
      | (with_reducible refine LeO.bind ?_ (fun _ => ?_))
      | exact ih0 _ _ _ _ _ _
      | exact ih1 _ _ _ _ _ _ _ _ _
      | exact ih2 _ _ _ _ _ _ _ _ _ _
      | exact spec_GrdOk.mono _ _ _ _
      | exact LeO.none _
      | refine LeO.ite ?_ ?_
      | refine LeO.bind ?_ (fun _ => ?_)
    · intro y0 y1 y2 y3 y4 y5 y6 y7 y8
      unfold spec_QryRange.l0
      repeat' first
      | (with_reducible exact ih0 _ _ _ _ _ _)
      | (with_reducible exact ih1 _ _ _ _ _ _ _ _ _)
      | (with_reducible exact ih2 _ _ _ _ _ _ _ _ _ _)
      | (with_reducible exact spec_GrdOk.mono _ _ _ _)
      | (with_reducible exact LeO.refl _)
      | (with_reducible exact LeO.none _)
      | (with_reducible refine LeO.ite ?_ ?_)
      | (with_reducible refine LeO.bind ?_ (fun _ => ?_))
      | exact ih0 _ _ _ _ _ _
      | exact ih1 _ _ _ _ _ _ _ _ _
      | exact ih2 _ _ _ _ _ _ _ _ _ _
      | exact spec_GrdOk.mono _ _ _ _
      | exact LeO.none _
      | refine LeO.ite ?_ ?_
      | refine LeO.bind ?_ (fun _ => ?_)
    · intro y0 y1 y2 y3 y4 y5 y6 y7 y8 y9
      unfold spec_QryRange.l1
      repeat' first
      | (with_reducible exact ih0 _ _ _ _ _ _)
      | (with_reducible exact ih1 _ _ _ _ _ _ _ _ _)
      | (with_reducible exact ih2 _ _ _ _ _ _ _ _ _ _)
      | (with_reducible exact spec_GrdOk.mono _ _ _ _)
      | (with_reducible exact LeO.refl _)
      | (with_reducible exact LeO.none _)
      | (with_reducible refine LeO.ite ?_ ?_)
      | (with_reducible refine LeO.bind ?_ (fun _ => ?_))
      | exact ih0 _ _ _ _ _ _
      | exact ih1 _ _ _ _ _ _ _ _ _
      | exact ih2 _ _ _ _ _ _ _ _ _ _
      | exact spec_GrdOk.mono _ _ _ _
      | exact LeO.none _
      | refine LeO.ite ?_ ?_
      | refine LeO.bind ?_ (fun _ => ?_)
theorem spec_QryRange.mono : ∀ a0 a1 a2 a3 a4 k, LeO (spec_QryRange.f k a0 a1 a2 a3 a4) (spec_QryRange.f (k + 1) a0 a1 a2 a3 a4) := by
  intro a0 a1 a2 a3 a4 k
  obtain ⟨ih0, ih1, ih2⟩ := spec_QryRange.mono_l k
  unfold spec_QryRange.f
  repeat' first
      | (with_reducible exact ih0 _ _ _ _ _ _)
      | (with_reducible exact ih1 _ _ _ _ _ _ _ _ _)
      | (with_reducible exact ih2 _ _ _ _ _ _ _ _ _ _)
      | (with_reducible exact spec_GrdOk.mono _ _ _ _)
      | (with_reducible exact LeO.refl _)
      | (with_reducible exact LeO.none _)
      | (with_reducible refine LeO.ite ?_ ?_)
      | (with_reducible refine LeO.bind ?_ (fun _ => ?_))
      | exact ih0 _ _ _ _ _ _
      | exact ih1 _ _ _ _ _ _ _ _ _
      | exact ih2 _ _ _ _ _ _ _ _ _ _
      | exact spec_GrdOk.mono _ _ _ _
      | exact LeO.none _
      | refine LeO.ite ?_ ?_
      | refine LeO.bind ?_ (fun _ => ?_)
def spec_QryRange.T3 : Bool × List (List Nat × List Nat) := (true, [([], []), ([0], [0]), ([], []), ([1, 2], [1, 2]), ([3], [3]), ([], []), ([5], [5]), ([], []), ([6, 7], [6, 7]), ([8], [8]), ([4, 9], [4, 9]), ([], []), ([11, 10, 10, 0, 1, 2, 3, 4, 5, 6, 7, 8, 9, 10, 11], [10, 11])])
def spec_QryRange.B3 : List Nat := [0, 1, 0, 7, 15, 0, 32, 0, 224, 480, 1023, 0, 4095]
theorem spec_QryRange.tab3 : rtab .any (opsOf Tryd.f6 3) = spec_QryRange.T3 := by kernel_rfl
theorem spec_QryRange.bits3 : waitsOk spec_QryRange.T3.2 spec_QryRange.B3 = true := by kernel_rfl
def spec_QryRange.T12 : Bool × List (List Nat × List Nat) := (true, [([], []), ([], []), ([1], [1]), ([], []), ([2, 3], [2, 3]), ([4], [4]), ([0, 5], [0, 5]), ([6, 6, 0, 1, 2, 3, 4, 5, 6], [6])])
def spec_QryRange.B12 : List Nat := [0, 0, 2, 0, 14, 30, 63, 127]
theorem spec_QryRange.tab12 : rtab .any (opsOf Tryd.f6 12) = spec_QryRange.T12 := by kernel_rfl
theorem spec_QryRange.bits12 : waitsOk spec_QryRange.T12.2 spec_QryRange.B12 = true := by kernel_rfl
theorem spec_QryRange.parts {k : Nat} {a0_0 a0_1 : Int} {l0_2 : List S29} {a1 a2 r1 r2 r3 r4 r5 : Int} (hbig : l0_2.length ≤ 9223372036854775807) (h : spec_QryRange.f k a0_0 a0_1 l0_2 a1 a2 = some (r1, r2, r3, r4, r5)) :
    ((r1 = 0 ∧ r2 = 0 ∧ r3 = 0 ∧ r4 = 0 ∧ r5 = 0) ∧ (Aside0 (spec_GrdOk.f k a0_0 a0_1 l0_2 = some false) ∨ (Aside0 (spec_GrdOk.f k a0_0 a0_1 l0_2 = some true) ∧ Aside0 (spec_l1In.f a1 0 ((l0_2.length : Int) - 1) = some false)) ∨ (Aside0 (spec_GrdOk.f k a0_0 a0_1 l0_2 = some true) ∧ Aside0 (spec_l1In.f a1 0 ((l0_2.length : Int) - 1) = some true) ∧ Aside0 (spec_l1In.f a2 0 ((l0_2.length : Int) - 1) = some false)))) ∨
    (Aside0 (spec_GrdOk.f k a0_0 a0_1 l0_2 = some true) ∧ Aside0 (spec_l1In.f a1 0 ((l0_2.length : Int) - 1) = some true) ∧ Aside0 (spec_l1In.f a2 0 ((l0_2.length : Int) - 1) = some true) ∧ ∃ (q : Nat) (x : S29), (0 ≤ a1 ∧ a1 < (l0_2.length : Int)) ∧ (0 ≤ a2 ∧ a2 < (l0_2.length : Int)) ∧ Aside0 (spec_l10Span.f (rd_T29 l0_2 a1).f0 (rd_T29 l0_2 a1).f1 (rd_T29 l0_2 a1).f2 (rd_T29 l0_2 a1).f3 (rd_T29 l0_2 a1).f4 (rd_T29 l0_2 a2).f0 (rd_T29 l0_2 a2).f1 (rd_T29 l0_2 a2).f2 (rd_T29 l0_2 a2).f3 (rd_T29 l0_2 a2).f4 = some (x.f0, x.f1, x.f2, x.f3, x.f4)) ∧ Aside0 (spec_QryRange.l0 q 0 a0_0 a0_1 l0_2 x.f0 x.f1 x.f2 x.f3 0 = some (r1, r2, r3, r4, r5))) := by
  have bad : spec_QryRange.j0 k a1 a2 true a0_0 a0_1 l0_2 = some (r1, r2, r3, r4, r5) → r1 = 0 ∧ r2 = 0 ∧ r3 = 0 ∧ r4 = 0 ∧ r5 = 0 := by
    intro h
    cases k with
    | zero => unfold spec_QryRange.j0 at h; cases h
    | succ k =>
      unfold spec_QryRange.j0 at h
      simp at h
      omega
  unfold spec_QryRange.f at h
  rw [show wrap64 ((l0_2.length : Int) - 1) = (l0_2.length : Int) - 1 by unfold wrap64; omega] at h
  rw [Option.bind_eq_some_iff] at h
  obtain ⟨t1, h1, h⟩ := h
  cases t1 with
  | false => exact .inl ⟨bad h, .inl ⟨h1⟩⟩
  | true =>
    rw [if_pos rfl, Option.bind_eq_some_iff] at h
    obtain ⟨t2, h2, h⟩ := h
    cases t2 with
    | false => exact .inl ⟨bad h, .inr (.inl ⟨⟨h1⟩, ⟨h2⟩⟩)⟩
    | true =>
      rw [if_pos rfl, Option.bind_eq_some_iff] at h
      obtain ⟨t3, h3, h⟩ := h
      cases t3 with
      | false => exact .inl ⟨bad h, .inr (.inr ⟨⟨h1⟩, ⟨h2⟩, ⟨h3⟩⟩)⟩
      | true =>
        refine .inr ⟨⟨h1⟩, ⟨h2⟩, ⟨h3⟩, ?_⟩
        cases k with
        | zero => unfold spec_QryRange.j0 at h; cases h
        | succ k =>
          simp only [spec_QryRange.j0, Bool.not_true, Bool.false_eq_true, if_false] at h
          split at h
          · split at h
            · split at h
              · split at h
                · rw [Option.bind_eq_some_iff] at h
                  obtain ⟨⟨x0, x1, x2, x3, x4⟩, hx, h⟩ := h
                  exact ⟨k, ⟨x0, x1, x2, x3, x4⟩, ⟨by assumption, by assumption⟩, ⟨by assumption, by assumption⟩, ⟨hx⟩, ⟨h⟩⟩
                · cases h
              · cases h
            · cases h
          · cases h
/-- What is known of the world in a pass. -/
structure sqG (w : World) (C n cp : Nat) (a0 a1 : Int) (ad p : Addr) (y x : S29) (W : World) : Prop where
  hx : W.heap[C]? = some (.cells (gcA y.f0 y.f1 y.f2 y.f3 y.f4) 29 (0, 0))
  hg : W.heap[w.heap.size]? = some (.cells #[.int .i64 a0, .int .i64 a1, .slice (some ad) n cp] 25 (0, 0))
  ho : W.heap[w.heap.size + 1]? = some (.cells (gcA 0 0 0 0 0) 29 (0, 0))
  hb : Below w.heap.size w W
  hp : W.cell? p = some (.int .i64 x.f0) ∧ W.cell? ⟨p.block, p.off + 1, none⟩ = some (.int .i64 x.f1) ∧ W.cell? ⟨p.block, p.off + 2, none⟩ = some (.int .i64 x.f2) ∧ W.cell? ⟨p.block, p.off + 3, none⟩ = some (.int .i64 x.f3) ∧ W.cell? ⟨p.block, p.off + 4, none⟩ = some (.int .i64 x.f4)
theorem sqG.below {w : World} {C n cp : Nat} {a0 a1 : Int} {ad p : Addr} {y x : S29} {W W' : World} (h : sqG w C n cp a0 a1 ad p y x W) (hb : Below W.heap.size W W') : sqG w C n cp a0 a1 ad p y x W' :=
  ⟨blk_below h.hx hb, blk_below h.hg hb, blk_below h.ho hb, below_step h.hb hb, keepc h.hp.1 hb, keepc h.hp.2.1 hb, keepc h.hp.2.2.1 hb, keepc h.hp.2.2.2.1 hb, keepc h.hp.2.2.2.2 hb⟩
def spec_QryRangeB.T12 : Bool × List (List Nat × List Nat) := (true, [([], []), ([], []), ([1], [1]), ([], []), ([2, 3], [2, 3]), ([4], [4]), ([0, 5], [0, 5]), ([6, 6, 0, 1, 2, 3, 4, 5, 6], [6])])
def spec_QryRangeB.B12 : List Nat := [0, 0, 2, 0, 14, 30, 63, 127]
def spec_QryRangeB.L12 : List (Nat × Tmp) := [(0, 65), (1, 66), (2, 67), (3, 68), (4, 69), (5, 70), (6, 71)]
def spec_QryRangeB.O12 : List Nat := [0, 1, 2, 3, 4, 5, 6, 7]
theorem spec_QryRangeB.tab12 : rtab .any (opsOf Tryd.f6 12) = spec_QryRangeB.T12 := by kernel_rfl
theorem spec_QryRangeB.bits12 : waitsOk spec_QryRangeB.T12.2 spec_QryRangeB.B12 = true := by kernel_rfl
theorem spec_QryRangeB.base12 : baseOk spec_QryRangeB.T12.2 spec_QryRangeB.O12 = true := by kernel_rfl
theorem spec_QryRangeB.lof12 : (lof spec_QryRangeB.T12.2.length spec_QryRangeB.O12 (fun _ => false) == List.replicate spec_QryRangeB.T12.2.length false && spec_QryRangeB.O12.length == spec_QryRangeB.T12.2.length) = true := by kernel_rfl
theorem spec_QryRangeB.ents12 : chkL (opsOf Tryd.f6 12) spec_QryRangeB.O12 spec_QryRangeB.L12 = true := by kernel_rfl
theorem spec_QryRangeB.last12 : lastOk spec_QryRangeB.B12 spec_QryRangeB.O12 7 = true := by kernel_rfl
def spec_QryRangeB.V (g n cp : Nat) (ad : Addr) (i : Int) (y x z : S29) : Nat → Value
  | 0 => .agg (gcA y.f0 y.f1 y.f2 y.f3 y.f4)
  | 1 => .pointer (some ⟨g, 2, none⟩)
  | 2 => .slice (some ad) n cp
  | 3 => .int .i64 i
  | 4 => .pointer (some (ad.add (i.toNat * 5)))
  | 5 => .agg (gcA x.f0 x.f1 x.f2 x.f3 x.f4)
  | _ => .agg (gcA z.f0 z.f1 z.f2 z.f3 z.f4)
set_option maxHeartbeats 4000000 in
set_option maxRecDepth 100000 in
theorem spec_QryRange.calls (k : Nat) (a0_0 : Int) (a0_1 : Int) (A0_2 : Option Addr) (c0_2 : Nat) (l0_2 : List (S29)) (a1 : Int) (a2 : Int) (r1 : Int) (r2 : Int) (r3 : Int) (r4 : Int) (r5 : Int) (w : World) (hr0_2 : Kd.C k29 w A0_2 l0_2.length l0_2) (hc0_2 : l0_2.length ≤ c0_2) (h : spec_QryRange.f k a0_0 a0_1 l0_2 a1 a2 = some (r1, r2, r3, r4, r5)) :
    Calls Tryd.prog 6 #[.agg #[.int .i64 a0_0, .int .i64 a0_1, .slice A0_2 l0_2.length c0_2], .int .i64 a1, .int .i64 a2] w fun e w' => e = .returned (.agg #[.int .i64 r1, .int .i64 r2, .int .i64 r3, .int .i64 r4, .int .i64 r5]) ∧ Below w.heap.size w w' := by
  have HR := Aside0.mk hr0_2
  have HC := Aside0.mk hc0_2
  have hbig := hr0_2.2.1
  clear hr0_2 hc0_2
  have hu1 := Tryd.underlying25
  have hu2 := Tryd.underlying29
  rcases spec_QryRange.parts hbig h with ⟨⟨rfl, rfl, rfl, rfl, rfl⟩, A1 | ⟨A1, A2⟩ | ⟨A1, A2, A3⟩⟩ | ⟨A1, A2, A3, q, x, ⟨ha0, ha1⟩, ⟨hb0, hb1⟩, A4, A5⟩
  iterate 3
    · clear h
      go_enter Tryd.func6, Tryd.ntmps6
      go_wp2_with (first | (go_at_call 7; (with_reducible refine (spec_GrdOk.calls k a0_0 a0_1 A0_2 c0_2 l0_2 _ _ (Kd.C_below HR.out (below_alloc (below_alloc (Below.refl _ _) _) _)) HC.out A1.out).mono ?_); rintro e W ⟨rfl, hb⟩; have HG := Aside0.mk (blk_below (blk_alloc (blk_new w (.cells #[.int .i64 a0_0, .int .i64 a0_1, .slice A0_2 l0_2.length c0_2] 25)) (.cells (gcA 0 0 0 0 0) 29)) hb); have HO := Aside0.mk (blk_below (blk_new2 w (.cells #[.int .i64 a0_0, .int .i64 a0_1, .slice A0_2 l0_2.length c0_2] 25) (.cells (gcA 0 0 0 0 0) 29)) hb); have HB := Aside0.mk (below_step (below_alloc (below_alloc (Below.refl _ w) _) _) hb); clear hb; have q2 : W.cell? ⟨w.heap.size, 2, none⟩ = some (.slice A0_2 l0_2.length c0_2) := (blk_cell HG.out 2).trans rfl) | (go_at_call 16; (first | (with_reducible refine (spec_l1In.calls _ _ _ _ _ A2.out).mono ?_) | (with_reducible refine (spec_l1In.calls _ _ _ _ _ A3.out).mono ?_)); rintro e W' ⟨rfl, ⟨nd, rfl⟩⟩) | (refine wpList_put 29 _ _ rfl rfl (w.heap.size + 1) 0 rfl (.agg (gcA 0 0 0 0 0)) rfl 29 (gcA 0 0 0 0 0) (gcA 0 0 0 0 0) HO.out (by kernel_rfl) rfl rfl rfl (fun W9 hp => ?_); have HB := Aside0.mk (hp.below (by first | exact HB.out | exact pw_below_drewN HB.out _) (Nat.le_add_right _ 1)); have HO := Aside0.mk hp.blk; clear hp))
      exact bodyPost_ret (results_cell_row rfl _ _ (w.heap.size + 1) 29 (gcA 0 0 0 0 0) (0, 0) _ rfl HO.out Tryd.underlying29 rfl (by kernel_rfl)) rfl ⟨rfl, HB.out⟩
  clear h
  obtain ⟨ad, rfl, p0, p1, p2, p3, p4⟩ := at_T29 HR.out a1 ha0 ha1
  obtain ⟨ad', e', s0, s1, s2, s3, s4⟩ := at_T29 HR.out a2 hb0 hb1
  cases e'
  obtain ⟨xa, hxa⟩ : ∃ xa, rd_T29 l0_2 a1 = xa := ⟨_, rfl⟩
  obtain ⟨xb, hxb⟩ : ∃ xb, rd_T29 l0_2 a2 = xb := ⟨_, rfl⟩
  rw [hxa] at p0 p1 p2 p3 p4 A4
  rw [hxb] at s0 s1 s2 s3 s4 A4
  clear hxa hxb
  have PA := Aside0.mk (And.intro p0 (And.intro p1 (And.intro p2 (And.intro p3 (And.intro p4 (And.intro s0 (And.intro s1 (And.intro s2 (And.intro s3 s4)))))))))
  clear p0 p1 p2 p3 p4 s0 s1 s2 s3 s4
  go_enter Tryd.func6, Tryd.ntmps6
  go_wp2_with (first | (go_at_call 7; (with_reducible refine (spec_GrdOk.calls k a0_0 a0_1 (some ad) c0_2 l0_2 _ _ (Kd.C_below HR.out (below_alloc (below_alloc (Below.refl _ _) _) _)) HC.out A1.out).mono ?_); rintro e W ⟨rfl, hb⟩; have HG := Aside0.mk (blk_below (blk_alloc (blk_new w (.cells #[.int .i64 a0_0, .int .i64 a0_1, .slice (some ad) l0_2.length c0_2] 25)) (.cells (gcA 0 0 0 0 0) 29)) hb); have HO := Aside0.mk (blk_below (blk_new2 w (.cells #[.int .i64 a0_0, .int .i64 a0_1, .slice (some ad) l0_2.length c0_2] 25) (.cells (gcA 0 0 0 0 0) 29)) hb); have HB := Aside0.mk (below_step (below_alloc (below_alloc (Below.refl _ w) _) _) hb); clear hb; have q2 : W.cell? ⟨w.heap.size, 2, none⟩ = some (.slice (some ad) l0_2.length c0_2) := (blk_cell HG.out 2).trans rfl) | (go_at_call 16; (first | (with_reducible refine (spec_l1In.calls _ _ _ _ _ A2.out).mono ?_) | (with_reducible refine (spec_l1In.calls _ _ _ _ _ A3.out).mono ?_)); rintro e W' ⟨rfl, ⟨nd, rfl⟩⟩) | (refine wpList_put 29 _ _ rfl rfl (w.heap.size + 1) 0 rfl (.agg (gcA 0 0 0 0 0)) rfl 29 (gcA 0 0 0 0 0) (gcA 0 0 0 0 0) HO.out (by kernel_rfl) rfl rfl rfl (fun W9 hp => ?_); have HB := Aside0.mk (hp.below (by first | exact HB.out | exact pw_below_drewN HB.out _) (Nat.le_add_right _ 1)); have HO := Aside0.mk hp.blk; clear hp))
  go_upto_region 3 with fail
  go_cut [7] (fun s7 wx => ∃ C : Nat, s7 = .pointer (some ⟨C, 0, none⟩) ∧ w.heap.size + 2 ≤ C ∧ Aside0 (wx.heap[C]? = some (.cells (gcA x.f0 x.f1 x.f2 x.f3 x.f4) 29 (0, 0))) ∧ Aside0 (Below W.heap.size W wx))
  case first =>
    obtain ⟨p0, p1, p2, p3, p4, s0, s1, s2, s3, s4⟩ := PA.out
    replace p0 := (HB.out.cell (World.block_lt_of_cell? w _ p0)).trans p0
    replace p1 := (HB.out.cell (World.block_lt_of_cell? w _ p1)).trans p1
    replace p2 := (HB.out.cell (World.block_lt_of_cell? w _ p2)).trans p2
    replace p3 := (HB.out.cell (World.block_lt_of_cell? w _ p3)).trans p3
    replace p4 := (HB.out.cell (World.block_lt_of_cell? w _ p4)).trans p4
    replace s0 := (HB.out.cell (World.block_lt_of_cell? w _ s0)).trans s0
    replace s1 := (HB.out.cell (World.block_lt_of_cell? w _ s1)).trans s1
    replace s2 := (HB.out.cell (World.block_lt_of_cell? w _ s2)).trans s2
    replace s3 := (HB.out.cell (World.block_lt_of_cell? w _ s3)).trans s3
    replace s4 := (HB.out.cell (World.block_lt_of_cell? w _ s4)).trans s4
    go_region_held3 (fun w' => w'.cell? ⟨w.heap.size, 2, none⟩ = some (.slice (some ad) l0_2.length c0_2) ∧ w'.cell? (ad.add (a1.toNat * 5)) = some (.int .i64 xa.f0) ∧ w'.cell? ⟨(ad.add (a1.toNat * 5)).block, (ad.add (a1.toNat * 5)).off + 1, none⟩ = some (.int .i64 xa.f1) ∧ w'.cell? ⟨(ad.add (a1.toNat * 5)).block, (ad.add (a1.toNat * 5)).off + 2, none⟩ = some (.int .i64 xa.f2) ∧ w'.cell? ⟨(ad.add (a1.toNat * 5)).block, (ad.add (a1.toNat * 5)).off + 3, none⟩ = some (.int .i64 xa.f3) ∧ w'.cell? ⟨(ad.add (a1.toNat * 5)).block, (ad.add (a1.toNat * 5)).off + 4, none⟩ = some (.int .i64 xa.f4) ∧ w'.cell? (ad.add (a2.toNat * 5)) = some (.int .i64 xb.f0) ∧ w'.cell? ⟨(ad.add (a2.toNat * 5)).block, (ad.add (a2.toNat * 5)).off + 1, none⟩ = some (.int .i64 xb.f1) ∧ w'.cell? ⟨(ad.add (a2.toNat * 5)).block, (ad.add (a2.toNat * 5)).off + 2, none⟩ = some (.int .i64 xb.f2) ∧ w'.cell? ⟨(ad.add (a2.toNat * 5)).block, (ad.add (a2.toNat * 5)).off + 3, none⟩ = some (.int .i64 xb.f3) ∧ w'.cell? ⟨(ad.add (a2.toNat * 5)).block, (ad.add (a2.toNat * 5)).off + 4, none⟩ = some (.int .i64 xb.f4)) ((repeat' apply And.intro) <;> exact keepc (W := W) (by assumption) (by repeat (with_reducible first | exact Below.refl _ _ | apply below_alloc | apply pw_below_drewN | apply below_drew1 | (refine below_set ?_ (by simp)) | refine below_step ?_ hb2)))
      (first | (go_at_call 17; (with_reducible refine (spec_l10Span.calls _ _ _ _ _ _ _ _ _ _ _ _ _ _ _ _ A4.out).mono ?_); rintro e W2 ⟨rfl, hb2⟩; try (have nb : W2.heap[W.heap.size]? = some (.cells (gcA 0 0 0 0 0) 29 (0, 0)) := blk_below (first_block W _ _ (by rfl)) hb2; have nf := blk_frozen nb; obtain ⟨n0, n1, n2, n3, n4⟩ := gcA_cells nb; have f0 := nf 0; have f1 := nf 1; have f2 := nf 2; have f3 := nf 3; have f4 := nf 4; clear nf)))
    · go_wp2_with fail
      go_meet
      exact ⟨W2.heap.size, rfl, Nat.le_trans (blk_lt HO.out) hb2.size, ⟨blk_new W2 (.cells (gcA x.f0 x.f1 x.f2 x.f3 x.f4) 29)⟩, ⟨below_alloc (below_step (below_drew1 (pw_below_drewN (Below.refl _ W) _)) hb2) _⟩⟩
    · have hX0 : W2.heap[W.heap.size]? = some (.cells (gcA 0 0 0 0 0) 29 (0, 0)) := blk_below (first_block W _ _ (by rfl)) hb2
      have hb4 : Below W.heap.size W W2 := below_step (below_alloc (below_drew1 (pw_below_drewN (Below.refl _ W) _)) _) hb2
      go_wp2_with fail
      go_meet
      exact ⟨W.heap.size, rfl, blk_lt HO.out, ⟨blk_put (blk_put (blk_put (blk_put (blk_put hX0 0 (.int .i64 x.f0) rfl) 1 (.int .i64 x.f1) rfl) 2 (.int .i64 x.f2) rfl) 3 (.int .i64 x.f3) rfl) 4 (.int .i64 x.f4) rfl⟩, ⟨below_set (below_set (below_set (below_set (below_set hb4 (Nat.le_refl _)) (Nat.le_refl _)) (Nat.le_refl _)) (Nat.le_refl _)) (Nat.le_refl _)⟩⟩
  case rest =>
    obtain ⟨C, rfl, hC, HX, hb3⟩ := hcut
    replace HB := Aside0.mk (below_step HB.out hb3.out)
    replace HG := Aside0.mk (blk_below HG.out hb3.out)
    replace HO := Aside0.mk (blk_below HO.out hb3.out)
    clear hb3 PA q2
    go_wp2_with (refine wpList_put 3 _ _ rfl rfl C 4 rfl (.int .i64 0) rfl 29 (gcA x.f0 x.f1 x.f2 x.f3 x.f4) (gcA x.f0 x.f1 x.f2 x.f3 0) HX.out (by kernel_rfl) rfl rfl rfl (fun W9 hp => ?_); replace HG := Aside0.mk (hp.keep HG.out (by omega)); replace HO := Aside0.mk (hp.keep HO.out (by omega)); replace HB := Aside0.mk (hp.below HB.out (by omega)); replace HX := Aside0.mk hp.blk; clear hp)
    go_loopg [8] q (fun gg s8 wr => ∃ (q' : Nat) (n : Int) (y : S29), q' ≤ gg ∧ s8 = .int .i64 n ∧ Aside0 (spec_QryRange.l0 q' n a0_0 a0_1 l0_2 y.f0 y.f1 y.f2 y.f3 y.f4 = some (r1, r2, r3, r4, r5)) ∧ Aside0 (wr.heap[C]? = some (.cells (gcA y.f0 y.f1 y.f2 y.f3 y.f4) 29 (0, 0))) ∧ Aside0 (wr.heap[w.heap.size]? = some (.cells #[.int .i64 a0_0, .int .i64 a0_1, .slice (some ad) l0_2.length c0_2] 25 (0, 0))) ∧ Aside0 (wr.heap[w.heap.size + 1]? = some (.cells (gcA 0 0 0 0 0) 29 (0, 0))) ∧ Aside0 (Below w.heap.size w wr))
    case atStart => exact ⟨q, 0, ⟨x.f0, x.f1, x.f2, x.f3, 0⟩, Nat.le_refl _, rfl, A5, HX, HG, HO, HB⟩
    case round =>
      clear HX HG HO HB A5
      obtain ⟨q', n, y, hq, rfl, HL, HX, HG, HO, HB⟩ := hrel
      cases q' with
      | zero => exact absurd HL.out (by simp [spec_QryRange.l0])
      | succ q' =>
        have hl := HL.out
        clear HL
        simp only [spec_QryRange.l0] at hl
        have q2 : wr.cell? ⟨w.heap.size, 2, none⟩ = some (.slice (some ad) l0_2.length c0_2) := (blk_cell HG.out 2).trans rfl
        by_cases hn : n < (l0_2.length : Int)
        rotate_left
        · rw [if_neg hn] at hl
          simp only [Option.some.injEq, Prod.mk.injEq] at hl
          obtain ⟨rfl, rfl, rfl, rfl, rfl⟩ := hl
          obtain ⟨o0, o1, o2, o3, o4⟩ := gcA_cells HX.out
          go_wp2_with (refine wpList_put 29 _ _ rfl rfl (w.heap.size + 1) 0 rfl (.agg (gcA y.f0 y.f1 y.f2 y.f3 y.f4)) rfl 29 (gcA 0 0 0 0 0) (gcA y.f0 y.f1 y.f2 y.f3 y.f4) HO.out (by kernel_rfl) rfl rfl rfl (fun W9 hp => ?_); have HB := Aside0.mk (hp.below HB.out (Nat.le_add_right _ 1)); have HO := Aside0.mk hp.blk; clear hp)
          exact bodyPost_ret (results_cell_row rfl _ _ (w.heap.size + 1) 29 (gcA y.f0 y.f1 y.f2 y.f3 y.f4) (0, 0) _ rfl HO.out Tryd.underlying29 rfl (by kernel_rfl)) rfl ⟨rfl, HB.out⟩
        · rw [if_pos hn] at hl
          have AL := Aside0.mk hl
          clear hl
          go_wp2
          clear q2
          go_loopg [9] q' (fun gg s9 wr => ∃ (q2 : Nat) (i : Int) (y : S29), q2 ≤ gg ∧ q2 ≤ q' ∧ s9 = .int .i64 i ∧ Aside0 (spec_QryRange.l1 q2 n i a0_0 a0_1 l0_2 y.f0 y.f1 y.f2 y.f3 y.f4 = some (r1, r2, r3, r4, r5)) ∧ Aside0 (wr.heap[C]? = some (.cells (gcA y.f0 y.f1 y.f2 y.f3 y.f4) 29 (0, 0))) ∧ Aside0 (wr.heap[w.heap.size]? = some (.cells #[.int .i64 a0_0, .int .i64 a0_1, .slice (some ad) l0_2.length c0_2] 25 (0, 0))) ∧ Aside0 (wr.heap[w.heap.size + 1]? = some (.cells (gcA 0 0 0 0 0) 29 (0, 0))) ∧ Aside0 (Below w.heap.size w wr))
          case atStart => exact ⟨q', 0, y, Nat.le_refl _, Nat.le_refl _, rfl, AL, HX, HG, HO, HB⟩
          case round =>
            rename_i wr0 _ _ _ _
            clear HX HG HO HB AL
            obtain ⟨q2, i, y, hq2, hq3, rfl, HL, HX, HG, HO, HB⟩ := hrel
            have g2 : wr.cell? ⟨w.heap.size, 2, none⟩ = some (.slice (some ad) l0_2.length c0_2) := (blk_cell HG.out 2).trans rfl
            cases q2 with
            | zero => exact absurd HL.out (by simp [spec_QryRange.l1])
            | succ q2 =>
              have hl := HL.out
              clear HL
              simp only [spec_QryRange.l1] at hl
              by_cases hlt : i < (l0_2.length : Int)
              · rw [if_pos hlt] at hl
                by_cases h0 : 0 ≤ i
                · rw [if_pos h0, Option.bind_eq_some_iff] at hl
                  obtain ⟨t, hm, hl⟩ := hl
                  have AM := Aside0.mk hm
                  clear hm
                  rw [show wrap64 (i + 1) = i + 1 by unfold wrap64; omega] at hl
                  obtain ⟨ad2, e', p0, p1, p2, p3, p4⟩ := at_T29 (Kd.C_below HR.out HB.out) i h0 hlt
                  cases e'
                  obtain ⟨x, hx⟩ : ∃ x, rd_T29 l0_2 i = x := ⟨_, rfl⟩
                  rw [hx] at p0 p1 p2 p3 p4 AM hl
                  clear hx
                  obtain ⟨o0, o1, o2, o3, o4⟩ := gcA_cells HX.out
                  have HP := Aside0.mk (And.intro p0 (And.intro p1 (And.intro p2 (And.intro p3 p4))))
                  have HLT := Aside0.mk (And.intro h0 hlt)
                  go_wp2
                  cases t
                  · rw [if_neg (by decide)] at hl
                    have AL := Aside0.mk hl
                    clear hl
                    go_region_held3 (fun w' => w'.cell? ⟨C, 0, none⟩ = some (.int .i64 y.f0) ∧ w'.cell? ⟨C, 1, none⟩ = some (.int .i64 y.f1) ∧ w'.cell? ⟨C, 2, none⟩ = some (.int .i64 y.f2) ∧ w'.cell? ⟨C, 3, none⟩ = some (.int .i64 y.f3) ∧ w'.cell? ⟨C, 4, none⟩ = some (.int .i64 y.f4) ∧ w'.cell? ⟨w.heap.size, 2, none⟩ = some (.slice (some ad) l0_2.length c0_2) ∧ w'.cell? (ad.add (i.toNat * 5)) = some (.int .i64 x.f0) ∧ w'.cell? ⟨(ad.add (i.toNat * 5)).block, (ad.add (i.toNat * 5)).off + 1, none⟩ = some (.int .i64 x.f1) ∧ w'.cell? ⟨(ad.add (i.toNat * 5)).block, (ad.add (i.toNat * 5)).off + 2, none⟩ = some (.int .i64 x.f2) ∧ w'.cell? ⟨(ad.add (i.toNat * 5)).block, (ad.add (i.toNat * 5)).off + 3, none⟩ = some (.int .i64 x.f3) ∧ w'.cell? ⟨(ad.add (i.toNat * 5)).block, (ad.add (i.toNat * 5)).off + 4, none⟩ = some (.int .i64 x.f4)) ((repeat' apply And.intro) <;> exact keepc (W := wr) (by assumption) (by repeat (with_reducible first | exact Below.refl _ _ | apply pw_below_drewN | apply below_drew1 | refine below_step ?_ hb4))) (first | (go_at_call 18; (with_reducible refine (spec_l3Meets.calls _ _ _ _ _ _ _ _ _ _ _ _ AM.out).mono ?_); rintro e W4 ⟨rfl, hb4⟩))
                    replace hb4 : Below wr.heap.size wr W4 := below_step (below_drew1 (Below.refl _ wr)) hb4
                    replace HX := Aside0.mk (blk_below HX.out hb4)
                    replace HG := Aside0.mk (blk_below HG.out hb4)
                    replace HO := Aside0.mk (blk_below HO.out hb4)
                    replace HB := Aside0.mk (below_step HB.out hb4)
                    clear hb4
                    go_wp2
                    go_roundg q2
                    case measure => omega
                    case rel => exact ⟨q2, i + 1, y, Nat.le_refl _, by omega, rfl, AL, HX, HG, HO, HB⟩
                  · rw [if_pos rfl, Option.bind_eq_some_iff] at hl
                    obtain ⟨⟨z0, z1, z2, z3, z4⟩, hz, hl⟩ := hl
                    obtain ⟨z, hz'⟩ : ∃ z : S29, z = ⟨z0, z1, z2, z3, z4⟩ := ⟨_, rfl⟩
                    have AZ : Aside0 (spec_l10Span.f y.f0 y.f1 y.f2 y.f3 y.f4 x.f0 x.f1 x.f2 x.f3 x.f4 = some (z.f0, z.f1, z.f2, z.f3, z.f4)) := ⟨by rw [hz']; exact hz⟩
                    have AL : Aside0 (spec_QryRange.l1 q2 n (i + 1) a0_0 a0_1 l0_2 z.f0 z.f1 z.f2 z.f3 z.f4 = some (r1, r2, r3, r4, r5)) := ⟨by rw [hz']; exact hl⟩
                    clear hz hl hz'
                    go_region_held3 (fun w' => w'.cell? ⟨C, 0, none⟩ = some (.int .i64 y.f0) ∧ w'.cell? ⟨C, 1, none⟩ = some (.int .i64 y.f1) ∧ w'.cell? ⟨C, 2, none⟩ = some (.int .i64 y.f2) ∧ w'.cell? ⟨C, 3, none⟩ = some (.int .i64 y.f3) ∧ w'.cell? ⟨C, 4, none⟩ = some (.int .i64 y.f4) ∧ w'.cell? ⟨w.heap.size, 2, none⟩ = some (.slice (some ad) l0_2.length c0_2) ∧ w'.cell? (ad.add (i.toNat * 5)) = some (.int .i64 x.f0) ∧ w'.cell? ⟨(ad.add (i.toNat * 5)).block, (ad.add (i.toNat * 5)).off + 1, none⟩ = some (.int .i64 x.f1) ∧ w'.cell? ⟨(ad.add (i.toNat * 5)).block, (ad.add (i.toNat * 5)).off + 2, none⟩ = some (.int .i64 x.f2) ∧ w'.cell? ⟨(ad.add (i.toNat * 5)).block, (ad.add (i.toNat * 5)).off + 3, none⟩ = some (.int .i64 x.f3) ∧ w'.cell? ⟨(ad.add (i.toNat * 5)).block, (ad.add (i.toNat * 5)).off + 4, none⟩ = some (.int .i64 x.f4)) ((repeat' apply And.intro) <;> exact keepc (W := wr) (by assumption) (by repeat (with_reducible first | exact Below.refl _ _ | apply pw_below_drewN | apply below_drew1 | refine below_step ?_ hb4))) (first | (go_at_call 18; (with_reducible refine (spec_l3Meets.calls _ _ _ _ _ _ _ _ _ _ _ _ AM.out).mono ?_); rintro e W4 ⟨rfl, hb4⟩))
                    replace hb4 : Below wr.heap.size wr W4 := below_step (below_drew1 (Below.refl _ wr)) hb4
                    replace HX := Aside0.mk (blk_below HX.out hb4)
                    replace HG := Aside0.mk (blk_below HG.out hb4)
                    replace HO := Aside0.mk (blk_below HO.out hb4)
                    replace HB := Aside0.mk (below_step HB.out hb4)
                    replace HP := Aside0.mk (And.intro (keepc HP.out.1 hb4) (And.intro (keepc HP.out.2.1 hb4) (And.intro (keepc HP.out.2.2.1 hb4) (And.intro (keepc HP.out.2.2.2.1 hb4) (keepc HP.out.2.2.2.2 hb4)))))
                    clear hb4 p0 p1 p2 p3 p4 o0 o1 o2 o3 o4 g2
                    go_wp2
                    have hk0 := fun W : World => Below.refl W.heap.size W
                    have hH : 0 ≤ i ∧ i < (l0_2.length : Int) := HLT.out
                    have hGB : ∀ W W', sqG w C l0_2.length c0_2 a0_0 a0_1 ad (ad.add (i.toNat * 5)) y x W → Below W.heap.size W W' → sqG w C l0_2.length c0_2 a0_0 a0_1 ad (ad.add (i.toNat * 5)) y x W' := fun W W' h hb => h.below hb
                    have hG0 : sqG w C l0_2.length c0_2 a0_0 a0_1 ad (ad.add (i.toNat * 5)) y x W4 := ⟨HX.out, HG.out, HO.out, HB.out, HP.out⟩
                    clear HX HG HO HB HP
                    refine region_envL (T := spec_QryRangeB.T12) (B := spec_QryRangeB.B12) spec_QryRangeB.O12 spec_QryRangeB.L12 7 (fun j v _ => v = spec_QryRangeB.V w.heap.size l0_2.length c0_2 ad i y x z j)
                      (fun _ W => sqG w C l0_2.length c0_2 a0_0 a0_1 ad (ad.add (i.toNat * 5)) y x W) (fun W W' => Below W.heap.size W W')
                      (fun _ W => W.heap[C]? = some (.cells (gcA z.f0 z.f1 z.f2 z.f3 z.f4) 29 (0, 0)) ∧ W.heap[w.heap.size]? = some (.cells #[.int .i64 a0_0, .int .i64 a0_1, .slice (some ad) l0_2.length c0_2] 25 (0, 0)) ∧ W.heap[w.heap.size + 1]? = some (.cells (gcA 0 0 0 0 0) 29 (0, 0)) ∧ Below w.heap.size w W)
                      rfl spec_QryRangeB.tab12 spec_QryRangeB.bits12 spec_QryRangeB.base12 spec_QryRangeB.lof12 spec_QryRangeB.ents12 spec_QryRangeB.last12 (fun _ _ _ _ h _ => h) (hGB _ _ hG0 (below_drew1 (Below.refl _ _))) ?_ ?_ ?_
                    · refine alln_cons (EStep.pure hk0 fun b E a' W ha hG hP => ?_) ?_
                      · have s7 : a'.tmps[7]? = some (.pointer (some ⟨C, 0, none⟩)) := (slot_off ha rfl).trans rfl
                        obtain ⟨o0, o1, o2, o3, o4⟩ := gcA_cells hG.hx
                        exact ⟨_, .agg (gcA y.f0 y.f1 y.f2 y.f3 y.f4), rfl, rfl, by clear ha hG hP; go_simp; rfl, rfl, hG⟩
                      refine alln_cons (EStep.pure hk0 fun b E a' W ha hG hP => ?_) ?_
                      · have s3 : a'.tmps[3]? = some (.pointer (some ⟨w.heap.size, 0, none⟩)) := (slot_off ha rfl).trans rfl
                        exact ⟨_, .pointer (some ⟨w.heap.size, 2, none⟩), rfl, rfl, by clear ha hG hP; go_simp; try first | rfl | exact i64_w _, rfl, hG⟩
                      refine alln_cons (EStep.pure hk0 fun b E a' W ha hG hP => ?_) ?_
                      · have s66 : a'.tmps[66]? = some (.pointer (some ⟨w.heap.size, 2, none⟩)) := slotv ha (hP 1 rfl).1 rfl (hP 1 rfl).2
                        have hc : W.cell? ⟨w.heap.size, 2, none⟩ = some (.slice (some ad) l0_2.length c0_2) := (blk_cell hG.hg 2).trans rfl
                        exact ⟨_, .slice (some ad) l0_2.length c0_2, rfl, rfl, by clear ha hG hP; go_simp, rfl, hG⟩
                      refine alln_cons (EStep.pure hk0 fun b E a' W ha hG hP => ?_) ?_
                      · have s9 : a'.tmps[9]? = some (.int .i64 i) := (slot_off ha rfl).trans rfl
                        exact ⟨_, .int .i64 i, rfl, rfl, by clear ha hG hP; go_simp; try first | rfl | exact i64_w _, rfl, hG⟩
                      refine alln_cons (EStep.pure hk0 fun b E a' W ha hG hP => ?_) ?_
                      · have s67 : a'.tmps[67]? = some (.slice (some ad) l0_2.length c0_2) := slotv ha (hP 2 rfl).1 rfl (hP 2 rfl).2
                        have s68 : a'.tmps[68]? = some (.int .i64 i) := slotv ha (hP 3 rfl).1 rfl (hP 3 rfl).2
                        exact ⟨_, .pointer (some (ad.add (i.toNat * 5))), rfl, rfl, by clear ha hG hP; go_simp; try first | rfl | exact i64_w _, rfl, hG⟩
                      refine alln_cons (EStep.pure hk0 fun b E a' W ha hG hP => ?_) ?_
                      · have s69 : a'.tmps[69]? = some (.pointer (some (ad.add (i.toNat * 5)))) := slotv ha (hP 4 rfl).1 rfl (hP 4 rfl).2
                        obtain ⟨p0, p1, p2, p3, p4⟩ := hG.hp
                        exact ⟨_, .agg (gcA x.f0 x.f1 x.f2 x.f3 x.f4), rfl, rfl, by clear ha hG hP; go_simp; rfl, rfl, hG⟩
                      refine alln_cons (EStep.call Tryd.func17 (by kernel_rfl) rfl ⟨_, rfl, rfl, rfl⟩ fun b E a' W ha hG hP hoff hb => ⟨#[.agg (gcA y.f0 y.f1 y.f2 y.f3 y.f4), .agg (gcA x.f0 x.f1 x.f2 x.f3 x.f4)], ?_, ?_⟩) alln_last
                      · have s65 : a'.tmps[65]? = some (.agg (gcA y.f0 y.f1 y.f2 y.f3 y.f4)) := slotv ha (hP 0 rfl).1 rfl (hP 0 rfl).2
                        have s70 : a'.tmps[70]? = some (.agg (gcA x.f0 x.f1 x.f2 x.f3 x.f4)) := slotv ha (hP 5 rfl).1 rfl (hP 5 rfl).2
                        clear ha hG hP hoff hb
                        simp [Act.eval, Array.getD_eq_getD_getElem?, s65, s70]
                      · refine (spec_l10Span.calls _ _ _ _ _ _ _ _ _ _ _ _ _ _ _ W AZ.out).mono ?_
                        rintro _ W2 ⟨rfl, hd⟩
                        exact ⟨_, rfl, rfl, hd, hGB _ _ hG hd⟩
                    · intro b E a' W ha hG hP hb
                      have s7 : a'.tmps[7]? = some (.pointer (some ⟨C, 0, none⟩)) := (slot_off ha rfl).trans rfl
                      have s71 : a'.tmps[71]? = some (.agg (gcA z.f0 z.f1 z.f2 z.f3 z.f4)) := slotv ha (hP 6 rfl (by decide)).1 rfl (hP 6 rfl (by decide)).2
                      have hp := Put.setRow (cs := gcA z.f0 z.f1 z.f2 z.f3 z.f4) hG.hx
                      exact ⟨_, rfl, fun K hK => skip_ rfl rfl (exec_put 29 _ _ rfl C 0 (by simp [Act.eval, Array.getD_eq_getD_getElem?, s7]) (.agg (gcA z.f0 z.f1 z.f2 z.f3 z.f4)) (by simp [Act.eval, Array.getD_eq_getD_getElem?, s71]) 29 _ (gcA z.f0 z.f1 z.f2 z.f3 z.f4) hG.hx (by kernel_rfl) rfl rfl rfl) (hK.out undef _ ⟨hp.blk, hp.keep hG.hg (by omega), hp.keep hG.ho (by omega), hp.below hG.hb (by omega)⟩)⟩
                    · intro E b W hall hF
                      rw [putSel_all (fun x hx => hall x.1 (by revert x; decide))]
                      simp only [spec_QryRangeB.L12, List.foldl, Act.put, List.setIfInBounds_toArray, List.set_cons_zero, List.set_cons_succ]
                      clear hall
                      have HX := Aside0.mk hF.1
                      have HG := Aside0.mk hF.2.1
                      have HO := Aside0.mk hF.2.2.1
                      have HB := Aside0.mk hF.2.2.2
                      clear hF hGB hk0 hG0
                      go_wp2
                      go_roundg q2
                      case measure => omega
                      case rel => exact ⟨q2, i + 1, z, Nat.le_refl _, by omega, rfl, AL, HX, HG, HO, HB⟩
                · rw [if_neg h0] at hl
                  cases hl
              · rw [if_neg hlt] at hl
                have AL := Aside0.mk hl
                clear hl
                go_wp2
                go_roundg q2
                case measure => omega
                case rel => exact ⟨q2, wrap64 (n + 1), y, Nat.le_refl _, rfl, AL, HX, HG, HO, HB⟩

/-! ### impl_TxtOk: function 20 (by hand) -/
def impl_TxtOk.f (a0 : ByteArray) : Option Bool := if a0.size < 4294967281 then some (Txt.ppTxtOk a0) else none
set_option maxHeartbeats 2000000 in
set_option maxRecDepth 100000 in
theorem impl_TxtOk.calls (a0 : ByteArray) (r : Bool) (w : World) (hM : Txt.MLen w) (h : impl_TxtOk.f a0 = some r) :
    Calls Tryd.prog 20 #[.string a0] w fun e w' => e = .returned (.bool r) ∧ Below w.heap.size w w' := by
  unfold impl_TxtOk.f at h
  split at h
  · rename_i hs
    have hr := Option.some.inj h
    have HM := Aside0.mk hM
    have HS := Aside0.mk hs
    clear hM hs h
    by_cases h0 : a0.toList.isEmpty = true
    · have e0 : a0.toList.isEmpty = true := h0
      have er : Txt.ppTxtOk a0 = true := by unfold Txt.ppTxtOk; rw [e0]; rfl
      rw [er] at hr
      subst hr
      clear er h0
      go_enter Tryd.func20, Tryd.ntmps20
      go_wp2
      go_ret
      exact ⟨rfl, Below.refl _ _⟩
    · have e0 : a0.toList.isEmpty = false := Bool.eq_false_iff.2 h0
      have er : Txt.ppTxtOk a0 = ((Txt.ppWords a0).all Txt.ppWordOk && decide ((a0.size : Int) ≤ 30)) := by unfold Txt.ppTxtOk; rw [e0]; rfl
      rw [er] at hr
      clear er h0
      obtain ⟨L, hL⟩ : ∃ L, Txt.ppWords a0 = L := ⟨_, rfl⟩
      have hsp := Txt.split_sp a0 w HM.out HS.out
      have hsz : ∀ x ∈ L, x.size ≤ 9223372036854775807 := fun x hx => by
        have := Txt.ppWords_le a0 x (hL ▸ hx)
        have := HS.out
        omega
      have hln : L.length ≤ 4294967281 := by
        have := Txt.ppWords_len a0
        have := HS.out
        rw [hL] at *
        omega
      have HLN := Aside0.mk hln
      clear hln
      rw [hL] at hsp hr
      have HE := Aside0.mk hr
      clear hr
      have HSP := Aside0.mk hsp
      have HSZ := Aside0.mk hsz
      clear hsp hsz hL
      go_enter Tryd.func20, Tryd.ntmps20
      go_wp2_with (go_at_call 25; (with_reducible refine HSP.out.mono ?_); rintro e w' ⟨rfl, rfl⟩)
      go_loopg [10] L.length (fun gg v10 wr => ∃ kk : Nat, kk ≤ L.length ∧ L.length - kk ≤ gg ∧ v10 = .int .i64 kk ∧ Aside0 (Below w.heap.size w wr) ∧ Aside0 (wr.heap[w.heap.size]? = some (.cells (L.map Value.string).toArray 9 (0, 0))) ∧ Aside0 (∀ j (h : j < L.length), j < kk → Txt.ppWordOk L[j] = true))
      case atStart => exact ⟨0, Nat.zero_le _, by omega, rfl, ⟨below_alloc (Below.refl _ _) _⟩, ⟨blk_new _ _⟩, ⟨fun j _ hj => absurd hj (Nat.not_lt_zero _)⟩⟩
      case round =>
        obtain ⟨kk, hkk, hg, rfl, HB, BK, AA⟩ := hrel
        by_cases hlt : kk < L.length
        · have hltz : (kk : Int) < (L.length : Int) := by omega
          have hcell : wr.cell? ⟨w.heap.size, kk, none⟩ = some (.string L[kk]) := (blk_cell BK.out kk).trans (by simp [hlt])
          have hfz := blk_frozen BK.out kk
          have hsk := HSZ.out L[kk] (List.getElem_mem hlt)
          have htrim := fun W => Txt.trim_az L[kk] W hsk
          have HT := Aside0.mk htrim
          obtain ⟨y, hy⟩ : ∃ y, L[kk] = y := ⟨_, rfl⟩
          have HY := Aside0.mk hy
          rw [hy] at hcell HT
          clear hsk htrim hy
          obtain ⟨z, hz⟩ : ∃ z, Txt.ppRest y = z := ⟨_, rfl⟩
          rw [hz] at HT
          have HZ := Aside0.mk hz
          clear hz
          by_cases h1 : y.toList.isEmpty = true
          · have e1 : y.toList.isEmpty = true := h1
            have hno : (L.all Txt.ppWordOk && decide ((a0.size : Int) ≤ 30)) = false := by
              have : L.all Txt.ppWordOk = false := List.all_eq_false.2 ⟨L[kk], List.getElem_mem hlt, by rw [HY.out]; unfold Txt.ppWordOk; rw [e1]; simp⟩
              rw [this]; rfl
            have HNO := Aside0.mk hno
            clear hno h1
            go_wp2
            go_ret
            exact ⟨by rw [← HE.out, HNO.out]; rfl, HB.out⟩
          · have e1 : y.toList.isEmpty = false := Bool.eq_false_iff.2 h1
            clear h1
            by_cases h2 : z.toList.isEmpty = true
            · have e2 : z.toList.isEmpty = true := h2
              have hyes : Txt.ppWordOk L[kk] = true := by rw [HY.out]; unfold Txt.ppWordOk; rw [HZ.out, e1, e2]; rfl
              have HYES := Aside0.mk hyes
              clear hyes h2
              go_wp2_with (go_at_call 26; (with_reducible refine (HT.out _).mono ?_); rintro e w' ⟨rfl, hb⟩)
              go_roundg (L.length - (kk + 1))
              case measure => omega
              case rel =>
                refine ⟨kk + 1, by omega, by omega, (by have := HLN.out; show Value.int .i64 (wrap64 ((kk : Int) + 1)) = Value.int .i64 ((kk + 1 : Nat) : Int); congr 1; unfold wrap64; omega), ⟨below_step HB.out hb⟩, ⟨blk_below BK.out hb⟩, ⟨fun j h hj => ?_⟩⟩
                by_cases e : j = kk
                · subst e
                  exact HYES.out
                · exact AA.out j h (by omega)
            · have e2 : z.toList.isEmpty = false := Bool.eq_false_iff.2 h2
              have hno : (L.all Txt.ppWordOk && decide ((a0.size : Int) ≤ 30)) = false := by
                have : L.all Txt.ppWordOk = false := List.all_eq_false.2 ⟨L[kk], List.getElem_mem hlt, by rw [HY.out]; unfold Txt.ppWordOk; rw [HZ.out, e1, e2]; simp⟩
                rw [this]; rfl
              have HNO := Aside0.mk hno
              clear hno h2
              go_wp2_with (go_at_call 26; (with_reducible refine (HT.out _).mono ?_); rintro e w' ⟨rfl, hb⟩)
              go_ret
              exact ⟨by rw [← HE.out, HNO.out]; rfl, below_step HB.out hb⟩
        · have hltz : ¬ (kk : Int) < (L.length : Int) := by omega
          have hk : kk = L.length := by omega
          have hall : (L.all Txt.ppWordOk && decide ((a0.size : Int) ≤ 30)) = decide ((a0.size : Int) ≤ 30) := by
            have : L.all Txt.ppWordOk = true := List.all_eq_true.2 (fun x hx => by
              obtain ⟨j, hj, rfl⟩ := List.getElem_of_mem hx
              exact AA.out j hj (by omega))
            rw [this]; rfl
          have HALL := Aside0.mk hall
          clear hall
          go_wp2
          go_ret
          exact ⟨by rw [← HE.out, HALL.out]; rfl, HB.out⟩
  · exact absurd h (by simp)

/-! ### laws_pwOk: function 8 -/
def laws_pwOk.f  : Option (Bool) := (impl_TxtOk.f (⟨#[97, 98, 32, 99]⟩ : ByteArray)).bind fun t367 => (some t367)
set_option maxHeartbeats 8000000 in
set_option maxRecDepth 100000 in
theorem laws_pwOk.calls  (r : Bool) (w : World) (hM : Txt.MLen w) (h : laws_pwOk.f  = some r) :
    Calls Tryd.prog 8 #[] w fun e w' => e = .returned (.bool r) ∧ Below w.heap.size w w' := by
  have HM := Aside0.mk hM
  clear hM
  have HB := Aside0.mk (Below.refl w.heap.size w)
  have H : ((impl_TxtOk.f (⟨#[97, 98, 32, 99]⟩ : ByteArray)).bind fun t367 => (some t367)) = some r := h
  clear h
  replace H := Option.bind_eq_some_iff.mp H
  obtain ⟨t367, A10, H⟩ := H
  replace H : (some t367) = some r := H
  have A1 := Aside0.mk A10
  clear A10
  obtain rfl := Option.some.inj H
  go_enter Tryd.func8, Tryd.ntmps8
  go_wp2_with (first | ((with_reducible refine gate_callee (f := 20) rfl ?_); refine goesL_ (some 1) rfl rfl Tryd.func20 (by kernel_rfl) rfl #[.string (⟨#[97, 98, 32, 99]⟩ : ByteArray)] rfl (by (try simp only [List.map_toArray, List.map_cons, List.map_nil]); first | done | rfl | (simp only [List.length_drop, List.length_take]; rfl)) ?_; (with_reducible refine (impl_TxtOk.calls (⟨#[97, 98, 32, 99]⟩ : ByteArray) t367 _ ?sideM A1.out).mono ?_); (case sideM => repeat (first | exact HM.out | exact (Txt.MLen_below HM.out HB.out) | (with_reducible refine Txt.MLen_alloc ?_ _) | (with_reducible refine Txt.MLen_drewN ?_ _) | (with_reducible refine Txt.MLen_drew ?_))); rintro e w2 ⟨rfl, hb⟩; refine ⟨_, rfl, ?_⟩; have n0_ := Aside0.mk (below_step (by repeat (first | (with_reducible first | exact HB.out | apply below_alloc | apply pw_below_drewN | apply below_drew1) | exact HB.out)) hb); clear HB; have HB := n0_; clear n0_; (try clear hb); (try clear hb2); (try clear hk); (try clear hi)))
  go_ret
  exact ⟨by first | rfl | (simp [IntKind.wrap_i64, wrap64]; done) | (simp [errW_none, errW_some] <;> rfl) | (simp [*, errW_none, errW_some] <;> rfl), by repeat (first | (with_reducible first | exact HB.out | apply below_alloc | apply pw_below_drewN | apply below_drew1) | exact HB.out)⟩

/-! ### laws_FnQryRange: function 3 (by hand) -/
/-- A cell that a range has whole. -/
def laws_FnQryRange.All (r0 r1 r2 r3 : Int) (c : S29) : Prop := (c.f0 < wrap64 (r0 + r2) ∧ r0 < wrap64 (c.f0 + c.f2) ∧ c.f1 < wrap64 (r1 + r3) ∧ r1 < wrap64 (c.f1 + c.f3)) ∧ c.f0 ≥ r0 ∧ wrap64 (c.f0 + c.f2) ≤ wrap64 (r0 + r2) ∧ c.f1 ≥ r1 ∧ wrap64 (c.f1 + c.f3) ≤ wrap64 (r1 + r3)
/-- A cell that a range has nothing of. -/
def laws_FnQryRange.Non (r0 r1 r2 r3 : Int) (c : S29) : Prop := ¬ (c.f0 < wrap64 (r0 + r2) ∧ r0 < wrap64 (c.f0 + c.f2) ∧ c.f1 < wrap64 (r1 + r3) ∧ r1 < wrap64 (c.f1 + c.f3)) ∧ ¬ (c.f0 ≥ r0 ∧ wrap64 (c.f0 + c.f2) ≤ wrap64 (r0 + r2) ∧ c.f1 ≥ r1 ∧ wrap64 (c.f1 + c.f3) ≤ wrap64 (r1 + r3))
instance (r0 r1 r2 r3 : Int) (c : S29) : Decidable (laws_FnQryRange.All r0 r1 r2 r3 c) := by unfold laws_FnQryRange.All; infer_instance
instance (r0 r1 r2 r3 : Int) (c : S29) : Decidable (laws_FnQryRange.Non r0 r1 r2 r3 c) := by unfold laws_FnQryRange.Non; infer_instance
/-- The law's rounds over the cells; no answer where one falls. -/
def laws_FnQryRange.l0 : Nat → Int → Int → Int → Int → Int → List (S29) → Int → Int → Int → Int → Option Bool
  | 0, _, _, _, _, _, _, _, _, _, _ => none
  | k + 1, x, y, i, a, b, l, r0, r1, r2, r3 =>
    if i < (l.length : Int) then (if 0 ≤ i then (if laws_FnQryRange.All r0 r1 r2 r3 (rd_T29 l i) then laws_FnQryRange.l0 k x y (wrap64 (i + 1)) a b l r0 r1 r2 r3
      else (if laws_FnQryRange.Non r0 r1 r2 r3 (rd_T29 l i) ∧ i ≠ x ∧ i ≠ y then laws_FnQryRange.l0 k x y (wrap64 (i + 1)) a b l r0 r1 r2 r3 else none)) else none)
    else ((impl_QryRange.f k a b l x x).bind fun o => if (0 ≤ x ∧ x < (l.length : Int)) ∧ (o.1 = (rd_T29 l x).f0 ∧ o.2.1 = (rd_T29 l x).f1 ∧ o.2.2.1 = (rd_T29 l x).f2 ∧ o.2.2.2.1 = (rd_T29 l x).f3 ∧ o.2.2.2.2 = 0) ∧ r0 ≥ 0 ∧ wrap64 (r0 + r2) ≤ a ∧ wrap64 (r1 + r3) ≤ b then some true else none)
/-- The law: no answer where it falls. -/
def laws_FnQryRange.f (k : Nat) (l0 : List Int) : Option Bool :=
  if (l0.length : Int) > 1048576 then some true else (spec_DrawQryRange.f k l0).bind fun g => (impl_QryRange.f k g.1 g.2.1 g.2.2.1 g.2.2.2.1 g.2.2.2.2).bind fun u => (spec_QryRange.f k g.1 g.2.1 g.2.2.1 g.2.2.2.1 g.2.2.2.2).bind fun v => (impl_QryRange.f k g.1 g.2.1 g.2.2.1 g.2.2.2.2 g.2.2.2.1).bind fun z =>
    if u = v ∧ u = z then ((spec_GrdOk.f k g.1 g.2.1 g.2.2.1).bind fun t => if t = true ∧ (0 ≤ g.2.2.2.1 ∧ g.2.2.2.1 < (g.2.2.1.length : Int)) ∧ 0 ≤ g.2.2.2.2 ∧ g.2.2.2.2 < (g.2.2.1.length : Int) then laws_FnQryRange.l0 k g.2.2.2.1 g.2.2.2.2 0 g.1 g.2.1 g.2.2.1 u.1 u.2.1 u.2.2.1 u.2.2.2.1 else if u = (0, 0, 0, 0, 0) then laws_pwOk.f else none) else none

theorem laws_FnQryRange.parts {k : Nat} {l0 : List Int} {r : Bool} (hn : ¬ (l0.length : Int) > 1048576) (h : laws_FnQryRange.f k l0 = some r) :
    ∃ (a b : Int) (l : List S29) (x y : Int) (u : S29), Aside0 (spec_DrawQryRange.f k l0 = some (a, b, l, x, y)) ∧ Aside0 (impl_QryRange.f k a b l x y = some (u.f0, u.f1, u.f2, u.f3, u.f4)) ∧ Aside0 (spec_QryRange.f k a b l x y = some (u.f0, u.f1, u.f2, u.f3, u.f4)) ∧ Aside0 (impl_QryRange.f k a b l y x = some (u.f0, u.f1, u.f2, u.f3, u.f4)) ∧
    ((Aside0 (laws_pwOk.f = some r) ∧ (u.f0 = 0 ∧ u.f1 = 0 ∧ u.f2 = 0 ∧ u.f3 = 0 ∧ u.f4 = 0) ∧ (Aside0 (spec_GrdOk.f k a b l = some false) ∨ (Aside0 (spec_GrdOk.f k a b l = some true) ∧ (x < 0 ∨ (0 ≤ x ∧ (l.length : Int) ≤ x) ∨ (0 ≤ x ∧ x < (l.length : Int) ∧ y < 0) ∨ (0 ≤ x ∧ x < (l.length : Int) ∧ 0 ≤ y ∧ (l.length : Int) ≤ y))))) ∨
     (Aside0 (spec_GrdOk.f k a b l = some true) ∧ (0 ≤ x ∧ x < (l.length : Int) ∧ 0 ≤ y ∧ y < (l.length : Int)) ∧ Aside0 (laws_FnQryRange.l0 k x y 0 a b l u.f0 u.f1 u.f2 u.f3 = some r))) := by
  unfold laws_FnQryRange.f at h
  rw [if_neg hn] at h
  obtain ⟨⟨a, b, l, x, y⟩, h1, g1⟩ := Option.bind_eq_some_iff.1 h
  clear h
  obtain ⟨⟨u0, u1, u2, u3, u4⟩, h2, g2⟩ := Option.bind_eq_some_iff.1 g1
  clear g1
  obtain ⟨v, h3, g3⟩ := Option.bind_eq_some_iff.1 g2
  clear g2
  obtain ⟨z, h4, g4⟩ := Option.bind_eq_some_iff.1 g3
  clear g3
  by_cases e0 : (u0, u1, u2, u3, u4) = v ∧ (u0, u1, u2, u3, u4) = z
  · rw [if_pos e0] at g4
    obtain ⟨rfl, rfl⟩ := e0
    obtain ⟨t, h5, g5⟩ := Option.bind_eq_some_iff.1 g4
    clear g4
    refine ⟨a, b, l, x, y, ⟨u0, u1, u2, u3, u4⟩, ⟨h1⟩, ⟨h2⟩, ⟨h3⟩, ⟨h4⟩, ?_⟩
    by_cases e : t = true ∧ (0 ≤ x ∧ x < (l.length : Int)) ∧ 0 ≤ y ∧ y < (l.length : Int)
    · rw [if_pos e] at g5
      obtain ⟨rfl, ⟨e1, e2⟩, e3, e4⟩ := e
      exact .inr ⟨⟨h5⟩, ⟨e1, e2, e3, e4⟩, ⟨g5⟩⟩
    · rw [if_neg e] at g5
      split at g5
      · rename_i e2
        simp only [Prod.mk.injEq] at e2
        refine .inl ⟨⟨g5⟩, e2, ?_⟩
        cases t
        · exact .inl ⟨h5⟩
        · refine .inr ⟨⟨h5⟩, ?_⟩
          simp only [true_and] at e
          omega
      · cases g5
  · rw [if_neg e0] at g4
    cases g4
theorem laws_FnQryRange.step {k : Nat} {x y i a b r0 r1 r2 r3 : Int} {l : List S29} {r : Bool} (hi : i < (l.length : Int)) (h : laws_FnQryRange.l0 (k + 1) x y i a b l r0 r1 r2 r3 = some r) :
    0 ≤ i ∧ Aside0 (laws_FnQryRange.l0 k x y (wrap64 (i + 1)) a b l r0 r1 r2 r3 = some r) ∧ ∃ c, c = rd_T29 l i ∧ (laws_FnQryRange.All r0 r1 r2 r3 c ∨ (laws_FnQryRange.Non r0 r1 r2 r3 c ∧ i ≠ x ∧ i ≠ y)) := by
  simp only [laws_FnQryRange.l0] at h
  rw [if_pos hi] at h
  split at h
  · split at h
    · exact ⟨by assumption, ⟨h⟩, _, rfl, .inl (by assumption)⟩
    · split at h
      · exact ⟨by assumption, ⟨h⟩, _, rfl, .inr (by assumption)⟩
      · cases h
  · cases h
theorem laws_FnQryRange.last {k : Nat} {x y i a b r0 r1 r2 r3 : Int} {l : List S29} {r : Bool} (hi : ¬ i < (l.length : Int)) (h : laws_FnQryRange.l0 (k + 1) x y i a b l r0 r1 r2 r3 = some r) :
    r = true ∧ (0 ≤ x ∧ x < (l.length : Int)) ∧ Aside0 (impl_QryRange.f k a b l x x = some ((rd_T29 l x).f0, (rd_T29 l x).f1, (rd_T29 l x).f2, (rd_T29 l x).f3, 0)) ∧ r0 ≥ 0 ∧ wrap64 (r0 + r2) ≤ a ∧ wrap64 (r1 + r3) ≤ b := by
  simp only [laws_FnQryRange.l0] at h
  rw [if_neg hi] at h
  obtain ⟨⟨o0, o1, o2, o3, o4⟩, h1, h⟩ := Option.bind_eq_some_iff.1 h
  split at h
  · rename_i e
    obtain ⟨e1, ⟨rfl, rfl, rfl, rfl, rfl⟩, e3⟩ := e
    exact ⟨(Option.some.inj h).symm, e1, ⟨h1⟩, e3⟩
  · cases h
/-- Which test of four falls first. -/
theorem laws_FnQryRange.first {p q s t : Prop} (h : ¬ (p ∧ q ∧ s ∧ t)) : ¬ p ∨ (p ∧ ¬ q) ∨ (p ∧ q ∧ ¬ s) ∨ (p ∧ q ∧ s ∧ ¬ t) := by
  by_cases hp : p <;> by_cases hq : q <;> by_cases hs : s <;> simp_all
set_option maxHeartbeats 4000000 in
set_option maxRecDepth 100000 in
theorem laws_FnQryRange.calls (k : Nat) (A0 : Option Addr) (c0 : Nat) (l0 : List Int) (r : Bool) (w : World) (hr0 : Kd.C (Kd.int .u8) w A0 l0.length l0) (hc0 : l0.length ≤ c0) (hM : Txt.MLen w) (h : laws_FnQryRange.f k l0 = some r) :
    Calls Tryd.prog 3 #[.slice A0 l0.length c0] w fun e w' => e = .returned (.bool r) ∧ Below w.heap.size w w' := by
  have HM := Aside0.mk hM
  clear hM
  have HR := Aside0.mk hr0
  have HC := Aside0.mk hc0
  clear hr0 hc0
  have HB := Aside0.mk (Below.refl w.heap.size w)
  have hu1 := Tryd.underlying25
  have hu2 := Tryd.underlying29
  by_cases hbig : (l0.length : Int) > 1048576
  · have hf : r = true := by unfold laws_FnQryRange.f at h; rw [if_pos hbig] at h; exact (Option.some.inj h).symm
    subst hf
    clear h
    have b0 : decide (1048576 < (l0.length : Int)) = true := decide_eq_true hbig
    have b1 : decide (1048576 < l0.length) = true := decide_eq_true (by omega)
    clear hbig
    go_enter Tryd.func3, Tryd.ntmps3
    go_wp2
    go_ret
    exact ⟨rfl, by (repeat (with_reducible first | exact Below.refl _ _ | exact HB.out | apply below_alloc | apply pw_below_drewN | apply below_drew1))⟩
  obtain ⟨ga, gb, l, x, y, u, A1, A2, A3, A4, hs⟩ := laws_FnQryRange.parts hbig h
  have b0 : decide (1048576 < (l0.length : Int)) = false := decide_eq_false hbig
  have b1 : decide (1048576 < l0.length) = false := decide_eq_false (by omega)
  clear hbig h
  have HS := Aside0.mk hs
  clear hs
  go_enter Tryd.func3, Tryd.ntmps3
  go_wp2_with (first | (go_at_call 4; (with_reducible refine (spec_DrawQryRange.calls k _ _ l0 ga gb l x y _ (by repeat (first | exact HR.out | (with_reducible refine Kd.C_alloc ?_ _) | (with_reducible refine Kd.C_drewN ?_ _) | (with_reducible refine Kd.C_drew ?_))) HC.out A1.out).mono ?_); rintro e W1 ⟨v, rfl, hv, hb⟩; obtain ⟨AD, cc, rfl⟩ := Kd.R_slice hv; have HK := Aside0.mk (Kd.R_reads' hv).2.2; have HL := Aside0.mk (Kd.R_reads' hv).2.1; have n1 : Aside0 (Below w.heap.size w W1) := ⟨below_step (by (repeat (with_reducible first | exact HB.out | apply below_alloc | apply pw_below_drewN | apply below_drew1))) hb⟩; clear HB; have HB := n1; clear n1 hb hv) | (go_at_call 5; (with_reducible refine (impl_QryRange.calls k ga gb AD cc l x y _ _ _ _ _ _ (by repeat (first | exact HK.out | (with_reducible refine Kd.C_alloc ?_ _) | (with_reducible refine Kd.C_drewN ?_ _) | (with_reducible refine Kd.C_drew ?_))) HL.out A2.out).mono ?_); rintro e W2 ⟨rfl, hb⟩; have HG := Aside0.mk (blk_below (by (with_reducible repeat (first | refine blk_drewN ?_ _ | refine blk_drew ?_)); exact blk_new W1 (.cells #[.int .i64 ga, .int .i64 gb, .slice AD l.length cc] 25)) hb); replace HK := Aside0.mk (Kd.C_below HK.out (below_step (by repeat (with_reducible first | exact Below.refl _ _ | apply below_alloc | apply pw_below_drewN | apply below_drew1)) hb)); have n1 : Aside0 (Below w.heap.size w W2) := ⟨below_step (by (repeat (with_reducible first | exact HB.out | apply below_alloc | apply pw_below_drewN | apply below_drew1))) hb⟩; clear HB; have HB := n1; clear n1 hb))
  refine wp_letter (fun W0 => W0.heap[W1.heap.size]? = some (.cells #[.int .i64 ga, .int .i64 gb, .slice AD l.length cc] 25 (0, 0)) ∧ W0.heap[W2.heap.size]? = some (.cells (gcA u.f0 u.f1 u.f2 u.f3 u.f4) 29 (0, 0)) ∧ Kd.C k29 W0 AD l.length l ∧ Below w.heap.size w W0) ⟨blk_alloc HG.out _, blk_new W2 _, Kd.C_alloc HK.out _, below_alloc HB.out _⟩ ?_
  rintro W0 ⟨hG, hX, hK, hB⟩
  clear HG HK HB
  have HG := Aside0.mk hG
  have HX := Aside0.mk hX
  have HK := Aside0.mk hK
  have HB := Aside0.mk hB
  clear hG hX hK hB
  generalize W1.heap.size = G at HG ⊢
  generalize W2.heap.size = X at HX ⊢
  have xg0 := Ext.cell (w := W0) (p := ⟨G, 0, none⟩) ((blk_cell HG.out 0).trans rfl)
  have xg1 := Ext.cell (w := W0) (p := ⟨G, 1, none⟩) ((blk_cell HG.out 1).trans rfl)
  have xg2 := Ext.cell (w := W0) (p := ⟨G, 2, none⟩) ((blk_cell HG.out 2).trans rfl)
  obtain ⟨o0, o1, o2, o3, o4⟩ := gcA_cells HX.out
  have xo0 := Ext.cell o0
  have xo1 := Ext.cell o1
  have xo2 := Ext.cell o2
  have xo3 := Ext.cell o3
  have xo4 := Ext.cell o4
  clear o0 o1 o2 o3 o4
  have FK := Aside0.mk (fun (v : Ext W0) => Kd.C_below HK.out v.below)
  refine region_ext (by kernel_rfl) (by kernel_rfl) ?_
  repeat (go_big_quiet_step (first | (go_at_call 6; exact Calls.ext (spec_QryRange.calls k ga gb AD cc l x y _ _ _ _ _ _ (FK.out _) HL.out A3.out)) | (go_at_call 5; exact Calls.ext (impl_QryRange.calls k ga gb AD cc l y x _ _ _ _ _ _ (FK.out _) HL.out A4.out))))
  refine wpQuiet_nil ?_
  rintro W3 ⟨⟨W3x, hb3⟩, rfl⟩
  clear xg0 xg1 xg2 xo0 xo1 xo2 xo3 xo4 FK
  replace HG := Aside0.mk (blk_below HG.out hb3)
  replace HX := Aside0.mk (blk_below HX.out hb3)
  replace HK := Aside0.mk (Kd.C_below HK.out hb3)
  replace HB := Aside0.mk (below_step HB.out hb3)
  clear hb3
  have q0 : W3.cell? ⟨G, 0, none⟩ = some (.int .i64 ga) := (blk_cell HG.out 0).trans rfl
  have q1 : W3.cell? ⟨G, 1, none⟩ = some (.int .i64 gb) := (blk_cell HG.out 1).trans rfl
  have q2 : W3.cell? ⟨G, 2, none⟩ = some (.slice AD l.length cc) := (blk_cell HG.out 2).trans rfl
  rcases HS.out with ⟨AP, ⟨z0, z1, z2, z3, z4⟩, A5 | ⟨A5, hx⟩⟩ | ⟨A5, ⟨hx0, hx1, hy0, hy1⟩, AL⟩
  · clear HS
    go_upto_region 8 with (first | (go_at_call 7; (with_reducible refine (spec_GrdOk.calls k ga gb AD cc l _ _ HK.out HL.out A5.out).mono ?_); rintro e W4 ⟨rfl, hb4⟩; clear q0 q1 q2; replace HG := Aside0.mk (blk_below HG.out hb4); replace HX := Aside0.mk (blk_below HX.out hb4); replace HK := Aside0.mk (Kd.C_below HK.out hb4); replace HB := Aside0.mk (below_step HB.out hb4); clear hb4; have q2 : W4.cell? ⟨G, 2, none⟩ = some (.slice AD l.length cc) := (blk_cell HG.out 2).trans rfl))
    rw [z0, z1, z2, z3, z4] at HX
    obtain ⟨o0, o1, o2, o3, o4⟩ := gcA_cells HX.out
    go_wp2_with (go_at_call 8; (with_reducible refine (laws_pwOk.calls r _ (Txt.MLen_below HM.out HB.out) AP.out).mono ?_); rintro e W5 ⟨rfl, hb5⟩; replace HB := Aside0.mk (below_step HB.out hb5); clear hb5)
    go_ret
    exact ⟨rfl, HB.out⟩
  · clear HS
    rcases hx with hx | ⟨hx0, hx⟩ | ⟨hx0, hx1, hx⟩ | ⟨hx0, hx1, hy0, hx⟩
    · have d1 : decide (x < 0) = true := decide_eq_true hx
      go_upto_region 8 with (first | (go_at_call 7; (with_reducible refine (spec_GrdOk.calls k ga gb AD cc l _ _ HK.out HL.out A5.out).mono ?_); rintro e W4 ⟨rfl, hb4⟩; clear q0 q1 q2; replace HG := Aside0.mk (blk_below HG.out hb4); replace HX := Aside0.mk (blk_below HX.out hb4); replace HK := Aside0.mk (Kd.C_below HK.out hb4); replace HB := Aside0.mk (below_step HB.out hb4); clear hb4; have q2 : W4.cell? ⟨G, 2, none⟩ = some (.slice AD l.length cc) := (blk_cell HG.out 2).trans rfl))
      rw [z0, z1, z2, z3, z4] at HX
      obtain ⟨o0, o1, o2, o3, o4⟩ := gcA_cells HX.out
      go_wp2_with (go_at_call 8; (with_reducible refine (laws_pwOk.calls r _ (Txt.MLen_below HM.out HB.out) AP.out).mono ?_); rintro e W5 ⟨rfl, hb5⟩; replace HB := Aside0.mk (below_step HB.out hb5); clear hb5)
      go_ret
      exact ⟨rfl, HB.out⟩
    · have d1 : decide (x < 0) = false := decide_eq_false (by omega)
      have d2 : decide ((l.length : Int) ≤ x) = true := decide_eq_true hx
      go_upto_region 8 with (first | (go_at_call 7; (with_reducible refine (spec_GrdOk.calls k ga gb AD cc l _ _ HK.out HL.out A5.out).mono ?_); rintro e W4 ⟨rfl, hb4⟩; clear q0 q1 q2; replace HG := Aside0.mk (blk_below HG.out hb4); replace HX := Aside0.mk (blk_below HX.out hb4); replace HK := Aside0.mk (Kd.C_below HK.out hb4); replace HB := Aside0.mk (below_step HB.out hb4); clear hb4; have q2 : W4.cell? ⟨G, 2, none⟩ = some (.slice AD l.length cc) := (blk_cell HG.out 2).trans rfl))
      rw [z0, z1, z2, z3, z4] at HX
      obtain ⟨o0, o1, o2, o3, o4⟩ := gcA_cells HX.out
      go_wp2_with (go_at_call 8; (with_reducible refine (laws_pwOk.calls r _ (Txt.MLen_below HM.out HB.out) AP.out).mono ?_); rintro e W5 ⟨rfl, hb5⟩; replace HB := Aside0.mk (below_step HB.out hb5); clear hb5)
      go_ret
      exact ⟨rfl, HB.out⟩
    · have d1 : decide (x < 0) = false := decide_eq_false (by omega)
      have d2 : decide ((l.length : Int) ≤ x) = false := decide_eq_false (by omega)
      have d3 : decide (y < 0) = true := decide_eq_true hx
      go_upto_region 8 with (first | (go_at_call 7; (with_reducible refine (spec_GrdOk.calls k ga gb AD cc l _ _ HK.out HL.out A5.out).mono ?_); rintro e W4 ⟨rfl, hb4⟩; clear q0 q1 q2; replace HG := Aside0.mk (blk_below HG.out hb4); replace HX := Aside0.mk (blk_below HX.out hb4); replace HK := Aside0.mk (Kd.C_below HK.out hb4); replace HB := Aside0.mk (below_step HB.out hb4); clear hb4; have q2 : W4.cell? ⟨G, 2, none⟩ = some (.slice AD l.length cc) := (blk_cell HG.out 2).trans rfl))
      rw [z0, z1, z2, z3, z4] at HX
      obtain ⟨o0, o1, o2, o3, o4⟩ := gcA_cells HX.out
      go_wp2_with (go_at_call 8; (with_reducible refine (laws_pwOk.calls r _ (Txt.MLen_below HM.out HB.out) AP.out).mono ?_); rintro e W5 ⟨rfl, hb5⟩; replace HB := Aside0.mk (below_step HB.out hb5); clear hb5)
      go_ret
      exact ⟨rfl, HB.out⟩
    · have d1 : decide (x < 0) = false := decide_eq_false (by omega)
      have d2 : decide ((l.length : Int) ≤ x) = false := decide_eq_false (by omega)
      have d3 : decide (y < 0) = false := decide_eq_false (by omega)
      have d4 : decide ((l.length : Int) ≤ y) = true := decide_eq_true hx
      go_upto_region 8 with (first | (go_at_call 7; (with_reducible refine (spec_GrdOk.calls k ga gb AD cc l _ _ HK.out HL.out A5.out).mono ?_); rintro e W4 ⟨rfl, hb4⟩; clear q0 q1 q2; replace HG := Aside0.mk (blk_below HG.out hb4); replace HX := Aside0.mk (blk_below HX.out hb4); replace HK := Aside0.mk (Kd.C_below HK.out hb4); replace HB := Aside0.mk (below_step HB.out hb4); clear hb4; have q2 : W4.cell? ⟨G, 2, none⟩ = some (.slice AD l.length cc) := (blk_cell HG.out 2).trans rfl))
      rw [z0, z1, z2, z3, z4] at HX
      obtain ⟨o0, o1, o2, o3, o4⟩ := gcA_cells HX.out
      go_wp2_with (go_at_call 8; (with_reducible refine (laws_pwOk.calls r _ (Txt.MLen_below HM.out HB.out) AP.out).mono ?_); rintro e W5 ⟨rfl, hb5⟩; replace HB := Aside0.mk (below_step HB.out hb5); clear hb5)
      go_ret
      exact ⟨rfl, HB.out⟩
  clear HS
  have d1 : decide (x < 0) = false := decide_eq_false (by omega)
  have d2 : decide ((l.length : Int) ≤ x) = false := decide_eq_false (by omega)
  have d3 : decide (y < 0) = false := decide_eq_false (by omega)
  have d4 : decide ((l.length : Int) ≤ y) = false := decide_eq_false (by omega)
  go_wp2_with (first | (go_at_call 7; (with_reducible refine (spec_GrdOk.calls k ga gb AD cc l _ _ HK.out HL.out A5.out).mono ?_); rintro e W4 ⟨rfl, hb4⟩; clear q0 q1 q2; replace HG := Aside0.mk (blk_below HG.out hb4); replace HX := Aside0.mk (blk_below HX.out hb4); replace HK := Aside0.mk (Kd.C_below HK.out hb4); replace HB := Aside0.mk (below_step HB.out hb4); clear hb4; have q2 : W4.cell? ⟨G, 2, none⟩ = some (.slice AD l.length cc) := (blk_cell HG.out 2).trans rfl) | (go_at_call 8; (with_reducible refine (laws_pwOk.calls r _ (Txt.MLen_below HM.out HB.out) AP.out).mono ?_); rintro e W5 ⟨rfl, hb5⟩; replace HB := Aside0.mk (below_step HB.out hb5); clear hb5))
  clear d1 d2 d3 d4
  go_loopg [7] k (fun gg s7 wr => ∃ (q' : Nat) (i : Int), q' ≤ gg ∧ s7 = .int .i64 i ∧ Aside0 (laws_FnQryRange.l0 q' x y i ga gb l u.f0 u.f1 u.f2 u.f3 = some r) ∧ Aside0 (wr.heap[G]? = some (.cells #[.int .i64 ga, .int .i64 gb, .slice AD l.length cc] 25 (0, 0))) ∧ Aside0 (wr.heap[X]? = some (.cells (gcA u.f0 u.f1 u.f2 u.f3 u.f4) 29 (0, 0))) ∧ Aside0 (Kd.C k29 wr AD l.length l) ∧ Aside0 (Below w.heap.size w wr))
  case atStart => exact ⟨k, 0, Nat.le_refl _, rfl, AL, HG, HX, HK, HB⟩
  case round =>
    clear HG HX HK HB AL
    obtain ⟨q', i, hq, rfl, HL2, HG, HX, HK, HB⟩ := hrel
    have q0 : wr.cell? ⟨G, 0, none⟩ = some (.int .i64 ga) := (blk_cell HG.out 0).trans rfl
    have q1 : wr.cell? ⟨G, 1, none⟩ = some (.int .i64 gb) := (blk_cell HG.out 1).trans rfl
    have q2 : wr.cell? ⟨G, 2, none⟩ = some (.slice AD l.length cc) := (blk_cell HG.out 2).trans rfl
    cases q' with
    | zero => exact absurd HL2.out (by simp [laws_FnQryRange.l0])
    | succ q' =>
      by_cases hlt : i < (l.length : Int)
      · obtain ⟨h0, AL, c, hc, hs⟩ := laws_FnQryRange.step hlt HL2.out
        clear HL2
        obtain ⟨ad, rfl, p0, p1, p2, p3, p4⟩ := at_T29 HK.out i h0 hlt
        rw [← hc] at p0 p1 p2 p3 p4
        clear hc
        have hl1 : (l.length : Int) ≤ 9223372036854775807 := by have := HK.out.2.1; omega
        rw [show wrap64 (i + 1) = i + 1 by unfold wrap64; omega] at AL
        go_upto_region 13 with fail
        refine wp_letter (fun W0 => W0.heap[wr.heap.size]? = some (.cells (gcA c.f0 c.f1 c.f2 c.f3 c.f4) 29 (0, 0)) ∧ W0.heap[G]? = some (.cells #[.int .i64 ga, .int .i64 gb, .slice (some ad) l.length cc] 25 (0, 0)) ∧ W0.heap[X]? = some (.cells (gcA u.f0 u.f1 u.f2 u.f3 u.f4) 29 (0, 0)) ∧ Kd.C k29 W0 (some ad) l.length l ∧ Below w.heap.size w W0) ⟨blk_new wr _, blk_alloc HG.out _, blk_alloc HX.out _, Kd.C_alloc HK.out _, below_alloc HB.out _⟩ ?_
        rintro W6 ⟨hN, hG, hX, hK, hB⟩
        clear q0 q1 q2 p0 p1 p2 p3 p4 HG HX HK HB
        have HN := Aside0.mk hN
        have HG := Aside0.mk hG
        have HX := Aside0.mk hX
        have HK := Aside0.mk hK
        have HB := Aside0.mk hB
        clear hN hG hX hK hB
        obtain ⟨n0, n1, n2, n3, n4⟩ := gcA_cells HN.out
        obtain ⟨o0, o1, o2, o3, o4⟩ := gcA_cells HX.out
        rcases hs with ⟨⟨t1, t2, t3, t4⟩, s1, s2, s3, s4⟩ | ⟨⟨hn1, hn2⟩, hix, hiy⟩
        · have d1 : decide (c.f0 < wrap64 (u.f0 + u.f2)) = true := decide_eq_true t1
          have d2 : decide (u.f0 < wrap64 (c.f0 + c.f2)) = true := decide_eq_true t2
          have d3 : decide (c.f1 < wrap64 (u.f1 + u.f3)) = true := decide_eq_true t3
          have d4 : decide (u.f1 < wrap64 (c.f1 + c.f3)) = true := decide_eq_true t4
          have d5 : decide (u.f0 ≤ c.f0) = true := decide_eq_true s1
          have d6 : decide (wrap64 (c.f0 + c.f2) ≤ wrap64 (u.f0 + u.f2)) = true := decide_eq_true s2
          have d7 : decide (u.f1 ≤ c.f1) = true := decide_eq_true s3
          have d8 : decide (wrap64 (c.f1 + c.f3) ≤ wrap64 (u.f1 + u.f3)) = true := decide_eq_true s4
          clear t1 t2 t3 t4 s1 s2 s3 s4
          rcases Decidable.em (i = x) with e | e
          · have d9 : decide (i = x) = true := decide_eq_true e
            go_wp2
            go_roundg q'
            case measure => omega
            case rel => exact ⟨q', i + 1, Nat.le_refl _, (by first | rfl | rw [e] | rw [e']), AL, HG, HX, HK, HB⟩
          · have d9 : decide (i = x) = false := decide_eq_false e
            rcases Decidable.em (i = y) with e' | e'
            · have d10 : decide (i = y) = true := decide_eq_true e'
              go_wp2
              go_roundg q'
              case measure => omega
              case rel => exact ⟨q', i + 1, Nat.le_refl _, (by first | rfl | rw [e] | rw [e']), AL, HG, HX, HK, HB⟩
            · have d10 : decide (i = y) = false := decide_eq_false e'
              go_wp2
              go_roundg q'
              case measure => omega
              case rel => exact ⟨q', i + 1, Nat.le_refl _, (by first | rfl | rw [e] | rw [e']), AL, HG, HX, HK, HB⟩
        · have d9 : decide (i = x) = false := decide_eq_false hix
          have d10 : decide (i = y) = false := decide_eq_false hiy
          go_cut [9] (fun s9 wx => s9 = .bool false ∧ Aside0 (W6 = wx))
          case first =>
            rcases laws_FnQryRange.first hn1 with e | ⟨e1, e⟩ | ⟨e1, e2, e⟩ | ⟨e1, e2, e3, e⟩
            · have d1 : decide (c.f0 < wrap64 (u.f0 + u.f2)) = false := decide_eq_false e
              go_wp2
              go_meet
              exact ⟨rfl, ⟨rfl⟩⟩
            · have d1 : decide (c.f0 < wrap64 (u.f0 + u.f2)) = true := decide_eq_true e1
              have d2 : decide (u.f0 < wrap64 (c.f0 + c.f2)) = false := decide_eq_false e
              go_wp2
              go_meet
              exact ⟨rfl, ⟨rfl⟩⟩
            · have d1 : decide (c.f0 < wrap64 (u.f0 + u.f2)) = true := decide_eq_true e1
              have d2 : decide (u.f0 < wrap64 (c.f0 + c.f2)) = true := decide_eq_true e2
              have d3 : decide (c.f1 < wrap64 (u.f1 + u.f3)) = false := decide_eq_false e
              go_wp2
              go_meet
              exact ⟨rfl, ⟨rfl⟩⟩
            · have d1 : decide (c.f0 < wrap64 (u.f0 + u.f2)) = true := decide_eq_true e1
              have d2 : decide (u.f0 < wrap64 (c.f0 + c.f2)) = true := decide_eq_true e2
              have d3 : decide (c.f1 < wrap64 (u.f1 + u.f3)) = true := decide_eq_true e3
              have d4 : decide (u.f1 < wrap64 (c.f1 + c.f3)) = false := decide_eq_false e
              go_wp2
              go_meet
              exact ⟨rfl, ⟨rfl⟩⟩
          case rest =>
            obtain ⟨rfl, hw⟩ := hcut
            obtain rfl := hw.out
            clear hw hn1
            go_upto_region 14 with fail
            go_cut [10] (fun s10 wx => s10 = .bool false ∧ Aside0 (W6 = wx))
            case first =>
              rcases laws_FnQryRange.first hn2 with e | ⟨e1, e⟩ | ⟨e1, e2, e⟩ | ⟨e1, e2, e3, e⟩
              · have d5 : decide (u.f0 ≤ c.f0) = false := decide_eq_false e
                go_wp2
                go_meet
                exact ⟨rfl, ⟨rfl⟩⟩
              · have d5 : decide (u.f0 ≤ c.f0) = true := decide_eq_true e1
                have d6 : decide (wrap64 (c.f0 + c.f2) ≤ wrap64 (u.f0 + u.f2)) = false := decide_eq_false e
                go_wp2
                go_meet
                exact ⟨rfl, ⟨rfl⟩⟩
              · have d5 : decide (u.f0 ≤ c.f0) = true := decide_eq_true e1
                have d6 : decide (wrap64 (c.f0 + c.f2) ≤ wrap64 (u.f0 + u.f2)) = true := decide_eq_true e2
                have d7 : decide (u.f1 ≤ c.f1) = false := decide_eq_false e
                go_wp2
                go_meet
                exact ⟨rfl, ⟨rfl⟩⟩
              · have d5 : decide (u.f0 ≤ c.f0) = true := decide_eq_true e1
                have d6 : decide (wrap64 (c.f0 + c.f2) ≤ wrap64 (u.f0 + u.f2)) = true := decide_eq_true e2
                have d7 : decide (u.f1 ≤ c.f1) = true := decide_eq_true e3
                have d8 : decide (wrap64 (c.f1 + c.f3) ≤ wrap64 (u.f1 + u.f3)) = false := decide_eq_false e
                go_wp2
                go_meet
                exact ⟨rfl, ⟨rfl⟩⟩
            case rest =>
              obtain ⟨rfl, hw⟩ := hcut
              obtain rfl := hw.out
              clear hw hn2
              go_wp2
              go_roundg q'
              case measure => omega
              case rel => exact ⟨q', i + 1, Nat.le_refl _, (by first | rfl | rw [e] | rw [e']), AL, HG, HX, HK, HB⟩
      · obtain ⟨rfl, ⟨hx0, hx1⟩, AQ, e1, e2, e3⟩ := laws_FnQryRange.last hlt HL2.out
        clear HL2
        obtain ⟨c, hc⟩ : ∃ c, rd_T29 l x = c := ⟨_, rfl⟩
        rw [hc] at AQ
        have d1 : decide (0 ≤ u.f0) = true := decide_eq_true e1
        have d2 : decide (wrap64 (u.f0 + u.f2) ≤ ga) = true := decide_eq_true e2
        have d3 : decide (wrap64 (u.f1 + u.f3) ≤ gb) = true := decide_eq_true e3
        clear e1 e2 e3
        go_upto_region 18 with (go_at_call 5; (with_reducible refine (impl_QryRange.calls q' ga gb AD cc l x x _ _ _ _ _ _ HK.out HL.out AQ.out).mono ?_); rintro e W5 ⟨rfl, hb5⟩; clear q0 q1 q2; replace HG := Aside0.mk (blk_below HG.out hb5); replace HX := Aside0.mk (blk_below HX.out hb5); replace HK := Aside0.mk (Kd.C_below HK.out hb5); replace HB := Aside0.mk (below_step HB.out hb5); clear hb5)
        refine wp_letter (fun W0 => W0.heap[W5.heap.size]? = some (.cells (gcA c.f0 c.f1 c.f2 c.f3 0) 29 (0, 0)) ∧ W0.heap[G]? = some (.cells #[.int .i64 ga, .int .i64 gb, .slice AD l.length cc] 25 (0, 0)) ∧ W0.heap[X]? = some (.cells (gcA u.f0 u.f1 u.f2 u.f3 u.f4) 29 (0, 0)) ∧ Kd.C k29 W0 AD l.length l ∧ Below w.heap.size w W0) ⟨blk_new W5 _, blk_alloc HG.out _, blk_alloc HX.out _, Kd.C_alloc HK.out _, below_alloc HB.out _⟩ ?_
        rintro W7 ⟨hO, hG, hX, hK, hB⟩
        clear HG HX HK HB AQ
        generalize W5.heap.size = N at hO ⊢
        obtain ⟨ad, rfl, p0, p1, p2, p3, p4⟩ := at_T29 hK x hx0 hx1
        rw [hc] at p0 p1 p2 p3 p4
        clear hc hK
        have q2 : W7.cell? ⟨G, 2, none⟩ = some (.slice (some ad) l.length cc) := (blk_cell hG 2).trans rfl
        have HS := Aside0.mk (And.intro hO (And.intro hG (And.intro hX hB)))
        clear hO hG hX hB
        go_upto_region 19 with fail
        refine wp_letter (fun W0 => W0.heap[W7.heap.size]? = some (.cells (gcA c.f0 c.f1 c.f2 c.f3 c.f4) 29 (0, 0)) ∧ W0.heap[N]? = some (.cells (gcA c.f0 c.f1 c.f2 c.f3 0) 29 (0, 0)) ∧ W0.heap[G]? = some (.cells #[.int .i64 ga, .int .i64 gb, .slice (some ad) l.length cc] 25 (0, 0)) ∧ W0.heap[X]? = some (.cells (gcA u.f0 u.f1 u.f2 u.f3 u.f4) 29 (0, 0)) ∧ Below w.heap.size w W0 ∧ (N < W7.heap.size ∧ G < W7.heap.size ∧ X < W7.heap.size ∧ w.heap.size ≤ W7.heap.size)) ⟨blk_new W7 _, blk_alloc HS.out.1 _, blk_alloc HS.out.2.1 _, blk_alloc HS.out.2.2.1 _, below_alloc HS.out.2.2.2 _, blk_lt HS.out.1, blk_lt HS.out.2.1, blk_lt HS.out.2.2.1, HS.out.2.2.2.size⟩ ?_
        rintro W8 ⟨hP, hO, hG, hX, hB, hlt1, hlt2, hlt3, hlt4⟩
        clear HS p0 p1 p2 p3 p4 q2
        generalize W7.heap.size = M at hP hlt1 hlt2 hlt3 hlt4 ⊢
        have HP := Aside0.mk hP
        have HO := Aside0.mk hO
        have HG := Aside0.mk hG
        have HX := Aside0.mk hX
        have HB := Aside0.mk hB
        clear hP hO hG hX hB
        go_upto_region 20 with (refine wpList_put 3 _ _ rfl rfl M 4 rfl (.int .i64 0) rfl 29 (gcA c.f0 c.f1 c.f2 c.f3 c.f4) (gcA c.f0 c.f1 c.f2 c.f3 0) HP.out (by kernel_rfl) rfl rfl rfl (fun W9 hp => ?_); replace HG := Aside0.mk (hp.keep HG.out (by omega)); replace HX := Aside0.mk (hp.keep HX.out (by omega)); replace HO := Aside0.mk (hp.keep HO.out (by omega)); replace HB := Aside0.mk (hp.below HB.out (by omega)); replace HP := Aside0.mk hp.blk; clear hp)
        have q0 : W9.cell? ⟨G, 0, none⟩ = some (.int .i64 ga) := (blk_cell HG.out 0).trans rfl
        have q1 : W9.cell? ⟨G, 1, none⟩ = some (.int .i64 gb) := (blk_cell HG.out 1).trans rfl
        obtain ⟨n0, n1, n2, n3, n4⟩ := gcA_cells HP.out
        obtain ⟨m0, m1, m2, m3, m4⟩ := gcA_cells HO.out
        obtain ⟨o0, o1, o2, o3, o4⟩ := gcA_cells HX.out
        go_wp2
        go_ret
        exact ⟨rfl, HB.out⟩
def laws_FnQryRange.Pure : Prop := ∀ (l0 : List Int), l0.length ≤ maxLen → l0.length * 1 ≤ 140737488351232 → (∀ x ∈ l0, (Lit.int .u8 x).wf = true) → ∃ k, laws_FnQryRange.f k l0 = some true


end Go.Proofs.YtalnklnfiopaoabDoor.Q
