-- Told by a program of this session (uprint.py, ulay.py).
import Derived.Test.YtaihfkjfbjcmhabDoorQ0
import Derived.Test.YtaihfkjfbjcmhabDoorReg
import Derived.Test.YtaihfkjfbjcmhabDoorQimplin
namespace Go.Proofs.YtaihfkjfbjcmhabDoor.Q
open Go.RowKit Go.Proofs.YtaihfkjfbjcmhabDoorW.PrintWords Go.Proofs.YtaihfkjfbjcmhabDoorW.PrintLast Go.Proofs.YtaihfkjfbjcmhabDoorW.PrintMore Go.Proofs.YtaihfkjfbjcmhabDoor.Reg Go.Proofs.YtaihfkjfbjcmhabDoor.Box
attribute [local go_sem] max2_int min2_int max_two min_two max_three min_three max_four min_four
set_option linter.unusedVariables false
set_option linter.unusedSimpArgs false

/-! ### spec_l20Brd: function 40 -/
mutual
def spec_l20Brd.j1 : Nat → Int → List Int → Int → Int → Int → Option (Int × Int × Int)
  | 0, _, _, _, _, _ => none
  | k + 1, x1, x1000, x1001, x117000, x117001 => (spec_l20Rd_pick.f k x1000 x1001 x1).bind fun bt125 => (if bt125.1 = 0 then ((spec_l20Rd_pick.f k x1000 bt125.2 2).bind fun bt127 => (if bt127.1 = 0 then ((some (([(-1), 5, 1] : List Int) : List Int)).bind fun y129 => ((spec_l20Rd_pick.f k x1000 bt127.2 3).bind fun bt132 => (if 0 ≤ bt132.1 then (if bt132.1 < (y129.length : Int) then (some (rd y129 bt132.1, x117001, bt132.2)) else (none)) else (none)))) else ((some (([(-1), 4, 0, 1] : List Int) : List Int)).bind fun y135 => ((spec_l20Rd_pick.f k x1000 bt127.2 4).bind fun bt138 => (if 0 ≤ bt138.1 then (if bt138.1 < (y135.length : Int) then (some (x117000, rd y135 bt138.1, bt138.2)) else (none)) else (none)))))) else (some (x117000, x117001, bt125.2)))
def spec_l20Brd.j0 : Nat → Int → Int → Bool → List Int → Int → Int → Int → Option (Int × Int × Int)
  | 0, _, _, _, _, _, _, _ => none
  | k + 1, x1, x8, x9, x1000, x1001, x117000, x117001 => if x9 = true then ((spec_l20Rd_pick.f k x1000 x1001 3).bind fun bt119 => ((spec_l20Rd_pick.f k x1000 bt119.2 3).bind fun bt121 => (spec_l20Brd.j1 k x1 x1000 bt121.2 (wrap64 (1 + bt119.1)) (wrap64 (1 + bt121.1))))) else (if x8 = 2 then ((spec_l20Rd_pick.f k x1000 x1001 3).bind fun bt123 => (if bt123.1 = 0 then (spec_l20Brd.j1 k x1 x1000 bt123.2 4 x117001) else (spec_l20Brd.j1 k x1 x1000 bt123.2 x117000 x117001))) else (spec_l20Brd.j1 k x1 x1000 x1001 x117000 x117001))
end
def spec_l20Brd.f (k : Nat) (s0_0 : List Int) (s0_1 : Int) (a1 : Int) : Option (Int × Int × Int) := (spec_l20Rd_pick.f k s0_0 s0_1 4).bind fun bt117 => (if bt117.1 = 0 then (spec_l20Brd.j0 k a1 bt117.1 (bt117.1 == 0) s0_0 bt117.2 0 0) else (spec_l20Brd.j0 k a1 bt117.1 (bt117.1 == 1) s0_0 bt117.2 0 0))
theorem spec_l20Brd.mono_l : ∀ k, (∀ y0 y1 y2 y3 y4, LeO (spec_l20Brd.j1 k y0 y1 y2 y3 y4) (spec_l20Brd.j1 (k + 1) y0 y1 y2 y3 y4)) ∧ (∀ y0 y1 y2 y3 y4 y5 y6, LeO (spec_l20Brd.j0 k y0 y1 y2 y3 y4 y5 y6) (spec_l20Brd.j0 (k + 1) y0 y1 y2 y3 y4 y5 y6))
  | 0 => ⟨fun _ _ _ _ _ r h => by simp [spec_l20Brd.j1] at h, fun _ _ _ _ _ _ _ r h => by simp [spec_l20Brd.j0] at h⟩
  | k + 1 => by
    obtain ⟨ih0, ih1⟩ := spec_l20Brd.mono_l k
    refine ⟨?_, ?_⟩
    · intro y0 y1 y2 y3 y4
      unfold spec_l20Brd.j1
      repeat' first
      | (with_reducible exact ih0 _ _ _ _ _)
      | (with_reducible exact ih1 _ _ _ _ _ _ _)
      | (with_reducible exact spec_l20Rd_pick.mono _ _ _ _)
      | (with_reducible exact LeO.refl _)
      | (with_reducible exact LeO.none _)
      | (with_reducible refine LeO.ite ?_ ?_)
      | (with_reducible refine LeO.bind ?_ (fun _ => ?_))
      | exact ih0 _ _ _ _ _
      | exact ih1 _ _ _ _ _ _ _
      | exact spec_l20Rd_pick.mono _ _ _ _
      | exact LeO.none _
      | refine LeO.ite ?_ ?_
      | refine LeO.bind ?_ (fun _ => ?_)
    · intro y0 y1 y2 y3 y4 y5 y6
      unfold spec_l20Brd.j0
      repeat' first
      | (with_reducible exact ih0 _ _ _ _ _)
      | (with_reducible exact ih1 _ _ _ _ _ _ _)
      | (with_reducible exact spec_l20Rd_pick.mono _ _ _ _)
      | (with_reducible exact LeO.refl _)
      | (with_reducible exact LeO.none _)
      | (with_reducible refine LeO.ite ?_ ?_)
      | (with_reducible refine LeO.bind ?_ (fun _ => ?_))
      | exact ih0 _ _ _ _ _
      | exact ih1 _ _ _ _ _ _ _
      | exact spec_l20Rd_pick.mono _ _ _ _
      | exact LeO.none _
      | refine LeO.ite ?_ ?_
      | refine LeO.bind ?_ (fun _ => ?_)
theorem spec_l20Brd.mono : ∀ a0 a1 a2 k, LeO (spec_l20Brd.f k a0 a1 a2) (spec_l20Brd.f (k + 1) a0 a1 a2) := by
  intro a0 a1 a2 k
  obtain ⟨ih0, ih1⟩ := spec_l20Brd.mono_l k
  unfold spec_l20Brd.f
  repeat' first
      | (with_reducible exact ih0 _ _ _ _ _)
      | (with_reducible exact ih1 _ _ _ _ _ _ _)
      | (with_reducible exact spec_l20Rd_pick.mono _ _ _ _)
      | (with_reducible exact LeO.refl _)
      | (with_reducible exact LeO.none _)
      | (with_reducible refine LeO.ite ?_ ?_)
      | (with_reducible refine LeO.bind ?_ (fun _ => ?_))
      | exact ih0 _ _ _ _ _
      | exact ih1 _ _ _ _ _ _ _
      | exact spec_l20Rd_pick.mono _ _ _ _
      | exact LeO.none _
      | refine LeO.ite ?_ ?_
      | refine LeO.bind ?_ (fun _ => ?_)
set_option maxHeartbeats 8000000 in
set_option maxRecDepth 100000 in
theorem spec_l20Brd.calls (k : Nat) (g : Nat) (s0_0 : List Int) (s0_1 : Int) (a1 : Int) (r1 : Int) (r2 : Int) (r3 : Int) (w0 w : World) (hI : IsS68 w0 w g s0_0 s0_1) (hB : Below w0.heap.size w0 w) (h : spec_l20Brd.f k s0_0 s0_1 a1 = some (r1, r2, r3)) :
    Calls Tryd.prog 40 #[.pointer (some ⟨g, 0, none⟩), .int .i64 a1] w fun e w' => e = .returned (.agg #[.int .i64 r1, .int .i64 r2]) ∧ IsS68 w0 w' g s0_0 r3 ∧ Below w0.heap.size w0 w' ∧ KeepBut w w' g none := by
  have hu28 := Tryd.underlying28
  have HI0 := Aside0.mk hI
  have HK := Aside0.mk (KeepBut.refl w g none)
  have HL := Aside0.mk hB.size
  clear hI
  have HW0 := Aside0.mk hB.size
  have HB := Aside0.mk hB
  clear hB
  have H : ((spec_l20Rd_pick.f k s0_0 s0_1 4).bind fun bt117 => (if bt117.1 = 0 then (spec_l20Brd.j0 k a1 bt117.1 (bt117.1 == 0) s0_0 bt117.2 0 0) else (spec_l20Brd.j0 k a1 bt117.1 (bt117.1 == 1) s0_0 bt117.2 0 0))) = some (r1, r2, r3) := h
  clear h
  replace H := Option.bind_eq_some_iff.mp H
  obtain ⟨⟨t117, t118⟩, A30, H⟩ := H
  replace H : (if t117 = 0 then (spec_l20Brd.j0 k a1 t117 (t117 == 0) s0_0 t118 0 0) else (spec_l20Brd.j0 k a1 t117 (t117 == 1) s0_0 t118 0 0)) = some (r1, r2, r3) := H
  have A3 := Aside0.mk A30
  clear A30
  have HC4 := Aside0.mk H
  clear H
  go_enter Tryd.func40, Tryd.ntmps40
  go_upto_block 0 with (first | ((with_reducible refine gate_dst (N := 4) rfl ?_); refine box_event ?hg (N := 4) ?hd (cs := #[.int .i64 0, .int .i64 0]) (t := 28) ?hr ?_; (case hd => rfl); (case hg => rfl); (case hr => first | (go_simp; done) | (go_simp; rfl)); intro gb115 hg w5 hbox hb; have n0_ := Aside0.mk (IsS68.below (by repeat (first | (with_reducible first | exact HI0.out | apply IsS68.alloc | apply IsS68.drewN | apply IsS68.drew | apply IsS68.set_1) | exact HI0.out)) hb); have n1_ := Aside0.mk (KeepBut.trans (by repeat (first | (with_reducible first | exact HK.out | apply KeepBut.set_ | apply keep_drewN | apply keep_drew | apply keep_alloc) | exact HK.out)) (KeepBut.of_below hb g none) (.inl rfl)); have n2_ := Aside0.mk (below_step (by repeat (first | (with_reducible first | exact HB.out | apply below_alloc | apply pw_below_drewN | apply below_drew1 | refine below_set ?_ (IsS68.ge HI0.out)) | exact HB.out)) hb); have n3_ := Aside0.mk (hbox); have n4_ := Aside0.mk ((by rw [hg]; exact (keep_size (w := w) (g := g) (row := none) (by repeat (first | (with_reducible first | exact HK.out | apply KeepBut.set_ | apply keep_drewN | apply keep_drew | apply keep_alloc) | exact HK.out))) : w.heap.size ≤ gb115)); have n5_ := Aside0.mk ((Nat.le_trans HW0.out (by rw [hg]; exact (keep_size (w := w) (g := g) (row := none) (by repeat (first | (with_reducible first | exact HK.out | apply KeepBut.set_ | apply keep_drewN | apply keep_drew | apply keep_alloc) | exact HK.out))) : w.heap.size ≤ gb115) : w0.heap.size ≤ gb115)); have n6_ := Aside0.mk ((by rw [hg]; exact Nat.ne_of_lt (IsS68.lt (show IsS68 w0 _ g s0_0 s0_1 from by repeat (first | (with_reducible first | exact HI0.out | apply IsS68.alloc | apply IsS68.drewN | apply IsS68.drew | apply IsS68.set_1) | exact HI0.out))) : g ≠ gb115)); have n7_ := Aside0.mk ((by rw [hg]; exact Nat.ne_of_gt (IsS68.lt (show IsS68 w0 _ g s0_0 s0_1 from by repeat (first | (with_reducible first | exact HI0.out | apply IsS68.alloc | apply IsS68.drewN | apply IsS68.drew | apply IsS68.set_1) | exact HI0.out))) : gb115 ≠ g)); clear HI0; clear HK; clear HB; have HI0 := n0_; have HK := n1_; have HB := n2_; have BK115 := n3_; have GW115 := n4_; have GE115 := n5_; have NB0_115 := n6_; have NB115_0 := n7_; clear n0_ n1_ n2_ n3_ n4_ n5_ n6_ n7_; clear hb hbox hg) | ((with_reducible refine gate_dst (N := 5) rfl ?_); refine box_event ?hg (N := 5) ?hd (cs := #[.int .i64 0, .int .i64 0]) (t := 28) ?hr ?_; (case hd => rfl); (case hg => rfl); (case hr => first | (go_simp; done) | (go_simp; rfl)); intro gb116 hg w6 hbox hb; have n0_ := Aside0.mk (IsS68.below (by repeat (first | (with_reducible first | exact HI0.out | apply IsS68.alloc | apply IsS68.drewN | apply IsS68.drew | apply IsS68.set_1 | refine IsS68.far ?_ NB0_115.out _) | exact HI0.out)) hb); have n1_ := Aside0.mk (blk_below (g := gb115) (o := .cells #[.int .i64 0, .int .i64 0] 28 (0, 0)) (by (with_reducible repeat (first | refine blk_drewN ?_ _ | refine blk_drew ?_ | refine blk_alloc ?_ _)); exact BK115.out) hb); have n2_ := Aside0.mk (KeepBut.trans (by repeat (first | (with_reducible first | exact HK.out | apply KeepBut.set_ | apply keep_drewN | apply keep_drew | apply keep_alloc | refine keep_far ?_ GW115.out _) | exact HK.out)) (KeepBut.of_below hb g none) (.inl rfl)); have n3_ := Aside0.mk (below_step (by repeat (first | (with_reducible first | exact HB.out | apply below_alloc | apply pw_below_drewN | apply below_drew1 | refine below_set ?_ (IsS68.ge HI0.out) | refine below_set ?_ GE115.out) | exact HB.out)) hb); have n4_ := Aside0.mk (hbox); have n5_ := Aside0.mk ((by rw [hg]; exact (keep_size (w := w) (g := g) (row := none) (by repeat (first | (with_reducible first | exact HK.out | apply KeepBut.set_ | apply keep_drewN | apply keep_drew | apply keep_alloc | refine keep_far ?_ GW115.out _) | exact HK.out))) : w.heap.size ≤ gb116)); have n6_ := Aside0.mk ((Nat.le_trans HW0.out (by rw [hg]; exact (keep_size (w := w) (g := g) (row := none) (by repeat (first | (with_reducible first | exact HK.out | apply KeepBut.set_ | apply keep_drewN | apply keep_drew | apply keep_alloc | refine keep_far ?_ GW115.out _) | exact HK.out))) : w.heap.size ≤ gb116) : w0.heap.size ≤ gb116)); have n7_ := Aside0.mk ((by rw [hg]; exact Nat.ne_of_lt (blk_lt (g := gb115) (o := .cells #[.int .i64 0, .int .i64 0] 28 (0, 0)) (by (with_reducible repeat (first | refine blk_drewN ?_ _ | refine blk_drew ?_ | refine blk_alloc ?_ _)); exact BK115.out)) : gb115 ≠ gb116)); have n8_ := Aside0.mk ((by rw [hg]; exact Nat.ne_of_gt (blk_lt (g := gb115) (o := .cells #[.int .i64 0, .int .i64 0] 28 (0, 0)) (by (with_reducible repeat (first | refine blk_drewN ?_ _ | refine blk_drew ?_ | refine blk_alloc ?_ _)); exact BK115.out)) : gb116 ≠ gb115)); have n9_ := Aside0.mk ((by rw [hg]; exact Nat.ne_of_lt (IsS68.lt (show IsS68 w0 _ g s0_0 s0_1 from by repeat (first | (with_reducible first | exact HI0.out | apply IsS68.alloc | apply IsS68.drewN | apply IsS68.drew | apply IsS68.set_1 | refine IsS68.far ?_ NB0_115.out _) | exact HI0.out))) : g ≠ gb116)); have n10_ := Aside0.mk ((by rw [hg]; exact Nat.ne_of_gt (IsS68.lt (show IsS68 w0 _ g s0_0 s0_1 from by repeat (first | (with_reducible first | exact HI0.out | apply IsS68.alloc | apply IsS68.drewN | apply IsS68.drew | apply IsS68.set_1 | refine IsS68.far ?_ NB0_115.out _) | exact HI0.out))) : gb116 ≠ g)); clear HI0; clear BK115; clear HK; clear HB; have HI0 := n0_; have BK115 := n1_; have HK := n2_; have HB := n3_; have BK116 := n4_; have GW116 := n5_; have GE116 := n6_; have NB115_116 := n7_; have NB116_115 := n8_; have NB0_116 := n9_; have NB116_0 := n10_; clear n0_ n1_ n2_ n3_ n4_ n5_ n6_ n7_ n8_ n9_ n10_; clear hb hbox hg; have hnb7 := NB116_115.out; have hnc7 := NB115_116.out; have hnb8 := NB116_0.out; have hnc8 := NB0_116.out; have hcz9_0 : w6.cell? ⟨gb116, 0, none⟩ = some (.int .i64 0) := (blk_cell BK116.out 0).trans rfl; have hcz9_1 : w6.cell? ⟨gb116, 1, none⟩ = some (.int .i64 0) := (blk_cell BK116.out 1).trans rfl; have hfz9_0 := blk_frozen BK116.out 0; have hfz9_1 := blk_frozen BK116.out 1) | ((with_reducible refine gate_callee (f := 15) rfl ?_); refine goesL_ (some 8) rfl rfl Tryd.func15 (by kernel_rfl) rfl #[.pointer (some ⟨g, 0, none⟩), .int .i64 4] rfl (by (try simp only [List.map_toArray, List.map_cons, List.map_nil]); first | done | rfl | (simp only [List.length_drop, List.length_take]; rfl)) ?_; (with_reducible refine (spec_l20Rd_pick.calls k g s0_0 s0_1 4 t117 t118 w0 _ ?side1 ?side2 A3.out).mono ?_); (case side1 => repeat (first | (with_reducible first | exact HI0.out | apply IsS68.alloc | apply IsS68.drewN | apply IsS68.drew | apply IsS68.set_1 | refine IsS68.far ?_ NB0_115.out _ | refine IsS68.far ?_ NB0_116.out _) | exact HI0.out)); (case side2 => repeat (first | (with_reducible first | exact HB.out | apply below_alloc | apply pw_below_drewN | apply below_drew1 | refine below_set ?_ (IsS68.ge HI0.out) | refine below_set ?_ GE115.out | refine below_set ?_ GE116.out) | exact HB.out)); rintro e w10 ⟨rfl, hi, hb, hk⟩; refine ⟨_, rfl, ?_⟩; have n0_ := Aside0.mk (KeepBut.blk hk (g' := gb115) (o := .cells #[.int .i64 0, .int .i64 0] 28 (0, 0)) (by (with_reducible repeat (first | refine blk_drewN ?_ _ | refine blk_drew ?_ | refine blk_alloc ?_ _)); refine blk_far ?_ NB115_116.out _; (with_reducible repeat (first | refine blk_drewN ?_ _ | refine blk_drew ?_ | refine blk_alloc ?_ _)); refine blk_far ?_ NB115_116.out _; (with_reducible repeat (first | refine blk_drewN ?_ _ | refine blk_drew ?_ | refine blk_alloc ?_ _)); exact BK115.out) NB115_0.out (by simp)); have n1_ := Aside0.mk (KeepBut.blk hk (g' := gb116) (o := .cells #[.int .i64 0, .int .i64 0] 28 (0, 0)) (by (with_reducible repeat (first | refine blk_drewN ?_ _ | refine blk_drew ?_ | refine blk_alloc ?_ _)); refine blk_put (cs := #[.int .i64 0, .int .i64 0]) ?_ 1 _ rfl; (with_reducible repeat (first | refine blk_drewN ?_ _ | refine blk_drew ?_ | refine blk_alloc ?_ _)); refine blk_put (cs := #[.int .i64 0, .int .i64 0]) ?_ 0 _ rfl; (with_reducible repeat (first | refine blk_drewN ?_ _ | refine blk_drew ?_ | refine blk_alloc ?_ _)); exact BK116.out) NB116_0.out (by simp)); have n2_ := Aside0.mk (KeepBut.trans (by repeat (first | (with_reducible first | exact HK.out | apply KeepBut.set_ | apply keep_drewN | apply keep_drew | apply keep_alloc | refine keep_far ?_ GW115.out _ | refine keep_far ?_ GW116.out _) | exact HK.out)) hk (.inl rfl)); have n3_ := Aside0.mk (hb); have n4_ := Aside0.mk (hi); clear BK115; clear BK116; clear HK; clear HB; clear HI0; have BK115 := n0_; have BK116 := n1_; have HK := n2_; have HB := n3_; have HI0 := n4_; clear n0_ n1_ n2_ n3_ n4_; (try clear hb); (try clear hb2); (try clear hk); (try clear hi)))
  (try simp only [Act.put, List.setIfInBounds_toArray, List.set_cons_zero, List.set_cons_succ])
  go_cut [] (fun wc => ∃ (kq : Nat) (x1001_3 : Int) (x117000_3 : Int) (x117001_3 : Int), Aside0 (spec_l20Brd.j1 kq a1 s0_0 x1001_3 x117000_3 x117001_3 = some (r1, r2, r3)) ∧ Aside0 (kq ≤ k) ∧ Aside0 (wc.heap[gb115]? = some (.cells #[.int .i64 0, .int .i64 0] 28 (0, 0))) ∧ Aside0 (wc.heap[gb116]? = some (.cells #[.int .i64 x117000_3, .int .i64 x117001_3] 28 (0, 0))) ∧ Aside0 (IsS68 w0 wc g s0_0 x1001_3) ∧ Aside0 (KeepBut w wc g none) ∧ Aside0 (Below w0.heap.size w0 wc))
  case first =>
    have H := HC4.out
    clear HC4
    have HC11 := Aside0.mk H
    clear H
    go_upto_if 9 with (fail)
    go_cut [9] (fun v9 wc => ∃ (kq : Nat) (x9_10 : Bool), v9 = .bool x9_10 ∧ Aside0 (spec_l20Brd.j0 kq a1 t117 x9_10 s0_0 t118 0 0 = some (r1, r2, r3)) ∧ Aside0 (kq ≤ k) ∧ Aside0 (wc.heap[gb115]? = some (.cells #[.int .i64 0, .int .i64 0] 28 (0, 0))) ∧ Aside0 (wc.heap[gb116]? = some (.cells #[.int .i64 0, .int .i64 0] 28 (0, 0))) ∧ Aside0 (IsS68 w0 wc g s0_0 t118) ∧ Aside0 (KeepBut w wc g none) ∧ Aside0 (Below w0.heap.size w0 wc))
    case first =>
      have H := HC11.out
      clear HC11
      by_cases c12 : t117 = 0
      · rw [if_pos c12] at H
        have c12b0 : (t117 == 0) = true := beq_iff_eq.mpr c12
        have c12b1 : (t117 != 0) = false := bne_eq_false_iff_eq.mpr c12
        clear c12
        (first | rw [c12b0] | (simp only [i64_w, i32_w]; rw [c12b0]) | skip)
        have H' := Aside0.mk H
        clear H
        go_wp2
        go_meet
        case rel => exact ⟨_, ((t117 == 0)), (by first | rfl | (simp; done) | (simp [*]; done)), H', ⟨by first | omega | exact Nat.le_refl _⟩, ⟨by (with_reducible repeat (first | refine blk_drewN ?_ _ | refine blk_drew ?_ | refine blk_alloc ?_ _)); exact BK115.out⟩, ⟨by (with_reducible repeat (first | refine blk_drewN ?_ _ | refine blk_drew ?_ | refine blk_alloc ?_ _)); exact BK116.out⟩, ⟨by repeat (first | (with_reducible first | exact HI0.out | apply IsS68.alloc | apply IsS68.drewN | apply IsS68.drew | apply IsS68.set_1 | refine IsS68.far ?_ NB0_115.out _ | refine IsS68.far ?_ NB0_116.out _) | exact HI0.out)⟩, ⟨by repeat (first | (with_reducible first | exact HK.out | apply KeepBut.set_ | apply keep_drewN | apply keep_drew | apply keep_alloc | refine keep_far ?_ GW115.out _ | refine keep_far ?_ GW116.out _) | exact HK.out)⟩, ⟨by repeat (first | (with_reducible first | exact HB.out | apply below_alloc | apply pw_below_drewN | apply below_drew1 | refine below_set ?_ (IsS68.ge HI0.out) | refine below_set ?_ GE115.out | refine below_set ?_ GE116.out) | exact HB.out)⟩⟩
      · rw [if_neg c12] at H
        have c12b0 : (t117 == 0) = false := beq_eq_false_iff_ne.mpr c12
        have c12b1 : (t117 != 0) = true := bne_iff_ne.mpr c12
        (first | rw [c12b0] | (simp only [i64_w, i32_w]; rw [c12b0]) | skip)
        have H' := Aside0.mk H
        clear H
        go_wp2
        go_meet
        case rel => exact ⟨_, ((t117 == 1)), (by first | rfl | (simp; done) | (simp [*]; done)), H', ⟨by first | omega | exact Nat.le_refl _⟩, ⟨by (with_reducible repeat (first | refine blk_drewN ?_ _ | refine blk_drew ?_ | refine blk_alloc ?_ _)); exact BK115.out⟩, ⟨by (with_reducible repeat (first | refine blk_drewN ?_ _ | refine blk_drew ?_ | refine blk_alloc ?_ _)); exact BK116.out⟩, ⟨by repeat (first | (with_reducible first | exact HI0.out | apply IsS68.alloc | apply IsS68.drewN | apply IsS68.drew | apply IsS68.set_1 | refine IsS68.far ?_ NB0_115.out _ | refine IsS68.far ?_ NB0_116.out _) | exact HI0.out)⟩, ⟨by repeat (first | (with_reducible first | exact HK.out | apply KeepBut.set_ | apply keep_drewN | apply keep_drew | apply keep_alloc | refine keep_far ?_ GW115.out _ | refine keep_far ?_ GW116.out _) | exact HK.out)⟩, ⟨by repeat (first | (with_reducible first | exact HB.out | apply below_alloc | apply pw_below_drewN | apply below_drew1 | refine below_set ?_ (IsS68.ge HI0.out) | refine below_set ?_ GE115.out | refine below_set ?_ GE116.out) | exact HB.out)⟩⟩
    case rest =>
      clear HC11
      try clear c1
      try clear p2
      try clear c4
      try clear c7
      try clear c8
      try clear c12
      try clear c12b0
      try clear c12b1
      try clear hcz9_0
      try clear hcz9_1
      try clear hfz9_0
      try clear hfz9_1
      obtain ⟨kq, x9_10, rfl, HA, HJ10, BK115, BK116, HI0, HK, HB⟩ := hcut
      cases kq with
      | zero => exact absurd HA.out (by simp [spec_l20Brd.j0])
      | succ kj10 =>
        have H := HA.out
        clear HA
        simp only [spec_l20Brd.j0] at H
        by_cases c13 : x9_10 = true
        · subst c13
          have H1 : ((spec_l20Rd_pick.f kj10 s0_0 t118 3).bind fun bt119 => ((spec_l20Rd_pick.f kj10 s0_0 bt119.2 3).bind fun bt121 => (spec_l20Brd.j1 kj10 a1 s0_0 bt121.2 (wrap64 (1 + bt119.1)) (wrap64 (1 + bt121.1))))) = some (r1, r2, r3) := by rw [if_pos rfl] at H; exact H
          clear H
          have H := H1
          clear H1
          replace H := Option.bind_eq_some_iff.mp H
          obtain ⟨⟨t119, t120⟩, A140, H⟩ := H
          replace H : ((spec_l20Rd_pick.f kj10 s0_0 t120 3).bind fun bt121 => (spec_l20Brd.j1 kj10 a1 s0_0 bt121.2 (wrap64 (1 + t119)) (wrap64 (1 + bt121.1)))) = some (r1, r2, r3) := H
          have A14 := Aside0.mk A140
          clear A140
          replace H := Option.bind_eq_some_iff.mp H
          obtain ⟨⟨t121, t122⟩, A150, H⟩ := H
          replace H : (spec_l20Brd.j1 kj10 a1 s0_0 t122 (wrap64 (1 + t119)) (wrap64 (1 + t121))) = some (r1, r2, r3) := H
          have A15 := Aside0.mk A150
          clear A150
          have H' := Aside0.mk H
          clear H
          go_wp2_with (first | ((with_reducible refine gate_callee (f := 15) rfl ?_); refine goesL_ (some 13) rfl rfl Tryd.func15 (by kernel_rfl) rfl #[.pointer (some ⟨g, 0, none⟩), .int .i64 3] rfl (by (try simp only [List.map_toArray, List.map_cons, List.map_nil]); first | done | rfl | (simp only [List.length_drop, List.length_take]; rfl)) ?_; (with_reducible refine (spec_l20Rd_pick.calls kj10 g s0_0 t118 3 t119 t120 w0 _ ?side1 ?side2 A14.out).mono ?_); (case side1 => repeat (first | (with_reducible first | exact HI0.out | apply IsS68.alloc | apply IsS68.drewN | apply IsS68.drew | apply IsS68.set_1 | refine IsS68.far ?_ NB0_115.out _ | refine IsS68.far ?_ NB0_116.out _) | exact HI0.out)); (case side2 => repeat (first | (with_reducible first | exact HB.out | apply below_alloc | apply pw_below_drewN | apply below_drew1 | refine below_set ?_ (IsS68.ge HI0.out) | refine below_set ?_ GE115.out | refine below_set ?_ GE116.out) | exact HB.out)); rintro e w16 ⟨rfl, hi, hb, hk⟩; refine ⟨_, rfl, ?_⟩; have n0_ := Aside0.mk (KeepBut.blk hk (g' := gb115) (o := .cells #[.int .i64 0, .int .i64 0] 28 (0, 0)) (by (with_reducible repeat (first | refine blk_drewN ?_ _ | refine blk_drew ?_ | refine blk_alloc ?_ _)); exact BK115.out) NB115_0.out (by simp)); have n1_ := Aside0.mk (KeepBut.blk hk (g' := gb116) (o := .cells #[.int .i64 0, .int .i64 0] 28 (0, 0)) (by (with_reducible repeat (first | refine blk_drewN ?_ _ | refine blk_drew ?_ | refine blk_alloc ?_ _)); exact BK116.out) NB116_0.out (by simp)); have n2_ := Aside0.mk (KeepBut.trans (by repeat (first | (with_reducible first | exact HK.out | apply KeepBut.set_ | apply keep_drewN | apply keep_drew | apply keep_alloc | refine keep_far ?_ GW115.out _ | refine keep_far ?_ GW116.out _) | exact HK.out)) hk (.inl rfl)); have n3_ := Aside0.mk (hb); have n4_ := Aside0.mk (hi); clear BK115; clear BK116; clear HK; clear HB; clear HI0; have BK115 := n0_; have BK116 := n1_; have HK := n2_; have HB := n3_; have HI0 := n4_; clear n0_ n1_ n2_ n3_ n4_; (try clear hb); (try clear hb2); (try clear hk); (try clear hi)) | ((with_reducible refine gate_callee (f := 15) rfl ?_); refine goesL_ (some 16) rfl rfl Tryd.func15 (by kernel_rfl) rfl #[.pointer (some ⟨g, 0, none⟩), .int .i64 3] rfl (by (try simp only [List.map_toArray, List.map_cons, List.map_nil]); first | done | rfl | (simp only [List.length_drop, List.length_take]; rfl)) ?_; (with_reducible refine (spec_l20Rd_pick.calls kj10 g s0_0 t120 3 t121 t122 w0 _ ?side1 ?side2 A15.out).mono ?_); (case side1 => repeat (first | (with_reducible first | exact HI0.out | apply IsS68.alloc | apply IsS68.drewN | apply IsS68.drew | apply IsS68.set_1 | refine IsS68.far ?_ NB0_115.out _ | refine IsS68.far ?_ NB0_116.out _) | exact HI0.out)); (case side2 => repeat (first | (with_reducible first | exact HB.out | apply below_alloc | apply pw_below_drewN | apply below_drew1 | refine below_set ?_ (IsS68.ge HI0.out) | refine below_set ?_ GE115.out | refine below_set ?_ GE116.out) | exact HB.out)); rintro e w17 ⟨rfl, hi, hb, hk⟩; refine ⟨_, rfl, ?_⟩; have n0_ := Aside0.mk (KeepBut.blk hk (g' := gb115) (o := .cells #[.int .i64 0, .int .i64 0] 28 (0, 0)) (by (with_reducible repeat (first | refine blk_drewN ?_ _ | refine blk_drew ?_ | refine blk_alloc ?_ _)); exact BK115.out) NB115_0.out (by simp)); have n1_ := Aside0.mk (KeepBut.blk hk (g' := gb116) (o := .cells #[.int .i64 0, .int .i64 0] 28 (0, 0)) (by (with_reducible repeat (first | refine blk_drewN ?_ _ | refine blk_drew ?_ | refine blk_alloc ?_ _)); exact BK116.out) NB116_0.out (by simp)); have n2_ := Aside0.mk (KeepBut.trans (by repeat (first | (with_reducible first | exact HK.out | apply KeepBut.set_ | apply keep_drewN | apply keep_drew | apply keep_alloc | refine keep_far ?_ GW115.out _ | refine keep_far ?_ GW116.out _) | exact HK.out)) hk (.inl rfl)); have n3_ := Aside0.mk (hb); have n4_ := Aside0.mk (hi); clear BK115; clear BK116; clear HK; clear HB; clear HI0; have BK115 := n0_; have BK116 := n1_; have HK := n2_; have HB := n3_; have HI0 := n4_; clear n0_ n1_ n2_ n3_ n4_; (try clear hb); (try clear hb2); (try clear hk); (try clear hi); have hnb18 := NB116_115.out; have hnc18 := NB115_116.out; have hnb19 := NB116_0.out; have hnc19 := NB0_116.out; have hcz20_0 : w17.cell? ⟨gb116, 0, none⟩ = some (.int .i64 0) := (blk_cell BK116.out 0).trans rfl; have hcz20_1 : w17.cell? ⟨gb116, 1, none⟩ = some (.int .i64 0) := (blk_cell BK116.out 1).trans rfl; have hfz20_0 := blk_frozen BK116.out 0; have hfz20_1 := blk_frozen BK116.out 1))
          go_meet
          case rel => exact ⟨_, (t122), (wrap64 (1 + t119)), (wrap64 (1 + t121)), H', ⟨by have := HJ10.out; first | omega | exact Nat.le_refl _⟩, ⟨by (with_reducible repeat (first | refine blk_drewN ?_ _ | refine blk_drew ?_ | refine blk_alloc ?_ _)); refine blk_far ?_ NB115_116.out _; (with_reducible repeat (first | refine blk_drewN ?_ _ | refine blk_drew ?_ | refine blk_alloc ?_ _)); refine blk_far ?_ NB115_116.out _; (with_reducible repeat (first | refine blk_drewN ?_ _ | refine blk_drew ?_ | refine blk_alloc ?_ _)); exact BK115.out⟩, ⟨by (with_reducible repeat (first | refine blk_drewN ?_ _ | refine blk_drew ?_ | refine blk_alloc ?_ _)); refine blk_put (cs := #[.int .i64 (wrap64 (1 + t119)), .int .i64 0]) ?_ 1 _ rfl; (with_reducible repeat (first | refine blk_drewN ?_ _ | refine blk_drew ?_ | refine blk_alloc ?_ _)); refine blk_put (cs := #[.int .i64 0, .int .i64 0]) ?_ 0 _ rfl; (with_reducible repeat (first | refine blk_drewN ?_ _ | refine blk_drew ?_ | refine blk_alloc ?_ _)); exact BK116.out⟩, ⟨by repeat (first | (with_reducible first | exact HI0.out | apply IsS68.alloc | apply IsS68.drewN | apply IsS68.drew | apply IsS68.set_1 | refine IsS68.far ?_ NB0_115.out _ | refine IsS68.far ?_ NB0_116.out _) | exact HI0.out)⟩, ⟨by repeat (first | (with_reducible first | exact HK.out | apply KeepBut.set_ | apply keep_drewN | apply keep_drew | apply keep_alloc | refine keep_far ?_ GW115.out _ | refine keep_far ?_ GW116.out _) | exact HK.out)⟩, ⟨by repeat (first | (with_reducible first | exact HB.out | apply below_alloc | apply pw_below_drewN | apply below_drew1 | refine below_set ?_ (IsS68.ge HI0.out) | refine below_set ?_ GE115.out | refine below_set ?_ GE116.out) | exact HB.out)⟩⟩
        · replace c13 := Bool.eq_false_iff.mpr c13
          subst c13
          have H1 : (if t117 = 2 then ((spec_l20Rd_pick.f kj10 s0_0 t118 3).bind fun bt123 => (if bt123.1 = 0 then (spec_l20Brd.j1 kj10 a1 s0_0 bt123.2 4 0) else (spec_l20Brd.j1 kj10 a1 s0_0 bt123.2 0 0))) else (spec_l20Brd.j1 kj10 a1 s0_0 t118 0 0)) = some (r1, r2, r3) := by rw [if_neg (show ¬ (false = true) by decide)] at H; exact H
          clear H
          have H := H1
          clear H1
          by_cases c21 : t117 = 2
          · rw [if_pos c21] at H
            have c21b0 : (t117 == 2) = true := beq_iff_eq.mpr c21
            have c21b1 : (t117 != 2) = false := bne_eq_false_iff_eq.mpr c21
            clear c21
            replace H := Option.bind_eq_some_iff.mp H
            obtain ⟨⟨t123, t124⟩, A220, H⟩ := H
            replace H : (if t123 = 0 then (spec_l20Brd.j1 kj10 a1 s0_0 t124 4 0) else (spec_l20Brd.j1 kj10 a1 s0_0 t124 0 0)) = some (r1, r2, r3) := H
            have A22 := Aside0.mk A220
            clear A220
            by_cases c23 : t123 = 0
            · rw [if_pos c23] at H
              have c23b0 : (t123 == 0) = true := beq_iff_eq.mpr c23
              have c23b1 : (t123 != 0) = false := bne_eq_false_iff_eq.mpr c23
              clear c23
              have H' := Aside0.mk H
              clear H
              go_wp2_with (first | ((with_reducible refine gate_callee (f := 15) rfl ?_); refine goesL_ (some 22) rfl rfl Tryd.func15 (by kernel_rfl) rfl #[.pointer (some ⟨g, 0, none⟩), .int .i64 3] rfl (by (try simp only [List.map_toArray, List.map_cons, List.map_nil]); first | done | rfl | (simp only [List.length_drop, List.length_take]; rfl)) ?_; (with_reducible refine (spec_l20Rd_pick.calls kj10 g s0_0 t118 3 t123 t124 w0 _ ?side1 ?side2 A22.out).mono ?_); (case side1 => repeat (first | (with_reducible first | exact HI0.out | apply IsS68.alloc | apply IsS68.drewN | apply IsS68.drew | apply IsS68.set_1 | refine IsS68.far ?_ NB0_115.out _ | refine IsS68.far ?_ NB0_116.out _) | exact HI0.out)); (case side2 => repeat (first | (with_reducible first | exact HB.out | apply below_alloc | apply pw_below_drewN | apply below_drew1 | refine below_set ?_ (IsS68.ge HI0.out) | refine below_set ?_ GE115.out | refine below_set ?_ GE116.out) | exact HB.out)); rintro e w24 ⟨rfl, hi, hb, hk⟩; refine ⟨_, rfl, ?_⟩; have n0_ := Aside0.mk (KeepBut.blk hk (g' := gb115) (o := .cells #[.int .i64 0, .int .i64 0] 28 (0, 0)) (by (with_reducible repeat (first | refine blk_drewN ?_ _ | refine blk_drew ?_ | refine blk_alloc ?_ _)); exact BK115.out) NB115_0.out (by simp)); have n1_ := Aside0.mk (KeepBut.blk hk (g' := gb116) (o := .cells #[.int .i64 0, .int .i64 0] 28 (0, 0)) (by (with_reducible repeat (first | refine blk_drewN ?_ _ | refine blk_drew ?_ | refine blk_alloc ?_ _)); exact BK116.out) NB116_0.out (by simp)); have n2_ := Aside0.mk (KeepBut.trans (by repeat (first | (with_reducible first | exact HK.out | apply KeepBut.set_ | apply keep_drewN | apply keep_drew | apply keep_alloc | refine keep_far ?_ GW115.out _ | refine keep_far ?_ GW116.out _) | exact HK.out)) hk (.inl rfl)); have n3_ := Aside0.mk (hb); have n4_ := Aside0.mk (hi); clear BK115; clear BK116; clear HK; clear HB; clear HI0; have BK115 := n0_; have BK116 := n1_; have HK := n2_; have HB := n3_; have HI0 := n4_; clear n0_ n1_ n2_ n3_ n4_; (try clear hb); (try clear hb2); (try clear hk); (try clear hi); have hnb25 := NB116_115.out; have hnc25 := NB115_116.out; have hnb26 := NB116_0.out; have hnc26 := NB0_116.out; have hcz27_0 : w24.cell? ⟨gb116, 0, none⟩ = some (.int .i64 0) := (blk_cell BK116.out 0).trans rfl; have hcz27_1 : w24.cell? ⟨gb116, 1, none⟩ = some (.int .i64 0) := (blk_cell BK116.out 1).trans rfl; have hfz27_0 := blk_frozen BK116.out 0; have hfz27_1 := blk_frozen BK116.out 1))
              go_meet
              case rel => exact ⟨_, (t124), (4), (0), H', ⟨by have := HJ10.out; first | omega | exact Nat.le_refl _⟩, ⟨by (with_reducible repeat (first | refine blk_drewN ?_ _ | refine blk_drew ?_ | refine blk_alloc ?_ _)); refine blk_far ?_ NB115_116.out _; (with_reducible repeat (first | refine blk_drewN ?_ _ | refine blk_drew ?_ | refine blk_alloc ?_ _)); exact BK115.out⟩, ⟨by (with_reducible repeat (first | refine blk_drewN ?_ _ | refine blk_drew ?_ | refine blk_alloc ?_ _)); refine blk_put (cs := #[.int .i64 0, .int .i64 0]) ?_ 0 _ rfl; (with_reducible repeat (first | refine blk_drewN ?_ _ | refine blk_drew ?_ | refine blk_alloc ?_ _)); exact BK116.out⟩, ⟨by repeat (first | (with_reducible first | exact HI0.out | apply IsS68.alloc | apply IsS68.drewN | apply IsS68.drew | apply IsS68.set_1 | refine IsS68.far ?_ NB0_115.out _ | refine IsS68.far ?_ NB0_116.out _) | exact HI0.out)⟩, ⟨by repeat (first | (with_reducible first | exact HK.out | apply KeepBut.set_ | apply keep_drewN | apply keep_drew | apply keep_alloc | refine keep_far ?_ GW115.out _ | refine keep_far ?_ GW116.out _) | exact HK.out)⟩, ⟨by repeat (first | (with_reducible first | exact HB.out | apply below_alloc | apply pw_below_drewN | apply below_drew1 | refine below_set ?_ (IsS68.ge HI0.out) | refine below_set ?_ GE115.out | refine below_set ?_ GE116.out) | exact HB.out)⟩⟩
            · rw [if_neg c23] at H
              have c23b0 : (t123 == 0) = false := beq_eq_false_iff_ne.mpr c23
              have c23b1 : (t123 != 0) = true := bne_iff_ne.mpr c23
              have H' := Aside0.mk H
              clear H
              go_wp2_with (first | ((with_reducible refine gate_callee (f := 15) rfl ?_); refine goesL_ (some 22) rfl rfl Tryd.func15 (by kernel_rfl) rfl #[.pointer (some ⟨g, 0, none⟩), .int .i64 3] rfl (by (try simp only [List.map_toArray, List.map_cons, List.map_nil]); first | done | rfl | (simp only [List.length_drop, List.length_take]; rfl)) ?_; (with_reducible refine (spec_l20Rd_pick.calls kj10 g s0_0 t118 3 t123 t124 w0 _ ?side1 ?side2 A22.out).mono ?_); (case side1 => repeat (first | (with_reducible first | exact HI0.out | apply IsS68.alloc | apply IsS68.drewN | apply IsS68.drew | apply IsS68.set_1 | refine IsS68.far ?_ NB0_115.out _ | refine IsS68.far ?_ NB0_116.out _) | exact HI0.out)); (case side2 => repeat (first | (with_reducible first | exact HB.out | apply below_alloc | apply pw_below_drewN | apply below_drew1 | refine below_set ?_ (IsS68.ge HI0.out) | refine below_set ?_ GE115.out | refine below_set ?_ GE116.out) | exact HB.out)); rintro e w28 ⟨rfl, hi, hb, hk⟩; refine ⟨_, rfl, ?_⟩; have n0_ := Aside0.mk (KeepBut.blk hk (g' := gb115) (o := .cells #[.int .i64 0, .int .i64 0] 28 (0, 0)) (by (with_reducible repeat (first | refine blk_drewN ?_ _ | refine blk_drew ?_ | refine blk_alloc ?_ _)); exact BK115.out) NB115_0.out (by simp)); have n1_ := Aside0.mk (KeepBut.blk hk (g' := gb116) (o := .cells #[.int .i64 0, .int .i64 0] 28 (0, 0)) (by (with_reducible repeat (first | refine blk_drewN ?_ _ | refine blk_drew ?_ | refine blk_alloc ?_ _)); exact BK116.out) NB116_0.out (by simp)); have n2_ := Aside0.mk (KeepBut.trans (by repeat (first | (with_reducible first | exact HK.out | apply KeepBut.set_ | apply keep_drewN | apply keep_drew | apply keep_alloc | refine keep_far ?_ GW115.out _ | refine keep_far ?_ GW116.out _) | exact HK.out)) hk (.inl rfl)); have n3_ := Aside0.mk (hb); have n4_ := Aside0.mk (hi); clear BK115; clear BK116; clear HK; clear HB; clear HI0; have BK115 := n0_; have BK116 := n1_; have HK := n2_; have HB := n3_; have HI0 := n4_; clear n0_ n1_ n2_ n3_ n4_; (try clear hb); (try clear hb2); (try clear hk); (try clear hi)))
              go_meet
              case rel => exact ⟨_, (t124), (0), (0), H', ⟨by have := HJ10.out; first | omega | exact Nat.le_refl _⟩, ⟨by (with_reducible repeat (first | refine blk_drewN ?_ _ | refine blk_drew ?_ | refine blk_alloc ?_ _)); exact BK115.out⟩, ⟨by (with_reducible repeat (first | refine blk_drewN ?_ _ | refine blk_drew ?_ | refine blk_alloc ?_ _)); exact BK116.out⟩, ⟨by repeat (first | (with_reducible first | exact HI0.out | apply IsS68.alloc | apply IsS68.drewN | apply IsS68.drew | apply IsS68.set_1 | refine IsS68.far ?_ NB0_115.out _ | refine IsS68.far ?_ NB0_116.out _) | exact HI0.out)⟩, ⟨by repeat (first | (with_reducible first | exact HK.out | apply KeepBut.set_ | apply keep_drewN | apply keep_drew | apply keep_alloc | refine keep_far ?_ GW115.out _ | refine keep_far ?_ GW116.out _) | exact HK.out)⟩, ⟨by repeat (first | (with_reducible first | exact HB.out | apply below_alloc | apply pw_below_drewN | apply below_drew1 | refine below_set ?_ (IsS68.ge HI0.out) | refine below_set ?_ GE115.out | refine below_set ?_ GE116.out) | exact HB.out)⟩⟩
          · rw [if_neg c21] at H
            have c21b0 : (t117 == 2) = false := beq_eq_false_iff_ne.mpr c21
            have c21b1 : (t117 != 2) = true := bne_iff_ne.mpr c21
            have H' := Aside0.mk H
            clear H
            go_wp2
            go_meet
            case rel => exact ⟨_, (t118), (0), (0), H', ⟨by have := HJ10.out; first | omega | exact Nat.le_refl _⟩, ⟨by (with_reducible repeat (first | refine blk_drewN ?_ _ | refine blk_drew ?_ | refine blk_alloc ?_ _)); exact BK115.out⟩, ⟨by (with_reducible repeat (first | refine blk_drewN ?_ _ | refine blk_drew ?_ | refine blk_alloc ?_ _)); exact BK116.out⟩, ⟨by repeat (first | (with_reducible first | exact HI0.out | apply IsS68.alloc | apply IsS68.drewN | apply IsS68.drew | apply IsS68.set_1 | refine IsS68.far ?_ NB0_115.out _ | refine IsS68.far ?_ NB0_116.out _) | exact HI0.out)⟩, ⟨by repeat (first | (with_reducible first | exact HK.out | apply KeepBut.set_ | apply keep_drewN | apply keep_drew | apply keep_alloc | refine keep_far ?_ GW115.out _ | refine keep_far ?_ GW116.out _) | exact HK.out)⟩, ⟨by repeat (first | (with_reducible first | exact HB.out | apply below_alloc | apply pw_below_drewN | apply below_drew1 | refine below_set ?_ (IsS68.ge HI0.out) | refine below_set ?_ GE115.out | refine below_set ?_ GE116.out) | exact HB.out)⟩⟩
  case rest =>
    clear HC4
    try clear c1
    try clear c2
    try clear p2
    try clear c4
    try clear p6
    try clear c7
    try clear c8
    try clear c12
    try clear c12b0
    try clear c12b1
    try clear c13
    try clear c15
    try clear c18
    try clear c19
    try clear c21
    try clear c21b0
    try clear c21b1
    try clear c23
    try clear c23b0
    try clear c23b1
    try clear c25
    try clear c26
    try clear hcz20_0
    try clear hcz20_1
    try clear hcz27_0
    try clear hcz27_1
    try clear hcz9_0
    try clear hcz9_1
    try clear hfz20_0
    try clear hfz20_1
    try clear hfz27_0
    try clear hfz27_1
    try clear hfz9_0
    try clear hfz9_1
    try clear p2
    obtain ⟨kq, x1001_3, x117000_3, x117001_3, HA, HJ3, BK115, BK116, HI0, HK, HB⟩ := hcut
    cases kq with
    | zero => exact absurd HA.out (by simp [spec_l20Brd.j1])
    | succ kj3 =>
      have H := HA.out
      clear HA
      simp only [spec_l20Brd.j1] at H
      replace H := Option.bind_eq_some_iff.mp H
      obtain ⟨⟨t125, t126⟩, A290, H⟩ := H
      replace H : (if t125 = 0 then ((spec_l20Rd_pick.f kj3 s0_0 t126 2).bind fun bt127 => (if bt127.1 = 0 then ((some (([(-1), 5, 1] : List Int) : List Int)).bind fun y129 => ((spec_l20Rd_pick.f kj3 s0_0 bt127.2 3).bind fun bt132 => (if 0 ≤ bt132.1 then (if bt132.1 < (y129.length : Int) then (some (rd y129 bt132.1, x117001_3, bt132.2)) else (none)) else (none)))) else ((some (([(-1), 4, 0, 1] : List Int) : List Int)).bind fun y135 => ((spec_l20Rd_pick.f kj3 s0_0 bt127.2 4).bind fun bt138 => (if 0 ≤ bt138.1 then (if bt138.1 < (y135.length : Int) then (some (x117000_3, rd y135 bt138.1, bt138.2)) else (none)) else (none)))))) else (some (x117000_3, x117001_3, t126))) = some (r1, r2, r3) := H
      have A29 := Aside0.mk A290
      clear A290
      by_cases c30 : t125 = 0
      · rw [if_pos c30] at H
        have c30b0 : (t125 == 0) = true := beq_iff_eq.mpr c30
        have c30b1 : (t125 != 0) = false := bne_eq_false_iff_eq.mpr c30
        clear c30
        replace H := Option.bind_eq_some_iff.mp H
        obtain ⟨⟨t127, t128⟩, A310, H⟩ := H
        replace H : (if t127 = 0 then ((some (([(-1), 5, 1] : List Int) : List Int)).bind fun y129 => ((spec_l20Rd_pick.f kj3 s0_0 t128 3).bind fun bt132 => (if 0 ≤ bt132.1 then (if bt132.1 < (y129.length : Int) then (some (rd y129 bt132.1, x117001_3, bt132.2)) else (none)) else (none)))) else ((some (([(-1), 4, 0, 1] : List Int) : List Int)).bind fun y135 => ((spec_l20Rd_pick.f kj3 s0_0 t128 4).bind fun bt138 => (if 0 ≤ bt138.1 then (if bt138.1 < (y135.length : Int) then (some (x117000_3, rd y135 bt138.1, bt138.2)) else (none)) else (none))))) = some (r1, r2, r3) := H
        have A31 := Aside0.mk A310
        clear A310
        by_cases c32 : t127 = 0
        · rw [if_pos c32] at H
          have c32b0 : (t127 == 0) = true := beq_iff_eq.mpr c32
          have c32b1 : (t127 != 0) = false := bne_eq_false_iff_eq.mpr c32
          clear c32
          obtain ⟨y129, hy129⟩ : ∃ y_ : List Int, y_ = (([(-1), 5, 1] : List Int)) := ⟨_, rfl⟩
          replace H : ((spec_l20Rd_pick.f kj3 s0_0 t128 3).bind fun bt132 => (if 0 ≤ bt132.1 then (if bt132.1 < (y129.length : Int) then (some (rd y129 bt132.1, x117001_3, bt132.2)) else (none)) else (none))) = some (r1, r2, r3) := by first | (rw [hy129]; with_reducible exact H) | (have H2_ := (Option.bind_some _ _).symm.trans H; rw [hy129]; with_reducible exact H2_) | (have H2_ := (Option.bind_some _ _).symm.trans H; with_reducible exact H2_) | with_reducible exact H | (rw [hy129]; exact H) | exact H
          have Ny129 := Aside0.mk hy129
          clear hy129
          replace H := Option.bind_eq_some_iff.mp H
          obtain ⟨⟨t132, t133⟩, A330, H⟩ := H
          replace H : (if 0 ≤ t132 then (if t132 < (y129.length : Int) then (some (rd y129 t132, x117001_3, t133)) else (none)) else (none)) = some (r1, r2, r3) := H
          have A33 := Aside0.mk A330
          clear A330
          by_cases c34 : 0 ≤ t132
          · rw [if_pos c34] at H
            have c34b0 : decide (0 ≤ t132) = true := decide_eq_true c34
            clear c34
            by_cases c35 : t132 < (y129.length : Int)
            · rw [if_pos c35] at H
              have c35b0 : decide (t132 < (y129.length : Int)) = true := decide_eq_true c35
              clear c35
              simp only [Option.some.injEq, Prod.mk.injEq] at H
              obtain ⟨rfl, rfl, rfl⟩ := H
              go_wp2_with (first | ((with_reducible refine gate_callee (f := 15) rfl ?_); refine goesL_ (some 27) rfl rfl Tryd.func15 (by kernel_rfl) rfl #[.pointer (some ⟨g, 0, none⟩), .int .i64 a1] rfl (by (try simp only [List.map_toArray, List.map_cons, List.map_nil]); first | done | rfl | (simp only [List.length_drop, List.length_take]; rfl) | (simp only [Ny129.out, List.length_drop, List.length_take]; rfl)) ?_; (with_reducible refine (spec_l20Rd_pick.calls kj3 g s0_0 x1001_3 a1 t125 t126 w0 _ ?side1 ?side2 A29.out).mono ?_); (case side1 => repeat (first | (with_reducible first | exact HI0.out | apply IsS68.alloc | apply IsS68.drewN | apply IsS68.drew | apply IsS68.set_1 | refine IsS68.far ?_ NB0_115.out _ | refine IsS68.far ?_ NB0_116.out _) | exact HI0.out)); (case side2 => repeat (first | (with_reducible first | exact HB.out | apply below_alloc | apply pw_below_drewN | apply below_drew1 | refine below_set ?_ (IsS68.ge HI0.out) | refine below_set ?_ GE115.out | refine below_set ?_ GE116.out) | exact HB.out)); rintro e w36 ⟨rfl, hi, hb, hk⟩; refine ⟨_, rfl, ?_⟩; have n0_ := Aside0.mk (KeepBut.blk hk (g' := gb115) (o := .cells #[.int .i64 0, .int .i64 0] 28 (0, 0)) (by (with_reducible repeat (first | refine blk_drewN ?_ _ | refine blk_drew ?_ | refine blk_alloc ?_ _)); exact BK115.out) NB115_0.out (by simp)); have n1_ := Aside0.mk (KeepBut.blk hk (g' := gb116) (o := .cells #[.int .i64 x117000_3, .int .i64 x117001_3] 28 (0, 0)) (by (with_reducible repeat (first | refine blk_drewN ?_ _ | refine blk_drew ?_ | refine blk_alloc ?_ _)); exact BK116.out) NB116_0.out (by simp)); have n2_ := Aside0.mk (KeepBut.trans (by repeat (first | (with_reducible first | exact HK.out | apply KeepBut.set_ | apply keep_drewN | apply keep_drew | apply keep_alloc | refine keep_far ?_ GW115.out _ | refine keep_far ?_ GW116.out _) | exact HK.out)) hk (.inl rfl)); have n3_ := Aside0.mk (hb); have n4_ := Aside0.mk (hi); clear BK115; clear BK116; clear HK; clear HB; clear HI0; have BK115 := n0_; have BK116 := n1_; have HK := n2_; have HB := n3_; have HI0 := n4_; clear n0_ n1_ n2_ n3_ n4_; (try clear hb); (try clear hb2); (try clear hk); (try clear hi)) | ((with_reducible refine gate_callee (f := 15) rfl ?_); refine goesL_ (some 30) rfl rfl Tryd.func15 (by kernel_rfl) rfl #[.pointer (some ⟨g, 0, none⟩), .int .i64 2] rfl (by (try simp only [List.map_toArray, List.map_cons, List.map_nil]); first | done | rfl | (simp only [List.length_drop, List.length_take]; rfl) | (simp only [Ny129.out, List.length_drop, List.length_take]; rfl)) ?_; (with_reducible refine (spec_l20Rd_pick.calls kj3 g s0_0 t126 2 t127 t128 w0 _ ?side1 ?side2 A31.out).mono ?_); (case side1 => repeat (first | (with_reducible first | exact HI0.out | apply IsS68.alloc | apply IsS68.drewN | apply IsS68.drew | apply IsS68.set_1 | refine IsS68.far ?_ NB0_115.out _ | refine IsS68.far ?_ NB0_116.out _) | exact HI0.out)); (case side2 => repeat (first | (with_reducible first | exact HB.out | apply below_alloc | apply pw_below_drewN | apply below_drew1 | refine below_set ?_ (IsS68.ge HI0.out) | refine below_set ?_ GE115.out | refine below_set ?_ GE116.out) | exact HB.out)); rintro e w37 ⟨rfl, hi, hb, hk⟩; refine ⟨_, rfl, ?_⟩; have n0_ := Aside0.mk (KeepBut.blk hk (g' := gb115) (o := .cells #[.int .i64 0, .int .i64 0] 28 (0, 0)) (by (with_reducible repeat (first | refine blk_drewN ?_ _ | refine blk_drew ?_ | refine blk_alloc ?_ _)); exact BK115.out) NB115_0.out (by simp)); have n1_ := Aside0.mk (KeepBut.blk hk (g' := gb116) (o := .cells #[.int .i64 x117000_3, .int .i64 x117001_3] 28 (0, 0)) (by (with_reducible repeat (first | refine blk_drewN ?_ _ | refine blk_drew ?_ | refine blk_alloc ?_ _)); exact BK116.out) NB116_0.out (by simp)); have n2_ := Aside0.mk (KeepBut.trans (by repeat (first | (with_reducible first | exact HK.out | apply KeepBut.set_ | apply keep_drewN | apply keep_drew | apply keep_alloc | refine keep_far ?_ GW115.out _ | refine keep_far ?_ GW116.out _) | exact HK.out)) hk (.inl rfl)); have n3_ := Aside0.mk (hb); have n4_ := Aside0.mk (hi); clear BK115; clear BK116; clear HK; clear HB; clear HI0; have BK115 := n0_; have BK116 := n1_; have HK := n2_; have HB := n3_; have HI0 := n4_; clear n0_ n1_ n2_ n3_ n4_; (try clear hb); (try clear hb2); (try clear hk); (try clear hi)) | ((with_reducible refine gate_dst (N := 32) rfl ?_); refine Kd.R_lit (Kd.int .i64) _ 3 ?hg (N := 32) ?hd (xs := ([(-1), 5, 1] : List Int)) (inner := [.int .i64 (-1), .int .i64 5, .int .i64 1]) (ok := fun _ => True) (okp := fun _ => True) ?hr ?hp (fun _ hk => hk) trivial (Below.refl _ _) (Nat.le_refl _) (by simp) ?_; (case hd => rfl); (case hg => rfl); (case hr => first | (go_simp; done) | (go_simp; rfl)); (case hp => exact (Reps.one (show Kd.M (Kd.int .i64) _ _ _ (-1) [.int .i64 (-1)] from rfl) (Reps.one (show Kd.M (Kd.int .i64) _ _ _ 5 [.int .i64 5] from rfl) (Reps.one (show Kd.M (Kd.int .i64) _ _ _ 1 [.int .i64 1] from rfl) (Reps.none _ _))))); intro v130 w38 ho39 hb hg_ hnew_; clear hg_ hnew_; (first | rw [← Ny129.out] at ho39 | (simp only [Int.reduceToNat] at ho39; rw [← Ny129.out] at ho39)); have n0_ := Aside0.mk (Kd.R_lower ho39 (keep_size (w := w) (g := g) (row := none) (by repeat (first | (with_reducible first | exact HK.out | apply KeepBut.set_ | apply keep_drewN | apply keep_drew | apply keep_alloc | refine keep_far ?_ GW115.out _ | refine keep_far ?_ GW116.out _) | exact HK.out)))); have n1_ := Aside0.mk (blk_below (g := gb115) (o := .cells #[.int .i64 0, .int .i64 0] 28 (0, 0)) (by (with_reducible repeat (first | refine blk_drewN ?_ _ | refine blk_drew ?_ | refine blk_alloc ?_ _)); exact BK115.out) hb); have n2_ := Aside0.mk (blk_below (g := gb116) (o := .cells #[.int .i64 x117000_3, .int .i64 x117001_3] 28 (0, 0)) (by (with_reducible repeat (first | refine blk_drewN ?_ _ | refine blk_drew ?_ | refine blk_alloc ?_ _)); exact BK116.out) hb); have n3_ := Aside0.mk (IsS68.below (by repeat (first | (with_reducible first | exact HI0.out | apply IsS68.alloc | apply IsS68.drewN | apply IsS68.drew | apply IsS68.set_1 | refine IsS68.far ?_ NB0_115.out _ | refine IsS68.far ?_ NB0_116.out _) | exact HI0.out)) hb); have n4_ := Aside0.mk (KeepBut.trans (by repeat (first | (with_reducible first | exact HK.out | apply KeepBut.set_ | apply keep_drewN | apply keep_drew | apply keep_alloc | refine keep_far ?_ GW115.out _ | refine keep_far ?_ GW116.out _) | exact HK.out)) (KeepBut.of_below hb g none) (.inl rfl)); have n5_ := Aside0.mk (below_step (by repeat (first | (with_reducible first | exact HB.out | apply below_alloc | apply pw_below_drewN | apply below_drew1 | refine below_set ?_ (IsS68.ge HI0.out) | refine below_set ?_ GE115.out | refine below_set ?_ GE116.out) | exact HB.out)) hb); clear BK115; clear BK116; clear HI0; clear HK; clear HB; have HO131 := n0_; have BK115 := n1_; have BK116 := n2_; have HI0 := n3_; have HK := n4_; have HB := n5_; clear n0_ n1_ n2_ n3_ n4_ n5_; clear hb ho39) | ((with_reducible refine gate_callee (f := 15) rfl ?_); refine goesL_ (some 34) rfl rfl Tryd.func15 (by kernel_rfl) rfl #[.pointer (some ⟨g, 0, none⟩), .int .i64 3] rfl (by (try simp only [List.map_toArray, List.map_cons, List.map_nil]); first | done | rfl | (simp only [List.length_drop, List.length_take]; rfl) | (simp only [Ny129.out, List.length_drop, List.length_take]; rfl)) ?_; (with_reducible refine (spec_l20Rd_pick.calls kj3 g s0_0 t128 3 t132 t133 w0 _ ?side1 ?side2 A33.out).mono ?_); (case side1 => repeat (first | (with_reducible first | exact HI0.out | apply IsS68.alloc | apply IsS68.drewN | apply IsS68.drew | apply IsS68.set_1 | refine IsS68.far ?_ NB0_115.out _ | refine IsS68.far ?_ NB0_116.out _) | exact HI0.out)); (case side2 => repeat (first | (with_reducible first | exact HB.out | apply below_alloc | apply pw_below_drewN | apply below_drew1 | refine below_set ?_ (IsS68.ge HI0.out) | refine below_set ?_ GE115.out | refine below_set ?_ GE116.out) | exact HB.out)); rintro e w40 ⟨rfl, hi, hb, hk⟩; refine ⟨_, rfl, ?_⟩; have n0_ := Aside0.mk (KeepBut.blk hk (g' := gb115) (o := .cells #[.int .i64 0, .int .i64 0] 28 (0, 0)) (by (with_reducible repeat (first | refine blk_drewN ?_ _ | refine blk_drew ?_ | refine blk_alloc ?_ _)); exact BK115.out) NB115_0.out (by simp)); have n1_ := Aside0.mk (KeepBut.blk hk (g' := gb116) (o := .cells #[.int .i64 x117000_3, .int .i64 x117001_3] 28 (0, 0)) (by (with_reducible repeat (first | refine blk_drewN ?_ _ | refine blk_drew ?_ | refine blk_alloc ?_ _)); exact BK116.out) NB116_0.out (by simp)); have n2_ := Aside0.mk (Kd.R_mono (Kd.R_keep (IsS68.apart (show IsS68 w0 _ g s0_0 t128 from by repeat (first | (with_reducible first | exact HI0.out | apply IsS68.alloc | apply IsS68.drewN | apply IsS68.drew | apply IsS68.set_1 | refine IsS68.far ?_ NB0_115.out _ | refine IsS68.far ?_ NB0_116.out _) | exact HI0.out)) (by (with_reducible repeat (first | apply Kd.R_alloc | apply Kd.R_drewN | apply Kd.R_drew)); exact HO131.out) (by decide)) hk (fun _ h => h.2)) (fun _ h => h.1)); have n3_ := Aside0.mk (KeepBut.trans (by repeat (first | (with_reducible first | exact HK.out | apply KeepBut.set_ | apply keep_drewN | apply keep_drew | apply keep_alloc | refine keep_far ?_ GW115.out _ | refine keep_far ?_ GW116.out _) | exact HK.out)) hk (.inl rfl)); have n4_ := Aside0.mk (hb); have n5_ := Aside0.mk (hi); clear BK115; clear BK116; clear HO131; clear HK; clear HB; clear HI0; have BK115 := n0_; have BK116 := n1_; have HO131 := n2_; have HK := n3_; have HB := n4_; have HI0 := n5_; clear n0_ n1_ n2_ n3_ n4_ n5_; (try clear hb); (try clear hb2); (try clear hk); (try clear hi); obtain ⟨Ao41, co41, eo41⟩ := Kd.R_slice HO131.out; subst eo41; have p134 : 0 ≤ (t132 : Int) := of_decide_eq_true (by first | (with_reducible assumption) | assumption); have q134 : t132 < (y129.length : Int) := of_decide_eq_true (by first | (with_reducible assumption) | assumption); obtain ⟨ad134, e134, hx134_0⟩ := Kd.at_int (Kd.R_reads' HO131.out).2.2 t132 p134 q134; cases e134; replace p134 := eq_true p134; replace q134 := eq_true q134; have hnb42 := NB116_115.out; have hnc42 := NB115_116.out; have hnb43 := NB116_0.out; have hnc43 := NB0_116.out; have hcz44_0 : w40.cell? ⟨gb116, 0, none⟩ = some (.int .i64 x117000_3) := (blk_cell BK116.out 0).trans rfl; have hcz44_1 : w40.cell? ⟨gb116, 1, none⟩ = some (.int .i64 x117001_3) := (blk_cell BK116.out 1).trans rfl; have hfz44_0 := blk_frozen BK116.out 0; have hfz44_1 := blk_frozen BK116.out 1; have hnb45 := NB115_0.out; have hnc45 := NB0_115.out; have hcz46_0 : w40.cell? ⟨gb115, 0, none⟩ = some (.int .i64 0) := (blk_cell BK115.out 0).trans rfl; have hcz46_1 : w40.cell? ⟨gb115, 1, none⟩ = some (.int .i64 0) := (blk_cell BK115.out 1).trans rfl; have hfz46_0 := blk_frozen BK115.out 0; have hfz46_1 := blk_frozen BK115.out 1))
              refine bodyPost_ret (results_cell_row rfl _ _ gb115 28 #[.int .i64 (rd y129 t132), .int .i64 x117001_3] (0, 0) _ rfl (by (with_reducible repeat (first | refine blk_drewN ?_ _ | refine blk_drew ?_ | refine blk_alloc ?_ _)); refine blk_put (cs := #[.int .i64 (rd y129 t132), .int .i64 0]) ?_ 1 _ rfl; (with_reducible repeat (first | refine blk_drewN ?_ _ | refine blk_drew ?_ | refine blk_alloc ?_ _)); refine blk_put (cs := #[.int .i64 0, .int .i64 0]) ?_ 0 _ rfl; (with_reducible repeat (first | refine blk_drewN ?_ _ | refine blk_drew ?_ | refine blk_alloc ?_ _)); refine blk_far ?_ NB115_116.out _; (with_reducible repeat (first | refine blk_drewN ?_ _ | refine blk_drew ?_ | refine blk_alloc ?_ _)); exact BK115.out) Tryd.underlying28 rfl (by kernel_rfl)) rfl ?_
              exact ⟨by first | rfl | (simp [IntKind.wrap_i64, wrap64]; done) | (simp [errW_none, errW_some] <;> rfl) | (simp [*, errW_none, errW_some] <;> rfl), by repeat (first | (with_reducible first | exact HI0.out | apply IsS68.alloc | apply IsS68.drewN | apply IsS68.drew | apply IsS68.set_1 | refine IsS68.far ?_ NB0_115.out _ | refine IsS68.far ?_ NB0_116.out _) | exact HI0.out), by repeat (first | (with_reducible first | exact HB.out | apply below_alloc | apply pw_below_drewN | apply below_drew1 | refine below_set ?_ (IsS68.ge HI0.out) | refine below_set ?_ GE115.out | refine below_set ?_ GE116.out) | exact HB.out), by repeat (first | (with_reducible first | exact HK.out | apply KeepBut.set_ | apply keep_drewN | apply keep_drew | apply keep_alloc | refine keep_far ?_ GW115.out _ | refine keep_far ?_ GW116.out _) | exact HK.out)⟩
            · rw [if_neg c35] at H
              exact absurd H (by simp)
          · rw [if_neg c34] at H
            exact absurd H (by simp)
        · rw [if_neg c32] at H
          have c32b0 : (t127 == 0) = false := beq_eq_false_iff_ne.mpr c32
          have c32b1 : (t127 != 0) = true := bne_iff_ne.mpr c32
          obtain ⟨y135, hy135⟩ : ∃ y_ : List Int, y_ = (([(-1), 4, 0, 1] : List Int)) := ⟨_, rfl⟩
          replace H : ((spec_l20Rd_pick.f kj3 s0_0 t128 4).bind fun bt138 => (if 0 ≤ bt138.1 then (if bt138.1 < (y135.length : Int) then (some (x117000_3, rd y135 bt138.1, bt138.2)) else (none)) else (none))) = some (r1, r2, r3) := by first | (rw [hy135]; with_reducible exact H) | (have H2_ := (Option.bind_some _ _).symm.trans H; rw [hy135]; with_reducible exact H2_) | (have H2_ := (Option.bind_some _ _).symm.trans H; with_reducible exact H2_) | with_reducible exact H | (rw [hy135]; exact H) | exact H
          have Ny135 := Aside0.mk hy135
          clear hy135
          replace H := Option.bind_eq_some_iff.mp H
          obtain ⟨⟨t138, t139⟩, A470, H⟩ := H
          replace H : (if 0 ≤ t138 then (if t138 < (y135.length : Int) then (some (x117000_3, rd y135 t138, t139)) else (none)) else (none)) = some (r1, r2, r3) := H
          have A47 := Aside0.mk A470
          clear A470
          by_cases c48 : 0 ≤ t138
          · rw [if_pos c48] at H
            have c48b0 : decide (0 ≤ t138) = true := decide_eq_true c48
            clear c48
            by_cases c49 : t138 < (y135.length : Int)
            · rw [if_pos c49] at H
              have c49b0 : decide (t138 < (y135.length : Int)) = true := decide_eq_true c49
              clear c49
              simp only [Option.some.injEq, Prod.mk.injEq] at H
              obtain ⟨rfl, rfl, rfl⟩ := H
              go_wp2_with (first | ((with_reducible refine gate_callee (f := 15) rfl ?_); refine goesL_ (some 27) rfl rfl Tryd.func15 (by kernel_rfl) rfl #[.pointer (some ⟨g, 0, none⟩), .int .i64 a1] rfl (by (try simp only [List.map_toArray, List.map_cons, List.map_nil]); first | done | rfl | (simp only [List.length_drop, List.length_take]; rfl) | (simp only [Ny135.out, List.length_drop, List.length_take]; rfl)) ?_; (with_reducible refine (spec_l20Rd_pick.calls kj3 g s0_0 x1001_3 a1 t125 t126 w0 _ ?side1 ?side2 A29.out).mono ?_); (case side1 => repeat (first | (with_reducible first | exact HI0.out | apply IsS68.alloc | apply IsS68.drewN | apply IsS68.drew | apply IsS68.set_1 | refine IsS68.far ?_ NB0_115.out _ | refine IsS68.far ?_ NB0_116.out _) | exact HI0.out)); (case side2 => repeat (first | (with_reducible first | exact HB.out | apply below_alloc | apply pw_below_drewN | apply below_drew1 | refine below_set ?_ (IsS68.ge HI0.out) | refine below_set ?_ GE115.out | refine below_set ?_ GE116.out) | exact HB.out)); rintro e w50 ⟨rfl, hi, hb, hk⟩; refine ⟨_, rfl, ?_⟩; have n0_ := Aside0.mk (KeepBut.blk hk (g' := gb115) (o := .cells #[.int .i64 0, .int .i64 0] 28 (0, 0)) (by (with_reducible repeat (first | refine blk_drewN ?_ _ | refine blk_drew ?_ | refine blk_alloc ?_ _)); exact BK115.out) NB115_0.out (by simp)); have n1_ := Aside0.mk (KeepBut.blk hk (g' := gb116) (o := .cells #[.int .i64 x117000_3, .int .i64 x117001_3] 28 (0, 0)) (by (with_reducible repeat (first | refine blk_drewN ?_ _ | refine blk_drew ?_ | refine blk_alloc ?_ _)); exact BK116.out) NB116_0.out (by simp)); have n2_ := Aside0.mk (KeepBut.trans (by repeat (first | (with_reducible first | exact HK.out | apply KeepBut.set_ | apply keep_drewN | apply keep_drew | apply keep_alloc | refine keep_far ?_ GW115.out _ | refine keep_far ?_ GW116.out _) | exact HK.out)) hk (.inl rfl)); have n3_ := Aside0.mk (hb); have n4_ := Aside0.mk (hi); clear BK115; clear BK116; clear HK; clear HB; clear HI0; have BK115 := n0_; have BK116 := n1_; have HK := n2_; have HB := n3_; have HI0 := n4_; clear n0_ n1_ n2_ n3_ n4_; (try clear hb); (try clear hb2); (try clear hk); (try clear hi)) | ((with_reducible refine gate_callee (f := 15) rfl ?_); refine goesL_ (some 30) rfl rfl Tryd.func15 (by kernel_rfl) rfl #[.pointer (some ⟨g, 0, none⟩), .int .i64 2] rfl (by (try simp only [List.map_toArray, List.map_cons, List.map_nil]); first | done | rfl | (simp only [List.length_drop, List.length_take]; rfl) | (simp only [Ny135.out, List.length_drop, List.length_take]; rfl)) ?_; (with_reducible refine (spec_l20Rd_pick.calls kj3 g s0_0 t126 2 t127 t128 w0 _ ?side1 ?side2 A31.out).mono ?_); (case side1 => repeat (first | (with_reducible first | exact HI0.out | apply IsS68.alloc | apply IsS68.drewN | apply IsS68.drew | apply IsS68.set_1 | refine IsS68.far ?_ NB0_115.out _ | refine IsS68.far ?_ NB0_116.out _) | exact HI0.out)); (case side2 => repeat (first | (with_reducible first | exact HB.out | apply below_alloc | apply pw_below_drewN | apply below_drew1 | refine below_set ?_ (IsS68.ge HI0.out) | refine below_set ?_ GE115.out | refine below_set ?_ GE116.out) | exact HB.out)); rintro e w51 ⟨rfl, hi, hb, hk⟩; refine ⟨_, rfl, ?_⟩; have n0_ := Aside0.mk (KeepBut.blk hk (g' := gb115) (o := .cells #[.int .i64 0, .int .i64 0] 28 (0, 0)) (by (with_reducible repeat (first | refine blk_drewN ?_ _ | refine blk_drew ?_ | refine blk_alloc ?_ _)); exact BK115.out) NB115_0.out (by simp)); have n1_ := Aside0.mk (KeepBut.blk hk (g' := gb116) (o := .cells #[.int .i64 x117000_3, .int .i64 x117001_3] 28 (0, 0)) (by (with_reducible repeat (first | refine blk_drewN ?_ _ | refine blk_drew ?_ | refine blk_alloc ?_ _)); exact BK116.out) NB116_0.out (by simp)); have n2_ := Aside0.mk (KeepBut.trans (by repeat (first | (with_reducible first | exact HK.out | apply KeepBut.set_ | apply keep_drewN | apply keep_drew | apply keep_alloc | refine keep_far ?_ GW115.out _ | refine keep_far ?_ GW116.out _) | exact HK.out)) hk (.inl rfl)); have n3_ := Aside0.mk (hb); have n4_ := Aside0.mk (hi); clear BK115; clear BK116; clear HK; clear HB; clear HI0; have BK115 := n0_; have BK116 := n1_; have HK := n2_; have HB := n3_; have HI0 := n4_; clear n0_ n1_ n2_ n3_ n4_; (try clear hb); (try clear hb2); (try clear hk); (try clear hi)) | ((with_reducible refine gate_dst (N := 38) rfl ?_); refine Kd.R_lit (Kd.int .i64) _ 3 ?hg (N := 38) ?hd (xs := ([(-1), 4, 0, 1] : List Int)) (inner := [.int .i64 (-1), .int .i64 4, .int .i64 0, .int .i64 1]) (ok := fun _ => True) (okp := fun _ => True) ?hr ?hp (fun _ hk => hk) trivial (Below.refl _ _) (Nat.le_refl _) (by simp) ?_; (case hd => rfl); (case hg => rfl); (case hr => first | (go_simp; done) | (go_simp; rfl)); (case hp => exact (Reps.one (show Kd.M (Kd.int .i64) _ _ _ (-1) [.int .i64 (-1)] from rfl) (Reps.one (show Kd.M (Kd.int .i64) _ _ _ 4 [.int .i64 4] from rfl) (Reps.one (show Kd.M (Kd.int .i64) _ _ _ 0 [.int .i64 0] from rfl) (Reps.one (show Kd.M (Kd.int .i64) _ _ _ 1 [.int .i64 1] from rfl) (Reps.none _ _)))))); intro v136 w52 ho53 hb hg_ hnew_; clear hg_ hnew_; (first | rw [← Ny135.out] at ho53 | (simp only [Int.reduceToNat] at ho53; rw [← Ny135.out] at ho53)); have n0_ := Aside0.mk (Kd.R_lower ho53 (keep_size (w := w) (g := g) (row := none) (by repeat (first | (with_reducible first | exact HK.out | apply KeepBut.set_ | apply keep_drewN | apply keep_drew | apply keep_alloc | refine keep_far ?_ GW115.out _ | refine keep_far ?_ GW116.out _) | exact HK.out)))); have n1_ := Aside0.mk (blk_below (g := gb115) (o := .cells #[.int .i64 0, .int .i64 0] 28 (0, 0)) (by (with_reducible repeat (first | refine blk_drewN ?_ _ | refine blk_drew ?_ | refine blk_alloc ?_ _)); exact BK115.out) hb); have n2_ := Aside0.mk (blk_below (g := gb116) (o := .cells #[.int .i64 x117000_3, .int .i64 x117001_3] 28 (0, 0)) (by (with_reducible repeat (first | refine blk_drewN ?_ _ | refine blk_drew ?_ | refine blk_alloc ?_ _)); exact BK116.out) hb); have n3_ := Aside0.mk (IsS68.below (by repeat (first | (with_reducible first | exact HI0.out | apply IsS68.alloc | apply IsS68.drewN | apply IsS68.drew | apply IsS68.set_1 | refine IsS68.far ?_ NB0_115.out _ | refine IsS68.far ?_ NB0_116.out _) | exact HI0.out)) hb); have n4_ := Aside0.mk (KeepBut.trans (by repeat (first | (with_reducible first | exact HK.out | apply KeepBut.set_ | apply keep_drewN | apply keep_drew | apply keep_alloc | refine keep_far ?_ GW115.out _ | refine keep_far ?_ GW116.out _) | exact HK.out)) (KeepBut.of_below hb g none) (.inl rfl)); have n5_ := Aside0.mk (below_step (by repeat (first | (with_reducible first | exact HB.out | apply below_alloc | apply pw_below_drewN | apply below_drew1 | refine below_set ?_ (IsS68.ge HI0.out) | refine below_set ?_ GE115.out | refine below_set ?_ GE116.out) | exact HB.out)) hb); clear BK115; clear BK116; clear HI0; clear HK; clear HB; have HO137 := n0_; have BK115 := n1_; have BK116 := n2_; have HI0 := n3_; have HK := n4_; have HB := n5_; clear n0_ n1_ n2_ n3_ n4_ n5_; clear hb ho53) | ((with_reducible refine gate_callee (f := 15) rfl ?_); refine goesL_ (some 40) rfl rfl Tryd.func15 (by kernel_rfl) rfl #[.pointer (some ⟨g, 0, none⟩), .int .i64 4] rfl (by (try simp only [List.map_toArray, List.map_cons, List.map_nil]); first | done | rfl | (simp only [List.length_drop, List.length_take]; rfl) | (simp only [Ny135.out, List.length_drop, List.length_take]; rfl)) ?_; (with_reducible refine (spec_l20Rd_pick.calls kj3 g s0_0 t128 4 t138 t139 w0 _ ?side1 ?side2 A47.out).mono ?_); (case side1 => repeat (first | (with_reducible first | exact HI0.out | apply IsS68.alloc | apply IsS68.drewN | apply IsS68.drew | apply IsS68.set_1 | refine IsS68.far ?_ NB0_115.out _ | refine IsS68.far ?_ NB0_116.out _) | exact HI0.out)); (case side2 => repeat (first | (with_reducible first | exact HB.out | apply below_alloc | apply pw_below_drewN | apply below_drew1 | refine below_set ?_ (IsS68.ge HI0.out) | refine below_set ?_ GE115.out | refine below_set ?_ GE116.out) | exact HB.out)); rintro e w54 ⟨rfl, hi, hb, hk⟩; refine ⟨_, rfl, ?_⟩; have n0_ := Aside0.mk (KeepBut.blk hk (g' := gb115) (o := .cells #[.int .i64 0, .int .i64 0] 28 (0, 0)) (by (with_reducible repeat (first | refine blk_drewN ?_ _ | refine blk_drew ?_ | refine blk_alloc ?_ _)); exact BK115.out) NB115_0.out (by simp)); have n1_ := Aside0.mk (KeepBut.blk hk (g' := gb116) (o := .cells #[.int .i64 x117000_3, .int .i64 x117001_3] 28 (0, 0)) (by (with_reducible repeat (first | refine blk_drewN ?_ _ | refine blk_drew ?_ | refine blk_alloc ?_ _)); exact BK116.out) NB116_0.out (by simp)); have n2_ := Aside0.mk (Kd.R_mono (Kd.R_keep (IsS68.apart (show IsS68 w0 _ g s0_0 t128 from by repeat (first | (with_reducible first | exact HI0.out | apply IsS68.alloc | apply IsS68.drewN | apply IsS68.drew | apply IsS68.set_1 | refine IsS68.far ?_ NB0_115.out _ | refine IsS68.far ?_ NB0_116.out _) | exact HI0.out)) (by (with_reducible repeat (first | apply Kd.R_alloc | apply Kd.R_drewN | apply Kd.R_drew)); exact HO137.out) (by decide)) hk (fun _ h => h.2)) (fun _ h => h.1)); have n3_ := Aside0.mk (KeepBut.trans (by repeat (first | (with_reducible first | exact HK.out | apply KeepBut.set_ | apply keep_drewN | apply keep_drew | apply keep_alloc | refine keep_far ?_ GW115.out _ | refine keep_far ?_ GW116.out _) | exact HK.out)) hk (.inl rfl)); have n4_ := Aside0.mk (hb); have n5_ := Aside0.mk (hi); clear BK115; clear BK116; clear HO137; clear HK; clear HB; clear HI0; have BK115 := n0_; have BK116 := n1_; have HO137 := n2_; have HK := n3_; have HB := n4_; have HI0 := n5_; clear n0_ n1_ n2_ n3_ n4_ n5_; (try clear hb); (try clear hb2); (try clear hk); (try clear hi); obtain ⟨Ao55, co55, eo55⟩ := Kd.R_slice HO137.out; subst eo55; have p140 : 0 ≤ (t138 : Int) := of_decide_eq_true (by first | (with_reducible assumption) | assumption); have q140 : t138 < (y135.length : Int) := of_decide_eq_true (by first | (with_reducible assumption) | assumption); obtain ⟨ad140, e140, hx140_0⟩ := Kd.at_int (Kd.R_reads' HO137.out).2.2 t138 p140 q140; cases e140; replace p140 := eq_true p140; replace q140 := eq_true q140; have hnb56 := NB116_115.out; have hnc56 := NB115_116.out; have hnb57 := NB116_0.out; have hnc57 := NB0_116.out; have hcz58_0 : w54.cell? ⟨gb116, 0, none⟩ = some (.int .i64 x117000_3) := (blk_cell BK116.out 0).trans rfl; have hcz58_1 : w54.cell? ⟨gb116, 1, none⟩ = some (.int .i64 x117001_3) := (blk_cell BK116.out 1).trans rfl; have hfz58_0 := blk_frozen BK116.out 0; have hfz58_1 := blk_frozen BK116.out 1; have hnb59 := NB115_0.out; have hnc59 := NB0_115.out; have hcz60_0 : w54.cell? ⟨gb115, 0, none⟩ = some (.int .i64 0) := (blk_cell BK115.out 0).trans rfl; have hcz60_1 : w54.cell? ⟨gb115, 1, none⟩ = some (.int .i64 0) := (blk_cell BK115.out 1).trans rfl; have hfz60_0 := blk_frozen BK115.out 0; have hfz60_1 := blk_frozen BK115.out 1))
              refine bodyPost_ret (results_cell_row rfl _ _ gb115 28 #[.int .i64 x117000_3, .int .i64 (rd y135 t138)] (0, 0) _ rfl (by (with_reducible repeat (first | refine blk_drewN ?_ _ | refine blk_drew ?_ | refine blk_alloc ?_ _)); refine blk_put (cs := #[.int .i64 x117000_3, .int .i64 0]) ?_ 1 _ rfl; (with_reducible repeat (first | refine blk_drewN ?_ _ | refine blk_drew ?_ | refine blk_alloc ?_ _)); refine blk_put (cs := #[.int .i64 0, .int .i64 0]) ?_ 0 _ rfl; (with_reducible repeat (first | refine blk_drewN ?_ _ | refine blk_drew ?_ | refine blk_alloc ?_ _)); refine blk_far ?_ NB115_116.out _; (with_reducible repeat (first | refine blk_drewN ?_ _ | refine blk_drew ?_ | refine blk_alloc ?_ _)); exact BK115.out) Tryd.underlying28 rfl (by kernel_rfl)) rfl ?_
              exact ⟨by first | rfl | (simp [IntKind.wrap_i64, wrap64]; done) | (simp [errW_none, errW_some] <;> rfl) | (simp [*, errW_none, errW_some] <;> rfl), by repeat (first | (with_reducible first | exact HI0.out | apply IsS68.alloc | apply IsS68.drewN | apply IsS68.drew | apply IsS68.set_1 | refine IsS68.far ?_ NB0_115.out _ | refine IsS68.far ?_ NB0_116.out _) | exact HI0.out), by repeat (first | (with_reducible first | exact HB.out | apply below_alloc | apply pw_below_drewN | apply below_drew1 | refine below_set ?_ (IsS68.ge HI0.out) | refine below_set ?_ GE115.out | refine below_set ?_ GE116.out) | exact HB.out), by repeat (first | (with_reducible first | exact HK.out | apply KeepBut.set_ | apply keep_drewN | apply keep_drew | apply keep_alloc | refine keep_far ?_ GW115.out _ | refine keep_far ?_ GW116.out _) | exact HK.out)⟩
            · rw [if_neg c49] at H
              exact absurd H (by simp)
          · rw [if_neg c48] at H
            exact absurd H (by simp)
      · rw [if_neg c30] at H
        have c30b0 : (t125 == 0) = false := beq_eq_false_iff_ne.mpr c30
        have c30b1 : (t125 != 0) = true := bne_iff_ne.mpr c30
        simp only [Option.some.injEq, Prod.mk.injEq] at H
        obtain ⟨rfl, rfl, rfl⟩ := H
        go_wp2_with (first | ((with_reducible refine gate_callee (f := 15) rfl ?_); refine goesL_ (some 27) rfl rfl Tryd.func15 (by kernel_rfl) rfl #[.pointer (some ⟨g, 0, none⟩), .int .i64 a1] rfl (by (try simp only [List.map_toArray, List.map_cons, List.map_nil]); first | done | rfl | (simp only [List.length_drop, List.length_take]; rfl)) ?_; (with_reducible refine (spec_l20Rd_pick.calls kj3 g s0_0 x1001_3 a1 t125 t126 w0 _ ?side1 ?side2 A29.out).mono ?_); (case side1 => repeat (first | (with_reducible first | exact HI0.out | apply IsS68.alloc | apply IsS68.drewN | apply IsS68.drew | apply IsS68.set_1 | refine IsS68.far ?_ NB0_115.out _ | refine IsS68.far ?_ NB0_116.out _) | exact HI0.out)); (case side2 => repeat (first | (with_reducible first | exact HB.out | apply below_alloc | apply pw_below_drewN | apply below_drew1 | refine below_set ?_ (IsS68.ge HI0.out) | refine below_set ?_ GE115.out | refine below_set ?_ GE116.out) | exact HB.out)); rintro e w61 ⟨rfl, hi, hb, hk⟩; refine ⟨_, rfl, ?_⟩; have n0_ := Aside0.mk (KeepBut.blk hk (g' := gb115) (o := .cells #[.int .i64 0, .int .i64 0] 28 (0, 0)) (by (with_reducible repeat (first | refine blk_drewN ?_ _ | refine blk_drew ?_ | refine blk_alloc ?_ _)); exact BK115.out) NB115_0.out (by simp)); have n1_ := Aside0.mk (KeepBut.blk hk (g' := gb116) (o := .cells #[.int .i64 x117000_3, .int .i64 x117001_3] 28 (0, 0)) (by (with_reducible repeat (first | refine blk_drewN ?_ _ | refine blk_drew ?_ | refine blk_alloc ?_ _)); exact BK116.out) NB116_0.out (by simp)); have n2_ := Aside0.mk (KeepBut.trans (by repeat (first | (with_reducible first | exact HK.out | apply KeepBut.set_ | apply keep_drewN | apply keep_drew | apply keep_alloc | refine keep_far ?_ GW115.out _ | refine keep_far ?_ GW116.out _) | exact HK.out)) hk (.inl rfl)); have n3_ := Aside0.mk (hb); have n4_ := Aside0.mk (hi); clear BK115; clear BK116; clear HK; clear HB; clear HI0; have BK115 := n0_; have BK116 := n1_; have HK := n2_; have HB := n3_; have HI0 := n4_; clear n0_ n1_ n2_ n3_ n4_; (try clear hb); (try clear hb2); (try clear hk); (try clear hi); have hnb62 := NB116_115.out; have hnc62 := NB115_116.out; have hnb63 := NB116_0.out; have hnc63 := NB0_116.out; have hcz64_0 : w61.cell? ⟨gb116, 0, none⟩ = some (.int .i64 x117000_3) := (blk_cell BK116.out 0).trans rfl; have hcz64_1 : w61.cell? ⟨gb116, 1, none⟩ = some (.int .i64 x117001_3) := (blk_cell BK116.out 1).trans rfl; have hfz64_0 := blk_frozen BK116.out 0; have hfz64_1 := blk_frozen BK116.out 1; have hnb65 := NB115_0.out; have hnc65 := NB0_115.out; have hcz66_0 : w61.cell? ⟨gb115, 0, none⟩ = some (.int .i64 0) := (blk_cell BK115.out 0).trans rfl; have hcz66_1 : w61.cell? ⟨gb115, 1, none⟩ = some (.int .i64 0) := (blk_cell BK115.out 1).trans rfl; have hfz66_0 := blk_frozen BK115.out 0; have hfz66_1 := blk_frozen BK115.out 1))
        refine bodyPost_ret (results_cell_row rfl _ _ gb115 28 #[.int .i64 x117000_3, .int .i64 x117001_3] (0, 0) _ rfl (by (with_reducible repeat (first | refine blk_drewN ?_ _ | refine blk_drew ?_ | refine blk_alloc ?_ _)); refine blk_put (cs := #[.int .i64 x117000_3, .int .i64 0]) ?_ 1 _ rfl; (with_reducible repeat (first | refine blk_drewN ?_ _ | refine blk_drew ?_ | refine blk_alloc ?_ _)); refine blk_put (cs := #[.int .i64 0, .int .i64 0]) ?_ 0 _ rfl; (with_reducible repeat (first | refine blk_drewN ?_ _ | refine blk_drew ?_ | refine blk_alloc ?_ _)); exact BK115.out) Tryd.underlying28 rfl (by kernel_rfl)) rfl ?_
        exact ⟨by first | rfl | (simp [IntKind.wrap_i64, wrap64]; done) | (simp [errW_none, errW_some] <;> rfl) | (simp [*, errW_none, errW_some] <;> rfl), by repeat (first | (with_reducible first | exact HI0.out | apply IsS68.alloc | apply IsS68.drewN | apply IsS68.drew | apply IsS68.set_1 | refine IsS68.far ?_ NB0_115.out _ | refine IsS68.far ?_ NB0_116.out _) | exact HI0.out), by repeat (first | (with_reducible first | exact HB.out | apply below_alloc | apply pw_below_drewN | apply below_drew1 | refine below_set ?_ (IsS68.ge HI0.out) | refine below_set ?_ GE115.out | refine below_set ?_ GE116.out) | exact HB.out), by repeat (first | (with_reducible first | exact HK.out | apply KeepBut.set_ | apply keep_drewN | apply keep_drew | apply keep_alloc | refine keep_far ?_ GW115.out _ | refine keep_far ?_ GW116.out _) | exact HK.out)⟩

/-! ### spec_l20AnyText: function 41 (by hand) -/
def spec_l20AnyText.T5 : Bool × List (List Nat × List Nat) := (true, [([], []), ([], []), ([0, 1], [0, 1]), ([], []), ([], []), ([4], [4]), ([3, 5], [3, 5]), ([6], [6]), ([2, 7], [2, 7]), ([], []), ([], []), ([9, 10], [9, 10]), ([8, 11], [8, 11]), ([12, 5, 0, 1, 2, 3, 4, 5, 6, 7, 8, 9, 10, 11, 12], [12])])
def spec_l20AnyText.B5 : List Nat := [0, 0, 3, 0, 0, 16, 56, 120, 255, 0, 0, 1536, 4095, 8191]
def spec_l20AnyText.L5 : List (Nat × Tmp) := [(0, 19), (1, 20), (2, 21), (3, 22), (4, 23), (5, 24), (6, 25), (7, 26), (8, 27), (9, 28), (10, 29), (11, 30), (12, 31), (13, 4)]
def spec_l20AnyText.O5 : List Nat := [0, 1, 2, 3, 4, 5, 6, 7, 8, 9, 10, 11, 12, 13]
theorem spec_l20AnyText.tab5 : rtab .any (opsOf Tryd.f41 5) = spec_l20AnyText.T5 := by kernel_rfl
theorem spec_l20AnyText.bits5 : waitsOk spec_l20AnyText.T5.2 spec_l20AnyText.B5 = true := by kernel_rfl
theorem spec_l20AnyText.base5 : baseOk spec_l20AnyText.T5.2 spec_l20AnyText.O5 = true := by kernel_rfl
theorem spec_l20AnyText.lof5 : (lof spec_l20AnyText.T5.2.length spec_l20AnyText.O5 (fun _ => false) == List.replicate spec_l20AnyText.T5.2.length false && spec_l20AnyText.O5.length == spec_l20AnyText.T5.2.length) = true := by kernel_rfl
theorem spec_l20AnyText.ents5 : chkL (opsOf Tryd.f41 5) spec_l20AnyText.O5 spec_l20AnyText.L5 = true := by kernel_rfl
/-- What is put into a text. -/
def ppWrong7 : List ByteArray := [⟨#[32]⟩, ⟨#[32, 32]⟩, ⟨#[65]⟩, ⟨#[49]⟩, ⟨#[45]⟩, ⟨#[0]⟩, ⟨#[97, 98, 99, 100, 101, 102, 103, 104, 105, 106, 97, 98, 99, 100, 101, 102, 103, 104, 105, 106, 97, 98, 99, 100, 101, 102, 103, 104, 105, 106, 120]⟩]
theorem ppWrong7_size (i : Nat) : (ppWrong7.getD i ByteArray.empty).size ≤ 31 := by
  match i with
  | 0 | 1 | 2 | 3 | 4 | 5 | 6 => decide
  | i + 7 => simp [ppWrong7]
theorem ppWrong7_at {i : Nat} (h : i < 7) : (ppWrong7.map Value.string).toArray[i]? = some (.string (ppWrong7.getD i ByteArray.empty)) := by
  have : i < ppWrong7.length := h
  simp [List.getD_eq_getElem?_getD, List.getElem?_eq_getElem this]
def spec_l20AnyText.f (k : Nat) (s : List Int) (p n : Int) : Option (ByteArray × Int) := (spec_l20Text.f k s p).bind fun t => (spec_l20Rd_pick.f k s t.2 n).bind fun c => if c.1 > 0 then some (t.1, c.2) else if t.1.size ≤ 1000000 then
  (spec_l20Rd_pick.f k s c.2 ((t.1.size : Int) + 1)).bind fun d => (spec_l20Rd_pick.f k s d.2 7).bind fun e => if 0 ≤ d.1 ∧ d.1 ≤ t.1.size ∧ 0 ≤ e.1 ∧ e.1 < 7 then some (t.1.extract 0 d.1.toNat ++ ppWrong7.getD e.1.toNat ByteArray.empty ++ t.1.extract d.1.toNat t.1.size, e.2) else none else none
theorem spec_l20AnyText.mono : ∀ a0 a1 a2 k, LeO (spec_l20AnyText.f k a0 a1 a2) (spec_l20AnyText.f (k + 1) a0 a1 a2) := fun _ _ _ k => by
  unfold spec_l20AnyText.f
  exact LeO.bind (spec_l20Text.mono _ _ _) fun t => LeO.bind (spec_l20Rd_pick.mono _ _ _ _) fun c => LeO.ite (LeO.refl _) (LeO.ite (LeO.bind (spec_l20Rd_pick.mono _ _ _ _) fun d => LeO.bind (spec_l20Rd_pick.mono _ _ _ _) fun e => LeO.refl _) (LeO.none _))
def spec_l20AnyText.F5 (e : Nat) : Nat → Option (Nat → Value)
  | 3 => some (fun C => .slice (some ⟨C, 0, none⟩) 7 7)
  | 6 => some (fun C => .pointer (some ⟨C, e, none⟩))
  | _ => none
def spec_l20AnyText.V5 (x y : ByteArray) (d e g : Nat) : Nat → Value
  | 0 | 9 => .string x
  | 1 | 10 => .int .i64 d
  | 2 => .string (x.extract 0 d)
  | 4 => .pointer (some ⟨g, 0, none⟩)
  | 5 => .int .i64 e
  | 7 => .string y
  | 8 => .string (x.extract 0 d ++ y)
  | 11 => .string (x.extract d x.size)
  | _ => .string (x.extract 0 d ++ y ++ x.extract d x.size)
set_option maxHeartbeats 4000000 in
set_option maxRecDepth 100000 in
theorem spec_l20AnyText.calls (k : Nat) (g : Nat) (s0_0 : List Int) (s0_1 : Int) (a1 : Int) (r1 : ByteArray) (r2 : Int) (w0 w : World) (hI : IsS68 w0 w g s0_0 s0_1) (hB : Below w0.heap.size w0 w) (h : spec_l20AnyText.f k s0_0 s0_1 a1 = some (r1, r2)) :
    Calls Tryd.prog 41 #[.pointer (some ⟨g, 0, none⟩), .int .i64 a1] w fun e w' => e = .returned (.string r1) ∧ IsS68 w0 w' g s0_0 r2 ∧ Below w0.heap.size w0 w' ∧ KeepBut w w' g none := by
  have HR := Aside0.mk (Rds.new hI hB)
  clear hI hB
  unfold spec_l20AnyText.f at h
  rw [Option.bind_eq_some_iff] at h
  obtain ⟨⟨x, p1⟩, ht, h⟩ := h
  have AT := Aside0.mk ht
  clear ht
  rw [Option.bind_eq_some_iff] at h
  obtain ⟨⟨c, p2⟩, hc, h⟩ := h
  have AC := Aside0.mk hc
  clear hc
  simp only at h AC
  by_cases hc0 : c > 0
  · rw [if_pos hc0] at h
    replace h := Option.some.inj h
    injection h with h1 h2
    subst h1 h2
    go_enter Tryd.func41, Tryd.ntmps41
    go_wp2_with (first | (go_at_call 39; (with_reducible refine (spec_l20Text.calls k g s0_0 s0_1 x p1 w0 _ HR.out.st HR.out.bl AT.out).mono ?_); rintro e w1 ⟨rfl, hi, hb, hk⟩; have HR1 := Aside0.mk (HR.out.call hi hb hk); clear hi hb hk) | (go_at_call 15; (with_reducible refine (spec_l20Rd_pick.calls k g s0_0 p1 a1 c p2 w0 _ HR1.out.st HR1.out.bl AC.out).mono ?_); rintro e w2 ⟨rfl, hi, hb, hk⟩; have HR2 := Aside0.mk (HR1.out.call hi hb hk); clear hi hb hk))
    go_ret
    exact ⟨rfl, HR2.out.st, HR2.out.bl, HR2.out.kp⟩
  · rw [if_neg hc0] at h
    split at h
    · rename_i hx
      rw [Option.bind_eq_some_iff] at h
      obtain ⟨⟨d, p3⟩, hd, h⟩ := h
      have AD := Aside0.mk hd
      clear hd
      rw [Option.bind_eq_some_iff] at h
      obtain ⟨⟨e, p4⟩, he, h⟩ := h
      have AE := Aside0.mk he
      clear he
      simp only at h AD AE
      split at h
      · rename_i hh
        obtain ⟨hd0, hd1, he0, he1⟩ := hh
        obtain ⟨d, rfl⟩ : ∃ n : Nat, d = n := ⟨d.toNat, by omega⟩
        obtain ⟨e, rfl⟩ : ∃ n : Nat, e = n := ⟨e.toNat, by omega⟩
        rw [Int.toNat_natCast, Int.toNat_natCast] at h
        replace h := Option.some.inj h
        injection h with h1 h2
        have H1 := Aside0.mk h1
        subst h2
        clear h1
        have hc1 : ¬ (0 : Int) < c := hc0
        clear hc0
        go_enter Tryd.func41, Tryd.ntmps41
        go_wp2_with (first | (go_at_call 39; (with_reducible refine (spec_l20Text.calls k g s0_0 s0_1 x p1 w0 _ HR.out.st HR.out.bl AT.out).mono ?_); rintro e_ w1 ⟨rfl, hi, hb, hk⟩; have HR1 := Aside0.mk (HR.out.call hi hb hk); clear hi hb hk) | (go_at_call 15; (with_reducible refine (spec_l20Rd_pick.calls k g s0_0 p1 a1 c p2 w0 _ HR1.out.st HR1.out.bl AC.out).mono ?_); rintro e_ w2 ⟨rfl, hi, hb, hk⟩; have HR2 := Aside0.mk (HR1.out.call hi hb hk); clear hi hb hk) | (go_at_call 15; (with_reducible refine (spec_l20Rd_pick.calls k g s0_0 p2 ((x.size : Int) + 1) d p3 w0 _ HR2.out.st HR2.out.bl AD.out).mono ?_); rintro e_ w3 ⟨rfl, hi, hb, hk⟩; have HR3 := Aside0.mk (HR2.out.call hi hb hk); clear hi hb hk))
        have HXS := Aside0.mk hx
        have HY := Aside0.mk (show e < 7 by omega)
        have he1z : (e : Int) < ((7 : Nat) : Int) := by omega
        have hyz := ppWrong7_size e
        obtain ⟨y, hy⟩ : ∃ y, ppWrong7.getD e ByteArray.empty = y := ⟨_, rfl⟩
        rw [hy] at hyz
        have HYY := Aside0.mk hy
        have hz1 : min d x.size + y.size ≤ 9223372036854775807 := by omega
        have hz2 : min d x.size + y.size + (x.size - d) ≤ 9223372036854775807 := by omega
        clear hy
        have hlt := HR.out.lt
        refine region_env (T := spec_l20AnyText.T5) (B := spec_l20AnyText.B5) spec_l20AnyText.O5 spec_l20AnyText.L5 (PhiB (spec_l20AnyText.F5 e) (fun _ => .cells (ppWrong7.map Value.string).toArray 9 (0, 0)) (spec_l20AnyText.V5 x y d e g) w.heap.size)
          (fun b W => Rds w0 w g s0_0 (if b 5 = true then p4 else p3) W) (fun W W' => KeepBut W W' g none) rfl spec_l20AnyText.tab5 spec_l20AnyText.bits5 spec_l20AnyText.base5 spec_l20AnyText.lof5 spec_l20AnyText.ents5 (PhiB.keep hlt) HR3.out.drew ?_ ?_
        · have hk0 := fun W => KeepBut.refl W g none
          refine all_cons (EStep.pure hk0 fun b E a' W ha hG hP => ?_) ?_
          · have s5 : a'.tmps[5]? = some (.string x) := (slot_off ha rfl).trans rfl
            exact ⟨_, .string x, rfl, rfl, by clear ha hG hP; go_simp; try first | rfl | exact i64_w _, rfl, hG⟩
          refine all_cons (EStep.pure hk0 fun b E a' W ha hG hP => ?_) ?_
          · have s6 : a'.tmps[6]? = some (.int .i64 d) := (slot_off ha rfl).trans rfl
            exact ⟨_, .int .i64 d, rfl, rfl, by clear ha hG hP; go_simp; try first | rfl | exact i64_w _, rfl, hG⟩
          refine all_cons (EStep.pure hk0 fun b E a' W ha hG hP => ?_) ?_
          · have s19 : a'.tmps[19]? = some (.string x) := slotv ha (hP 0 rfl).1 rfl (hP 0 rfl).2
            have s20 : a'.tmps[20]? = some (.int .i64 d) := slotv ha (hP 1 rfl).1 rfl (hP 1 rfl).2
            exact ⟨_, .string (x.extract 0 d), rfl, rfl, by clear ha hG hP; go_simp; try first | rfl | exact i64_w _, rfl, hG⟩
          refine all_cons (EStep.step fun b E a' W ha hG hP hoff hb => ?_) ?_
          · exact ⟨_, .slice (some ⟨W.heap.size, 0, none⟩) 7 7, W.alloc (.cells (ppWrong7.map Value.string).toArray 9), rfl, rfl, by clear ha hG hP hoff hb; go_simp; rfl, ⟨_, rfl, hG.size, blk_new _ _⟩, keep_alloc (hk0 W) _, hG.alloc _⟩
          refine all_cons (EStep.pure hk0 fun b E a' W ha hG hP => ?_) ?_
          · have s0 : a'.tmps[0]? = some (.pointer (some ⟨g, 0, none⟩)) := (slot_off ha rfl).trans rfl
            exact ⟨_, .pointer (some ⟨g, 0, none⟩), rfl, rfl, by clear ha hG hP; go_simp; try first | rfl | exact i64_w _, rfl, hG⟩
          refine all_cons (EStep.call Tryd.func15 (by kernel_rfl) rfl ⟨_, rfl, rfl, rfl⟩ fun b E a' W ha hG hP hoff hb => ⟨#[.pointer (some ⟨g, 0, none⟩), .int .i64 7], ?_, ?_⟩) ?_
          · have s23 : a'.tmps[23]? = some (.pointer (some ⟨g, 0, none⟩)) := slotv ha (hP 4 rfl).1 rfl (hP 4 rfl).2
            clear ha hG hP hoff hb
            simp [Act.eval, Array.getD_eq_getD_getElem?, s23]
          · have hG' : Rds w0 w g s0_0 p3 W := by have := hG; rw [if_neg (by rw [hb]; decide)] at this; exact this
            refine (spec_l20Rd_pick.calls k g s0_0 p3 7 e p4 w0 W hG'.st hG'.bl AE.out).mono ?_
            rintro _ W2 ⟨rfl, hi, hb2, hk⟩
            exact ⟨_, rfl, rfl, hk, hG'.call hi hb2 hk⟩
          refine all_cons (EStep.pure hk0 fun b E a' W ha hG hP => ?_) ?_
          · obtain ⟨C, hC1, hC2, hC3⟩ := (hP 3 rfl).2
            have s22 : a'.tmps[22]? = some (.slice (some ⟨C, 0, none⟩) 7 7) := slotv ha (hP 3 rfl).1 rfl hC1
            have s24 : a'.tmps[24]? = some (.int .i64 e) := slotv ha (hP 5 rfl).1 rfl (hP 5 rfl).2
            exact ⟨_, .pointer (some ⟨C, e, none⟩), rfl, rfl, by clear ha hG hP hC1 hC2 hC3; go_simp, ⟨C, rfl, hC2, hC3⟩, hG⟩
          refine all_cons (EStep.pure hk0 fun b E a' W ha hG hP => ?_) ?_
          · obtain ⟨C, hC1, hC2, hC3⟩ := (hP 6 rfl).2
            have s25 : a'.tmps[25]? = some (.pointer (some ⟨C, e, none⟩)) := slotv ha (hP 6 rfl).1 rfl hC1
            have hc : W.cell? ⟨C, e, none⟩ = some (.string y) := (blk_cell hC3 e).trans ((ppWrong7_at HY.out).trans (by rw [HYY.out]))
            exact ⟨_, .string y, rfl, rfl, by clear ha hG hP hC1 hC2 hC3; go_simp, rfl, hG⟩
          refine all_cons (EStep.pure hk0 fun b E a' W ha hG hP => ?_) ?_
          · have s21 : a'.tmps[21]? = some (.string (x.extract 0 d)) := slotv ha (hP 2 rfl).1 rfl (hP 2 rfl).2
            have s26 : a'.tmps[26]? = some (.string y) := slotv ha (hP 7 rfl).1 rfl (hP 7 rfl).2
            exact ⟨_, .string (x.extract 0 d ++ y), rfl, rfl, by clear ha hG hP; go_simp; try first | rfl | exact i64_w _, rfl, hG⟩
          refine all_cons (EStep.pure hk0 fun b E a' W ha hG hP => ?_) ?_
          · have s5 : a'.tmps[5]? = some (.string x) := (slot_off ha rfl).trans rfl
            exact ⟨_, .string x, rfl, rfl, by clear ha hG hP; go_simp; try first | rfl | exact i64_w _, rfl, hG⟩
          refine all_cons (EStep.pure hk0 fun b E a' W ha hG hP => ?_) ?_
          · have s6 : a'.tmps[6]? = some (.int .i64 d) := (slot_off ha rfl).trans rfl
            exact ⟨_, .int .i64 d, rfl, rfl, by clear ha hG hP; go_simp; try first | rfl | exact i64_w _, rfl, hG⟩
          refine all_cons (EStep.pure hk0 fun b E a' W ha hG hP => ?_) ?_
          · have s28 : a'.tmps[28]? = some (.string x) := slotv ha (hP 9 rfl).1 rfl (hP 9 rfl).2
            have s29 : a'.tmps[29]? = some (.int .i64 d) := slotv ha (hP 10 rfl).1 rfl (hP 10 rfl).2
            exact ⟨_, .string (x.extract d x.size), rfl, rfl, by clear ha hG hP; go_simp; try first | rfl | exact i64_w _, rfl, hG⟩
          refine all_cons (EStep.pure hk0 fun b E a' W ha hG hP => ?_) ?_
          · have s27 : a'.tmps[27]? = some (.string (x.extract 0 d ++ y)) := slotv ha (hP 8 rfl).1 rfl (hP 8 rfl).2
            have s30 : a'.tmps[30]? = some (.string (x.extract d x.size)) := slotv ha (hP 11 rfl).1 rfl (hP 11 rfl).2
            exact ⟨_, .string (x.extract 0 d ++ y ++ x.extract d x.size), rfl, rfl, by clear ha hG hP; go_simp; try first | rfl | exact i64_w _, rfl, hG⟩
          refine all_cons (EStep.pure hk0 fun b E a' W ha hG hP => ?_) all_nil
          · have s31 : a'.tmps[31]? = some (.string (x.extract 0 d ++ y ++ x.extract d x.size)) := slotv ha (hP 12 rfl).1 rfl (hP 12 rfl).2
            exact ⟨_, .string (x.extract 0 d ++ y ++ x.extract d x.size), rfl, rfl, by clear ha hG hP; go_simp; try first | rfl | exact i64_w _, rfl, hG⟩
        · intro E b W hall hP hG
          have hG' : Rds w0 w g s0_0 p4 W := by have := hG; rw [if_pos (hall 5 rfl)] at this; exact this
          have h13 : E 13 = .string r1 := (hP 13 rfl).trans (by rw [← H1.out, ← HYY.out]; rfl)
          rw [putSel_all (fun x hx => hall x.1 (by revert x; decide))]
          simp only [spec_l20AnyText.L5, List.foldl, h13, Act.put, List.setIfInBounds_toArray, List.set_cons_zero, List.set_cons_succ]
          clear hP hG hall h13
          go_wp2
          go_ret
          exact ⟨rfl, hG'.st, hG'.bl, hG'.kp⟩
      · cases h
    · cases h


end Go.Proofs.YtaihfkjfbjcmhabDoor.Q
