-- Told by a program of this session (myprint.py).
import Derived.Test.YtfcacpbblkahdaaDoorPFnWidCellx3
namespace Go.Proofs.YtfcacpbblkahdaaDoor.PFnWidCell
open Go.RowKit Go.Proofs.YtfcacpbblkahdaaDoorW.PrintWords Go.Proofs.YtfcacpbblkahdaaDoorW.PrintLast Go.Proofs.YtfcacpbblkahdaaDoorW.PrintMore
attribute [local go_sem] max2_int min2_int max_two min_two max_three min_three max_four min_four
set_option linter.unusedVariables false
set_option linter.unusedSimpArgs false

/-! ### impl_WidCell: function 17 -/
def impl_WidCell.f (k : Nat) (l0 : List Int) (a1 : Int) (a2_0 : Int) (a2_1 : Int) (a2_2 : Int) (a2_3 : Int) (a2_4 : Int) : Option (Int) := (impl_some.f k l0 a2_1 a2_3).bind fun t166 => ((impl_wide.f k t166 a1).bind fun t169 => (some t169))
theorem impl_WidCell.mono : ∀ a0 a1 a2 a3 a4 a5 a6 k, LeO (impl_WidCell.f k a0 a1 a2 a3 a4 a5 a6) (impl_WidCell.f (k + 1) a0 a1 a2 a3 a4 a5 a6) := by
  intro a0 a1 a2 a3 a4 a5 a6 k
  unfold impl_WidCell.f
  repeat' first
      | (with_reducible exact impl_some.mono _ _ _ _)
      | (with_reducible exact impl_wide.mono _ _ _)
      | (with_reducible exact LeO.refl _)
      | (with_reducible exact LeO.none _)
      | (with_reducible refine LeO.ite ?_ ?_)
      | (with_reducible refine LeO.bind ?_ (fun _ => ?_))
      | exact impl_some.mono _ _ _ _
      | exact impl_wide.mono _ _ _
      | exact LeO.none _
      | refine LeO.ite ?_ ?_
      | refine LeO.bind ?_ (fun _ => ?_)
set_option maxHeartbeats 8000000 in
set_option maxRecDepth 100000 in
theorem impl_WidCell.calls (k : Nat) (A0 : Option Addr) (c0 : Nat) (l0 : List Int) (a1 : Int) (a2_0 : Int) (a2_1 : Int) (a2_2 : Int) (a2_3 : Int) (a2_4 : Int) (r : Int) (w : World) (hr0 : Kd.C (Kd.int .i64) w A0 l0.length l0) (hc0 : l0.length ≤ c0) (h : impl_WidCell.f k l0 a1 a2_0 a2_1 a2_2 a2_3 a2_4 = some r) :
    Calls Tryd.prog 17 #[.slice A0 l0.length c0, .int .i64 a1, .agg #[.int .i64 a2_0, .int .i64 a2_1, .int .i64 a2_2, .int .i64 a2_3, .int .i64 a2_4]] w fun e w' => e = .returned (.int .i64 r) ∧ Below w.heap.size w w' := by
  have hu41 := Tryd.underlying41
  have HR0 := Aside0.mk hr0
  have HC0 := Aside0.mk hc0
  clear hr0 hc0
  have HB := Aside0.mk (Below.refl w.heap.size w)
  have H : ((impl_some.f k l0 a2_1 a2_3).bind fun t166 => ((impl_wide.f k t166 a1).bind fun t169 => (some t169))) = some r := h
  clear h
  replace H := Option.bind_eq_some_iff.mp H
  obtain ⟨t166, A40, H⟩ := H
  replace H : ((impl_wide.f k t166 a1).bind fun t169 => (some t169)) = some r := H
  have A4 := Aside0.mk A40
  clear A40
  replace H := Option.bind_eq_some_iff.mp H
  obtain ⟨t169, A50, H⟩ := H
  replace H : (some t169) = some r := H
  have A5 := Aside0.mk A50
  clear A50
  obtain rfl := Option.some.inj H
  go_enter Tryd.func17, Tryd.ntmps17
  go_wp2_with (first | ((with_reducible refine gate_dst (N := 5) rfl ?_); refine box_event ?hg (N := 5) ?hd (cs := #[.int .i64 a2_0, .int .i64 a2_1, .int .i64 a2_2, .int .i64 a2_3, .int .i64 a2_4]) (t := 41) ?hr ?_; (case hd => rfl); (case hg => rfl); (case hr => first | (go_simp; done) | (go_simp; rfl)); intro gb165 hg w6 hbox hb; have n0_ := Aside0.mk (below_step (by repeat (first | (with_reducible first | exact HB.out | apply below_alloc | apply pw_below_drewN | apply below_drew1) | exact HB.out)) hb); have n1_ := Aside0.mk (hbox); have n2_ := Aside0.mk ((by rw [hg]; exact (below_size (by repeat (first | (with_reducible first | exact HB.out | apply below_alloc | apply pw_below_drewN | apply below_drew1) | exact HB.out))) : w.heap.size ≤ gb165)); have n3_ := Aside0.mk ((by rw [hg]; exact (below_size (by repeat (first | (with_reducible first | exact HB.out | apply below_alloc | apply pw_below_drewN | apply below_drew1) | exact HB.out))) : w.heap.size ≤ gb165)); clear HB; have HB := n0_; have BK165 := n1_; have GW165 := n2_; have GE165 := n3_; clear n0_ n1_ n2_ n3_; clear hb hbox hg; have hcz7_0 : w6.cell? ⟨gb165, 0, none⟩ = some (.int .i64 a2_0) := (blk_cell BK165.out 0).trans rfl; have hcz7_1 : w6.cell? ⟨gb165, 1, none⟩ = some (.int .i64 a2_1) := (blk_cell BK165.out 1).trans rfl; have hcz7_2 : w6.cell? ⟨gb165, 2, none⟩ = some (.int .i64 a2_2) := (blk_cell BK165.out 2).trans rfl; have hcz7_3 : w6.cell? ⟨gb165, 3, none⟩ = some (.int .i64 a2_3) := (blk_cell BK165.out 3).trans rfl; have hcz7_4 : w6.cell? ⟨gb165, 4, none⟩ = some (.int .i64 a2_4) := (blk_cell BK165.out 4).trans rfl; have hfz7_0 := blk_frozen BK165.out 0; have hfz7_1 := blk_frozen BK165.out 1; have hfz7_2 := blk_frozen BK165.out 2; have hfz7_3 := blk_frozen BK165.out 3; have hfz7_4 := blk_frozen BK165.out 4) | ((with_reducible refine gate_callee (f := 32) rfl ?_); refine goesL_ (some 12) rfl rfl Tryd.func32 (by kernel_rfl) rfl #[.slice A0 l0.length c0, .int .i64 a2_1, .int .i64 a2_3] rfl (by (try simp only [List.map_toArray, List.map_cons, List.map_nil]); first | done | rfl | (simp only [List.length_drop, List.length_take]; rfl)) ?_; (with_reducible refine (impl_some.calls k _ _ l0 a2_1 a2_3 t166 _ ?side1 ?side2 A4.out).mono ?_); (case side1 => repeat (first | exact HR0.out | exact (Kd.C_below HR0.out HB.out) | (with_reducible refine Kd.C_alloc ?_ _) | (with_reducible refine Kd.C_drewN ?_ _) | (with_reducible refine Kd.C_drew ?_))); (case side2 => exact HC0.out); rintro e w8 ⟨v167, rfl, ho0, hb⟩; refine ⟨_, rfl, ?_⟩; have n0_ := Aside0.mk (Kd.R_lower ho0 (below_size (by repeat (first | (with_reducible first | exact HB.out | apply below_alloc | apply pw_below_drewN | apply below_drew1 | refine below_set ?_ GE165.out) | exact HB.out)))); have n1_ := Aside0.mk (blk_below (g := gb165) (o := .cells #[.int .i64 a2_0, .int .i64 a2_1, .int .i64 a2_2, .int .i64 a2_3, .int .i64 a2_4] 41 (0, 0)) (by (with_reducible repeat (first | refine blk_drewN ?_ _ | refine blk_drew ?_ | refine blk_alloc ?_ _)); exact BK165.out) hb); have n2_ := Aside0.mk (below_step (by repeat (first | (with_reducible first | exact HB.out | apply below_alloc | apply pw_below_drewN | apply below_drew1 | refine below_set ?_ GE165.out) | exact HB.out)) hb); clear BK165; clear HB; have HO168 := n0_; have BK165 := n1_; have HB := n2_; clear n0_ n1_ n2_; (try clear hb); (try clear hb2); (try clear hk); (try clear hi); (try clear ho0); obtain ⟨Ao9, co9, eo9⟩ := Kd.R_slice HO168.out; subst eo9) | ((with_reducible refine gate_callee (f := 31) rfl ?_); refine goesL_ (some 14) rfl rfl Tryd.func31 (by kernel_rfl) rfl #[.slice Ao9 t166.length co9, .int .i64 a1] rfl (by (try simp only [List.map_toArray, List.map_cons, List.map_nil]); first | done | rfl | (simp only [List.length_drop, List.length_take]; rfl)) ?_; (with_reducible refine (impl_wide.calls k _ _ t166 a1 t169 _ ?side1 ?side2 A5.out).mono ?_); (case side1 => repeat (first | exact (Kd.R_reads' HO168.out).2.2 | (with_reducible refine Kd.C_alloc ?_ _) | (with_reducible refine Kd.C_drewN ?_ _) | (with_reducible refine Kd.C_drew ?_))); (case side2 => exact (Kd.R_reads' HO168.out).2.1); rintro e w10 ⟨rfl, hb⟩; refine ⟨_, rfl, ?_⟩; have n0_ := Aside0.mk (Kd.R_below (by (with_reducible repeat (first | apply Kd.R_alloc | apply Kd.R_drewN | apply Kd.R_drew)); exact HO168.out) hb); have n1_ := Aside0.mk (blk_below (g := gb165) (o := .cells #[.int .i64 a2_0, .int .i64 a2_1, .int .i64 a2_2, .int .i64 a2_3, .int .i64 a2_4] 41 (0, 0)) (by (with_reducible repeat (first | refine blk_drewN ?_ _ | refine blk_drew ?_ | refine blk_alloc ?_ _)); exact BK165.out) hb); have n2_ := Aside0.mk (below_step (by repeat (first | (with_reducible first | exact HB.out | apply below_alloc | apply pw_below_drewN | apply below_drew1 | refine below_set ?_ GE165.out) | exact HB.out)) hb); clear HO168; clear BK165; clear HB; have HO168 := n0_; have BK165 := n1_; have HB := n2_; clear n0_ n1_ n2_; (try clear hb); (try clear hb2); (try clear hk); (try clear hi)))
  go_ret
  exact ⟨by first | rfl | (simp [IntKind.wrap_i64, wrap64]; done) | (simp [errW_none, errW_some] <;> rfl) | (simp [*, errW_none, errW_some] <;> rfl), by repeat (first | (with_reducible first | exact HB.out | apply below_alloc | apply pw_below_drewN | apply below_drew1 | refine below_set ?_ GE165.out) | exact HB.out)⟩

/-! ### spec_l1Among: function 24 -/
def spec_l1Among.j0 : Nat → Int → Int → Int → Bool → Option (Bool)
  | 0, _, _, _, _ => none
  | k + 1, x0, x1, x2, x13 => if x13 = true then (some false) else (if x1 < 0 then (if x0 ≥ 0 then (some (decide (x0 < (wrap64 (x2 + x1))))) else (some (decide ((wrap64 (x0 - x1)) < x2)))) else (some (decide ((wrap64 (x0 - x1)) < x2))))
def spec_l1Among.f (k : Nat) (a0 : Int) (a1 : Int) (a2 : Int) : Option (Bool) := if a0 < a1 then (spec_l1Among.j0 k a0 a1 a2 true) else (spec_l1Among.j0 k a0 a1 a2 (decide (a2 ≤ 0)))
theorem spec_l1Among.mono_l : ∀ k, (∀ y0 y1 y2 y3, LeO (spec_l1Among.j0 k y0 y1 y2 y3) (spec_l1Among.j0 (k + 1) y0 y1 y2 y3))
  | 0 => fun _ _ _ _ r h => by simp [spec_l1Among.j0] at h
  | k + 1 => by
    have ih0 := spec_l1Among.mono_l k
    · intro y0 y1 y2 y3
      unfold spec_l1Among.j0
      repeat' first
      | (with_reducible exact ih0 _ _ _ _)
      | (with_reducible exact LeO.refl _)
      | (with_reducible exact LeO.none _)
      | (with_reducible refine LeO.ite ?_ ?_)
      | (with_reducible refine LeO.bind ?_ (fun _ => ?_))
      | exact ih0 _ _ _ _
      | exact LeO.none _
      | refine LeO.ite ?_ ?_
      | refine LeO.bind ?_ (fun _ => ?_)
theorem spec_l1Among.mono : ∀ a0 a1 a2 k, LeO (spec_l1Among.f k a0 a1 a2) (spec_l1Among.f (k + 1) a0 a1 a2) := by
  intro a0 a1 a2 k
  have ih0 := spec_l1Among.mono_l k
  unfold spec_l1Among.f
  repeat' first
      | (with_reducible exact ih0 _ _ _ _)
      | (with_reducible exact LeO.refl _)
      | (with_reducible exact LeO.none _)
      | (with_reducible refine LeO.ite ?_ ?_)
      | (with_reducible refine LeO.bind ?_ (fun _ => ?_))
      | exact ih0 _ _ _ _
      | exact LeO.none _
      | refine LeO.ite ?_ ?_
      | refine LeO.bind ?_ (fun _ => ?_)
set_option maxHeartbeats 8000000 in
set_option maxRecDepth 100000 in
theorem spec_l1Among.calls (k : Nat) (a0 : Int) (a1 : Int) (a2 : Int) (r : Bool) (w : World) (h : spec_l1Among.f k a0 a1 a2 = some r) :
    Calls Tryd.prog 24 #[.int .i64 a0, .int .i64 a1, .int .i64 a2] w fun e w' => e = .returned (.bool r) ∧ Drawn0 w w' := by
  have H : (if a0 < a1 then (spec_l1Among.j0 k a0 a1 a2 true) else (spec_l1Among.j0 k a0 a1 a2 (decide (a2 ≤ 0)))) = some r := h
  clear h
  have HC4 := Aside0.mk H
  clear H
  go_enter Tryd.func24, Tryd.ntmps24
  go_upto_region 1 with (fail)
  go_cut [13] (fun v13 wc => ∃ (kq : Nat) (x13_3 : Bool), v13 = .bool x13_3 ∧ Aside0 (spec_l1Among.j0 kq a0 a1 a2 x13_3 = some r) ∧ Aside0 (kq ≤ k) ∧ Drawn0 w wc)
  case first =>
    have H := HC4.out
    clear HC4
    by_cases c5 : a0 < a1
    · rw [if_pos c5] at H
      have c5b0 : decide (a0 < a1) = true := decide_eq_true c5
      clear c5
      (first | rw [c5b0] | (simp only [i64_w, i32_w]; rw [c5b0]) | skip)
      have H' := Aside0.mk H
      clear H
      go_wp2
      go_meet
      case rel => exact ⟨_, (true), (by first | rfl | (simp; done) | (simp [*]; done)), H', ⟨by first | omega | exact Nat.le_refl _⟩, by repeat (first | exact Drawn0.refl _ | apply Drawn0.step)⟩
    · rw [if_neg c5] at H
      have c5b0 : decide (a0 < a1) = false := decide_eq_false c5
      clear c5
      (first | rw [c5b0] | (simp only [i64_w, i32_w]; rw [c5b0]) | skip)
      have H' := Aside0.mk H
      clear H
      go_wp2
      go_meet
      case rel => exact ⟨_, (decide (a2 ≤ 0)), (by first | rfl | (simp; done) | (simp [*]; done)), H', ⟨by first | omega | exact Nat.le_refl _⟩, by repeat (first | exact Drawn0.refl _ | apply Drawn0.step)⟩
  case rest =>
    clear HC4
    try clear c2
    try clear p2
    try clear c5
    try clear c5b0
    obtain ⟨kq, x13_3, rfl, HA, HJ3, ⟨mc3, rfl⟩⟩ := hcut
    cases kq with
    | zero => exact absurd HA.out (by simp [spec_l1Among.j0])
    | succ kj3 =>
      have H := HA.out
      clear HA
      simp only [spec_l1Among.j0] at H
      by_cases c6 : x13_3 = true
      · subst c6
        have H1 : (some false) = some r := by rw [if_pos rfl] at H; exact H
        clear H
        have H := H1
        clear H1
        obtain rfl := Option.some.inj H
        go_wp2
        go_ret
        exact ⟨by first | rfl | (simp [IntKind.wrap_i64, wrap64]; done) | (simp; done) | (simp [*]; done), by repeat (first | exact Drawn0.refl _ | apply Drawn0.step)⟩
      · replace c6 := Bool.eq_false_iff.mpr c6
        subst c6
        have H1 : (if a1 < 0 then (if a0 ≥ 0 then (some (decide (a0 < (wrap64 (a2 + a1))))) else (some (decide ((wrap64 (a0 - a1)) < a2)))) else (some (decide ((wrap64 (a0 - a1)) < a2)))) = some r := by rw [if_neg (show ¬ (false = true) by decide)] at H; exact H
        clear H
        have H := H1
        clear H1
        by_cases c7 : a1 < 0
        · rw [if_pos c7] at H
          have c7b0 : decide (a1 < 0) = true := decide_eq_true c7
          clear c7
          by_cases c8 : a0 ≥ 0
          · rw [if_pos c8] at H
            have c8b0 : decide (0 ≤ a0) = true := decide_eq_true c8
            clear c8
            obtain rfl := Option.some.inj H
            go_wp2
            go_ret
            exact ⟨by first | rfl | (simp [IntKind.wrap_i64, wrap64]; done) | (simp; done) | (simp [*]; done), by repeat (first | exact Drawn0.refl _ | apply Drawn0.step)⟩
          · rw [if_neg c8] at H
            have c8b0 : decide (0 ≤ a0) = false := decide_eq_false c8
            clear c8
            obtain rfl := Option.some.inj H
            go_wp2
            go_ret
            exact ⟨by first | rfl | (simp [IntKind.wrap_i64, wrap64]; done) | (simp; done) | (simp [*]; done), by repeat (first | exact Drawn0.refl _ | apply Drawn0.step)⟩
        · rw [if_neg c7] at H
          have c7b0 : decide (a1 < 0) = false := decide_eq_false c7
          clear c7
          obtain rfl := Option.some.inj H
          go_wp2
          go_ret
          exact ⟨by first | rfl | (simp [IntKind.wrap_i64, wrap64]; done) | (simp; done) | (simp [*]; done), by repeat (first | exact Drawn0.refl _ | apply Drawn0.step)⟩

/-! ### spec_WidCell: function 18 -/
def spec_WidCell.l0 : Nat → List Int → Int → Int → Bool → Int → Int → Int → Int → Int → Int → Option (Int)
  | 0, _, _, _, _, _, _, _, _, _, _ => none
  | k + 1, x0, x1, x7, x8, x9, x171000, x171001, x171002, x171003, x171004 => if x9 < (x0.length : Int) then ((spec_l1Among.f k x9 x171001 x171003).bind fun t171 => (if t171 = true then (if x8 = true then (if 0 ≤ x9 then (spec_WidCell.l0 k x0 x1 (wrap64 ((wrap64 (x7 + x1)) + (rd x0 x9))) true (wrap64 (x9 + 1)) x171000 x171001 x171002 x171003 x171004) else (none)) else (if 0 ≤ x9 then (spec_WidCell.l0 k x0 x1 (wrap64 (x7 + (rd x0 x9))) true (wrap64 (x9 + 1)) x171000 x171001 x171002 x171003 x171004) else (none))) else (spec_WidCell.l0 k x0 x1 x7 x8 (wrap64 (x9 + 1)) x171000 x171001 x171002 x171003 x171004))) else (some x7)
def spec_WidCell.f (k : Nat) (l0 : List Int) (a1 : Int) (a2_0 : Int) (a2_1 : Int) (a2_2 : Int) (a2_3 : Int) (a2_4 : Int) : Option (Int) := spec_WidCell.l0 k l0 a1 0 false 0 a2_0 a2_1 a2_2 a2_3 a2_4
theorem spec_WidCell.mono_l : ∀ k, (∀ y0 y1 y2 y3 y4 y5 y6 y7 y8 y9, LeO (spec_WidCell.l0 k y0 y1 y2 y3 y4 y5 y6 y7 y8 y9) (spec_WidCell.l0 (k + 1) y0 y1 y2 y3 y4 y5 y6 y7 y8 y9))
  | 0 => fun _ _ _ _ _ _ _ _ _ _ r h => by simp [spec_WidCell.l0] at h
  | k + 1 => by
    have ih0 := spec_WidCell.mono_l k
    · intro y0 y1 y2 y3 y4 y5 y6 y7 y8 y9
      unfold spec_WidCell.l0
      repeat' first
      | (with_reducible exact ih0 _ _ _ _ _ _ _ _ _ _)
      | (with_reducible exact spec_l1Among.mono _ _ _ _)
      | (with_reducible exact LeO.refl _)
      | (with_reducible exact LeO.none _)
      | (with_reducible refine LeO.ite ?_ ?_)
      | (with_reducible refine LeO.bind ?_ (fun _ => ?_))
      | exact ih0 _ _ _ _ _ _ _ _ _ _
      | exact spec_l1Among.mono _ _ _ _
      | exact LeO.none _
      | refine LeO.ite ?_ ?_
      | refine LeO.bind ?_ (fun _ => ?_)
theorem spec_WidCell.mono : ∀ a0 a1 a2 a3 a4 a5 a6 k, LeO (spec_WidCell.f k a0 a1 a2 a3 a4 a5 a6) (spec_WidCell.f (k + 1) a0 a1 a2 a3 a4 a5 a6) := by
  intro a0 a1 a2 a3 a4 a5 a6 k
  have ih0 := spec_WidCell.mono_l k
  unfold spec_WidCell.f
  repeat' first
      | (with_reducible exact ih0 _ _ _ _ _ _ _ _ _ _)
      | (with_reducible exact spec_l1Among.mono _ _ _ _)
      | (with_reducible exact LeO.refl _)
      | (with_reducible exact LeO.none _)
      | (with_reducible refine LeO.ite ?_ ?_)
      | (with_reducible refine LeO.bind ?_ (fun _ => ?_))
      | exact ih0 _ _ _ _ _ _ _ _ _ _
      | exact spec_l1Among.mono _ _ _ _
      | exact LeO.none _
      | refine LeO.ite ?_ ?_
      | refine LeO.bind ?_ (fun _ => ?_)
set_option maxHeartbeats 8000000 in
set_option maxRecDepth 100000 in
theorem spec_WidCell.calls (k : Nat) (A0 : Option Addr) (c0 : Nat) (l0 : List Int) (a1 : Int) (a2_0 : Int) (a2_1 : Int) (a2_2 : Int) (a2_3 : Int) (a2_4 : Int) (r : Int) (w : World) (hr0 : Kd.C (Kd.int .i64) w A0 l0.length l0) (hc0 : l0.length ≤ c0) (h : spec_WidCell.f k l0 a1 a2_0 a2_1 a2_2 a2_3 a2_4 = some r) :
    Calls Tryd.prog 18 #[.slice A0 l0.length c0, .int .i64 a1, .agg #[.int .i64 a2_0, .int .i64 a2_1, .int .i64 a2_2, .int .i64 a2_3, .int .i64 a2_4]] w fun e w' => e = .returned (.int .i64 r) ∧ Below w.heap.size w w' := by
  have hu41 := Tryd.underlying41
  have HR0 := Aside0.mk hr0
  have HC0 := Aside0.mk hc0
  clear hr0 hc0
  have HB := Aside0.mk (Below.refl w.heap.size w)
  have H : (spec_WidCell.l0 k l0 a1 0 false 0 a2_0 a2_1 a2_2 a2_3 a2_4) = some r := h
  clear h
  have H' := Aside0.mk H
  clear H
  go_enter Tryd.func18, Tryd.ntmps18
  go_wp2_with (first | ((with_reducible refine gate_dst (N := 5) rfl ?_); refine box_event ?hg (N := 5) ?hd (cs := #[.int .i64 a2_0, .int .i64 a2_1, .int .i64 a2_2, .int .i64 a2_3, .int .i64 a2_4]) (t := 41) ?hr ?_; (case hd => rfl); (case hg => rfl); (case hr => first | (go_simp; done) | (go_simp; rfl)); intro gb170 hg w4 hbox hb; have n0_ := Aside0.mk (below_step (by repeat (first | (with_reducible first | exact HB.out | apply below_alloc | apply pw_below_drewN | apply below_drew1) | exact HB.out)) hb); have n1_ := Aside0.mk (hbox); have n2_ := Aside0.mk ((by rw [hg]; exact (below_size (by repeat (first | (with_reducible first | exact HB.out | apply below_alloc | apply pw_below_drewN | apply below_drew1) | exact HB.out))) : w.heap.size ≤ gb170)); have n3_ := Aside0.mk ((by rw [hg]; exact (below_size (by repeat (first | (with_reducible first | exact HB.out | apply below_alloc | apply pw_below_drewN | apply below_drew1) | exact HB.out))) : w.heap.size ≤ gb170)); clear HB; have HB := n0_; have BK170 := n1_; have GW170 := n2_; have GE170 := n3_; clear n0_ n1_ n2_ n3_; clear hb hbox hg))
  go_loopg [7, 8, 9] k (fun kq v7 v8 v9 w' => ∃ (x7_1 : Int) (x8_1 : Bool) (x9_1 : Int), v7 = .int .i64 x7_1 ∧ v8 = .bool x8_1 ∧ v9 = .int .i64 x9_1 ∧ Aside0 (spec_WidCell.l0 kq l0 a1 x7_1 x8_1 x9_1 a2_0 a2_1 a2_2 a2_3 a2_4 = some r) ∧ Aside0 (kq ≤ k) ∧ Aside0 (w'.heap[gb170]? = some (.cells #[.int .i64 a2_0, .int .i64 a2_1, .int .i64 a2_2, .int .i64 a2_3, .int .i64 a2_4] 41 (0, 0))) ∧ Aside0 (Below w.heap.size w w'))
  case atStart => exact ⟨(0), (false), (0), (by first | rfl | (simp; done) | (simp [*]; done)), (by first | rfl | (simp; done) | (simp [*]; done)), (by first | rfl | (simp; done) | (simp [*]; done)), H', ⟨Nat.le_refl _⟩, ⟨by (with_reducible repeat (first | refine blk_drewN ?_ _ | refine blk_drew ?_ | refine blk_alloc ?_ _)); exact BK170.out⟩, ⟨by repeat (first | (with_reducible first | exact HB.out | apply below_alloc | apply pw_below_drewN | apply below_drew1 | refine below_set ?_ GE170.out) | exact HB.out)⟩⟩
  case round =>
    clear H'
    try clear c1
    try clear p2
    obtain ⟨x7_1, x8_1, x9_1, rfl, rfl, rfl, HA, HK1, BK170, HB⟩ := hrel
    cases gk with
    | zero => exact absurd HA.out (by simp [spec_WidCell.l0])
    | succ k1 =>
      have H := HA.out
      clear HA
      simp only [spec_WidCell.l0] at H
      by_cases c5 : x9_1 < (l0.length : Int)
      · rw [if_pos c5] at H
        have c5b0 : decide (x9_1 < (l0.length : Int)) = true := decide_eq_true c5
        clear c5
        replace H := Option.bind_eq_some_iff.mp H
        obtain ⟨t171, A60, H⟩ := H
        replace H : (if t171 = true then (if x8_1 = true then (if 0 ≤ x9_1 then (spec_WidCell.l0 k1 l0 a1 (wrap64 ((wrap64 (x7_1 + a1)) + (rd l0 x9_1))) true (wrap64 (x9_1 + 1)) a2_0 a2_1 a2_2 a2_3 a2_4) else (none)) else (if 0 ≤ x9_1 then (spec_WidCell.l0 k1 l0 a1 (wrap64 (x7_1 + (rd l0 x9_1))) true (wrap64 (x9_1 + 1)) a2_0 a2_1 a2_2 a2_3 a2_4) else (none))) else (spec_WidCell.l0 k1 l0 a1 x7_1 x8_1 (wrap64 (x9_1 + 1)) a2_0 a2_1 a2_2 a2_3 a2_4)) = some r := H
        have A6 := Aside0.mk A60
        clear A60
        by_cases c7 : t171 = true
        · subst c7
          have H1 : (if x8_1 = true then (if 0 ≤ x9_1 then (spec_WidCell.l0 k1 l0 a1 (wrap64 ((wrap64 (x7_1 + a1)) + (rd l0 x9_1))) true (wrap64 (x9_1 + 1)) a2_0 a2_1 a2_2 a2_3 a2_4) else (none)) else (if 0 ≤ x9_1 then (spec_WidCell.l0 k1 l0 a1 (wrap64 (x7_1 + (rd l0 x9_1))) true (wrap64 (x9_1 + 1)) a2_0 a2_1 a2_2 a2_3 a2_4) else (none))) = some r := by rw [if_pos rfl] at H; exact H
          clear H
          have H := H1
          clear H1
          by_cases c8 : x8_1 = true
          · subst c8
            have H1 : (if 0 ≤ x9_1 then (spec_WidCell.l0 k1 l0 a1 (wrap64 ((wrap64 (x7_1 + a1)) + (rd l0 x9_1))) true (wrap64 (x9_1 + 1)) a2_0 a2_1 a2_2 a2_3 a2_4) else (none)) = some r := by rw [if_pos rfl] at H; exact H
            clear H
            have H := H1
            clear H1
            by_cases c9 : 0 ≤ x9_1
            · rw [if_pos c9] at H
              have c9b0 : decide (0 ≤ x9_1) = true := decide_eq_true c9
              clear c9
              have H' := Aside0.mk H
              clear H
              have hcz10_0 : wr.cell? ⟨gb170, 0, none⟩ = some (.int .i64 a2_0) := (blk_cell BK170.out 0).trans rfl
              have hcz10_1 : wr.cell? ⟨gb170, 1, none⟩ = some (.int .i64 a2_1) := (blk_cell BK170.out 1).trans rfl
              have hcz10_2 : wr.cell? ⟨gb170, 2, none⟩ = some (.int .i64 a2_2) := (blk_cell BK170.out 2).trans rfl
              have hcz10_3 : wr.cell? ⟨gb170, 3, none⟩ = some (.int .i64 a2_3) := (blk_cell BK170.out 3).trans rfl
              have hcz10_4 : wr.cell? ⟨gb170, 4, none⟩ = some (.int .i64 a2_4) := (blk_cell BK170.out 4).trans rfl
              have hfz10_0 := blk_frozen BK170.out 0
              have hfz10_1 := blk_frozen BK170.out 1
              have hfz10_2 := blk_frozen BK170.out 2
              have hfz10_3 := blk_frozen BK170.out 3
              have hfz10_4 := blk_frozen BK170.out 4
              go_wp2_with (first | ((with_reducible refine gate_callee (f := 24) rfl ?_); refine goesL_ (some 21) rfl rfl Tryd.func24 (by kernel_rfl) rfl #[.int .i64 x9_1, .int .i64 a2_1, .int .i64 a2_3] rfl (by (try simp only [List.map_toArray, List.map_cons, List.map_nil]); first | done | rfl | (simp only [List.length_drop, List.length_take]; rfl)) ?_; (with_reducible refine (spec_l1Among.calls k1 x9_1 a2_1 a2_3 true _ A6.out).mono ?_); rintro e w' ⟨rfl, ⟨nd, rfl⟩⟩; refine ⟨_, rfl, ?_⟩; have p172 : 0 ≤ (x9_1 : Int) := of_decide_eq_true (by first | (with_reducible assumption) | assumption); have q172 : x9_1 < (l0.length : Int) := of_decide_eq_true (by first | (with_reducible assumption) | assumption); obtain ⟨ad172, e172, hx172_0⟩ := Kd.at_int HR0.out x9_1 p172 q172; cases e172; replace hx172_0 := (HB.out.cell (World.block_lt_of_cell? w _ hx172_0)).trans hx172_0; replace p172 := eq_true p172; replace q172 := eq_true q172))
              go_roundg k1
              case measure => have := HK1.out; omega
              case rel => exact ⟨(wrap64 ((wrap64 (x7_1 + a1)) + (rd l0 x9_1))), (true), (wrap64 (x9_1 + 1)), (by first | rfl | (simp; done) | (simp [*]; done)), (by first | rfl | (simp; done) | (simp [*]; done)), (by first | rfl | (simp; done) | (simp [*]; done)), H', ⟨by have := HK1.out; omega⟩, ⟨by (with_reducible repeat (first | refine blk_drewN ?_ _ | refine blk_drew ?_ | refine blk_alloc ?_ _)); exact BK170.out⟩, ⟨by repeat (first | (with_reducible first | exact HB.out | apply below_alloc | apply pw_below_drewN | apply below_drew1 | refine below_set ?_ GE170.out) | exact HB.out)⟩⟩
            · rw [if_neg c9] at H
              exact absurd H (by simp)
          · replace c8 := Bool.eq_false_iff.mpr c8
            subst c8
            have H1 : (if 0 ≤ x9_1 then (spec_WidCell.l0 k1 l0 a1 (wrap64 (x7_1 + (rd l0 x9_1))) true (wrap64 (x9_1 + 1)) a2_0 a2_1 a2_2 a2_3 a2_4) else (none)) = some r := by rw [if_neg (show ¬ (false = true) by decide)] at H; exact H
            clear H
            have H := H1
            clear H1
            by_cases c11 : 0 ≤ x9_1
            · rw [if_pos c11] at H
              have c11b0 : decide (0 ≤ x9_1) = true := decide_eq_true c11
              clear c11
              have H' := Aside0.mk H
              clear H
              have hcz12_0 : wr.cell? ⟨gb170, 0, none⟩ = some (.int .i64 a2_0) := (blk_cell BK170.out 0).trans rfl
              have hcz12_1 : wr.cell? ⟨gb170, 1, none⟩ = some (.int .i64 a2_1) := (blk_cell BK170.out 1).trans rfl
              have hcz12_2 : wr.cell? ⟨gb170, 2, none⟩ = some (.int .i64 a2_2) := (blk_cell BK170.out 2).trans rfl
              have hcz12_3 : wr.cell? ⟨gb170, 3, none⟩ = some (.int .i64 a2_3) := (blk_cell BK170.out 3).trans rfl
              have hcz12_4 : wr.cell? ⟨gb170, 4, none⟩ = some (.int .i64 a2_4) := (blk_cell BK170.out 4).trans rfl
              have hfz12_0 := blk_frozen BK170.out 0
              have hfz12_1 := blk_frozen BK170.out 1
              have hfz12_2 := blk_frozen BK170.out 2
              have hfz12_3 := blk_frozen BK170.out 3
              have hfz12_4 := blk_frozen BK170.out 4
              go_wp2_with (first | ((with_reducible refine gate_callee (f := 24) rfl ?_); refine goesL_ (some 21) rfl rfl Tryd.func24 (by kernel_rfl) rfl #[.int .i64 x9_1, .int .i64 a2_1, .int .i64 a2_3] rfl (by (try simp only [List.map_toArray, List.map_cons, List.map_nil]); first | done | rfl | (simp only [List.length_drop, List.length_take]; rfl)) ?_; (with_reducible refine (spec_l1Among.calls k1 x9_1 a2_1 a2_3 true _ A6.out).mono ?_); rintro e w' ⟨rfl, ⟨nd, rfl⟩⟩; refine ⟨_, rfl, ?_⟩; have p173 : 0 ≤ (x9_1 : Int) := of_decide_eq_true (by first | (with_reducible assumption) | assumption); have q173 : x9_1 < (l0.length : Int) := of_decide_eq_true (by first | (with_reducible assumption) | assumption); obtain ⟨ad173, e173, hx173_0⟩ := Kd.at_int HR0.out x9_1 p173 q173; cases e173; replace hx173_0 := (HB.out.cell (World.block_lt_of_cell? w _ hx173_0)).trans hx173_0; replace p173 := eq_true p173; replace q173 := eq_true q173))
              go_roundg k1
              case measure => have := HK1.out; omega
              case rel => exact ⟨(wrap64 (x7_1 + (rd l0 x9_1))), (true), (wrap64 (x9_1 + 1)), (by first | rfl | (simp; done) | (simp [*]; done)), (by first | rfl | (simp; done) | (simp [*]; done)), (by first | rfl | (simp; done) | (simp [*]; done)), H', ⟨by have := HK1.out; omega⟩, ⟨by (with_reducible repeat (first | refine blk_drewN ?_ _ | refine blk_drew ?_ | refine blk_alloc ?_ _)); exact BK170.out⟩, ⟨by repeat (first | (with_reducible first | exact HB.out | apply below_alloc | apply pw_below_drewN | apply below_drew1 | refine below_set ?_ GE170.out) | exact HB.out)⟩⟩
            · rw [if_neg c11] at H
              exact absurd H (by simp)
        · replace c7 := Bool.eq_false_iff.mpr c7
          subst c7
          have H1 : (spec_WidCell.l0 k1 l0 a1 x7_1 x8_1 (wrap64 (x9_1 + 1)) a2_0 a2_1 a2_2 a2_3 a2_4) = some r := by rw [if_neg (show ¬ (false = true) by decide)] at H; exact H
          clear H
          have H := H1
          clear H1
          have H' := Aside0.mk H
          clear H
          have hcz13_0 : wr.cell? ⟨gb170, 0, none⟩ = some (.int .i64 a2_0) := (blk_cell BK170.out 0).trans rfl
          have hcz13_1 : wr.cell? ⟨gb170, 1, none⟩ = some (.int .i64 a2_1) := (blk_cell BK170.out 1).trans rfl
          have hcz13_2 : wr.cell? ⟨gb170, 2, none⟩ = some (.int .i64 a2_2) := (blk_cell BK170.out 2).trans rfl
          have hcz13_3 : wr.cell? ⟨gb170, 3, none⟩ = some (.int .i64 a2_3) := (blk_cell BK170.out 3).trans rfl
          have hcz13_4 : wr.cell? ⟨gb170, 4, none⟩ = some (.int .i64 a2_4) := (blk_cell BK170.out 4).trans rfl
          have hfz13_0 := blk_frozen BK170.out 0
          have hfz13_1 := blk_frozen BK170.out 1
          have hfz13_2 := blk_frozen BK170.out 2
          have hfz13_3 := blk_frozen BK170.out 3
          have hfz13_4 := blk_frozen BK170.out 4
          go_wp2_with (first | ((with_reducible refine gate_callee (f := 24) rfl ?_); refine goesL_ (some 21) rfl rfl Tryd.func24 (by kernel_rfl) rfl #[.int .i64 x9_1, .int .i64 a2_1, .int .i64 a2_3] rfl (by (try simp only [List.map_toArray, List.map_cons, List.map_nil]); first | done | rfl | (simp only [List.length_drop, List.length_take]; rfl)) ?_; (with_reducible refine (spec_l1Among.calls k1 x9_1 a2_1 a2_3 false _ A6.out).mono ?_); rintro e w' ⟨rfl, ⟨nd, rfl⟩⟩; refine ⟨_, rfl, ?_⟩))
          go_roundg k1
          case measure => have := HK1.out; omega
          case rel => exact ⟨(x7_1), (x8_1), (wrap64 (x9_1 + 1)), (by first | rfl | (simp; done) | (simp [*]; done)), (by first | rfl | (simp; done) | (simp [*]; done)), (by first | rfl | (simp; done) | (simp [*]; done)), H', ⟨by have := HK1.out; omega⟩, ⟨by (with_reducible repeat (first | refine blk_drewN ?_ _ | refine blk_drew ?_ | refine blk_alloc ?_ _)); exact BK170.out⟩, ⟨by repeat (first | (with_reducible first | exact HB.out | apply below_alloc | apply pw_below_drewN | apply below_drew1 | refine below_set ?_ GE170.out) | exact HB.out)⟩⟩
      · rw [if_neg c5] at H
        have c5b0 : decide (x9_1 < (l0.length : Int)) = false := decide_eq_false c5
        clear c5
        obtain rfl := Option.some.inj H
        go_wp2
        go_ret
        exact ⟨by first | rfl | (simp [IntKind.wrap_i64, wrap64]; done) | (simp [errW_none, errW_some] <;> rfl) | (simp [*, errW_none, errW_some] <;> rfl), by repeat (first | (with_reducible first | exact HB.out | apply below_alloc | apply pw_below_drewN | apply below_drew1 | refine below_set ?_ GE170.out) | exact HB.out)⟩

/-! ### impl_WidAt: function 20 -/
def impl_WidAt.f (k : Nat) (l0 : List Int) (a1 : Int) (a2 : Int) : Option (Int) := if 0 ≤ (mx (mn a2 (l0.length : Int)) 0) then (if (mx (mn a2 (l0.length : Int)) 0) ≤ (l0.length : Int) then ((impl_sumOf.f k (l0.take ((mx (mn a2 (l0.length : Int)) 0) : Int).toNat)).bind fun t175 => (some (wrap64 (t175 + (wrap64 (a1 * ((l0.take ((mx (mn a2 (l0.length : Int)) 0) : Int).toNat).length : Int))))))) else (none)) else (none)
theorem impl_WidAt.mono : ∀ a0 a1 a2 k, LeO (impl_WidAt.f k a0 a1 a2) (impl_WidAt.f (k + 1) a0 a1 a2) := by
  intro a0 a1 a2 k
  unfold impl_WidAt.f
  repeat' first
      | (with_reducible exact impl_sumOf.mono _ _)
      | (with_reducible exact LeO.refl _)
      | (with_reducible exact LeO.none _)
      | (with_reducible refine LeO.ite ?_ ?_)
      | (with_reducible refine LeO.bind ?_ (fun _ => ?_))
      | exact impl_sumOf.mono _ _
      | exact LeO.none _
      | refine LeO.ite ?_ ?_
      | refine LeO.bind ?_ (fun _ => ?_)
set_option maxHeartbeats 8000000 in
set_option maxRecDepth 100000 in
theorem impl_WidAt.calls (k : Nat) (A0 : Option Addr) (c0 : Nat) (l0 : List Int) (a1 : Int) (a2 : Int) (r : Int) (w : World) (hr0 : Kd.C (Kd.int .i64) w A0 l0.length l0) (hc0 : l0.length ≤ c0) (h : impl_WidAt.f k l0 a1 a2 = some r) :
    Calls Tryd.prog 20 #[.slice A0 l0.length c0, .int .i64 a1, .int .i64 a2] w fun e w' => e = .returned (.int .i64 r) ∧ Below w.heap.size w w' := by
  have HR0 := Aside0.mk hr0
  have HC0 := Aside0.mk hc0
  clear hr0 hc0
  have HB := Aside0.mk (Below.refl w.heap.size w)
  have H : (if 0 ≤ (mx (mn a2 (l0.length : Int)) 0) then (if (mx (mn a2 (l0.length : Int)) 0) ≤ (l0.length : Int) then ((impl_sumOf.f k (l0.take ((mx (mn a2 (l0.length : Int)) 0) : Int).toNat)).bind fun t175 => (some (wrap64 (t175 + (wrap64 (a1 * ((l0.take ((mx (mn a2 (l0.length : Int)) 0) : Int).toNat).length : Int))))))) else (none)) else (none)) = some r := h
  clear h
  obtain ⟨ji4, hji4⟩ : ∃ j_ : Int, (mn a2 (l0.length : Int)) = j_ := ⟨_, rfl⟩
  replace H : (if 0 ≤ (mx (ji4) 0) then (if (mx (ji4) 0) ≤ (l0.length : Int) then ((impl_sumOf.f k (l0.take ((mx (ji4) 0) : Int).toNat)).bind fun t175 => (some (wrap64 (t175 + (wrap64 (a1 * ((l0.take ((mx (ji4) 0) : Int).toNat).length : Int))))))) else (none)) else (none)) = some r := by first | (rw [hji4] at H; exact H) | (simp only [hji4] at H ⊢; exact H)
  have hji4_ : (if (l0.length : Int) < a2 then (l0.length : Int) else a2) = ji4 := hji4
  obtain ⟨ji5, hji5⟩ : ∃ j_ : Int, (mx (ji4) 0) = j_ := ⟨_, rfl⟩
  replace H : (if 0 ≤ (ji5) then (if (ji5) ≤ (l0.length : Int) then ((impl_sumOf.f k (l0.take ((ji5) : Int).toNat)).bind fun t175 => (some (wrap64 (t175 + (wrap64 (a1 * ((l0.take ((ji5) : Int).toNat).length : Int))))))) else (none)) else (none)) = some r := by first | (rw [hji5] at H; exact H) | (simp only [hji5] at H ⊢; exact H)
  have hji5_ : (if (ji4) < 0 then 0 else (ji4)) = ji5 := hji5
  by_cases c6 : 0 ≤ (ji5)
  · rw [if_pos c6] at H
    have c6b0 := eq_true c6
    have c6b1 : decide (0 ≤ (ji5)) = true := decide_eq_true c6
    clear c6
    by_cases c7 : (ji5) ≤ (l0.length : Int)
    · rw [if_pos c7] at H
      have c7b0 := eq_true c7
      have c7b1 : decide ((ji5) ≤ (l0.length : Int)) = true := decide_eq_true c7
      clear c7
      replace H := Option.bind_eq_some_iff.mp H
      obtain ⟨t175, A80, H⟩ := H
      replace H : (some (wrap64 (t175 + (wrap64 (a1 * ((l0.take ((ji5) : Int).toNat).length : Int)))))) = some r := H
      have A8 := Aside0.mk A80
      clear A80
      obtain rfl := Option.some.inj H
      obtain ⟨i09, hi09, _, hsz9, _⟩ := info_parts info3
      obtain ⟨hcut9, hA9, hC9⟩ := print_take_of (P := Tryd.prog) (Value.int .i64) 0 39 3 .i64 Tryd.underlying39 hi09 hsz9 A0 c0 l0 (ji5) (of_decide_eq_true (by first | (with_reducible assumption) | assumption)) (of_decide_eq_true (by first | (with_reducible assumption) | assumption)) HC0.out
      have HR174 := Aside0.mk (Kd.C_of_reads (h1 := fun _ => rfl) (hA9 _ (Kd.reads_of_C HR0.out)))
      have HC174 := Aside0.mk hC9
      clear hA9 hC9 hi09 hsz9
      go_enter Tryd.func20, Tryd.ntmps20
      go_wp2_with (first | ((with_reducible refine gate_callee (f := 34) rfl ?_); refine goesL_ (some 16) rfl rfl Tryd.func34 (by kernel_rfl) rfl #[.slice A0 (l0.take ((ji5) : Int).toNat).length c0] rfl (by (try simp only [List.map_toArray, List.map_cons, List.map_nil]); first | done | (rw [show (l0.take ((ji5) : Int).toNat).length = (ji5).toNat from (by rw [List.length_take]; have h_ : ((ji5) : Int) ≤ (l0.length : Int) := of_decide_eq_true (by first | (with_reducible assumption) | assumption); omega)] <;> rfl) | (simp only [hji5]; rfl) | rfl | (simp only [List.length_drop, List.length_take]; rfl)) ?_; (with_reducible refine (impl_sumOf.calls k _ _ (l0.take ((ji5) : Int).toNat) t175 _ ?side1 ?side2 A8.out).mono ?_); (case side1 => repeat (first | exact HR174.out | (with_reducible refine Kd.C_alloc ?_ _) | (with_reducible refine Kd.C_drewN ?_ _) | (with_reducible refine Kd.C_drew ?_))); (case side2 => exact HC174.out); rintro e w' ⟨rfl, ⟨nd, rfl⟩⟩; refine ⟨_, rfl, ?_⟩))
      go_ret
      exact ⟨by first | rfl | (simp [IntKind.wrap_i64, wrap64]; done) | (simp [errW_none, errW_some] <;> rfl) | (simp only [← hji4, ← hji5]; first | rfl | (simp [errW_none, errW_some] <;> rfl)) | (simp [*, errW_none, errW_some] <;> rfl), by repeat (first | (with_reducible first | exact HB.out | apply below_alloc | apply pw_below_drewN | apply below_drew1) | exact HB.out)⟩
    · rw [if_neg c7] at H
      exact absurd H (by simp)
  · rw [if_neg c6] at H
    exact absurd H (by simp)

/-! ### impl_in: function 33 -/
def impl_in.f (a0 : Int) (a1 : Int) (a2 : Int) : Option (Bool) := if a0 ≥ a1 then (some (decide (a0 ≤ a2))) else (some false)
set_option maxHeartbeats 8000000 in
set_option maxRecDepth 100000 in
theorem impl_in.calls (a0 : Int) (a1 : Int) (a2 : Int) (r : Bool) (w : World) (h : impl_in.f a0 a1 a2 = some r) :
    Calls Tryd.prog 33 #[.int .i64 a0, .int .i64 a1, .int .i64 a2] w fun e w' => e = .returned (.bool r) ∧ Drawn0 w w' := by
  have H : (if a0 ≥ a1 then (some (decide (a0 ≤ a2))) else (some false)) = some r := h
  clear h
  by_cases c4 : a0 ≥ a1
  · rw [if_pos c4] at H
    have c4b0 : decide (a1 ≤ a0) = true := decide_eq_true c4
    clear c4
    obtain rfl := Option.some.inj H
    go_enter Tryd.func33, Tryd.ntmps33
    go_wp2
    go_ret
    exact ⟨by first | rfl | (simp [IntKind.wrap_i64, wrap64]; done) | (simp; done) | (simp [*]; done), by repeat (first | exact Drawn0.refl _ | apply Drawn0.step)⟩
  · rw [if_neg c4] at H
    have c4b0 : decide (a1 ≤ a0) = false := decide_eq_false c4
    clear c4
    obtain rfl := Option.some.inj H
    go_enter Tryd.func33, Tryd.ntmps33
    go_wp2
    go_ret
    exact ⟨by first | rfl | (simp [IntKind.wrap_i64, wrap64]; done) | (simp; done) | (simp [*]; done), by repeat (first | exact Drawn0.refl _ | apply Drawn0.step)⟩

/-! ### impl_WidEnd: function 19 (by hand) -/
def impl_WidEnd.f (k : Nat) (l0 : List Int) (a1 : Int) (a2 : Int) : Option (Int) := (impl_in.f a2 0 (wrap64 ((l0.length : Int) - 1))).bind fun t176 => (if t176 = true then ((impl_WidAt.f k l0 a1 a2).bind fun t177 => (if 0 ≤ a2 then (if a2 < (l0.length : Int) then (some (wrap64 (t177 + (rd l0 a2)))) else (none)) else (none))) else (some 0))
theorem impl_WidEnd.mono : ∀ a0 a1 a2 k, LeO (impl_WidEnd.f k a0 a1 a2) (impl_WidEnd.f (k + 1) a0 a1 a2) := by
  intro a0 a1 a2 k
  unfold impl_WidEnd.f
  repeat' first
      | (with_reducible exact impl_WidAt.mono _ _ _ _)
      | (with_reducible exact LeO.refl _)
      | (with_reducible exact LeO.none _)
      | (with_reducible refine LeO.ite ?_ ?_)
      | (with_reducible refine LeO.bind ?_ (fun _ => ?_))
      | exact impl_WidAt.mono _ _ _ _
      | exact LeO.none _
      | refine LeO.ite ?_ ?_
      | refine LeO.bind ?_ (fun _ => ?_)
def impl_WidEnd.T3 : Bool × List (List Nat × List Nat) := (true, [([], []), ([], []), ([], []), ([0, 1, 2], [0, 1, 2]), ([], []), ([], []), ([4, 5], [4, 5]), ([6], [6]), ([3, 7], [3, 7]), ([8, 3, 0, 1, 2, 3, 4, 5, 6, 7, 8], [8])])
def impl_WidEnd.B3 : List Nat := [0, 0, 0, 7, 0, 0, 48, 112, 255, 511]
theorem impl_WidEnd.tab3 : rtab .any (opsOf Tryd.f19 3) = impl_WidEnd.T3 := by kernel_rfl
theorem impl_WidEnd.bits3 : waitsOk impl_WidEnd.T3.2 impl_WidEnd.B3 = true := by kernel_rfl
set_option maxHeartbeats 8000000 in
set_option maxRecDepth 100000 in
theorem impl_WidAt_quiet (k : Nat) (A0 : Option Addr) (c0 : Nat) (l0 : List Int) (a1 : Int) (a2 : Int) (r : Int) (w : World) (hr0 : Kd.C (Kd.int .i64) w A0 l0.length l0) (hc0 : l0.length ≤ c0) (h : impl_WidAt.f k l0 a1 a2 = some r) :
    Calls Tryd.prog 20 #[.slice A0 l0.length c0, .int .i64 a1, .int .i64 a2] w fun e w' => e = .returned (.int .i64 r) ∧ Drawn0 w w' := by
  have HR0 := Aside0.mk hr0
  have HC0 := Aside0.mk hc0
  clear hr0 hc0
  have HB := Aside0.mk (Below.refl w.heap.size w)
  have H : (if 0 ≤ (mx (mn a2 (l0.length : Int)) 0) then (if (mx (mn a2 (l0.length : Int)) 0) ≤ (l0.length : Int) then ((impl_sumOf.f k (l0.take ((mx (mn a2 (l0.length : Int)) 0) : Int).toNat)).bind fun t175 => (some (wrap64 (t175 + (wrap64 (a1 * ((l0.take ((mx (mn a2 (l0.length : Int)) 0) : Int).toNat).length : Int))))))) else (none)) else (none)) = some r := h
  clear h
  obtain ⟨ji4, hji4⟩ : ∃ j_ : Int, (mn a2 (l0.length : Int)) = j_ := ⟨_, rfl⟩
  replace H : (if 0 ≤ (mx (ji4) 0) then (if (mx (ji4) 0) ≤ (l0.length : Int) then ((impl_sumOf.f k (l0.take ((mx (ji4) 0) : Int).toNat)).bind fun t175 => (some (wrap64 (t175 + (wrap64 (a1 * ((l0.take ((mx (ji4) 0) : Int).toNat).length : Int))))))) else (none)) else (none)) = some r := by first | (rw [hji4] at H; exact H) | (simp only [hji4] at H ⊢; exact H)
  have hji4_ : (if (l0.length : Int) < a2 then (l0.length : Int) else a2) = ji4 := hji4
  obtain ⟨ji5, hji5⟩ : ∃ j_ : Int, (mx (ji4) 0) = j_ := ⟨_, rfl⟩
  replace H : (if 0 ≤ (ji5) then (if (ji5) ≤ (l0.length : Int) then ((impl_sumOf.f k (l0.take ((ji5) : Int).toNat)).bind fun t175 => (some (wrap64 (t175 + (wrap64 (a1 * ((l0.take ((ji5) : Int).toNat).length : Int))))))) else (none)) else (none)) = some r := by first | (rw [hji5] at H; exact H) | (simp only [hji5] at H ⊢; exact H)
  have hji5_ : (if (ji4) < 0 then 0 else (ji4)) = ji5 := hji5
  by_cases c6 : 0 ≤ (ji5)
  · rw [if_pos c6] at H
    have c6b0 := eq_true c6
    have c6b1 : decide (0 ≤ (ji5)) = true := decide_eq_true c6
    clear c6
    by_cases c7 : (ji5) ≤ (l0.length : Int)
    · rw [if_pos c7] at H
      have c7b0 := eq_true c7
      have c7b1 : decide ((ji5) ≤ (l0.length : Int)) = true := decide_eq_true c7
      clear c7
      replace H := Option.bind_eq_some_iff.mp H
      obtain ⟨t175, A80, H⟩ := H
      replace H : (some (wrap64 (t175 + (wrap64 (a1 * ((l0.take ((ji5) : Int).toNat).length : Int)))))) = some r := H
      have A8 := Aside0.mk A80
      clear A80
      obtain rfl := Option.some.inj H
      obtain ⟨i09, hi09, _, hsz9, _⟩ := info_parts info3
      obtain ⟨hcut9, hA9, hC9⟩ := print_take_of (P := Tryd.prog) (Value.int .i64) 0 39 3 .i64 Tryd.underlying39 hi09 hsz9 A0 c0 l0 (ji5) (of_decide_eq_true (by first | (with_reducible assumption) | assumption)) (of_decide_eq_true (by first | (with_reducible assumption) | assumption)) HC0.out
      have HR174 := Aside0.mk (Kd.C_of_reads (h1 := fun _ => rfl) (hA9 _ (Kd.reads_of_C HR0.out)))
      have HC174 := Aside0.mk hC9
      clear hA9 hC9 hi09 hsz9
      go_enter Tryd.func20, Tryd.ntmps20
      go_wp2_with (first | ((with_reducible refine gate_callee (f := 34) rfl ?_); refine goesL_ (some 16) rfl rfl Tryd.func34 (by kernel_rfl) rfl #[.slice A0 (l0.take ((ji5) : Int).toNat).length c0] rfl (by (try simp only [List.map_toArray, List.map_cons, List.map_nil]); first | done | (rw [show (l0.take ((ji5) : Int).toNat).length = (ji5).toNat from (by rw [List.length_take]; have h_ : ((ji5) : Int) ≤ (l0.length : Int) := of_decide_eq_true (by first | (with_reducible assumption) | assumption); omega)] <;> rfl) | (simp only [hji5]; rfl) | rfl | (simp only [List.length_drop, List.length_take]; rfl)) ?_; (with_reducible refine (impl_sumOf.calls k _ _ (l0.take ((ji5) : Int).toNat) t175 _ ?side1 ?side2 A8.out).mono ?_); (case side1 => repeat (first | exact HR174.out | (with_reducible refine Kd.C_alloc ?_ _) | (with_reducible refine Kd.C_drewN ?_ _) | (with_reducible refine Kd.C_drew ?_))); (case side2 => exact HC174.out); rintro e w' ⟨rfl, ⟨nd, rfl⟩⟩; refine ⟨_, rfl, ?_⟩))
      go_ret
      exact ⟨by first | rfl | (simp [errW_none, errW_some] <;> rfl) | (simp only [← hji4, ← hji5]; first | rfl | (simp [errW_none, errW_some] <;> rfl)) | (simp [*, errW_none, errW_some] <;> rfl), by repeat (first | exact Drawn0.refl _ | apply Drawn0.step)⟩
    · rw [if_neg c7] at H
      exact absurd H (by simp)
  · rw [if_neg c6] at H
    exact absurd H (by simp)
set_option maxHeartbeats 2000000 in
set_option maxRecDepth 100000 in
theorem impl_WidEnd.calls (k : Nat) (A0 : Option Addr) (c0 : Nat) (l0 : List Int) (a1 : Int) (a2 : Int) (r : Int) (w : World) (hr0 : Kd.C (Kd.int .i64) w A0 l0.length l0) (hc0 : l0.length ≤ c0) (h : impl_WidEnd.f k l0 a1 a2 = some r) :
    Calls Tryd.prog 19 #[.slice A0 l0.length c0, .int .i64 a1, .int .i64 a2] w fun e w' => e = .returned (.int .i64 r) ∧ Below w.heap.size w w' := by
  have HR0 := Aside0.mk hr0
  have HC0 := Aside0.mk hc0
  clear hr0 hc0
  have H := h
  clear h
  unfold impl_WidEnd.f at H
  replace H := Option.bind_eq_some_iff.mp H
  obtain ⟨t3, A40, H⟩ := H
  have A4 := Aside0.mk A40
  clear A40
  by_cases c5 : t3 = true
  · subst c5
    rw [if_pos rfl] at H
    replace H := Option.bind_eq_some_iff.mp H
    obtain ⟨t4, A60, H⟩ := H
    have A6 := Aside0.mk A60
    clear A60
    by_cases c7 : 0 ≤ a2
    · rw [if_pos c7] at H
      by_cases c8 : a2 < (l0.length : Int)
      · rw [if_pos c8] at H
        obtain rfl := Option.some.inj H
        clear H
        obtain ⟨ad, e1, hx⟩ := Kd.at_int HR0.out a2 c7 c8
        cases e1
        have c7b : decide (0 ≤ a2) = true := decide_eq_true c7
        have c8b : decide (a2 < (l0.length : Int)) = true := decide_eq_true c8
        go_enter Tryd.func19, Tryd.ntmps19
        go_wp2_with (go_at_call 33; (with_reducible refine (impl_in.calls a2 0 (wrap64 ((l0.length : Int) - 1)) true _ A4.out).mono ?_); rintro e w' ⟨rfl, ⟨nd, rfl⟩⟩)
        go_quiet ((go_at_call 20; (with_reducible refine (impl_WidAt_quiet k _ _ l0 a1 a2 t4 _ ?side1 ?side2 A6.out).mono ?_); (case side1 => repeat (first | exact HR0.out | (with_reducible refine Kd.C_drewN ?_ _) | (with_reducible refine Kd.C_drew ?_))); (case side2 => exact HC0.out); rintro e w' ⟨rfl, ⟨nd2, rfl⟩⟩; first | exact ⟨rfl, _, World.drewN_drewN _ _ _⟩ | exact ⟨rfl, _, Eq.trans (World.drewN_drewN _ _ _) (congrArg (World.drewN _) (Nat.add_assoc _ _ _))⟩))
        go_wp2
        go_ret
        exact ⟨by first | rfl | (simp [IntKind.wrap_i64, wrap64]; done), by repeat (first | exact Below.refl _ _ | apply pw_below_drewN | apply below_drew1)⟩
      · rw [if_neg c8] at H
        exact absurd H (by simp)
    · rw [if_neg c7] at H
      exact absurd H (by simp)
  · replace c5 := Bool.eq_false_iff.mpr c5
    subst c5
    rw [if_neg (by decide)] at H
    obtain rfl := Option.some.inj H
    clear H
    go_enter Tryd.func19, Tryd.ntmps19
    go_wp2_with (go_at_call 33; (with_reducible refine (impl_in.calls a2 0 (wrap64 ((l0.length : Int) - 1)) false _ A4.out).mono ?_); rintro e w' ⟨rfl, ⟨nd, rfl⟩⟩)
    go_ret
    exact ⟨rfl, by repeat (first | exact Below.refl _ _ | apply pw_below_drewN | apply below_drew1)⟩


end Go.Proofs.YtfcacpbblkahdaaDoor.PFnWidCell
