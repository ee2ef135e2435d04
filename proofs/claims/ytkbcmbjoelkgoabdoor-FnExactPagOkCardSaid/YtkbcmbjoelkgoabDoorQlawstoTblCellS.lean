-- Told by a program of this session (uprint.py, ulay.py).
import Derived.Test.YtkbcmbjoelkgoabDoorQ0
import Derived.Test.YtkbcmbjoelkgoabDoorQspecPagOk
namespace Go.Proofs.YtkbcmbjoelkgoabDoor.Q
open Go.RowKit Go.Proofs.YtkbcmbjoelkgoabDoorW.PrintWords Go.Proofs.YtkbcmbjoelkgoabDoorW.PrintLast Go.Proofs.YtkbcmbjoelkgoabDoorW.PrintMore
attribute [local go_sem] max2_int min2_int max_two min_two max_three min_three max_four min_four
set_option linter.unusedVariables false
set_option linter.unusedSimpArgs false

/-! ### laws_toTblCellS: function 35 -/
def laws_toTblCellS.l0 : Nat → List (S83) → List (S63) → Int → Option ((List (S63)))
  | 0, _, _, _ => none
  | k + 1, x0, x3, x4 => if x4 < (x0.length : Int) then (if 0 ≤ x4 then ((laws_toTblCell.f ((rd_T83 x0 x4).f0) ((rd_T83 x0 x4).f1) ((rd_T83 x0 x4).f2) ((rd_T83 x0 x4).f3.f0) ((rd_T83 x0 x4).f3.f1) ((rd_T83 x0 x4).f4.f0) ((rd_T83 x0 x4).f4.f1) ((rd_T83 x0 x4).f5.f0) ((rd_T83 x0 x4).f5.f1) ((rd_T83 x0 x4).f6.f0) ((rd_T83 x0 x4).f6.f1)).bind fun bt172 => (if x4 < (x3.length : Int) then (laws_toTblCellS.l0 k x0 (x3.set (x4 : Int).toNat (⟨bt172.1, bt172.2.1, bt172.2.2.1, (⟨bt172.2.2.2.1, bt172.2.2.2.2.1⟩ : S61), (⟨bt172.2.2.2.2.2.1, bt172.2.2.2.2.2.2.1⟩ : S61), (⟨bt172.2.2.2.2.2.2.2.1, bt172.2.2.2.2.2.2.2.2.1⟩ : S61), (⟨bt172.2.2.2.2.2.2.2.2.2.1, bt172.2.2.2.2.2.2.2.2.2.2⟩ : S61)⟩ : S63)) (wrap64 (x4 + 1))) else (none))) else (none)) else (some x3)
def laws_toTblCellS.f (k : Nat) (l0 : List (S83)) : Option ((List (S63))) := if 0 ≤ (l0.length : Int) then (if ((l0.length : Int) : Int).toNat ≤ 2932031007402 then (laws_toTblCellS.l0 k l0 (List.replicate ((l0.length : Int) : Int).toNat z63) 0) else (none)) else (none)
theorem laws_toTblCellS.mono_l : ∀ k, (∀ y0 y1 y2, LeO (laws_toTblCellS.l0 k y0 y1 y2) (laws_toTblCellS.l0 (k + 1) y0 y1 y2))
  | 0 => fun _ _ _ r h => by simp [laws_toTblCellS.l0] at h
  | k + 1 => by
    have ih0 := laws_toTblCellS.mono_l k
    · intro y0 y1 y2
      unfold laws_toTblCellS.l0
      repeat' first
      | (with_reducible exact ih0 _ _ _)
      | (with_reducible exact LeO.refl _)
      | (with_reducible exact LeO.none _)
      | (with_reducible refine LeO.ite ?_ ?_)
      | (with_reducible refine LeO.bind ?_ (fun _ => ?_))
      | exact ih0 _ _ _
      | exact LeO.none _
      | refine LeO.ite ?_ ?_
      | refine LeO.bind ?_ (fun _ => ?_)
theorem laws_toTblCellS.mono : ∀ a0 k, LeO (laws_toTblCellS.f k a0) (laws_toTblCellS.f (k + 1) a0) := by
  intro a0 k
  have ih0 := laws_toTblCellS.mono_l k
  unfold laws_toTblCellS.f
  repeat' first
      | (with_reducible exact ih0 _ _ _)
      | (with_reducible exact LeO.refl _)
      | (with_reducible exact LeO.none _)
      | (with_reducible refine LeO.ite ?_ ?_)
      | (with_reducible refine LeO.bind ?_ (fun _ => ?_))
      | exact ih0 _ _ _
      | exact LeO.none _
      | refine LeO.ite ?_ ?_
      | refine LeO.bind ?_ (fun _ => ?_)
set_option maxHeartbeats 8000000 in
set_option maxRecDepth 100000 in
theorem laws_toTblCellS.calls (k : Nat) (A0 : Option Addr) (c0 : Nat) (l0 : List (S83)) (r : List (S63)) (w : World) (hr0 : Kd.C k83 w A0 l0.length l0) (hc0 : l0.length ≤ c0) (h : laws_toTblCellS.f k l0 = some r) :
    Calls Tryd.prog 35 #[.slice A0 l0.length c0] w fun e w' => ∃ v0_ : Value, e = .returned (v0_) ∧ Kd.R k63 63 w' w.heap.size (fun _ => True) v0_ r ∧ Below w.heap.size w w' := by
  have hu83 := Tryd.underlying83
  have hu63 := Tryd.underlying63
  have HR0 := Aside0.mk hr0
  have HC0 := Aside0.mk hc0
  clear hr0 hc0
  have HB := Aside0.mk (Below.refl w.heap.size w)
  have H : (if 0 ≤ (l0.length : Int) then (if ((l0.length : Int) : Int).toNat ≤ 2932031007402 then (laws_toTblCellS.l0 k l0 (List.replicate ((l0.length : Int) : Int).toNat z63) 0) else (none)) else (none)) = some r := h
  clear h
  by_cases c2 : 0 ≤ (l0.length : Int)
  · rw [if_pos c2] at H
    have c2b0 := eq_true c2
    have c2b1 : decide (0 ≤ (l0.length : Int)) = true := decide_eq_true c2
    clear c2
    by_cases c3 : ((l0.length : Int) : Int).toNat ≤ 2932031007402
    · rw [if_pos c3] at H
      have c3b0 := eq_true c3
      have c3b1 : decide (((l0.length : Int) : Int).toNat ≤ 2932031007402) = true := decide_eq_true c3
      clear c3
      obtain ⟨y168, hy168⟩ : ∃ y_ : List (S63), y_ = (List.replicate ((l0.length : Int) : Int).toNat z63) := ⟨_, rfl⟩
      replace H : (laws_toTblCellS.l0 k l0 y168 0) = some r := by first | (rw [hy168]; with_reducible exact H) | (have H2_ := (Option.bind_some _ _).symm.trans H; rw [hy168]; with_reducible exact H2_) | (have H2_ := (Option.bind_some _ _).symm.trans H; with_reducible exact H2_) | with_reducible exact H | (rw [hy168]; exact H) | exact H
      have Ny168 := Aside0.mk hy168
      clear hy168
      have H' := Aside0.mk H
      clear H
      go_enter Tryd.func35, Tryd.ntmps35
      go_wp2_with (first | ((with_reducible refine gate_dst (N := 7) rfl ?_); refine Kd.R_make k63 _ 63 rfl (N := 7) rfl 56 _ _ rfl (l0.length : Int) rfl rfl Tryd.underlying56 (.agg #[(.string ⟨#[]⟩), (.int .i64 0), (.int .i64 0), (.int .i64 0), (.int .i64 0), (.int .i64 0), (.int .i64 0), (.int .i64 0), (.int .i64 0), (.int .i64 0), (.int .i64 0)]) 96 info63 rfl (by decide) (by omega) z63 (ok := fun _ => True) (okp := fun _ => True) (k63_mkM _ _ _ z63 ) (fun _ hk => hk) trivial (of_decide_eq_true (by first | (with_reducible assumption) | assumption)) (Nat.le_trans (Nat.mul_le_mul_right _ (of_decide_eq_true (by first | (with_reducible assumption) | assumption) : (l0.length : Int).toNat ≤ 2932031007402)) (by omega)) (Below.refl _ _) (Nat.le_refl _) ?_; intro v169 w4 ho5 hb hg_ hnew_; clear hg_ hnew_; (first | rw [← Ny168.out] at ho5 | (simp only [Int.reduceToNat] at ho5; rw [← Ny168.out] at ho5)); have n0_ := Aside0.mk (Kd.R_lower ho5 (below_size (by repeat (first | (with_reducible first | exact HB.out | apply below_alloc | apply pw_below_drewN | apply below_drew1) | exact HB.out)))); have n1_ := Aside0.mk (below_step (by repeat (first | (with_reducible first | exact HB.out | apply below_alloc | apply pw_below_drewN | apply below_drew1) | exact HB.out)) hb); clear HB; have HO170 := n0_; have HB := n1_; clear n0_ n1_; clear hb ho5))
      go_loopg [4] k (fun kq v4 w' => ∃ (x3_1 : List (S63)) (x4_1 : Int), v4 = .int .i64 x4_1 ∧ Aside0 (laws_toTblCellS.l0 kq l0 x3_1 x4_1 = some r) ∧ Aside0 (kq ≤ k) ∧ Aside0 (Kd.R k63 63 w' w.heap.size (fun _ => True) v169 x3_1) ∧ Aside0 (Below w.heap.size w w'))
      case atStart => exact ⟨(y168), (0), (by first | rfl | (simp; done) | (simp [*]; done)), H', ⟨Nat.le_refl _⟩, ⟨by (with_reducible repeat (first | apply Kd.R_alloc | apply Kd.R_drewN | apply Kd.R_drew)); exact HO170.out⟩, ⟨by repeat (first | (with_reducible first | exact HB.out | apply below_alloc | apply pw_below_drewN | apply below_drew1) | exact HB.out)⟩⟩
      case round =>
        clear H'
        try clear c2
        try clear c2b0
        try clear c2b1
        try clear p2
        try clear c3
        try clear c3b0
        try clear c3b1
        obtain ⟨x3_1, x4_1, rfl, HA, HK1, HO_3, HB⟩ := hrel
        cases gk with
        | zero => exact absurd HA.out (by simp [laws_toTblCellS.l0])
        | succ k1 =>
          have H := HA.out
          clear HA
          simp only [laws_toTblCellS.l0] at H
          by_cases c6 : x4_1 < (l0.length : Int)
          · rw [if_pos c6] at H
            have c6b0 : decide (x4_1 < (l0.length : Int)) = true := decide_eq_true c6
            clear c6
            by_cases c7 : 0 ≤ x4_1
            · rw [if_pos c7] at H
              have c7b0 : decide (0 ≤ x4_1) = true := decide_eq_true c7
              clear c7
              replace H := Option.bind_eq_some_iff.mp H
              obtain ⟨⟨t172, t173, t174, t175, t176, t177, t178, t179, t180, t181, t182⟩, A80, H⟩ := H
              replace H : (if x4_1 < (x3_1.length : Int) then (laws_toTblCellS.l0 k1 l0 (x3_1.set (x4_1 : Int).toNat (⟨t172, t173, t174, (⟨t175, t176⟩ : S61), (⟨t177, t178⟩ : S61), (⟨t179, t180⟩ : S61), (⟨t181, t182⟩ : S61)⟩ : S63)) (wrap64 (x4_1 + 1))) else (none)) = some r := H
              have A8 := Aside0.mk A80
              clear A80
              by_cases c9 : x4_1 < (x3_1.length : Int)
              · rw [if_pos c9] at H
                have c9b0 : decide (x4_1 < (x3_1.length : Int)) = true := decide_eq_true c9
                clear c9
                obtain ⟨y183, hy183⟩ : ∃ y_ : List (S63), y_ = (x3_1.set (x4_1 : Int).toNat (⟨t172, t173, t174, (⟨t175, t176⟩ : S61), (⟨t177, t178⟩ : S61), (⟨t179, t180⟩ : S61), (⟨t181, t182⟩ : S61)⟩ : S63)) := ⟨_, rfl⟩
                replace H : (laws_toTblCellS.l0 k1 l0 y183 (wrap64 (x4_1 + 1))) = some r := by first | (rw [hy183]; with_reducible exact H) | (have H2_ := (Option.bind_some _ _).symm.trans H; rw [hy183]; with_reducible exact H2_) | (have H2_ := (Option.bind_some _ _).symm.trans H; with_reducible exact H2_) | with_reducible exact H | (rw [hy183]; exact H) | exact H
                have Ny183 := Aside0.mk hy183
                clear hy183
                have H' := Aside0.mk H
                clear H
                have p171 : 0 ≤ (x4_1 : Int) := of_decide_eq_true (by first | (with_reducible assumption) | assumption)
                have q171 : x4_1 < (l0.length : Int) := of_decide_eq_true (by first | (with_reducible assumption) | assumption)
                obtain ⟨ad171, e171, hx171_0, hx171_1, hx171_2, hx171_3, hx171_4, hx171_5, hx171_6, hx171_7, hx171_8, hx171_9, hx171_10⟩ := at_T83 HR0.out x4_1 p171 q171
                cases e171
                replace hx171_0 := (HB.out.cell (World.block_lt_of_cell? w _ hx171_0)).trans hx171_0
                replace hx171_1 := (HB.out.cell (World.block_lt_of_cell? w _ hx171_1)).trans hx171_1
                replace hx171_2 := (HB.out.cell (World.block_lt_of_cell? w _ hx171_2)).trans hx171_2
                replace hx171_3 := (HB.out.cell (World.block_lt_of_cell? w _ hx171_3)).trans hx171_3
                replace hx171_4 := (HB.out.cell (World.block_lt_of_cell? w _ hx171_4)).trans hx171_4
                replace hx171_5 := (HB.out.cell (World.block_lt_of_cell? w _ hx171_5)).trans hx171_5
                replace hx171_6 := (HB.out.cell (World.block_lt_of_cell? w _ hx171_6)).trans hx171_6
                replace hx171_7 := (HB.out.cell (World.block_lt_of_cell? w _ hx171_7)).trans hx171_7
                replace hx171_8 := (HB.out.cell (World.block_lt_of_cell? w _ hx171_8)).trans hx171_8
                replace hx171_9 := (HB.out.cell (World.block_lt_of_cell? w _ hx171_9)).trans hx171_9
                replace hx171_10 := (HB.out.cell (World.block_lt_of_cell? w _ hx171_10)).trans hx171_10
                replace p171 := eq_true p171
                replace q171 := eq_true q171
                go_wp2_with (first | ((with_reducible refine gate_callee (f := 46) rfl ?_); refine goesL_ (some 20) rfl rfl Tryd.func46 (by kernel_rfl) rfl #[.agg #[.string ((rd_T83 l0 x4_1).f0), .int .i64 ((rd_T83 l0 x4_1).f1), .int .i64 ((rd_T83 l0 x4_1).f2), .int .i64 ((rd_T83 l0 x4_1).f3.f0), .int .i64 ((rd_T83 l0 x4_1).f3.f1), .int .i64 ((rd_T83 l0 x4_1).f4.f0), .int .i64 ((rd_T83 l0 x4_1).f4.f1), .int .i64 ((rd_T83 l0 x4_1).f5.f0), .int .i64 ((rd_T83 l0 x4_1).f5.f1), .int .i64 ((rd_T83 l0 x4_1).f6.f0), .int .i64 ((rd_T83 l0 x4_1).f6.f1)]] rfl (by (try simp only [List.map_toArray, List.map_cons, List.map_nil]); first | done | rfl | (simp only [List.length_drop, List.length_take]; rfl)) ?_; (with_reducible refine (laws_toTblCell.calls ((rd_T83 l0 x4_1).f0) ((rd_T83 l0 x4_1).f1) ((rd_T83 l0 x4_1).f2) ((rd_T83 l0 x4_1).f3.f0) ((rd_T83 l0 x4_1).f3.f1) ((rd_T83 l0 x4_1).f4.f0) ((rd_T83 l0 x4_1).f4.f1) ((rd_T83 l0 x4_1).f5.f0) ((rd_T83 l0 x4_1).f5.f1) ((rd_T83 l0 x4_1).f6.f0) ((rd_T83 l0 x4_1).f6.f1) t172 t173 t174 t175 t176 t177 t178 t179 t180 t181 t182 _ A8.out).mono ?_); rintro e w11 ⟨rfl, hb⟩; refine ⟨_, rfl, ?_⟩; have n0_ := Aside0.mk (Kd.R_below (by (with_reducible repeat (first | apply Kd.R_alloc | apply Kd.R_drewN | apply Kd.R_drew)); exact HO_3.out) hb); have n1_ := Aside0.mk (below_step (by repeat (first | (with_reducible first | exact HB.out | apply below_alloc | apply pw_below_drewN | apply below_drew1) | exact HB.out)) hb); clear HO_3; clear HB; have HO_3 := n0_; have HB := n1_; clear n0_ n1_; (try clear hb); (try clear hb2); (try clear hk); (try clear hi); have p10 : 0 ≤ (x4_1 : Int) := of_decide_eq_true (by first | (with_reducible assumption) | assumption); have q10 : (x4_1 : Int) < ((x3_1.length : Int) : Int) := of_decide_eq_true (by first | (with_reducible assumption) | assumption); obtain ⟨go10, co10, eo10, gb10, gl10, cl10, HG10⟩ := Kd.R_form HO_3.out (by omega); (first | cases eo10 | (injection eo10 with ea_ en_ ec_; (first | subst ea_ | (injection ea_ with ea_; subst ea_)); subst ec_; clear en_)); have GB10 := Aside0.mk gb10; have GG10 := Aside0.mk HG10; clear gb10 gl10 HG10; obtain ⟨ce10, hcl10, hM10, hcc10, hfr10⟩ := Kd.R_elem HO_3.out z63 (x4_1 : Int) p10 q10; obtain rfl := k63_openM hM10; have hx10_0 : w11.cell? ⟨go10, (x4_1 : Int).toNat * 11, none⟩ = some (.string ((rd_T63 x3_1 x4_1).f0)) := hcc10 0 _ rfl; have hx10_1 : w11.cell? ⟨go10, (x4_1 : Int).toNat * 11 + 1, none⟩ = some (.int .i64 ((rd_T63 x3_1 x4_1).f1)) := hcc10 1 _ rfl; have hx10_2 : w11.cell? ⟨go10, (x4_1 : Int).toNat * 11 + 2, none⟩ = some (.int .i64 ((rd_T63 x3_1 x4_1).f2)) := hcc10 2 _ rfl; have hx10_3 : w11.cell? ⟨go10, (x4_1 : Int).toNat * 11 + 3, none⟩ = some (.int .i64 ((rd_T63 x3_1 x4_1).f3.f0)) := hcc10 3 _ rfl; have hx10_4 : w11.cell? ⟨go10, (x4_1 : Int).toNat * 11 + 4, none⟩ = some (.int .i64 ((rd_T63 x3_1 x4_1).f3.f1)) := hcc10 4 _ rfl; have hx10_5 : w11.cell? ⟨go10, (x4_1 : Int).toNat * 11 + 5, none⟩ = some (.int .i64 ((rd_T63 x3_1 x4_1).f4.f0)) := hcc10 5 _ rfl; have hx10_6 : w11.cell? ⟨go10, (x4_1 : Int).toNat * 11 + 6, none⟩ = some (.int .i64 ((rd_T63 x3_1 x4_1).f4.f1)) := hcc10 6 _ rfl; have hx10_7 : w11.cell? ⟨go10, (x4_1 : Int).toNat * 11 + 7, none⟩ = some (.int .i64 ((rd_T63 x3_1 x4_1).f5.f0)) := hcc10 7 _ rfl; have hx10_8 : w11.cell? ⟨go10, (x4_1 : Int).toNat * 11 + 8, none⟩ = some (.int .i64 ((rd_T63 x3_1 x4_1).f5.f1)) := hcc10 8 _ rfl; have hx10_9 : w11.cell? ⟨go10, (x4_1 : Int).toNat * 11 + 9, none⟩ = some (.int .i64 ((rd_T63 x3_1 x4_1).f6.f0)) := hcc10 9 _ rfl; have hx10_10 : w11.cell? ⟨go10, (x4_1 : Int).toNat * 11 + 10, none⟩ = some (.int .i64 ((rd_T63 x3_1 x4_1).f6.f1)) := hcc10 10 _ rfl; have hf10_0 : w11.frozen? ⟨go10, (x4_1 : Int).toNat * 11, none⟩ = false := hfr10 0; have hf10_1 : w11.frozen? ⟨go10, (x4_1 : Int).toNat * 11 + 1, none⟩ = false := hfr10 1; have hf10_2 : w11.frozen? ⟨go10, (x4_1 : Int).toNat * 11 + 2, none⟩ = false := hfr10 2; have hf10_3 : w11.frozen? ⟨go10, (x4_1 : Int).toNat * 11 + 3, none⟩ = false := hfr10 3; have hf10_4 : w11.frozen? ⟨go10, (x4_1 : Int).toNat * 11 + 4, none⟩ = false := hfr10 4; have hf10_5 : w11.frozen? ⟨go10, (x4_1 : Int).toNat * 11 + 5, none⟩ = false := hfr10 5; have hf10_6 : w11.frozen? ⟨go10, (x4_1 : Int).toNat * 11 + 6, none⟩ = false := hfr10 6; have hf10_7 : w11.frozen? ⟨go10, (x4_1 : Int).toNat * 11 + 7, none⟩ = false := hfr10 7; have hf10_8 : w11.frozen? ⟨go10, (x4_1 : Int).toNat * 11 + 8, none⟩ = false := hfr10 8; have hf10_9 : w11.frozen? ⟨go10, (x4_1 : Int).toNat * 11 + 9, none⟩ = false := hfr10 9; have hf10_10 : w11.frozen? ⟨go10, (x4_1 : Int).toNat * 11 + 10, none⟩ = false := hfr10 10; clear hcl10 hcc10 hfr10; replace p10 := eq_true p10; replace q10 := eq_true q10; have HX12 := Aside0.mk (show Kd.R k63 63 w11 w.heap.size (fun _ => True) (.slice (some ⟨go10, 0, none⟩) x3_1.length co10) x3_1 from (by (with_reducible repeat (first | apply Kd.R_alloc | apply Kd.R_drewN | apply Kd.R_drew)); exact HO_3.out)); obtain ⟨ce12, hcl12, hM12, hcc12, hfr12⟩ := Kd.R_elem HX12.out z63 (x4_1 : Int) (of_decide_eq_true (by first | (with_reducible assumption) | assumption)) (by have h_ : (x4_1 : Int) < ((x3_1.length : Int) : Int) := of_decide_eq_true (by first | (with_reducible assumption) | assumption); first | exact h_ | (have e_ := (Kd.R_reads' HO_3.out).1; omega) | simpa using h_); obtain rfl := k63_openM hM12; have HP12 := Kd.R_seg HX12.out (x4_1 : Int) (of_decide_eq_true (by first | (with_reducible assumption) | assumption)) (by have h_ : (x4_1 : Int) < ((x3_1.length : Int) : Int) := of_decide_eq_true (by first | (with_reducible assumption) | assumption); first | exact h_ | (have e_ := (Kd.R_reads' HO_3.out).1; omega) | simpa using h_) (seg := [.string t172, .int .i64 t173, .int .i64 t174, .int .i64 t175, .int .i64 t176, .int .i64 t177, .int .i64 t178, .int .i64 t179, .int .i64 t180, .int .i64 t181, .int .i64 t182]) (j := 0) hcl12 hcc12 (show 11 ≤ 11 from by decide) (x' := (⟨t172, t173, t174, (⟨t175, t176⟩ : S61), (⟨t177, t178⟩ : S61), (⟨t179, t180⟩ : S61), (⟨t181, t182⟩ : S61)⟩ : S63)) (k63_mkM _ _ _ (⟨t172, t173, t174, (⟨t175, t176⟩ : S61), (⟨t177, t178⟩ : S61), (⟨t179, t180⟩ : S61), (⟨t181, t182⟩ : S61)⟩ : S63) ) (fun _ hk => hk); have hx12_0 := hcc12 0 _ rfl; (try simp only [show (k63).sz = 11 from rfl, Nat.mul_one, Nat.add_zero] at hx12_0); have hf12_0 := hfr12 0; (try simp only [show (k63).sz = 11 from rfl, Nat.mul_one, Nat.add_zero] at hf12_0); have hx12_1 := hcc12 1 _ rfl; (try simp only [show (k63).sz = 11 from rfl, Nat.mul_one, Nat.add_zero] at hx12_1); have hf12_1 := hfr12 1; (try simp only [show (k63).sz = 11 from rfl, Nat.mul_one, Nat.add_zero] at hf12_1); have hx12_2 := hcc12 2 _ rfl; (try simp only [show (k63).sz = 11 from rfl, Nat.mul_one, Nat.add_zero] at hx12_2); have hf12_2 := hfr12 2; (try simp only [show (k63).sz = 11 from rfl, Nat.mul_one, Nat.add_zero] at hf12_2); have hx12_3 := hcc12 3 _ rfl; (try simp only [show (k63).sz = 11 from rfl, Nat.mul_one, Nat.add_zero] at hx12_3); have hf12_3 := hfr12 3; (try simp only [show (k63).sz = 11 from rfl, Nat.mul_one, Nat.add_zero] at hf12_3); have hx12_4 := hcc12 4 _ rfl; (try simp only [show (k63).sz = 11 from rfl, Nat.mul_one, Nat.add_zero] at hx12_4); have hf12_4 := hfr12 4; (try simp only [show (k63).sz = 11 from rfl, Nat.mul_one, Nat.add_zero] at hf12_4); have hx12_5 := hcc12 5 _ rfl; (try simp only [show (k63).sz = 11 from rfl, Nat.mul_one, Nat.add_zero] at hx12_5); have hf12_5 := hfr12 5; (try simp only [show (k63).sz = 11 from rfl, Nat.mul_one, Nat.add_zero] at hf12_5); have hx12_6 := hcc12 6 _ rfl; (try simp only [show (k63).sz = 11 from rfl, Nat.mul_one, Nat.add_zero] at hx12_6); have hf12_6 := hfr12 6; (try simp only [show (k63).sz = 11 from rfl, Nat.mul_one, Nat.add_zero] at hf12_6); have hx12_7 := hcc12 7 _ rfl; (try simp only [show (k63).sz = 11 from rfl, Nat.mul_one, Nat.add_zero] at hx12_7); have hf12_7 := hfr12 7; (try simp only [show (k63).sz = 11 from rfl, Nat.mul_one, Nat.add_zero] at hf12_7); have hx12_8 := hcc12 8 _ rfl; (try simp only [show (k63).sz = 11 from rfl, Nat.mul_one, Nat.add_zero] at hx12_8); have hf12_8 := hfr12 8; (try simp only [show (k63).sz = 11 from rfl, Nat.mul_one, Nat.add_zero] at hf12_8); have hx12_9 := hcc12 9 _ rfl; (try simp only [show (k63).sz = 11 from rfl, Nat.mul_one, Nat.add_zero] at hx12_9); have hf12_9 := hfr12 9; (try simp only [show (k63).sz = 11 from rfl, Nat.mul_one, Nat.add_zero] at hf12_9); have hx12_10 := hcc12 10 _ rfl; (try simp only [show (k63).sz = 11 from rfl, Nat.mul_one, Nat.add_zero] at hx12_10); have hf12_10 := hfr12 10; (try simp only [show (k63).sz = 11 from rfl, Nat.mul_one, Nat.add_zero] at hf12_10); clear hcl12 hcc12 hfr12) | ((with_reducible refine gate_store (t := 63) (p := 21) rfl ?_); refine store_event (t := 63) (p := 21) (v := ?vo_w13) (w1 := (((((((((((w11.setCell ⟨go10, (x4_1 : Int).toNat * 11, none⟩ (.string t172)).setCell ⟨go10, (x4_1 : Int).toNat * 11 + 1, none⟩ (.int .i64 t173)).setCell ⟨go10, (x4_1 : Int).toNat * 11 + 2, none⟩ (.int .i64 t174)).setCell ⟨go10, (x4_1 : Int).toNat * 11 + 3, none⟩ (.int .i64 t175)).setCell ⟨go10, (x4_1 : Int).toNat * 11 + 4, none⟩ (.int .i64 t176)).setCell ⟨go10, (x4_1 : Int).toNat * 11 + 5, none⟩ (.int .i64 t177)).setCell ⟨go10, (x4_1 : Int).toNat * 11 + 6, none⟩ (.int .i64 t178)).setCell ⟨go10, (x4_1 : Int).toNat * 11 + 7, none⟩ (.int .i64 t179)).setCell ⟨go10, (x4_1 : Int).toNat * 11 + 8, none⟩ (.int .i64 t180)).setCell ⟨go10, (x4_1 : Int).toNat * 11 + 9, none⟩ (.int .i64 t181)).setCell ⟨go10, (x4_1 : Int).toNat * 11 + 10, none⟩ (.int .i64 t182))) ?hg ?ho ?hn ?hr ?_; (case ho => rfl); (case hg => rfl); (case hn => rfl); (case hr => first | (go_simp; done) | (go_simp; rfl)); intro w13 hw; have hg : w11.grownBy w13 (some go10) := (by rw [hw]; exact HP12.2); have hp_ : Kd.R k63 63 w13 w.heap.size (fun _ => True) (.slice (some ⟨go10, 0, none⟩) x3_1.length co10) y183 := (by rw [hw, Ny183.out]; exact HP12.1); clear HP12; have n0_ := Aside0.mk (hp_); have n1_ := Aside0.mk ((by rw [hw]; exact below_set (below_set (below_set (below_set (below_set (below_set (below_set (below_set (below_set (below_set (below_set (HB.out) GB10.out) GB10.out) GB10.out) GB10.out) GB10.out) GB10.out) GB10.out) GB10.out) GB10.out) GB10.out) GB10.out : Below w.heap.size w w13)); clear HO_3; clear HB; have HO_3 := n0_; have HB := n1_; clear n0_ n1_; clear hg hw hp_))
                go_roundg k1
                case measure => have := HK1.out; omega
                case rel => exact ⟨(y183), (wrap64 (x4_1 + 1)), (by first | rfl | (simp; done) | (simp [*]; done)), H', ⟨by have := HK1.out; omega⟩, ⟨by (with_reducible repeat (first | apply Kd.R_alloc | apply Kd.R_drewN | apply Kd.R_drew)); exact HO_3.out⟩, ⟨by repeat (first | (with_reducible first | exact HB.out | apply below_alloc | apply pw_below_drewN | apply below_drew1) | exact HB.out)⟩⟩
              · rw [if_neg c9] at H
                exact absurd H (by simp)
            · rw [if_neg c7] at H
              exact absurd H (by simp)
          · rw [if_neg c6] at H
            have c6b0 : decide (x4_1 < (l0.length : Int)) = false := decide_eq_false c6
            clear c6
            obtain rfl := Option.some.inj H
            go_wp2
            go_ret
            exact ⟨_, by first | rfl | (simp [errW_none, errW_some] <;> rfl) | (simp [*, errW_none, errW_some] <;> rfl), by (with_reducible repeat (first | apply Kd.R_alloc | apply Kd.R_drewN | apply Kd.R_drew)); exact HO_3.out, by repeat (first | (with_reducible first | exact HB.out | apply below_alloc | apply pw_below_drewN | apply below_drew1) | exact HB.out)⟩
    · rw [if_neg c3] at H
      exact absurd H (by simp)
  · rw [if_neg c2] at H
    exact absurd H (by simp)

/-! ### laws_toTblRow: function 27 -/
def laws_toTblRow.f (k : Nat) (l0_0 : List (S83)) (a0_1 : Bool) : Option ((List (S63)) × Bool) := (laws_toTblCellS.f k l0_0).bind fun t187 => (some (t187, a0_1))
theorem laws_toTblRow.mono : ∀ a0 a1 k, LeO (laws_toTblRow.f k a0 a1) (laws_toTblRow.f (k + 1) a0 a1) := by
  intro a0 a1 k
  unfold laws_toTblRow.f
  repeat' first
      | (with_reducible exact laws_toTblCellS.mono _ _)
      | (with_reducible exact LeO.refl _)
      | (with_reducible exact LeO.none _)
      | (with_reducible refine LeO.ite ?_ ?_)
      | (with_reducible refine LeO.bind ?_ (fun _ => ?_))
      | exact laws_toTblCellS.mono _ _
      | exact LeO.none _
      | refine LeO.ite ?_ ?_
      | refine LeO.bind ?_ (fun _ => ?_)
set_option maxHeartbeats 8000000 in
set_option maxRecDepth 100000 in
theorem laws_toTblRow.calls (k : Nat) (A0_0 : Option Addr) (c0_0 : Nat) (l0_0 : List (S83)) (a0_1 : Bool) (r1 : List (S63)) (r2 : Bool) (w : World) (hr0_0 : Kd.C k83 w A0_0 l0_0.length l0_0) (hc0_0 : l0_0.length ≤ c0_0) (h : laws_toTblRow.f k l0_0 a0_1 = some (r1, r2)) :
    Calls Tryd.prog 27 #[.agg #[.slice A0_0 l0_0.length c0_0, .bool a0_1]] w fun e w' => ∃ v0_ : Value, e = .returned (.agg #[v0_, .bool r2]) ∧ Kd.R k63 63 w' w.heap.size (fun _ => True) v0_ r1 ∧ Below w.heap.size w w' := by
  have hu52 := Tryd.underlying52
  have hu58 := Tryd.underlying58
  have HR0_0 := Aside0.mk hr0_0
  have HC0_0 := Aside0.mk hc0_0
  clear hr0_0 hc0_0
  have HB := Aside0.mk (Below.refl w.heap.size w)
  have H : ((laws_toTblCellS.f k l0_0).bind fun t187 => (some (t187, a0_1))) = some (r1, r2) := h
  clear h
  replace H := Option.bind_eq_some_iff.mp H
  obtain ⟨t187, A20, H⟩ := H
  replace H : (some (t187, a0_1)) = some (r1, r2) := H
  have A2 := Aside0.mk A20
  clear A20
  simp only [Option.some.injEq, Prod.mk.injEq] at H
  obtain ⟨rfl, rfl⟩ := H
  go_enter Tryd.func27, Tryd.ntmps27
  go_wp2_with (first | ((with_reducible refine gate_dst (N := 1) rfl ?_); refine box_event ?hg (N := 1) ?hd (cs := #[.slice A0_0 l0_0.length c0_0, .bool a0_1]) (t := 52) ?hr ?_; (case hd => rfl); (case hg => rfl); (case hr => first | (go_simp; done) | (go_simp; rfl)); intro gb184 hg w3 hbox hb; have n0_ := Aside0.mk (below_step (by repeat (first | (with_reducible first | exact HB.out | apply below_alloc | apply pw_below_drewN | apply below_drew1) | exact HB.out)) hb); have n1_ := Aside0.mk (hbox); have n2_ := Aside0.mk ((by rw [hg]; exact (below_size (by repeat (first | (with_reducible first | exact HB.out | apply below_alloc | apply pw_below_drewN | apply below_drew1) | exact HB.out))) : w.heap.size ≤ gb184)); have n3_ := Aside0.mk ((by rw [hg]; exact (below_size (by repeat (first | (with_reducible first | exact HB.out | apply below_alloc | apply pw_below_drewN | apply below_drew1) | exact HB.out))) : w.heap.size ≤ gb184)); clear HB; have HB := n0_; have BK184 := n1_; have GW184 := n2_; have GE184 := n3_; clear n0_ n1_ n2_ n3_; clear hb hbox hg) | ((with_reducible refine gate_dst (N := 2) rfl ?_); refine box_event ?hg (N := 2) ?hd (cs := #[.slice none 0 0, .bool false]) (t := 58) ?hr ?_; (case hd => rfl); (case hg => rfl); (case hr => first | (go_simp; done) | (go_simp; rfl)); intro gb185 hg w4 hbox hb; have n0_ := Aside0.mk (blk_below (g := gb184) (o := .cells #[.slice A0_0 l0_0.length c0_0, .bool a0_1] 52 (0, 0)) (by (with_reducible repeat (first | refine blk_drewN ?_ _ | refine blk_drew ?_ | refine blk_alloc ?_ _)); exact BK184.out) hb); have n1_ := Aside0.mk (below_step (by repeat (first | (with_reducible first | exact HB.out | apply below_alloc | apply pw_below_drewN | apply below_drew1 | refine below_set ?_ GE184.out) | exact HB.out)) hb); have n2_ := Aside0.mk (hbox); have n3_ := Aside0.mk ((by rw [hg]; exact (below_size (by repeat (first | (with_reducible first | exact HB.out | apply below_alloc | apply pw_below_drewN | apply below_drew1 | refine below_set ?_ GE184.out) | exact HB.out))) : w.heap.size ≤ gb185)); have n4_ := Aside0.mk ((by rw [hg]; exact (below_size (by repeat (first | (with_reducible first | exact HB.out | apply below_alloc | apply pw_below_drewN | apply below_drew1 | refine below_set ?_ GE184.out) | exact HB.out))) : w.heap.size ≤ gb185)); have n5_ := Aside0.mk ((by rw [hg]; exact Nat.ne_of_lt (blk_lt (g := gb184) (o := .cells #[.slice A0_0 l0_0.length c0_0, .bool a0_1] 52 (0, 0)) (by (with_reducible repeat (first | refine blk_drewN ?_ _ | refine blk_drew ?_ | refine blk_alloc ?_ _)); exact BK184.out)) : gb184 ≠ gb185)); have n6_ := Aside0.mk ((by rw [hg]; exact Nat.ne_of_gt (blk_lt (g := gb184) (o := .cells #[.slice A0_0 l0_0.length c0_0, .bool a0_1] 52 (0, 0)) (by (with_reducible repeat (first | refine blk_drewN ?_ _ | refine blk_drew ?_ | refine blk_alloc ?_ _)); exact BK184.out)) : gb185 ≠ gb184)); clear BK184; clear HB; have BK184 := n0_; have HB := n1_; have BK185 := n2_; have GW185 := n3_; have GE185 := n4_; have NB184_185 := n5_; have NB185_184 := n6_; clear n0_ n1_ n2_ n3_ n4_ n5_ n6_; clear hb hbox hg) | ((with_reducible refine gate_dst (N := 3) rfl ?_); refine box_event ?hg (N := 3) ?hd (cs := #[.slice none 0 0, .bool false]) (t := 58) ?hr ?_; (case hd => rfl); (case hg => rfl); (case hr => first | (go_simp; done) | (go_simp; rfl)); intro gb186 hg w5 hbox hb; have n0_ := Aside0.mk (blk_below (g := gb184) (o := .cells #[.slice A0_0 l0_0.length c0_0, .bool a0_1] 52 (0, 0)) (by (with_reducible repeat (first | refine blk_drewN ?_ _ | refine blk_drew ?_ | refine blk_alloc ?_ _)); exact BK184.out) hb); have n1_ := Aside0.mk (blk_below (g := gb185) (o := .cells #[.slice none 0 0, .bool false] 58 (0, 0)) (by (with_reducible repeat (first | refine blk_drewN ?_ _ | refine blk_drew ?_ | refine blk_alloc ?_ _)); exact BK185.out) hb); have n2_ := Aside0.mk (below_step (by repeat (first | (with_reducible first | exact HB.out | apply below_alloc | apply pw_below_drewN | apply below_drew1 | refine below_set ?_ GE184.out | refine below_set ?_ GE185.out) | exact HB.out)) hb); have n3_ := Aside0.mk (hbox); have n4_ := Aside0.mk ((by rw [hg]; exact (below_size (by repeat (first | (with_reducible first | exact HB.out | apply below_alloc | apply pw_below_drewN | apply below_drew1 | refine below_set ?_ GE184.out | refine below_set ?_ GE185.out) | exact HB.out))) : w.heap.size ≤ gb186)); have n5_ := Aside0.mk ((by rw [hg]; exact (below_size (by repeat (first | (with_reducible first | exact HB.out | apply below_alloc | apply pw_below_drewN | apply below_drew1 | refine below_set ?_ GE184.out | refine below_set ?_ GE185.out) | exact HB.out))) : w.heap.size ≤ gb186)); have n6_ := Aside0.mk ((by rw [hg]; exact Nat.ne_of_lt (blk_lt (g := gb184) (o := .cells #[.slice A0_0 l0_0.length c0_0, .bool a0_1] 52 (0, 0)) (by (with_reducible repeat (first | refine blk_drewN ?_ _ | refine blk_drew ?_ | refine blk_alloc ?_ _)); exact BK184.out)) : gb184 ≠ gb186)); have n7_ := Aside0.mk ((by rw [hg]; exact Nat.ne_of_gt (blk_lt (g := gb184) (o := .cells #[.slice A0_0 l0_0.length c0_0, .bool a0_1] 52 (0, 0)) (by (with_reducible repeat (first | refine blk_drewN ?_ _ | refine blk_drew ?_ | refine blk_alloc ?_ _)); exact BK184.out)) : gb186 ≠ gb184)); have n8_ := Aside0.mk ((by rw [hg]; exact Nat.ne_of_lt (blk_lt (g := gb185) (o := .cells #[.slice none 0 0, .bool false] 58 (0, 0)) (by (with_reducible repeat (first | refine blk_drewN ?_ _ | refine blk_drew ?_ | refine blk_alloc ?_ _)); exact BK185.out)) : gb185 ≠ gb186)); have n9_ := Aside0.mk ((by rw [hg]; exact Nat.ne_of_gt (blk_lt (g := gb185) (o := .cells #[.slice none 0 0, .bool false] 58 (0, 0)) (by (with_reducible repeat (first | refine blk_drewN ?_ _ | refine blk_drew ?_ | refine blk_alloc ?_ _)); exact BK185.out)) : gb186 ≠ gb185)); clear BK184; clear BK185; clear HB; have BK184 := n0_; have BK185 := n1_; have HB := n2_; have BK186 := n3_; have GW186 := n4_; have GE186 := n5_; have NB184_186 := n6_; have NB186_184 := n7_; have NB185_186 := n8_; have NB186_185 := n9_; clear n0_ n1_ n2_ n3_ n4_ n5_ n6_ n7_ n8_ n9_; clear hb hbox hg; have hnb6 := NB184_185.out; have hnc6 := NB185_184.out; have hnb7 := NB184_186.out; have hnc7 := NB186_184.out; have hcz8_0 : w5.cell? ⟨gb184, 0, none⟩ = some (.slice A0_0 l0_0.length c0_0) := (blk_cell BK184.out 0).trans rfl; have hcz8_1 : w5.cell? ⟨gb184, 1, none⟩ = some (.bool a0_1) := (blk_cell BK184.out 1).trans rfl; have hfz8_0 := blk_frozen BK184.out 0; have hfz8_1 := blk_frozen BK184.out 1) | ((with_reducible refine gate_callee (f := 35) rfl ?_); refine goesL_ (some 6) rfl rfl Tryd.func35 (by kernel_rfl) rfl #[.slice A0_0 l0_0.length c0_0] rfl (by (try simp only [List.map_toArray, List.map_cons, List.map_nil]); first | done | rfl | (simp only [List.length_drop, List.length_take]; rfl)) ?_; (with_reducible refine (laws_toTblCellS.calls k _ _ l0_0 t187 _ ?side1 ?side2 A2.out).mono ?_); (case side1 => repeat (first | exact HR0_0.out | exact (Kd.C_below HR0_0.out HB.out) | (with_reducible refine Kd.C_alloc ?_ _) | (with_reducible refine Kd.C_drewN ?_ _) | (with_reducible refine Kd.C_drew ?_))); (case side2 => exact HC0_0.out); rintro e w9 ⟨v188, rfl, ho0, hb⟩; refine ⟨_, rfl, ?_⟩; have n0_ := Aside0.mk (Kd.R_lower ho0 (below_size (by repeat (first | (with_reducible first | exact HB.out | apply below_alloc | apply pw_below_drewN | apply below_drew1 | refine below_set ?_ GE184.out | refine below_set ?_ GE185.out | refine below_set ?_ GE186.out) | exact HB.out)))); have n1_ := Aside0.mk (blk_below (g := gb184) (o := .cells #[.slice A0_0 l0_0.length c0_0, .bool a0_1] 52 (0, 0)) (by (with_reducible repeat (first | refine blk_drewN ?_ _ | refine blk_drew ?_ | refine blk_alloc ?_ _)); exact BK184.out) hb); have n2_ := Aside0.mk (blk_below (g := gb185) (o := .cells #[.slice none 0 0, .bool false] 58 (0, 0)) (by (with_reducible repeat (first | refine blk_drewN ?_ _ | refine blk_drew ?_ | refine blk_alloc ?_ _)); exact BK185.out) hb); have n3_ := Aside0.mk (blk_below (g := gb186) (o := .cells #[.slice none 0 0, .bool false] 58 (0, 0)) (by (with_reducible repeat (first | refine blk_drewN ?_ _ | refine blk_drew ?_ | refine blk_alloc ?_ _)); exact BK186.out) hb); have n4_ := Aside0.mk (below_step (by repeat (first | (with_reducible first | exact HB.out | apply below_alloc | apply pw_below_drewN | apply below_drew1 | refine below_set ?_ GE184.out | refine below_set ?_ GE185.out | refine below_set ?_ GE186.out) | exact HB.out)) hb); clear BK184; clear BK185; clear BK186; clear HB; have HO189 := n0_; have BK184 := n1_; have BK185 := n2_; have BK186 := n3_; have HB := n4_; clear n0_ n1_ n2_ n3_ n4_; (try clear hb); (try clear hb2); (try clear hk); (try clear hi); (try clear ho0); obtain ⟨Ao10, co10, eo10⟩ := Kd.R_slice HO189.out; subst eo10; have hnb11 := NB186_185.out; have hnc11 := NB185_186.out; have hcz12_0 : w9.cell? ⟨gb186, 0, none⟩ = some (.slice none 0 0) := (blk_cell BK186.out 0).trans rfl; have hcz12_1 : w9.cell? ⟨gb186, 1, none⟩ = some (.bool false) := (blk_cell BK186.out 1).trans rfl; have hfz12_0 := blk_frozen BK186.out 0; have hfz12_1 := blk_frozen BK186.out 1; have hcz13_0 : w9.cell? ⟨gb184, 0, none⟩ = some (.slice A0_0 l0_0.length c0_0) := (blk_cell BK184.out 0).trans rfl; have hcz13_1 : w9.cell? ⟨gb184, 1, none⟩ = some (.bool a0_1) := (blk_cell BK184.out 1).trans rfl; have hfz13_0 := blk_frozen BK184.out 0; have hfz13_1 := blk_frozen BK184.out 1; have hcz14_0 : w9.cell? ⟨gb185, 0, none⟩ = some (.slice none 0 0) := (blk_cell BK185.out 0).trans rfl; have hcz14_1 : w9.cell? ⟨gb185, 1, none⟩ = some (.bool false) := (blk_cell BK185.out 1).trans rfl; have hfz14_0 := blk_frozen BK185.out 0; have hfz14_1 := blk_frozen BK185.out 1))
  refine bodyPost_ret (results_cell_row rfl _ _ gb185 58 #[.slice Ao10 t187.length co10, .bool a0_1] (0, 0) _ rfl (by (with_reducible repeat (first | refine blk_drewN ?_ _ | refine blk_drew ?_ | refine blk_alloc ?_ _)); refine blk_put (cs := #[.slice Ao10 t187.length co10, .bool false]) ?_ 1 _ rfl; (with_reducible repeat (first | refine blk_drewN ?_ _ | refine blk_drew ?_ | refine blk_alloc ?_ _)); refine blk_put (cs := #[.slice none 0 0, .bool false]) ?_ 0 _ rfl; (with_reducible repeat (first | refine blk_drewN ?_ _ | refine blk_drew ?_ | refine blk_alloc ?_ _)); refine blk_far ?_ NB185_186.out _; (with_reducible repeat (first | refine blk_drewN ?_ _ | refine blk_drew ?_ | refine blk_alloc ?_ _)); refine blk_far ?_ NB185_186.out _; (with_reducible repeat (first | refine blk_drewN ?_ _ | refine blk_drew ?_ | refine blk_alloc ?_ _)); exact BK185.out) Tryd.underlying58 rfl (by kernel_rfl)) rfl ?_
  exact ⟨_, by first | rfl | (simp [errW_none, errW_some] <;> rfl) | (simp [*, errW_none, errW_some] <;> rfl), by (with_reducible repeat (first | apply Kd.R_alloc | apply Kd.R_drewN | apply Kd.R_drew)); exact Kd.R_mono (Kd.R_far (p := ⟨gb185, 1, none⟩) (Kd.R_far (p := ⟨gb185, 0, none⟩) (Kd.R_far (p := ⟨gb186, 1, none⟩) (Kd.R_far (p := ⟨gb186, 0, none⟩) (Kd.R_types (Kd.R_types HO189.out BK186.out (by decide)) BK185.out (by decide)) (fun _ hk => hk.1.2) (.slice Ao10 t187.length co10)) (fun _ hk => hk.1.2) (.bool a0_1)) (fun _ hk => hk.2) (.slice Ao10 t187.length co10)) (fun _ hk => hk.2) (.bool a0_1)) (fun _ hk => trivial), by repeat (first | (with_reducible first | exact HB.out | apply below_alloc | apply pw_below_drewN | apply below_drew1 | refine below_set ?_ GE184.out | refine below_set ?_ GE185.out | refine below_set ?_ GE186.out) | exact HB.out)⟩

/-! ### laws_toTblRowS: function 16 -/
def laws_toTblRowS.l0 : Nat → List (S52) → List (S58) → Int → Option ((List (S58)))
  | 0, _, _, _ => none
  | k + 1, x0, x3, x4 => if x4 < (x0.length : Int) then (if 0 ≤ x4 then ((laws_toTblRow.f k ((rd_T52 x0 x4).f0) ((rd_T52 x0 x4).f1)).bind fun bt194 => (if x4 < (x3.length : Int) then (laws_toTblRowS.l0 k x0 (x3.set (x4 : Int).toNat (⟨bt194.1, bt194.2⟩ : S58)) (wrap64 (x4 + 1))) else (none))) else (none)) else (some x3)
def laws_toTblRowS.f (k : Nat) (l0 : List (S52)) : Option ((List (S58))) := if 0 ≤ (l0.length : Int) then (if ((l0.length : Int) : Int).toNat ≤ 8796093022208 then (laws_toTblRowS.l0 k l0 (List.replicate ((l0.length : Int) : Int).toNat z58) 0) else (none)) else (none)
theorem laws_toTblRowS.mono_l : ∀ k, (∀ y0 y1 y2, LeO (laws_toTblRowS.l0 k y0 y1 y2) (laws_toTblRowS.l0 (k + 1) y0 y1 y2))
  | 0 => fun _ _ _ r h => by simp [laws_toTblRowS.l0] at h
  | k + 1 => by
    have ih0 := laws_toTblRowS.mono_l k
    · intro y0 y1 y2
      unfold laws_toTblRowS.l0
      repeat' first
      | (with_reducible exact ih0 _ _ _)
      | (with_reducible exact laws_toTblRow.mono _ _ _)
      | (with_reducible exact LeO.refl _)
      | (with_reducible exact LeO.none _)
      | (with_reducible refine LeO.ite ?_ ?_)
      | (with_reducible refine LeO.bind ?_ (fun _ => ?_))
      | exact ih0 _ _ _
      | exact laws_toTblRow.mono _ _ _
      | exact LeO.none _
      | refine LeO.ite ?_ ?_
      | refine LeO.bind ?_ (fun _ => ?_)
theorem laws_toTblRowS.mono : ∀ a0 k, LeO (laws_toTblRowS.f k a0) (laws_toTblRowS.f (k + 1) a0) := by
  intro a0 k
  have ih0 := laws_toTblRowS.mono_l k
  unfold laws_toTblRowS.f
  repeat' first
      | (with_reducible exact ih0 _ _ _)
      | (with_reducible exact laws_toTblRow.mono _ _ _)
      | (with_reducible exact LeO.refl _)
      | (with_reducible exact LeO.none _)
      | (with_reducible refine LeO.ite ?_ ?_)
      | (with_reducible refine LeO.bind ?_ (fun _ => ?_))
      | exact ih0 _ _ _
      | exact laws_toTblRow.mono _ _ _
      | exact LeO.none _
      | refine LeO.ite ?_ ?_
      | refine LeO.bind ?_ (fun _ => ?_)
set_option maxHeartbeats 8000000 in
set_option maxRecDepth 100000 in
theorem laws_toTblRowS.calls (k : Nat) (A0 : Option Addr) (c0 : Nat) (l0 : List (S52)) (r : List (S58)) (w : World) (hr0 : Kd.C k52 w A0 l0.length l0) (hc0 : l0.length ≤ c0) (h : laws_toTblRowS.f k l0 = some r) :
    Calls Tryd.prog 16 #[.slice A0 l0.length c0] w fun e w' => ∃ v0_ : Value, e = .returned (v0_) ∧ Kd.S k58 58 w' w.heap.size (fun _ => True) v0_ r ∧ Below w.heap.size w w' := by
  have hu52 := Tryd.underlying52
  have hu58 := Tryd.underlying58
  have HR0 := Aside0.mk hr0
  have HC0 := Aside0.mk hc0
  clear hr0 hc0
  have HB := Aside0.mk (Below.refl w.heap.size w)
  have H : (if 0 ≤ (l0.length : Int) then (if ((l0.length : Int) : Int).toNat ≤ 8796093022208 then (laws_toTblRowS.l0 k l0 (List.replicate ((l0.length : Int) : Int).toNat z58) 0) else (none)) else (none)) = some r := h
  clear h
  by_cases c2 : 0 ≤ (l0.length : Int)
  · rw [if_pos c2] at H
    have c2b0 := eq_true c2
    have c2b1 : decide (0 ≤ (l0.length : Int)) = true := decide_eq_true c2
    clear c2
    by_cases c3 : ((l0.length : Int) : Int).toNat ≤ 8796093022208
    · rw [if_pos c3] at H
      have c3b0 := eq_true c3
      have c3b1 : decide (((l0.length : Int) : Int).toNat ≤ 8796093022208) = true := decide_eq_true c3
      clear c3
      obtain ⟨y190, hy190⟩ : ∃ y_ : List (S58), y_ = (List.replicate ((l0.length : Int) : Int).toNat z58) := ⟨_, rfl⟩
      replace H : (laws_toTblRowS.l0 k l0 y190 0) = some r := by first | (rw [hy190]; with_reducible exact H) | (have H2_ := (Option.bind_some _ _).symm.trans H; rw [hy190]; with_reducible exact H2_) | (have H2_ := (Option.bind_some _ _).symm.trans H; with_reducible exact H2_) | with_reducible exact H | (rw [hy190]; exact H) | exact H
      have Ny190 := Aside0.mk hy190
      clear hy190
      have H' := Aside0.mk H
      clear H
      go_enter Tryd.func16, Tryd.ntmps16
      go_wp2_with (first | ((with_reducible refine gate_dst (N := 7) rfl ?_); refine Kd.S_make k58 _ 58 rfl (N := 7) rfl 30 _ _ rfl (l0.length : Int) rfl rfl Tryd.underlying30 (.agg #[(.slice none 0 0), (.bool false)]) 32 info58 rfl (by decide) (by omega) z58 (ok := fun _ => True) (okp := fun _ => True) (k58_mkM _ _ _ z58 (Kd.R_nil _ _ _ _ _)) (fun _ hk => hk) trivial (of_decide_eq_true (by first | (with_reducible assumption) | assumption)) (Nat.le_trans (Nat.mul_le_mul_right _ (of_decide_eq_true (by first | (with_reducible assumption) | assumption) : (l0.length : Int).toNat ≤ 8796093022208)) (by omega)) (Below.refl _ _) (Nat.le_refl _) ?_; intro v191 w4 ho5 hb hg_ hnew_; clear hg_ hnew_; (first | rw [← Ny190.out] at ho5 | (simp only [Int.reduceToNat] at ho5; rw [← Ny190.out] at ho5)); have n0_ := Aside0.mk (Kd.S_lower ho5 (below_size (by repeat (first | (with_reducible first | exact HB.out | apply below_alloc | apply pw_below_drewN | apply below_drew1) | exact HB.out)))); have n1_ := Aside0.mk (below_step (by repeat (first | (with_reducible first | exact HB.out | apply below_alloc | apply pw_below_drewN | apply below_drew1) | exact HB.out)) hb); clear HB; have HO192 := n0_; have HB := n1_; clear n0_ n1_; clear hb ho5))
      go_loopg [4] k (fun kq v4 w' => ∃ (x3_1 : List (S58)) (x4_1 : Int), v4 = .int .i64 x4_1 ∧ Aside0 (laws_toTblRowS.l0 kq l0 x3_1 x4_1 = some r) ∧ Aside0 (kq ≤ k) ∧ Aside0 (Kd.S k58 58 w' w.heap.size (fun _ => True) v191 x3_1) ∧ Aside0 (Below w.heap.size w w'))
      case atStart => exact ⟨(y190), (0), (by first | rfl | (simp; done) | (simp [*]; done)), H', ⟨Nat.le_refl _⟩, ⟨by (with_reducible repeat (first | apply Kd.S_alloc | apply Kd.S_drewN | apply Kd.S_drew)); exact HO192.out⟩, ⟨by repeat (first | (with_reducible first | exact HB.out | apply below_alloc | apply pw_below_drewN | apply below_drew1) | exact HB.out)⟩⟩
      case round =>
        clear H'
        try clear c1
        try clear c2
        try clear c2b0
        try clear c2b1
        try clear p2
        try clear c3
        try clear c3b0
        try clear c3b1
        obtain ⟨x3_1, x4_1, rfl, HA, HK1, HO_3, HB⟩ := hrel
        cases gk with
        | zero => exact absurd HA.out (by simp [laws_toTblRowS.l0])
        | succ k1 =>
          have H := HA.out
          clear HA
          simp only [laws_toTblRowS.l0] at H
          by_cases c6 : x4_1 < (l0.length : Int)
          · rw [if_pos c6] at H
            have c6b0 : decide (x4_1 < (l0.length : Int)) = true := decide_eq_true c6
            clear c6
            by_cases c7 : 0 ≤ x4_1
            · rw [if_pos c7] at H
              have c7b0 : decide (0 ≤ x4_1) = true := decide_eq_true c7
              clear c7
              replace H := Option.bind_eq_some_iff.mp H
              obtain ⟨⟨t194, t197⟩, A80, H⟩ := H
              replace H : (if x4_1 < (x3_1.length : Int) then (laws_toTblRowS.l0 k1 l0 (x3_1.set (x4_1 : Int).toNat (⟨t194, t197⟩ : S58)) (wrap64 (x4_1 + 1))) else (none)) = some r := H
              have A8 := Aside0.mk A80
              clear A80
              by_cases c9 : x4_1 < (x3_1.length : Int)
              · rw [if_pos c9] at H
                have c9b0 : decide (x4_1 < (x3_1.length : Int)) = true := decide_eq_true c9
                clear c9
                obtain ⟨y198, hy198⟩ : ∃ y_ : List (S58), y_ = (x3_1.set (x4_1 : Int).toNat (⟨t194, t197⟩ : S58)) := ⟨_, rfl⟩
                replace H : (laws_toTblRowS.l0 k1 l0 y198 (wrap64 (x4_1 + 1))) = some r := by first | (rw [hy198]; with_reducible exact H) | (have H2_ := (Option.bind_some _ _).symm.trans H; rw [hy198]; with_reducible exact H2_) | (have H2_ := (Option.bind_some _ _).symm.trans H; with_reducible exact H2_) | with_reducible exact H | (rw [hy198]; exact H) | exact H
                have Ny198 := Aside0.mk hy198
                clear hy198
                have H' := Aside0.mk H
                clear H
                have p193 : 0 ≤ (x4_1 : Int) := of_decide_eq_true (by first | (with_reducible assumption) | assumption)
                have q193 : x4_1 < (l0.length : Int) := of_decide_eq_true (by first | (with_reducible assumption) | assumption)
                obtain ⟨ad193, A193_0, c193_0, e193, hx193_0, hx193_1, hl193_0, hi193_0⟩ := at_T52 HR0.out x4_1 p193 q193
                cases e193
                replace hx193_0 := (HB.out.cell (World.block_lt_of_cell? w _ hx193_0)).trans hx193_0
                replace hx193_1 := (HB.out.cell (World.block_lt_of_cell? w _ hx193_1)).trans hx193_1
                have HR193_0 := Aside0.mk hi193_0
                have HC193_0 := Aside0.mk hl193_0
                clear hi193_0 hl193_0
                replace p193 := eq_true p193
                replace q193 := eq_true q193
                go_wp2_with (first | ((with_reducible refine gate_callee (f := 27) rfl ?_); refine goesL_ (some 20) rfl rfl Tryd.func27 (by kernel_rfl) rfl #[.agg #[.slice A193_0 ((rd_T52 l0 x4_1).f0).length c193_0, .bool ((rd_T52 l0 x4_1).f1)]] rfl (by (try simp only [List.map_toArray, List.map_cons, List.map_nil]); first | done | rfl | (simp only [List.length_drop, List.length_take]; rfl)) ?_; (with_reducible refine (laws_toTblRow.calls k1 _ _ ((rd_T52 l0 x4_1).f0) ((rd_T52 l0 x4_1).f1) t194 t197 _ ?side1 ?side2 A8.out).mono ?_); (case side1 => repeat (first | exact HR193_0.out | exact (Kd.C_below HR193_0.out HB.out) | (with_reducible refine Kd.C_alloc ?_ _) | (with_reducible refine Kd.C_drewN ?_ _) | (with_reducible refine Kd.C_drew ?_))); (case side2 => exact HC193_0.out); rintro e w11 ⟨v195, rfl, ho0, hb⟩; refine ⟨_, rfl, ?_⟩; obtain ⟨Av_, cv_, ev_⟩ := Kd.R_slice ho0; have n0_ := Aside0.mk (Kd.S_elder' (by (with_reducible repeat (first | apply Kd.S_alloc | apply Kd.S_drewN | apply Kd.S_drew)); exact HO_3.out) (Kd.R_base ho0) hb); have n1_ := Aside0.mk (Kd.R_lower ho0 (below_size (by repeat (first | (with_reducible first | exact HB.out | apply below_alloc | apply pw_below_drewN | apply below_drew1) | exact HB.out)))); have n2_ := Aside0.mk (below_step (by repeat (first | (with_reducible first | exact HB.out | apply below_alloc | apply pw_below_drewN | apply below_drew1) | exact HB.out)) hb); clear HO_3; clear HB; have HO_3 := n0_; have HO196 := n1_; have HB := n2_; clear n0_ n1_ n2_; (try clear hb); (try clear hb2); (try clear hk); (try clear hi); (try clear ho0); have p10 : 0 ≤ (x4_1 : Int) := of_decide_eq_true (by first | (with_reducible assumption) | assumption); have q10 : (x4_1 : Int) < ((x3_1.length : Int) : Int) := of_decide_eq_true (by first | (with_reducible assumption) | assumption); obtain ⟨go10, co10, eo10, gb10, gl10, cl10, HG10⟩ := Kd.S_form HO_3.out (by omega); (first | cases eo10 | (injection eo10 with ea_ en_ ec_; (first | subst ea_ | (injection ea_ with ea_; subst ea_)); subst ec_; clear en_)); have GB10 := Aside0.mk gb10; have GG10 := Aside0.mk HG10; clear gb10 gl10 HG10; obtain ⟨_, ce10, hcl10, hM10, hcc10, hfr10, _, _⟩ := Kd.S_elem HO_3.out z58 (x4_1 : Int) p10 q10; obtain ⟨ve10_0, rfl, ge10_0⟩ := k58_openM hM10; have hx10_0 : w11.cell? ⟨go10, (x4_1 : Int).toNat * 2, none⟩ = some (ve10_0) := hcc10 0 _ rfl; have hx10_1 : w11.cell? ⟨go10, (x4_1 : Int).toNat * 2 + 1, none⟩ = some (.bool ((rd_T58 x3_1 x4_1).f1)) := hcc10 1 _ rfl; have hf10_0 : w11.frozen? ⟨go10, (x4_1 : Int).toNat * 2, none⟩ = false := hfr10 0; have hf10_1 : w11.frozen? ⟨go10, (x4_1 : Int).toNat * 2 + 1, none⟩ = false := hfr10 1; clear hcl10 hcc10 hfr10; replace p10 := eq_true p10; replace q10 := eq_true q10; have n_ := Aside0.mk (Kd.S_mono (ok' := (fun k_ => some k_ ≠ (v195 : Value).ownBlock)) HO_3.out (fun k_ hk => hk.2)); clear HO_3; have HO_3 := n_; clear n_; have HX12 := Aside0.mk (show Kd.S k58 58 w11 w.heap.size (fun k_ => ((fun _ => True)) k_ ∧ ¬ ((fun k_ => some k_ = (v195 : Value).ownBlock)) k_) (.slice (some ⟨go10, 0, none⟩) x3_1.length co10) x3_1 from (by (with_reducible repeat (first | apply Kd.S_alloc | apply Kd.S_drewN | apply Kd.S_drew)); exact Kd.S_mono HO_3.out (fun k_ hk => ⟨trivial, fun e_ => hk e_⟩))); obtain ⟨oki12, ce12, hcl12, hM12, hcc12, hfr12, hoki12, hH12⟩ := Kd.S_elem HX12.out z58 (x4_1 : Int) (of_decide_eq_true (by first | (with_reducible assumption) | assumption)) (by have h_ : (x4_1 : Int) < ((x3_1.length : Int) : Int) := of_decide_eq_true (by first | (with_reducible assumption) | assumption); first | exact h_ | (have e_ := (Kd.S_reads' HO_3.out).1; omega) | simpa using h_); obtain ⟨ve12_0, rfl, ge12_0⟩ := k58_openM hM12; have HP12 := Kd.S_seg hH12 (of_decide_eq_true (by first | (with_reducible assumption) | assumption)) (by have h_ : (x4_1 : Int) < ((x3_1.length : Int) : Int) := of_decide_eq_true (by first | (with_reducible assumption) | assumption); first | exact h_ | (have e_ := (Kd.S_reads' HO_3.out).1; omega) | simpa using h_) (seg := [v195, .bool t197]) (j := 0) (show 2 ≤ 2 from by decide) (x' := (⟨t194, t197⟩ : S58)) (k58_mkM _ _ _ (⟨t194, t197⟩ : S58) (Kd.R_mono (Kd.R_tight rfl (Kd.R_mono (ok' := fun k_ => ((fun _ => True)) k_ ∧ k_ ≠ go10) (Kd.R_apart' (HO196.out) (Kd.S_typed HO_3.out) (by decide)) (fun k_ hk => ⟨trivial, fun e_ => (hk.2) (by rw [e_]; rfl)⟩))) (fun _ h_ => Or.inr (h_)))) (fun _ hk => hk) (fun k_ hk_ => ((Kd.R_mono (ok' := fun k_ => ((fun _ => True)) k_ ∧ k_ ≠ go10) (Kd.R_apart' (HO196.out) (Kd.S_typed HO_3.out) (by decide)) (fun k_ hk => ⟨trivial, fun e_ => (hk.2) (by rw [e_]; rfl)⟩))).1 k_ hk_.symm); have hx12_0 := hcc12 0 _ rfl; (try simp only [show (k58).sz = 2 from rfl, Nat.mul_one, Nat.add_zero] at hx12_0); have hf12_0 := hfr12 0; (try simp only [show (k58).sz = 2 from rfl, Nat.mul_one, Nat.add_zero] at hf12_0); have hx12_1 := hcc12 1 _ rfl; (try simp only [show (k58).sz = 2 from rfl, Nat.mul_one, Nat.add_zero] at hx12_1); have hf12_1 := hfr12 1; (try simp only [show (k58).sz = 2 from rfl, Nat.mul_one, Nat.add_zero] at hf12_1); clear hcl12 hcc12 hfr12 hoki12 hH12) | ((with_reducible refine gate_store (t := 58) (p := 21) rfl ?_); refine store_event (t := 58) (p := 21) (v := ?vo_w13) (w1 := ((w11.setCell ⟨go10, (x4_1 : Int).toNat * 2, none⟩ (v195)).setCell ⟨go10, (x4_1 : Int).toNat * 2 + 1, none⟩ (.bool t197))) ?hg ?ho ?hn ?hr ?_; (case ho => rfl); (case hg => rfl); (case hn => rfl); (case hr => first | (go_simp; done) | (go_simp; rfl)); intro w13 hw; have hg : w11.grownBy w13 (some go10) := (by rw [hw]; exact HP12.2); have hp_ : Kd.S k58 58 w13 w.heap.size (fun _ => True) (.slice (some ⟨go10, 0, none⟩) x3_1.length co10) y198 := (by rw [hw, Ny198.out]; exact HP12.1); clear HP12; have n0_ := Aside0.mk (hp_); have n1_ := Aside0.mk ((by rw [hw]; exact below_set (below_set (HB.out) GB10.out) GB10.out : Below w.heap.size w w13)); clear HO_3; clear HB; clear HO196; have HO_3 := n0_; have HB := n1_; clear n0_ n1_; clear hg hw hp_))
                go_roundg k1
                case measure => have := HK1.out; omega
                case rel => exact ⟨(y198), (wrap64 (x4_1 + 1)), (by first | rfl | (simp; done) | (simp [*]; done)), H', ⟨by have := HK1.out; omega⟩, ⟨by (with_reducible repeat (first | apply Kd.S_alloc | apply Kd.S_drewN | apply Kd.S_drew)); exact HO_3.out⟩, ⟨by repeat (first | (with_reducible first | exact HB.out | apply below_alloc | apply pw_below_drewN | apply below_drew1) | exact HB.out)⟩⟩
              · rw [if_neg c9] at H
                exact absurd H (by simp)
            · rw [if_neg c7] at H
              exact absurd H (by simp)
          · rw [if_neg c6] at H
            have c6b0 : decide (x4_1 < (l0.length : Int)) = false := decide_eq_false c6
            clear c6
            obtain rfl := Option.some.inj H
            go_wp2
            go_ret
            exact ⟨_, by first | rfl | (simp [errW_none, errW_some] <;> rfl) | (simp [*, errW_none, errW_some] <;> rfl), by (with_reducible repeat (first | apply Kd.S_alloc | apply Kd.S_drewN | apply Kd.S_drew)); exact HO_3.out, by repeat (first | (with_reducible first | exact HB.out | apply below_alloc | apply pw_below_drewN | apply below_drew1) | exact HB.out)⟩
    · rw [if_neg c3] at H
      exact absurd H (by simp)
  · rw [if_neg c2] at H
    exact absurd H (by simp)

/-! ### laws_toTblTable: function 6 -/
def laws_toTblTable.f (k : Nat) (l0_0 : List (S65)) (a0_1 : Int) (a0_2 : Int) (l0_3 : List (S52)) (a0_4 : Int) : Option ((List (S55)) × Int × Int × (List (S58)) × Int) := (laws_toTblColS.f k l0_0).bind fun t202 => ((laws_toTblRowS.f k l0_3).bind fun t205 => (some (t202, a0_1, a0_2, t205, a0_4)))
theorem laws_toTblTable.mono : ∀ a0 a1 a2 a3 a4 k, LeO (laws_toTblTable.f k a0 a1 a2 a3 a4) (laws_toTblTable.f (k + 1) a0 a1 a2 a3 a4) := by
  intro a0 a1 a2 a3 a4 k
  unfold laws_toTblTable.f
  repeat' first
      | (with_reducible exact laws_toTblColS.mono _ _)
      | (with_reducible exact laws_toTblRowS.mono _ _)
      | (with_reducible exact LeO.refl _)
      | (with_reducible exact LeO.none _)
      | (with_reducible refine LeO.ite ?_ ?_)
      | (with_reducible refine LeO.bind ?_ (fun _ => ?_))
      | exact laws_toTblColS.mono _ _
      | exact laws_toTblRowS.mono _ _
      | exact LeO.none _
      | refine LeO.ite ?_ ?_
      | refine LeO.bind ?_ (fun _ => ?_)
set_option maxHeartbeats 8000000 in
set_option maxRecDepth 100000 in
theorem laws_toTblTable.calls (k : Nat) (A0_0 : Option Addr) (c0_0 : Nat) (l0_0 : List (S65)) (a0_1 : Int) (a0_2 : Int) (A0_3 : Option Addr) (c0_3 : Nat) (l0_3 : List (S52)) (a0_4 : Int) (r1 : List (S55)) (r2 : Int) (r3 : Int) (r4 : List (S58)) (r5 : Int) (w : World) (hr0_0 : Kd.C k65 w A0_0 l0_0.length l0_0) (hc0_0 : l0_0.length ≤ c0_0) (hr0_3 : Kd.C k52 w A0_3 l0_3.length l0_3) (hc0_3 : l0_3.length ≤ c0_3) (h : laws_toTblTable.f k l0_0 a0_1 a0_2 l0_3 a0_4 = some (r1, r2, r3, r4, r5)) :
    Calls Tryd.prog 6 #[.agg #[.slice A0_0 l0_0.length c0_0, .int .i64 a0_1, .int .i64 a0_2, .slice A0_3 l0_3.length c0_3, .int .i64 a0_4]] w fun e w' => ∃ v0_ v3_ : Value, e = .returned (.agg #[v0_, .int .i64 r2, .int .i64 r3, v3_, .int .i64 r5]) ∧ Kd.R k55 55 w' w.heap.size (fun _ => True) v0_ r1 ∧ Kd.S k58 58 w' w.heap.size (fun _ => True) v3_ r4 ∧ Below w.heap.size w w' := by
  have hu25 := Tryd.underlying25
  have hu32 := Tryd.underlying32
  have HR0_0 := Aside0.mk hr0_0
  have HC0_0 := Aside0.mk hc0_0
  clear hr0_0 hc0_0
  have HR0_3 := Aside0.mk hr0_3
  have HC0_3 := Aside0.mk hc0_3
  clear hr0_3 hc0_3
  have HB := Aside0.mk (Below.refl w.heap.size w)
  have H : ((laws_toTblColS.f k l0_0).bind fun t202 => ((laws_toTblRowS.f k l0_3).bind fun t205 => (some (t202, a0_1, a0_2, t205, a0_4)))) = some (r1, r2, r3, r4, r5) := h
  clear h
  replace H := Option.bind_eq_some_iff.mp H
  obtain ⟨t202, A20, H⟩ := H
  replace H : ((laws_toTblRowS.f k l0_3).bind fun t205 => (some (t202, a0_1, a0_2, t205, a0_4))) = some (r1, r2, r3, r4, r5) := H
  have A2 := Aside0.mk A20
  clear A20
  replace H := Option.bind_eq_some_iff.mp H
  obtain ⟨t205, A30, H⟩ := H
  replace H : (some (t202, a0_1, a0_2, t205, a0_4)) = some (r1, r2, r3, r4, r5) := H
  have A3 := Aside0.mk A30
  clear A30
  simp only [Option.some.injEq, Prod.mk.injEq] at H
  obtain ⟨rfl, rfl, rfl, rfl, rfl⟩ := H
  go_enter Tryd.func6, Tryd.ntmps6
  go_wp2_with (first | ((with_reducible refine gate_dst (N := 1) rfl ?_); refine box_event ?hg (N := 1) ?hd (cs := #[.slice A0_0 l0_0.length c0_0, .int .i64 a0_1, .int .i64 a0_2, .slice A0_3 l0_3.length c0_3, .int .i64 a0_4]) (t := 25) ?hr ?_; (case hd => rfl); (case hg => rfl); (case hr => first | (go_simp; done) | (go_simp; rfl)); intro gb199 hg w4 hbox hb; have n0_ := Aside0.mk (below_step (by repeat (first | (with_reducible first | exact HB.out | apply below_alloc | apply pw_below_drewN | apply below_drew1) | exact HB.out)) hb); have n1_ := Aside0.mk (hbox); have n2_ := Aside0.mk ((by rw [hg]; exact (below_size (by repeat (first | (with_reducible first | exact HB.out | apply below_alloc | apply pw_below_drewN | apply below_drew1) | exact HB.out))) : w.heap.size ≤ gb199)); have n3_ := Aside0.mk ((by rw [hg]; exact (below_size (by repeat (first | (with_reducible first | exact HB.out | apply below_alloc | apply pw_below_drewN | apply below_drew1) | exact HB.out))) : w.heap.size ≤ gb199)); clear HB; have HB := n0_; have BK199 := n1_; have GW199 := n2_; have GE199 := n3_; clear n0_ n1_ n2_ n3_; clear hb hbox hg) | ((with_reducible refine gate_dst (N := 2) rfl ?_); refine box_event ?hg (N := 2) ?hd (cs := #[.slice none 0 0, .int .i64 0, .int .i64 0, .slice none 0 0, .int .i64 0]) (t := 32) ?hr ?_; (case hd => rfl); (case hg => rfl); (case hr => first | (go_simp; done) | (go_simp; rfl)); intro gb200 hg w5 hbox hb; have n0_ := Aside0.mk (blk_below (g := gb199) (o := .cells #[.slice A0_0 l0_0.length c0_0, .int .i64 a0_1, .int .i64 a0_2, .slice A0_3 l0_3.length c0_3, .int .i64 a0_4] 25 (0, 0)) (by (with_reducible repeat (first | refine blk_drewN ?_ _ | refine blk_drew ?_ | refine blk_alloc ?_ _)); exact BK199.out) hb); have n1_ := Aside0.mk (below_step (by repeat (first | (with_reducible first | exact HB.out | apply below_alloc | apply pw_below_drewN | apply below_drew1 | refine below_set ?_ GE199.out) | exact HB.out)) hb); have n2_ := Aside0.mk (hbox); have n3_ := Aside0.mk ((by rw [hg]; exact (below_size (by repeat (first | (with_reducible first | exact HB.out | apply below_alloc | apply pw_below_drewN | apply below_drew1 | refine below_set ?_ GE199.out) | exact HB.out))) : w.heap.size ≤ gb200)); have n4_ := Aside0.mk ((by rw [hg]; exact (below_size (by repeat (first | (with_reducible first | exact HB.out | apply below_alloc | apply pw_below_drewN | apply below_drew1 | refine below_set ?_ GE199.out) | exact HB.out))) : w.heap.size ≤ gb200)); have n5_ := Aside0.mk ((by rw [hg]; exact Nat.ne_of_lt (blk_lt (g := gb199) (o := .cells #[.slice A0_0 l0_0.length c0_0, .int .i64 a0_1, .int .i64 a0_2, .slice A0_3 l0_3.length c0_3, .int .i64 a0_4] 25 (0, 0)) (by (with_reducible repeat (first | refine blk_drewN ?_ _ | refine blk_drew ?_ | refine blk_alloc ?_ _)); exact BK199.out)) : gb199 ≠ gb200)); have n6_ := Aside0.mk ((by rw [hg]; exact Nat.ne_of_gt (blk_lt (g := gb199) (o := .cells #[.slice A0_0 l0_0.length c0_0, .int .i64 a0_1, .int .i64 a0_2, .slice A0_3 l0_3.length c0_3, .int .i64 a0_4] 25 (0, 0)) (by (with_reducible repeat (first | refine blk_drewN ?_ _ | refine blk_drew ?_ | refine blk_alloc ?_ _)); exact BK199.out)) : gb200 ≠ gb199)); clear BK199; clear HB; have BK199 := n0_; have HB := n1_; have BK200 := n2_; have GW200 := n3_; have GE200 := n4_; have NB199_200 := n5_; have NB200_199 := n6_; clear n0_ n1_ n2_ n3_ n4_ n5_ n6_; clear hb hbox hg) | ((with_reducible refine gate_dst (N := 3) rfl ?_); refine box_event ?hg (N := 3) ?hd (cs := #[.slice none 0 0, .int .i64 0, .int .i64 0, .slice none 0 0, .int .i64 0]) (t := 32) ?hr ?_; (case hd => rfl); (case hg => rfl); (case hr => first | (go_simp; done) | (go_simp; rfl)); intro gb201 hg w6 hbox hb; have n0_ := Aside0.mk (blk_below (g := gb199) (o := .cells #[.slice A0_0 l0_0.length c0_0, .int .i64 a0_1, .int .i64 a0_2, .slice A0_3 l0_3.length c0_3, .int .i64 a0_4] 25 (0, 0)) (by (with_reducible repeat (first | refine blk_drewN ?_ _ | refine blk_drew ?_ | refine blk_alloc ?_ _)); exact BK199.out) hb); have n1_ := Aside0.mk (blk_below (g := gb200) (o := .cells #[.slice none 0 0, .int .i64 0, .int .i64 0, .slice none 0 0, .int .i64 0] 32 (0, 0)) (by (with_reducible repeat (first | refine blk_drewN ?_ _ | refine blk_drew ?_ | refine blk_alloc ?_ _)); exact BK200.out) hb); have n2_ := Aside0.mk (below_step (by repeat (first | (with_reducible first | exact HB.out | apply below_alloc | apply pw_below_drewN | apply below_drew1 | refine below_set ?_ GE199.out | refine below_set ?_ GE200.out) | exact HB.out)) hb); have n3_ := Aside0.mk (hbox); have n4_ := Aside0.mk ((by rw [hg]; exact (below_size (by repeat (first | (with_reducible first | exact HB.out | apply below_alloc | apply pw_below_drewN | apply below_drew1 | refine below_set ?_ GE199.out | refine below_set ?_ GE200.out) | exact HB.out))) : w.heap.size ≤ gb201)); have n5_ := Aside0.mk ((by rw [hg]; exact (below_size (by repeat (first | (with_reducible first | exact HB.out | apply below_alloc | apply pw_below_drewN | apply below_drew1 | refine below_set ?_ GE199.out | refine below_set ?_ GE200.out) | exact HB.out))) : w.heap.size ≤ gb201)); have n6_ := Aside0.mk ((by rw [hg]; exact Nat.ne_of_lt (blk_lt (g := gb199) (o := .cells #[.slice A0_0 l0_0.length c0_0, .int .i64 a0_1, .int .i64 a0_2, .slice A0_3 l0_3.length c0_3, .int .i64 a0_4] 25 (0, 0)) (by (with_reducible repeat (first | refine blk_drewN ?_ _ | refine blk_drew ?_ | refine blk_alloc ?_ _)); exact BK199.out)) : gb199 ≠ gb201)); have n7_ := Aside0.mk ((by rw [hg]; exact Nat.ne_of_gt (blk_lt (g := gb199) (o := .cells #[.slice A0_0 l0_0.length c0_0, .int .i64 a0_1, .int .i64 a0_2, .slice A0_3 l0_3.length c0_3, .int .i64 a0_4] 25 (0, 0)) (by (with_reducible repeat (first | refine blk_drewN ?_ _ | refine blk_drew ?_ | refine blk_alloc ?_ _)); exact BK199.out)) : gb201 ≠ gb199)); have n8_ := Aside0.mk ((by rw [hg]; exact Nat.ne_of_lt (blk_lt (g := gb200) (o := .cells #[.slice none 0 0, .int .i64 0, .int .i64 0, .slice none 0 0, .int .i64 0] 32 (0, 0)) (by (with_reducible repeat (first | refine blk_drewN ?_ _ | refine blk_drew ?_ | refine blk_alloc ?_ _)); exact BK200.out)) : gb200 ≠ gb201)); have n9_ := Aside0.mk ((by rw [hg]; exact Nat.ne_of_gt (blk_lt (g := gb200) (o := .cells #[.slice none 0 0, .int .i64 0, .int .i64 0, .slice none 0 0, .int .i64 0] 32 (0, 0)) (by (with_reducible repeat (first | refine blk_drewN ?_ _ | refine blk_drew ?_ | refine blk_alloc ?_ _)); exact BK200.out)) : gb201 ≠ gb200)); clear BK199; clear BK200; clear HB; have BK199 := n0_; have BK200 := n1_; have HB := n2_; have BK201 := n3_; have GW201 := n4_; have GE201 := n5_; have NB199_201 := n6_; have NB201_199 := n7_; have NB200_201 := n8_; have NB201_200 := n9_; clear n0_ n1_ n2_ n3_ n4_ n5_ n6_ n7_ n8_ n9_; clear hb hbox hg; have hnb7 := NB199_200.out; have hnc7 := NB200_199.out; have hnb8 := NB199_201.out; have hnc8 := NB201_199.out; have hcz9_0 : w6.cell? ⟨gb199, 0, none⟩ = some (.slice A0_0 l0_0.length c0_0) := (blk_cell BK199.out 0).trans rfl; have hcz9_1 : w6.cell? ⟨gb199, 1, none⟩ = some (.int .i64 a0_1) := (blk_cell BK199.out 1).trans rfl; have hcz9_2 : w6.cell? ⟨gb199, 2, none⟩ = some (.int .i64 a0_2) := (blk_cell BK199.out 2).trans rfl; have hcz9_3 : w6.cell? ⟨gb199, 3, none⟩ = some (.slice A0_3 l0_3.length c0_3) := (blk_cell BK199.out 3).trans rfl; have hcz9_4 : w6.cell? ⟨gb199, 4, none⟩ = some (.int .i64 a0_4) := (blk_cell BK199.out 4).trans rfl; have hfz9_0 := blk_frozen BK199.out 0; have hfz9_1 := blk_frozen BK199.out 1; have hfz9_2 := blk_frozen BK199.out 2; have hfz9_3 := blk_frozen BK199.out 3; have hfz9_4 := blk_frozen BK199.out 4) | ((with_reducible refine gate_callee (f := 15) rfl ?_); refine goesL_ (some 6) rfl rfl Tryd.func15 (by kernel_rfl) rfl #[.slice A0_0 l0_0.length c0_0] rfl (by (try simp only [List.map_toArray, List.map_cons, List.map_nil]); first | done | rfl | (simp only [List.length_drop, List.length_take]; rfl)) ?_; (with_reducible refine (laws_toTblColS.calls k _ _ l0_0 t202 _ ?side1 ?side2 A2.out).mono ?_); (case side1 => repeat (first | exact HR0_0.out | exact (Kd.C_below HR0_0.out HB.out) | (with_reducible refine Kd.C_alloc ?_ _) | (with_reducible refine Kd.C_drewN ?_ _) | (with_reducible refine Kd.C_drew ?_))); (case side2 => exact HC0_0.out); rintro e w10 ⟨v203, rfl, ho0, hb⟩; refine ⟨_, rfl, ?_⟩; have n0_ := Aside0.mk (Kd.R_lower ho0 (below_size (by repeat (first | (with_reducible first | exact HB.out | apply below_alloc | apply pw_below_drewN | apply below_drew1 | refine below_set ?_ GE199.out | refine below_set ?_ GE200.out | refine below_set ?_ GE201.out) | exact HB.out)))); have n1_ := Aside0.mk (blk_below (g := gb199) (o := .cells #[.slice A0_0 l0_0.length c0_0, .int .i64 a0_1, .int .i64 a0_2, .slice A0_3 l0_3.length c0_3, .int .i64 a0_4] 25 (0, 0)) (by (with_reducible repeat (first | refine blk_drewN ?_ _ | refine blk_drew ?_ | refine blk_alloc ?_ _)); exact BK199.out) hb); have n2_ := Aside0.mk (blk_below (g := gb200) (o := .cells #[.slice none 0 0, .int .i64 0, .int .i64 0, .slice none 0 0, .int .i64 0] 32 (0, 0)) (by (with_reducible repeat (first | refine blk_drewN ?_ _ | refine blk_drew ?_ | refine blk_alloc ?_ _)); exact BK200.out) hb); have n3_ := Aside0.mk (blk_below (g := gb201) (o := .cells #[.slice none 0 0, .int .i64 0, .int .i64 0, .slice none 0 0, .int .i64 0] 32 (0, 0)) (by (with_reducible repeat (first | refine blk_drewN ?_ _ | refine blk_drew ?_ | refine blk_alloc ?_ _)); exact BK201.out) hb); have n4_ := Aside0.mk (below_step (by repeat (first | (with_reducible first | exact HB.out | apply below_alloc | apply pw_below_drewN | apply below_drew1 | refine below_set ?_ GE199.out | refine below_set ?_ GE200.out | refine below_set ?_ GE201.out) | exact HB.out)) hb); clear BK199; clear BK200; clear BK201; clear HB; have HO204 := n0_; have BK199 := n1_; have BK200 := n2_; have BK201 := n3_; have HB := n4_; clear n0_ n1_ n2_ n3_ n4_; (try clear hb); (try clear hb2); (try clear hk); (try clear hi); (try clear ho0); obtain ⟨Ao11, co11, eo11⟩ := Kd.R_slice HO204.out; subst eo11; have hnb12 := NB201_200.out; have hnc12 := NB200_201.out; have hcz13_0 : w10.cell? ⟨gb201, 0, none⟩ = some (.slice none 0 0) := (blk_cell BK201.out 0).trans rfl; have hcz13_1 : w10.cell? ⟨gb201, 1, none⟩ = some (.int .i64 0) := (blk_cell BK201.out 1).trans rfl; have hcz13_2 : w10.cell? ⟨gb201, 2, none⟩ = some (.int .i64 0) := (blk_cell BK201.out 2).trans rfl; have hcz13_3 : w10.cell? ⟨gb201, 3, none⟩ = some (.slice none 0 0) := (blk_cell BK201.out 3).trans rfl; have hcz13_4 : w10.cell? ⟨gb201, 4, none⟩ = some (.int .i64 0) := (blk_cell BK201.out 4).trans rfl; have hfz13_0 := blk_frozen BK201.out 0; have hfz13_1 := blk_frozen BK201.out 1; have hfz13_2 := blk_frozen BK201.out 2; have hfz13_3 := blk_frozen BK201.out 3; have hfz13_4 := blk_frozen BK201.out 4; have hcz14_0 : w10.cell? ⟨gb199, 0, none⟩ = some (.slice A0_0 l0_0.length c0_0) := (blk_cell BK199.out 0).trans rfl; have hcz14_1 : w10.cell? ⟨gb199, 1, none⟩ = some (.int .i64 a0_1) := (blk_cell BK199.out 1).trans rfl; have hcz14_2 : w10.cell? ⟨gb199, 2, none⟩ = some (.int .i64 a0_2) := (blk_cell BK199.out 2).trans rfl; have hcz14_3 : w10.cell? ⟨gb199, 3, none⟩ = some (.slice A0_3 l0_3.length c0_3) := (blk_cell BK199.out 3).trans rfl; have hcz14_4 : w10.cell? ⟨gb199, 4, none⟩ = some (.int .i64 a0_4) := (blk_cell BK199.out 4).trans rfl; have hfz14_0 := blk_frozen BK199.out 0; have hfz14_1 := blk_frozen BK199.out 1; have hfz14_2 := blk_frozen BK199.out 2; have hfz14_3 := blk_frozen BK199.out 3; have hfz14_4 := blk_frozen BK199.out 4) | ((with_reducible refine gate_callee (f := 16) rfl ?_); refine goesL_ (some 16) rfl rfl Tryd.func16 (by kernel_rfl) rfl #[.slice A0_3 l0_3.length c0_3] rfl (by (try simp only [List.map_toArray, List.map_cons, List.map_nil]); first | done | rfl | (simp only [List.length_drop, List.length_take]; rfl)) ?_; (with_reducible refine (laws_toTblRowS.calls k _ _ l0_3 t205 _ ?side1 ?side2 A3.out).mono ?_); (case side1 => exact Kd.C_below HR0_3.out (by repeat (first | (with_reducible first | exact HB.out | apply below_alloc | apply pw_below_drewN | apply below_drew1 | refine below_set ?_ GE199.out | refine below_set ?_ GE200.out | refine below_set ?_ GE201.out) | exact HB.out))); (case side2 => exact HC0_3.out); rintro e w15 ⟨v206, rfl, ho0, hb⟩; refine ⟨_, rfl, ?_⟩; have n0_ := Aside0.mk (Kd.R_below (by (with_reducible repeat (first | apply Kd.R_alloc | apply Kd.R_drewN | apply Kd.R_drew)); exact (Kd.R_mono (Kd.R_far (p := ⟨gb201, 2, none⟩) (Kd.R_far (p := ⟨gb201, 1, none⟩) (Kd.R_far (p := ⟨gb201, 0, none⟩) (Kd.R_types HO204.out BK201.out (by decide)) (fun _ hk => hk.2) (.slice Ao11 t202.length co11)) (fun _ hk => hk.2) (.int .i64 a0_1)) (fun _ hk => hk.2) (.int .i64 a0_2)) (fun _ h_ => h_.1))) hb); have n1_ := Aside0.mk (Kd.S_lower ho0 (below_size (by repeat (first | (with_reducible first | exact HB.out | apply below_alloc | apply pw_below_drewN | apply below_drew1 | refine below_set ?_ GE199.out | refine below_set ?_ GE200.out | refine below_set ?_ GE201.out) | exact HB.out)))); have n2_ := Aside0.mk (blk_below (g := gb199) (o := .cells #[.slice A0_0 l0_0.length c0_0, .int .i64 a0_1, .int .i64 a0_2, .slice A0_3 l0_3.length c0_3, .int .i64 a0_4] 25 (0, 0)) (by (with_reducible repeat (first | refine blk_drewN ?_ _ | refine blk_drew ?_ | refine blk_alloc ?_ _)); refine blk_far ?_ NB199_201.out _; (with_reducible repeat (first | refine blk_drewN ?_ _ | refine blk_drew ?_ | refine blk_alloc ?_ _)); refine blk_far ?_ NB199_201.out _; (with_reducible repeat (first | refine blk_drewN ?_ _ | refine blk_drew ?_ | refine blk_alloc ?_ _)); refine blk_far ?_ NB199_201.out _; (with_reducible repeat (first | refine blk_drewN ?_ _ | refine blk_drew ?_ | refine blk_alloc ?_ _)); exact BK199.out) hb); have n3_ := Aside0.mk (blk_below (g := gb200) (o := .cells #[.slice none 0 0, .int .i64 0, .int .i64 0, .slice none 0 0, .int .i64 0] 32 (0, 0)) (by (with_reducible repeat (first | refine blk_drewN ?_ _ | refine blk_drew ?_ | refine blk_alloc ?_ _)); refine blk_far ?_ NB200_201.out _; (with_reducible repeat (first | refine blk_drewN ?_ _ | refine blk_drew ?_ | refine blk_alloc ?_ _)); refine blk_far ?_ NB200_201.out _; (with_reducible repeat (first | refine blk_drewN ?_ _ | refine blk_drew ?_ | refine blk_alloc ?_ _)); refine blk_far ?_ NB200_201.out _; (with_reducible repeat (first | refine blk_drewN ?_ _ | refine blk_drew ?_ | refine blk_alloc ?_ _)); exact BK200.out) hb); have n4_ := Aside0.mk (blk_below (g := gb201) (o := .cells #[.slice Ao11 t202.length co11, .int .i64 a0_1, .int .i64 a0_2, .slice none 0 0, .int .i64 0] 32 (0, 0)) (by (with_reducible repeat (first | refine blk_drewN ?_ _ | refine blk_drew ?_ | refine blk_alloc ?_ _)); refine blk_put (cs := #[.slice Ao11 t202.length co11, .int .i64 a0_1, .int .i64 0, .slice none 0 0, .int .i64 0]) ?_ 2 _ rfl; (with_reducible repeat (first | refine blk_drewN ?_ _ | refine blk_drew ?_ | refine blk_alloc ?_ _)); refine blk_put (cs := #[.slice Ao11 t202.length co11, .int .i64 0, .int .i64 0, .slice none 0 0, .int .i64 0]) ?_ 1 _ rfl; (with_reducible repeat (first | refine blk_drewN ?_ _ | refine blk_drew ?_ | refine blk_alloc ?_ _)); refine blk_put (cs := #[.slice none 0 0, .int .i64 0, .int .i64 0, .slice none 0 0, .int .i64 0]) ?_ 0 _ rfl; (with_reducible repeat (first | refine blk_drewN ?_ _ | refine blk_drew ?_ | refine blk_alloc ?_ _)); exact BK201.out) hb); have n5_ := Aside0.mk (below_step (by repeat (first | (with_reducible first | exact HB.out | apply below_alloc | apply pw_below_drewN | apply below_drew1 | refine below_set ?_ GE199.out | refine below_set ?_ GE200.out | refine below_set ?_ GE201.out) | exact HB.out)) hb); clear HO204; clear BK199; clear BK200; clear BK201; clear HB; have HO204 := n0_; have HO207 := n1_; have BK199 := n2_; have BK200 := n3_; have BK201 := n4_; have HB := n5_; clear n0_ n1_ n2_ n3_ n4_ n5_; (try clear hb); (try clear hb2); (try clear hk); (try clear hi); (try clear ho0); obtain ⟨Ao16, co16, eo16⟩ := Kd.S_slice HO207.out; subst eo16; have hcz17_0 : w15.cell? ⟨gb201, 0, none⟩ = some (.slice Ao11 t202.length co11) := (blk_cell BK201.out 0).trans rfl; have hcz17_1 : w15.cell? ⟨gb201, 1, none⟩ = some (.int .i64 a0_1) := (blk_cell BK201.out 1).trans rfl; have hcz17_2 : w15.cell? ⟨gb201, 2, none⟩ = some (.int .i64 a0_2) := (blk_cell BK201.out 2).trans rfl; have hcz17_3 : w15.cell? ⟨gb201, 3, none⟩ = some (.slice none 0 0) := (blk_cell BK201.out 3).trans rfl; have hcz17_4 : w15.cell? ⟨gb201, 4, none⟩ = some (.int .i64 0) := (blk_cell BK201.out 4).trans rfl; have hfz17_0 := blk_frozen BK201.out 0; have hfz17_1 := blk_frozen BK201.out 1; have hfz17_2 := blk_frozen BK201.out 2; have hfz17_3 := blk_frozen BK201.out 3; have hfz17_4 := blk_frozen BK201.out 4; have hcz18_0 : w15.cell? ⟨gb199, 0, none⟩ = some (.slice A0_0 l0_0.length c0_0) := (blk_cell BK199.out 0).trans rfl; have hcz18_1 : w15.cell? ⟨gb199, 1, none⟩ = some (.int .i64 a0_1) := (blk_cell BK199.out 1).trans rfl; have hcz18_2 : w15.cell? ⟨gb199, 2, none⟩ = some (.int .i64 a0_2) := (blk_cell BK199.out 2).trans rfl; have hcz18_3 : w15.cell? ⟨gb199, 3, none⟩ = some (.slice A0_3 l0_3.length c0_3) := (blk_cell BK199.out 3).trans rfl; have hcz18_4 : w15.cell? ⟨gb199, 4, none⟩ = some (.int .i64 a0_4) := (blk_cell BK199.out 4).trans rfl; have hfz18_0 := blk_frozen BK199.out 0; have hfz18_1 := blk_frozen BK199.out 1; have hfz18_2 := blk_frozen BK199.out 2; have hfz18_3 := blk_frozen BK199.out 3; have hfz18_4 := blk_frozen BK199.out 4; have hcz19_0 : w15.cell? ⟨gb200, 0, none⟩ = some (.slice none 0 0) := (blk_cell BK200.out 0).trans rfl; have hcz19_1 : w15.cell? ⟨gb200, 1, none⟩ = some (.int .i64 0) := (blk_cell BK200.out 1).trans rfl; have hcz19_2 : w15.cell? ⟨gb200, 2, none⟩ = some (.int .i64 0) := (blk_cell BK200.out 2).trans rfl; have hcz19_3 : w15.cell? ⟨gb200, 3, none⟩ = some (.slice none 0 0) := (blk_cell BK200.out 3).trans rfl; have hcz19_4 : w15.cell? ⟨gb200, 4, none⟩ = some (.int .i64 0) := (blk_cell BK200.out 4).trans rfl; have hfz19_0 := blk_frozen BK200.out 0; have hfz19_1 := blk_frozen BK200.out 1; have hfz19_2 := blk_frozen BK200.out 2; have hfz19_3 := blk_frozen BK200.out 3; have hfz19_4 := blk_frozen BK200.out 4))
  refine bodyPost_ret (results_cell_row rfl _ _ gb200 32 #[.slice Ao11 t202.length co11, .int .i64 a0_1, .int .i64 a0_2, .slice Ao16 t205.length co16, .int .i64 a0_4] (0, 0) _ rfl (by (with_reducible repeat (first | refine blk_drewN ?_ _ | refine blk_drew ?_ | refine blk_alloc ?_ _)); refine blk_put (cs := #[.slice Ao11 t202.length co11, .int .i64 a0_1, .int .i64 a0_2, .slice Ao16 t205.length co16, .int .i64 0]) ?_ 4 _ rfl; (with_reducible repeat (first | refine blk_drewN ?_ _ | refine blk_drew ?_ | refine blk_alloc ?_ _)); refine blk_put (cs := #[.slice Ao11 t202.length co11, .int .i64 a0_1, .int .i64 a0_2, .slice none 0 0, .int .i64 0]) ?_ 3 _ rfl; (with_reducible repeat (first | refine blk_drewN ?_ _ | refine blk_drew ?_ | refine blk_alloc ?_ _)); refine blk_put (cs := #[.slice Ao11 t202.length co11, .int .i64 a0_1, .int .i64 0, .slice none 0 0, .int .i64 0]) ?_ 2 _ rfl; (with_reducible repeat (first | refine blk_drewN ?_ _ | refine blk_drew ?_ | refine blk_alloc ?_ _)); refine blk_put (cs := #[.slice Ao11 t202.length co11, .int .i64 0, .int .i64 0, .slice none 0 0, .int .i64 0]) ?_ 1 _ rfl; (with_reducible repeat (first | refine blk_drewN ?_ _ | refine blk_drew ?_ | refine blk_alloc ?_ _)); refine blk_put (cs := #[.slice none 0 0, .int .i64 0, .int .i64 0, .slice none 0 0, .int .i64 0]) ?_ 0 _ rfl; (with_reducible repeat (first | refine blk_drewN ?_ _ | refine blk_drew ?_ | refine blk_alloc ?_ _)); refine blk_far ?_ NB200_201.out _; (with_reducible repeat (first | refine blk_drewN ?_ _ | refine blk_drew ?_ | refine blk_alloc ?_ _)); refine blk_far ?_ NB200_201.out _; (with_reducible repeat (first | refine blk_drewN ?_ _ | refine blk_drew ?_ | refine blk_alloc ?_ _)); exact BK200.out) Tryd.underlying32 rfl (by kernel_rfl)) rfl ?_
  exact ⟨_, _, by first | rfl | (simp [errW_none, errW_some] <;> rfl) | (simp [*, errW_none, errW_some] <;> rfl), by (with_reducible repeat (first | apply Kd.R_alloc | apply Kd.R_drewN | apply Kd.R_drew)); exact Kd.R_mono (Kd.R_far (p := ⟨gb200, 4, none⟩) (Kd.R_far (p := ⟨gb200, 3, none⟩) (Kd.R_far (p := ⟨gb200, 2, none⟩) (Kd.R_far (p := ⟨gb200, 1, none⟩) (Kd.R_far (p := ⟨gb200, 0, none⟩) (Kd.R_far (p := ⟨gb201, 4, none⟩) (Kd.R_far (p := ⟨gb201, 3, none⟩) (Kd.R_types (Kd.R_types HO204.out BK201.out (by decide)) BK200.out (by decide)) (fun _ hk => hk.1.2) (.slice Ao16 t205.length co16)) (fun _ hk => hk.1.2) (.int .i64 a0_4)) (fun _ hk => hk.2) (.slice Ao11 t202.length co11)) (fun _ hk => hk.2) (.int .i64 a0_1)) (fun _ hk => hk.2) (.int .i64 a0_2)) (fun _ hk => hk.2) (.slice Ao16 t205.length co16)) (fun _ hk => hk.2) (.int .i64 a0_4)) (fun _ hk => trivial), by (with_reducible repeat (first | apply Kd.S_alloc | apply Kd.S_drewN | apply Kd.S_drew)); exact Kd.S_mono (Kd.S_far (p := ⟨gb200, 4, none⟩) (Kd.S_far (p := ⟨gb200, 3, none⟩) (Kd.S_far (p := ⟨gb200, 2, none⟩) (Kd.S_far (p := ⟨gb200, 1, none⟩) (Kd.S_far (p := ⟨gb200, 0, none⟩) (Kd.S_far (p := ⟨gb201, 4, none⟩) (Kd.S_far (p := ⟨gb201, 3, none⟩) (Kd.S_types (Kd.S_types HO207.out BK201.out (by decide)) BK200.out (by decide)) (fun _ hk => hk.1.2) (.slice Ao16 t205.length co16)) (fun _ hk => hk.1.2) (.int .i64 a0_4)) (fun _ hk => hk.2) (.slice Ao11 t202.length co11)) (fun _ hk => hk.2) (.int .i64 a0_1)) (fun _ hk => hk.2) (.int .i64 a0_2)) (fun _ hk => hk.2) (.slice Ao16 t205.length co16)) (fun _ hk => hk.2) (.int .i64 a0_4)) (fun _ hk => trivial), by repeat (first | (with_reducible first | exact HB.out | apply below_alloc | apply pw_below_drewN | apply below_drew1 | refine below_set ?_ GE199.out | refine below_set ?_ GE200.out | refine below_set ?_ GE201.out) | exact HB.out)⟩

/-! ### laws_toIntS: function 7 -/
def laws_toIntS.l0 : Nat → List Int → List Int → Int → Option (List Int)
  | 0, _, _, _ => none
  | k + 1, x0, x3, x4 => if x4 < (x0.length : Int) then (if 0 ≤ x4 then (if x4 < (x3.length : Int) then (laws_toIntS.l0 k x0 (x3.set (x4 : Int).toNat (rd x0 x4)) (wrap64 (x4 + 1))) else (none)) else (none)) else (some x3)
def laws_toIntS.f (k : Nat) (l0 : List Int) : Option (List Int) := if 0 ≤ (l0.length : Int) then (if ((l0.length : Int) : Int).toNat ≤ 35184372088832 then (laws_toIntS.l0 k l0 (List.replicate ((l0.length : Int) : Int).toNat 0) 0) else (none)) else (none)
theorem laws_toIntS.mono_l : ∀ k, (∀ y0 y1 y2, LeO (laws_toIntS.l0 k y0 y1 y2) (laws_toIntS.l0 (k + 1) y0 y1 y2))
  | 0 => fun _ _ _ r h => by simp [laws_toIntS.l0] at h
  | k + 1 => by
    have ih0 := laws_toIntS.mono_l k
    · intro y0 y1 y2
      unfold laws_toIntS.l0
      repeat' first
      | (with_reducible exact ih0 _ _ _)
      | (with_reducible exact LeO.refl _)
      | (with_reducible exact LeO.none _)
      | (with_reducible refine LeO.ite ?_ ?_)
      | (with_reducible refine LeO.bind ?_ (fun _ => ?_))
      | exact ih0 _ _ _
      | exact LeO.none _
      | refine LeO.ite ?_ ?_
      | refine LeO.bind ?_ (fun _ => ?_)
theorem laws_toIntS.mono : ∀ a0 k, LeO (laws_toIntS.f k a0) (laws_toIntS.f (k + 1) a0) := by
  intro a0 k
  have ih0 := laws_toIntS.mono_l k
  unfold laws_toIntS.f
  repeat' first
      | (with_reducible exact ih0 _ _ _)
      | (with_reducible exact LeO.refl _)
      | (with_reducible exact LeO.none _)
      | (with_reducible refine LeO.ite ?_ ?_)
      | (with_reducible refine LeO.bind ?_ (fun _ => ?_))
      | exact ih0 _ _ _
      | exact LeO.none _
      | refine LeO.ite ?_ ?_
      | refine LeO.bind ?_ (fun _ => ?_)
set_option maxHeartbeats 8000000 in
set_option maxRecDepth 100000 in
theorem laws_toIntS.calls (k : Nat) (A0 : Option Addr) (c0 : Nat) (l0 : List Int) (r : List Int) (w : World) (hr0 : Kd.C (Kd.int .i64) w A0 l0.length l0) (hc0 : l0.length ≤ c0) (h : laws_toIntS.f k l0 = some r) :
    Calls Tryd.prog 7 #[.slice A0 l0.length c0] w fun e w' => ∃ v0_ : Value, e = .returned (v0_) ∧ Kd.R (Kd.int .i64) 3 w' w.heap.size (fun _ => True) v0_ r ∧ Below w.heap.size w w' := by
  have HR0 := Aside0.mk hr0
  have HC0 := Aside0.mk hc0
  clear hr0 hc0
  have HB := Aside0.mk (Below.refl w.heap.size w)
  have H : (if 0 ≤ (l0.length : Int) then (if ((l0.length : Int) : Int).toNat ≤ 35184372088832 then (laws_toIntS.l0 k l0 (List.replicate ((l0.length : Int) : Int).toNat 0) 0) else (none)) else (none)) = some r := h
  clear h
  by_cases c2 : 0 ≤ (l0.length : Int)
  · rw [if_pos c2] at H
    have c2b0 := eq_true c2
    have c2b1 : decide (0 ≤ (l0.length : Int)) = true := decide_eq_true c2
    clear c2
    by_cases c3 : ((l0.length : Int) : Int).toNat ≤ 35184372088832
    · rw [if_pos c3] at H
      have c3b0 := eq_true c3
      have c3b1 : decide (((l0.length : Int) : Int).toNat ≤ 35184372088832) = true := decide_eq_true c3
      clear c3
      obtain ⟨y208, hy208⟩ : ∃ y_ : List Int, y_ = (List.replicate ((l0.length : Int) : Int).toNat 0) := ⟨_, rfl⟩
      replace H : (laws_toIntS.l0 k l0 y208 0) = some r := by first | (rw [hy208]; with_reducible exact H) | (have H2_ := (Option.bind_some _ _).symm.trans H; rw [hy208]; with_reducible exact H2_) | (have H2_ := (Option.bind_some _ _).symm.trans H; with_reducible exact H2_) | with_reducible exact H | (rw [hy208]; exact H) | exact H
      have Ny208 := Aside0.mk hy208
      clear hy208
      have H' := Aside0.mk H
      clear H
      go_enter Tryd.func7, Tryd.ntmps7
      go_wp2_with (first | ((with_reducible refine gate_dst (N := 7) rfl ?_); refine Kd.R_make (Kd.int .i64) _ 3 rfl (N := 7) rfl 26 _ _ rfl (l0.length : Int) rfl rfl Tryd.underlying26 (.int .i64 0) 8 info3 rfl (by decide) (by omega) 0 (ok := fun _ => True) (okp := fun _ => True) rfl (fun _ hk => hk) trivial (of_decide_eq_true (by first | (with_reducible assumption) | assumption)) (Nat.le_trans (Nat.mul_le_mul_right _ (of_decide_eq_true (by first | (with_reducible assumption) | assumption) : (l0.length : Int).toNat ≤ 35184372088832)) (by omega)) (Below.refl _ _) (Nat.le_refl _) ?_; intro v209 w4 ho5 hb hg_ hnew_; clear hg_ hnew_; (first | rw [← Ny208.out] at ho5 | (simp only [Int.reduceToNat] at ho5; rw [← Ny208.out] at ho5)); have n0_ := Aside0.mk (Kd.R_lower ho5 (below_size (by repeat (first | (with_reducible first | exact HB.out | apply below_alloc | apply pw_below_drewN | apply below_drew1) | exact HB.out)))); have n1_ := Aside0.mk (below_step (by repeat (first | (with_reducible first | exact HB.out | apply below_alloc | apply pw_below_drewN | apply below_drew1) | exact HB.out)) hb); clear HB; have HO210 := n0_; have HB := n1_; clear n0_ n1_; clear hb ho5))
      go_loopg [4] k (fun kq v4 w' => ∃ (x3_1 : List Int) (x4_1 : Int), v4 = .int .i64 x4_1 ∧ Aside0 (laws_toIntS.l0 kq l0 x3_1 x4_1 = some r) ∧ Aside0 (kq ≤ k) ∧ Aside0 (Kd.R (Kd.int .i64) 3 w' w.heap.size (fun _ => True) v209 x3_1) ∧ Aside0 (Below w.heap.size w w'))
      case atStart => exact ⟨(y208), (0), (by first | rfl | (simp; done) | (simp [*]; done)), H', ⟨Nat.le_refl _⟩, ⟨by (with_reducible repeat (first | apply Kd.R_alloc | apply Kd.R_drewN | apply Kd.R_drew)); exact HO210.out⟩, ⟨by repeat (first | (with_reducible first | exact HB.out | apply below_alloc | apply pw_below_drewN | apply below_drew1) | exact HB.out)⟩⟩
      case round =>
        clear H'
        try clear c2
        try clear c2b0
        try clear c2b1
        try clear p2
        try clear c3
        try clear c3b0
        try clear c3b1
        obtain ⟨x3_1, x4_1, rfl, HA, HK1, HO_3, HB⟩ := hrel
        cases gk with
        | zero => exact absurd HA.out (by simp [laws_toIntS.l0])
        | succ k1 =>
          have H := HA.out
          clear HA
          simp only [laws_toIntS.l0] at H
          by_cases c6 : x4_1 < (l0.length : Int)
          · rw [if_pos c6] at H
            have c6b0 : decide (x4_1 < (l0.length : Int)) = true := decide_eq_true c6
            clear c6
            by_cases c7 : 0 ≤ x4_1
            · rw [if_pos c7] at H
              have c7b0 : decide (0 ≤ x4_1) = true := decide_eq_true c7
              clear c7
              by_cases c8 : x4_1 < (x3_1.length : Int)
              · rw [if_pos c8] at H
                have c8b0 : decide (x4_1 < (x3_1.length : Int)) = true := decide_eq_true c8
                clear c8
                obtain ⟨y212, hy212⟩ : ∃ y_ : List Int, y_ = (x3_1.set (x4_1 : Int).toNat (rd l0 x4_1)) := ⟨_, rfl⟩
                replace H : (laws_toIntS.l0 k1 l0 y212 (wrap64 (x4_1 + 1))) = some r := by first | (rw [hy212]; with_reducible exact H) | (have H2_ := (Option.bind_some _ _).symm.trans H; rw [hy212]; with_reducible exact H2_) | (have H2_ := (Option.bind_some _ _).symm.trans H; with_reducible exact H2_) | with_reducible exact H | (rw [hy212]; exact H) | exact H
                have Ny212 := Aside0.mk hy212
                clear hy212
                have H' := Aside0.mk H
                clear H
                have p211 : 0 ≤ (x4_1 : Int) := of_decide_eq_true (by first | (with_reducible assumption) | assumption)
                have q211 : x4_1 < (l0.length : Int) := of_decide_eq_true (by first | (with_reducible assumption) | assumption)
                obtain ⟨ad211, e211, hx211_0⟩ := Kd.at_int HR0.out x4_1 p211 q211
                cases e211
                replace hx211_0 := (HB.out.cell (World.block_lt_of_cell? w _ hx211_0)).trans hx211_0
                replace p211 := eq_true p211
                replace q211 := eq_true q211
                have p9 : 0 ≤ (x4_1 : Int) := of_decide_eq_true (by first | (with_reducible assumption) | assumption)
                have q9 : (x4_1 : Int) < ((x3_1.length : Int) : Int) := of_decide_eq_true (by first | (with_reducible assumption) | assumption)
                obtain ⟨go9, co9, eo9, gb9, gl9, cl9, HG9⟩ := Kd.R_form HO_3.out (by omega)
                (first | cases eo9 | (injection eo9 with ea_ en_ ec_; (first | subst ea_ | (injection ea_ with ea_; subst ea_)); subst ec_; clear en_))
                have GB9 := Aside0.mk gb9
                have GG9 := Aside0.mk HG9
                clear gb9 gl9 HG9
                obtain ⟨hx9_0, hf9_0⟩ := Kd.R_celln 0 HO_3.out (x4_1 : Int) p9 q9
                replace p9 := eq_true p9
                replace q9 := eq_true q9
                have HP10 := Kd.R_putg HO_3.out (x4_1 : Int) (rd l0 x4_1)
                go_wp2_with (first | ((with_reducible refine gate_store (t := 3) (p := 20) rfl ?_); refine store_event (t := 3) (p := 20) (v := ?vo_w11) (w1 := (wr.setCell ⟨go9, (x4_1 : Int).toNat, none⟩ (.int .i64 (rd l0 x4_1)))) ?hg ?ho ?hn ?hr ?_; (case ho => rfl); (case hg => rfl); (case hn => rfl); (case hr => first | (go_simp; done) | (go_simp; rfl)); intro w11 hw; have hg : wr.grownBy w11 (some go9) := (by rw [hw]; exact HP10.2); have hp_ : Kd.R (Kd.int .i64) 3 w11 w.heap.size (fun _ => True) (.slice (some ⟨go9, 0, none⟩) x3_1.length co9) y212 := (by rw [hw, Ny212.out]; exact HP10.1); clear HP10; have n0_ := Aside0.mk (hp_); have n1_ := Aside0.mk ((by rw [hw]; exact below_set (HB.out) GB9.out : Below w.heap.size w w11)); clear HO_3; clear HB; have HO_3 := n0_; have HB := n1_; clear n0_ n1_; clear hg hw hp_))
                go_roundg k1
                case measure => have := HK1.out; omega
                case rel => exact ⟨(y212), (wrap64 (x4_1 + 1)), (by first | rfl | (simp; done) | (simp [*]; done)), H', ⟨by have := HK1.out; omega⟩, ⟨by (with_reducible repeat (first | apply Kd.R_alloc | apply Kd.R_drewN | apply Kd.R_drew)); exact HO_3.out⟩, ⟨by repeat (first | (with_reducible first | exact HB.out | apply below_alloc | apply pw_below_drewN | apply below_drew1) | exact HB.out)⟩⟩
              · rw [if_neg c8] at H
                exact absurd H (by simp)
            · rw [if_neg c7] at H
              exact absurd H (by simp)
          · rw [if_neg c6] at H
            have c6b0 : decide (x4_1 < (l0.length : Int)) = false := decide_eq_false c6
            clear c6
            obtain rfl := Option.some.inj H
            go_wp2
            go_ret
            exact ⟨_, by first | rfl | (simp [errW_none, errW_some] <;> rfl) | (simp [*, errW_none, errW_some] <;> rfl), by (with_reducible repeat (first | apply Kd.R_alloc | apply Kd.R_drewN | apply Kd.R_drew)); exact HO_3.out, by repeat (first | (with_reducible first | exact HB.out | apply below_alloc | apply pw_below_drewN | apply below_drew1) | exact HB.out)⟩
    · rw [if_neg c3] at H
      exact absurd H (by simp)
  · rw [if_neg c2] at H
    exact absurd H (by simp)

/-! ### impl_in: function 18 -/
def impl_in.f (a0 : Int) (a1 : Int) (a2 : Int) : Option (Bool) := if a0 ≥ a1 then (some (decide (a0 ≤ a2))) else (some false)
set_option maxHeartbeats 8000000 in
set_option maxRecDepth 100000 in
theorem impl_in.calls (a0 : Int) (a1 : Int) (a2 : Int) (r : Bool) (w : World) (h : impl_in.f a0 a1 a2 = some r) :
    Calls Tryd.prog 18 #[.int .i64 a0, .int .i64 a1, .int .i64 a2] w fun e w' => e = .returned (.bool r) ∧ Drawn0 w w' := by
  have H : (if a0 ≥ a1 then (some (decide (a0 ≤ a2))) else (some false)) = some r := h
  clear h
  by_cases c4 : a0 ≥ a1
  · rw [if_pos c4] at H
    have c4b0 : decide (a1 ≤ a0) = true := decide_eq_true c4
    clear c4
    obtain rfl := Option.some.inj H
    go_enter Tryd.func18, Tryd.ntmps18
    go_wp2
    go_ret
    exact ⟨by first | rfl | (simp [IntKind.wrap_i64, wrap64]; done) | (simp; done) | (simp [*]; done), by repeat (first | exact Drawn0.refl _ | apply Drawn0.step)⟩
  · rw [if_neg c4] at H
    have c4b0 : decide (a1 ≤ a0) = false := decide_eq_false c4
    clear c4
    obtain rfl := Option.some.inj H
    go_enter Tryd.func18, Tryd.ntmps18
    go_wp2
    go_ret
    exact ⟨by first | rfl | (simp [IntKind.wrap_i64, wrap64]; done) | (simp; done) | (simp [*]; done), by repeat (first | exact Drawn0.refl _ | apply Drawn0.step)⟩

/-! ### impl_TblCol_ok: function 38 -/
def impl_TblCol_ok.f (a0_0 : Int) (a0_1 : Int) : Option (Bool) := if a0_0 = 0 then (some (a0_1 == 0)) else (if a0_0 = 1 then ((impl_in.f a0_1 0 60).bind fun t214 => (some t214)) else (if a0_0 = 2 then ((impl_in.f a0_1 1 100).bind fun t215 => (some t215)) else (some false)))
set_option maxHeartbeats 8000000 in
set_option maxRecDepth 100000 in
theorem impl_TblCol_ok.calls (a0_0 : Int) (a0_1 : Int) (r : Bool) (w : World) (h : impl_TblCol_ok.f a0_0 a0_1 = some r) :
    Calls Tryd.prog 38 #[.agg #[.int .i64 a0_0, .int .i64 a0_1]] w fun e w' => e = .returned (.bool r) ∧ Below w.heap.size w w' := by
  have hu55 := Tryd.underlying55
  have HB := Aside0.mk (Below.refl w.heap.size w)
  have H : (if a0_0 = 0 then (some (a0_1 == 0)) else (if a0_0 = 1 then ((impl_in.f a0_1 0 60).bind fun t214 => (some t214)) else (if a0_0 = 2 then ((impl_in.f a0_1 1 100).bind fun t215 => (some t215)) else (some false)))) = some r := h
  clear h
  by_cases c2 : a0_0 = 0
  · rw [if_pos c2] at H
    have c2b0 : (a0_0 == 0) = true := beq_iff_eq.mpr c2
    have c2b1 : (a0_0 != 0) = false := bne_eq_false_iff_eq.mpr c2
    clear c2
    obtain rfl := Option.some.inj H
    go_enter Tryd.func38, Tryd.ntmps38
    go_wp2_with (first | ((with_reducible refine gate_dst (N := 1) rfl ?_); refine box_event ?hg (N := 1) ?hd (cs := #[.int .i64 a0_0, .int .i64 a0_1]) (t := 55) ?hr ?_; (case hd => rfl); (case hg => rfl); (case hr => first | (go_simp; done) | (go_simp; rfl)); intro gb213 hg w3 hbox hb; have n0_ := Aside0.mk (below_step (by repeat (first | (with_reducible first | exact HB.out | apply below_alloc | apply pw_below_drewN | apply below_drew1) | exact HB.out)) hb); have n1_ := Aside0.mk (hbox); have n2_ := Aside0.mk ((by rw [hg]; exact (below_size (by repeat (first | (with_reducible first | exact HB.out | apply below_alloc | apply pw_below_drewN | apply below_drew1) | exact HB.out))) : w.heap.size ≤ gb213)); have n3_ := Aside0.mk ((by rw [hg]; exact (below_size (by repeat (first | (with_reducible first | exact HB.out | apply below_alloc | apply pw_below_drewN | apply below_drew1) | exact HB.out))) : w.heap.size ≤ gb213)); clear HB; have HB := n0_; have BK213 := n1_; have GW213 := n2_; have GE213 := n3_; clear n0_ n1_ n2_ n3_; clear hb hbox hg; have hcz4_0 : w3.cell? ⟨gb213, 0, none⟩ = some (.int .i64 a0_0) := (blk_cell BK213.out 0).trans rfl; have hcz4_1 : w3.cell? ⟨gb213, 1, none⟩ = some (.int .i64 a0_1) := (blk_cell BK213.out 1).trans rfl; have hfz4_0 := blk_frozen BK213.out 0; have hfz4_1 := blk_frozen BK213.out 1))
    go_ret
    exact ⟨by first | rfl | (simp [IntKind.wrap_i64, wrap64]; done) | (simp [errW_none, errW_some] <;> rfl) | (simp [*, errW_none, errW_some] <;> rfl), by repeat (first | (with_reducible first | exact HB.out | apply below_alloc | apply pw_below_drewN | apply below_drew1 | refine below_set ?_ GE213.out) | exact HB.out)⟩
  · rw [if_neg c2] at H
    have c2b0 : (a0_0 == 0) = false := beq_eq_false_iff_ne.mpr c2
    have c2b1 : (a0_0 != 0) = true := bne_iff_ne.mpr c2
    by_cases c5 : a0_0 = 1
    · rw [if_pos c5] at H
      have c5b0 : (a0_0 == 1) = true := beq_iff_eq.mpr c5
      have c5b1 : (a0_0 != 1) = false := bne_eq_false_iff_eq.mpr c5
      clear c5
      replace H := Option.bind_eq_some_iff.mp H
      obtain ⟨t214, A60, H⟩ := H
      replace H : (some t214) = some r := H
      have A6 := Aside0.mk A60
      clear A60
      obtain rfl := Option.some.inj H
      go_enter Tryd.func38, Tryd.ntmps38
      go_wp2_with (first | ((with_reducible refine gate_dst (N := 1) rfl ?_); refine box_event ?hg (N := 1) ?hd (cs := #[.int .i64 a0_0, .int .i64 a0_1]) (t := 55) ?hr ?_; (case hd => rfl); (case hg => rfl); (case hr => first | (go_simp; done) | (go_simp; rfl)); intro gb213 hg w7 hbox hb; have n0_ := Aside0.mk (below_step (by repeat (first | (with_reducible first | exact HB.out | apply below_alloc | apply pw_below_drewN | apply below_drew1) | exact HB.out)) hb); have n1_ := Aside0.mk (hbox); have n2_ := Aside0.mk ((by rw [hg]; exact (below_size (by repeat (first | (with_reducible first | exact HB.out | apply below_alloc | apply pw_below_drewN | apply below_drew1) | exact HB.out))) : w.heap.size ≤ gb213)); have n3_ := Aside0.mk ((by rw [hg]; exact (below_size (by repeat (first | (with_reducible first | exact HB.out | apply below_alloc | apply pw_below_drewN | apply below_drew1) | exact HB.out))) : w.heap.size ≤ gb213)); clear HB; have HB := n0_; have BK213 := n1_; have GW213 := n2_; have GE213 := n3_; clear n0_ n1_ n2_ n3_; clear hb hbox hg; have hcz8_0 : w7.cell? ⟨gb213, 0, none⟩ = some (.int .i64 a0_0) := (blk_cell BK213.out 0).trans rfl; have hcz8_1 : w7.cell? ⟨gb213, 1, none⟩ = some (.int .i64 a0_1) := (blk_cell BK213.out 1).trans rfl; have hfz8_0 := blk_frozen BK213.out 0; have hfz8_1 := blk_frozen BK213.out 1) | ((with_reducible refine gate_callee (f := 18) rfl ?_); refine goesL_ (some 14) rfl rfl Tryd.func18 (by kernel_rfl) rfl #[.int .i64 a0_1, .int .i64 0, .int .i64 60] rfl (by (try simp only [List.map_toArray, List.map_cons, List.map_nil]); first | done | rfl | (simp only [List.length_drop, List.length_take]; rfl)) ?_; (with_reducible refine (impl_in.calls a0_1 0 60 t214 _ A6.out).mono ?_); rintro e w' ⟨rfl, ⟨nd, rfl⟩⟩; refine ⟨_, rfl, ?_⟩))
      go_ret
      exact ⟨by first | rfl | (simp [IntKind.wrap_i64, wrap64]; done) | (simp [errW_none, errW_some] <;> rfl) | (simp [*, errW_none, errW_some] <;> rfl), by repeat (first | (with_reducible first | exact HB.out | apply below_alloc | apply pw_below_drewN | apply below_drew1 | refine below_set ?_ GE213.out) | exact HB.out)⟩
    · rw [if_neg c5] at H
      have c5b0 : (a0_0 == 1) = false := beq_eq_false_iff_ne.mpr c5
      have c5b1 : (a0_0 != 1) = true := bne_iff_ne.mpr c5
      by_cases c9 : a0_0 = 2
      · rw [if_pos c9] at H
        have c9b0 : (a0_0 == 2) = true := beq_iff_eq.mpr c9
        have c9b1 : (a0_0 != 2) = false := bne_eq_false_iff_eq.mpr c9
        clear c9
        replace H := Option.bind_eq_some_iff.mp H
        obtain ⟨t215, A100, H⟩ := H
        replace H : (some t215) = some r := H
        have A10 := Aside0.mk A100
        clear A100
        obtain rfl := Option.some.inj H
        go_enter Tryd.func38, Tryd.ntmps38
        go_wp2_with (first | ((with_reducible refine gate_dst (N := 1) rfl ?_); refine box_event ?hg (N := 1) ?hd (cs := #[.int .i64 a0_0, .int .i64 a0_1]) (t := 55) ?hr ?_; (case hd => rfl); (case hg => rfl); (case hr => first | (go_simp; done) | (go_simp; rfl)); intro gb213 hg w11 hbox hb; have n0_ := Aside0.mk (below_step (by repeat (first | (with_reducible first | exact HB.out | apply below_alloc | apply pw_below_drewN | apply below_drew1) | exact HB.out)) hb); have n1_ := Aside0.mk (hbox); have n2_ := Aside0.mk ((by rw [hg]; exact (below_size (by repeat (first | (with_reducible first | exact HB.out | apply below_alloc | apply pw_below_drewN | apply below_drew1) | exact HB.out))) : w.heap.size ≤ gb213)); have n3_ := Aside0.mk ((by rw [hg]; exact (below_size (by repeat (first | (with_reducible first | exact HB.out | apply below_alloc | apply pw_below_drewN | apply below_drew1) | exact HB.out))) : w.heap.size ≤ gb213)); clear HB; have HB := n0_; have BK213 := n1_; have GW213 := n2_; have GE213 := n3_; clear n0_ n1_ n2_ n3_; clear hb hbox hg; have hcz12_0 : w11.cell? ⟨gb213, 0, none⟩ = some (.int .i64 a0_0) := (blk_cell BK213.out 0).trans rfl; have hcz12_1 : w11.cell? ⟨gb213, 1, none⟩ = some (.int .i64 a0_1) := (blk_cell BK213.out 1).trans rfl; have hfz12_0 := blk_frozen BK213.out 0; have hfz12_1 := blk_frozen BK213.out 1) | ((with_reducible refine gate_callee (f := 18) rfl ?_); refine goesL_ (some 19) rfl rfl Tryd.func18 (by kernel_rfl) rfl #[.int .i64 a0_1, .int .i64 1, .int .i64 100] rfl (by (try simp only [List.map_toArray, List.map_cons, List.map_nil]); first | done | rfl | (simp only [List.length_drop, List.length_take]; rfl)) ?_; (with_reducible refine (impl_in.calls a0_1 1 100 t215 _ A10.out).mono ?_); rintro e w' ⟨rfl, ⟨nd, rfl⟩⟩; refine ⟨_, rfl, ?_⟩))
        go_ret
        exact ⟨by first | rfl | (simp [IntKind.wrap_i64, wrap64]; done) | (simp [errW_none, errW_some] <;> rfl) | (simp [*, errW_none, errW_some] <;> rfl), by repeat (first | (with_reducible first | exact HB.out | apply below_alloc | apply pw_below_drewN | apply below_drew1 | refine below_set ?_ GE213.out) | exact HB.out)⟩
      · rw [if_neg c9] at H
        have c9b0 : (a0_0 == 2) = false := beq_eq_false_iff_ne.mpr c9
        have c9b1 : (a0_0 != 2) = true := bne_iff_ne.mpr c9
        obtain rfl := Option.some.inj H
        go_enter Tryd.func38, Tryd.ntmps38
        go_wp2_with (first | ((with_reducible refine gate_dst (N := 1) rfl ?_); refine box_event ?hg (N := 1) ?hd (cs := #[.int .i64 a0_0, .int .i64 a0_1]) (t := 55) ?hr ?_; (case hd => rfl); (case hg => rfl); (case hr => first | (go_simp; done) | (go_simp; rfl)); intro gb213 hg w13 hbox hb; have n0_ := Aside0.mk (below_step (by repeat (first | (with_reducible first | exact HB.out | apply below_alloc | apply pw_below_drewN | apply below_drew1) | exact HB.out)) hb); have n1_ := Aside0.mk (hbox); have n2_ := Aside0.mk ((by rw [hg]; exact (below_size (by repeat (first | (with_reducible first | exact HB.out | apply below_alloc | apply pw_below_drewN | apply below_drew1) | exact HB.out))) : w.heap.size ≤ gb213)); have n3_ := Aside0.mk ((by rw [hg]; exact (below_size (by repeat (first | (with_reducible first | exact HB.out | apply below_alloc | apply pw_below_drewN | apply below_drew1) | exact HB.out))) : w.heap.size ≤ gb213)); clear HB; have HB := n0_; have BK213 := n1_; have GW213 := n2_; have GE213 := n3_; clear n0_ n1_ n2_ n3_; clear hb hbox hg; have hcz14_0 : w13.cell? ⟨gb213, 0, none⟩ = some (.int .i64 a0_0) := (blk_cell BK213.out 0).trans rfl; have hcz14_1 : w13.cell? ⟨gb213, 1, none⟩ = some (.int .i64 a0_1) := (blk_cell BK213.out 1).trans rfl; have hfz14_0 := blk_frozen BK213.out 0; have hfz14_1 := blk_frozen BK213.out 1))
        go_ret
        exact ⟨by first | rfl | (simp [IntKind.wrap_i64, wrap64]; done) | (simp [errW_none, errW_some] <;> rfl) | (simp [*, errW_none, errW_some] <;> rfl), by repeat (first | (with_reducible first | exact HB.out | apply below_alloc | apply pw_below_drewN | apply below_drew1 | refine below_set ?_ GE213.out) | exact HB.out)⟩

/-! ### impl_TxtOk: function 48 (by hand) -/
def impl_TxtOk.f (a0 : ByteArray) : Option Bool := if a0.size < 4294967281 then some (Txt.ppTxtOk a0) else none
set_option maxHeartbeats 2000000 in
set_option maxRecDepth 100000 in
theorem impl_TxtOk.calls (a0 : ByteArray) (r : Bool) (w : World) (hM : Txt.MLen w) (h : impl_TxtOk.f a0 = some r) :
    Calls Tryd.prog 48 #[.string a0] w fun e w' => e = .returned (.bool r) ∧ Below w.heap.size w w' := by
  unfold impl_TxtOk.f at h
  split at h
  · rename_i hs
    have hr := Option.some.inj h
    have HM := Aside0.mk hM
    have HS := Aside0.mk hs
    clear hM hs h
    by_cases h0 : a0.toList.isEmpty = true
    · have e0 : a0.toList.isEmpty = true := h0
      have er : Txt.ppTxtOk a0 = true := by unfold Txt.ppTxtOk; rw [e0]; rfl
      rw [er] at hr
      subst hr
      clear er h0
      go_enter Tryd.func48, Tryd.ntmps48
      go_wp2
      go_ret
      exact ⟨rfl, Below.refl _ _⟩
    · have e0 : a0.toList.isEmpty = false := Bool.eq_false_iff.2 h0
      have er : Txt.ppTxtOk a0 = ((Txt.ppWords a0).all Txt.ppWordOk && decide ((a0.size : Int) ≤ 30)) := by unfold Txt.ppTxtOk; rw [e0]; rfl
      rw [er] at hr
      clear er h0
      obtain ⟨L, hL⟩ : ∃ L, Txt.ppWords a0 = L := ⟨_, rfl⟩
      have hsp := Txt.split_sp a0 w HM.out HS.out
      have hsz : ∀ x ∈ L, x.size ≤ 9223372036854775807 := fun x hx => by
        have := Txt.ppWords_le a0 x (hL ▸ hx)
        have := HS.out
        omega
      have hln : L.length ≤ 4294967281 := by
        have := Txt.ppWords_len a0
        have := HS.out
        rw [hL] at *
        omega
      have HLN := Aside0.mk hln
      clear hln
      rw [hL] at hsp hr
      have HE := Aside0.mk hr
      clear hr
      have HSP := Aside0.mk hsp
      have HSZ := Aside0.mk hsz
      clear hsp hsz hL
      go_enter Tryd.func48, Tryd.ntmps48
      go_wp2_with (go_at_call 54; (with_reducible refine HSP.out.mono ?_); rintro e w' ⟨rfl, rfl⟩)
      go_loopg [10] L.length (fun gg v10 wr => ∃ kk : Nat, kk ≤ L.length ∧ L.length - kk ≤ gg ∧ v10 = .int .i64 kk ∧ Aside0 (Below w.heap.size w wr) ∧ Aside0 (wr.heap[w.heap.size]? = some (.cells (L.map Value.string).toArray 9 (0, 0))) ∧ Aside0 (∀ j (h : j < L.length), j < kk → Txt.ppWordOk L[j] = true))
      case atStart => exact ⟨0, Nat.zero_le _, by omega, rfl, ⟨below_alloc (Below.refl _ _) _⟩, ⟨blk_new _ _⟩, ⟨fun j _ hj => absurd hj (Nat.not_lt_zero _)⟩⟩
      case round =>
        obtain ⟨kk, hkk, hg, rfl, HB, BK, AA⟩ := hrel
        by_cases hlt : kk < L.length
        · have hltz : (kk : Int) < (L.length : Int) := by omega
          have hcell : wr.cell? ⟨w.heap.size, kk, none⟩ = some (.string L[kk]) := (blk_cell BK.out kk).trans (by simp [hlt])
          have hfz := blk_frozen BK.out kk
          have hsk := HSZ.out L[kk] (List.getElem_mem hlt)
          have htrim := fun W => Txt.trim_az L[kk] W hsk
          have HT := Aside0.mk htrim
          obtain ⟨y, hy⟩ : ∃ y, L[kk] = y := ⟨_, rfl⟩
          have HY := Aside0.mk hy
          rw [hy] at hcell HT
          clear hsk htrim hy
          obtain ⟨z, hz⟩ : ∃ z, Txt.ppRest y = z := ⟨_, rfl⟩
          rw [hz] at HT
          have HZ := Aside0.mk hz
          clear hz
          by_cases h1 : y.toList.isEmpty = true
          · have e1 : y.toList.isEmpty = true := h1
            have hno : (L.all Txt.ppWordOk && decide ((a0.size : Int) ≤ 30)) = false := by
              have : L.all Txt.ppWordOk = false := List.all_eq_false.2 ⟨L[kk], List.getElem_mem hlt, by rw [HY.out]; unfold Txt.ppWordOk; rw [e1]; simp⟩
              rw [this]; rfl
            have HNO := Aside0.mk hno
            clear hno h1
            go_wp2
            go_ret
            exact ⟨by rw [← HE.out, HNO.out]; rfl, HB.out⟩
          · have e1 : y.toList.isEmpty = false := Bool.eq_false_iff.2 h1
            clear h1
            by_cases h2 : z.toList.isEmpty = true
            · have e2 : z.toList.isEmpty = true := h2
              have hyes : Txt.ppWordOk L[kk] = true := by rw [HY.out]; unfold Txt.ppWordOk; rw [HZ.out, e1, e2]; rfl
              have HYES := Aside0.mk hyes
              clear hyes h2
              go_wp2_with (go_at_call 55; (with_reducible refine (HT.out _).mono ?_); rintro e w' ⟨rfl, hb⟩)
              go_roundg (L.length - (kk + 1))
              case measure => omega
              case rel =>
                refine ⟨kk + 1, by omega, by omega, (by have := HLN.out; show Value.int .i64 (wrap64 ((kk : Int) + 1)) = Value.int .i64 ((kk + 1 : Nat) : Int); congr 1; unfold wrap64; omega), ⟨below_step HB.out hb⟩, ⟨blk_below BK.out hb⟩, ⟨fun j h hj => ?_⟩⟩
                by_cases e : j = kk
                · subst e
                  exact HYES.out
                · exact AA.out j h (by omega)
            · have e2 : z.toList.isEmpty = false := Bool.eq_false_iff.2 h2
              have hno : (L.all Txt.ppWordOk && decide ((a0.size : Int) ≤ 30)) = false := by
                have : L.all Txt.ppWordOk = false := List.all_eq_false.2 ⟨L[kk], List.getElem_mem hlt, by rw [HY.out]; unfold Txt.ppWordOk; rw [HZ.out, e1, e2]; simp⟩
                rw [this]; rfl
              have HNO := Aside0.mk hno
              clear hno h2
              go_wp2_with (go_at_call 55; (with_reducible refine (HT.out _).mono ?_); rintro e w' ⟨rfl, hb⟩)
              go_ret
              exact ⟨by rw [← HE.out, HNO.out]; rfl, below_step HB.out hb⟩
        · have hltz : ¬ (kk : Int) < (L.length : Int) := by omega
          have hk : kk = L.length := by omega
          have hall : (L.all Txt.ppWordOk && decide ((a0.size : Int) ≤ 30)) = decide ((a0.size : Int) ≤ 30) := by
            have : L.all Txt.ppWordOk = true := List.all_eq_true.2 (fun x hx => by
              obtain ⟨j, hj, rfl⟩ := List.getElem_of_mem hx
              exact AA.out j hj (by omega))
            rw [this]; rfl
          have HALL := Aside0.mk hall
          clear hall
          go_wp2
          go_ret
          exact ⟨by rw [← HE.out, HALL.out]; rfl, HB.out⟩
  · exact absurd h (by simp)

/-! ### impl_BrdLine_drawn: function 56 -/
def impl_BrdLine_drawn.f (a0_0 : Int) (a0_1 : Int) : Option (Bool) := (impl_in.f a0_0 1 3).bind fun t217 => (some t217)
set_option maxHeartbeats 8000000 in
set_option maxRecDepth 100000 in
theorem impl_BrdLine_drawn.calls (a0_0 : Int) (a0_1 : Int) (r : Bool) (w : World) (h : impl_BrdLine_drawn.f a0_0 a0_1 = some r) :
    Calls Tryd.prog 56 #[.agg #[.int .i64 a0_0, .int .i64 a0_1]] w fun e w' => e = .returned (.bool r) ∧ Below w.heap.size w w' := by
  have hu61 := Tryd.underlying61
  have HB := Aside0.mk (Below.refl w.heap.size w)
  have H : ((impl_in.f a0_0 1 3).bind fun t217 => (some t217)) = some r := h
  clear h
  replace H := Option.bind_eq_some_iff.mp H
  obtain ⟨t217, A20, H⟩ := H
  replace H : (some t217) = some r := H
  have A2 := Aside0.mk A20
  clear A20
  obtain rfl := Option.some.inj H
  go_enter Tryd.func56, Tryd.ntmps56
  go_wp2_with (first | ((with_reducible refine gate_dst (N := 1) rfl ?_); refine box_event ?hg (N := 1) ?hd (cs := #[.int .i64 a0_0, .int .i64 a0_1]) (t := 61) ?hr ?_; (case hd => rfl); (case hg => rfl); (case hr => first | (go_simp; done) | (go_simp; rfl)); intro gb216 hg w3 hbox hb; have n0_ := Aside0.mk (below_step (by repeat (first | (with_reducible first | exact HB.out | apply below_alloc | apply pw_below_drewN | apply below_drew1) | exact HB.out)) hb); have n1_ := Aside0.mk (hbox); have n2_ := Aside0.mk ((by rw [hg]; exact (below_size (by repeat (first | (with_reducible first | exact HB.out | apply below_alloc | apply pw_below_drewN | apply below_drew1) | exact HB.out))) : w.heap.size ≤ gb216)); have n3_ := Aside0.mk ((by rw [hg]; exact (below_size (by repeat (first | (with_reducible first | exact HB.out | apply below_alloc | apply pw_below_drewN | apply below_drew1) | exact HB.out))) : w.heap.size ≤ gb216)); clear HB; have HB := n0_; have BK216 := n1_; have GW216 := n2_; have GE216 := n3_; clear n0_ n1_ n2_ n3_; clear hb hbox hg; have hcz4_0 : w3.cell? ⟨gb216, 0, none⟩ = some (.int .i64 a0_0) := (blk_cell BK216.out 0).trans rfl; have hcz4_1 : w3.cell? ⟨gb216, 1, none⟩ = some (.int .i64 a0_1) := (blk_cell BK216.out 1).trans rfl; have hfz4_0 := blk_frozen BK216.out 0; have hfz4_1 := blk_frozen BK216.out 1) | ((with_reducible refine gate_callee (f := 18) rfl ?_); refine goesL_ (some 5) rfl rfl Tryd.func18 (by kernel_rfl) rfl #[.int .i64 a0_0, .int .i64 1, .int .i64 3] rfl (by (try simp only [List.map_toArray, List.map_cons, List.map_nil]); first | done | rfl | (simp only [List.length_drop, List.length_take]; rfl)) ?_; (with_reducible refine (impl_in.calls a0_0 1 3 t217 _ A2.out).mono ?_); rintro e w' ⟨rfl, ⟨nd, rfl⟩⟩; refine ⟨_, rfl, ?_⟩))
  go_ret
  exact ⟨by first | rfl | (simp [IntKind.wrap_i64, wrap64]; done) | (simp [errW_none, errW_some] <;> rfl) | (simp [*, errW_none, errW_some] <;> rfl), by repeat (first | (with_reducible first | exact HB.out | apply below_alloc | apply pw_below_drewN | apply below_drew1 | refine below_set ?_ GE216.out) | exact HB.out)⟩


end Go.Proofs.YtkbcmbjoelkgoabDoor.Q
