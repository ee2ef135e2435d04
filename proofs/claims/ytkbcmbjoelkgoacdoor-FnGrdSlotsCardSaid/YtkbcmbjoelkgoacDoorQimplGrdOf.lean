-- Told by a program of this session (uprint.py, ulay.py).
import Derived.Test.YtkbcmbjoelkgoacDoorQ0
import Derived.Test.YtkbcmbjoelkgoacDoorReg
import Derived.Test.YtkbcmbjoelkgoacDoorQimplGrdCellmeets
import Derived.Test.YtkbcmbjoelkgoacDoorQspecGrdOf
import Derived.Test.YtkbcmbjoelkgoacDoorQimplCellOk
namespace Go.Proofs.YtkbcmbjoelkgoacDoor.Q
open Go.RowKit Go.Proofs.YtkbcmbjoelkgoacDoorW.PrintWords Go.Proofs.YtkbcmbjoelkgoacDoorW.PrintLast Go.Proofs.YtkbcmbjoelkgoacDoorW.PrintMore Go.Proofs.YtkbcmbjoelkgoacDoor.Reg Go.Proofs.YtkbcmbjoelkgoacDoor.Box
attribute [local go_sem] max2_int min2_int max_two min_two max_three min_three max_four min_four
set_option linter.unusedVariables false
set_option linter.unusedSimpArgs false

/-! ### impl_GrdOf: function 5 (by hand) -/
/-- The lesser and the greater of two, as Go's builtins tell them. -/
def pgMin (a b : Int) : Int := if b < a then b else a
def pgMax (a b : Int) : Int := if a < b then b else a
def ppEnds (hd ft : Int) (n : Nat) : List Int := [hd, wrap64 ((n : Int) - ft), (n : Int)]
/-- Where a cell comes to lie: the first column that is free. -/
def impl_GrdOf.fit (k : Nat) (ds : List S37) : Nat → S37 → Option S37
  | 0, _ => none
  | n + 1, t => (impl_ccells.f k ds t.f0 t.f1 t.f2 t.f3 t.f4).bind fun b => if b = true then (if 0 ≤ t.f1 ∧ t.f1 < 1000000 then impl_GrdOf.fit k ds n { t with f1 := t.f1 + 1 } else none) else some t
def impl_GrdOf.cs (k : Nat) (l0 : List S58) (hd ft : Int) (l3 : List S44) (gp : Int) (r : List S41) (i : Nat) : Nat → Nat → Int → List S37 → Option (Int × List S37)
  | 0, _, wd, ds => some (wd, ds)
  | m + 1, j, wd, ds => (impl_TblTable_part.f l0 hd ft l3 gp i).bind fun p => if 0 ≤ p ∧ p < 3 then (impl_GrdOf.fit k ds k ⟨i, 0, pgMin (rd_T41 r j).f2 (wrap64 ((ppEnds hd ft l3.length).getD p.toNat 0 - i)), (rd_T41 r j).f1, j⟩).bind fun t =>
    if ds.length < 3518437208883 then impl_GrdOf.cs k l0 hd ft l3 gp r i m (j + 1) (pgMax wd (wrap64 (t.f1 + t.f3))) (ds ++ [t]) else none else none
def impl_GrdOf.rs (k : Nat) (l0 : List S58) (hd ft : Int) (l3 : List S44) (gp : Int) : Nat → Nat → Int → List S37 → Option (Int × List S37)
  | 0, _, wd, ds => some (wd, ds)
  | n + 1, i, wd, ds => (impl_GrdOf.cs k l0 hd ft l3 gp (rd_T44 l3 i).f0 i (rd_T44 l3 i).f0.length 0 wd ds).bind fun a => impl_GrdOf.rs k l0 hd ft l3 gp n (i + 1) a.1 a.2
def impl_GrdOf.f (k : Nat) (l0_0 : List S58) (a0_1 : Int) (a0_2 : Int) (l0_3 : List S44) (a0_4 : Int) : Option (Int × Int × List S37) :=
  (impl_TblOk.f k l0_0 a0_1 a0_2 l0_3 a0_4).bind fun b => if b = true then (impl_GrdOf.rs k l0_0 a0_1 a0_2 l0_3 a0_4 l0_3.length 0 (pgMax (l0_0.length : Int) 1) []).bind fun a => some ((l0_3.length : Int), a.1, a.2) else some (0, 0, [])
theorem impl_GrdOf.mono_f (k : Nat) (ds : List S37) : ∀ n t, LeO (impl_GrdOf.fit k ds n t) (impl_GrdOf.fit (k + 1) ds (n + 1) t)
  | 0, _ => LeO.none _
  | n + 1, t => by
    unfold impl_GrdOf.fit
    exact LeO.bind (impl_ccells.mono _ _ _ _ _ _ _) fun _ => LeO.ite (LeO.ite (impl_GrdOf.mono_f k ds n _) (LeO.none _)) (LeO.refl _)
theorem impl_GrdOf.mono_c (k : Nat) (l0 : List S58) (hd ft : Int) (l3 : List S44) (gp : Int) (r : List S41) (i : Nat) : ∀ m j wd ds, LeO (impl_GrdOf.cs k l0 hd ft l3 gp r i m j wd ds) (impl_GrdOf.cs (k + 1) l0 hd ft l3 gp r i m j wd ds)
  | 0, _, _, _ => LeO.refl _
  | m + 1, j, wd, ds => by
    unfold impl_GrdOf.cs
    exact LeO.bind (LeO.refl _) fun _ => LeO.ite (LeO.bind (impl_GrdOf.mono_f _ _ _ _) fun _ => LeO.ite (impl_GrdOf.mono_c k l0 hd ft l3 gp r i m _ _ _) (LeO.none _)) (LeO.none _)
theorem impl_GrdOf.mono_r (k : Nat) (l0 : List S58) (hd ft : Int) (l3 : List S44) (gp : Int) : ∀ n i wd ds, LeO (impl_GrdOf.rs k l0 hd ft l3 gp n i wd ds) (impl_GrdOf.rs (k + 1) l0 hd ft l3 gp n i wd ds)
  | 0, _, _, _ => LeO.refl _
  | n + 1, i, wd, ds => by
    unfold impl_GrdOf.rs
    exact LeO.bind (impl_GrdOf.mono_c _ _ _ _ _ _ _ _ _ _ _ _) fun _ => impl_GrdOf.mono_r k l0 hd ft l3 gp n _ _ _
theorem impl_GrdOf.mono : ∀ a0 a1 a2 a3 a4 k, LeO (impl_GrdOf.f k a0 a1 a2 a3 a4) (impl_GrdOf.f (k + 1) a0 a1 a2 a3 a4) := fun _ _ _ _ _ k => by
  unfold impl_GrdOf.f
  exact LeO.bind (impl_TblOk.mono _ _ _ _ _ _) fun _ => LeO.ite (LeO.bind (impl_GrdOf.mono_r _ _ _ _ _ _ _ _ _ _) fun _ => LeO.refl _) (LeO.refl _)
def impl_GrdOf.T11 : Bool × List (List Nat × List Nat) := (true, [([], []), ([], []), ([1], [1]), ([], []), ([], []), ([3, 4], [3, 4]), ([5], [5]), ([6], [6]), ([], []), ([7, 8], [7, 8]), ([2, 9], [2, 9]), ([], []), ([11], [11]), ([], []), ([0, 10, 12, 13], [0, 10, 12, 13]), ([], []), ([15, 14, 5, 0, 1, 2, 3, 4, 5, 6, 7, 8, 9, 10, 11, 12, 13, 14, 15], [14, 15])])
def impl_GrdOf.B11 : List Nat := [0, 0, 2, 0, 0, 24, 56, 120, 0, 504, 1022, 0, 2048, 0, 16383, 0, 65535]
def impl_GrdOf.L11 : List (Nat × Tmp) := [(0, 50), (1, 51), (2, 52), (3, 53), (4, 54), (5, 55), (6, 56), (7, 57), (8, 58), (9, 59), (10, 60), (11, 61), (12, 62), (13, 63), (14, 64), (15, 9)]
def impl_GrdOf.O11 : List Nat := [0, 1, 2, 3, 4, 5, 6, 7, 8, 9, 10, 11, 12, 13, 14, 15, 16]
theorem impl_GrdOf.tab11 : rtab .any (opsOf Tryd.f5 11) = impl_GrdOf.T11 := by kernel_rfl
theorem impl_GrdOf.bits11 : waitsOk impl_GrdOf.T11.2 impl_GrdOf.B11 = true := by kernel_rfl
theorem impl_GrdOf.base11 : baseOk impl_GrdOf.T11.2 impl_GrdOf.O11 = true := by kernel_rfl
theorem impl_GrdOf.lof11 : (lof impl_GrdOf.T11.2.length impl_GrdOf.O11 (fun _ => false) == List.replicate impl_GrdOf.T11.2.length false && impl_GrdOf.O11.length == impl_GrdOf.T11.2.length) = true := by kernel_rfl
theorem impl_GrdOf.ents11 : chkL (opsOf Tryd.f5 11) impl_GrdOf.O11 impl_GrdOf.L11 = true := by kernel_rfl
theorem impl_GrdOf.last11 : lastOk impl_GrdOf.B11 impl_GrdOf.O11 16 = true := by kernel_rfl
def impl_GrdOf.F11 : Nat → Option (Nat → Value)
  | 15 => some (fun C => .pointer (some ⟨C, 0, none⟩))
  | _ => none
def impl_GrdOf.V11 (vt : Value) (xb D i j p : Nat) (f2 f1 e h : Int) : Nat → Value
  | 0 | 4 | 8 => .int .i64 i
  | 1 => .pointer (some ⟨xb, 2, none⟩)
  | 2 => .int .i64 f2
  | 3 => vt
  | 5 => .int .i64 p
  | 6 => .pointer (some ⟨D, p, none⟩)
  | 7 => .int .i64 e
  | 9 => .int .i64 (wrap64 (e - (i : Int)))
  | 10 => .int .i64 h
  | 11 => .pointer (some ⟨xb, 1, none⟩)
  | 12 => .int .i64 f1
  | 13 => .int .i64 j
  | 14 => .agg (outA i 0 h f1 j)
  | _ => undef
set_option maxHeartbeats 4000000 in
set_option maxRecDepth 100000 in
theorem impl_GrdOf.calls (k : Nat) (A0_0 : Option Addr) (c0_0 : Nat) (l0_0 : List (S58)) (a0_1 : Int) (a0_2 : Int) (A0_3 : Option Addr) (c0_3 : Nat) (l0_3 : List (S44)) (a0_4 : Int) (r1 : Int) (r2 : Int) (r3 : List (S37)) (w : World) (hr0_0 : Kd.C k58 w A0_0 l0_0.length l0_0) (hc0_0 : l0_0.length ≤ c0_0) (hr0_3 : Kd.C k44 w A0_3 l0_3.length l0_3) (hc0_3 : l0_3.length ≤ c0_3) (hM : Txt.MLen w) (h : impl_GrdOf.f k l0_0 a0_1 a0_2 l0_3 a0_4 = some (r1, r2, r3)) :
    Calls Tryd.prog 5 #[.agg #[.slice A0_0 l0_0.length c0_0, .int .i64 a0_1, .int .i64 a0_2, .slice A0_3 l0_3.length c0_3, .int .i64 a0_4]] w fun e w' => ∃ v2_ : Value, e = .returned (.agg #[.int .i64 r1, .int .i64 r2, v2_]) ∧ Kd.R k37 37 w' w.heap.size (fun _ => True) v2_ r3 ∧ Below w.heap.size w w' := by
  have HM := Aside0.mk hM
  have HR0 := Aside0.mk hr0_0
  have HC0 := Aside0.mk hc0_0
  have HR3 := Aside0.mk hr0_3
  have HC3 := Aside0.mk hc0_3
  have HM3 := Kd.C_max hr0_3
  have HM0 := Kd.C_max hr0_0
  clear hM hr0_0 hc0_0 hr0_3 hc0_3
  unfold impl_GrdOf.f at h
  obtain ⟨b, h1, h⟩ := Option.bind_eq_some_iff.1 h
  have AB := Aside0.mk h1
  clear h1
  have HH := Aside0.mk h
  clear h
  go_enter Tryd.func5, Tryd.ntmps5
  go_upto_region 1 with (fail)
  refine wp_letter (fun W0 => L3 w (l3A (.slice A0_0 l0_0.length c0_0) (.slice A0_3 l0_3.length c0_3) a0_1 a0_2 a0_4) W0) ⟨below_alloc (below_alloc (Below.refl _ _) _) _, blk_alloc (blk_new w _) _, by have := blk_new2 w (.cells (l3A (.slice A0_0 l0_0.length c0_0) (.slice A0_3 l0_3.length c0_3) a0_1 a0_2 a0_4) 26) (.cells #[.int .i64 0, .int .i64 0, .slice none 0 0] 30); exact this⟩ ?_
  rintro W1 hQ
  have HQ := Aside0.mk hQ
  clear hQ
  have h := HH.out
  clear HH
  cases b
  · rw [if_neg (by decide)] at h
    simp only [Option.some.injEq, Prod.mk.injEq] at h
    obtain ⟨rfl, rfl, rfl⟩ := h
    go_wp2_with (first | (refine wpList_load_row rfl 26 _ rfl w.heap.size rfl 26 (l3A (.slice A0_0 l0_0.length c0_0) (.slice A0_3 l0_3.length c0_3) a0_1 a0_2 a0_4) (0, 0) _ HQ.out.pb Tryd.underlying26 rfl (by kernel_rfl) ?_) | (go_at_call 15; (with_reducible refine (impl_TblOk.calls k A0_0 c0_0 l0_0 a0_1 a0_2 A0_3 c0_3 l0_3 a0_4 false _ (Kd.C_below HR0.out HQ.out.bl) HC0.out (Kd.C_below HR3.out HQ.out.bl) HC3.out (Txt.MLen_below HM.out HQ.out.bl) AB.out).mono ?_); rintro e_ W2 ⟨rfl, hb⟩; replace HQ := Aside0.mk (HQ.out.below hb); clear hb) | (refine wpList_put 30 _ _ rfl rfl (w.heap.size + 1) 0 rfl (.agg (gridA 0 0 (.slice none 0 0))) rfl 30 #[.int .i64 0, .int .i64 0, .slice none 0 0] (gridA 0 0 (.slice none 0 0)) HQ.out.zb (by kernel_rfl) rfl rfl rfl (fun W9 hp => ?_); have HFB := Aside0.mk hp.blk; have HF := Aside0.mk (pw_below_grown HQ.out.bl _ (Nat.le_trans (Nat.le_add_right _ 2) HQ.out.size) hp.grown (fun k hk => by injection hk with hk; omega)); clear hp))
    exact bodyPost_ret (results_cell_row rfl _ _ (w.heap.size + 1) 30 (gridA 0 0 (.slice none 0 0)) (0, 0) _ rfl HFB.out Tryd.underlying30 rfl (by kernel_rfl)) rfl ⟨_, rfl, Kd.R_nil _ _ _ _ _, HF.out⟩
  rw [if_pos rfl] at h
  obtain ⟨⟨wd2, ds2⟩, h1, h⟩ := Option.bind_eq_some_iff.1 h
  have AL := Aside0.mk h1
  clear h1
  simp only [Option.some.injEq, Prod.mk.injEq] at h
  obtain ⟨rfl, rfl, rfl⟩ := h
  go_upto_region 3 with (first | (refine wpList_load_row rfl 26 _ rfl w.heap.size rfl 26 (l3A (.slice A0_0 l0_0.length c0_0) (.slice A0_3 l0_3.length c0_3) a0_1 a0_2 a0_4) (0, 0) _ HQ.out.pb Tryd.underlying26 rfl (by kernel_rfl) ?_) | (go_at_call 15; (with_reducible refine (impl_TblOk.calls k A0_0 c0_0 l0_0 a0_1 a0_2 A0_3 c0_3 l0_3 a0_4 true _ (Kd.C_below HR0.out HQ.out.bl) HC0.out (Kd.C_below HR3.out HQ.out.bl) HC3.out (Txt.MLen_below HM.out HQ.out.bl) AB.out).mono ?_); rintro e_ W2 ⟨rfl, hb⟩; replace HQ := Aside0.mk (HQ.out.below hb); clear hb))
  have q0 : W2.cell? ⟨w.heap.size, 0, none⟩ = some (.slice A0_0 l0_0.length c0_0) := (blk_cell HQ.out.pb 0).trans rfl
  have q1 : W2.cell? ⟨w.heap.size, 1, none⟩ = some (.int .i64 a0_1) := (blk_cell HQ.out.pb 1).trans rfl
  have q2 : W2.cell? ⟨w.heap.size, 2, none⟩ = some (.int .i64 a0_2) := (blk_cell HQ.out.pb 2).trans rfl
  have q3 : W2.cell? ⟨w.heap.size, 3, none⟩ = some (.slice A0_3 l0_3.length c0_3) := (blk_cell HQ.out.pb 3).trans rfl
  obtain ⟨t, ht⟩ : ∃ t, pgMax (l0_0.length : Int) 1 = t := ⟨_, rfl⟩
  rw [ht] at AL
  go_cut [3] (fun s3 wx => s3 = .pointer (some ⟨W2.heap.size, 0, none⟩) ∧ Aside0 (L3 w (l3A (.slice A0_0 l0_0.length c0_0) (.slice A0_3 l0_3.length c0_3) a0_1 a0_2 a0_4) wx ∧ wx.heap[W2.heap.size]? = some (.cells (gridA l0_3.length t (.slice none 0 0)) 30 (0, 0))))
  case first =>
    unfold pgMax at ht
    by_cases hm : (l0_0.length : Int) < 1
    · rw [if_pos hm] at ht
      subst ht
      go_wp2
      go_meet
      exact ⟨rfl, ⟨HQ.out.alloc _, blk_new W2 _⟩⟩
    · rw [if_neg hm] at ht
      subst ht
      go_wp2
      go_meet
      exact ⟨rfl, ⟨HQ.out.alloc _, blk_new W2 _⟩⟩
  case rest =>
    obtain ⟨rfl, hcw⟩ := hcut
    clear q0 q1 q2 q3
    have HCN := Aside0.mk (show w.heap.size + 2 ≤ W2.heap.size from HQ.out.size)
    obtain ⟨C, hC⟩ : ∃ C, W2.heap.size = C := ⟨_, rfl⟩
    rw [hC] at hcw HCN ⊢
    clear hC HQ
    have HQ := Aside0.mk hcw.out.1
    have HG := Aside0.mk hcw.out.2
    clear hcw
    have q1 : wc.cell? ⟨w.heap.size, 1, none⟩ = some (.int .i64 a0_1) := (blk_cell HQ.out.pb 1).trans rfl
    have q2 : wc.cell? ⟨w.heap.size, 2, none⟩ = some (.int .i64 a0_2) := (blk_cell HQ.out.pb 2).trans rfl
    have q3 : wc.cell? ⟨w.heap.size, 3, none⟩ = some (.slice A0_3 l0_3.length c0_3) := (blk_cell HQ.out.pb 3).trans rfl
    go_upto_region 5 with (fail)
    refine wp_letter (fun W0 => L3 w (l3A (.slice A0_0 l0_0.length c0_0) (.slice A0_3 l0_3.length c0_3) a0_1 a0_2 a0_4) W0 ∧ W0.heap[C]? = some (.cells (gridA l0_3.length t (.slice none 0 0)) 30 (0, 0)) ∧ W0.heap[wc.heap.size]? = some (.cells #[.int .i64 a0_1, .int .i64 (wrap64 ((l0_3.length : Int) - a0_2)), .int .i64 l0_3.length] 51 (0, 0)) ∧ C < wc.heap.size) ⟨HQ.out.alloc _, blk_alloc HG.out _, blk_new wc _, blk_lt HG.out⟩ ?_
    rintro W3 ⟨hQ, hG, hE, hCD⟩
    generalize wc.heap.size = D at hE hCD ⊢
    clear q1 q2 q3 HQ HG
    have HQ := Aside0.mk hQ
    have HG := Aside0.mk hG
    have HE := Aside0.mk hE
    have HCD := Aside0.mk hCD
    clear hQ hG hE hCD
    have q3 : W3.cell? ⟨w.heap.size, 3, none⟩ = some (.slice A0_3 l0_3.length c0_3) := (blk_cell HQ.out.pb 3).trans rfl
    go_wp2
    clear q3
    go_loopg [37] l0_3.length (fun gg s37 wr => ∃ (n i : Nat) (wd : Int) (ds : List S37) (v : Value), n ≤ gg ∧ i + n = l0_3.length ∧ s37 = .int .i64 i ∧ Aside0 (impl_GrdOf.rs k l0_0 a0_1 a0_2 l0_3 a0_4 n i wd ds = some (wd2, ds2)) ∧ Aside0 (L3 w (l3A (.slice A0_0 l0_0.length c0_0) (.slice A0_3 l0_3.length c0_3) a0_1 a0_2 a0_4) wr) ∧ Aside0 (wr.heap[C]? = some (.cells (gridA l0_3.length wd v) 30 (0, 0))) ∧ Aside0 (wr.heap[D]? = some (.cells #[.int .i64 a0_1, .int .i64 (wrap64 ((l0_3.length : Int) - a0_2)), .int .i64 l0_3.length] 51 (0, 0))) ∧ Aside0 (Kd.R k37 37 wr (w.heap.size + 2) (fun _ => True) v ds))
    case atStart => exact ⟨l0_3.length, 0, t, [], .slice none 0 0, Nat.le_refl _, by omega, rfl, AL, HQ, HG, HE, ⟨Kd.R_nil _ _ _ _ _⟩⟩
    case round =>
      obtain ⟨n, i, wd, ds, v, hg, hin, rfl, HL, HQ1, HG1, HE1, HR1⟩ := hrel
      clear HQ HG HE AL
      cases n with
      | zero =>
        have hl := HL.out
        unfold impl_GrdOf.rs at hl
        injection Option.some.inj hl with e1 e2
        subst e1 e2
        have hlt : ¬ (i : Int) < (l0_3.length : Int) := by omega
        clear hl HL
        obtain ⟨X1, n1, c1, rfl⟩ : ∃ X1 n1 c1, v = .slice X1 n1 c1 := (Kd.R_slice HR1.out).imp fun _ h => ⟨_, h⟩
        go_wp2_with (first | (refine wpList_load_row rfl 30 _ rfl C rfl 30 (gridA l0_3.length wd (.slice X1 n1 c1)) (0, 0) _ HG1.out Tryd.underlying30 rfl (by kernel_rfl) ?_) | (refine wpList_put 30 _ _ rfl rfl (w.heap.size + 1) 0 rfl (.agg (gridA l0_3.length wd (.slice X1 n1 c1))) rfl 30 #[.int .i64 0, .int .i64 0, .slice none 0 0] (gridA l0_3.length wd (.slice X1 n1 c1)) HQ1.out.zb (by kernel_rfl) rfl rfl rfl (fun W9 hp => ?_); have HFB := Aside0.mk hp.blk; have HF := Aside0.mk (pw_below_grown HQ1.out.bl _ (Nat.le_trans (Nat.le_add_right _ 2) HQ1.out.size) hp.grown (fun k hk => by injection hk with hk; omega)); have HFR := Aside0.mk (R_put HR1.out HQ1.out.zb hp (by decide)); clear hp))
        exact bodyPost_ret (results_cell_row rfl _ _ (w.heap.size + 1) 30 (gridA l0_3.length wd (.slice X1 n1 c1)) (0, 0) _ rfl HFB.out Tryd.underlying30 rfl (by kernel_rfl)) rfl ⟨_, rfl, Kd.R_mono (Kd.R_lower HFR.out (Nat.le_add_right _ 2)) (fun _ _ => trivial), HF.out⟩
      | succ n =>
        have hl := HL.out
        unfold impl_GrdOf.rs at hl
        rw [Option.bind_eq_some_iff] at hl
        obtain ⟨⟨wd1, ds1⟩, h1, hl⟩ := hl
        have AC := Aside0.mk h1
        have HL2 := Aside0.mk hl
        have hlt : (i : Int) < (l0_3.length : Int) := by omega
        clear hl h1 HL
        obtain ⟨ad, A1, c1, hA, hx0, hx1, hl1, hC1⟩ := at_T44 HR3.out i (by omega) hlt
        replace hx0 := (HQ1.out.bl.cell (World.block_lt_of_cell? w _ hx0)).trans hx0
        replace hx1 := (HQ1.out.bl.cell (World.block_lt_of_cell? w _ hx1)).trans hx1
        have hmj := Kd.C_max hC1
        simp only [Int.toNat_natCast] at hx0 hx1
        subst hA
        obtain ⟨rw_, hrw⟩ : ∃ rw_, rd_T44 l0_3 i = rw_ := ⟨_, rfl⟩
        rw [hrw] at hx0 hx1 hl1 hC1 hmj AC
        clear hrw
        have HCW := Aside0.mk hC1
        clear hC1
        go_upto_region 8 with (fail)
        refine wp_letter (fun W0 => L3 w (l3A (.slice A0_0 l0_0.length c0_0) (.slice (some ad) l0_3.length c0_3) a0_1 a0_2 a0_4) W0 ∧ W0.heap[C]? = some (.cells (gridA l0_3.length wd v) 30 (0, 0)) ∧ W0.heap[D]? = some (.cells #[.int .i64 a0_1, .int .i64 (wrap64 ((l0_3.length : Int) - a0_2)), .int .i64 l0_3.length] 51 (0, 0)) ∧ Kd.R k37 37 W0 (w.heap.size + 2) (fun _ => True) v ds ∧ W0.heap[wr.heap.size]? = some (.cells #[.slice A1 rw_.f0.length c1, .bool rw_.f1] 44 (0, 0))) ⟨HQ1.out.alloc _, blk_alloc HG1.out _, blk_alloc HE1.out _, Kd.R_alloc HR1.out _, blk_new wr _⟩ ?_
        rintro W4 ⟨hQ, hG, hE, hR, hX⟩
        clear hx0 hx1 HQ1 HG1 HE1 HR1
        have HQ := Aside0.mk hQ
        have HG := Aside0.mk hG
        have HE := Aside0.mk hE
        have HR := Aside0.mk hR
        have qx : W4.cell? ⟨wr.heap.size, 0, none⟩ = some (.slice A1 rw_.f0.length c1) := (blk_cell hX 0).trans rfl
        clear hQ hG hE hR hX
        go_wp2
        clear qx
        go_loopg [45] rw_.f0.length (fun gg s45 wr => ∃ (m j : Nat) (wd : Int) (ds : List S37) (v : Value), m ≤ gg ∧ j + m = rw_.f0.length ∧ s45 = .int .i64 j ∧ Aside0 (impl_GrdOf.cs k l0_0 a0_1 a0_2 l0_3 a0_4 rw_.f0 i m j wd ds = some (wd1, ds1)) ∧ Aside0 (L3 w (l3A (.slice A0_0 l0_0.length c0_0) (.slice (some ad) l0_3.length c0_3) a0_1 a0_2 a0_4) wr) ∧ Aside0 (wr.heap[C]? = some (.cells (gridA l0_3.length wd v) 30 (0, 0))) ∧ Aside0 (wr.heap[D]? = some (.cells #[.int .i64 a0_1, .int .i64 (wrap64 ((l0_3.length : Int) - a0_2)), .int .i64 l0_3.length] 51 (0, 0))) ∧ Aside0 (Kd.R k37 37 wr (w.heap.size + 2) (fun _ => True) v ds))
        case atStart => exact ⟨_, 0, wd, ds, v, Nat.le_refl _, by omega, rfl, AC, HQ, HG, HE, HR⟩
        case round =>
          clear HQ HG HE HR AC
          obtain ⟨m, j, wd, ds, v, hg2, hjm, rfl, HL, HQ, HG, HE, HR⟩ := hrel
          cases m with
          | zero =>
            have hl := HL.out
            unfold impl_GrdOf.cs at hl
            injection Option.some.inj hl with e1 e2
            subst e1 e2
            have hltj : ¬ (j : Int) < (rw_.f0.length : Int) := by omega
            clear hl HL
            go_wp2
            go_roundg n
            case measure => omega
            case rel => exact ⟨n, i + 1, wd, ds, v, Nat.le_refl _, by omega, by go_num, HL2, HQ, HG, HE, HR⟩
          | succ m =>
            have hl := HL.out
            unfold impl_GrdOf.cs at hl
            rw [Option.bind_eq_some_iff] at hl
            obtain ⟨p0, h1, hl⟩ := hl
            have AE := Aside0.mk h1
            clear h1
            by_cases hp3 : 0 ≤ p0 ∧ p0 < 3
            rotate_left
            · rw [if_neg hp3] at hl; cases hl
            rw [if_pos hp3] at hl
            obtain ⟨p, rfl⟩ := Int.eq_ofNat_of_zero_le hp3.1
            rw [Option.bind_eq_some_iff] at hl
            obtain ⟨t2, h1, hl⟩ := hl
            have AT := Aside0.mk h1
            clear h1
            by_cases hds : ds.length < 3518437208883
            rotate_left
            · rw [if_neg hds] at hl; cases hl
            rw [if_pos hds] at hl
            have HDS := Aside0.mk hds
            have HL4 := Aside0.mk hl
            have hp3n : p < 3 := by omega
            have hltj : (j : Int) < (rw_.f0.length : Int) := by omega
            clear hl HL hds hp3
            obtain ⟨ad2, hA, y0, y1, y2, y3, y4, y5, y6, y7, y8, y9, y10⟩ := at_T41 (Kd.C_below HCW.out HQ.out.bl) j (by omega) hltj
            simp only [Int.toNat_natCast] at y0 y1 y2 y3 y4 y5 y6 y7 y8 y9 y10 AT
            subst hA
            obtain ⟨x, hx⟩ : ∃ x, rd_T41 rw_.f0 j = x := ⟨_, rfl⟩
            rw [hx] at y0 y1 y2 y3 y4 y5 y6 y7 y8 y9 y10
            rw [hx] at AT
            clear hx
            obtain ⟨ev, hev⟩ : ∃ ev, (ppEnds a0_1 a0_2 l0_3.length).getD p 0 = ev := ⟨_, rfl⟩
            have hec : (#[.int .i64 a0_1, .int .i64 (wrap64 ((l0_3.length : Int) - a0_2)), .int .i64 l0_3.length] : Array Value)[p]? = some (.int .i64 ev) := by
              rw [← hev]
              match p, hp3n with
              | 0, _ => rfl
              | 1, _ => rfl
              | 2, _ => rfl
            have hes : p < (#[.int .i64 a0_1, .int .i64 (wrap64 ((l0_3.length : Int) - a0_2)), .int .i64 l0_3.length] : Array Value).size := hp3n
            obtain ⟨h2, hh2⟩ : ∃ h2, pgMin x.f2 (wrap64 (ev - (i : Int))) = h2 := ⟨_, rfl⟩
            rw [hev, hh2] at AT
            clear hev
            go_upto_region 11 with (fail)
            refine wp_letter (fun W0 => L3 w (l3A (.slice A0_0 l0_0.length c0_0) (.slice (some ad) l0_3.length c0_3) a0_1 a0_2 a0_4) W0 ∧ W0.heap[C]? = some (.cells (gridA l0_3.length wd v) 30 (0, 0)) ∧ W0.heap[D]? = some (.cells #[.int .i64 a0_1, .int .i64 (wrap64 ((l0_3.length : Int) - a0_2)), .int .i64 l0_3.length] 51 (0, 0)) ∧ Kd.R k37 37 W0 (w.heap.size + 2) (fun k => k < W0.heap.size) v ds ∧ W0.heap[wr.heap.size]? = some (.cells #[.string x.f0, .int .i64 x.f1, .int .i64 x.f2, .int .i64 x.f3.f0, .int .i64 x.f3.f1, .int .i64 x.f4.f0, .int .i64 x.f4.f1, .int .i64 x.f5.f0, .int .i64 x.f5.f1, .int .i64 x.f6.f0, .int .i64 x.f6.f1] 41 (0, 0))) ⟨HQ.out.alloc _, blk_alloc HG.out _, blk_alloc HE.out _, Kd.R_mono (R_upto (Kd.R_alloc HR.out _)) (fun _ hk => hk.2), blk_new wr _⟩ ?_
            rintro W5 hQ
            generalize wr.heap.size = xb at hQ ⊢
            clear y0 y1 y2 y3 y4 y5 y6 y7 y8 y9 y10 HQ HG HE HR
            have HCM0 := blk_lt hQ.2.1
            have HDM0 := blk_lt hQ.2.2.1
            have HWM0 := Nat.le_refl W5.heap.size
            have HN2 := hQ.1.size
            obtain ⟨M5, hM5⟩ : ∃ M5, W5.heap.size = M5 := ⟨_, rfl⟩
            rw [hM5] at HCM0 HDM0 HN2 hQ
            conv at HWM0 => lhs; rw [hM5]
            have HCM := Aside0.mk HCM0
            have HDM := Aside0.mk HDM0
            have HNM := Aside0.mk HN2
            clear hM5 HCM0 HDM0 HN2
            have hk0 := fun W => KeepBut.refl W w.heap.size none
            refine region_envL (T := impl_GrdOf.T11) (B := impl_GrdOf.B11) impl_GrdOf.O11 impl_GrdOf.L11 16 (PhiB impl_GrdOf.F11 (fun _ => .cells (outA 0 0 0 0 0) 37 (0, 0)) (impl_GrdOf.V11 (.agg (l3A (.slice A0_0 l0_0.length c0_0) (.slice (some ad) l0_3.length c0_3) a0_1 a0_2 a0_4)) xb D i j p x.f2 x.f1 ev h2) M5)
              (fun _ W => L3 w (l3A (.slice A0_0 l0_0.length c0_0) (.slice (some ad) l0_3.length c0_3) a0_1 a0_2 a0_4) W ∧ W.heap[C]? = some (.cells (gridA l0_3.length wd v) 30 (0, 0)) ∧ W.heap[D]? = some (.cells #[.int .i64 a0_1, .int .i64 (wrap64 ((l0_3.length : Int) - a0_2)), .int .i64 l0_3.length] 51 (0, 0)) ∧ Kd.R k37 37 W (w.heap.size + 2) (fun k => k < M5) v ds ∧ W.heap[xb]? = some (.cells #[.string x.f0, .int .i64 x.f1, .int .i64 x.f2, .int .i64 x.f3.f0, .int .i64 x.f3.f1, .int .i64 x.f4.f0, .int .i64 x.f4.f1, .int .i64 x.f5.f0, .int .i64 x.f5.f1, .int .i64 x.f6.f0, .int .i64 x.f6.f1] 41 (0, 0)) ∧ M5 ≤ W.heap.size) (fun W W' => KeepBut W W' w.heap.size none)
              (fun e W => L3 w (l3A (.slice A0_0 l0_0.length c0_0) (.slice (some ad) l0_3.length c0_3) a0_1 a0_2 a0_4) W ∧ W.heap[C]? = some (.cells (gridA l0_3.length wd v) 30 (0, 0)) ∧ W.heap[D]? = some (.cells #[.int .i64 a0_1, .int .i64 (wrap64 ((l0_3.length : Int) - a0_2)), .int .i64 l0_3.length] 51 (0, 0)) ∧ Kd.R k37 37 W (w.heap.size + 2) (fun k => k < M5) v ds ∧ ∃ C9, e 15 = .pointer (some ⟨C9, 0, none⟩) ∧ M5 ≤ C9 ∧ W.heap[C9]? = some (.cells (outA i 0 h2 x.f1 j) 37 (0, 0)))
              rfl impl_GrdOf.tab11 impl_GrdOf.bits11 impl_GrdOf.base11 impl_GrdOf.lof11 impl_GrdOf.ents11 impl_GrdOf.last11 (PhiB.keep (by have := HNM.out; omega)) ⟨hQ.1.drew, hQ.2.1, hQ.2.2.1, Kd.R_drew hQ.2.2.2.1, hQ.2.2.2.2, HWM0⟩ ?_ ?_ ?_
            · skip
              refine alln_cons (EStep.pure hk0 fun b E a' W ha hG hP => ?_) ?_
              · have s5 : a'.tmps[5]? = some (.int .i64 i) := (slot_off ha rfl).trans rfl
                exact ⟨_, .int .i64 i, rfl, rfl, by clear ha hG hP; go_simp; try first | rfl | exact i64_w _, rfl, hG⟩
              refine alln_cons (EStep.pure hk0 fun b E a' W ha hG hP => ?_) ?_
              · have s8 : a'.tmps[8]? = some (.pointer (some ⟨xb, 0, none⟩)) := (slot_off ha rfl).trans rfl
                exact ⟨_, .pointer (some ⟨xb, 2, none⟩), rfl, rfl, by clear ha hG hP; go_simp; try first | rfl | exact i64_w _, rfl, hG⟩
              refine alln_cons (EStep.pure hk0 fun b E a' W ha hG hP => ?_) ?_
              · have s51 : a'.tmps[51]? = some (.pointer (some ⟨xb, 2, none⟩)) := slotv ha (hP 1 rfl).1 rfl (hP 1 rfl).2
                have hc : W.cell? ⟨xb, 2, none⟩ = some (.int .i64 x.f2) := (blk_cell hG.2.2.2.2.1 2).trans rfl
                exact ⟨_, .int .i64 x.f2, rfl, rfl, by clear ha hG hP; go_simp, rfl, hG⟩
              refine alln_cons (EStep.pure hk0 fun b E a' W ha hG hP => ?_) ?_
              · have s1 : a'.tmps[1]? = some (.pointer (some ⟨w.heap.size, 0, none⟩)) := (slot_off ha rfl).trans rfl
                have hc0 : W.cell? ⟨w.heap.size, 0, none⟩ = some (.slice A0_0 l0_0.length c0_0) := (blk_cell hG.1.pb 0).trans rfl
                have hc1 : W.cell? ⟨w.heap.size, 1, none⟩ = some (.int .i64 a0_1) := (blk_cell hG.1.pb 1).trans rfl
                have hc2 : W.cell? ⟨w.heap.size, 2, none⟩ = some (.int .i64 a0_2) := (blk_cell hG.1.pb 2).trans rfl
                have hc3 : W.cell? ⟨w.heap.size, 3, none⟩ = some (.slice (some ad) l0_3.length c0_3) := (blk_cell hG.1.pb 3).trans rfl
                have hc4 : W.cell? ⟨w.heap.size, 4, none⟩ = some (.int .i64 a0_4) := (blk_cell hG.1.pb 4).trans rfl
                exact ⟨_, .agg (l3A (.slice A0_0 l0_0.length c0_0) (.slice (some ad) l0_3.length c0_3) a0_1 a0_2 a0_4), rfl, rfl, by clear ha hG hP; go_simp; try rfl, rfl, hG⟩
              refine alln_cons (EStep.pure hk0 fun b E a' W ha hG hP => ?_) ?_
              · have s5 : a'.tmps[5]? = some (.int .i64 i) := (slot_off ha rfl).trans rfl
                exact ⟨_, .int .i64 i, rfl, rfl, by clear ha hG hP; go_simp; try first | rfl | exact i64_w _, rfl, hG⟩
              refine alln_cons (EStep.call Tryd.func16 (by kernel_rfl) rfl ⟨_, rfl, rfl, rfl⟩ fun b E a' W ha hG hP hoff hb => ⟨#[.agg (l3A (.slice A0_0 l0_0.length c0_0) (.slice (some ad) l0_3.length c0_3) a0_1 a0_2 a0_4), .int .i64 i], ?_, ?_⟩) ?_
              · have s53 : a'.tmps[53]? = some (.agg (l3A (.slice A0_0 l0_0.length c0_0) (.slice (some ad) l0_3.length c0_3) a0_1 a0_2 a0_4)) := slotv ha (hP 3 rfl).1 rfl (hP 3 rfl).2
                have s54 : a'.tmps[54]? = some (.int .i64 i) := slotv ha (hP 4 rfl).1 rfl (hP 4 rfl).2
                clear ha hG hP hoff hb
                simp [Act.eval, Array.getD_eq_getD_getElem?, s53, s54]
              · refine (impl_TblTable_part.calls A0_0 c0_0 l0_0 a0_1 a0_2 (some ad) c0_3 l0_3 a0_4 i p W (Kd.C_below HR0.out hG.1.bl) HC0.out (Kd.C_below HR3.out hG.1.bl) HC3.out AE.out).mono ?_
                rintro _ W2 ⟨rfl, hd⟩
                exact ⟨_, rfl, rfl, KeepBut.of_below hd _ _, hG.1.below hd, (hd.block _ (blk_lt hG.2.1)).trans hG.2.1, (hd.block _ (blk_lt hG.2.2.1)).trans hG.2.2.1, Kd.R_below hG.2.2.2.1 hd, (hd.block _ (blk_lt hG.2.2.2.2.1)).trans hG.2.2.2.2.1, Nat.le_trans hG.2.2.2.2.2 hd.size⟩
              refine alln_cons (EStep.pure hk0 fun b E a' W ha hG hP => ?_) ?_
              · have s4 : a'.tmps[4]? = some (.pointer (some ⟨D, 0, none⟩)) := (slot_off ha rfl).trans rfl
                have s55 : a'.tmps[55]? = some (.int .i64 p) := slotv ha (hP 5 rfl).1 rfl (hP 5 rfl).2
                have hp3i : (p : Int) < 3 := by omega
                exact ⟨_, .pointer (some ⟨D, p, none⟩), rfl, rfl, by clear ha hG hP; go_simp; try rfl, rfl, hG⟩
              refine alln_cons (EStep.pure hk0 fun b E a' W ha hG hP => ?_) ?_
              · have s56 : a'.tmps[56]? = some (.pointer (some ⟨D, p, none⟩)) := slotv ha (hP 6 rfl).1 rfl (hP 6 rfl).2
                have hc : W.cell? ⟨D, p, none⟩ = some (.int .i64 ev) := (blk_cell hG.2.2.1 p).trans hec
                exact ⟨_, .int .i64 ev, rfl, rfl, by clear ha hG hP; go_simp, rfl, hG⟩
              refine alln_cons (EStep.pure hk0 fun b E a' W ha hG hP => ?_) ?_
              · have s5 : a'.tmps[5]? = some (.int .i64 i) := (slot_off ha rfl).trans rfl
                exact ⟨_, .int .i64 i, rfl, rfl, by clear ha hG hP; go_simp; try first | rfl | exact i64_w _, rfl, hG⟩
              refine alln_cons (EStep.pure hk0 fun b E a' W ha hG hP => ?_) ?_
              · have s57 : a'.tmps[57]? = some (.int .i64 ev) := slotv ha (hP 7 rfl).1 rfl (hP 7 rfl).2
                have s58 : a'.tmps[58]? = some (.int .i64 i) := slotv ha (hP 8 rfl).1 rfl (hP 8 rfl).2
                exact ⟨_, .int .i64 (wrap64 (ev - (i : Int))), rfl, rfl, by clear ha hG hP; go_simp; try first | rfl | exact i64_w _, rfl, hG⟩
              refine alln_cons (EStep.pure hk0 fun b E a' W ha hG hP => ?_) ?_
              · have s52 : a'.tmps[52]? = some (.int .i64 x.f2) := slotv ha (hP 2 rfl).1 rfl (hP 2 rfl).2
                have s59 : a'.tmps[59]? = some (.int .i64 (wrap64 (ev - (i : Int)))) := slotv ha (hP 9 rfl).1 rfl (hP 9 rfl).2
                refine ⟨_, .int .i64 h2, rfl, rfl, ?_, rfl, hG⟩
                rw [← hh2]
                clear ha hG hP hh2
                unfold pgMin
                by_cases hm : wrap64 (ev - (i : Int)) < x.f2
                · rw [if_pos hm]
                  go_simp
                · rw [if_neg hm]
                  go_simp
              refine alln_cons (EStep.pure hk0 fun b E a' W ha hG hP => ?_) ?_
              · have s8 : a'.tmps[8]? = some (.pointer (some ⟨xb, 0, none⟩)) := (slot_off ha rfl).trans rfl
                exact ⟨_, .pointer (some ⟨xb, 1, none⟩), rfl, rfl, by clear ha hG hP; go_simp; try first | rfl | exact i64_w _, rfl, hG⟩
              refine alln_cons (EStep.pure hk0 fun b E a' W ha hG hP => ?_) ?_
              · have s61 : a'.tmps[61]? = some (.pointer (some ⟨xb, 1, none⟩)) := slotv ha (hP 11 rfl).1 rfl (hP 11 rfl).2
                have hc : W.cell? ⟨xb, 1, none⟩ = some (.int .i64 x.f1) := (blk_cell hG.2.2.2.2.1 1).trans rfl
                exact ⟨_, .int .i64 x.f1, rfl, rfl, by clear ha hG hP; go_simp, rfl, hG⟩
              refine alln_cons (EStep.pure hk0 fun b E a' W ha hG hP => ?_) ?_
              · have s7 : a'.tmps[7]? = some (.int .i64 j) := (slot_off ha rfl).trans rfl
                exact ⟨_, .int .i64 j, rfl, rfl, by clear ha hG hP; go_simp; try first | rfl | exact i64_w _, rfl, hG⟩
              refine alln_cons (EStep.pure hk0 fun b E a' W ha hG hP => ?_) ?_
              · have s50 : a'.tmps[50]? = some (.int .i64 i) := slotv ha (hP 0 rfl).1 rfl (hP 0 rfl).2
                have s60 : a'.tmps[60]? = some (.int .i64 h2) := slotv ha (hP 10 rfl).1 rfl (hP 10 rfl).2
                have s62 : a'.tmps[62]? = some (.int .i64 x.f1) := slotv ha (hP 12 rfl).1 rfl (hP 12 rfl).2
                have s63 : a'.tmps[63]? = some (.int .i64 j) := slotv ha (hP 13 rfl).1 rfl (hP 13 rfl).2
                exact ⟨_, .agg (outA i 0 h2 x.f1 j), rfl, rfl, by clear ha hG hP; go_simp; try first | rfl | exact i64_w _, rfl, hG⟩
              refine alln_cons (EStep.step fun b E a' W ha hG hP hoff hb => ?_) alln_last
              exact ⟨_, .pointer (some ⟨W.heap.size, 0, none⟩), W.alloc (.cells (outA 0 0 0 0 0) 37), rfl, rfl, by clear ha hP hoff hb hG; go_simp; try rfl, ⟨_, rfl, hG.2.2.2.2.2, blk_new _ _⟩, keep_alloc (hk0 W) _, hG.1.alloc _, blk_alloc hG.2.1 _, blk_alloc hG.2.2.1 _, Kd.R_alloc hG.2.2.2.1 _, blk_alloc hG.2.2.2.2.1 _, by have := hG.2.2.2.2.2; simp; omega⟩
            · intro b E a' W ha hG hP hb
              obtain ⟨C9, hC1, hC2, hC3⟩ := (hP 15 rfl (by decide)).2
              have s9 : a'.tmps[9]? = some (.pointer (some ⟨C9, 0, none⟩)) := slotv ha (hP 15 rfl (by decide)).1 rfl hC1
              have s64 : a'.tmps[64]? = some (.agg (outA i 0 h2 x.f1 j)) := slotv ha (hP 14 rfl (by decide)).1 rfl (hP 14 rfl (by decide)).2
              have hp := Put.setRow (cs := outA i 0 h2 x.f1 j) hC3
              exact ⟨_, rfl, fun K hK => skip_ rfl rfl (exec_put 37 _ _ rfl C9 0 (by simp [Act.eval, Array.getD_eq_getD_getElem?, s9]) (.agg (outA i 0 h2 x.f1 j)) (by simp only [Act.eval, Array.getD_eq_getD_getElem?, s64]; rfl) 37 _ (outA i 0 h2 x.f1 j) hC3 (by kernel_rfl) rfl rfl rfl) (hK.out undef _ ⟨hG.1.put hp (Nat.le_trans HNM.out hC2), hp.keep hG.2.1 (Nat.ne_of_lt (Nat.lt_of_lt_of_le HCM.out hC2)), hp.keep hG.2.2.1 (Nat.ne_of_lt (Nat.lt_of_lt_of_le HDM.out hC2)), R_putN hG.2.2.2.1 hp (fun k hk => Nat.ne_of_lt (Nat.lt_of_lt_of_le hk hC2)), C9, hC1, hC2, hp.blk⟩)⟩
            · intro E b W hall hF
              obtain ⟨hF1, hF2, hF3, hF4, ob, hC1, hC2, hF6⟩ := hF
              rw [putSel_all (fun x hx => hall x.1 (by revert x; decide))]
              simp only [impl_GrdOf.L11, List.foldl, hC1, Act.put, List.setIfInBounds_toArray, List.set_cons_zero, List.set_cons_succ]
              obtain ⟨X, c2, rfl⟩ := Kd.R_slice hF4
              have HQ := Aside0.mk hF1
              have HG := Aside0.mk hF2
              have HE := Aside0.mk hF3
              have HO := Aside0.mk hF6
              have HOC := Aside0.mk (Nat.lt_of_lt_of_le HCM.out hC2)
              have HOD := Aside0.mk (Nat.lt_of_lt_of_le HDM.out hC2)
              have HON := Aside0.mk (Nat.le_trans HNM.out hC2)
              have HR := Aside0.mk (Kd.R_mono (ok' := fun k => k < ob) hF4 (fun _ hk => Nat.lt_of_lt_of_le hk hC2))
              clear hall hC1 hC2 hF1 hF2 hF3 hF4 hF6 hQ HWM0 HCM HDM HNM hk0 AE
              try go_wp2
              go_loopg [] k (fun gg wr => ∃ (n3 : Nat) (tt : S37), n3 ≤ gg ∧ Aside0 (impl_GrdOf.fit k ds n3 tt = some t2) ∧ Aside0 (L3 w (l3A (.slice A0_0 l0_0.length c0_0) (.slice (some ad) l0_3.length c0_3) a0_1 a0_2 a0_4) wr) ∧ Aside0 (wr.heap[C]? = some (.cells (gridA l0_3.length wd (.slice X ds.length c2)) 30 (0, 0))) ∧ Aside0 (wr.heap[D]? = some (.cells #[.int .i64 a0_1, .int .i64 (wrap64 ((l0_3.length : Int) - a0_2)), .int .i64 l0_3.length] 51 (0, 0))) ∧ Aside0 (wr.heap[ob]? = some (.cells (outA tt.f0 tt.f1 tt.f2 tt.f3 tt.f4) 37 (0, 0))) ∧ Aside0 (Kd.R k37 37 wr (w.heap.size + 2) (fun k => k < ob) (.slice X ds.length c2) ds))
              case atStart => exact ⟨k, ⟨i, 0, h2, x.f1, j⟩, Nat.le_refl _, AT, HQ, HG, HE, HO, HR⟩
              case round =>
                clear AT HQ HG HE HO HR
                obtain ⟨n3, tt, hg3, HF, HQ, HG, HE, HO, HR⟩ := hrel
                have hf := HF.out
                clear HF
                cases n3 with
                | zero => unfold impl_GrdOf.fit at hf; cases hf
                | succ n3 =>
                  unfold impl_GrdOf.fit at hf
                  rw [Option.bind_eq_some_iff] at hf
                  obtain ⟨b, h1, hf⟩ := hf
                  have AF := Aside0.mk h1
                  clear h1
                  obtain ⟨o0, o1, o2, o3, o4⟩ := outA_cells HO.out
                  have q2 : wr.cell? ⟨C, 2, none⟩ = some (.slice X ds.length c2) := (blk_cell HG.out 2).trans rfl
                  cases b
                  · rw [if_neg (by decide)] at hf
                    replace hf := Option.some.inj hf
                    subst hf
                    by_cases hm : wd < wrap64 (tt.f1 + tt.f3)
                    · have HL5 := HL4.out
                      rw [show pgMax wd (wrap64 (tt.f1 + tt.f3)) = wrap64 (tt.f1 + tt.f3) from if_pos hm] at HL5
                      have HL6 := Aside0.mk HL5
                      clear HL4 HL5
                      go_wp2_with (first | (go_at_call 17; (with_reducible refine (impl_ccells.calls k X c2 ds tt.f0 tt.f1 tt.f2 tt.f3 tt.f4 false _ (Kd.R_reads' HR.out).2.2 (Kd.R_reads' HR.out).2.1 AF.out).mono ?_); rintro e_ Wf ⟨rfl, hb⟩; replace HQ := Aside0.mk (HQ.out.below hb); replace HG := Aside0.mk ((hb.block _ (blk_lt HG.out)).trans HG.out); replace HE := Aside0.mk ((hb.block _ (blk_lt HE.out)).trans HE.out); replace HO := Aside0.mk ((hb.block _ (blk_lt HO.out)).trans HO.out); replace HR := Aside0.mk (Kd.R_below HR.out hb); clear hb; clear q2 o0 o1 o2 o3 o4; obtain ⟨o0, o1, o2, o3, o4⟩ := outA_cells HO.out; have q2 : Wf.cell? ⟨C, 2, none⟩ = some (.slice X ds.length c2) := (blk_cell HG.out 2).trans rfl) | (refine wpList_load_row rfl 37 _ rfl ob rfl 37 (outA tt.f0 tt.f1 tt.f2 tt.f3 tt.f4) (0, 0) _ HO.out Tryd.underlying37 rfl (by kernel_rfl) ?_) | (refine wpList_append_R (P := Tryd.prog) k37 (w.heap.size + 2) _ _ 28 37 (.agg #[.int .i64 0, .int .i64 0, .int .i64 0, .int .i64 0, .int .i64 0]) 40 rfl rfl Tryd.underlying28 (by kernel_rfl) rfl (by decide) (by decide) (.slice X ds.length c2) ds tt [.int .i64 tt.f0, .int .i64 tt.f1, .int .i64 tt.f2, .int .i64 tt.f3, .int .i64 tt.f4] _ (fun _ => True) (fun _ => False) rfl rfl (blk_new _ _) (k37_mkM _ _ _ tt) (fun _ h => h.elim) (fun _ _ => trivial) (Kd.R_mono (Kd.R_alloc HR.out _) (fun _ _ => trivial)) (HQ.out.alloc _).size (by have := HDS.out; omega) (fun v1 w1 hR1 hg1 hat1 => ?_); replace HQ := Aside0.mk ((HQ.out.alloc _).grown hg1 (fun k hk => Kd.R_base HR.out k hk)); replace HG := Aside0.mk (blk_grown (blk_alloc HG.out _) hg1 (own_ne_of HR.out HG.out (by decide))); replace HE := Aside0.mk (blk_grown (blk_alloc HE.out _) hg1 (own_ne_of HR.out HE.out (by decide))); replace HO := Aside0.mk (blk_grown (blk_alloc HO.out _) hg1 (fun e => Nat.lt_irrefl _ (HR.out.1 ob e.symm))); obtain ⟨X2, n2, c3, rfl⟩ : ∃ X2 n2 c3, v1 = .slice X2 n2 c3 := (Kd.R_slice hR1).imp fun _ h => ⟨_, h⟩; replace HR := Aside0.mk hR1; clear hR1 hg1 hat1) | (refine wpList_put 28 _ _ rfl rfl C 2 rfl (.slice X2 n2 c3) rfl 30 (gridA l0_3.length wd (.slice X ds.length c2)) (gridA l0_3.length wd (.slice X2 n2 c3)) HG.out (by kernel_rfl) rfl rfl rfl (fun W9 hp => ?_); replace HQ := Aside0.mk (HQ.out.put hp HCN.out); replace HE := Aside0.mk (hp.keep HE.out (Nat.ne_of_gt HCD.out)); replace HO := Aside0.mk (hp.keep HO.out (Nat.ne_of_gt HOC.out)); replace HR := Aside0.mk (R_put HR.out HG.out hp (by decide)); replace HG := Aside0.mk hp.blk; clear hp; clear o0 o1 o2 o3 o4; obtain ⟨o0, o1, o2, o3, o4⟩ := outA_cells HO.out; have q1 : W9.cell? ⟨C, 1, none⟩ = some (.int .i64 wd) := (blk_cell HG.out 1).trans rfl) | (refine wpList_put 3 _ _ rfl rfl C 1 rfl (.int .i64 (wrap64 (tt.f1 + tt.f3))) rfl 30 (gridA l0_3.length wd (.slice X2 n2 c3)) (gridA l0_3.length (wrap64 (tt.f1 + tt.f3)) (.slice X2 n2 c3)) HG.out (by kernel_rfl) rfl rfl rfl (fun W9 hp => ?_); replace HQ := Aside0.mk (HQ.out.put hp HCN.out); replace HE := Aside0.mk (hp.keep HE.out (Nat.ne_of_gt HCD.out)); replace HR := Aside0.mk (R_put HR.out HG.out hp (by decide)); replace HG := Aside0.mk hp.blk; clear hp))
                      go_roundg m
                      case measure => omega
                      case rel => exact ⟨m, j + 1, wrap64 (tt.f1 + tt.f3), ds ++ [tt], _, Nat.le_refl _, by omega, by go_num, HL6, HQ, HG, HE, HR⟩
                    · have HL5 := HL4.out
                      rw [show pgMax wd (wrap64 (tt.f1 + tt.f3)) = wd from if_neg hm] at HL5
                      have HL6 := Aside0.mk HL5
                      clear HL4 HL5
                      go_wp2_with (first | (go_at_call 17; (with_reducible refine (impl_ccells.calls k X c2 ds tt.f0 tt.f1 tt.f2 tt.f3 tt.f4 false _ (Kd.R_reads' HR.out).2.2 (Kd.R_reads' HR.out).2.1 AF.out).mono ?_); rintro e_ Wf ⟨rfl, hb⟩; replace HQ := Aside0.mk (HQ.out.below hb); replace HG := Aside0.mk ((hb.block _ (blk_lt HG.out)).trans HG.out); replace HE := Aside0.mk ((hb.block _ (blk_lt HE.out)).trans HE.out); replace HO := Aside0.mk ((hb.block _ (blk_lt HO.out)).trans HO.out); replace HR := Aside0.mk (Kd.R_below HR.out hb); clear hb; clear q2 o0 o1 o2 o3 o4; obtain ⟨o0, o1, o2, o3, o4⟩ := outA_cells HO.out; have q2 : Wf.cell? ⟨C, 2, none⟩ = some (.slice X ds.length c2) := (blk_cell HG.out 2).trans rfl) | (refine wpList_load_row rfl 37 _ rfl ob rfl 37 (outA tt.f0 tt.f1 tt.f2 tt.f3 tt.f4) (0, 0) _ HO.out Tryd.underlying37 rfl (by kernel_rfl) ?_) | (refine wpList_append_R (P := Tryd.prog) k37 (w.heap.size + 2) _ _ 28 37 (.agg #[.int .i64 0, .int .i64 0, .int .i64 0, .int .i64 0, .int .i64 0]) 40 rfl rfl Tryd.underlying28 (by kernel_rfl) rfl (by decide) (by decide) (.slice X ds.length c2) ds tt [.int .i64 tt.f0, .int .i64 tt.f1, .int .i64 tt.f2, .int .i64 tt.f3, .int .i64 tt.f4] _ (fun _ => True) (fun _ => False) rfl rfl (blk_new _ _) (k37_mkM _ _ _ tt) (fun _ h => h.elim) (fun _ _ => trivial) (Kd.R_mono (Kd.R_alloc HR.out _) (fun _ _ => trivial)) (HQ.out.alloc _).size (by have := HDS.out; omega) (fun v1 w1 hR1 hg1 hat1 => ?_); replace HQ := Aside0.mk ((HQ.out.alloc _).grown hg1 (fun k hk => Kd.R_base HR.out k hk)); replace HG := Aside0.mk (blk_grown (blk_alloc HG.out _) hg1 (own_ne_of HR.out HG.out (by decide))); replace HE := Aside0.mk (blk_grown (blk_alloc HE.out _) hg1 (own_ne_of HR.out HE.out (by decide))); replace HO := Aside0.mk (blk_grown (blk_alloc HO.out _) hg1 (fun e => Nat.lt_irrefl _ (HR.out.1 ob e.symm))); obtain ⟨X2, n2, c3, rfl⟩ : ∃ X2 n2 c3, v1 = .slice X2 n2 c3 := (Kd.R_slice hR1).imp fun _ h => ⟨_, h⟩; replace HR := Aside0.mk hR1; clear hR1 hg1 hat1) | (refine wpList_put 28 _ _ rfl rfl C 2 rfl (.slice X2 n2 c3) rfl 30 (gridA l0_3.length wd (.slice X ds.length c2)) (gridA l0_3.length wd (.slice X2 n2 c3)) HG.out (by kernel_rfl) rfl rfl rfl (fun W9 hp => ?_); replace HQ := Aside0.mk (HQ.out.put hp HCN.out); replace HE := Aside0.mk (hp.keep HE.out (Nat.ne_of_gt HCD.out)); replace HO := Aside0.mk (hp.keep HO.out (Nat.ne_of_gt HOC.out)); replace HR := Aside0.mk (R_put HR.out HG.out hp (by decide)); replace HG := Aside0.mk hp.blk; clear hp; clear o0 o1 o2 o3 o4; obtain ⟨o0, o1, o2, o3, o4⟩ := outA_cells HO.out; have q1 : W9.cell? ⟨C, 1, none⟩ = some (.int .i64 wd) := (blk_cell HG.out 1).trans rfl) | (refine wpList_put 3 _ _ rfl rfl C 1 rfl (.int .i64 (wd)) rfl 30 (gridA l0_3.length wd (.slice X2 n2 c3)) (gridA l0_3.length (wd) (.slice X2 n2 c3)) HG.out (by kernel_rfl) rfl rfl rfl (fun W9 hp => ?_); replace HQ := Aside0.mk (HQ.out.put hp HCN.out); replace HE := Aside0.mk (hp.keep HE.out (Nat.ne_of_gt HCD.out)); replace HR := Aside0.mk (R_put HR.out HG.out hp (by decide)); replace HG := Aside0.mk hp.blk; clear hp))
                      go_roundg m
                      case measure => omega
                      case rel => exact ⟨m, j + 1, wd, ds ++ [tt], _, Nat.le_refl _, by omega, by go_num, HL6, HQ, HG, HE, HR⟩
                  · rw [if_pos rfl] at hf
                    by_cases h9 : 0 ≤ tt.f1 ∧ tt.f1 < 1000000
                    rotate_left
                    · rw [if_neg h9] at hf; cases hf
                    rw [if_pos h9] at hf
                    have HF2 := Aside0.mk hf
                    have hlt9 : tt.f1 < 1000000 := h9.2
                    have hge9 : 0 ≤ tt.f1 := h9.1
                    clear hf h9
                    go_wp2_with (first | (go_at_call 17; (with_reducible refine (impl_ccells.calls k X c2 ds tt.f0 tt.f1 tt.f2 tt.f3 tt.f4 true _ (Kd.R_reads' HR.out).2.2 (Kd.R_reads' HR.out).2.1 AF.out).mono ?_); rintro e_ Wf ⟨rfl, hb⟩; replace HQ := Aside0.mk (HQ.out.below hb); replace HG := Aside0.mk ((hb.block _ (blk_lt HG.out)).trans HG.out); replace HE := Aside0.mk ((hb.block _ (blk_lt HE.out)).trans HE.out); replace HO := Aside0.mk ((hb.block _ (blk_lt HO.out)).trans HO.out); replace HR := Aside0.mk (Kd.R_below HR.out hb); clear hb; clear q2 o0 o1 o2 o3 o4; obtain ⟨o0, o1, o2, o3, o4⟩ := outA_cells HO.out; have q2 : Wf.cell? ⟨C, 2, none⟩ = some (.slice X ds.length c2) := (blk_cell HG.out 2).trans rfl) | (refine wpList_load_row rfl 37 _ rfl ob rfl 37 (outA tt.f0 tt.f1 tt.f2 tt.f3 tt.f4) (0, 0) _ HO.out Tryd.underlying37 rfl (by kernel_rfl) ?_) | (refine wpList_put 3 _ _ rfl rfl ob 1 rfl (.int .i64 (tt.f1 + 1)) rfl 37 (outA tt.f0 tt.f1 tt.f2 tt.f3 tt.f4) (outA tt.f0 (tt.f1 + 1) tt.f2 tt.f3 tt.f4) HO.out (by kernel_rfl) rfl rfl rfl (fun W9 hp => ?_); replace HQ := Aside0.mk (HQ.out.put hp HON.out); replace HG := Aside0.mk (hp.keep HG.out (Nat.ne_of_lt HOC.out)); replace HE := Aside0.mk (hp.keep HE.out (Nat.ne_of_lt HOD.out)); replace HR := Aside0.mk (R_putN HR.out hp (fun k hk => Nat.ne_of_lt hk)); replace HO := Aside0.mk hp.blk; clear hp))
                    go_roundg n3
                    case measure => omega
                    case rel => exact ⟨n3, { tt with f1 := tt.f1 + 1 }, Nat.le_refl _, HF2, HQ, HG, HE, HO, HR⟩

/-! ### laws_pwGrid: function 6 (by hand) -/
def laws_pwGrid.tup (x : S37) : Int × Int × Int × Int × Int := (x.f0, x.f1, x.f2, x.f3, x.f4)
/-- Two grids that are the same; no answer else. -/
def laws_pwGrid.f (k : Nat) (a0_0 : Int) (a0_1 : Int) (l0_2 : List S37) (a1_0 : Int) (a1_1 : Int) (l1_2 : List S37) : Option Bool := if a0_0 = a1_0 ∧ a0_1 = a1_1 ∧ l0_2.map laws_pwGrid.tup = l1_2.map laws_pwGrid.tup then some true else none
theorem laws_pwGrid.mono : ∀ a0 a1 a2 b0 b1 b2 k, LeO (laws_pwGrid.f k a0 a1 a2 b0 b1 b2) (laws_pwGrid.f (k + 1) a0 a1 a2 b0 b1 b2) := fun _ _ _ _ _ _ _ => LeO.refl _
theorem laws_pwGrid.same {l m : List S37} (h : l.map laws_pwGrid.tup = m.map laws_pwGrid.tup) : l = m := by
  induction l generalizing m with
  | nil => cases m with
    | nil => rfl
    | cons y ys => cases h
  | cons x xs ih => cases m with
    | nil => cases h
    | cons y ys =>
      simp only [List.map_cons, List.cons.injEq] at h
      obtain ⟨h1, h2⟩ := h
      rw [ih h2]
      obtain ⟨x0, x1, x2, x3, x4⟩ := x
      obtain ⟨y0, y1, y2, y3, y4⟩ := y
      unfold laws_pwGrid.tup at h1
      simp only [Prod.mk.injEq] at h1
      obtain ⟨rfl, rfl, rfl, rfl, rfl⟩ := h1
      rfl
set_option maxHeartbeats 4000000 in
set_option maxRecDepth 100000 in
theorem laws_pwGrid.calls (k : Nat) (a0_0 : Int) (a0_1 : Int) (A0_2 : Option Addr) (c0_2 : Nat) (l0_2 : List (S37)) (a1_0 : Int) (a1_1 : Int) (A1_2 : Option Addr) (c1_2 : Nat) (l1_2 : List (S37)) (r : Bool) (w : World) (hr0_2 : Kd.C k37 w A0_2 l0_2.length l0_2) (hc0_2 : l0_2.length ≤ c0_2) (hr1_2 : Kd.C k37 w A1_2 l1_2.length l1_2) (hc1_2 : l1_2.length ≤ c1_2) (h : laws_pwGrid.f k a0_0 a0_1 l0_2 a1_0 a1_1 l1_2 = some r) :
    Calls Tryd.prog 6 #[.agg #[.int .i64 a0_0, .int .i64 a0_1, .slice A0_2 l0_2.length c0_2], .agg #[.int .i64 a1_0, .int .i64 a1_1, .slice A1_2 l1_2.length c1_2]] w fun e w' => e = .returned (.bool r) ∧ Below w.heap.size w w' := by
  unfold laws_pwGrid.f at h
  split at h
  rotate_left
  · cases h
  rename_i hs
  obtain ⟨rfl, rfl, hs⟩ := hs
  obtain rfl := laws_pwGrid.same hs
  obtain rfl := Option.some.inj h
  have HR0 := Aside0.mk hr0_2
  have HR1 := Aside0.mk hr1_2
  have hbig := hr0_2.2.1
  clear hr0_2 hr1_2 hc0_2 hc1_2 h hs
  have hu1 := Tryd.underlying30
  have hu2 := Tryd.underlying37
  go_enter Tryd.func6, Tryd.ntmps6
  go_upto_region 4 with (fail)
  refine wp_letter (fun W0 => W0.heap[w.heap.size]? = some (.cells (gridA a0_0 a0_1 (.slice A0_2 l0_2.length c0_2)) 30 (0, 0)) ∧ W0.heap[w.heap.size + 1]? = some (.cells (gridA a0_0 a0_1 (.slice A1_2 l0_2.length c1_2)) 30 (0, 0)) ∧ Below w.heap.size w W0) ⟨blk_alloc (blk_new w _) _, by have := blk_new2 w (.cells (gridA a0_0 a0_1 (.slice A0_2 l0_2.length c0_2)) 30) (.cells (gridA a0_0 a0_1 (.slice A1_2 l0_2.length c1_2)) 30); exact this, below_alloc (below_alloc (Below.refl _ _) _) _⟩ ?_
  rintro W1 ⟨hG, hH, hB⟩
  generalize w.heap.size + 1 = H at hH ⊢
  have HG := Aside0.mk hG
  have HH := Aside0.mk hH
  have HB := Aside0.mk hB
  clear hG hH hB
  go_loopg [5] l0_2.length (fun gg s5 wr => ∃ (n i : Nat), n ≤ gg ∧ i + n = l0_2.length ∧ s5 = .int .i64 i ∧ Aside0 (wr.heap[w.heap.size]? = some (.cells (gridA a0_0 a0_1 (.slice A0_2 l0_2.length c0_2)) 30 (0, 0))) ∧ Aside0 (wr.heap[H]? = some (.cells (gridA a0_0 a0_1 (.slice A1_2 l0_2.length c1_2)) 30 (0, 0))) ∧ Aside0 (Below w.heap.size w wr))
  case atStart => exact ⟨l0_2.length, 0, Nat.le_refl _, by omega, rfl, HG, HH, HB⟩
  case round =>
    clear HG HH HB
    obtain ⟨n, i, hg, hin, rfl, HG, HH, HB⟩ := hrel
    have g2 : wr.cell? ⟨w.heap.size, 2, none⟩ = some (Value.slice A0_2 l0_2.length c0_2) := (blk_cell HG.out 2).trans rfl
    cases n with
    | zero =>
      have hlt : ¬ (i : Int) < (l0_2.length : Int) := by omega
      go_wp2
      go_ret
      exact ⟨rfl, HB.out⟩
    | succ n =>
      have hlt : (i : Int) < (l0_2.length : Int) := by omega
      have h2 : wr.cell? ⟨H, 2, none⟩ = some (Value.slice A1_2 l0_2.length c1_2) := (blk_cell HH.out 2).trans rfl
      obtain ⟨ad, hA, p0, p1, p2, p3, p4⟩ := at_T37 (Kd.C_below HR0.out HB.out) i (by omega) hlt
      rw [hA] at g2
      clear hA
      obtain ⟨ad2, hA, q0, q1, q2, q3, q4⟩ := at_T37 (Kd.C_below HR1.out HB.out) i (by omega) hlt
      rw [hA] at h2
      clear hA
      simp only [Int.toNat_natCast] at p0 p1 p2 p3 p4 q0 q1 q2 q3 q4
      go_upto_region 6 with (fail)
      have xg2 := Ext.cell g2
      have xh2 := Ext.cell h2
      have xp0 := Ext.cell p0
      have xp1 := Ext.cell p1
      have xp2 := Ext.cell p2
      have xp3 := Ext.cell p3
      have xp4 := Ext.cell p4
      have xq0 := Ext.cell q0
      have xq1 := Ext.cell q1
      have xq2 := Ext.cell q2
      have xq3 := Ext.cell q3
      have xq4 := Ext.cell q4
      clear g2 h2 p0 p1 p2 p3 p4 q0 q1 q2 q3 q4
      refine region_ext (by kernel_rfl) (by kernel_rfl) ?_
      repeat (go_big_quiet_step (fail))
      refine wpQuiet_nil ?_
      rintro W8 ⟨⟨W9, hb3⟩, rfl⟩
      go_wp2
      go_roundg n
      case measure => omega
      case rel => exact ⟨n, i + 1, Nat.le_refl _, by omega, by go_num, ⟨blk_below HG.out hb3⟩, ⟨blk_below HH.out hb3⟩, ⟨below_step HB.out hb3⟩⟩

/-! ### impl_GrdOk: function 9 (by hand) -/
mutual
def impl_GrdOk.j0 : Nat → Bool → Int → Int → List (S37) → Option (Bool)
  | 0, _, _, _, _ => none
  | k + 1, x20, x329000, x329001, x329002 => if x20 = true then (some false) else (impl_GrdOk.l0 k x329002 (x329002.length : Int) 0 x329000 x329001 x329002)
def impl_GrdOk.l0 : Nat → List (S37) → Int → Int → Int → Int → List (S37) → Option (Bool)
  | 0, _, _, _, _, _, _ => none
  | k + 1, x22, x23, x24, x329000, x329001, x329002 => if x24 < x23 then (if 0 ≤ x24 then (if x24 < (x22.length : Int) then ((impl_in.f ((rd_T37 x22 x24).f0) 0 (wrap64 (x329000 - 1))).bind fun t333 => (if t333 = true then ((impl_in.f ((rd_T37 x22 x24).f2) 1 (wrap64 (x329000 - ((rd_T37 x22 x24).f0)))).bind fun t334 => (if t334 = true then ((impl_in.f ((rd_T37 x22 x24).f1) 0 (wrap64 (x329001 - 1))).bind fun t335 => (if t335 = true then ((impl_in.f ((rd_T37 x22 x24).f3) 1 (wrap64 (x329001 - ((rd_T37 x22 x24).f1)))).bind fun t336 => (impl_GrdOk.j2 k x24 x22 x23 x24 (!t336) x329000 x329001 x329002 ((rd_T37 x22 x24).f0) ((rd_T37 x22 x24).f1) ((rd_T37 x22 x24).f2) ((rd_T37 x22 x24).f3) ((rd_T37 x22 x24).f4))) else (impl_GrdOk.j2 k x24 x22 x23 x24 true x329000 x329001 x329002 ((rd_T37 x22 x24).f0) ((rd_T37 x22 x24).f1) ((rd_T37 x22 x24).f2) ((rd_T37 x22 x24).f3) ((rd_T37 x22 x24).f4)))) else (impl_GrdOk.j2 k x24 x22 x23 x24 true x329000 x329001 x329002 ((rd_T37 x22 x24).f0) ((rd_T37 x22 x24).f1) ((rd_T37 x22 x24).f2) ((rd_T37 x22 x24).f3) ((rd_T37 x22 x24).f4)))) else (impl_GrdOk.j2 k x24 x22 x23 x24 true x329000 x329001 x329002 ((rd_T37 x22 x24).f0) ((rd_T37 x22 x24).f1) ((rd_T37 x22 x24).f2) ((rd_T37 x22 x24).f3) ((rd_T37 x22 x24).f4)))) else (none)) else (none)) else (some true)
def impl_GrdOk.j2 : Nat → Int → List (S37) → Int → Int → Bool → Int → Int → List (S37) → Int → Int → Int → Int → Int → Option (Bool)
  | 0, _, _, _, _, _, _, _, _, _, _, _, _, _ => none
  | k + 1, x3, x22, x23, x24, x66, x329000, x329001, x329002, x333000, x333001, x333002, x333003, x333004 => if x66 = true then (some false) else ((impl_in.f x333004 0 4).bind fun t337 => (if t337 = true then (if 0 ≤ x3 then (if x3 ≤ (x329002.length : Int) then ((impl_ccells.f k (x329002.take (x3 : Int).toNat) x333000 x333001 x333002 x333003 x333004).bind fun t342 => (if t342 = true then (some false) else (impl_GrdOk.l0 k x22 x23 (wrap64 (x24 + 1)) x329000 x329001 x329002))) else (none)) else (none)) else (some false)))
end
def impl_GrdOk.f (k : Nat) (a0_0 : Int) (a0_1 : Int) (l0_2 : List (S37)) : Option (Bool) := (impl_in.f a0_0 1 8).bind fun t329 => (if t329 = true then ((impl_in.f a0_1 1 94).bind fun t330 => (if t330 = true then (impl_GrdOk.j0 k (decide ((l0_2.length : Int) > 40)) a0_0 a0_1 l0_2) else (impl_GrdOk.j0 k true a0_0 a0_1 l0_2))) else (impl_GrdOk.j0 k true a0_0 a0_1 l0_2))
theorem impl_GrdOk.mono_l : ∀ k, (∀ y0 y1 y2 y3, LeO (impl_GrdOk.j0 k y0 y1 y2 y3) (impl_GrdOk.j0 (k + 1) y0 y1 y2 y3)) ∧ (∀ y0 y1 y2 y3 y4 y5, LeO (impl_GrdOk.l0 k y0 y1 y2 y3 y4 y5) (impl_GrdOk.l0 (k + 1) y0 y1 y2 y3 y4 y5)) ∧ (∀ y0 y1 y2 y3 y4 y5 y6 y7 y8 y9 y10 y11 y12, LeO (impl_GrdOk.j2 k y0 y1 y2 y3 y4 y5 y6 y7 y8 y9 y10 y11 y12) (impl_GrdOk.j2 (k + 1) y0 y1 y2 y3 y4 y5 y6 y7 y8 y9 y10 y11 y12))
  | 0 => ⟨fun _ _ _ _ r h => by simp [impl_GrdOk.j0] at h, fun _ _ _ _ _ _ r h => by simp [impl_GrdOk.l0] at h, fun _ _ _ _ _ _ _ _ _ _ _ _ _ r h => by simp [impl_GrdOk.j2] at h⟩
  | k + 1 => by
    obtain ⟨ih0, ih1, ih2⟩ := impl_GrdOk.mono_l k
    refine ⟨?_, ?_, ?_⟩
    · intro y0 y1 y2 y3
      unfold impl_GrdOk.j0
      repeat' first
      | (with_reducible exact ih0 _ _ _ _)
      | (with_reducible exact ih1 _ _ _ _ _ _)
      | (with_reducible exact ih2 _ _ _ _ _ _ _ _ _ _ _ _ _)
      | (with_reducible exact impl_ccells.mono _ _ _ _ _ _ _)
      | (with_reducible exact LeO.refl _)
      | (with_reducible exact LeO.none _)
      | (with_reducible refine LeO.ite ?_ ?_)
      | (with_reducible refine LeO.bind ?_ (fun _ => ?_))
      | exact ih0 _ _ _ _
      | exact ih1 _ _ _ _ _ _
      | exact ih2 _ _ _ _ _ _ _ _ _ _ _ _ _
      | exact impl_ccells.mono _ _ _ _ _ _ _
      | exact LeO.none _
      | refine LeO.ite ?_ ?_
      | refine LeO.bind ?_ (fun _ => ?_)
    · intro y0 y1 y2 y3 y4 y5
      unfold impl_GrdOk.l0
      repeat' first
      | (with_reducible exact ih0 _ _ _ _)
      | (with_reducible exact ih1 _ _ _ _ _ _)
      | (with_reducible exact ih2 _ _ _ _ _ _ _ _ _ _ _ _ _)
      | (with_reducible exact impl_ccells.mono _ _ _ _ _ _ _)
      | (with_reducible exact LeO.refl _)
      | (with_reducible exact LeO.none _)
      | (with_reducible refine LeO.ite ?_ ?_)
      | (with_reducible refine LeO.bind ?_ (fun _ => ?_))
      | exact ih0 _ _ _ _
      | exact ih1 _ _ _ _ _ _
      | exact ih2 _ _ _ _ _ _ _ _ _ _ _ _ _
      | exact impl_ccells.mono _ _ _ _ _ _ _
      | exact LeO.none _
      | refine LeO.ite ?_ ?_
      | refine LeO.bind ?_ (fun _ => ?_)
    · intro y0 y1 y2 y3 y4 y5 y6 y7 y8 y9 y10 y11 y12
      unfold impl_GrdOk.j2
      repeat' first
      | (with_reducible exact ih0 _ _ _ _)
      | (with_reducible exact ih1 _ _ _ _ _ _)
      | (with_reducible exact ih2 _ _ _ _ _ _ _ _ _ _ _ _ _)
      | (with_reducible exact impl_ccells.mono _ _ _ _ _ _ _)
      | (with_reducible exact LeO.refl _)
      | (with_reducible exact LeO.none _)
      | (with_reducible refine LeO.ite ?_ ?_)
      | (with_reducible refine LeO.bind ?_ (fun _ => ?_))
      | exact ih0 _ _ _ _
      | exact ih1 _ _ _ _ _ _
      | exact ih2 _ _ _ _ _ _ _ _ _ _ _ _ _
      | exact impl_ccells.mono _ _ _ _ _ _ _
      | exact LeO.none _
      | refine LeO.ite ?_ ?_
      | refine LeO.bind ?_ (fun _ => ?_)
theorem impl_GrdOk.mono : ∀ a0 a1 a2 k, LeO (impl_GrdOk.f k a0 a1 a2) (impl_GrdOk.f (k + 1) a0 a1 a2) := by
  intro a0 a1 a2 k
  obtain ⟨ih0, ih1, ih2⟩ := impl_GrdOk.mono_l k
  unfold impl_GrdOk.f
  repeat' first
      | (with_reducible exact ih0 _ _ _ _)
      | (with_reducible exact ih1 _ _ _ _ _ _)
      | (with_reducible exact ih2 _ _ _ _ _ _ _ _ _ _ _ _ _)
      | (with_reducible exact impl_ccells.mono _ _ _ _ _ _ _)
      | (with_reducible exact LeO.refl _)
      | (with_reducible exact LeO.none _)
      | (with_reducible refine LeO.ite ?_ ?_)
      | (with_reducible refine LeO.bind ?_ (fun _ => ?_))
      | exact ih0 _ _ _ _
      | exact ih1 _ _ _ _ _ _
      | exact ih2 _ _ _ _ _ _ _ _ _ _ _ _ _
      | exact impl_ccells.mono _ _ _ _ _ _ _
      | exact LeO.none _
      | refine LeO.ite ?_ ?_
      | refine LeO.bind ?_ (fun _ => ?_)
def impl_GrdOk.T8 : Bool × List (List Nat × List Nat) := (true, [([], []), ([0], [0]), ([1], [1]), ([2], [2]), ([3, 2], [3]), ([4], [4]), ([5, 4], [4, 5]), ([4], [4]), ([6, 7, 4], [4, 6, 7]), ([4], [4]), ([9, 4], [4, 9]), ([8, 10, 4, 4], [4, 8, 10]), ([4, 11], [4, 11])])
def impl_GrdOk.B8 : List Nat := [0, 1, 3, 7, 15, 31, 63, 31, 255, 31, 543, 2047, 4095]
theorem impl_GrdOk.tab8 : rtab .any (opsOf Tryd.f9 8) = impl_GrdOk.T8 := by kernel_rfl
theorem impl_GrdOk.bits8 : waitsOk impl_GrdOk.T8.2 impl_GrdOk.B8 = true := by kernel_rfl
theorem impl_GrdOk.step {k : Nat} {i a b : Int} {l : List S37} {r : Bool} (hi : i < (l.length : Int)) (h : impl_GrdOk.l0 (k + 1) l (l.length : Int) i a b l = some r) :
    0 ≤ i ∧ ∃ x, x = rd_T37 l i ∧
    ((r = false ∧ (Aside0 (impl_in.f x.f0 0 (wrap64 (a - 1)) = some false) ∨ (Aside0 (impl_in.f x.f0 0 (wrap64 (a - 1)) = some true) ∧ Aside0 (impl_in.f x.f2 1 (wrap64 (a - x.f0)) = some false)) ∨
      (Aside0 (impl_in.f x.f0 0 (wrap64 (a - 1)) = some true) ∧ Aside0 (impl_in.f x.f2 1 (wrap64 (a - x.f0)) = some true) ∧ Aside0 (impl_in.f x.f1 0 (wrap64 (b - 1)) = some false)) ∨
      (Aside0 (impl_in.f x.f0 0 (wrap64 (a - 1)) = some true) ∧ Aside0 (impl_in.f x.f2 1 (wrap64 (a - x.f0)) = some true) ∧ Aside0 (impl_in.f x.f1 0 (wrap64 (b - 1)) = some true) ∧ Aside0 (impl_in.f x.f3 1 (wrap64 (b - x.f1)) = some false)))) ∨
    (Aside0 (impl_in.f x.f0 0 (wrap64 (a - 1)) = some true) ∧ Aside0 (impl_in.f x.f2 1 (wrap64 (a - x.f0)) = some true) ∧ Aside0 (impl_in.f x.f1 0 (wrap64 (b - 1)) = some true) ∧ Aside0 (impl_in.f x.f3 1 (wrap64 (b - x.f1)) = some true) ∧
      ((r = false ∧ Aside0 (impl_in.f x.f4 0 4 = some false)) ∨ (Aside0 (impl_in.f x.f4 0 4 = some true) ∧ ∃ q t, q < k ∧ Aside0 (impl_ccells.f q (l.take i.toNat) x.f0 x.f1 x.f2 x.f3 x.f4 = some t) ∧ ((t = true ∧ r = false) ∨ (t = false ∧ Aside0 (impl_GrdOk.l0 q l (l.length : Int) (wrap64 (i + 1)) a b l = some r))))))) := by
  have bad : ∀ y0 y1 y2 y3 y4, impl_GrdOk.j2 k i l (l.length : Int) i true a b l y0 y1 y2 y3 y4 = some r → r = false := by
    intro _ _ _ _ _ h
    cases k with
    | zero => unfold impl_GrdOk.j2 at h; cases h
    | succ k =>
      simp only [impl_GrdOk.j2, if_true] at h
      exact (Option.some.inj h).symm
  simp only [impl_GrdOk.l0] at h
  rw [if_pos hi] at h
  split at h
  · rename_i h0
    refine ⟨h0, _, rfl, ?_⟩
    first | rw [if_pos hi, Option.bind_eq_some_iff] at h | rw [Option.bind_eq_some_iff] at h
    obtain ⟨t1, h1, h⟩ := h
    cases t1
    · exact .inl ⟨bad _ _ _ _ _ h, .inl ⟨h1⟩⟩
    · rw [if_pos rfl, Option.bind_eq_some_iff] at h
      obtain ⟨t2, h2, h⟩ := h
      cases t2
      · exact .inl ⟨bad _ _ _ _ _ h, .inr (.inl ⟨⟨h1⟩, ⟨h2⟩⟩)⟩
      · rw [if_pos rfl, Option.bind_eq_some_iff] at h
        obtain ⟨t3, h3, h⟩ := h
        cases t3
        · exact .inl ⟨bad _ _ _ _ _ h, .inr (.inr (.inl ⟨⟨h1⟩, ⟨h2⟩, ⟨h3⟩⟩))⟩
        · rw [if_pos rfl, Option.bind_eq_some_iff] at h
          obtain ⟨t4, h4, h⟩ := h
          cases t4
          · exact .inl ⟨bad _ _ _ _ _ h, .inr (.inr (.inr ⟨⟨h1⟩, ⟨h2⟩, ⟨h3⟩, ⟨h4⟩⟩))⟩
          · refine .inr ⟨⟨h1⟩, ⟨h2⟩, ⟨h3⟩, ⟨h4⟩, ?_⟩
            cases k with
            | zero => unfold impl_GrdOk.j2 at h; cases h
            | succ k =>
              simp only [impl_GrdOk.j2, Bool.not_true, Bool.false_eq_true, if_false] at h
              rw [Option.bind_eq_some_iff] at h
              obtain ⟨t5, h5, h⟩ := h
              cases t5
              · exact .inl ⟨(Option.some.inj h).symm, ⟨h5⟩⟩
              · rw [if_pos rfl, if_pos h0, if_pos (Int.le_of_lt hi), Option.bind_eq_some_iff] at h
                obtain ⟨t6, h6, h⟩ := h
                refine .inr ⟨⟨h5⟩, k, t6, Nat.lt_succ_self _, ⟨h6⟩, ?_⟩
                cases t6
                · exact .inr ⟨rfl, ⟨h⟩⟩
                · exact .inl ⟨rfl, (Option.some.inj h).symm⟩
  · cases h
theorem impl_GrdOk.parts {k : Nat} {a b : Int} {l : List S37} {r : Bool} (h : impl_GrdOk.f k a b l = some r) :
    (r = false ∧ (Aside0 (impl_in.f a 1 8 = some false) ∨ (Aside0 (impl_in.f a 1 8 = some true) ∧ Aside0 (impl_in.f b 1 94 = some false)) ∨ (Aside0 (impl_in.f a 1 8 = some true) ∧ Aside0 (impl_in.f b 1 94 = some true) ∧ 40 < (l.length : Int)))) ∨
    (Aside0 (impl_in.f a 1 8 = some true) ∧ Aside0 (impl_in.f b 1 94 = some true) ∧ (l.length : Int) ≤ 40 ∧ ∃ q, Aside0 (impl_GrdOk.l0 q l (l.length : Int) 0 a b l = some r)) := by
  have bad : impl_GrdOk.j0 k true a b l = some r → r = false := by
    intro h
    cases k with
    | zero => unfold impl_GrdOk.j0 at h; cases h
    | succ k =>
      simp only [impl_GrdOk.j0, if_true] at h
      exact (Option.some.inj h).symm
  unfold impl_GrdOk.f at h
  rw [Option.bind_eq_some_iff] at h
  obtain ⟨t1, h1, h⟩ := h
  cases t1
  · exact .inl ⟨bad h, .inl ⟨h1⟩⟩
  · rw [if_pos rfl, Option.bind_eq_some_iff] at h
    obtain ⟨t2, h2, h⟩ := h
    cases t2
    · exact .inl ⟨bad h, .inr (.inl ⟨⟨h1⟩, ⟨h2⟩⟩)⟩
    · rw [if_pos rfl] at h
      by_cases hl : (l.length : Int) > 40
      · rw [decide_eq_true hl] at h
        exact .inl ⟨bad h, .inr (.inr ⟨⟨h1⟩, ⟨h2⟩, hl⟩)⟩
      · rw [decide_eq_false hl] at h
        refine .inr ⟨⟨h1⟩, ⟨h2⟩, by omega, ?_⟩
        cases k with
        | zero => unfold impl_GrdOk.j0 at h; cases h
        | succ k =>
          simp only [impl_GrdOk.j0, Bool.false_eq_true, if_false] at h
          exact ⟨k, ⟨h⟩⟩
theorem gk_cells (A : Option Addr) (n c : Nat) (l : List S37) (x0 x1 x2 x3 x4 : Int) (t : Bool) (W : World) (hr : Kd.C k37 W A l.length l) (hn : n ≤ l.length) (hc : l.length ≤ c) {q : Nat} (h : impl_ccells.f q (l.take n) x0 x1 x2 x3 x4 = some t) :
    Calls Tryd.prog 17 #[.slice A n c, .func (.func 18) #[.agg #[.int .i64 x0, .int .i64 x1, .int .i64 x2, .int .i64 x3, .int .i64 x4]] #[]] W fun e w' => e = .returned (.bool t) ∧ Below W.heap.size W w' := by
  have hl : (l.take n).length = n := by rw [List.length_take]; omega
  have := impl_ccells.calls q A c (l.take n) x0 x1 x2 x3 x4 t W (Kd.C_take hr hn) (by omega) h
  rwa [hl] at this
set_option maxHeartbeats 4000000 in
set_option maxRecDepth 100000 in
theorem impl_GrdOk.calls (k : Nat) (a0_0 : Int) (a0_1 : Int) (A0_2 : Option Addr) (c0_2 : Nat) (l0_2 : List S37) (r : Bool) (w : World) (hr0_2 : Kd.C k37 w A0_2 l0_2.length l0_2) (hc0_2 : l0_2.length ≤ c0_2) (h : impl_GrdOk.f k a0_0 a0_1 l0_2 = some r) :
    Calls Tryd.prog 9 #[.agg #[.int .i64 a0_0, .int .i64 a0_1, .slice A0_2 l0_2.length c0_2]] w fun e w' => e = .returned (.bool r) ∧ Below w.heap.size w w' := by
  have HR := Aside0.mk hr0_2
  have HC := Aside0.mk hc0_2
  have hbig := hr0_2.2.1
  clear hr0_2 hc0_2
  have hu1 := Tryd.underlying30
  have hu2 := Tryd.underlying37
  rcases impl_GrdOk.parts h with ⟨rfl, A1 | ⟨A1, A2⟩ | ⟨A1, A2, hl⟩⟩ | ⟨A1, A2, hl, q, AL⟩
  iterate 3
    · clear h
      go_enter Tryd.func9, Tryd.ntmps9
      go_wp2_with (go_at_call 23; (first | (with_reducible refine (impl_in.calls _ _ _ _ _ A1.out).mono ?_) | (with_reducible refine (impl_in.calls _ _ _ _ _ A2.out).mono ?_)); rintro e W' ⟨rfl, ⟨nd, rfl⟩⟩)
      go_ret
      exact ⟨rfl, by repeat (with_reducible first | exact Below.refl _ _ | apply below_alloc | apply pw_below_drewN | apply below_drew1)⟩
  clear h
  go_enter Tryd.func9, Tryd.ntmps9
  go_wp2_with (go_at_call 23; (first | (with_reducible refine (impl_in.calls _ _ _ _ _ A1.out).mono ?_) | (with_reducible refine (impl_in.calls _ _ _ _ _ A2.out).mono ?_)); rintro e W' ⟨rfl, ⟨nd, rfl⟩⟩)
  go_loopg [24] q (fun gg s24 wr => ∃ (q' : Nat) (i : Int), q' ≤ gg ∧ s24 = .int .i64 i ∧ Aside0 (impl_GrdOk.l0 q' l0_2 (l0_2.length : Int) i a0_0 a0_1 l0_2 = some r) ∧ Aside0 (wr.heap[w.heap.size]? = some (.cells #[.int .i64 a0_0, .int .i64 a0_1, .slice A0_2 l0_2.length c0_2] 30 (0, 0))) ∧ Aside0 (Below w.heap.size w wr))
  case atStart => exact ⟨q, 0, Nat.le_refl _, rfl, AL, ⟨by (with_reducible repeat (first | refine blk_drewN ?_ _ | refine blk_drew ?_)); exact blk_new w _⟩, ⟨by repeat (with_reducible first | exact Below.refl _ _ | apply below_alloc | apply pw_below_drewN | apply below_drew1)⟩⟩
  case round =>
    obtain ⟨q', i, hq, rfl, HL, HG, HB⟩ := hrel
    cases q' with
    | zero => exact absurd HL.out (by simp [impl_GrdOk.l0])
    | succ q' =>
      by_cases hlt : i < (l0_2.length : Int)
      · obtain ⟨h0, x, hx, hs⟩ := impl_GrdOk.step hlt HL.out
        obtain ⟨ad, hA, p0, p1, p2, p3, p4⟩ := at_T37 (Kd.C_below HR.out HB.out) i h0 hlt
        rw [← hx] at p0 p1 p2 p3 p4
        have hz : (0 : Int) ≤ (l0_2.length : Int) := by omega
        have hle : i ≤ (l0_2.length : Int) := by omega
        have hcap : (l0_2.length : Int) ≤ (c0_2 : Int) := by have := HC.out; omega
        have HX := Aside0.mk hx
        clear hx HL AL
        subst hA
        obtain ⟨n, rfl⟩ : ∃ n : Nat, i = n := ⟨i.toNat, by omega⟩
        rw [Int.toNat_natCast] at hs p0 p1 p2 p3 p4
        have HNL : Aside0 (n ≤ l0_2.length) := ⟨by omega⟩
        have g0 : wr.cell? ⟨w.heap.size, 0, none⟩ = some (.int .i64 a0_0) := (blk_cell HG.out 0).trans rfl
        have g1 : wr.cell? ⟨w.heap.size, 1, none⟩ = some (.int .i64 a0_1) := (blk_cell HG.out 1).trans rfl
        have n0 := alloc_cell HG.out
        have HN := Aside0.mk (blk_new wr (.cells (gcA x.f0 x.f1 x.f2 x.f3 x.f4) 37))
        replace HG := Aside0.mk (blk_alloc HG.out (.cells (gcA x.f0 x.f1 x.f2 x.f3 x.f4) 37))
        replace HB := Aside0.mk (below_alloc HB.out (.cells (gcA x.f0 x.f1 x.f2 x.f3 x.f4) 37))
        rcases hs with ⟨rfl, B1 | ⟨B1, B2⟩ | ⟨B1, B2, B3⟩ | ⟨B1, B2, B3, B4⟩⟩ | ⟨B1, B2, B3, B4, ⟨rfl, B5⟩ | ⟨B5, q2, t, hq2, B6, ⟨rfl, rfl⟩ | ⟨rfl, AL⟩⟩⟩
        iterate 4
          · go_wp2_with (go_at_call 23; (first | (with_reducible refine (impl_in.calls _ _ _ _ _ B1.out).mono ?_) | (with_reducible refine (impl_in.calls _ _ _ _ _ B2.out).mono ?_) | (with_reducible refine (impl_in.calls _ _ _ _ _ B3.out).mono ?_) | (with_reducible refine (impl_in.calls _ _ _ _ _ B4.out).mono ?_)); rintro e W' ⟨rfl, ⟨nd, rfl⟩⟩)
            go_ret
            exact ⟨rfl, by (repeat (with_reducible first | apply pw_below_drewN | apply below_drew1)); exact HB.out⟩
        iterate 2
          · go_wp2_with (go_at_call 23; (first | (with_reducible refine (impl_in.calls _ _ _ _ _ B1.out).mono ?_) | (with_reducible refine (impl_in.calls _ _ _ _ _ B2.out).mono ?_) | (with_reducible refine (impl_in.calls _ _ _ _ _ B3.out).mono ?_) | (with_reducible refine (impl_in.calls _ _ _ _ _ B4.out).mono ?_)); rintro e W' ⟨rfl, ⟨nd, rfl⟩⟩)
            refine wp_letter (fun W0 => W0.heap[w.heap.size]? = some (.cells #[.int .i64 a0_0, .int .i64 a0_1, .slice (some ad) l0_2.length c0_2] 30 (0, 0)) ∧ W0.heap[wr.heap.size]? = some (.cells (gcA x.f0 x.f1 x.f2 x.f3 x.f4) 37 (0, 0)) ∧ Below w.heap.size w W0) ⟨HG.out, HN.out, pw_below_drewN HB.out _⟩ ?_
            clear HG HN HB p0 p1 p2 p3 p4 g0 g1 n0
            intro W0 hW
            have HG := Aside0.mk hW.1
            have HN := Aside0.mk hW.2.1
            have HB := Aside0.mk hW.2.2
            clear hW
            obtain ⟨c0, c1, c2, c3, c4⟩ := gcA_cells HN.out
            have xc0 := Ext.cell c0
            have xc1 := Ext.cell c1
            have xc2 := Ext.cell c2
            have xc3 := Ext.cell c3
            have xc4 := Ext.cell c4
            have xg0 := Ext.cell ((blk_cell HG.out 0).trans rfl : _ = some (.int .i64 a0_0))
            have xg1 := Ext.cell ((blk_cell HG.out 1).trans rfl : _ = some (.int .i64 a0_1))
            have xg2 := Ext.cell ((blk_cell HG.out 2).trans rfl : _ = some (.slice (some ad) l0_2.length c0_2))
            clear c0 c1 c2 c3 c4
            refine region_ext (by kernel_rfl) (by kernel_rfl) ?_
            repeat (go_big_quiet_step (first | (go_at_call 23; first | exact Calls.ext0 (impl_in.calls _ _ _ _ _ B1.out) | exact Calls.ext0 (impl_in.calls _ _ _ _ _ B2.out) | exact Calls.ext0 (impl_in.calls _ _ _ _ _ B3.out) | exact Calls.ext0 (impl_in.calls _ _ _ _ _ B4.out) | exact Calls.ext0 (impl_in.calls _ _ _ _ _ B5.out)) | (go_at_call 17; exact Calls.ext (gk_cells _ _ _ _ _ _ _ _ _ _ _ (Kd.C_below HR.out (below_step HB.out (Ext.below _))) HNL.out HC.out B6.out))))
            refine wpQuiet_nil ?_
            rintro _ ⟨⟨W3, hb3⟩, rfl⟩
            clear xc0 xc1 xc2 xc3 xc4 xg0 xg1 xg2
            replace HG := Aside0.mk (blk_below HG.out hb3)
            replace HN := Aside0.mk (blk_below HN.out hb3)
            replace HB := Aside0.mk (below_step HB.out hb3)
            clear hb3
            go_wp2
            go_ret
            exact ⟨rfl, HB.out⟩
        go_wp2_with (go_at_call 23; (first | (with_reducible refine (impl_in.calls _ _ _ _ _ B1.out).mono ?_) | (with_reducible refine (impl_in.calls _ _ _ _ _ B2.out).mono ?_) | (with_reducible refine (impl_in.calls _ _ _ _ _ B3.out).mono ?_) | (with_reducible refine (impl_in.calls _ _ _ _ _ B4.out).mono ?_)); rintro e W' ⟨rfl, ⟨nd, rfl⟩⟩)
        refine wp_letter (fun W0 => W0.heap[w.heap.size]? = some (.cells #[.int .i64 a0_0, .int .i64 a0_1, .slice (some ad) l0_2.length c0_2] 30 (0, 0)) ∧ W0.heap[wr.heap.size]? = some (.cells (gcA x.f0 x.f1 x.f2 x.f3 x.f4) 37 (0, 0)) ∧ Below w.heap.size w W0) ⟨HG.out, HN.out, pw_below_drewN HB.out _⟩ ?_
        clear HG HN HB p0 p1 p2 p3 p4 g0 g1 n0
        intro W0 hW
        have HG := Aside0.mk hW.1
        have HN := Aside0.mk hW.2.1
        have HB := Aside0.mk hW.2.2
        clear hW
        obtain ⟨c0, c1, c2, c3, c4⟩ := gcA_cells HN.out
        have xc0 := Ext.cell c0
        have xc1 := Ext.cell c1
        have xc2 := Ext.cell c2
        have xc3 := Ext.cell c3
        have xc4 := Ext.cell c4
        have xg0 := Ext.cell ((blk_cell HG.out 0).trans rfl : _ = some (.int .i64 a0_0))
        have xg1 := Ext.cell ((blk_cell HG.out 1).trans rfl : _ = some (.int .i64 a0_1))
        have xg2 := Ext.cell ((blk_cell HG.out 2).trans rfl : _ = some (.slice (some ad) l0_2.length c0_2))
        clear c0 c1 c2 c3 c4
        refine region_ext (by kernel_rfl) (by kernel_rfl) ?_
        repeat (go_big_quiet_step (first | (go_at_call 23; first | exact Calls.ext0 (impl_in.calls _ _ _ _ _ B1.out) | exact Calls.ext0 (impl_in.calls _ _ _ _ _ B2.out) | exact Calls.ext0 (impl_in.calls _ _ _ _ _ B3.out) | exact Calls.ext0 (impl_in.calls _ _ _ _ _ B4.out) | exact Calls.ext0 (impl_in.calls _ _ _ _ _ B5.out)) | (go_at_call 17; exact Calls.ext (gk_cells _ _ _ _ _ _ _ _ _ _ _ (Kd.C_below HR.out (below_step HB.out (Ext.below _))) HNL.out HC.out B6.out))))
        refine wpQuiet_nil ?_
        rintro _ ⟨⟨W3, hb3⟩, rfl⟩
        clear xc0 xc1 xc2 xc3 xc4 xg0 xg1 xg2
        replace HG := Aside0.mk (blk_below HG.out hb3)
        replace HN := Aside0.mk (blk_below HN.out hb3)
        replace HB := Aside0.mk (below_step HB.out hb3)
        clear hb3
        go_wp2
        go_roundg q2
        case measure => omega
        case rel => exact ⟨q2, (n : Int) + 1, Nat.le_refl _, rfl, ⟨by rw [show ((n : Int) + 1) = wrap64 ((n : Int) + 1) by unfold wrap64; omega]; exact AL.out⟩, HG, HB⟩
      · have hl := HL.out
        simp only [impl_GrdOk.l0] at hl
        rw [if_neg hlt] at hl
        obtain rfl := Option.some.inj hl
        clear hl HL
        go_wp2
        go_ret
        exact ⟨rfl, HB.out⟩

/-! ### laws_pwOk: function 10 -/
def laws_pwOk.f  : Option (Bool) := (impl_TxtOk.f (⟨#[97, 98, 32, 99]⟩ : ByteArray)).bind fun t343 => (some t343)
set_option maxHeartbeats 8000000 in
set_option maxRecDepth 100000 in
theorem laws_pwOk.calls  (r : Bool) (w : World) (hM : Txt.MLen w) (h : laws_pwOk.f  = some r) :
    Calls Tryd.prog 10 #[] w fun e w' => e = .returned (.bool r) ∧ Below w.heap.size w w' := by
  have HM := Aside0.mk hM
  clear hM
  have HB := Aside0.mk (Below.refl w.heap.size w)
  have H : ((impl_TxtOk.f (⟨#[97, 98, 32, 99]⟩ : ByteArray)).bind fun t343 => (some t343)) = some r := h
  clear h
  replace H := Option.bind_eq_some_iff.mp H
  obtain ⟨t343, A10, H⟩ := H
  replace H : (some t343) = some r := H
  have A1 := Aside0.mk A10
  clear A10
  obtain rfl := Option.some.inj H
  go_enter Tryd.func10, Tryd.ntmps10
  go_wp2_with (first | ((with_reducible refine gate_callee (f := 24) rfl ?_); refine goesL_ (some 1) rfl rfl Tryd.func24 (by kernel_rfl) rfl #[.string (⟨#[97, 98, 32, 99]⟩ : ByteArray)] rfl (by (try simp only [List.map_toArray, List.map_cons, List.map_nil]); first | done | rfl | (simp only [List.length_drop, List.length_take]; rfl)) ?_; (with_reducible refine (impl_TxtOk.calls (⟨#[97, 98, 32, 99]⟩ : ByteArray) t343 _ ?sideM A1.out).mono ?_); (case sideM => repeat (first | exact HM.out | exact (Txt.MLen_below HM.out HB.out) | (with_reducible refine Txt.MLen_alloc ?_ _) | (with_reducible refine Txt.MLen_drewN ?_ _) | (with_reducible refine Txt.MLen_drew ?_))); rintro e w2 ⟨rfl, hb⟩; refine ⟨_, rfl, ?_⟩; have n0_ := Aside0.mk (below_step (by repeat (first | (with_reducible first | exact HB.out | apply below_alloc | apply pw_below_drewN | apply below_drew1) | exact HB.out)) hb); clear HB; have HB := n0_; clear n0_; (try clear hb); (try clear hb2); (try clear hk); (try clear hi)))
  go_ret
  exact ⟨by first | rfl | (simp [IntKind.wrap_i64, wrap64]; done) | (simp [errW_none, errW_some] <;> rfl) | (simp [*, errW_none, errW_some] <;> rfl), by repeat (first | (with_reducible first | exact HB.out | apply below_alloc | apply pw_below_drewN | apply below_drew1) | exact HB.out)⟩

/-! ### impl_TblPart: function 11 -/
def impl_TblPart.f (k : Nat) (l0_0 : List (S58)) (a0_1 : Int) (a0_2 : Int) (l0_3 : List (S44)) (a0_4 : Int) (a1 : Int) : Option (Int) := (impl_TblOk.f k l0_0 a0_1 a0_2 l0_3 a0_4).bind fun t345 => (if t345 = true then ((impl_in.f a1 0 (wrap64 ((l0_3.length : Int) - 1))).bind fun t346 => (if t346 = true then ((impl_TblTable_part.f l0_0 a0_1 a0_2 l0_3 a0_4 a1).bind fun t347 => (some t347)) else (some (-1)))) else (some (-1)))
theorem impl_TblPart.mono : ∀ a0 a1 a2 a3 a4 a5 k, LeO (impl_TblPart.f k a0 a1 a2 a3 a4 a5) (impl_TblPart.f (k + 1) a0 a1 a2 a3 a4 a5) := by
  intro a0 a1 a2 a3 a4 a5 k
  unfold impl_TblPart.f
  repeat' first
      | (with_reducible exact impl_TblOk.mono _ _ _ _ _ _)
      | (with_reducible exact LeO.refl _)
      | (with_reducible exact LeO.none _)
      | (with_reducible refine LeO.ite ?_ ?_)
      | (with_reducible refine LeO.bind ?_ (fun _ => ?_))
      | exact impl_TblOk.mono _ _ _ _ _ _
      | exact LeO.none _
      | refine LeO.ite ?_ ?_
      | refine LeO.bind ?_ (fun _ => ?_)
set_option maxHeartbeats 8000000 in
set_option maxRecDepth 100000 in
theorem impl_TblPart.calls (k : Nat) (A0_0 : Option Addr) (c0_0 : Nat) (l0_0 : List (S58)) (a0_1 : Int) (a0_2 : Int) (A0_3 : Option Addr) (c0_3 : Nat) (l0_3 : List (S44)) (a0_4 : Int) (a1 : Int) (r : Int) (w : World) (hr0_0 : Kd.C k58 w A0_0 l0_0.length l0_0) (hc0_0 : l0_0.length ≤ c0_0) (hr0_3 : Kd.C k44 w A0_3 l0_3.length l0_3) (hc0_3 : l0_3.length ≤ c0_3) (hM : Txt.MLen w) (h : impl_TblPart.f k l0_0 a0_1 a0_2 l0_3 a0_4 a1 = some r) :
    Calls Tryd.prog 11 #[.agg #[.slice A0_0 l0_0.length c0_0, .int .i64 a0_1, .int .i64 a0_2, .slice A0_3 l0_3.length c0_3, .int .i64 a0_4], .int .i64 a1] w fun e w' => e = .returned (.int .i64 r) ∧ Below w.heap.size w w' := by
  have HM := Aside0.mk hM
  clear hM
  have hu26 := Tryd.underlying26
  have HR0_0 := Aside0.mk hr0_0
  have HC0_0 := Aside0.mk hc0_0
  clear hr0_0 hc0_0
  have HR0_3 := Aside0.mk hr0_3
  have HC0_3 := Aside0.mk hc0_3
  clear hr0_3 hc0_3
  have HB := Aside0.mk (Below.refl w.heap.size w)
  have H : ((impl_TblOk.f k l0_0 a0_1 a0_2 l0_3 a0_4).bind fun t345 => (if t345 = true then ((impl_in.f a1 0 (wrap64 ((l0_3.length : Int) - 1))).bind fun t346 => (if t346 = true then ((impl_TblTable_part.f l0_0 a0_1 a0_2 l0_3 a0_4 a1).bind fun t347 => (some t347)) else (some (-1)))) else (some (-1)))) = some r := h
  clear h
  replace H := Option.bind_eq_some_iff.mp H
  obtain ⟨t345, A30, H⟩ := H
  replace H : (if t345 = true then ((impl_in.f a1 0 (wrap64 ((l0_3.length : Int) - 1))).bind fun t346 => (if t346 = true then ((impl_TblTable_part.f l0_0 a0_1 a0_2 l0_3 a0_4 a1).bind fun t347 => (some t347)) else (some (-1)))) else (some (-1))) = some r := H
  have A3 := Aside0.mk A30
  clear A30
  by_cases c4 : t345 = true
  · subst c4
    have H1 : ((impl_in.f a1 0 (wrap64 ((l0_3.length : Int) - 1))).bind fun t346 => (if t346 = true then ((impl_TblTable_part.f l0_0 a0_1 a0_2 l0_3 a0_4 a1).bind fun t347 => (some t347)) else (some (-1)))) = some r := by rw [if_pos rfl] at H; exact H
    clear H
    have H := H1
    clear H1
    replace H := Option.bind_eq_some_iff.mp H
    obtain ⟨t346, A50, H⟩ := H
    replace H : (if t346 = true then ((impl_TblTable_part.f l0_0 a0_1 a0_2 l0_3 a0_4 a1).bind fun t347 => (some t347)) else (some (-1))) = some r := H
    have A5 := Aside0.mk A50
    clear A50
    by_cases c6 : t346 = true
    · subst c6
      have H1 : ((impl_TblTable_part.f l0_0 a0_1 a0_2 l0_3 a0_4 a1).bind fun t347 => (some t347)) = some r := by rw [if_pos rfl] at H; exact H
      clear H
      have H := H1
      clear H1
      replace H := Option.bind_eq_some_iff.mp H
      obtain ⟨t347, A70, H⟩ := H
      replace H : (some t347) = some r := H
      have A7 := Aside0.mk A70
      clear A70
      obtain rfl := Option.some.inj H
      go_enter Tryd.func11, Tryd.ntmps11
      go_wp2_with (first | ((with_reducible refine gate_dst (N := 2) rfl ?_); (try (refine gate_guard (by rfl) ?_; dsimp only)); refine box_event ?hg (N := 2) ?hd (cs := #[.slice A0_0 l0_0.length c0_0, .int .i64 a0_1, .int .i64 a0_2, .slice A0_3 l0_3.length c0_3, .int .i64 a0_4]) (t := 26) ?hr ?_; (case hd => rfl); (case hg => rfl); (case hr => first | (go_simp; done) | (go_simp; rfl)); intro gb344 hg w8 hbox hb; have n0_ := Aside0.mk (below_step (by repeat (first | (with_reducible first | exact HB.out | apply below_alloc | apply pw_below_drewN | apply below_drew1) | exact HB.out)) hb); have n1_ := Aside0.mk (hbox); have n2_ := Aside0.mk ((by rw [hg]; exact (below_size (by repeat (first | (with_reducible first | exact HB.out | apply below_alloc | apply pw_below_drewN | apply below_drew1) | exact HB.out))) : w.heap.size ≤ gb344)); have n3_ := Aside0.mk ((by rw [hg]; exact (below_size (by repeat (first | (with_reducible first | exact HB.out | apply below_alloc | apply pw_below_drewN | apply below_drew1) | exact HB.out))) : w.heap.size ≤ gb344)); clear HB; have HB := n0_; have BK344 := n1_; have GW344 := n2_; have GE344 := n3_; clear n0_ n1_ n2_ n3_; clear hb hbox hg; have hcz9_0 : w8.cell? ⟨gb344, 0, none⟩ = some (.slice A0_0 l0_0.length c0_0) := (blk_cell BK344.out 0).trans rfl; have hcz9_1 : w8.cell? ⟨gb344, 1, none⟩ = some (.int .i64 a0_1) := (blk_cell BK344.out 1).trans rfl; have hcz9_2 : w8.cell? ⟨gb344, 2, none⟩ = some (.int .i64 a0_2) := (blk_cell BK344.out 2).trans rfl; have hcz9_3 : w8.cell? ⟨gb344, 3, none⟩ = some (.slice A0_3 l0_3.length c0_3) := (blk_cell BK344.out 3).trans rfl; have hcz9_4 : w8.cell? ⟨gb344, 4, none⟩ = some (.int .i64 a0_4) := (blk_cell BK344.out 4).trans rfl; have hfz9_0 := blk_frozen BK344.out 0; have hfz9_1 := blk_frozen BK344.out 1; have hfz9_2 := blk_frozen BK344.out 2; have hfz9_3 := blk_frozen BK344.out 3; have hfz9_4 := blk_frozen BK344.out 4) | ((with_reducible refine gate_callee (f := 15) rfl ?_); refine goesL_ (some 6) rfl rfl Tryd.func15 (by kernel_rfl) rfl #[.agg #[.slice A0_0 l0_0.length c0_0, .int .i64 a0_1, .int .i64 a0_2, .slice A0_3 l0_3.length c0_3, .int .i64 a0_4]] rfl (by (try simp only [List.map_toArray, List.map_cons, List.map_nil]); first | done | rfl | (simp only [List.length_drop, List.length_take]; rfl)) ?_; (with_reducible refine (impl_TblOk.calls k _ _ l0_0 a0_1 a0_2 _ _ l0_3 a0_4 true _ ?side1 ?side2 ?side3 ?side4 ?sideM A3.out).mono ?_); (case sideM => repeat (first | exact HM.out | exact (Txt.MLen_below HM.out HB.out) | (with_reducible refine Txt.MLen_alloc ?_ _) | (with_reducible refine Txt.MLen_drewN ?_ _) | (with_reducible refine Txt.MLen_drew ?_))); (case side1 => repeat (first | exact HR0_0.out | exact (Kd.C_below HR0_0.out HB.out) | (with_reducible refine Kd.C_alloc ?_ _) | (with_reducible refine Kd.C_drewN ?_ _) | (with_reducible refine Kd.C_drew ?_))); (case side2 => exact HC0_0.out); (case side3 => repeat (first | exact HR0_3.out | exact (Kd.C_below HR0_3.out HB.out) | (with_reducible refine Kd.C_alloc ?_ _) | (with_reducible refine Kd.C_drewN ?_ _) | (with_reducible refine Kd.C_drew ?_))); (case side4 => exact HC0_3.out); rintro e w10 ⟨rfl, hb⟩; refine ⟨_, rfl, ?_⟩; have n0_ := Aside0.mk (blk_below (g := gb344) (o := .cells #[.slice A0_0 l0_0.length c0_0, .int .i64 a0_1, .int .i64 a0_2, .slice A0_3 l0_3.length c0_3, .int .i64 a0_4] 26 (0, 0)) (by (with_reducible repeat (first | refine blk_drewN ?_ _ | refine blk_drew ?_ | refine blk_alloc ?_ _)); exact BK344.out) hb); have n1_ := Aside0.mk (below_step (by repeat (first | (with_reducible first | exact HB.out | apply below_alloc | apply pw_below_drewN | apply below_drew1 | refine below_set ?_ GE344.out) | exact HB.out)) hb); clear BK344; clear HB; have BK344 := n0_; have HB := n1_; clear n0_ n1_; (try clear hb); (try clear hb2); (try clear hk); (try clear hi); have hcz11_0 : w10.cell? ⟨gb344, 0, none⟩ = some (.slice A0_0 l0_0.length c0_0) := (blk_cell BK344.out 0).trans rfl; have hcz11_1 : w10.cell? ⟨gb344, 1, none⟩ = some (.int .i64 a0_1) := (blk_cell BK344.out 1).trans rfl; have hcz11_2 : w10.cell? ⟨gb344, 2, none⟩ = some (.int .i64 a0_2) := (blk_cell BK344.out 2).trans rfl; have hcz11_3 : w10.cell? ⟨gb344, 3, none⟩ = some (.slice A0_3 l0_3.length c0_3) := (blk_cell BK344.out 3).trans rfl; have hcz11_4 : w10.cell? ⟨gb344, 4, none⟩ = some (.int .i64 a0_4) := (blk_cell BK344.out 4).trans rfl; have hfz11_0 := blk_frozen BK344.out 0; have hfz11_1 := blk_frozen BK344.out 1; have hfz11_2 := blk_frozen BK344.out 2; have hfz11_3 := blk_frozen BK344.out 3; have hfz11_4 := blk_frozen BK344.out 4) | (go_at_call 23; (with_reducible refine (impl_in.calls a1 0 (wrap64 ((l0_3.length : Int) - 1)) true _ A5.out).mono ?_); rintro e w' ⟨rfl, ⟨nd, rfl⟩⟩) | ((with_reducible refine gate_callee (f := 16) rfl ?_); refine goesL_ (some 19) rfl rfl Tryd.func16 (by kernel_rfl) rfl #[.agg #[.slice A0_0 l0_0.length c0_0, .int .i64 a0_1, .int .i64 a0_2, .slice A0_3 l0_3.length c0_3, .int .i64 a0_4], .int .i64 a1] rfl (by (try simp only [List.map_toArray, List.map_cons, List.map_nil]); first | done | rfl | (simp only [List.length_drop, List.length_take]; rfl)) ?_; (with_reducible refine (impl_TblTable_part.calls _ _ l0_0 a0_1 a0_2 _ _ l0_3 a0_4 a1 t347 _ ?side1 ?side2 ?side3 ?side4 A7.out).mono ?_); (case side1 => repeat (first | exact (Kd.C_below HR0_0.out (by repeat (first | (with_reducible first | exact HB.out | apply below_alloc | apply pw_below_drewN | apply below_drew1 | refine below_set ?_ GE344.out) | exact HB.out))) | (with_reducible refine Kd.C_alloc ?_ _) | (with_reducible refine Kd.C_drewN ?_ _) | (with_reducible refine Kd.C_drew ?_))); (case side2 => exact HC0_0.out); (case side3 => repeat (first | exact (Kd.C_below HR0_3.out (by repeat (first | (with_reducible first | exact HB.out | apply below_alloc | apply pw_below_drewN | apply below_drew1 | refine below_set ?_ GE344.out) | exact HB.out))) | (with_reducible refine Kd.C_alloc ?_ _) | (with_reducible refine Kd.C_drewN ?_ _) | (with_reducible refine Kd.C_drew ?_))); (case side4 => exact HC0_3.out); rintro e w12 ⟨rfl, hb⟩; refine ⟨_, rfl, ?_⟩; have n0_ := Aside0.mk (blk_below (g := gb344) (o := .cells #[.slice A0_0 l0_0.length c0_0, .int .i64 a0_1, .int .i64 a0_2, .slice A0_3 l0_3.length c0_3, .int .i64 a0_4] 26 (0, 0)) (by (with_reducible repeat (first | refine blk_drewN ?_ _ | refine blk_drew ?_ | refine blk_alloc ?_ _)); exact BK344.out) hb); have n1_ := Aside0.mk (below_step (by repeat (first | (with_reducible first | exact HB.out | apply below_alloc | apply pw_below_drewN | apply below_drew1 | refine below_set ?_ GE344.out) | exact HB.out)) hb); clear BK344; clear HB; have BK344 := n0_; have HB := n1_; clear n0_ n1_; (try clear hb); (try clear hb2); (try clear hk); (try clear hi)))
      go_ret
      exact ⟨by first | rfl | (simp [IntKind.wrap_i64, wrap64]; done) | (simp [errW_none, errW_some] <;> rfl) | (simp [*, errW_none, errW_some] <;> rfl), by repeat (first | (with_reducible first | exact HB.out | apply below_alloc | apply pw_below_drewN | apply below_drew1 | refine below_set ?_ GE344.out) | exact HB.out)⟩
    · replace c6 := Bool.eq_false_iff.mpr c6
      subst c6
      have H1 : (some (-1)) = some r := by rw [if_neg (show ¬ (false = true) by decide)] at H; exact H
      clear H
      have H := H1
      clear H1
      obtain rfl := Option.some.inj H
      go_enter Tryd.func11, Tryd.ntmps11
      go_wp2_with (first | ((with_reducible refine gate_dst (N := 2) rfl ?_); (try (refine gate_guard (by rfl) ?_; dsimp only)); refine box_event ?hg (N := 2) ?hd (cs := #[.slice A0_0 l0_0.length c0_0, .int .i64 a0_1, .int .i64 a0_2, .slice A0_3 l0_3.length c0_3, .int .i64 a0_4]) (t := 26) ?hr ?_; (case hd => rfl); (case hg => rfl); (case hr => first | (go_simp; done) | (go_simp; rfl)); intro gb344 hg w13 hbox hb; have n0_ := Aside0.mk (below_step (by repeat (first | (with_reducible first | exact HB.out | apply below_alloc | apply pw_below_drewN | apply below_drew1) | exact HB.out)) hb); have n1_ := Aside0.mk (hbox); have n2_ := Aside0.mk ((by rw [hg]; exact (below_size (by repeat (first | (with_reducible first | exact HB.out | apply below_alloc | apply pw_below_drewN | apply below_drew1) | exact HB.out))) : w.heap.size ≤ gb344)); have n3_ := Aside0.mk ((by rw [hg]; exact (below_size (by repeat (first | (with_reducible first | exact HB.out | apply below_alloc | apply pw_below_drewN | apply below_drew1) | exact HB.out))) : w.heap.size ≤ gb344)); clear HB; have HB := n0_; have BK344 := n1_; have GW344 := n2_; have GE344 := n3_; clear n0_ n1_ n2_ n3_; clear hb hbox hg; have hcz14_0 : w13.cell? ⟨gb344, 0, none⟩ = some (.slice A0_0 l0_0.length c0_0) := (blk_cell BK344.out 0).trans rfl; have hcz14_1 : w13.cell? ⟨gb344, 1, none⟩ = some (.int .i64 a0_1) := (blk_cell BK344.out 1).trans rfl; have hcz14_2 : w13.cell? ⟨gb344, 2, none⟩ = some (.int .i64 a0_2) := (blk_cell BK344.out 2).trans rfl; have hcz14_3 : w13.cell? ⟨gb344, 3, none⟩ = some (.slice A0_3 l0_3.length c0_3) := (blk_cell BK344.out 3).trans rfl; have hcz14_4 : w13.cell? ⟨gb344, 4, none⟩ = some (.int .i64 a0_4) := (blk_cell BK344.out 4).trans rfl; have hfz14_0 := blk_frozen BK344.out 0; have hfz14_1 := blk_frozen BK344.out 1; have hfz14_2 := blk_frozen BK344.out 2; have hfz14_3 := blk_frozen BK344.out 3; have hfz14_4 := blk_frozen BK344.out 4) | ((with_reducible refine gate_callee (f := 15) rfl ?_); refine goesL_ (some 6) rfl rfl Tryd.func15 (by kernel_rfl) rfl #[.agg #[.slice A0_0 l0_0.length c0_0, .int .i64 a0_1, .int .i64 a0_2, .slice A0_3 l0_3.length c0_3, .int .i64 a0_4]] rfl (by (try simp only [List.map_toArray, List.map_cons, List.map_nil]); first | done | rfl | (simp only [List.length_drop, List.length_take]; rfl)) ?_; (with_reducible refine (impl_TblOk.calls k _ _ l0_0 a0_1 a0_2 _ _ l0_3 a0_4 true _ ?side1 ?side2 ?side3 ?side4 ?sideM A3.out).mono ?_); (case sideM => repeat (first | exact HM.out | exact (Txt.MLen_below HM.out HB.out) | (with_reducible refine Txt.MLen_alloc ?_ _) | (with_reducible refine Txt.MLen_drewN ?_ _) | (with_reducible refine Txt.MLen_drew ?_))); (case side1 => repeat (first | exact HR0_0.out | exact (Kd.C_below HR0_0.out HB.out) | (with_reducible refine Kd.C_alloc ?_ _) | (with_reducible refine Kd.C_drewN ?_ _) | (with_reducible refine Kd.C_drew ?_))); (case side2 => exact HC0_0.out); (case side3 => repeat (first | exact HR0_3.out | exact (Kd.C_below HR0_3.out HB.out) | (with_reducible refine Kd.C_alloc ?_ _) | (with_reducible refine Kd.C_drewN ?_ _) | (with_reducible refine Kd.C_drew ?_))); (case side4 => exact HC0_3.out); rintro e w15 ⟨rfl, hb⟩; refine ⟨_, rfl, ?_⟩; have n0_ := Aside0.mk (blk_below (g := gb344) (o := .cells #[.slice A0_0 l0_0.length c0_0, .int .i64 a0_1, .int .i64 a0_2, .slice A0_3 l0_3.length c0_3, .int .i64 a0_4] 26 (0, 0)) (by (with_reducible repeat (first | refine blk_drewN ?_ _ | refine blk_drew ?_ | refine blk_alloc ?_ _)); exact BK344.out) hb); have n1_ := Aside0.mk (below_step (by repeat (first | (with_reducible first | exact HB.out | apply below_alloc | apply pw_below_drewN | apply below_drew1 | refine below_set ?_ GE344.out) | exact HB.out)) hb); clear BK344; clear HB; have BK344 := n0_; have HB := n1_; clear n0_ n1_; (try clear hb); (try clear hb2); (try clear hk); (try clear hi); have hcz16_0 : w15.cell? ⟨gb344, 0, none⟩ = some (.slice A0_0 l0_0.length c0_0) := (blk_cell BK344.out 0).trans rfl; have hcz16_1 : w15.cell? ⟨gb344, 1, none⟩ = some (.int .i64 a0_1) := (blk_cell BK344.out 1).trans rfl; have hcz16_2 : w15.cell? ⟨gb344, 2, none⟩ = some (.int .i64 a0_2) := (blk_cell BK344.out 2).trans rfl; have hcz16_3 : w15.cell? ⟨gb344, 3, none⟩ = some (.slice A0_3 l0_3.length c0_3) := (blk_cell BK344.out 3).trans rfl; have hcz16_4 : w15.cell? ⟨gb344, 4, none⟩ = some (.int .i64 a0_4) := (blk_cell BK344.out 4).trans rfl; have hfz16_0 := blk_frozen BK344.out 0; have hfz16_1 := blk_frozen BK344.out 1; have hfz16_2 := blk_frozen BK344.out 2; have hfz16_3 := blk_frozen BK344.out 3; have hfz16_4 := blk_frozen BK344.out 4) | (go_at_call 23; (with_reducible refine (impl_in.calls a1 0 (wrap64 ((l0_3.length : Int) - 1)) false _ A5.out).mono ?_); rintro e w' ⟨rfl, ⟨nd, rfl⟩⟩))
      go_ret
      exact ⟨by first | rfl | (simp [IntKind.wrap_i64, wrap64]; done) | (simp [errW_none, errW_some] <;> rfl) | (simp [*, errW_none, errW_some] <;> rfl), by repeat (first | (with_reducible first | exact HB.out | apply below_alloc | apply pw_below_drewN | apply below_drew1 | refine below_set ?_ GE344.out) | exact HB.out)⟩
  · replace c4 := Bool.eq_false_iff.mpr c4
    subst c4
    have H1 : (some (-1)) = some r := by rw [if_neg (show ¬ (false = true) by decide)] at H; exact H
    clear H
    have H := H1
    clear H1
    obtain rfl := Option.some.inj H
    go_enter Tryd.func11, Tryd.ntmps11
    go_wp2_with (first | ((with_reducible refine gate_dst (N := 2) rfl ?_); (try (refine gate_guard (by rfl) ?_; dsimp only)); refine box_event ?hg (N := 2) ?hd (cs := #[.slice A0_0 l0_0.length c0_0, .int .i64 a0_1, .int .i64 a0_2, .slice A0_3 l0_3.length c0_3, .int .i64 a0_4]) (t := 26) ?hr ?_; (case hd => rfl); (case hg => rfl); (case hr => first | (go_simp; done) | (go_simp; rfl)); intro gb344 hg w17 hbox hb; have n0_ := Aside0.mk (below_step (by repeat (first | (with_reducible first | exact HB.out | apply below_alloc | apply pw_below_drewN | apply below_drew1) | exact HB.out)) hb); have n1_ := Aside0.mk (hbox); have n2_ := Aside0.mk ((by rw [hg]; exact (below_size (by repeat (first | (with_reducible first | exact HB.out | apply below_alloc | apply pw_below_drewN | apply below_drew1) | exact HB.out))) : w.heap.size ≤ gb344)); have n3_ := Aside0.mk ((by rw [hg]; exact (below_size (by repeat (first | (with_reducible first | exact HB.out | apply below_alloc | apply pw_below_drewN | apply below_drew1) | exact HB.out))) : w.heap.size ≤ gb344)); clear HB; have HB := n0_; have BK344 := n1_; have GW344 := n2_; have GE344 := n3_; clear n0_ n1_ n2_ n3_; clear hb hbox hg; have hcz18_0 : w17.cell? ⟨gb344, 0, none⟩ = some (.slice A0_0 l0_0.length c0_0) := (blk_cell BK344.out 0).trans rfl; have hcz18_1 : w17.cell? ⟨gb344, 1, none⟩ = some (.int .i64 a0_1) := (blk_cell BK344.out 1).trans rfl; have hcz18_2 : w17.cell? ⟨gb344, 2, none⟩ = some (.int .i64 a0_2) := (blk_cell BK344.out 2).trans rfl; have hcz18_3 : w17.cell? ⟨gb344, 3, none⟩ = some (.slice A0_3 l0_3.length c0_3) := (blk_cell BK344.out 3).trans rfl; have hcz18_4 : w17.cell? ⟨gb344, 4, none⟩ = some (.int .i64 a0_4) := (blk_cell BK344.out 4).trans rfl; have hfz18_0 := blk_frozen BK344.out 0; have hfz18_1 := blk_frozen BK344.out 1; have hfz18_2 := blk_frozen BK344.out 2; have hfz18_3 := blk_frozen BK344.out 3; have hfz18_4 := blk_frozen BK344.out 4) | ((with_reducible refine gate_callee (f := 15) rfl ?_); refine goesL_ (some 6) rfl rfl Tryd.func15 (by kernel_rfl) rfl #[.agg #[.slice A0_0 l0_0.length c0_0, .int .i64 a0_1, .int .i64 a0_2, .slice A0_3 l0_3.length c0_3, .int .i64 a0_4]] rfl (by (try simp only [List.map_toArray, List.map_cons, List.map_nil]); first | done | rfl | (simp only [List.length_drop, List.length_take]; rfl)) ?_; (with_reducible refine (impl_TblOk.calls k _ _ l0_0 a0_1 a0_2 _ _ l0_3 a0_4 false _ ?side1 ?side2 ?side3 ?side4 ?sideM A3.out).mono ?_); (case sideM => repeat (first | exact HM.out | exact (Txt.MLen_below HM.out HB.out) | (with_reducible refine Txt.MLen_alloc ?_ _) | (with_reducible refine Txt.MLen_drewN ?_ _) | (with_reducible refine Txt.MLen_drew ?_))); (case side1 => repeat (first | exact HR0_0.out | exact (Kd.C_below HR0_0.out HB.out) | (with_reducible refine Kd.C_alloc ?_ _) | (with_reducible refine Kd.C_drewN ?_ _) | (with_reducible refine Kd.C_drew ?_))); (case side2 => exact HC0_0.out); (case side3 => repeat (first | exact HR0_3.out | exact (Kd.C_below HR0_3.out HB.out) | (with_reducible refine Kd.C_alloc ?_ _) | (with_reducible refine Kd.C_drewN ?_ _) | (with_reducible refine Kd.C_drew ?_))); (case side4 => exact HC0_3.out); rintro e w19 ⟨rfl, hb⟩; refine ⟨_, rfl, ?_⟩; have n0_ := Aside0.mk (blk_below (g := gb344) (o := .cells #[.slice A0_0 l0_0.length c0_0, .int .i64 a0_1, .int .i64 a0_2, .slice A0_3 l0_3.length c0_3, .int .i64 a0_4] 26 (0, 0)) (by (with_reducible repeat (first | refine blk_drewN ?_ _ | refine blk_drew ?_ | refine blk_alloc ?_ _)); exact BK344.out) hb); have n1_ := Aside0.mk (below_step (by repeat (first | (with_reducible first | exact HB.out | apply below_alloc | apply pw_below_drewN | apply below_drew1 | refine below_set ?_ GE344.out) | exact HB.out)) hb); clear BK344; clear HB; have BK344 := n0_; have HB := n1_; clear n0_ n1_; (try clear hb); (try clear hb2); (try clear hk); (try clear hi)))
    go_ret
    exact ⟨by first | rfl | (simp [IntKind.wrap_i64, wrap64]; done) | (simp [errW_none, errW_some] <;> rfl) | (simp [*, errW_none, errW_some] <;> rfl), by repeat (first | (with_reducible first | exact HB.out | apply below_alloc | apply pw_below_drewN | apply below_drew1 | refine below_set ?_ GE344.out) | exact HB.out)⟩

/-! ### impl_among: function 46 -/
def impl_among.f (a0 : Int) (a1 : Int) (a2 : Int) : Option (Bool) := if a0 ≥ a1 then (if a2 > 0 then (some (decide ((IntKind.u64.wrap ((IntKind.u64.wrap (a0)) - (IntKind.u64.wrap (a1)))) < (IntKind.u64.wrap (a2))))) else (some false)) else (some false)
set_option maxHeartbeats 8000000 in
set_option maxRecDepth 100000 in
theorem impl_among.calls (a0 : Int) (a1 : Int) (a2 : Int) (r : Bool) (w : World) (h : impl_among.f a0 a1 a2 = some r) :
    Calls Tryd.prog 46 #[.int .i64 a0, .int .i64 a1, .int .i64 a2] w fun e w' => e = .returned (.bool r) ∧ Drawn0 w w' := by
  have H : (if a0 ≥ a1 then (if a2 > 0 then (some (decide ((IntKind.u64.wrap ((IntKind.u64.wrap (a0)) - (IntKind.u64.wrap (a1)))) < (IntKind.u64.wrap (a2))))) else (some false)) else (some false)) = some r := h
  clear h
  by_cases c4 : a0 ≥ a1
  · rw [if_pos c4] at H
    have c4b0 : decide (a1 ≤ a0) = true := decide_eq_true c4
    clear c4
    by_cases c5 : a2 > 0
    · rw [if_pos c5] at H
      have c5b0 : decide (0 < a2) = true := decide_eq_true c5
      clear c5
      obtain rfl := Option.some.inj H
      go_enter Tryd.func46, Tryd.ntmps46
      go_wp2
      go_ret
      exact ⟨by first | rfl | (simp [IntKind.wrap_i64, wrap64]; done) | (simp; done) | (simp [*]; done), by repeat (first | exact Drawn0.refl _ | apply Drawn0.step)⟩
    · rw [if_neg c5] at H
      have c5b0 : decide (0 < a2) = false := decide_eq_false c5
      clear c5
      obtain rfl := Option.some.inj H
      go_enter Tryd.func46, Tryd.ntmps46
      go_wp2
      go_ret
      exact ⟨by first | rfl | (simp [IntKind.wrap_i64, wrap64]; done) | (simp; done) | (simp [*]; done), by repeat (first | exact Drawn0.refl _ | apply Drawn0.step)⟩
  · rw [if_neg c4] at H
    have c4b0 : decide (a1 ≤ a0) = false := decide_eq_false c4
    clear c4
    obtain rfl := Option.some.inj H
    go_enter Tryd.func46, Tryd.ntmps46
    go_wp2
    go_ret
    exact ⟨by first | rfl | (simp [IntKind.wrap_i64, wrap64]; done) | (simp; done) | (simp [*]; done), by repeat (first | exact Drawn0.refl _ | apply Drawn0.step)⟩

/-! ### impl_GrdCell_has: function 27 -/
def impl_GrdCell_has.f (a0_0 : Int) (a0_1 : Int) (a0_2 : Int) (a0_3 : Int) (a0_4 : Int) (a1 : Int) (a2 : Int) : Option (Bool) := (impl_among.f a1 a0_0 a0_2).bind fun t349 => (if t349 = true then ((impl_among.f a2 a0_1 a0_3).bind fun t350 => (some t350)) else (some false))
set_option maxHeartbeats 8000000 in
set_option maxRecDepth 100000 in
theorem impl_GrdCell_has.calls (a0_0 : Int) (a0_1 : Int) (a0_2 : Int) (a0_3 : Int) (a0_4 : Int) (a1 : Int) (a2 : Int) (r : Bool) (w : World) (h : impl_GrdCell_has.f a0_0 a0_1 a0_2 a0_3 a0_4 a1 a2 = some r) :
    Calls Tryd.prog 27 #[.agg #[.int .i64 a0_0, .int .i64 a0_1, .int .i64 a0_2, .int .i64 a0_3, .int .i64 a0_4], .int .i64 a1, .int .i64 a2] w fun e w' => e = .returned (.bool r) ∧ Below w.heap.size w w' := by
  have hu37 := Tryd.underlying37
  have HB := Aside0.mk (Below.refl w.heap.size w)
  have H : ((impl_among.f a1 a0_0 a0_2).bind fun t349 => (if t349 = true then ((impl_among.f a2 a0_1 a0_3).bind fun t350 => (some t350)) else (some false))) = some r := h
  clear h
  replace H := Option.bind_eq_some_iff.mp H
  obtain ⟨t349, A40, H⟩ := H
  replace H : (if t349 = true then ((impl_among.f a2 a0_1 a0_3).bind fun t350 => (some t350)) else (some false)) = some r := H
  have A4 := Aside0.mk A40
  clear A40
  by_cases c5 : t349 = true
  · subst c5
    have H1 : ((impl_among.f a2 a0_1 a0_3).bind fun t350 => (some t350)) = some r := by rw [if_pos rfl] at H; exact H
    clear H
    have H := H1
    clear H1
    replace H := Option.bind_eq_some_iff.mp H
    obtain ⟨t350, A60, H⟩ := H
    replace H : (some t350) = some r := H
    have A6 := Aside0.mk A60
    clear A60
    obtain rfl := Option.some.inj H
    go_enter Tryd.func27, Tryd.ntmps27
    go_wp2_with (first | ((with_reducible refine gate_dst (N := 3) rfl ?_); refine box_event ?hg (N := 3) ?hd (cs := #[.int .i64 a0_0, .int .i64 a0_1, .int .i64 a0_2, .int .i64 a0_3, .int .i64 a0_4]) (t := 37) ?hr ?_; (case hd => rfl); (case hg => rfl); (case hr => first | (go_simp; done) | (go_simp; rfl)); intro gb348 hg w7 hbox hb; have n0_ := Aside0.mk (below_step (by repeat (first | (with_reducible first | exact HB.out | apply below_alloc | apply pw_below_drewN | apply below_drew1) | exact HB.out)) hb); have n1_ := Aside0.mk (hbox); have n2_ := Aside0.mk ((by rw [hg]; exact (below_size (by repeat (first | (with_reducible first | exact HB.out | apply below_alloc | apply pw_below_drewN | apply below_drew1) | exact HB.out))) : w.heap.size ≤ gb348)); have n3_ := Aside0.mk ((by rw [hg]; exact (below_size (by repeat (first | (with_reducible first | exact HB.out | apply below_alloc | apply pw_below_drewN | apply below_drew1) | exact HB.out))) : w.heap.size ≤ gb348)); clear HB; have HB := n0_; have BK348 := n1_; have GW348 := n2_; have GE348 := n3_; clear n0_ n1_ n2_ n3_; clear hb hbox hg; have hcz8_0 : w7.cell? ⟨gb348, 0, none⟩ = some (.int .i64 a0_0) := (blk_cell BK348.out 0).trans rfl; have hcz8_1 : w7.cell? ⟨gb348, 1, none⟩ = some (.int .i64 a0_1) := (blk_cell BK348.out 1).trans rfl; have hcz8_2 : w7.cell? ⟨gb348, 2, none⟩ = some (.int .i64 a0_2) := (blk_cell BK348.out 2).trans rfl; have hcz8_3 : w7.cell? ⟨gb348, 3, none⟩ = some (.int .i64 a0_3) := (blk_cell BK348.out 3).trans rfl; have hcz8_4 : w7.cell? ⟨gb348, 4, none⟩ = some (.int .i64 a0_4) := (blk_cell BK348.out 4).trans rfl; have hfz8_0 := blk_frozen BK348.out 0; have hfz8_1 := blk_frozen BK348.out 1; have hfz8_2 := blk_frozen BK348.out 2; have hfz8_3 := blk_frozen BK348.out 3; have hfz8_4 := blk_frozen BK348.out 4) | ((with_reducible refine gate_callee (f := 46) rfl ?_); refine goesL_ (some 12) rfl rfl Tryd.func46 (by kernel_rfl) rfl #[.int .i64 a1, .int .i64 a0_0, .int .i64 a0_2] rfl (by (try simp only [List.map_toArray, List.map_cons, List.map_nil]); first | done | rfl | (simp only [List.length_drop, List.length_take]; rfl)) ?_; (with_reducible refine (impl_among.calls a1 a0_0 a0_2 true _ A4.out).mono ?_); rintro e w' ⟨rfl, ⟨nd, rfl⟩⟩; refine ⟨_, rfl, ?_⟩) | (go_at_call 46; (with_reducible refine (impl_among.calls a2 a0_1 a0_3 t350 _ A6.out).mono ?_); rintro e w' ⟨rfl, ⟨nd, rfl⟩⟩))
    go_ret
    exact ⟨by first | rfl | (simp [IntKind.wrap_i64, wrap64]; done) | (simp [errW_none, errW_some] <;> rfl) | (simp [*, errW_none, errW_some] <;> rfl), by repeat (first | (with_reducible first | exact HB.out | apply below_alloc | apply pw_below_drewN | apply below_drew1 | refine below_set ?_ GE348.out) | exact HB.out)⟩
  · replace c5 := Bool.eq_false_iff.mpr c5
    subst c5
    have H1 : (some false) = some r := by rw [if_neg (show ¬ (false = true) by decide)] at H; exact H
    clear H
    have H := H1
    clear H1
    obtain rfl := Option.some.inj H
    go_enter Tryd.func27, Tryd.ntmps27
    go_wp2_with (first | ((with_reducible refine gate_dst (N := 3) rfl ?_); refine box_event ?hg (N := 3) ?hd (cs := #[.int .i64 a0_0, .int .i64 a0_1, .int .i64 a0_2, .int .i64 a0_3, .int .i64 a0_4]) (t := 37) ?hr ?_; (case hd => rfl); (case hg => rfl); (case hr => first | (go_simp; done) | (go_simp; rfl)); intro gb348 hg w9 hbox hb; have n0_ := Aside0.mk (below_step (by repeat (first | (with_reducible first | exact HB.out | apply below_alloc | apply pw_below_drewN | apply below_drew1) | exact HB.out)) hb); have n1_ := Aside0.mk (hbox); have n2_ := Aside0.mk ((by rw [hg]; exact (below_size (by repeat (first | (with_reducible first | exact HB.out | apply below_alloc | apply pw_below_drewN | apply below_drew1) | exact HB.out))) : w.heap.size ≤ gb348)); have n3_ := Aside0.mk ((by rw [hg]; exact (below_size (by repeat (first | (with_reducible first | exact HB.out | apply below_alloc | apply pw_below_drewN | apply below_drew1) | exact HB.out))) : w.heap.size ≤ gb348)); clear HB; have HB := n0_; have BK348 := n1_; have GW348 := n2_; have GE348 := n3_; clear n0_ n1_ n2_ n3_; clear hb hbox hg; have hcz10_0 : w9.cell? ⟨gb348, 0, none⟩ = some (.int .i64 a0_0) := (blk_cell BK348.out 0).trans rfl; have hcz10_1 : w9.cell? ⟨gb348, 1, none⟩ = some (.int .i64 a0_1) := (blk_cell BK348.out 1).trans rfl; have hcz10_2 : w9.cell? ⟨gb348, 2, none⟩ = some (.int .i64 a0_2) := (blk_cell BK348.out 2).trans rfl; have hcz10_3 : w9.cell? ⟨gb348, 3, none⟩ = some (.int .i64 a0_3) := (blk_cell BK348.out 3).trans rfl; have hcz10_4 : w9.cell? ⟨gb348, 4, none⟩ = some (.int .i64 a0_4) := (blk_cell BK348.out 4).trans rfl; have hfz10_0 := blk_frozen BK348.out 0; have hfz10_1 := blk_frozen BK348.out 1; have hfz10_2 := blk_frozen BK348.out 2; have hfz10_3 := blk_frozen BK348.out 3; have hfz10_4 := blk_frozen BK348.out 4) | ((with_reducible refine gate_callee (f := 46) rfl ?_); refine goesL_ (some 12) rfl rfl Tryd.func46 (by kernel_rfl) rfl #[.int .i64 a1, .int .i64 a0_0, .int .i64 a0_2] rfl (by (try simp only [List.map_toArray, List.map_cons, List.map_nil]); first | done | rfl | (simp only [List.length_drop, List.length_take]; rfl)) ?_; (with_reducible refine (impl_among.calls a1 a0_0 a0_2 false _ A4.out).mono ?_); rintro e w' ⟨rfl, ⟨nd, rfl⟩⟩; refine ⟨_, rfl, ?_⟩))
    go_ret
    exact ⟨by first | rfl | (simp [IntKind.wrap_i64, wrap64]; done) | (simp [errW_none, errW_some] <;> rfl) | (simp [*, errW_none, errW_some] <;> rfl), by repeat (first | (with_reducible first | exact HB.out | apply below_alloc | apply pw_below_drewN | apply below_drew1 | refine below_set ?_ GE348.out) | exact HB.out)⟩


end Go.Proofs.YtkbcmbjoelkgoacDoor.Q
