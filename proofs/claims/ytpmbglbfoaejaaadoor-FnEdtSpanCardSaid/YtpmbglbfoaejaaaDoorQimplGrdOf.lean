-- Told by a program of this session (uprint.py, ulay.py).
import Derived.Test.YtpmbglbfoaejaaaDoorQ0
import Derived.Test.YtpmbglbfoaejaaaDoorReg
import Derived.Test.YtpmbglbfoaejaaaDoorQimplin
import Derived.Test.YtpmbglbfoaejaaaDoorQimplCellOk
import Derived.Test.YtpmbglbfoaejaaaDoorQimplTblTablecopied
import Derived.Test.YtpmbglbfoaejaaaDoorQspecTblOk
import Derived.Test.YtpmbglbfoaejaaaDoorQspecl20AnyTable
import Derived.Test.YtpmbglbfoaejaaaDoorQimplEdtSpan
namespace Go.Proofs.YtpmbglbfoaejaaaDoor.Q
open Go.RowKit Go.Proofs.YtpmbglbfoaejaaaDoorW.PrintWords Go.Proofs.YtpmbglbfoaejaaaDoorW.PrintLast Go.Proofs.YtpmbglbfoaejaaaDoorW.PrintMore Go.Proofs.YtpmbglbfoaejaaaDoor.Reg Go.Proofs.YtpmbglbfoaejaaaDoor.Box
attribute [local go_sem] max2_int min2_int max_two min_two max_three min_three max_four min_four
set_option linter.unusedVariables false
set_option linter.unusedSimpArgs false

/-! ### impl_GrdOf: function 10 (by hand) -/
/-- The lesser and the greater of two, as Go's builtins tell them. -/
def pgMin (a b : Int) : Int := if b < a then b else a
def pgMax (a b : Int) : Int := if a < b then b else a
def ppEnds (hd ft : Int) (n : Nat) : List Int := [hd, wrap64 ((n : Int) - ft), (n : Int)]
/-- Where a cell comes to lie: the first column that is free. -/
def impl_GrdOf.fit (k : Nat) (ds : List S47) : Nat → S47 → Option S47
  | 0, _ => none
  | n + 1, t => (impl_ccells.f k ds t.f0 t.f1 t.f2 t.f3 t.f4).bind fun b => if b = true then (if 0 ≤ t.f1 ∧ t.f1 < 1000000 then impl_GrdOf.fit k ds n { t with f1 := t.f1 + 1 } else none) else some t
def impl_GrdOf.cs (k : Nat) (l0 : List S59) (hd ft : Int) (l3 : List S40) (gp : Int) (r : List S37) (i : Nat) : Nat → Nat → Int → List S47 → Option (Int × List S47)
  | 0, _, wd, ds => some (wd, ds)
  | m + 1, j, wd, ds => (impl_TblTable_part.f l0 hd ft l3 gp i).bind fun p => if 0 ≤ p ∧ p < 3 then (impl_GrdOf.fit k ds k ⟨i, 0, pgMin (rd_T37 r j).f2 (wrap64 ((ppEnds hd ft l3.length).getD p.toNat 0 - i)), (rd_T37 r j).f1, j⟩).bind fun t =>
    if ds.length < 3518437208883 then impl_GrdOf.cs k l0 hd ft l3 gp r i m (j + 1) (pgMax wd (wrap64 (t.f1 + t.f3))) (ds ++ [t]) else none else none
def impl_GrdOf.rs (k : Nat) (l0 : List S59) (hd ft : Int) (l3 : List S40) (gp : Int) : Nat → Nat → Int → List S47 → Option (Int × List S47)
  | 0, _, wd, ds => some (wd, ds)
  | n + 1, i, wd, ds => (impl_GrdOf.cs k l0 hd ft l3 gp (rd_T40 l3 i).f0 i (rd_T40 l3 i).f0.length 0 wd ds).bind fun a => impl_GrdOf.rs k l0 hd ft l3 gp n (i + 1) a.1 a.2
def impl_GrdOf.f (k : Nat) (l0_0 : List S59) (a0_1 : Int) (a0_2 : Int) (l0_3 : List S40) (a0_4 : Int) : Option (Int × Int × List S47) :=
  (impl_TblOk.f k l0_0 a0_1 a0_2 l0_3 a0_4).bind fun b => if b = true then (impl_GrdOf.rs k l0_0 a0_1 a0_2 l0_3 a0_4 l0_3.length 0 (pgMax (l0_0.length : Int) 1) []).bind fun a => some ((l0_3.length : Int), a.1, a.2) else some (0, 0, [])
theorem impl_GrdOf.mono_f (k : Nat) (ds : List S47) : ∀ n t, LeO (impl_GrdOf.fit k ds n t) (impl_GrdOf.fit (k + 1) ds (n + 1) t)
  | 0, _ => LeO.none _
  | n + 1, t => by
    unfold impl_GrdOf.fit
    exact LeO.bind (impl_ccells.mono _ _ _ _ _ _ _) fun _ => LeO.ite (LeO.ite (impl_GrdOf.mono_f k ds n _) (LeO.none _)) (LeO.refl _)
theorem impl_GrdOf.mono_c (k : Nat) (l0 : List S59) (hd ft : Int) (l3 : List S40) (gp : Int) (r : List S37) (i : Nat) : ∀ m j wd ds, LeO (impl_GrdOf.cs k l0 hd ft l3 gp r i m j wd ds) (impl_GrdOf.cs (k + 1) l0 hd ft l3 gp r i m j wd ds)
  | 0, _, _, _ => LeO.refl _
  | m + 1, j, wd, ds => by
    unfold impl_GrdOf.cs
    exact LeO.bind (LeO.refl _) fun _ => LeO.ite (LeO.bind (impl_GrdOf.mono_f _ _ _ _) fun _ => LeO.ite (impl_GrdOf.mono_c k l0 hd ft l3 gp r i m _ _ _) (LeO.none _)) (LeO.none _)
theorem impl_GrdOf.mono_r (k : Nat) (l0 : List S59) (hd ft : Int) (l3 : List S40) (gp : Int) : ∀ n i wd ds, LeO (impl_GrdOf.rs k l0 hd ft l3 gp n i wd ds) (impl_GrdOf.rs (k + 1) l0 hd ft l3 gp n i wd ds)
  | 0, _, _, _ => LeO.refl _
  | n + 1, i, wd, ds => by
    unfold impl_GrdOf.rs
    exact LeO.bind (impl_GrdOf.mono_c _ _ _ _ _ _ _ _ _ _ _ _) fun _ => impl_GrdOf.mono_r k l0 hd ft l3 gp n _ _ _
theorem impl_GrdOf.mono : ∀ a0 a1 a2 a3 a4 k, LeO (impl_GrdOf.f k a0 a1 a2 a3 a4) (impl_GrdOf.f (k + 1) a0 a1 a2 a3 a4) := fun _ _ _ _ _ k => by
  unfold impl_GrdOf.f
  exact LeO.bind (impl_TblOk.mono _ _ _ _ _ _) fun _ => LeO.ite (LeO.bind (impl_GrdOf.mono_r _ _ _ _ _ _ _ _ _ _) fun _ => LeO.refl _) (LeO.refl _)
def impl_GrdOf.T11 : Bool × List (List Nat × List Nat) := (true, [([], []), ([], []), ([1], [1]), ([], []), ([], []), ([3, 4], [3, 4]), ([5], [5]), ([6], [6]), ([], []), ([7, 8], [7, 8]), ([2, 9], [2, 9]), ([], []), ([11], [11]), ([], []), ([0, 10, 12, 13], [0, 10, 12, 13]), ([], []), ([15, 14, 5, 0, 1, 2, 3, 4, 5, 6, 7, 8, 9, 10, 11, 12, 13, 14, 15], [14, 15])])
def impl_GrdOf.B11 : List Nat := [0, 0, 2, 0, 0, 24, 56, 120, 0, 504, 1022, 0, 2048, 0, 16383, 0, 65535]
def impl_GrdOf.L11 : List (Nat × Tmp) := [(0, 50), (1, 51), (2, 52), (3, 53), (4, 54), (5, 55), (6, 56), (7, 57), (8, 58), (9, 59), (10, 60), (11, 61), (12, 62), (13, 63), (14, 64), (15, 9)]
def impl_GrdOf.O11 : List Nat := [0, 1, 2, 3, 4, 5, 6, 7, 8, 9, 10, 11, 12, 13, 14, 15, 16]
theorem impl_GrdOf.tab11 : rtab .any (opsOf Tryd.f10 11) = impl_GrdOf.T11 := by kernel_rfl
theorem impl_GrdOf.bits11 : waitsOk impl_GrdOf.T11.2 impl_GrdOf.B11 = true := by kernel_rfl
theorem impl_GrdOf.base11 : baseOk impl_GrdOf.T11.2 impl_GrdOf.O11 = true := by kernel_rfl
theorem impl_GrdOf.lof11 : (lof impl_GrdOf.T11.2.length impl_GrdOf.O11 (fun _ => false) == List.replicate impl_GrdOf.T11.2.length false && impl_GrdOf.O11.length == impl_GrdOf.T11.2.length) = true := by kernel_rfl
theorem impl_GrdOf.ents11 : chkL (opsOf Tryd.f10 11) impl_GrdOf.O11 impl_GrdOf.L11 = true := by kernel_rfl
theorem impl_GrdOf.last11 : lastOk impl_GrdOf.B11 impl_GrdOf.O11 16 = true := by kernel_rfl
def impl_GrdOf.F11 : Nat → Option (Nat → Value)
  | 15 => some (fun C => .pointer (some ⟨C, 0, none⟩))
  | _ => none
def impl_GrdOf.V11 (vt : Value) (xb D i j p : Nat) (f2 f1 e h : Int) : Nat → Value
  | 0 | 4 | 8 => .int .i64 i
  | 1 => .pointer (some ⟨xb, 2, none⟩)
  | 2 => .int .i64 f2
  | 3 => vt
  | 5 => .int .i64 p
  | 6 => .pointer (some ⟨D, p, none⟩)
  | 7 => .int .i64 e
  | 9 => .int .i64 (wrap64 (e - (i : Int)))
  | 10 => .int .i64 h
  | 11 => .pointer (some ⟨xb, 1, none⟩)
  | 12 => .int .i64 f1
  | 13 => .int .i64 j
  | 14 => .agg (outA i 0 h f1 j)
  | _ => undef
set_option maxHeartbeats 4000000 in
set_option maxRecDepth 100000 in
theorem impl_GrdOf.calls (k : Nat) (A0_0 : Option Addr) (c0_0 : Nat) (l0_0 : List (S59)) (a0_1 : Int) (a0_2 : Int) (A0_3 : Option Addr) (c0_3 : Nat) (l0_3 : List (S40)) (a0_4 : Int) (r1 : Int) (r2 : Int) (r3 : List (S47)) (w : World) (hr0_0 : Kd.C k59 w A0_0 l0_0.length l0_0) (hc0_0 : l0_0.length ≤ c0_0) (hr0_3 : Kd.C k40 w A0_3 l0_3.length l0_3) (hc0_3 : l0_3.length ≤ c0_3) (hM : Txt.MLen w) (h : impl_GrdOf.f k l0_0 a0_1 a0_2 l0_3 a0_4 = some (r1, r2, r3)) :
    Calls Tryd.prog 10 #[.agg #[.slice A0_0 l0_0.length c0_0, .int .i64 a0_1, .int .i64 a0_2, .slice A0_3 l0_3.length c0_3, .int .i64 a0_4]] w fun e w' => ∃ v2_ : Value, e = .returned (.agg #[.int .i64 r1, .int .i64 r2, v2_]) ∧ Kd.R k47 47 w' w.heap.size (fun _ => True) v2_ r3 ∧ Below w.heap.size w w' := by
  have HM := Aside0.mk hM
  have HR0 := Aside0.mk hr0_0
  have HC0 := Aside0.mk hc0_0
  have HR3 := Aside0.mk hr0_3
  have HC3 := Aside0.mk hc0_3
  have HM3 := Kd.C_max hr0_3
  have HM0 := Kd.C_max hr0_0
  clear hM hr0_0 hc0_0 hr0_3 hc0_3
  unfold impl_GrdOf.f at h
  obtain ⟨b, h1, h⟩ := Option.bind_eq_some_iff.1 h
  have AB := Aside0.mk h1
  clear h1
  have HH := Aside0.mk h
  clear h
  go_enter Tryd.func10, Tryd.ntmps10
  go_upto_region 1 with (fail)
  refine wp_letter (fun W0 => L3 w (l3A (.slice A0_0 l0_0.length c0_0) (.slice A0_3 l0_3.length c0_3) a0_1 a0_2 a0_4) W0) ⟨below_alloc (below_alloc (Below.refl _ _) _) _, blk_alloc (blk_new w _) _, by have := blk_new2 w (.cells (l3A (.slice A0_0 l0_0.length c0_0) (.slice A0_3 l0_3.length c0_3) a0_1 a0_2 a0_4) 26) (.cells #[.int .i64 0, .int .i64 0, .slice none 0 0] 43); exact this⟩ ?_
  rintro W1 hQ
  have HQ := Aside0.mk hQ
  clear hQ
  have h := HH.out
  clear HH
  cases b
  · rw [if_neg (by decide)] at h
    simp only [Option.some.injEq, Prod.mk.injEq] at h
    obtain ⟨rfl, rfl, rfl⟩ := h
    go_wp2_with (first | (refine wpList_load_row rfl 26 _ rfl w.heap.size rfl 26 (l3A (.slice A0_0 l0_0.length c0_0) (.slice A0_3 l0_3.length c0_3) a0_1 a0_2 a0_4) (0, 0) _ HQ.out.pb Tryd.underlying26 rfl (by kernel_rfl) ?_) | (go_at_call 12; (with_reducible refine (impl_TblOk.calls k A0_0 c0_0 l0_0 a0_1 a0_2 A0_3 c0_3 l0_3 a0_4 false _ (Kd.C_below HR0.out HQ.out.bl) HC0.out (Kd.C_below HR3.out HQ.out.bl) HC3.out (Txt.MLen_below HM.out HQ.out.bl) AB.out).mono ?_); rintro e_ W2 ⟨rfl, hb⟩; replace HQ := Aside0.mk (HQ.out.below hb); clear hb) | (refine wpList_put 43 _ _ rfl rfl (w.heap.size + 1) 0 rfl (.agg (gridA 0 0 (.slice none 0 0))) rfl 43 #[.int .i64 0, .int .i64 0, .slice none 0 0] (gridA 0 0 (.slice none 0 0)) HQ.out.zb (by kernel_rfl) rfl rfl rfl (fun W9 hp => ?_); have HFB := Aside0.mk hp.blk; have HF := Aside0.mk (pw_below_grown HQ.out.bl _ (Nat.le_trans (Nat.le_add_right _ 2) HQ.out.size) hp.grown (fun k hk => by injection hk with hk; omega)); clear hp))
    exact bodyPost_ret (results_cell_row rfl _ _ (w.heap.size + 1) 43 (gridA 0 0 (.slice none 0 0)) (0, 0) _ rfl HFB.out Tryd.underlying43 rfl (by kernel_rfl)) rfl ⟨_, rfl, Kd.R_nil _ _ _ _ _, HF.out⟩
  rw [if_pos rfl] at h
  obtain ⟨⟨wd2, ds2⟩, h1, h⟩ := Option.bind_eq_some_iff.1 h
  have AL := Aside0.mk h1
  clear h1
  simp only [Option.some.injEq, Prod.mk.injEq] at h
  obtain ⟨rfl, rfl, rfl⟩ := h
  go_upto_region 3 with (first | (refine wpList_load_row rfl 26 _ rfl w.heap.size rfl 26 (l3A (.slice A0_0 l0_0.length c0_0) (.slice A0_3 l0_3.length c0_3) a0_1 a0_2 a0_4) (0, 0) _ HQ.out.pb Tryd.underlying26 rfl (by kernel_rfl) ?_) | (go_at_call 12; (with_reducible refine (impl_TblOk.calls k A0_0 c0_0 l0_0 a0_1 a0_2 A0_3 c0_3 l0_3 a0_4 true _ (Kd.C_below HR0.out HQ.out.bl) HC0.out (Kd.C_below HR3.out HQ.out.bl) HC3.out (Txt.MLen_below HM.out HQ.out.bl) AB.out).mono ?_); rintro e_ W2 ⟨rfl, hb⟩; replace HQ := Aside0.mk (HQ.out.below hb); clear hb))
  have q0 : W2.cell? ⟨w.heap.size, 0, none⟩ = some (.slice A0_0 l0_0.length c0_0) := (blk_cell HQ.out.pb 0).trans rfl
  have q1 : W2.cell? ⟨w.heap.size, 1, none⟩ = some (.int .i64 a0_1) := (blk_cell HQ.out.pb 1).trans rfl
  have q2 : W2.cell? ⟨w.heap.size, 2, none⟩ = some (.int .i64 a0_2) := (blk_cell HQ.out.pb 2).trans rfl
  have q3 : W2.cell? ⟨w.heap.size, 3, none⟩ = some (.slice A0_3 l0_3.length c0_3) := (blk_cell HQ.out.pb 3).trans rfl
  obtain ⟨t, ht⟩ : ∃ t, pgMax (l0_0.length : Int) 1 = t := ⟨_, rfl⟩
  rw [ht] at AL
  go_cut [3] (fun s3 wx => s3 = .pointer (some ⟨W2.heap.size, 0, none⟩) ∧ Aside0 (L3 w (l3A (.slice A0_0 l0_0.length c0_0) (.slice A0_3 l0_3.length c0_3) a0_1 a0_2 a0_4) wx ∧ wx.heap[W2.heap.size]? = some (.cells (gridA l0_3.length t (.slice none 0 0)) 43 (0, 0))))
  case first =>
    unfold pgMax at ht
    by_cases hm : (l0_0.length : Int) < 1
    · rw [if_pos hm] at ht
      subst ht
      go_wp2
      go_meet
      exact ⟨rfl, ⟨HQ.out.alloc _, blk_new W2 _⟩⟩
    · rw [if_neg hm] at ht
      subst ht
      go_wp2
      go_meet
      exact ⟨rfl, ⟨HQ.out.alloc _, blk_new W2 _⟩⟩
  case rest =>
    obtain ⟨rfl, hcw⟩ := hcut
    clear q0 q1 q2 q3
    have HCN := Aside0.mk (show w.heap.size + 2 ≤ W2.heap.size from HQ.out.size)
    obtain ⟨C, hC⟩ : ∃ C, W2.heap.size = C := ⟨_, rfl⟩
    rw [hC] at hcw HCN ⊢
    clear hC HQ
    have HQ := Aside0.mk hcw.out.1
    have HG := Aside0.mk hcw.out.2
    clear hcw
    have q1 : wc.cell? ⟨w.heap.size, 1, none⟩ = some (.int .i64 a0_1) := (blk_cell HQ.out.pb 1).trans rfl
    have q2 : wc.cell? ⟨w.heap.size, 2, none⟩ = some (.int .i64 a0_2) := (blk_cell HQ.out.pb 2).trans rfl
    have q3 : wc.cell? ⟨w.heap.size, 3, none⟩ = some (.slice A0_3 l0_3.length c0_3) := (blk_cell HQ.out.pb 3).trans rfl
    go_upto_region 5 with (fail)
    refine wp_letter (fun W0 => L3 w (l3A (.slice A0_0 l0_0.length c0_0) (.slice A0_3 l0_3.length c0_3) a0_1 a0_2 a0_4) W0 ∧ W0.heap[C]? = some (.cells (gridA l0_3.length t (.slice none 0 0)) 43 (0, 0)) ∧ W0.heap[wc.heap.size]? = some (.cells #[.int .i64 a0_1, .int .i64 (wrap64 ((l0_3.length : Int) - a0_2)), .int .i64 l0_3.length] 64 (0, 0)) ∧ C < wc.heap.size) ⟨HQ.out.alloc _, blk_alloc HG.out _, blk_new wc _, blk_lt HG.out⟩ ?_
    rintro W3 ⟨hQ, hG, hE, hCD⟩
    generalize wc.heap.size = D at hE hCD ⊢
    clear q1 q2 q3 HQ HG
    have HQ := Aside0.mk hQ
    have HG := Aside0.mk hG
    have HE := Aside0.mk hE
    have HCD := Aside0.mk hCD
    clear hQ hG hE hCD
    have q3 : W3.cell? ⟨w.heap.size, 3, none⟩ = some (.slice A0_3 l0_3.length c0_3) := (blk_cell HQ.out.pb 3).trans rfl
    go_wp2
    clear q3
    go_loopg [37] l0_3.length (fun gg s37 wr => ∃ (n i : Nat) (wd : Int) (ds : List S47) (v : Value), n ≤ gg ∧ i + n = l0_3.length ∧ s37 = .int .i64 i ∧ Aside0 (impl_GrdOf.rs k l0_0 a0_1 a0_2 l0_3 a0_4 n i wd ds = some (wd2, ds2)) ∧ Aside0 (L3 w (l3A (.slice A0_0 l0_0.length c0_0) (.slice A0_3 l0_3.length c0_3) a0_1 a0_2 a0_4) wr) ∧ Aside0 (wr.heap[C]? = some (.cells (gridA l0_3.length wd v) 43 (0, 0))) ∧ Aside0 (wr.heap[D]? = some (.cells #[.int .i64 a0_1, .int .i64 (wrap64 ((l0_3.length : Int) - a0_2)), .int .i64 l0_3.length] 64 (0, 0))) ∧ Aside0 (Kd.R k47 47 wr (w.heap.size + 2) (fun _ => True) v ds))
    case atStart => exact ⟨l0_3.length, 0, t, [], .slice none 0 0, Nat.le_refl _, by omega, rfl, AL, HQ, HG, HE, ⟨Kd.R_nil _ _ _ _ _⟩⟩
    case round =>
      obtain ⟨n, i, wd, ds, v, hg, hin, rfl, HL, HQ1, HG1, HE1, HR1⟩ := hrel
      clear HQ HG HE AL
      cases n with
      | zero =>
        have hl := HL.out
        unfold impl_GrdOf.rs at hl
        injection Option.some.inj hl with e1 e2
        subst e1 e2
        have hlt : ¬ (i : Int) < (l0_3.length : Int) := by omega
        clear hl HL
        obtain ⟨X1, n1, c1, rfl⟩ : ∃ X1 n1 c1, v = .slice X1 n1 c1 := (Kd.R_slice HR1.out).imp fun _ h => ⟨_, h⟩
        go_wp2_with (first | (refine wpList_load_row rfl 43 _ rfl C rfl 43 (gridA l0_3.length wd (.slice X1 n1 c1)) (0, 0) _ HG1.out Tryd.underlying43 rfl (by kernel_rfl) ?_) | (refine wpList_put 43 _ _ rfl rfl (w.heap.size + 1) 0 rfl (.agg (gridA l0_3.length wd (.slice X1 n1 c1))) rfl 43 #[.int .i64 0, .int .i64 0, .slice none 0 0] (gridA l0_3.length wd (.slice X1 n1 c1)) HQ1.out.zb (by kernel_rfl) rfl rfl rfl (fun W9 hp => ?_); have HFB := Aside0.mk hp.blk; have HF := Aside0.mk (pw_below_grown HQ1.out.bl _ (Nat.le_trans (Nat.le_add_right _ 2) HQ1.out.size) hp.grown (fun k hk => by injection hk with hk; omega)); have HFR := Aside0.mk (R_put HR1.out HQ1.out.zb hp (by decide)); clear hp))
        exact bodyPost_ret (results_cell_row rfl _ _ (w.heap.size + 1) 43 (gridA l0_3.length wd (.slice X1 n1 c1)) (0, 0) _ rfl HFB.out Tryd.underlying43 rfl (by kernel_rfl)) rfl ⟨_, rfl, Kd.R_mono (Kd.R_lower HFR.out (Nat.le_add_right _ 2)) (fun _ _ => trivial), HF.out⟩
      | succ n =>
        have hl := HL.out
        unfold impl_GrdOf.rs at hl
        rw [Option.bind_eq_some_iff] at hl
        obtain ⟨⟨wd1, ds1⟩, h1, hl⟩ := hl
        have AC := Aside0.mk h1
        have HL2 := Aside0.mk hl
        have hlt : (i : Int) < (l0_3.length : Int) := by omega
        clear hl h1 HL
        obtain ⟨ad, A1, c1, hA, hx0, hx1, hl1, hC1⟩ := at_T40 HR3.out i (by omega) hlt
        replace hx0 := (HQ1.out.bl.cell (World.block_lt_of_cell? w _ hx0)).trans hx0
        replace hx1 := (HQ1.out.bl.cell (World.block_lt_of_cell? w _ hx1)).trans hx1
        have hmj := Kd.C_max hC1
        simp only [Int.toNat_natCast] at hx0 hx1
        subst hA
        obtain ⟨rw_, hrw⟩ : ∃ rw_, rd_T40 l0_3 i = rw_ := ⟨_, rfl⟩
        rw [hrw] at hx0 hx1 hl1 hC1 hmj AC
        clear hrw
        have HCW := Aside0.mk hC1
        clear hC1
        go_upto_region 8 with (fail)
        refine wp_letter (fun W0 => L3 w (l3A (.slice A0_0 l0_0.length c0_0) (.slice (some ad) l0_3.length c0_3) a0_1 a0_2 a0_4) W0 ∧ W0.heap[C]? = some (.cells (gridA l0_3.length wd v) 43 (0, 0)) ∧ W0.heap[D]? = some (.cells #[.int .i64 a0_1, .int .i64 (wrap64 ((l0_3.length : Int) - a0_2)), .int .i64 l0_3.length] 64 (0, 0)) ∧ Kd.R k47 47 W0 (w.heap.size + 2) (fun _ => True) v ds ∧ W0.heap[wr.heap.size]? = some (.cells #[.slice A1 rw_.f0.length c1, .bool rw_.f1] 40 (0, 0))) ⟨HQ1.out.alloc _, blk_alloc HG1.out _, blk_alloc HE1.out _, Kd.R_alloc HR1.out _, blk_new wr _⟩ ?_
        rintro W4 ⟨hQ, hG, hE, hR, hX⟩
        clear hx0 hx1 HQ1 HG1 HE1 HR1
        have HQ := Aside0.mk hQ
        have HG := Aside0.mk hG
        have HE := Aside0.mk hE
        have HR := Aside0.mk hR
        have qx : W4.cell? ⟨wr.heap.size, 0, none⟩ = some (.slice A1 rw_.f0.length c1) := (blk_cell hX 0).trans rfl
        clear hQ hG hE hR hX
        go_wp2
        clear qx
        go_loopg [45] rw_.f0.length (fun gg s45 wr => ∃ (m j : Nat) (wd : Int) (ds : List S47) (v : Value), m ≤ gg ∧ j + m = rw_.f0.length ∧ s45 = .int .i64 j ∧ Aside0 (impl_GrdOf.cs k l0_0 a0_1 a0_2 l0_3 a0_4 rw_.f0 i m j wd ds = some (wd1, ds1)) ∧ Aside0 (L3 w (l3A (.slice A0_0 l0_0.length c0_0) (.slice (some ad) l0_3.length c0_3) a0_1 a0_2 a0_4) wr) ∧ Aside0 (wr.heap[C]? = some (.cells (gridA l0_3.length wd v) 43 (0, 0))) ∧ Aside0 (wr.heap[D]? = some (.cells #[.int .i64 a0_1, .int .i64 (wrap64 ((l0_3.length : Int) - a0_2)), .int .i64 l0_3.length] 64 (0, 0))) ∧ Aside0 (Kd.R k47 47 wr (w.heap.size + 2) (fun _ => True) v ds))
        case atStart => exact ⟨_, 0, wd, ds, v, Nat.le_refl _, by omega, rfl, AC, HQ, HG, HE, HR⟩
        case round =>
          clear HQ HG HE HR AC
          obtain ⟨m, j, wd, ds, v, hg2, hjm, rfl, HL, HQ, HG, HE, HR⟩ := hrel
          cases m with
          | zero =>
            have hl := HL.out
            unfold impl_GrdOf.cs at hl
            injection Option.some.inj hl with e1 e2
            subst e1 e2
            have hltj : ¬ (j : Int) < (rw_.f0.length : Int) := by omega
            clear hl HL
            go_wp2
            go_roundg n
            case measure => omega
            case rel => exact ⟨n, i + 1, wd, ds, v, Nat.le_refl _, by omega, by go_num, HL2, HQ, HG, HE, HR⟩
          | succ m =>
            have hl := HL.out
            unfold impl_GrdOf.cs at hl
            rw [Option.bind_eq_some_iff] at hl
            obtain ⟨p0, h1, hl⟩ := hl
            have AE := Aside0.mk h1
            clear h1
            by_cases hp3 : 0 ≤ p0 ∧ p0 < 3
            rotate_left
            · rw [if_neg hp3] at hl; cases hl
            rw [if_pos hp3] at hl
            obtain ⟨p, rfl⟩ := Int.eq_ofNat_of_zero_le hp3.1
            rw [Option.bind_eq_some_iff] at hl
            obtain ⟨t2, h1, hl⟩ := hl
            have AT := Aside0.mk h1
            clear h1
            by_cases hds : ds.length < 3518437208883
            rotate_left
            · rw [if_neg hds] at hl; cases hl
            rw [if_pos hds] at hl
            have HDS := Aside0.mk hds
            have HL4 := Aside0.mk hl
            have hp3n : p < 3 := by omega
            have hltj : (j : Int) < (rw_.f0.length : Int) := by omega
            clear hl HL hds hp3
            obtain ⟨ad2, hA, y0, y1, y2, y3, y4, y5, y6, y7, y8, y9, y10⟩ := at_T37 (Kd.C_below HCW.out HQ.out.bl) j (by omega) hltj
            simp only [Int.toNat_natCast] at y0 y1 y2 y3 y4 y5 y6 y7 y8 y9 y10 AT
            subst hA
            obtain ⟨x, hx⟩ : ∃ x, rd_T37 rw_.f0 j = x := ⟨_, rfl⟩
            rw [hx] at y0 y1 y2 y3 y4 y5 y6 y7 y8 y9 y10
            rw [hx] at AT
            clear hx
            obtain ⟨ev, hev⟩ : ∃ ev, (ppEnds a0_1 a0_2 l0_3.length).getD p 0 = ev := ⟨_, rfl⟩
            have hec : (#[.int .i64 a0_1, .int .i64 (wrap64 ((l0_3.length : Int) - a0_2)), .int .i64 l0_3.length] : Array Value)[p]? = some (.int .i64 ev) := by
              rw [← hev]
              match p, hp3n with
              | 0, _ => rfl
              | 1, _ => rfl
              | 2, _ => rfl
            have hes : p < (#[.int .i64 a0_1, .int .i64 (wrap64 ((l0_3.length : Int) - a0_2)), .int .i64 l0_3.length] : Array Value).size := hp3n
            obtain ⟨h2, hh2⟩ : ∃ h2, pgMin x.f2 (wrap64 (ev - (i : Int))) = h2 := ⟨_, rfl⟩
            rw [hev, hh2] at AT
            clear hev
            go_upto_region 11 with (fail)
            refine wp_letter (fun W0 => L3 w (l3A (.slice A0_0 l0_0.length c0_0) (.slice (some ad) l0_3.length c0_3) a0_1 a0_2 a0_4) W0 ∧ W0.heap[C]? = some (.cells (gridA l0_3.length wd v) 43 (0, 0)) ∧ W0.heap[D]? = some (.cells #[.int .i64 a0_1, .int .i64 (wrap64 ((l0_3.length : Int) - a0_2)), .int .i64 l0_3.length] 64 (0, 0)) ∧ Kd.R k47 47 W0 (w.heap.size + 2) (fun k => k < W0.heap.size) v ds ∧ W0.heap[wr.heap.size]? = some (.cells #[.string x.f0, .int .i64 x.f1, .int .i64 x.f2, .int .i64 x.f3.f0, .int .i64 x.f3.f1, .int .i64 x.f4.f0, .int .i64 x.f4.f1, .int .i64 x.f5.f0, .int .i64 x.f5.f1, .int .i64 x.f6.f0, .int .i64 x.f6.f1] 37 (0, 0))) ⟨HQ.out.alloc _, blk_alloc HG.out _, blk_alloc HE.out _, Kd.R_mono (R_upto (Kd.R_alloc HR.out _)) (fun _ hk => hk.2), blk_new wr _⟩ ?_
            rintro W5 hQ
            generalize wr.heap.size = xb at hQ ⊢
            clear y0 y1 y2 y3 y4 y5 y6 y7 y8 y9 y10 HQ HG HE HR
            have HCM0 := blk_lt hQ.2.1
            have HDM0 := blk_lt hQ.2.2.1
            have HWM0 := Nat.le_refl W5.heap.size
            have HN2 := hQ.1.size
            obtain ⟨M5, hM5⟩ : ∃ M5, W5.heap.size = M5 := ⟨_, rfl⟩
            rw [hM5] at HCM0 HDM0 HN2 hQ
            conv at HWM0 => lhs; rw [hM5]
            have HCM := Aside0.mk HCM0
            have HDM := Aside0.mk HDM0
            have HNM := Aside0.mk HN2
            clear hM5 HCM0 HDM0 HN2
            have hk0 := fun W => KeepBut.refl W w.heap.size none
            refine region_envL (T := impl_GrdOf.T11) (B := impl_GrdOf.B11) impl_GrdOf.O11 impl_GrdOf.L11 16 (PhiB impl_GrdOf.F11 (fun _ => .cells (outA 0 0 0 0 0) 47 (0, 0)) (impl_GrdOf.V11 (.agg (l3A (.slice A0_0 l0_0.length c0_0) (.slice (some ad) l0_3.length c0_3) a0_1 a0_2 a0_4)) xb D i j p x.f2 x.f1 ev h2) M5)
              (fun _ W => L3 w (l3A (.slice A0_0 l0_0.length c0_0) (.slice (some ad) l0_3.length c0_3) a0_1 a0_2 a0_4) W ∧ W.heap[C]? = some (.cells (gridA l0_3.length wd v) 43 (0, 0)) ∧ W.heap[D]? = some (.cells #[.int .i64 a0_1, .int .i64 (wrap64 ((l0_3.length : Int) - a0_2)), .int .i64 l0_3.length] 64 (0, 0)) ∧ Kd.R k47 47 W (w.heap.size + 2) (fun k => k < M5) v ds ∧ W.heap[xb]? = some (.cells #[.string x.f0, .int .i64 x.f1, .int .i64 x.f2, .int .i64 x.f3.f0, .int .i64 x.f3.f1, .int .i64 x.f4.f0, .int .i64 x.f4.f1, .int .i64 x.f5.f0, .int .i64 x.f5.f1, .int .i64 x.f6.f0, .int .i64 x.f6.f1] 37 (0, 0)) ∧ M5 ≤ W.heap.size) (fun W W' => KeepBut W W' w.heap.size none)
              (fun e W => L3 w (l3A (.slice A0_0 l0_0.length c0_0) (.slice (some ad) l0_3.length c0_3) a0_1 a0_2 a0_4) W ∧ W.heap[C]? = some (.cells (gridA l0_3.length wd v) 43 (0, 0)) ∧ W.heap[D]? = some (.cells #[.int .i64 a0_1, .int .i64 (wrap64 ((l0_3.length : Int) - a0_2)), .int .i64 l0_3.length] 64 (0, 0)) ∧ Kd.R k47 47 W (w.heap.size + 2) (fun k => k < M5) v ds ∧ ∃ C9, e 15 = .pointer (some ⟨C9, 0, none⟩) ∧ M5 ≤ C9 ∧ W.heap[C9]? = some (.cells (outA i 0 h2 x.f1 j) 47 (0, 0)))
              rfl impl_GrdOf.tab11 impl_GrdOf.bits11 impl_GrdOf.base11 impl_GrdOf.lof11 impl_GrdOf.ents11 impl_GrdOf.last11 (PhiB.keep (by have := HNM.out; omega)) ⟨hQ.1.drew, hQ.2.1, hQ.2.2.1, Kd.R_drew hQ.2.2.2.1, hQ.2.2.2.2, HWM0⟩ ?_ ?_ ?_
            · skip
              refine alln_cons (EStep.pure hk0 fun b E a' W ha hG hP => ?_) ?_
              · have s5 : a'.tmps[5]? = some (.int .i64 i) := (slot_off ha rfl).trans rfl
                exact ⟨_, .int .i64 i, rfl, rfl, by clear ha hG hP; go_simp; try first | rfl | exact i64_w _, rfl, hG⟩
              refine alln_cons (EStep.pure hk0 fun b E a' W ha hG hP => ?_) ?_
              · have s8 : a'.tmps[8]? = some (.pointer (some ⟨xb, 0, none⟩)) := (slot_off ha rfl).trans rfl
                exact ⟨_, .pointer (some ⟨xb, 2, none⟩), rfl, rfl, by clear ha hG hP; go_simp; try first | rfl | exact i64_w _, rfl, hG⟩
              refine alln_cons (EStep.pure hk0 fun b E a' W ha hG hP => ?_) ?_
              · have s51 : a'.tmps[51]? = some (.pointer (some ⟨xb, 2, none⟩)) := slotv ha (hP 1 rfl).1 rfl (hP 1 rfl).2
                have hc : W.cell? ⟨xb, 2, none⟩ = some (.int .i64 x.f2) := (blk_cell hG.2.2.2.2.1 2).trans rfl
                exact ⟨_, .int .i64 x.f2, rfl, rfl, by clear ha hG hP; go_simp, rfl, hG⟩
              refine alln_cons (EStep.pure hk0 fun b E a' W ha hG hP => ?_) ?_
              · have s1 : a'.tmps[1]? = some (.pointer (some ⟨w.heap.size, 0, none⟩)) := (slot_off ha rfl).trans rfl
                have hc0 : W.cell? ⟨w.heap.size, 0, none⟩ = some (.slice A0_0 l0_0.length c0_0) := (blk_cell hG.1.pb 0).trans rfl
                have hc1 : W.cell? ⟨w.heap.size, 1, none⟩ = some (.int .i64 a0_1) := (blk_cell hG.1.pb 1).trans rfl
                have hc2 : W.cell? ⟨w.heap.size, 2, none⟩ = some (.int .i64 a0_2) := (blk_cell hG.1.pb 2).trans rfl
                have hc3 : W.cell? ⟨w.heap.size, 3, none⟩ = some (.slice (some ad) l0_3.length c0_3) := (blk_cell hG.1.pb 3).trans rfl
                have hc4 : W.cell? ⟨w.heap.size, 4, none⟩ = some (.int .i64 a0_4) := (blk_cell hG.1.pb 4).trans rfl
                exact ⟨_, .agg (l3A (.slice A0_0 l0_0.length c0_0) (.slice (some ad) l0_3.length c0_3) a0_1 a0_2 a0_4), rfl, rfl, by clear ha hG hP; go_simp; try rfl, rfl, hG⟩
              refine alln_cons (EStep.pure hk0 fun b E a' W ha hG hP => ?_) ?_
              · have s5 : a'.tmps[5]? = some (.int .i64 i) := (slot_off ha rfl).trans rfl
                exact ⟨_, .int .i64 i, rfl, rfl, by clear ha hG hP; go_simp; try first | rfl | exact i64_w _, rfl, hG⟩
              refine alln_cons (EStep.call Tryd.func25 (by kernel_rfl) rfl ⟨_, rfl, rfl, rfl⟩ fun b E a' W ha hG hP hoff hb => ⟨#[.agg (l3A (.slice A0_0 l0_0.length c0_0) (.slice (some ad) l0_3.length c0_3) a0_1 a0_2 a0_4), .int .i64 i], ?_, ?_⟩) ?_
              · have s53 : a'.tmps[53]? = some (.agg (l3A (.slice A0_0 l0_0.length c0_0) (.slice (some ad) l0_3.length c0_3) a0_1 a0_2 a0_4)) := slotv ha (hP 3 rfl).1 rfl (hP 3 rfl).2
                have s54 : a'.tmps[54]? = some (.int .i64 i) := slotv ha (hP 4 rfl).1 rfl (hP 4 rfl).2
                clear ha hG hP hoff hb
                simp [Act.eval, Array.getD_eq_getD_getElem?, s53, s54]
              · refine (impl_TblTable_part.calls A0_0 c0_0 l0_0 a0_1 a0_2 (some ad) c0_3 l0_3 a0_4 i p W (Kd.C_below HR0.out hG.1.bl) HC0.out (Kd.C_below HR3.out hG.1.bl) HC3.out AE.out).mono ?_
                rintro _ W2 ⟨rfl, hd⟩
                exact ⟨_, rfl, rfl, KeepBut.of_below hd _ _, hG.1.below hd, (hd.block _ (blk_lt hG.2.1)).trans hG.2.1, (hd.block _ (blk_lt hG.2.2.1)).trans hG.2.2.1, Kd.R_below hG.2.2.2.1 hd, (hd.block _ (blk_lt hG.2.2.2.2.1)).trans hG.2.2.2.2.1, Nat.le_trans hG.2.2.2.2.2 hd.size⟩
              refine alln_cons (EStep.pure hk0 fun b E a' W ha hG hP => ?_) ?_
              · have s4 : a'.tmps[4]? = some (.pointer (some ⟨D, 0, none⟩)) := (slot_off ha rfl).trans rfl
                have s55 : a'.tmps[55]? = some (.int .i64 p) := slotv ha (hP 5 rfl).1 rfl (hP 5 rfl).2
                have hp3i : (p : Int) < 3 := by omega
                exact ⟨_, .pointer (some ⟨D, p, none⟩), rfl, rfl, by clear ha hG hP; go_simp; try rfl, rfl, hG⟩
              refine alln_cons (EStep.pure hk0 fun b E a' W ha hG hP => ?_) ?_
              · have s56 : a'.tmps[56]? = some (.pointer (some ⟨D, p, none⟩)) := slotv ha (hP 6 rfl).1 rfl (hP 6 rfl).2
                have hc : W.cell? ⟨D, p, none⟩ = some (.int .i64 ev) := (blk_cell hG.2.2.1 p).trans hec
                exact ⟨_, .int .i64 ev, rfl, rfl, by clear ha hG hP; go_simp, rfl, hG⟩
              refine alln_cons (EStep.pure hk0 fun b E a' W ha hG hP => ?_) ?_
              · have s5 : a'.tmps[5]? = some (.int .i64 i) := (slot_off ha rfl).trans rfl
                exact ⟨_, .int .i64 i, rfl, rfl, by clear ha hG hP; go_simp; try first | rfl | exact i64_w _, rfl, hG⟩
              refine alln_cons (EStep.pure hk0 fun b E a' W ha hG hP => ?_) ?_
              · have s57 : a'.tmps[57]? = some (.int .i64 ev) := slotv ha (hP 7 rfl).1 rfl (hP 7 rfl).2
                have s58 : a'.tmps[58]? = some (.int .i64 i) := slotv ha (hP 8 rfl).1 rfl (hP 8 rfl).2
                exact ⟨_, .int .i64 (wrap64 (ev - (i : Int))), rfl, rfl, by clear ha hG hP; go_simp; try first | rfl | exact i64_w _, rfl, hG⟩
              refine alln_cons (EStep.pure hk0 fun b E a' W ha hG hP => ?_) ?_
              · have s52 : a'.tmps[52]? = some (.int .i64 x.f2) := slotv ha (hP 2 rfl).1 rfl (hP 2 rfl).2
                have s59 : a'.tmps[59]? = some (.int .i64 (wrap64 (ev - (i : Int)))) := slotv ha (hP 9 rfl).1 rfl (hP 9 rfl).2
                refine ⟨_, .int .i64 h2, rfl, rfl, ?_, rfl, hG⟩
                rw [← hh2]
                clear ha hG hP hh2
                unfold pgMin
                by_cases hm : wrap64 (ev - (i : Int)) < x.f2
                · rw [if_pos hm]
                  go_simp
                · rw [if_neg hm]
                  go_simp
              refine alln_cons (EStep.pure hk0 fun b E a' W ha hG hP => ?_) ?_
              · have s8 : a'.tmps[8]? = some (.pointer (some ⟨xb, 0, none⟩)) := (slot_off ha rfl).trans rfl
                exact ⟨_, .pointer (some ⟨xb, 1, none⟩), rfl, rfl, by clear ha hG hP; go_simp; try first | rfl | exact i64_w _, rfl, hG⟩
              refine alln_cons (EStep.pure hk0 fun b E a' W ha hG hP => ?_) ?_
              · have s61 : a'.tmps[61]? = some (.pointer (some ⟨xb, 1, none⟩)) := slotv ha (hP 11 rfl).1 rfl (hP 11 rfl).2
                have hc : W.cell? ⟨xb, 1, none⟩ = some (.int .i64 x.f1) := (blk_cell hG.2.2.2.2.1 1).trans rfl
                exact ⟨_, .int .i64 x.f1, rfl, rfl, by clear ha hG hP; go_simp, rfl, hG⟩
              refine alln_cons (EStep.pure hk0 fun b E a' W ha hG hP => ?_) ?_
              · have s7 : a'.tmps[7]? = some (.int .i64 j) := (slot_off ha rfl).trans rfl
                exact ⟨_, .int .i64 j, rfl, rfl, by clear ha hG hP; go_simp; try first | rfl | exact i64_w _, rfl, hG⟩
              refine alln_cons (EStep.pure hk0 fun b E a' W ha hG hP => ?_) ?_
              · have s50 : a'.tmps[50]? = some (.int .i64 i) := slotv ha (hP 0 rfl).1 rfl (hP 0 rfl).2
                have s60 : a'.tmps[60]? = some (.int .i64 h2) := slotv ha (hP 10 rfl).1 rfl (hP 10 rfl).2
                have s62 : a'.tmps[62]? = some (.int .i64 x.f1) := slotv ha (hP 12 rfl).1 rfl (hP 12 rfl).2
                have s63 : a'.tmps[63]? = some (.int .i64 j) := slotv ha (hP 13 rfl).1 rfl (hP 13 rfl).2
                exact ⟨_, .agg (outA i 0 h2 x.f1 j), rfl, rfl, by clear ha hG hP; go_simp; try first | rfl | exact i64_w _, rfl, hG⟩
              refine alln_cons (EStep.step fun b E a' W ha hG hP hoff hb => ?_) alln_last
              exact ⟨_, .pointer (some ⟨W.heap.size, 0, none⟩), W.alloc (.cells (outA 0 0 0 0 0) 47), rfl, rfl, by clear ha hP hoff hb hG; go_simp; try rfl, ⟨_, rfl, hG.2.2.2.2.2, blk_new _ _⟩, keep_alloc (hk0 W) _, hG.1.alloc _, blk_alloc hG.2.1 _, blk_alloc hG.2.2.1 _, Kd.R_alloc hG.2.2.2.1 _, blk_alloc hG.2.2.2.2.1 _, by have := hG.2.2.2.2.2; simp; omega⟩
            · intro b E a' W ha hG hP hb
              obtain ⟨C9, hC1, hC2, hC3⟩ := (hP 15 rfl (by decide)).2
              have s9 : a'.tmps[9]? = some (.pointer (some ⟨C9, 0, none⟩)) := slotv ha (hP 15 rfl (by decide)).1 rfl hC1
              have s64 : a'.tmps[64]? = some (.agg (outA i 0 h2 x.f1 j)) := slotv ha (hP 14 rfl (by decide)).1 rfl (hP 14 rfl (by decide)).2
              have hp := Put.setRow (cs := outA i 0 h2 x.f1 j) hC3
              exact ⟨_, rfl, fun K hK => skip_ rfl rfl (exec_put 47 _ _ rfl C9 0 (by simp [Act.eval, Array.getD_eq_getD_getElem?, s9]) (.agg (outA i 0 h2 x.f1 j)) (by simp only [Act.eval, Array.getD_eq_getD_getElem?, s64]; rfl) 47 _ (outA i 0 h2 x.f1 j) hC3 (by kernel_rfl) rfl rfl rfl) (hK.out undef _ ⟨hG.1.put hp (Nat.le_trans HNM.out hC2), hp.keep hG.2.1 (Nat.ne_of_lt (Nat.lt_of_lt_of_le HCM.out hC2)), hp.keep hG.2.2.1 (Nat.ne_of_lt (Nat.lt_of_lt_of_le HDM.out hC2)), R_putN hG.2.2.2.1 hp (fun k hk => Nat.ne_of_lt (Nat.lt_of_lt_of_le hk hC2)), C9, hC1, hC2, hp.blk⟩)⟩
            · intro E b W hall hF
              obtain ⟨hF1, hF2, hF3, hF4, ob, hC1, hC2, hF6⟩ := hF
              rw [putSel_all (fun x hx => hall x.1 (by revert x; decide))]
              simp only [impl_GrdOf.L11, List.foldl, hC1, Act.put, List.setIfInBounds_toArray, List.set_cons_zero, List.set_cons_succ]
              obtain ⟨X, c2, rfl⟩ := Kd.R_slice hF4
              have HQ := Aside0.mk hF1
              have HG := Aside0.mk hF2
              have HE := Aside0.mk hF3
              have HO := Aside0.mk hF6
              have HOC := Aside0.mk (Nat.lt_of_lt_of_le HCM.out hC2)
              have HOD := Aside0.mk (Nat.lt_of_lt_of_le HDM.out hC2)
              have HON := Aside0.mk (Nat.le_trans HNM.out hC2)
              have HR := Aside0.mk (Kd.R_mono (ok' := fun k => k < ob) hF4 (fun _ hk => Nat.lt_of_lt_of_le hk hC2))
              clear hall hC1 hC2 hF1 hF2 hF3 hF4 hF6 hQ HWM0 HCM HDM HNM hk0 AE
              try go_wp2
              go_loopg [] k (fun gg wr => ∃ (n3 : Nat) (tt : S47), n3 ≤ gg ∧ Aside0 (impl_GrdOf.fit k ds n3 tt = some t2) ∧ Aside0 (L3 w (l3A (.slice A0_0 l0_0.length c0_0) (.slice (some ad) l0_3.length c0_3) a0_1 a0_2 a0_4) wr) ∧ Aside0 (wr.heap[C]? = some (.cells (gridA l0_3.length wd (.slice X ds.length c2)) 43 (0, 0))) ∧ Aside0 (wr.heap[D]? = some (.cells #[.int .i64 a0_1, .int .i64 (wrap64 ((l0_3.length : Int) - a0_2)), .int .i64 l0_3.length] 64 (0, 0))) ∧ Aside0 (wr.heap[ob]? = some (.cells (outA tt.f0 tt.f1 tt.f2 tt.f3 tt.f4) 47 (0, 0))) ∧ Aside0 (Kd.R k47 47 wr (w.heap.size + 2) (fun k => k < ob) (.slice X ds.length c2) ds))
              case atStart => exact ⟨k, ⟨i, 0, h2, x.f1, j⟩, Nat.le_refl _, AT, HQ, HG, HE, HO, HR⟩
              case round =>
                clear AT HQ HG HE HO HR
                obtain ⟨n3, tt, hg3, HF, HQ, HG, HE, HO, HR⟩ := hrel
                have hf := HF.out
                clear HF
                cases n3 with
                | zero => unfold impl_GrdOf.fit at hf; cases hf
                | succ n3 =>
                  unfold impl_GrdOf.fit at hf
                  rw [Option.bind_eq_some_iff] at hf
                  obtain ⟨b, h1, hf⟩ := hf
                  have AF := Aside0.mk h1
                  clear h1
                  obtain ⟨o0, o1, o2, o3, o4⟩ := outA_cells HO.out
                  have q2 : wr.cell? ⟨C, 2, none⟩ = some (.slice X ds.length c2) := (blk_cell HG.out 2).trans rfl
                  cases b
                  · rw [if_neg (by decide)] at hf
                    replace hf := Option.some.inj hf
                    subst hf
                    by_cases hm : wd < wrap64 (tt.f1 + tt.f3)
                    · have HL5 := HL4.out
                      rw [show pgMax wd (wrap64 (tt.f1 + tt.f3)) = wrap64 (tt.f1 + tt.f3) from if_pos hm] at HL5
                      have HL6 := Aside0.mk HL5
                      clear HL4 HL5
                      go_wp2_with (first | (go_at_call 26; (with_reducible refine (impl_ccells.calls k X c2 ds tt.f0 tt.f1 tt.f2 tt.f3 tt.f4 false _ (Kd.R_reads' HR.out).2.2 (Kd.R_reads' HR.out).2.1 AF.out).mono ?_); rintro e_ Wf ⟨rfl, hb⟩; replace HQ := Aside0.mk (HQ.out.below hb); replace HG := Aside0.mk ((hb.block _ (blk_lt HG.out)).trans HG.out); replace HE := Aside0.mk ((hb.block _ (blk_lt HE.out)).trans HE.out); replace HO := Aside0.mk ((hb.block _ (blk_lt HO.out)).trans HO.out); replace HR := Aside0.mk (Kd.R_below HR.out hb); clear hb; clear q2 o0 o1 o2 o3 o4; obtain ⟨o0, o1, o2, o3, o4⟩ := outA_cells HO.out; have q2 : Wf.cell? ⟨C, 2, none⟩ = some (.slice X ds.length c2) := (blk_cell HG.out 2).trans rfl) | (refine wpList_load_row rfl 47 _ rfl ob rfl 47 (outA tt.f0 tt.f1 tt.f2 tt.f3 tt.f4) (0, 0) _ HO.out Tryd.underlying47 rfl (by kernel_rfl) ?_) | (refine wpList_append_R (P := Tryd.prog) k47 (w.heap.size + 2) _ _ 41 47 (.agg #[.int .i64 0, .int .i64 0, .int .i64 0, .int .i64 0, .int .i64 0]) 40 rfl rfl Tryd.underlying41 (by kernel_rfl) rfl (by decide) (by decide) (.slice X ds.length c2) ds tt [.int .i64 tt.f0, .int .i64 tt.f1, .int .i64 tt.f2, .int .i64 tt.f3, .int .i64 tt.f4] _ (fun _ => True) (fun _ => False) rfl rfl (blk_new _ _) (k47_mkM _ _ _ tt) (fun _ h => h.elim) (fun _ _ => trivial) (Kd.R_mono (Kd.R_alloc HR.out _) (fun _ _ => trivial)) (HQ.out.alloc _).size (by have := HDS.out; omega) (fun v1 w1 hR1 hg1 hat1 => ?_); replace HQ := Aside0.mk ((HQ.out.alloc _).grown hg1 (fun k hk => Kd.R_base HR.out k hk)); replace HG := Aside0.mk (blk_grown (blk_alloc HG.out _) hg1 (own_ne_of HR.out HG.out (by decide))); replace HE := Aside0.mk (blk_grown (blk_alloc HE.out _) hg1 (own_ne_of HR.out HE.out (by decide))); replace HO := Aside0.mk (blk_grown (blk_alloc HO.out _) hg1 (fun e => Nat.lt_irrefl _ (HR.out.1 ob e.symm))); obtain ⟨X2, n2, c3, rfl⟩ : ∃ X2 n2 c3, v1 = .slice X2 n2 c3 := (Kd.R_slice hR1).imp fun _ h => ⟨_, h⟩; replace HR := Aside0.mk hR1; clear hR1 hg1 hat1) | (refine wpList_put 41 _ _ rfl rfl C 2 rfl (.slice X2 n2 c3) rfl 43 (gridA l0_3.length wd (.slice X ds.length c2)) (gridA l0_3.length wd (.slice X2 n2 c3)) HG.out (by kernel_rfl) rfl rfl rfl (fun W9 hp => ?_); replace HQ := Aside0.mk (HQ.out.put hp HCN.out); replace HE := Aside0.mk (hp.keep HE.out (Nat.ne_of_gt HCD.out)); replace HO := Aside0.mk (hp.keep HO.out (Nat.ne_of_gt HOC.out)); replace HR := Aside0.mk (R_put HR.out HG.out hp (by decide)); replace HG := Aside0.mk hp.blk; clear hp; clear o0 o1 o2 o3 o4; obtain ⟨o0, o1, o2, o3, o4⟩ := outA_cells HO.out; have q1 : W9.cell? ⟨C, 1, none⟩ = some (.int .i64 wd) := (blk_cell HG.out 1).trans rfl) | (refine wpList_put 3 _ _ rfl rfl C 1 rfl (.int .i64 (wrap64 (tt.f1 + tt.f3))) rfl 43 (gridA l0_3.length wd (.slice X2 n2 c3)) (gridA l0_3.length (wrap64 (tt.f1 + tt.f3)) (.slice X2 n2 c3)) HG.out (by kernel_rfl) rfl rfl rfl (fun W9 hp => ?_); replace HQ := Aside0.mk (HQ.out.put hp HCN.out); replace HE := Aside0.mk (hp.keep HE.out (Nat.ne_of_gt HCD.out)); replace HR := Aside0.mk (R_put HR.out HG.out hp (by decide)); replace HG := Aside0.mk hp.blk; clear hp))
                      go_roundg m
                      case measure => omega
                      case rel => exact ⟨m, j + 1, wrap64 (tt.f1 + tt.f3), ds ++ [tt], _, Nat.le_refl _, by omega, by go_num, HL6, HQ, HG, HE, HR⟩
                    · have HL5 := HL4.out
                      rw [show pgMax wd (wrap64 (tt.f1 + tt.f3)) = wd from if_neg hm] at HL5
                      have HL6 := Aside0.mk HL5
                      clear HL4 HL5
                      go_wp2_with (first | (go_at_call 26; (with_reducible refine (impl_ccells.calls k X c2 ds tt.f0 tt.f1 tt.f2 tt.f3 tt.f4 false _ (Kd.R_reads' HR.out).2.2 (Kd.R_reads' HR.out).2.1 AF.out).mono ?_); rintro e_ Wf ⟨rfl, hb⟩; replace HQ := Aside0.mk (HQ.out.below hb); replace HG := Aside0.mk ((hb.block _ (blk_lt HG.out)).trans HG.out); replace HE := Aside0.mk ((hb.block _ (blk_lt HE.out)).trans HE.out); replace HO := Aside0.mk ((hb.block _ (blk_lt HO.out)).trans HO.out); replace HR := Aside0.mk (Kd.R_below HR.out hb); clear hb; clear q2 o0 o1 o2 o3 o4; obtain ⟨o0, o1, o2, o3, o4⟩ := outA_cells HO.out; have q2 : Wf.cell? ⟨C, 2, none⟩ = some (.slice X ds.length c2) := (blk_cell HG.out 2).trans rfl) | (refine wpList_load_row rfl 47 _ rfl ob rfl 47 (outA tt.f0 tt.f1 tt.f2 tt.f3 tt.f4) (0, 0) _ HO.out Tryd.underlying47 rfl (by kernel_rfl) ?_) | (refine wpList_append_R (P := Tryd.prog) k47 (w.heap.size + 2) _ _ 41 47 (.agg #[.int .i64 0, .int .i64 0, .int .i64 0, .int .i64 0, .int .i64 0]) 40 rfl rfl Tryd.underlying41 (by kernel_rfl) rfl (by decide) (by decide) (.slice X ds.length c2) ds tt [.int .i64 tt.f0, .int .i64 tt.f1, .int .i64 tt.f2, .int .i64 tt.f3, .int .i64 tt.f4] _ (fun _ => True) (fun _ => False) rfl rfl (blk_new _ _) (k47_mkM _ _ _ tt) (fun _ h => h.elim) (fun _ _ => trivial) (Kd.R_mono (Kd.R_alloc HR.out _) (fun _ _ => trivial)) (HQ.out.alloc _).size (by have := HDS.out; omega) (fun v1 w1 hR1 hg1 hat1 => ?_); replace HQ := Aside0.mk ((HQ.out.alloc _).grown hg1 (fun k hk => Kd.R_base HR.out k hk)); replace HG := Aside0.mk (blk_grown (blk_alloc HG.out _) hg1 (own_ne_of HR.out HG.out (by decide))); replace HE := Aside0.mk (blk_grown (blk_alloc HE.out _) hg1 (own_ne_of HR.out HE.out (by decide))); replace HO := Aside0.mk (blk_grown (blk_alloc HO.out _) hg1 (fun e => Nat.lt_irrefl _ (HR.out.1 ob e.symm))); obtain ⟨X2, n2, c3, rfl⟩ : ∃ X2 n2 c3, v1 = .slice X2 n2 c3 := (Kd.R_slice hR1).imp fun _ h => ⟨_, h⟩; replace HR := Aside0.mk hR1; clear hR1 hg1 hat1) | (refine wpList_put 41 _ _ rfl rfl C 2 rfl (.slice X2 n2 c3) rfl 43 (gridA l0_3.length wd (.slice X ds.length c2)) (gridA l0_3.length wd (.slice X2 n2 c3)) HG.out (by kernel_rfl) rfl rfl rfl (fun W9 hp => ?_); replace HQ := Aside0.mk (HQ.out.put hp HCN.out); replace HE := Aside0.mk (hp.keep HE.out (Nat.ne_of_gt HCD.out)); replace HO := Aside0.mk (hp.keep HO.out (Nat.ne_of_gt HOC.out)); replace HR := Aside0.mk (R_put HR.out HG.out hp (by decide)); replace HG := Aside0.mk hp.blk; clear hp; clear o0 o1 o2 o3 o4; obtain ⟨o0, o1, o2, o3, o4⟩ := outA_cells HO.out; have q1 : W9.cell? ⟨C, 1, none⟩ = some (.int .i64 wd) := (blk_cell HG.out 1).trans rfl) | (refine wpList_put 3 _ _ rfl rfl C 1 rfl (.int .i64 (wd)) rfl 43 (gridA l0_3.length wd (.slice X2 n2 c3)) (gridA l0_3.length (wd) (.slice X2 n2 c3)) HG.out (by kernel_rfl) rfl rfl rfl (fun W9 hp => ?_); replace HQ := Aside0.mk (HQ.out.put hp HCN.out); replace HE := Aside0.mk (hp.keep HE.out (Nat.ne_of_gt HCD.out)); replace HR := Aside0.mk (R_put HR.out HG.out hp (by decide)); replace HG := Aside0.mk hp.blk; clear hp))
                      go_roundg m
                      case measure => omega
                      case rel => exact ⟨m, j + 1, wd, ds ++ [tt], _, Nat.le_refl _, by omega, by go_num, HL6, HQ, HG, HE, HR⟩
                  · rw [if_pos rfl] at hf
                    by_cases h9 : 0 ≤ tt.f1 ∧ tt.f1 < 1000000
                    rotate_left
                    · rw [if_neg h9] at hf; cases hf
                    rw [if_pos h9] at hf
                    have HF2 := Aside0.mk hf
                    have hlt9 : tt.f1 < 1000000 := h9.2
                    have hge9 : 0 ≤ tt.f1 := h9.1
                    clear hf h9
                    go_wp2_with (first | (go_at_call 26; (with_reducible refine (impl_ccells.calls k X c2 ds tt.f0 tt.f1 tt.f2 tt.f3 tt.f4 true _ (Kd.R_reads' HR.out).2.2 (Kd.R_reads' HR.out).2.1 AF.out).mono ?_); rintro e_ Wf ⟨rfl, hb⟩; replace HQ := Aside0.mk (HQ.out.below hb); replace HG := Aside0.mk ((hb.block _ (blk_lt HG.out)).trans HG.out); replace HE := Aside0.mk ((hb.block _ (blk_lt HE.out)).trans HE.out); replace HO := Aside0.mk ((hb.block _ (blk_lt HO.out)).trans HO.out); replace HR := Aside0.mk (Kd.R_below HR.out hb); clear hb; clear q2 o0 o1 o2 o3 o4; obtain ⟨o0, o1, o2, o3, o4⟩ := outA_cells HO.out; have q2 : Wf.cell? ⟨C, 2, none⟩ = some (.slice X ds.length c2) := (blk_cell HG.out 2).trans rfl) | (refine wpList_load_row rfl 47 _ rfl ob rfl 47 (outA tt.f0 tt.f1 tt.f2 tt.f3 tt.f4) (0, 0) _ HO.out Tryd.underlying47 rfl (by kernel_rfl) ?_) | (refine wpList_put 3 _ _ rfl rfl ob 1 rfl (.int .i64 (tt.f1 + 1)) rfl 47 (outA tt.f0 tt.f1 tt.f2 tt.f3 tt.f4) (outA tt.f0 (tt.f1 + 1) tt.f2 tt.f3 tt.f4) HO.out (by kernel_rfl) rfl rfl rfl (fun W9 hp => ?_); replace HQ := Aside0.mk (HQ.out.put hp HON.out); replace HG := Aside0.mk (hp.keep HG.out (Nat.ne_of_lt HOC.out)); replace HE := Aside0.mk (hp.keep HE.out (Nat.ne_of_lt HOD.out)); replace HR := Aside0.mk (R_putN HR.out hp (fun k hk => Nat.ne_of_lt hk)); replace HO := Aside0.mk hp.blk; clear hp))
                    go_roundg n3
                    case measure => omega
                    case rel => exact ⟨n3, { tt with f1 := tt.f1 + 1 }, Nat.le_refl _, HF2, HQ, HG, HE, HO, HR⟩

/-! ### impl_GrdFind: function 11 (by hand) -/
set_option maxHeartbeats 2000000 in
set_option maxRecDepth 100000 in
/-- slices.IndexFunc over cells at their places, whatever the function asks. -/
theorem idxf_gcell (p : S47 → Bool) (g : Nat) (lb : Array Value) (eg : ∀ args w, (callFunc g args).run Tryd.prog w = .ok (.enter g args) w) (A : Option Addr) (c : Nat) (l : List S47) (w : World)
    (hr : Kd.C k47 w A l.length l) (hc : l.length ≤ c)
    (hp : ∀ (W : World) (x : S47), Below w.heap.size w W → Calls Tryd.prog g (#[.agg #[.int .i64 x.f0, .int .i64 x.f1, .int .i64 x.f2, .int .i64 x.f3, .int .i64 x.f4]] ++ lb) W fun e W' => e = .returned (.bool (p x)) ∧ Below w.heap.size w W') :
    Calls Tryd.prog 28 #[.slice A l.length c, .func (.func g) #[] lb] w fun e w' => e = .returned (.int .i64 (ppIdx p l)) ∧ Below w.heap.size w w' := by
  have hbig := hr.2.1
  have HR := Aside0.mk hr
  clear hr
  go_enter Tryd.func28, Tryd.ntmps28
  go_wp2
  go_loopg [5, 8] l.length (fun gg _ s8 wr => ∃ kk : Nat, kk ≤ l.length ∧ l.length - kk ≤ gg ∧ s8 = .int .i64 kk ∧ Aside0 (Below w.heap.size w wr) ∧ Aside0 (∀ j (h : j < l.length), j < kk → p l[j] = false))
  case atStart => exact ⟨0, Nat.zero_le _, by omega, rfl, ⟨Below.refl _ w⟩, ⟨fun j _ hj => absurd hj (Nat.not_lt_zero _)⟩⟩
  case round =>
    obtain ⟨kk, hkk, hg, rfl, BW, AA⟩ := hrel
    by_cases hlt : kk < l.length
    · have hltz : (kk : Int) < (l.length : Int) := by omega
      obtain ⟨ad, e0, h0, h1, h2, h3, h4⟩ := at_T47 HR.out (kk : Int) (by omega) hltz
      cases e0
      replace h0 := (BW.out.cell (World.block_lt_of_cell? w _ h0)).trans h0
      replace h1 := (BW.out.cell (World.block_lt_of_cell? w _ h1)).trans h1
      replace h2 := (BW.out.cell (World.block_lt_of_cell? w _ h2)).trans h2
      replace h3 := (BW.out.cell (World.block_lt_of_cell? w _ h3)).trans h3
      replace h4 := (BW.out.cell (World.block_lt_of_cell? w _ h4)).trans h4
      simp only [Int.toNat_natCast] at h0 h1 h2 h3 h4
      have hcall := hp wr (rd_T47 l (kk : Int)) BW.out
      have hy : rd_T47 l (kk : Int) = l[kk] := by unfold rd_T47; simp [List.getD_eq_getElem?_getD, List.getElem?_eq_getElem hlt]
      generalize rd_T47 l (kk : Int) = y at h0 h1 h2 h3 h4 hcall hy
      have HY := Aside0.mk hy
      clear hy hp
      cases hq : p y with
      | true =>
        rw [hq] at hcall
        go_wp2_with (go_at_fn g; refine hcall.mono ?_; rintro e w' ⟨rfl, hb'⟩)
        go_ret
        refine ⟨?_, hb'⟩
        rw [ppIdx_hit p l kk hlt (by rw [← HY.out]; exact hq) AA.out]
        rfl
      | false =>
        rw [hq] at hcall
        go_wp2_with (go_at_fn g; refine hcall.mono ?_; rintro e w' ⟨rfl, hb'⟩)
        go_roundg (l.length - (kk + 1))
        case measure => omega
        case rel =>
          refine ⟨kk + 1, by omega, by omega, by go_num, ⟨hb'⟩, ⟨fun j h hj => ?_⟩⟩
          by_cases e : j = kk
          · subst e
            rw [← HY.out]; exact hq
          · exact AA.out j h (by omega)
    · have hltz : ¬ (kk : Int) < (l.length : Int) := by omega
      have hk : kk = l.length := by omega
      subst hk
      go_wp2
      go_ret
      refine ⟨?_, BW.out⟩
      rw [ppIdx_miss p l (fun j hj => AA.out j hj hj)]
      rfl
/-- The cell was told at the place. -/
def ppFndB (row in_ : Int) (x : S47) : Bool := decide (x.f0 = row ∧ x.f4 = in_)
set_option maxHeartbeats 2000000 in
set_option maxRecDepth 100000 in
theorem clo_GrdFind (x : S47) (row in_ : Int) (b1 b2 : Nat) (w : World) (h1 : w.cell? ⟨b1, 0, none⟩ = some (.int .i64 row)) (h2 : w.cell? ⟨b2, 0, none⟩ = some (.int .i64 in_)) :
    Calls Tryd.prog 29 #[.agg #[.int .i64 x.f0, .int .i64 x.f1, .int .i64 x.f2, .int .i64 x.f3, .int .i64 x.f4], .pointer (some ⟨b1, 0, none⟩), .pointer (some ⟨b2, 0, none⟩)] w fun e w' => e = .returned (.bool (ppFndB row in_ x)) ∧ Below w.heap.size w w' := by
  have hb1 := World.block_lt_of_cell? w _ h1
  have hb2 := World.block_lt_of_cell? w _ h2
  have hu := Tryd.underlying47
  unfold ppFndB
  by_cases c1 : x.f0 = row
  · by_cases c2 : x.f4 = in_
    · rw [decide_eq_true ⟨c1, c2⟩]
      have d1 := decide_eq_true c1
      have d2 := decide_eq_true c2
      go_enter Tryd.func29, Tryd.ntmps29
      go_wp2
      go_ret
      exact ⟨rfl, by repeat (with_reducible first | exact Below.refl _ _ | apply below_alloc | apply pw_below_drewN | apply below_drew1)⟩
    · rw [decide_eq_false (fun h => c2 h.2)]
      have d1 := decide_eq_true c1
      have d2 : (x.f4 == in_) = false := by simpa using c2
      go_enter Tryd.func29, Tryd.ntmps29
      go_wp2
      go_ret
      exact ⟨rfl, by repeat (with_reducible first | exact Below.refl _ _ | apply below_alloc | apply pw_below_drewN | apply below_drew1)⟩
  · rw [decide_eq_false (fun h => c1 h.1)]
    have d1 : (x.f0 == row) = false := by simpa using c1
    go_enter Tryd.func29, Tryd.ntmps29
    go_wp2
    go_ret
    exact ⟨rfl, by repeat (with_reducible first | exact Below.refl _ _ | apply below_alloc | apply pw_below_drewN | apply below_drew1)⟩
def impl_GrdFind.f (a0_0 : Int) (a0_1 : Int) (l0_2 : List S47) (a1 : Int) (a2 : Int) : Option Int := some (ppIdx (ppFndB a1 a2) l0_2)
set_option maxHeartbeats 2000000 in
set_option maxRecDepth 100000 in
theorem impl_GrdFind.calls (a0_0 : Int) (a0_1 : Int) (A0_2 : Option Addr) (c0_2 : Nat) (l0_2 : List S47) (a1 : Int) (a2 : Int) (r : Int) (w : World) (hr0_2 : Kd.C k47 w A0_2 l0_2.length l0_2) (hc0_2 : l0_2.length ≤ c0_2) (h : impl_GrdFind.f a0_0 a0_1 l0_2 a1 a2 = some r) :
    Calls Tryd.prog 11 #[.agg #[.int .i64 a0_0, .int .i64 a0_1, .slice A0_2 l0_2.length c0_2], .int .i64 a1, .int .i64 a2] w fun e w' => e = .returned (.int .i64 r) ∧ Below w.heap.size w w' := by
  obtain rfl := Option.some.inj h
  have HR := Aside0.mk hr0_2
  have HC := Aside0.mk hc0_2
  clear hr0_2 hc0_2 h
  have eg := enters_of Tryd.func29 (by kernel_rfl) rfl
  have hu := Tryd.underlying43
  have hp : ∀ (W0 : World), W0.cell? ⟨w.heap.size + 1, 0, none⟩ = some (.int .i64 a1) → W0.cell? ⟨w.heap.size + 2, 0, none⟩ = some (.int .i64 a2) → w.heap.size + 3 ≤ W0.heap.size → ∀ (W : World) (x : S47), Below W0.heap.size W0 W → Calls Tryd.prog 29 (#[.agg #[.int .i64 x.f0, .int .i64 x.f1, .int .i64 x.f2, .int .i64 x.f3, .int .i64 x.f4]] ++ #[.pointer (some ⟨w.heap.size + 1, 0, none⟩), .pointer (some ⟨w.heap.size + 2, 0, none⟩)]) W fun e W' => e = .returned (.bool (ppFndB a1 a2 x)) ∧ Below W0.heap.size W0 W' := by
    intro W0 h1 h2 hs W x hb
    have h1' := (hb.cell (World.block_lt_of_cell? W0 _ h1)).trans h1
    have h2' := (hb.cell (World.block_lt_of_cell? W0 _ h2)).trans h2
    exact (clo_GrdFind x a1 a2 _ _ W h1' h2').mono fun e W' ⟨he, hb'⟩ => ⟨he, below_then hb hb.size hb'⟩
  have HP := Aside0.mk hp
  clear hp
  go_enter Tryd.func11, Tryd.ntmps11
  go_wp2_with (go_at_call 28; refine (idxf_gcell (ppFndB a1 a2) 29 _ eg A0_2 c0_2 l0_2 _ ?hr HC.out (HP.out _ ?h1 ?h2 ?hs)).mono ?_; (case hr => repeat (first | exact HR.out | (with_reducible refine Kd.C_alloc ?_ _))); (case h1 => go_simp); (case h2 => go_simp); (case hs => simp); rintro e w' ⟨rfl, hb⟩)
  go_ret
  exact ⟨rfl, below_step (below_alloc (below_alloc (below_alloc (Below.refl _ _) _) _) _) hb⟩

/-! ### laws_FnEdtSpan: function 3 (by hand) -/
/-- The law's last chain: no answer where it falls. -/
def laws_FnEdtSpan.fin (k : Nat) (tc : List S59) (th tf : Int) (tr : List S40) (tg : Int) (xc : List S59) (xh xf : Int) (xr : List S40) (xg : Int) (row at_ cc rr : Int) : Option Bool :=
  if 0 ≤ row ∧ row < (tr.length : Int) ∧ 0 ≤ at_ ∧ at_ < ((rd_T40 tr row).f0.length : Int) then (impl_EdtSpan.f k xc xh xf xr xg row at_ (rd_T37 (rd_T40 tr row).f0 at_).f1 (rd_T37 (rd_T40 tr row).f0 at_).f2).bind fun z => (impl_GrdOf.f k xc xh xf xr xg).bind fun g => (impl_GrdFind.f g.1 g.2.1 g.2.2 row at_).bind fun kk => (impl_TblOk.f k xc xh xf xr xg).bind fun a =>
    if a = true ∧ 0 ≤ kk ∧ kk < (g.2.2.length : Int) ∧ (rd_T47 g.2.2 kk).f3 = cc ∧ (rd_T47 g.2.2 kk).f2 ≤ rr ∧ 1 ≤ (rd_T47 g.2.2 kk).f2 ∧ z.2.2.2.2.2 = true then laws_pwTable.f k z.1 z.2.1 z.2.2.1 z.2.2.2.1 z.2.2.2.2.1 tc th tf tr tg else none else none
def laws_FnEdtSpan.f (k : Nat) (l0 : List Int) : Option Bool :=
  if (l0.length : Int) > 1048576 then some true else (spec_DrawEdtSpan.f k l0).bind fun d => (impl_EdtSpan.f k d.1 d.2.1 d.2.2.1 d.2.2.2.1 d.2.2.2.2.1 d.2.2.2.2.2.1 d.2.2.2.2.2.2.1 d.2.2.2.2.2.2.2.1 d.2.2.2.2.2.2.2.2).bind fun x => (spec_EdtSpan.f k d.1 d.2.1 d.2.2.1 d.2.2.2.1 d.2.2.2.2.1 d.2.2.2.2.2.1 d.2.2.2.2.2.2.1 d.2.2.2.2.2.2.2.1 d.2.2.2.2.2.2.2.2).bind fun y =>
    if x.2.2.2.2.2 = y.2.2.2.2.2 then (laws_pwTable.f k x.1 x.2.1 x.2.2.1 x.2.2.2.1 x.2.2.2.2.1 y.1 y.2.1 y.2.2.1 y.2.2.2.1 y.2.2.2.2.1).bind fun e => (spec_TblOk.f k d.1 d.2.1 d.2.2.1 d.2.2.2.1 d.2.2.2.2.1).bind fun o => if e = true then (
      if o = true then (if x.2.2.2.2.2 = true then laws_FnEdtSpan.fin k d.1 d.2.1 d.2.2.1 d.2.2.2.1 d.2.2.2.2.1 x.1 x.2.1 x.2.2.1 x.2.2.2.1 x.2.2.2.2.1 d.2.2.2.2.2.1 d.2.2.2.2.2.2.1 d.2.2.2.2.2.2.2.1 d.2.2.2.2.2.2.2.2 else laws_pwTable.f k x.1 x.2.1 x.2.2.1 x.2.2.2.1 x.2.2.2.2.1 d.1 d.2.1 d.2.2.1 d.2.2.2.1 d.2.2.2.2.1)
      else (if x.2.2.2.2.2 = false then (laws_pwTable.f k x.1 x.2.1 x.2.2.1 x.2.2.2.1 x.2.2.2.2.1 [] 0 0 [] 0).bind fun e2 => if e2 = true then laws_pwOk.f else none else none)) else none else none
theorem laws_FnEdtSpan.parts {k : Nat} {l0 : List Int} {r : Bool} (hn : ¬ (l0.length : Int) > 1048576) (h : laws_FnEdtSpan.f k l0 = some r) :
    ∃ (tc : List S59) (th tf : Int) (tr : List S40) (tg : Int) (row at_ cc rr : Int) (xc : List S59) (xh xf : Int) (xr : List S40) (xg : Int) (yc : List S59) (yh yf : Int) (yr : List S40) (yg : Int) (ok : Bool), Aside0 (spec_DrawEdtSpan.f k l0 = some (tc, th, tf, tr, tg, row, at_, cc, rr)) ∧ Aside0 (impl_EdtSpan.f k tc th tf tr tg row at_ cc rr = some (xc, xh, xf, xr, xg, ok)) ∧ Aside0 (spec_EdtSpan.f k tc th tf tr tg row at_ cc rr = some (yc, yh, yf, yr, yg, ok)) ∧ Aside0 (laws_pwTable.f k xc xh xf xr xg yc yh yf yr yg = some true) ∧
    ((Aside0 (spec_TblOk.f k tc th tf tr tg = some true) ∧ ok = true ∧ Aside0 (laws_FnEdtSpan.fin k tc th tf tr tg xc xh xf xr xg row at_ cc rr = some r)) ∨ (Aside0 (spec_TblOk.f k tc th tf tr tg = some true) ∧ ok = false ∧ Aside0 (laws_pwTable.f k xc xh xf xr xg tc th tf tr tg = some r)) ∨
     (Aside0 (spec_TblOk.f k tc th tf tr tg = some false) ∧ ok = false ∧ Aside0 (laws_pwTable.f k xc xh xf xr xg [] 0 0 [] 0 = some true) ∧ Aside0 (laws_pwOk.f = some r))) := by
  unfold laws_FnEdtSpan.f at h
  rw [if_neg hn] at h
  obtain ⟨⟨tc, th, tf, tr, tg, row, at_, cc, rr⟩, h1, g1⟩ := Option.bind_eq_some_iff.1 h
  clear h
  obtain ⟨⟨xc, xh, xf, xr, xg, ok⟩, h2, g2⟩ := Option.bind_eq_some_iff.1 g1
  clear g1
  obtain ⟨⟨yc, yh, yf, yr, yg, ok2⟩, h3, g3⟩ := Option.bind_eq_some_iff.1 g2
  clear g2
  split at g3
  · rename_i e
    obtain rfl : ok = ok2 := e
    obtain ⟨e, h4, g4⟩ := Option.bind_eq_some_iff.1 g3
    clear g3
    obtain ⟨o, h5, g5⟩ := Option.bind_eq_some_iff.1 g4
    clear g4
    cases e
    · rw [if_neg (by decide)] at g5; cases g5
    rw [if_pos rfl] at g5
    refine ⟨tc, th, tf, tr, tg, row, at_, cc, rr, xc, xh, xf, xr, xg, yc, yh, yf, yr, yg, ok, ⟨h1⟩, ⟨h2⟩, ⟨h3⟩, ⟨h4⟩, ?_⟩
    cases o
    · rw [if_neg (by decide)] at g5
      split at g5
      · rename_i e
        obtain ⟨e2, h6, g6⟩ := Option.bind_eq_some_iff.1 g5
        cases e2
        · rw [if_neg (by decide)] at g6; cases g6
        rw [if_pos rfl] at g6
        exact .inr (.inr ⟨⟨h5⟩, e, ⟨h6⟩, ⟨g6⟩⟩)
      · cases g5
    · rw [if_pos rfl] at g5
      split at g5
      · rename_i e
        exact .inl ⟨⟨h5⟩, e, ⟨g5⟩⟩
      · rename_i e
        exact .inr (.inl ⟨⟨h5⟩, by simpa using e, ⟨g5⟩⟩)
  · cases g3
theorem laws_FnEdtSpan.parts2 {k : Nat} {tc : List S59} {th tf : Int} {tr : List S40} {tg : Int} {xc : List S59} {xh xf : Int} {xr : List S40} {xg : Int} {row at_ cc rr : Int} {r : Bool} (h : laws_FnEdtSpan.fin k tc th tf tr tg xc xh xf xr xg row at_ cc rr = some r) :
    (0 ≤ row ∧ row < (tr.length : Int) ∧ 0 ≤ at_ ∧ at_ < ((rd_T40 tr row).f0.length : Int)) ∧ ∃ (zc : List S59) (zh zf : Int) (zr : List S40) (zg : Int) (g1 g2 : Int) (g3 : List S47) (kk : Int), Aside0 (impl_EdtSpan.f k xc xh xf xr xg row at_ (rd_T37 (rd_T40 tr row).f0 at_).f1 (rd_T37 (rd_T40 tr row).f0 at_).f2 = some (zc, zh, zf, zr, zg, true)) ∧ Aside0 (impl_TblOk.f k xc xh xf xr xg = some true) ∧ (0 ≤ kk ∧ kk < (g3.length : Int) ∧ (rd_T47 g3 kk).f3 = cc ∧ (rd_T47 g3 kk).f2 ≤ rr ∧ 1 ≤ (rd_T47 g3 kk).f2) ∧
      Aside0 (impl_GrdOf.f k xc xh xf xr xg = some (g1, g2, g3)) ∧ Aside0 (impl_GrdFind.f g1 g2 g3 row at_ = some kk) ∧ Aside0 (laws_pwTable.f k zc zh zf zr zg tc th tf tr tg = some r) := by
  unfold laws_FnEdtSpan.fin at h
  split at h
  · rename_i hb
    obtain ⟨⟨zc, zh, zf, zr, zg, ok⟩, h1, g1⟩ := Option.bind_eq_some_iff.1 h
    obtain ⟨⟨p1, p2, p3⟩, h3, g2⟩ := Option.bind_eq_some_iff.1 g1
    obtain ⟨kk, h4, g3⟩ := Option.bind_eq_some_iff.1 g2
    obtain ⟨a, h2, g4⟩ := Option.bind_eq_some_iff.1 g3
    split at g4
    · rename_i ha
      obtain ⟨ha1, ha2, ha3, ha4, ha5, ha6, ha7⟩ := ha
      obtain rfl : ok = true := ha7
      subst ha1
      exact ⟨hb, zc, zh, zf, zr, zg, p1, p2, p3, kk, ⟨h1⟩, ⟨h2⟩, ⟨ha2, ha3, ha4, ha5, ha6⟩, ⟨h3⟩, ⟨h4⟩, ⟨g4⟩⟩
    · cases g4
  · cases h
structure laws_FnEdtSpan.Wd (w : World) (B : Nat) (pa : Array Value) (Ac Ar : Option Addr) (cs : List S59) (rs : List S40) (W : World) : Prop where
  bt : W.heap[B]? = some (.cells pa 26 (0, 0))
  kc : Kd.C k59 W Ac cs.length cs
  kr : Kd.C k40 W Ar rs.length rs
  bl : Below w.heap.size w W
theorem laws_FnEdtSpan.Wd.below {w W W' : World} {B : Nat} {pa : Array Value} {Ac Ar : Option Addr} {cs : List S59} {rs : List S40} (h : laws_FnEdtSpan.Wd w B pa Ac Ar cs rs W) (hb : Below W.heap.size W W') : laws_FnEdtSpan.Wd w B pa Ac Ar cs rs W' :=
  ⟨blk_below h.bt hb, Kd.C_below h.kc hb, Kd.C_below h.kr hb, below_step h.bl hb⟩
set_option maxHeartbeats 4000000 in
set_option maxRecDepth 100000 in
theorem laws_FnEdtSpan.calls (k : Nat) (A0 : Option Addr) (c0 : Nat) (l0 : List Int) (r : Bool) (w : World) (hr0 : Kd.C (Kd.int .u8) w A0 l0.length l0) (hc0 : l0.length ≤ c0) (hM : Txt.MLen w) (h : laws_FnEdtSpan.f k l0 = some r) :
    Calls Tryd.prog 3 #[.slice A0 l0.length c0] w fun e w' => e = .returned (.bool r) ∧ Below w.heap.size w w' := by
  have HM := Aside0.mk hM
  clear hM
  have HR := Aside0.mk hr0
  have HC := Aside0.mk hc0
  clear hr0 hc0
  have hu1 := Tryd.underlying26
  by_cases hbig : (l0.length : Int) > 1048576
  · have hf : r = true := by unfold laws_FnEdtSpan.f at h; rw [if_pos hbig] at h; exact (Option.some.inj h).symm
    subst hf
    clear h
    have b0 : decide (1048576 < (l0.length : Int)) = true := decide_eq_true hbig
    have b1 : decide (1048576 < l0.length) = true := decide_eq_true (by omega)
    clear hbig
    go_enter Tryd.func3, Tryd.ntmps3
    go_wp2
    go_ret
    exact ⟨rfl, by (repeat (with_reducible first | exact Below.refl _ _ | apply below_alloc | apply pw_below_drewN | apply below_drew1))⟩
  obtain ⟨tc, th, tf, tr, tg, row, at_, cc, rr, xc, xh, xf, xr, xg, yc, yh, yf, yr, yg, ok, A1, A2, A3, A4, hs⟩ := laws_FnEdtSpan.parts hbig h
  have b0 : decide (1048576 < (l0.length : Int)) = false := decide_eq_false hbig
  have b1 : decide (1048576 < l0.length) = false := decide_eq_false (by omega)
  clear hbig h
  have HS := Aside0.mk hs
  clear hs
  go_enter Tryd.func3, Tryd.ntmps3
  go_upto_region 4 with (go_at_call 4; (with_reducible refine (spec_DrawEdtSpan.calls k _ _ l0 tc th tf tr tg row at_ cc rr _ (by repeat (first | exact HR.out | (with_reducible refine Kd.C_alloc ?_ _) | (with_reducible refine Kd.C_drewN ?_ _) | (with_reducible refine Kd.C_drew ?_))) HC.out A1.out).mono ?_); rintro e W1 ⟨v0, v3, rfl, hv0, hv3, hb⟩; obtain ⟨tA, ta, rfl⟩ := Kd.R_slice hv0; obtain ⟨tB, tb, rfl⟩ := Kd.R_slice (Kd.S_R hv3); have HKc := Aside0.mk (Kd.R_reads' hv0).2.2; have HLc := Aside0.mk (Kd.R_reads' hv0).2.1; have HKr := Aside0.mk (Kd.R_reads' (Kd.S_R hv3)).2.2; have HLr := Aside0.mk (Kd.R_reads' (Kd.S_R hv3)).2.1; have HB := Aside0.mk (below_step (by (repeat (with_reducible first | exact Below.refl _ _ | apply below_alloc | apply pw_below_drewN | apply below_drew1))) hb); clear hb hv0 hv3)
  refine wp_letter (fun W0 => laws_FnEdtSpan.Wd w W1.heap.size (l3A (.slice tA tc.length ta) (.slice tB tr.length tb) th tf tg) tA tB tc tr W0) ⟨blk_new W1 _, Kd.C_alloc HKc.out _, Kd.C_alloc HKr.out _, below_alloc HB.out _⟩ ?_
  rintro W2 hT
  generalize W1.heap.size = T at hT ⊢
  clear HKc HKr HB b0 b1
  have HT := Aside0.mk hT
  clear hT
  go_upto_region 5 with (first | (refine wpList_load_row rfl 26 _ rfl T rfl 26 (l3A (.slice tA tc.length ta) (.slice tB tr.length tb) th tf tg) (0, 0) _ HT.out.bt Tryd.underlying26 rfl (by kernel_rfl) ?_) | (go_at_call 5; (with_reducible refine (impl_EdtSpan.calls k tA ta tc th tf tB tb tr tg row at_ cc rr xc xh xf xr xg ok _ HT.out.kc HLc.out HT.out.kr HLr.out (Txt.MLen_below HM.out HT.out.bl) A2.out).mono ?_); rintro e W3 ⟨v0, v3, rfl, hv0, hv3, hb⟩; obtain ⟨xA, xa, rfl⟩ := Kd.R_slice hv0; obtain ⟨xB, xb, rfl⟩ := Kd.R_slice (Kd.S_R hv3); have HKx := Aside0.mk (Kd.R_reads' hv0).2.2; have HLx := Aside0.mk (Kd.R_reads' hv0).2.1; have HKs := Aside0.mk (Kd.R_reads' (Kd.S_R hv3)).2.2; have HLs := Aside0.mk (Kd.R_reads' (Kd.S_R hv3)).2.1; replace HT := Aside0.mk (HT.out.below hb); clear hb hv0 hv3))
  refine wp_letter (fun W0 => laws_FnEdtSpan.Wd w T (l3A (.slice tA tc.length ta) (.slice tB tr.length tb) th tf tg) tA tB tc tr W0 ∧ laws_FnEdtSpan.Wd w W3.heap.size (l3A (.slice xA xc.length xa) (.slice xB xr.length xb) xh xf xg) xA xB xc xr W0) ⟨HT.out.below (below_alloc (Below.refl _ _) _), blk_new W3 _, Kd.C_alloc HKx.out _, Kd.C_alloc HKs.out _, below_alloc HT.out.bl _⟩ ?_
  rintro W4 ⟨hT, hX⟩
  generalize W3.heap.size = X at hX ⊢
  clear HT HKx HKs
  have HT := Aside0.mk hT
  have HX := Aside0.mk hX
  clear hT hX
  go_upto_region 6 with (first | (refine wpList_load_row rfl 26 _ rfl T rfl 26 (l3A (.slice tA tc.length ta) (.slice tB tr.length tb) th tf tg) (0, 0) _ HT.out.bt Tryd.underlying26 rfl (by kernel_rfl) ?_) | (go_at_call 6; (with_reducible refine (spec_EdtSpan.calls k tA ta tc th tf tB tb tr tg row at_ cc rr yc yh yf yr yg ok _ HT.out.kc HLc.out HT.out.kr HLr.out A3.out).mono ?_); rintro e W5 ⟨v0, v3, rfl, hv0, hv3, hb⟩; obtain ⟨yA, ya, rfl⟩ := Kd.R_slice hv0; obtain ⟨yB, yb, rfl⟩ := Kd.R_slice (Kd.S_R hv3); have HKx := Aside0.mk (Kd.R_reads' hv0).2.2; have HLy := Aside0.mk (Kd.R_reads' hv0).2.1; have HKs := Aside0.mk (Kd.R_reads' (Kd.S_R hv3)).2.2; have HLz := Aside0.mk (Kd.R_reads' (Kd.S_R hv3)).2.1; replace HT := Aside0.mk (HT.out.below hb); replace HX := Aside0.mk (HX.out.below hb); clear hb hv0 hv3))
  refine wp_letter (fun W0 => laws_FnEdtSpan.Wd w T (l3A (.slice tA tc.length ta) (.slice tB tr.length tb) th tf tg) tA tB tc tr W0 ∧ laws_FnEdtSpan.Wd w X (l3A (.slice xA xc.length xa) (.slice xB xr.length xb) xh xf xg) xA xB xc xr W0 ∧ laws_FnEdtSpan.Wd w W5.heap.size (l3A (.slice yA yc.length ya) (.slice yB yr.length yb) yh yf yg) yA yB yc yr W0) ⟨HT.out.below (below_alloc (Below.refl _ _) _), HX.out.below (below_alloc (Below.refl _ _) _), blk_new W5 _, Kd.C_alloc HKx.out _, Kd.C_alloc HKs.out _, below_alloc HT.out.bl _⟩ ?_
  rintro W6 ⟨hT, hX, hY⟩
  generalize W5.heap.size = Y at hY ⊢
  clear HT HX HKx HKs
  have HT := Aside0.mk hT
  have HX := Aside0.mk hX
  have HY := Aside0.mk hY
  clear hT hX hY
  have x0_ : _ = some (Value.slice xA xc.length xa) := (blk_cell HX.out.bt 0).trans rfl
  have x1_ : _ = some (Value.int .i64 xh) := (blk_cell HX.out.bt 1).trans rfl
  have x2_ : _ = some (Value.int .i64 xf) := (blk_cell HX.out.bt 2).trans rfl
  have x3_ : _ = some (Value.slice xB xr.length xb) := (blk_cell HX.out.bt 3).trans rfl
  have x4_ : _ = some (Value.int .i64 xg) := (blk_cell HX.out.bt 4).trans rfl
  have y0_ : _ = some (Value.slice yA yc.length ya) := (blk_cell HY.out.bt 0).trans rfl
  have y1_ : _ = some (Value.int .i64 yh) := (blk_cell HY.out.bt 1).trans rfl
  have y2_ : _ = some (Value.int .i64 yf) := (blk_cell HY.out.bt 2).trans rfl
  have y3_ : _ = some (Value.slice yB yr.length yb) := (blk_cell HY.out.bt 3).trans rfl
  have y4_ : _ = some (Value.int .i64 yg) := (blk_cell HY.out.bt 4).trans rfl
  go_upto_region 8 with (go_at_call 7; (with_reducible refine (laws_pwTable.calls k xA xa xc xh xf xB xb xr xg yA ya yc yh yf yB yb yr yg true _ HX.out.kc HLx.out HX.out.kr HLs.out HY.out.kc HLy.out HY.out.kr HLz.out A4.out).mono ?_); rintro e W7 ⟨rfl, hb⟩; clear x0_ x1_ x2_ x3_ x4_ y0_ y1_ y2_ y3_ y4_; replace HT := Aside0.mk (HT.out.below hb); replace HX := Aside0.mk (HX.out.below hb); clear hb)
  clear HY HLy HLz A4 A3 A2 A1
  rcases HS.out with ⟨B1, rfl, B2⟩ | ⟨B1, rfl, B2⟩ | ⟨B1, rfl, B2, B3⟩
  rotate_left
  · clear HS
    go_wp2_with (first | (refine wpList_load_row rfl 26 _ rfl T rfl 26 (l3A (.slice tA tc.length ta) (.slice tB tr.length tb) th tf tg) (0, 0) _ HT.out.bt Tryd.underlying26 rfl (by kernel_rfl) ?_) | (refine wpList_load_row rfl 26 _ rfl X rfl 26 (l3A (.slice xA xc.length xa) (.slice xB xr.length xb) xh xf xg) (0, 0) _ HX.out.bt Tryd.underlying26 rfl (by kernel_rfl) ?_) | (go_at_call 8; (with_reducible refine (spec_TblOk.calls k tA ta tc th tf tB tb tr tg true _ HT.out.kc HLc.out HT.out.kr HLr.out B1.out).mono ?_); rintro e W8 ⟨rfl, hb⟩; replace HT := Aside0.mk (HT.out.below hb); replace HX := Aside0.mk (HX.out.below hb); clear hb) | (go_at_call 7; (with_reducible refine (laws_pwTable.calls k xA xa xc xh xf xB xb xr xg tA ta tc th tf tB tb tr tg r _ HX.out.kc HLx.out HX.out.kr HLs.out HT.out.kc HLc.out HT.out.kr HLr.out B2.out).mono ?_); rintro e W9 ⟨rfl, hb⟩; replace HT := Aside0.mk (HT.out.below hb); clear hb))
    go_ret
    exact ⟨rfl, HT.out.bl⟩
  · clear HS
    go_wp2_with (first | (refine wpList_load_row rfl 26 _ rfl T rfl 26 (l3A (.slice tA tc.length ta) (.slice tB tr.length tb) th tf tg) (0, 0) _ HT.out.bt Tryd.underlying26 rfl (by kernel_rfl) ?_) | (refine wpList_load_row rfl 26 _ rfl X rfl 26 (l3A (.slice xA xc.length xa) (.slice xB xr.length xb) xh xf xg) (0, 0) _ HX.out.bt Tryd.underlying26 rfl (by kernel_rfl) ?_) | (go_at_call 8; (with_reducible refine (spec_TblOk.calls k tA ta tc th tf tB tb tr tg false _ HT.out.kc HLc.out HT.out.kr HLr.out B1.out).mono ?_); rintro e W8 ⟨rfl, hb⟩; replace HT := Aside0.mk (HT.out.below hb); replace HX := Aside0.mk (HX.out.below hb); clear hb) | (go_at_call 7; (refine (laws_pwTable.calls k xA xa xc xh xf xB xb xr xg none 0 [] 0 0 none 0 [] 0 true _ HX.out.kc HLx.out HX.out.kr HLs.out ?n1 (Nat.le_refl _) ?n2 (Nat.le_refl _) B2.out).mono ?_); (case n1 => exact (Kd.R_reads' (Kd.R_nil k59 59 _ 0 (fun _ => True))).2.2); (case n2 => exact (Kd.R_reads' (Kd.R_nil k40 40 _ 0 (fun _ => True))).2.2); rintro e W9 ⟨rfl, hb⟩; replace HT := Aside0.mk (HT.out.below hb); clear hb) | (go_at_call 9; (with_reducible refine (laws_pwOk.calls r _ (Txt.MLen_below HM.out HT.out.bl) B3.out).mono ?_); rintro e W10 ⟨rfl, hb⟩; replace HT := Aside0.mk (HT.out.below hb); clear hb))
    go_ret
    exact ⟨rfl, HT.out.bl⟩
  obtain ⟨⟨hb1, hb2, hb3, hb4⟩, zc, zh, zf, zr, zg, g1, g2, g3, kk, C1, C2, ⟨hk0, hk1, hk2, hk3, hk4⟩, C3, C4, C6⟩ := laws_FnEdtSpan.parts2 B2.out
  clear HS B2
  go_upto_region 12 with (first | (refine wpList_load_row rfl 26 _ rfl T rfl 26 (l3A (.slice tA tc.length ta) (.slice tB tr.length tb) th tf tg) (0, 0) _ HT.out.bt Tryd.underlying26 rfl (by kernel_rfl) ?_) | (go_at_call 8; (with_reducible refine (spec_TblOk.calls k tA ta tc th tf tB tb tr tg true _ HT.out.kc HLc.out HT.out.kr HLr.out B1.out).mono ?_); rintro e W8 ⟨rfl, hb⟩; replace HT := Aside0.mk (HT.out.below hb); replace HX := Aside0.mk (HX.out.below hb); clear hb))
  clear B1
  obtain ⟨ad, B', c', hA, q0, q1, hle, hC⟩ := at_T40 HT.out.kr row hb1 hb2
  obtain ⟨ad2, hA2, z0, z1, z2, z3, z4, z5, z6, z7, z8, z9, z10⟩ := at_T37 hC at_ hb3 hb4
  rw [hA2] at q0
  have t3_ : _ = some (Value.slice tB tr.length tb) := (blk_cell HT.out.bt 3).trans rfl
  rw [hA] at t3_
  clear hA hA2 q1 hle hC
  have hrow : row < (tr.length : Int) := hb2
  obtain ⟨oc, hoc⟩ : ∃ oc, (rd_T37 (rd_T40 tr row).f0 at_) = oc := ⟨_, rfl⟩
  rw [hoc] at C1 z0 z1 z2 z3 z4 z5 z6 z7 z8 z9 z10
  clear hoc
  go_upto_region 13 with (fail)
  refine wp_letter (fun W0 => laws_FnEdtSpan.Wd w T (l3A (.slice tA tc.length ta) (.slice tB tr.length tb) th tf tg) tA tB tc tr W0 ∧ laws_FnEdtSpan.Wd w X (l3A (.slice xA xc.length xa) (.slice xB xr.length xb) xh xf xg) xA xB xc xr W0 ∧ W0.heap[W8.heap.size]? = some (.cells #[.string oc.f0, .int .i64 oc.f1, .int .i64 oc.f2, .int .i64 oc.f3.f0, .int .i64 oc.f3.f1, .int .i64 oc.f4.f0, .int .i64 oc.f4.f1, .int .i64 oc.f5.f0, .int .i64 oc.f5.f1, .int .i64 oc.f6.f0, .int .i64 oc.f6.f1] 37 (0, 0))) ⟨HT.out.below (below_alloc (Below.refl _ _) _), HX.out.below (below_alloc (Below.refl _ _) _), blk_new W8 _⟩ ?_
  clear q0 z0 z1 z2 z3 z4 z5 z6 z7 z8 z9 z10 t3_ HT HX
  rintro W9 ⟨hT, hX, hO⟩
  generalize W8.heap.size = O at hO ⊢
  have HT := Aside0.mk hT
  have HX := Aside0.mk hX
  have o1_ : _ = some (Value.int .i64 oc.f1) := (blk_cell hO 1).trans rfl
  have o2_ : _ = some (Value.int .i64 oc.f2) := (blk_cell hO 2).trans rfl
  clear hT hX hO
  have x0_ : _ = some (Value.slice xA xc.length xa) := (blk_cell HX.out.bt 0).trans rfl
  have x1_ : _ = some (Value.int .i64 xh) := (blk_cell HX.out.bt 1).trans rfl
  have x2_ : _ = some (Value.int .i64 xf) := (blk_cell HX.out.bt 2).trans rfl
  have x3_ : _ = some (Value.slice xB xr.length xb) := (blk_cell HX.out.bt 3).trans rfl
  have x4_ : _ = some (Value.int .i64 xg) := (blk_cell HX.out.bt 4).trans rfl
  go_upto_region 14 with (go_at_call 5; (with_reducible refine (impl_EdtSpan.calls k xA xa xc xh xf xB xb xr xg row at_ oc.f1 oc.f2 zc zh zf zr zg true _ HX.out.kc HLx.out HX.out.kr HLs.out (Txt.MLen_below HM.out HX.out.bl) C1.out).mono ?_); rintro e W10 ⟨v0, v3, rfl, hv0, hv3, hb⟩; obtain ⟨zA, za, rfl⟩ := Kd.R_slice hv0; obtain ⟨zB, zb, rfl⟩ := Kd.R_slice (Kd.S_R hv3); have HKz := Aside0.mk (Kd.R_reads' hv0).2.2; have HLz := Aside0.mk (Kd.R_reads' hv0).2.1; have HKw := Aside0.mk (Kd.R_reads' (Kd.S_R hv3)).2.2; have HLw := Aside0.mk (Kd.R_reads' (Kd.S_R hv3)).2.1; replace HT := Aside0.mk (HT.out.below hb); replace HX := Aside0.mk (HX.out.below hb); clear hb hv0 hv3 x0_ x1_ x2_ x3_ x4_ o1_ o2_)
  refine wp_letter (fun W0 => laws_FnEdtSpan.Wd w T (l3A (.slice tA tc.length ta) (.slice tB tr.length tb) th tf tg) tA tB tc tr W0 ∧ laws_FnEdtSpan.Wd w X (l3A (.slice xA xc.length xa) (.slice xB xr.length xb) xh xf xg) xA xB xc xr W0 ∧ laws_FnEdtSpan.Wd w W10.heap.size (l3A (.slice zA zc.length za) (.slice zB zr.length zb) zh zf zg) zA zB zc zr W0) ⟨HT.out.below (below_alloc (Below.refl _ _) _), HX.out.below (below_alloc (Below.refl _ _) _), blk_new W10 _, Kd.C_alloc HKz.out _, Kd.C_alloc HKw.out _, below_alloc HT.out.bl _⟩ ?_
  rintro W11 ⟨hT, hX, hZ⟩
  generalize W10.heap.size = Z at hZ ⊢
  clear HT HX HKz HKw
  have HT := Aside0.mk hT
  have HX := Aside0.mk hX
  have HZ := Aside0.mk hZ
  clear hT hX hZ
  go_upto_region 15 with (first | (refine wpList_load_row rfl 26 _ rfl X rfl 26 (l3A (.slice xA xc.length xa) (.slice xB xr.length xb) xh xf xg) (0, 0) _ HX.out.bt Tryd.underlying26 rfl (by kernel_rfl) ?_) | (go_at_call 10; (with_reducible refine (impl_GrdOf.calls k xA xa xc xh xf xB xb xr xg g1 g2 g3 _ HX.out.kc HLx.out HX.out.kr HLs.out (Txt.MLen_below HM.out HX.out.bl) C3.out).mono ?_); rintro e WB ⟨v0, rfl, hv, hb⟩; obtain ⟨gA, ga, rfl⟩ := Kd.R_slice hv; have HKg := Aside0.mk (Kd.R_reads' hv).2.2; have HLg := Aside0.mk (Kd.R_reads' hv).2.1; replace HT := Aside0.mk (HT.out.below hb); replace HX := Aside0.mk (HX.out.below hb); replace HZ := Aside0.mk (HZ.out.below hb); clear hb hv))
  refine wp_letter (fun W0 => laws_FnEdtSpan.Wd w T (l3A (.slice tA tc.length ta) (.slice tB tr.length tb) th tf tg) tA tB tc tr W0 ∧ laws_FnEdtSpan.Wd w X (l3A (.slice xA xc.length xa) (.slice xB xr.length xb) xh xf xg) xA xB xc xr W0 ∧ laws_FnEdtSpan.Wd w Z (l3A (.slice zA zc.length za) (.slice zB zr.length zb) zh zf zg) zA zB zc zr W0 ∧ W0.heap[WB.heap.size]? = some (.cells #[.int .i64 g1, .int .i64 g2, .slice gA g3.length ga] 43 (0, 0)) ∧ Kd.C k47 W0 gA g3.length g3) ⟨HT.out.below (below_alloc (Below.refl _ _) _), HX.out.below (below_alloc (Below.refl _ _) _), HZ.out.below (below_alloc (Below.refl _ _) _), blk_new WB _, Kd.C_alloc HKg.out _⟩ ?_
  rintro WC ⟨hT, hX, hZ, hG, hkg⟩
  generalize WB.heap.size = G at hG ⊢
  clear HT HX HZ HKg
  have HT := Aside0.mk hT
  have HX := Aside0.mk hX
  have HZ := Aside0.mk hZ
  have HG := Aside0.mk hG
  have HKg := Aside0.mk hkg
  clear hT hX hZ hG hkg
  go_upto_region 16 with (first | (refine wpList_load_row rfl 43 _ rfl G rfl 43 #[.int .i64 g1, .int .i64 g2, .slice gA g3.length ga] (0, 0) _ HG.out Tryd.underlying43 rfl (by kernel_rfl) ?_) | (go_at_call 11; (with_reducible refine (impl_GrdFind.calls g1 g2 gA ga g3 row at_ kk _ HKg.out HLg.out C4.out).mono ?_); rintro e WF ⟨rfl, hb⟩; replace HT := Aside0.mk (HT.out.below hb); replace HX := Aside0.mk (HX.out.below hb); replace HZ := Aside0.mk (HZ.out.below hb); replace HG := Aside0.mk (blk_below HG.out hb); replace HKg := Aside0.mk (Kd.C_below HKg.out hb); clear hb))
  obtain ⟨gad, hgA, e0, e1, e2, e3, e4⟩ := at_T47 HKg.out kk hk0 hk1
  obtain ⟨gc, hgc⟩ : ∃ gc, rd_T47 g3 kk = gc := ⟨_, rfl⟩
  rw [hgc] at e2 e3 hk2 hk3 hk4
  rw [hk2] at e3
  have g2_ : _ = some (Value.slice gA g3.length ga) := (blk_cell HG.out 2).trans rfl
  rw [hgA] at g2_
  clear e0 e1 e4 hgc hk2
  have b0 : decide (0 ≤ kk) = true := decide_eq_true hk0
  have b1 : decide (gc.f2 ≤ rr) = true := decide_eq_true hk3
  have b2 : decide (1 ≤ gc.f2) = true := decide_eq_true hk4
  have x0_ : _ = some (Value.slice xA xc.length xa) := (blk_cell HX.out.bt 0).trans rfl
  have x1_ : _ = some (Value.int .i64 xh) := (blk_cell HX.out.bt 1).trans rfl
  have x2_ : _ = some (Value.int .i64 xf) := (blk_cell HX.out.bt 2).trans rfl
  have x3_ : _ = some (Value.slice xB xr.length xb) := (blk_cell HX.out.bt 3).trans rfl
  have x4_ : _ = some (Value.int .i64 xg) := (blk_cell HX.out.bt 4).trans rfl
  have t0_ : _ = some (Value.slice tA tc.length ta) := (blk_cell HT.out.bt 0).trans rfl
  have t1_ : _ = some (Value.int .i64 th) := (blk_cell HT.out.bt 1).trans rfl
  have t2_ : _ = some (Value.int .i64 tf) := (blk_cell HT.out.bt 2).trans rfl
  have t3_ : _ = some (Value.slice tB tr.length tb) := (blk_cell HT.out.bt 3).trans rfl
  have t4_ : _ = some (Value.int .i64 tg) := (blk_cell HT.out.bt 4).trans rfl
  have z0_ : _ = some (Value.slice zA zc.length za) := (blk_cell HZ.out.bt 0).trans rfl
  have z1_ : _ = some (Value.int .i64 zh) := (blk_cell HZ.out.bt 1).trans rfl
  have z2_ : _ = some (Value.int .i64 zf) := (blk_cell HZ.out.bt 2).trans rfl
  have z3_ : _ = some (Value.slice zB zr.length zb) := (blk_cell HZ.out.bt 3).trans rfl
  have z4_ : _ = some (Value.int .i64 zg) := (blk_cell HZ.out.bt 4).trans rfl
  clear hgA
  go_wp2_with (first | (go_at_call 12; (with_reducible refine (impl_TblOk.calls k xA xa xc xh xf xB xb xr xg true _ HX.out.kc HLx.out HX.out.kr HLs.out (Txt.MLen_below HM.out HX.out.bl) C2.out).mono ?_); rintro e WA ⟨rfl, hb⟩; replace t0_ := keepc t0_ hb; replace t1_ := keepc t1_ hb; replace t2_ := keepc t2_ hb; replace t3_ := keepc t3_ hb; replace t4_ := keepc t4_ hb; replace z0_ := keepc z0_ hb; replace z1_ := keepc z1_ hb; replace z2_ := keepc z2_ hb; replace z3_ := keepc z3_ hb; replace z4_ := keepc z4_ hb; replace g2_ := keepc g2_ hb; replace e2 := keepc e2 hb; replace e3 := keepc e3 hb; clear x0_ x1_ x2_ x3_ x4_; replace HT := Aside0.mk (HT.out.below hb); replace HZ := Aside0.mk (HZ.out.below hb); clear hb) | (go_at_call 7; (with_reducible refine (laws_pwTable.calls k zA za zc zh zf zB zb zr zg tA ta tc th tf tB tb tr tg r _ HZ.out.kc HLz.out HZ.out.kr HLw.out HT.out.kc HLc.out HT.out.kr HLr.out C6.out).mono ?_); rintro e WE ⟨rfl, hb⟩; replace HT := Aside0.mk (HT.out.below hb); clear hb))
  go_ret
  exact ⟨rfl, HT.out.bl⟩
def laws_FnEdtSpan.Pure : Prop := ∀ (l0 : List Int), l0.length ≤ maxLen → l0.length * 1 ≤ 140737488351232 → (∀ x ∈ l0, (Lit.int .u8 x).wf = true) → ∃ k, laws_FnEdtSpan.f k l0 = some true


end Go.Proofs.YtpmbglbfoaejaaaDoor.Q
