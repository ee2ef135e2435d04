-- Told by a program of this session (uprint.py, ulay.py).
import Derived.Test.YtpmbglbfoaejaaaDoorQ0
import Derived.Test.YtpmbglbfoaejaaaDoorReg
import Derived.Test.YtpmbglbfoaejaaaDoorQimplin
import Derived.Test.YtpmbglbfoaejaaaDoorQimplCellOk
import Derived.Test.YtpmbglbfoaejaaaDoorQimplTblTablecopied
import Derived.Test.YtpmbglbfoaejaaaDoorQspecTblOk
import Derived.Test.YtpmbglbfoaejaaaDoorQspecl2Copy
namespace Go.Proofs.YtpmbglbfoaejaaaDoor.Q
open Go.RowKit Go.Proofs.YtpmbglbfoaejaaaDoorW.PrintWords Go.Proofs.YtpmbglbfoaejaaaDoorW.PrintLast Go.Proofs.YtpmbglbfoaejaaaDoorW.PrintMore Go.Proofs.YtpmbglbfoaejaaaDoor.Reg Go.Proofs.YtpmbglbfoaejaaaDoor.Box
attribute [local go_sem] max2_int min2_int max_two min_two max_three min_three max_four min_four
set_option linter.unusedVariables false
set_option linter.unusedSimpArgs false

/-! ### impl_EdtSpan: function 5 (by hand) -/
theorem set_same {α : Type} {l : List α} {i : Nat} {x : α} (h : l[i]? = some x) : l.set i x = l := by
  apply List.ext_getElem?
  intro j
  rw [List.getElem?_set]
  split
  · rename_i e
    subst e
    split
    · exact h.symm
    · rename_i hn
      rw [List.getElem?_eq_none (by omega)]
  · rfl
theorem grown_after {W W2 W3 : World} {row : Option Nat} (hg : W.grownBy W2 row) (hb : Below W2.heap.size W2 W3) : W.grownBy W3 row := ⟨hb.os.trans hg.os, hb.tape.trans hg.tape, hb.output.trans hg.output, Nat.le_trans hg.size hb.size, fun k hk hr => (hb.block k (Nat.lt_of_lt_of_le hk hg.size)).trans (hg.block k hk hr)⟩
set_option maxHeartbeats 4000000 in
set_option maxRecDepth 100000 in
/-- EdtSpan's own closure. -/
theorem clo_EdtSpan (cc rr : Int) (b1 b2 : Nat) (q : Bool) (x : S37) (W0 : World) (h1 : W0.cell? ⟨b1, 0, none⟩ = some (.int .i64 cc)) (h2 : W0.cell? ⟨b2, 0, none⟩ = some (.int .i64 rr)) (hq : (decide (1 ≤ cc ∧ cc ≤ 4) && decide (1 ≤ rr ∧ rr ≤ 4)) = q) :
    CellFn 17 #[.pointer (some ⟨b1, 0, none⟩), .pointer (some ⟨b2, 0, none⟩)] W0 x q (if q = true then { x with f1 := cc, f2 := rr } else x) := by
  intro W gb pl cap xs base ok hb hbase hR hx
  have HB := Aside0.mk hb
  have HR := Aside0.mk hR
  have HX := Aside0.mk hx
  have x1 := (hb.cell (World.block_lt_of_cell? W0 _ h1)).trans h1
  have x2 := (hb.cell (World.block_lt_of_cell? W0 _ h2)).trans h2
  have X1 := Aside0.mk x1
  have X2 := Aside0.mk x2
  have hpl : pl < xs.length := by
    rcases Nat.lt_or_ge pl xs.length with h | h
    · exact h
    · rw [List.getElem?_eq_none h] at hx; cases hx
  obtain ⟨gb', cap', he, hgb1, _⟩ := Kd.R_form hR (by omega)
  obtain rfl : gb = gb' := by
    injection he with he _ _
    injection he with he
    injection he
  have n1 : b1 ≠ gb := by
    have := World.block_lt_of_cell? W0 _ h1
    simp only at this
    omega
  have n2 : b2 ≠ gb := by
    have := World.block_lt_of_cell? W0 _ h2
    simp only at this
    omega
  clear he
  have A5 := Aside0.mk (in_dec cc 1 4)
  have A6 := Aside0.mk (in_dec rr 1 4)
  clear hb hR hx h1 h2 hbase
  cases q
  · rw [if_neg (by decide), set_same HX.out]
    by_cases h5 : 1 ≤ cc ∧ cc ≤ 4
    · have h6 : ¬ (1 ≤ rr ∧ rr ≤ 4) := fun h6 => by rw [decide_eq_true h5, decide_eq_true h6] at hq; cases hq
      rw [decide_eq_true h5] at A5
      rw [decide_eq_false h6] at A6
      clear h5 h6 hq n1 n2
      go_enter Tryd.func17, Tryd.ntmps17
      go_wp2_with (go_at_call 18; (first | (with_reducible refine (impl_in.calls _ _ _ _ _ A5.out).mono ?_) | (with_reducible refine (impl_in.calls _ _ _ _ _ A6.out).mono ?_)); rintro e_ W' ⟨rfl, ⟨nd, rfl⟩⟩)
      go_ret
      exact ⟨rfl, grown_step (by repeat (with_reducible first | exact Below.refl _ _ | apply below_alloc | apply pw_below_drewN | apply below_drew1)) (World.grownBy.refl _ _), Kd.R_below HR.out (by repeat (with_reducible first | exact Below.refl _ _ | apply below_alloc | apply pw_below_drewN | apply below_drew1))⟩
    · rw [decide_eq_false h5] at A5
      clear h5 hq n1 n2
      go_enter Tryd.func17, Tryd.ntmps17
      go_wp2_with (go_at_call 18; (first | (with_reducible refine (impl_in.calls _ _ _ _ _ A5.out).mono ?_) | (with_reducible refine (impl_in.calls _ _ _ _ _ A6.out).mono ?_)); rintro e_ W' ⟨rfl, ⟨nd, rfl⟩⟩)
      go_ret
      exact ⟨rfl, grown_step (by repeat (with_reducible first | exact Below.refl _ _ | apply below_alloc | apply pw_below_drewN | apply below_drew1)) (World.grownBy.refl _ _), Kd.R_below HR.out (by repeat (with_reducible first | exact Below.refl _ _ | apply below_alloc | apply pw_below_drewN | apply below_drew1))⟩
  · rw [if_pos rfl]
    rw [Bool.and_eq_true] at hq
    rw [hq.1] at A5
    rw [hq.2] at A6
    clear hq
    go_enter Tryd.func17, Tryd.ntmps17
    go_upto_region 3 with (go_at_call 18; (first | (with_reducible refine (impl_in.calls _ _ _ _ _ A5.out).mono ?_) | (with_reducible refine (impl_in.calls _ _ _ _ _ A6.out).mono ?_)); rintro e_ W' ⟨rfl, ⟨nd, rfl⟩⟩)
    refine wp_letter (fun W1 => Below W.heap.size W W1) (by repeat (with_reducible first | exact Below.refl _ _ | apply below_alloc | apply pw_below_drewN | apply below_drew1)) ?_
    clear x1 x2
    rintro W1 hb1
    have hR1 := Kd.R_below HR.out hb1
    have x1 := (hb1.cell (World.block_lt_of_cell? W _ X1.out)).trans X1.out
    have x2 := (hb1.cell (World.block_lt_of_cell? W _ X2.out)).trans X2.out
    have hg : List.getD xs ((pl : Int)).toNat z37 = x := by
      rw [Int.toNat_natCast, List.getD_eq_getElem?_getD, HX.out]
      rfl
    obtain ⟨c, hcl, hN, hcc, hfr⟩ := Kd.R_elem hR1 z37 (pl : Int) (by omega) (by omega)
    rw [hg] at hN
    obtain rfl := k37_openM hN
    have y0 : W1.cell? ⟨gb, pl * 11 + 1, none⟩ = some (.int .i64 x.f1) := hcc 1 _ rfl
    have f0 : W1.frozen? ⟨gb, pl * 11 + 1, none⟩ = false := hfr 1
    have y1 : W1.cell? ⟨gb, pl * 11 + 2, none⟩ = some (.int .i64 x.f2) := hcc 2 _ rfl
    have f1 : W1.frozen? ⟨gb, pl * 11 + 2, none⟩ = false := hfr 2
    have HP := Aside0.mk (Kd.R_seg hR1 (pl : Int) (by omega) (by omega) (seg := [.int .i64 cc, .int .i64 rr]) (j := 1) hcl hcc (show 1 + 2 ≤ 11 from by decide) (x' := { x with f1 := cc, f2 := rr }) (k37_mkM _ _ _ ({ x with f1 := cc, f2 := rr } : S37)) (fun _ hk => hk))
    clear hcl hcc hfr hN hR1
    have N1 := Aside0.mk n1
    have N2 := Aside0.mk n2
    go_upto_region 3 with (fail)
    go_region_held3 (fun w' => w'.cell? ⟨b1, 0, none⟩ = some (.int .i64 cc) ∧ w'.cell? ⟨b2, 0, none⟩ = some (.int .i64 rr)) ((repeat' apply And.intro) <;> (repeat (first | assumption | (refine (World.cell?_setCell_far _ _ _ _ (fun e => N1.out e.symm)).trans ?_) | (refine (World.cell?_setCell_far _ _ _ _ (fun e => N2.out e.symm)).trans ?_)))) (fail)
    go_wp2
    go_ret
    exact ⟨rfl, grown_step hb1 (grown_after HP.out.2 (below_drew1 (Below.refl _ _))), Kd.R_below HP.out.1 (below_drew1 (Below.refl _ _))⟩
/-- A table whose cell at a place is turned. -/
def edCell (rows : List S40) (row pl : Int) (g : S37 → Option (Bool × S37)) : Option (List S40 × Bool) :=
  if hasP rows row pl then (g (rd_T37 (rd_T40 rows row).f0 pl)).bind fun b => some (rows.set row.toNat ⟨(rd_T40 rows row).f0.set pl.toNat b.2, (rd_T40 rows row).f1⟩, b.1) else some (rows, false)
def impl_EdtSpan.f (k : Nat) (l0_0 : List S59) (a0_1 : Int) (a0_2 : Int) (l0_3 : List S40) (a0_4 : Int) (a1 : Int) (a2 : Int) (a3 : Int) (a4 : Int) : Option (List S59 × Int × Int × List S40 × Int × Bool) :=
  (impl_TblOk.f k l0_0 a0_1 a0_2 l0_3 a0_4).bind fun b => if b = true then (impl_TblTable_copied.f k l0_0 a0_1 a0_2 l0_3 a0_4).bind fun c => (edCell c.2.2.2.1 a1 a2 fun x => some ((decide (1 ≤ a3 ∧ a3 ≤ 4) && decide (1 ≤ a4 ∧ a4 ≤ 4)), if (decide (1 ≤ a3 ∧ a3 ≤ 4) && decide (1 ≤ a4 ∧ a4 ≤ 4)) = true then { x with f1 := a3, f2 := a4 } else x)).bind fun e => some (c.1, c.2.1, c.2.2.1, e.1, c.2.2.2.2, e.2) else some ([], 0, 0, [], 0, false)
theorem impl_EdtSpan.mono : ∀ a0 a1 a2 a3 a4 a5 a6 a7 a8 k, LeO (impl_EdtSpan.f k a0 a1 a2 a3 a4 a5 a6 a7 a8) (impl_EdtSpan.f (k + 1) a0 a1 a2 a3 a4 a5 a6 a7 a8) := fun _ _ _ _ _ _ _ _ _ _ => by
  unfold impl_EdtSpan.f
  exact LeO.bind (impl_TblOk.mono _ _ _ _ _ _) fun _ => LeO.ite (LeO.bind (impl_TblTable_copied.mono _ _ _ _ _ _) fun _ => LeO.refl _) (LeO.refl _)
theorem blk_four (w : World) (o1 o2 o3 o4 : Obj) : ((((w.alloc o1).alloc o2).alloc o3).alloc o4).heap[w.heap.size]? = some o1 ∧ ((((w.alloc o1).alloc o2).alloc o3).alloc o4).heap[w.heap.size + 1]? = some o2 ∧ ((((w.alloc o1).alloc o2).alloc o3).alloc o4).heap[w.heap.size + 2]? = some o3 ∧ ((((w.alloc o1).alloc o2).alloc o3).alloc o4).heap[w.heap.size + 3]? = some o4 := by
  have s1 : (w.alloc o1).heap.size = w.heap.size + 1 := by simp
  have s2 : ((w.alloc o1).alloc o2).heap.size = w.heap.size + 2 := by simp
  have s3 : (((w.alloc o1).alloc o2).alloc o3).heap.size = w.heap.size + 3 := by simp
  refine ⟨blk_alloc (blk_alloc (blk_alloc (blk_new w o1) _) _) _, ?_, ?_, ?_⟩
  · rw [← s1]; exact blk_alloc (blk_alloc (blk_new _ o2) _) _
  · rw [← s2]; exact blk_alloc (blk_new _ o3) _
  · rw [← s3]; exact blk_new _ o4
theorem impl_EdtSpan.parts {k : Nat} {l0_0 : List S59} {a0_1 a0_2 : Int} {l0_3 : List S40} {a0_4 a1 a2 : Int} {a3 a4 : Int} {c1 : List S59} {h1 f1 : Int} {r4 : List S40} {g1 : Int} {q : Bool} (h : impl_EdtSpan.f k l0_0 a0_1 a0_2 l0_3 a0_4 a1 a2 a3 a4 = some (c1, h1, f1, r4, g1, q)) :
    ∃ b r1, impl_TblOk.f k l0_0 a0_1 a0_2 l0_3 a0_4 = some b ∧ (b = false → q = false ∧ r4 = [] ∧ c1 = [] ∧ h1 = 0 ∧ f1 = 0 ∧ g1 = 0) ∧ (b = true → impl_TblTable_copied.f k l0_0 a0_1 a0_2 l0_3 a0_4 = some (c1, h1, f1, r1, g1) ∧ ((¬ hasP r1 a1 a2 ∧ r4 = r1 ∧ q = false) ∨ (hasP r1 a1 a2 ∧ (decide (1 ≤ a3 ∧ a3 ≤ 4) && decide (1 ≤ a4 ∧ a4 ≤ 4)) = q ∧ r4 = r1.set a1.toNat ⟨(rd_T40 r1 a1).f0.set a2.toNat (if q = true then { rd_T37 (rd_T40 r1 a1).f0 a2 with f1 := a3, f2 := a4 } else rd_T37 (rd_T40 r1 a1).f0 a2), (rd_T40 r1 a1).f1⟩))) := by
  unfold impl_EdtSpan.f at h
  obtain ⟨b, e1, h⟩ := Option.bind_eq_some_iff.1 h
  cases b
  · rw [if_neg (by decide)] at h
    simp only [Option.some.injEq, Prod.mk.injEq] at h
    obtain ⟨rfl, rfl, rfl, rfl, rfl, rfl⟩ := h
    exact ⟨false, [], e1, fun _ => ⟨rfl, rfl, rfl, rfl, rfl, rfl⟩, (fun e => by cases e)⟩
  · rw [if_pos rfl] at h
    obtain ⟨⟨x1, x2, x3, x4, x5⟩, e2, h⟩ := Option.bind_eq_some_iff.1 h
    obtain ⟨⟨y1, y2⟩, e3, h⟩ := Option.bind_eq_some_iff.1 h
    simp only [Option.some.injEq, Prod.mk.injEq] at h e3
    obtain ⟨rfl, rfl, rfl, rfl, rfl, rfl⟩ := h
    refine ⟨true, x4, e1, (fun e => by cases e), fun _ => ⟨e2, ?_⟩⟩
    unfold edCell at e3
    split at e3
    · rename_i hy
      obtain ⟨⟨z1, z2⟩, e4, e5⟩ := Option.bind_eq_some_iff.1 e3
      simp only [Option.some.injEq, Prod.mk.injEq] at e5 e4
      obtain ⟨rfl, rfl⟩ := e5
      obtain ⟨e6, rfl⟩ := e4
      exact .inr ⟨hy, e6, by rw [← e6]⟩
    · rename_i hy
      simp only [Option.some.injEq, Prod.mk.injEq] at e3
      exact .inl ⟨hy, e3.1.symm, e3.2.symm⟩
set_option maxHeartbeats 4000000 in
set_option maxRecDepth 100000 in
theorem impl_EdtSpan.calls (k : Nat) (A0_0 : Option Addr) (c0_0 : Nat) (l0_0 : List (S59)) (a0_1 : Int) (a0_2 : Int) (A0_3 : Option Addr) (c0_3 : Nat) (l0_3 : List (S40)) (a0_4 : Int) (a1 : Int) (a2 : Int) (a3 : Int) (a4 : Int) (r1 : List (S59)) (r2 : Int) (r3 : Int) (r4 : List (S40)) (r5 : Int) (r6 : Bool) (w : World) (hr0_0 : Kd.C k59 w A0_0 l0_0.length l0_0) (hc0_0 : l0_0.length ≤ c0_0) (hr0_3 : Kd.C k40 w A0_3 l0_3.length l0_3) (hc0_3 : l0_3.length ≤ c0_3) (hM : Txt.MLen w) (h : impl_EdtSpan.f k l0_0 a0_1 a0_2 l0_3 a0_4 a1 a2 a3 a4 = some (r1, r2, r3, r4, r5, r6)) :
    Calls Tryd.prog 5 #[.agg #[.slice A0_0 l0_0.length c0_0, .int .i64 a0_1, .int .i64 a0_2, .slice A0_3 l0_3.length c0_3, .int .i64 a0_4], .int .i64 a1, .int .i64 a2, .int .i64 a3, .int .i64 a4] w fun e w' => ∃ v0_ v3_ : Value, e = .returned (.tuple #[.agg #[v0_, .int .i64 r2, .int .i64 r3, v3_, .int .i64 r5], .bool r6]) ∧ Kd.R k59 59 w' w.heap.size (fun _ => True) v0_ r1 ∧ Kd.S k40 40 w' w.heap.size (fun _ => True) v3_ r4 ∧ Below w.heap.size w w' := by
  have HM := Aside0.mk hM
  have HR0 := Aside0.mk hr0_0
  have HC0 := Aside0.mk hc0_0
  have HR3 := Aside0.mk hr0_3
  have HC3 := Aside0.mk hc0_3
  clear hM hr0_0 hc0_0 hr0_3 hc0_3
  obtain ⟨b, rr, e1, e2, e3⟩ := impl_EdtSpan.parts h
  have E1 := Aside0.mk e1
  have E2 := Aside0.mk e2
  have E3 := Aside0.mk e3
  clear h e1 e2 e3
  go_enter Tryd.func5, Tryd.ntmps5
  go_upto_region 1 with (fail)
  have h3 := blk_four w (.cells (l3A (.slice A0_0 l0_0.length c0_0) (.slice A0_3 l0_3.length c0_3) a0_1 a0_2 a0_4) 26) (.cells #[.int .i64 a3] 3) (.cells #[.int .i64 a4] 3) (.cells (l3A (.slice none 0 0) (.slice none 0 0) 0 0 0) 26)
  have hB0 : Below w.heap.size w ((((w.alloc (.cells (l3A (.slice A0_0 l0_0.length c0_0) (.slice A0_3 l0_3.length c0_3) a0_1 a0_2 a0_4) 26)).alloc (.cells #[.int .i64 a3] 3)).alloc (.cells #[.int .i64 a4] 3)).alloc (.cells (l3A (.slice none 0 0) (.slice none 0 0) 0 0 0) 26)) := below_alloc (below_alloc (below_alloc (below_alloc (Below.refl _ _) _) _) _) _
  refine wp_letter (fun W0 => (W0.heap[w.heap.size]? = some (.cells (l3A (.slice A0_0 l0_0.length c0_0) (.slice A0_3 l0_3.length c0_3) a0_1 a0_2 a0_4) 26 (0, 0)) ∧ W0.heap[w.heap.size + 1]? = some (.cells #[.int .i64 a3] 3 (0, 0)) ∧ W0.heap[w.heap.size + 2]? = some (.cells #[.int .i64 a4] 3 (0, 0)) ∧ W0.heap[w.heap.size + 3]? = some (.cells (l3A (.slice none 0 0) (.slice none 0 0) 0 0 0) 26 (0, 0))) ∧ Below w.heap.size w W0) ⟨h3, hB0⟩ ?_
  rintro W1 ⟨⟨hP, hb1, hb2, hZ⟩, hB⟩
  clear h3 hB0
  have HP := Aside0.mk hP
  have HZB := Aside0.mk hZ
  have HB := Aside0.mk hB
  have HED := Aside0.mk (cellAt_calls k A0_0 c0_0 l0_0 a0_1 a0_2 A0_3 c0_3 l0_3 a0_4 a1 a2 17 #[.pointer (some ⟨w.heap.size + 1, 0, none⟩), .pointer (some ⟨w.heap.size + 2, 0, none⟩)] (enters_of Tryd.func17 (by kernel_rfl) rfl) b r1 r2 r3 rr r5 r4 r6 W1 (Kd.C_below HR0.out hB) HC0.out (Kd.C_below HR3.out hB) HC3.out (Txt.MLen_below HM.out hB) E1.out E2.out (fun e => by
      obtain ⟨z1, z2⟩ := E3.out e
      refine ⟨z1, ?_⟩
      rcases z2 with z2 | ⟨z2, z3, z4⟩
      · exact .inl z2
      · exact .inr ⟨z2, _, clo_EdtSpan a3 a4 _ _ r6 _ W1 ((blk_cell hb1 0).trans rfl) ((blk_cell hb2 0).trans rfl) z3, z4⟩))
  clear hP hb1 hb2 hZ hB E1 E2 E3 HR0 HC0 HR3 HC3 HM
  go_wp2_with (first | (refine wpList_load_row rfl 26 _ rfl w.heap.size rfl 26 (l3A (.slice A0_0 l0_0.length c0_0) (.slice A0_3 l0_3.length c0_3) a0_1 a0_2 a0_4) (0, 0) _ HP.out Tryd.underlying26 rfl (by kernel_rfl) ?_) | (go_at_call 16; refine HED.out.mono ?_; rintro e_ W5 ⟨vc', vr', rfl, hrc, hsr, hb⟩; obtain ⟨Ad, cd, rfl⟩ := Kd.R_slice hrc; obtain ⟨Ae, ce, rfl⟩ := Kd.R_slice (Kd.S_R hsr); have HRC := Aside0.mk (Kd.R_lower hrc HB.out.size); have HSR := Aside0.mk (Kd.S_lower hsr HB.out.size); have HB5 := Aside0.mk (below_step HB.out hb); have HZ5 := Aside0.mk (blk_below HZB.out hb); clear hrc hsr hb) | (refine wpList_put 26 _ _ rfl rfl (w.heap.size + 3) 0 rfl (.agg (l3A (.slice Ad r1.length cd) (.slice Ae r4.length ce) r2 r3 r5)) rfl 26 (l3A (.slice none 0 0) (.slice none 0 0) 0 0 0) (l3A (.slice Ad r1.length cd) (.slice Ae r4.length ce) r2 r3 r5) HZ5.out (by kernel_rfl) rfl rfl rfl (fun W9 hp => ?_); have HFB := Aside0.mk hp.blk; have HF := Aside0.mk (pw_below_grown HB5.out _ (by have := blk_lt HZ5.out; omega) hp.grown (fun k hk => by injection hk with hk; omega)); have HFR := Aside0.mk (R_put HRC.out HZ5.out hp (by decide)); have HFS := Aside0.mk (S_put HSR.out HZ5.out hp (by decide)); clear hp))
  exact bodyPost_ret (results_ct rfl _ _ (w.heap.size + 3) 26 (l3A (.slice Ad r1.length cd) (.slice Ae r4.length ce) r2 r3 r5) (0, 0) _ rfl HFB.out Tryd.underlying26 rfl (by kernel_rfl)) rfl ⟨_, _, rfl, HFR.out, HFS.out, HF.out⟩

/-! ### spec_EdtSpan: function 6 (by hand) -/
def spec_EdtSpan.f (k : Nat) (l0_0 : List S59) (a0_1 : Int) (a0_2 : Int) (l0_3 : List S40) (a0_4 : Int) (a1 : Int) (a2 : Int) (a3 : Int) (a4 : Int) : Option (List S59 × Int × Int × List S40 × Int × Bool) :=
  (spec_TblOk.f k l0_0 a0_1 a0_2 l0_3 a0_4).bind fun b => if b = true then (spec_l2Copy.f k l0_0 a0_1 a0_2 l0_3 a0_4).bind fun c => if hasP l0_3 a1 a2 then (some (decide (1 ≤ a3 ∧ a3 ≤ 4) && decide (1 ≤ a4 ∧ a4 ≤ 4))).bind fun q => if q = true then (if hasP c.2.2.2.1 a1 a2 then some (c.1, c.2.1, c.2.2.1, c.2.2.2.1.set a1.toNat ⟨(rd_T40 c.2.2.2.1 a1).f0.set a2.toNat { (rd_T37 (rd_T40 c.2.2.2.1 a1).f0 a2) with f1 := a3, f2 := a4 }, (rd_T40 c.2.2.2.1 a1).f1⟩, c.2.2.2.2, true) else none) else some (c.1, c.2.1, c.2.2.1, c.2.2.2.1, c.2.2.2.2, false) else some (c.1, c.2.1, c.2.2.1, c.2.2.2.1, c.2.2.2.2, false) else some ([], 0, 0, [], 0, false)
theorem spec_EdtSpan.mono : ∀ a0 a1 a2 a3 a4 a5 a6 a7 a8 k, LeO (spec_EdtSpan.f k a0 a1 a2 a3 a4 a5 a6 a7 a8) (spec_EdtSpan.f (k + 1) a0 a1 a2 a3 a4 a5 a6 a7 a8) := fun _ _ _ _ _ _ _ _ _ _ => by
  unfold spec_EdtSpan.f
  exact LeO.bind (spec_TblOk.mono _ _ _ _ _ _) fun _ => LeO.ite (LeO.bind (spec_l2Copy.mono _ _ _ _ _ _) fun _ => LeO.ite (LeO.bind (LeO.refl _) fun _ => LeO.refl _) (LeO.refl _)) (LeO.refl _)
theorem spec_EdtSpan.parts {k : Nat} {l0_0 : List S59} {a0_1 a0_2 : Int} {l0_3 : List S40} {a0_4 a1 a2 : Int} {a3 : Int} {a4 : Int} {c1 : List S59} {h1 f1 : Int} {r4 : List S40} {g1 : Int} {q : Bool} (h : spec_EdtSpan.f k l0_0 a0_1 a0_2 l0_3 a0_4 a1 a2 a3 a4 = some (c1, h1, f1, r4, g1, q)) :
    ∃ b r1, Aside0 (spec_TblOk.f k l0_0 a0_1 a0_2 l0_3 a0_4 = some b) ∧ ((b = false ∧ q = false ∧ r4 = [] ∧ c1 = [] ∧ h1 = 0 ∧ f1 = 0 ∧ g1 = 0) ∨ (b = true ∧ Aside0 (spec_l2Copy.f k l0_0 a0_1 a0_2 l0_3 a0_4 = some (c1, h1, f1, r1, g1)) ∧ ((¬ hasP l0_3 a1 a2 ∧ r4 = r1 ∧ q = false) ∨ (hasP l0_3 a1 a2 ∧ Aside0 (some (decide (1 ≤ a3 ∧ a3 ≤ 4) && decide (1 ≤ a4 ∧ a4 ≤ 4)) = some false) ∧ r4 = r1 ∧ q = false) ∨ (hasP l0_3 a1 a2 ∧ Aside0 (some (decide (1 ≤ a3 ∧ a3 ≤ 4) && decide (1 ≤ a4 ∧ a4 ≤ 4)) = some true) ∧ Aside0 (hasP r1 a1 a2) ∧ r4 = r1.set a1.toNat ⟨(rd_T40 r1 a1).f0.set a2.toNat { (rd_T37 (rd_T40 r1 a1).f0 a2) with f1 := a3, f2 := a4 }, (rd_T40 r1 a1).f1⟩ ∧ q = true)))) := by
  unfold spec_EdtSpan.f at h
  obtain ⟨b, e1, h⟩ := Option.bind_eq_some_iff.1 h
  cases b
  · rw [if_neg (by decide)] at h
    simp only [Option.some.injEq, Prod.mk.injEq] at h
    obtain ⟨rfl, rfl, rfl, rfl, rfl, rfl⟩ := h
    exact ⟨false, [], ⟨e1⟩, .inl ⟨rfl, rfl, rfl, rfl, rfl, rfl, rfl⟩⟩
  · rw [if_pos rfl] at h
    obtain ⟨⟨x1, x2, x3, x4, x5⟩, e2, h⟩ := Option.bind_eq_some_iff.1 h
    split at h
    · rename_i hy
      obtain ⟨o, e3, h⟩ := Option.bind_eq_some_iff.1 h
      cases o
      · rw [if_neg (by decide)] at h
        simp only [Option.some.injEq, Prod.mk.injEq] at h
        obtain ⟨rfl, rfl, rfl, rfl, rfl, rfl⟩ := h
        exact ⟨true, x4, ⟨e1⟩, .inr ⟨rfl, ⟨e2⟩, .inr (.inl ⟨hy, ⟨e3⟩, rfl, rfl⟩)⟩⟩
      · rw [if_pos rfl] at h
        split at h
        · rename_i hz
          simp only [Option.some.injEq, Prod.mk.injEq] at h
          obtain ⟨rfl, rfl, rfl, rfl, rfl, rfl⟩ := h
          exact ⟨true, x4, ⟨e1⟩, .inr ⟨rfl, ⟨e2⟩, .inr (.inr ⟨hy, ⟨e3⟩, ⟨hz⟩, rfl, rfl⟩)⟩⟩
        · cases h
    · rename_i hy
      simp only [Option.some.injEq, Prod.mk.injEq] at h
      obtain ⟨rfl, rfl, rfl, rfl, rfl, rfl⟩ := h
      exact ⟨true, x4, ⟨e1⟩, .inr ⟨rfl, ⟨e2⟩, .inl ⟨hy, rfl, rfl⟩⟩⟩
theorem spec_EdtSpan.in_dec (x c d : Int) : spec_l1In.f x c d = some (decide (c ≤ x ∧ x ≤ d)) := by
  unfold spec_l1In.f
  split
  · congr 1; exact decide_eq_decide.2 (by omega)
  · congr 1; symm; exact decide_eq_false (by omega)
/-- What stands behind the copying. -/
structure spec_EdtSpan.E5 (w : World) (pa : Array Value) (B : Nat) (Ac Ar : Option Addr) (cc cr : Nat) (c1 : List S59) (h1 f1 : Int) (r1 : List S40) (g1 : Int) (W : World) : Prop where
  e : E3 w pa W
  xb : W.heap[B]? = some (.cells (l3A (.slice Ac c1.length cc) (.slice Ar r1.length cr) h1 f1 g1) 26 (0, 0))
  rc : Kd.R k59 59 W w.heap.size (fun _ => True) (.slice Ac c1.length cc) c1
  sr : Kd.S k40 40 W w.heap.size (fun _ => True) (.slice Ar r1.length cr) r1
  lt : w.heap.size + 2 ≤ B
theorem spec_EdtSpan.E5.below {w W W' : World} {pa : Array Value} {B : Nat} {Ac Ar : Option Addr} {cc cr : Nat} {c1 : List S59} {h1 f1 : Int} {r1 : List S40} {g1 : Int} (h : spec_EdtSpan.E5 w pa B Ac Ar cc cr c1 h1 f1 r1 g1 W) (hb : Below W.heap.size W W') : spec_EdtSpan.E5 w pa B Ac Ar cc cr c1 h1 f1 r1 g1 W' := ⟨h.e.below hb, blk_below h.xb hb, Kd.R_below h.rc hb, Kd.S_below h.sr hb, h.lt⟩
set_option maxHeartbeats 4000000 in
set_option maxRecDepth 100000 in
theorem spec_EdtSpan.calls (k : Nat) (A0_0 : Option Addr) (c0_0 : Nat) (l0_0 : List S59) (a0_1 : Int) (a0_2 : Int) (A0_3 : Option Addr) (c0_3 : Nat) (l0_3 : List S40) (a0_4 : Int) (a1 : Int) (a2 : Int) (a3 : Int) (a4 : Int) (r1 : List S59) (r2 : Int) (r3 : Int) (r4 : List S40) (r5 : Int) (r6 : Bool) (w : World) (hr0_0 : Kd.C k59 w A0_0 l0_0.length l0_0) (hc0_0 : l0_0.length ≤ c0_0) (hr0_3 : Kd.C k40 w A0_3 l0_3.length l0_3) (hc0_3 : l0_3.length ≤ c0_3) (h : spec_EdtSpan.f k l0_0 a0_1 a0_2 l0_3 a0_4 a1 a2 a3 a4 = some (r1, r2, r3, r4, r5, r6)) :
    Calls Tryd.prog 6 #[.agg #[.slice A0_0 l0_0.length c0_0, .int .i64 a0_1, .int .i64 a0_2, .slice A0_3 l0_3.length c0_3, .int .i64 a0_4], .int .i64 a1, .int .i64 a2, .int .i64 a3, .int .i64 a4] w fun e w' => ∃ v0_ v3_ : Value, e = .returned (.tuple #[.agg #[v0_, .int .i64 r2, .int .i64 r3, v3_, .int .i64 r5], .bool r6]) ∧ Kd.R k59 59 w' w.heap.size (fun _ => True) v0_ r1 ∧ Kd.S k40 40 w' w.heap.size (fun _ => True) v3_ r4 ∧ Below w.heap.size w w' := by
  have HR0 := Aside0.mk hr0_0
  have HC0 := Aside0.mk hc0_0
  have HR3 := Aside0.mk hr0_3
  have HC3 := Aside0.mk hc0_3
  clear hr0_0 hc0_0 hr0_3 hc0_3
  obtain ⟨b, rr, E1, hs⟩ := spec_EdtSpan.parts h
  have HS := Aside0.mk hs
  clear h hs
  have hu := Tryd.underlying26
  go_enter Tryd.func6, Tryd.ntmps6
  go_upto_region 1 with (fail)
  refine wp_letter (fun W0 => E3 w (l3A (.slice A0_0 l0_0.length c0_0) (.slice A0_3 l0_3.length c0_3) a0_1 a0_2 a0_4) W0) ⟨below_alloc (below_alloc (Below.refl _ _) _) _, blk_alloc (blk_new w _) _, by have := blk_new2 w (.cells (l3A (.slice A0_0 l0_0.length c0_0) (.slice A0_3 l0_3.length c0_3) a0_1 a0_2 a0_4) 26) (.cells (l3A (.slice none 0 0) (.slice none 0 0) 0 0 0) 26); exact this⟩ ?_
  rintro W1 hQ
  have HQ := Aside0.mk hQ
  clear hQ
  rcases HS.out with ⟨rfl, rfl, rfl, rfl, rfl, rfl, rfl⟩ | ⟨rfl, E2, hs⟩
  · clear HS
    go_wp2_with (first | (refine wpList_load_row rfl 26 _ rfl w.heap.size rfl 26 (l3A (.slice A0_0 l0_0.length c0_0) (.slice A0_3 l0_3.length c0_3) a0_1 a0_2 a0_4) (0, 0) _ HQ.out.pb Tryd.underlying26 rfl (by kernel_rfl) ?_) | (go_at_call 8; (with_reducible refine (spec_TblOk.calls k A0_0 c0_0 l0_0 a0_1 a0_2 A0_3 c0_3 l0_3 a0_4 false _ (Kd.C_below HR0.out HQ.out.bl) HC0.out (Kd.C_below HR3.out HQ.out.bl) HC3.out E1.out).mono ?_); rintro e_ W2 ⟨rfl, hb⟩; replace HQ := Aside0.mk (HQ.out.below hb); clear hb) | (refine wpList_put 26 _ _ rfl rfl (w.heap.size + 1) 0 rfl (.agg (l3A (.slice none 0 0) (.slice none 0 0) 0 0 0)) rfl 26 (l3A (.slice none 0 0) (.slice none 0 0) 0 0 0) (l3A (.slice none 0 0) (.slice none 0 0) 0 0 0) HQ.out.zb (by kernel_rfl) rfl rfl rfl (fun W9 hp => ?_); have HFB := Aside0.mk hp.blk; have HF := Aside0.mk (pw_below_grown HQ.out.bl _ (Nat.le_trans (Nat.le_add_right _ 2) HQ.out.size) hp.grown (fun k hk => by injection hk with hk; omega)); clear hp))
    exact bodyPost_ret (results_ct rfl _ _ (w.heap.size + 1) 26 (l3A (.slice none 0 0) (.slice none 0 0) 0 0 0) (0, 0) _ rfl HFB.out Tryd.underlying26 rfl (by kernel_rfl)) rfl ⟨_, _, rfl, Kd.R_nil _ _ _ _ _, Kd.S_nil _ _ _ _ _, HF.out⟩
  have HS2 := Aside0.mk hs
  clear HS hs
  go_upto_region 4 with (first | (refine wpList_load_row rfl 26 _ rfl w.heap.size rfl 26 (l3A (.slice A0_0 l0_0.length c0_0) (.slice A0_3 l0_3.length c0_3) a0_1 a0_2 a0_4) (0, 0) _ HQ.out.pb Tryd.underlying26 rfl (by kernel_rfl) ?_) | (go_at_call 8; (with_reducible refine (spec_TblOk.calls k A0_0 c0_0 l0_0 a0_1 a0_2 A0_3 c0_3 l0_3 a0_4 true _ (Kd.C_below HR0.out HQ.out.bl) HC0.out (Kd.C_below HR3.out HQ.out.bl) HC3.out E1.out).mono ?_); rintro e_ W2 ⟨rfl, hb⟩; replace HQ := Aside0.mk (HQ.out.below hb); clear hb) | (go_at_call 19; (with_reducible refine (spec_l2Copy.calls k A0_0 c0_0 l0_0 a0_1 a0_2 A0_3 c0_3 l0_3 a0_4 r1 r2 r3 rr r5 _ (Kd.C_below HR0.out HQ.out.bl) HC0.out (Kd.C_below HR3.out HQ.out.bl) HC3.out E2.out).mono ?_); rintro e_ W3 ⟨vc, vr, rfl, hrc, hsr, hb⟩; obtain ⟨Ac, cc, rfl⟩ := Kd.R_slice hrc; obtain ⟨Ar, cr, rfl⟩ := Kd.R_slice (Kd.S_R hsr); have HRC := Aside0.mk (Kd.R_lower hrc (Nat.le_trans (Nat.le_add_right _ 2) HQ.out.size)); have HSR := Aside0.mk (Kd.S_lower hsr (Nat.le_trans (Nat.le_add_right _ 2) HQ.out.size)); replace HQ := Aside0.mk (HQ.out.below hb); clear hb hrc hsr) | (show wpList _ _ _ _ _ (World.alloc W3 _); have hz0 := blk_new W3 (.cells (l3A (.slice none 0 0) (.slice none 0 0) 0 0 0) 26); refine wpList_put 26 _ _ rfl rfl W3.heap.size 0 rfl (.agg (l3A (.slice Ac r1.length cc) (.slice Ar rr.length cr) r2 r3 r5)) rfl 26 (l3A (.slice none 0 0) (.slice none 0 0) 0 0 0) (l3A (.slice Ac r1.length cc) (.slice Ar rr.length cr) r2 r3 r5) hz0 (by kernel_rfl) rfl rfl rfl (fun W9 hp => ?_); have HFB := Aside0.mk hp.blk; have hbl := pw_below_grown (below_alloc (Below.refl W3.heap.size W3) _) _ (by simp) hp.grown (fun k hk => by injection hk with hk; omega); have HE := Aside0.mk (HQ.out.below hbl); have HFR := Aside0.mk (R_put (Kd.R_alloc HRC.out _) hz0 hp (by decide)); have HFS := Aside0.mk (S_put (Kd.S_alloc HSR.out _) hz0 hp (by decide)); clear hp hz0 hbl))
  refine wp_letter (fun W0 => spec_EdtSpan.E5 w (l3A (.slice A0_0 l0_0.length c0_0) (.slice A0_3 l0_3.length c0_3) a0_1 a0_2 a0_4) W3.heap.size Ac Ar cc cr r1 r2 r3 rr r5 W0) ⟨HE.out, HFB.out, HFR.out, HFS.out, HQ.out.size⟩ ?_
  rintro W4 hQ
  generalize W3.heap.size = B at hQ ⊢
  clear HQ HRC HSR HFB HFR HFS HE E1 E2
  have HQ := Aside0.mk hQ
  clear hQ
  have hbig := HR3.out.2.1
  have w1 : wrap64 ((l0_3.length : Int) - 1) = (l0_3.length : Int) - 1 := by unfold wrap64; omega
  have x3 : W4.cell? ⟨w.heap.size, 3, none⟩ = some (Value.slice A0_3 l0_3.length c0_3) := (blk_cell HQ.out.e.pb 3).trans rfl
  have A1 := Aside0.mk (spec_EdtSpan.in_dec a1 0 ((l0_3.length : Int) - 1))
  by_cases h1 : 0 ≤ a1 ∧ a1 ≤ (l0_3.length : Int) - 1
  rotate_left
  · rw [decide_eq_false h1] at A1
    obtain ⟨rfl, rfl⟩ : r4 = rr ∧ r6 = false := by
      rcases HS2.out with ⟨_, h2, h3⟩ | ⟨h2, _⟩ | ⟨h2, _⟩
      · exact ⟨h2, h3⟩
      · exact absurd h2.1 h1
      · exact absurd h2.1 h1
    clear h1 HS2 hbig
    go_upto_region 5 with (first | (go_at_call 20; (first | (with_reducible refine (spec_l1In.calls _ _ _ _ _ A1.out).mono ?_)); rintro e_ W' ⟨rfl, ⟨nd, rfl⟩⟩))
    refine wp_letter (fun W0 => spec_EdtSpan.E5 w (l3A (.slice A0_0 l0_0.length c0_0) (.slice A0_3 l0_3.length c0_3) a0_1 a0_2 a0_4) B Ac Ar cc cr r1 r2 r3 r4 r5 W0) (HQ.out.below (by repeat (with_reducible first | exact Below.refl _ _ | apply below_alloc | apply pw_below_drewN | apply below_drew1))) ?_
    rintro W5 hQ5
    clear HQ x3
    try clear p0
    have HQ := Aside0.mk hQ5
    clear hQ5
    go_wp2_with (first | (refine wpList_load_row rfl 26 _ rfl B rfl 26 (l3A (.slice Ac r1.length cc) (.slice Ar r4.length cr) r2 r3 r5) (0, 0) _ HQ.out.xb Tryd.underlying26 rfl (by kernel_rfl) ?_) | (refine wpList_put 26 _ _ rfl rfl (w.heap.size + 1) 0 rfl (.agg (l3A (.slice Ac r1.length cc) (.slice Ar r4.length cr) r2 r3 r5)) rfl 26 (l3A (.slice none 0 0) (.slice none 0 0) 0 0 0) (l3A (.slice Ac r1.length cc) (.slice Ar r4.length cr) r2 r3 r5) HQ.out.e.zb (by kernel_rfl) rfl rfl rfl (fun W9 hp => ?_); have HFB := Aside0.mk hp.blk; have HF := Aside0.mk (pw_below_grown HQ.out.e.bl _ (Nat.le_trans (Nat.le_add_right _ 2) HQ.out.e.size) hp.grown (fun k hk => by injection hk with hk; omega)); have HFR := Aside0.mk (R_put HQ.out.rc HQ.out.e.zb hp (by decide)); have HFS := Aside0.mk (S_put HQ.out.sr HQ.out.e.zb hp (by decide)); clear hp))
    exact bodyPost_ret (results_ct rfl _ _ (w.heap.size + 1) 26 (l3A (.slice Ac r1.length cc) (.slice Ar r4.length cr) r2 r3 r5) (0, 0) _ rfl HFB.out Tryd.underlying26 rfl (by kernel_rfl)) rfl ⟨_, _, rfl, HFR.out, HFS.out, HF.out⟩
  rw [decide_eq_true h1] at A1
  obtain ⟨ad, A2, c2, hA, p0, p1, e2, hC2⟩ := at_T40 (Kd.C_below HR3.out HQ.out.e.bl) a1 h1.1 (by omega)
  subst hA
  have hbig2 := hC2.2.1
  obtain ⟨x, hx⟩ : ∃ x, rd_T40 l0_3 a1 = x := ⟨_, rfl⟩
  rw [hx] at p0 hbig2
  have w2 : wrap64 ((x.f0.length : Int) - 1) = (x.f0.length : Int) - 1 := by unfold wrap64; omega
  have A3 := Aside0.mk (spec_EdtSpan.in_dec a2 0 ((x.f0.length : Int) - 1))
  have hrow0 : 0 ≤ a1 := h1.1
  have hrow1 : a1 < (l0_3.length : Int) := by omega
  by_cases h2 : 0 ≤ a2 ∧ a2 ≤ (x.f0.length : Int) - 1
  rotate_left
  · rw [decide_eq_false h2] at A3
    obtain ⟨rfl, rfl⟩ : r4 = rr ∧ r6 = false := by
      rcases HS2.out with ⟨_, h2, h3⟩ | ⟨h3, _⟩ | ⟨h3, _⟩
      · exact ⟨h2, h3⟩
      · exact absurd (hx ▸ h3.2) h2
      · exact absurd (hx ▸ h3.2) h2
    clear h1 h2 HS2 hbig hbig2 hC2 p1 hx e2
    go_upto_region 5 with (first | (go_at_call 20; (first | (with_reducible refine (spec_l1In.calls _ _ _ _ _ A1.out).mono ?_) | (with_reducible refine (spec_l1In.calls _ _ _ _ _ A3.out).mono ?_)); rintro e_ W' ⟨rfl, ⟨nd, rfl⟩⟩))
    refine wp_letter (fun W0 => spec_EdtSpan.E5 w (l3A (.slice A0_0 l0_0.length c0_0) (.slice (some ad) l0_3.length c0_3) a0_1 a0_2 a0_4) B Ac Ar cc cr r1 r2 r3 r4 r5 W0) (HQ.out.below (by repeat (with_reducible first | exact Below.refl _ _ | apply below_alloc | apply pw_below_drewN | apply below_drew1))) ?_
    rintro W5 hQ5
    clear HQ x3
    try clear p0
    have HQ := Aside0.mk hQ5
    clear hQ5
    go_wp2_with (first | (refine wpList_load_row rfl 26 _ rfl B rfl 26 (l3A (.slice Ac r1.length cc) (.slice Ar r4.length cr) r2 r3 r5) (0, 0) _ HQ.out.xb Tryd.underlying26 rfl (by kernel_rfl) ?_) | (refine wpList_put 26 _ _ rfl rfl (w.heap.size + 1) 0 rfl (.agg (l3A (.slice Ac r1.length cc) (.slice Ar r4.length cr) r2 r3 r5)) rfl 26 (l3A (.slice none 0 0) (.slice none 0 0) 0 0 0) (l3A (.slice Ac r1.length cc) (.slice Ar r4.length cr) r2 r3 r5) HQ.out.e.zb (by kernel_rfl) rfl rfl rfl (fun W9 hp => ?_); have HFB := Aside0.mk hp.blk; have HF := Aside0.mk (pw_below_grown HQ.out.e.bl _ (Nat.le_trans (Nat.le_add_right _ 2) HQ.out.e.size) hp.grown (fun k hk => by injection hk with hk; omega)); have HFR := Aside0.mk (R_put HQ.out.rc HQ.out.e.zb hp (by decide)); have HFS := Aside0.mk (S_put HQ.out.sr HQ.out.e.zb hp (by decide)); clear hp))
    exact bodyPost_ret (results_ct rfl _ _ (w.heap.size + 1) 26 (l3A (.slice Ac r1.length cc) (.slice Ar r4.length cr) r2 r3 r5) (0, 0) _ rfl HFB.out Tryd.underlying26 rfl (by kernel_rfl)) rfl ⟨_, _, rfl, HFR.out, HFS.out, HF.out⟩
  rw [decide_eq_true h2] at A3
  rcases HS2.out with ⟨h3, _⟩ | ⟨_, T0, rfl, rfl⟩ | ⟨_, T0, hy, hr4, rfl⟩
  · exact absurd ⟨h1, hx ▸ h2⟩ h3
  · have hq : (decide (1 ≤ a3 ∧ a3 ≤ 4) && decide (1 ≤ a4 ∧ a4 ≤ 4)) = false := Option.some.inj T0.out
    clear T0
    have A5 := Aside0.mk (spec_EdtSpan.in_dec a3 1 4)
    have A6 := Aside0.mk (spec_EdtSpan.in_dec a4 1 4)
    by_cases h5 : 1 ≤ a3 ∧ a3 ≤ 4
    rotate_left
    · rw [decide_eq_false h5] at A5
      clear h5 hq
      clear h1 h2 HS2 hbig hbig2 hC2 p1 hx e2
      go_upto_region 5 with (first | (go_at_call 20; (first | (with_reducible refine (spec_l1In.calls _ _ _ _ _ A1.out).mono ?_) | (with_reducible refine (spec_l1In.calls _ _ _ _ _ A3.out).mono ?_) | (with_reducible refine (spec_l1In.calls _ _ _ _ _ A5.out).mono ?_)); rintro e_ W' ⟨rfl, ⟨nd, rfl⟩⟩))
      refine wp_letter (fun W0 => spec_EdtSpan.E5 w (l3A (.slice A0_0 l0_0.length c0_0) (.slice (some ad) l0_3.length c0_3) a0_1 a0_2 a0_4) B Ac Ar cc cr r1 r2 r3 r4 r5 W0) (HQ.out.below (by repeat (with_reducible first | exact Below.refl _ _ | apply below_alloc | apply pw_below_drewN | apply below_drew1))) ?_
      rintro W5 hQ5
      clear HQ x3
      try clear p0
      have HQ := Aside0.mk hQ5
      clear hQ5
      go_wp2_with (first | (refine wpList_load_row rfl 26 _ rfl B rfl 26 (l3A (.slice Ac r1.length cc) (.slice Ar r4.length cr) r2 r3 r5) (0, 0) _ HQ.out.xb Tryd.underlying26 rfl (by kernel_rfl) ?_) | (refine wpList_put 26 _ _ rfl rfl (w.heap.size + 1) 0 rfl (.agg (l3A (.slice Ac r1.length cc) (.slice Ar r4.length cr) r2 r3 r5)) rfl 26 (l3A (.slice none 0 0) (.slice none 0 0) 0 0 0) (l3A (.slice Ac r1.length cc) (.slice Ar r4.length cr) r2 r3 r5) HQ.out.e.zb (by kernel_rfl) rfl rfl rfl (fun W9 hp => ?_); have HFB := Aside0.mk hp.blk; have HF := Aside0.mk (pw_below_grown HQ.out.e.bl _ (Nat.le_trans (Nat.le_add_right _ 2) HQ.out.e.size) hp.grown (fun k hk => by injection hk with hk; omega)); have HFR := Aside0.mk (R_put HQ.out.rc HQ.out.e.zb hp (by decide)); have HFS := Aside0.mk (S_put HQ.out.sr HQ.out.e.zb hp (by decide)); clear hp))
      exact bodyPost_ret (results_ct rfl _ _ (w.heap.size + 1) 26 (l3A (.slice Ac r1.length cc) (.slice Ar r4.length cr) r2 r3 r5) (0, 0) _ rfl HFB.out Tryd.underlying26 rfl (by kernel_rfl)) rfl ⟨_, _, rfl, HFR.out, HFS.out, HF.out⟩
    · rw [decide_eq_true h5] at A5
      have h6 : ¬ (1 ≤ a4 ∧ a4 ≤ 4) := fun h6 => by rw [decide_eq_true h5, decide_eq_true h6] at hq; cases hq
      rw [decide_eq_false h6] at A6
      clear h5 h6 hq
      clear h1 h2 HS2 hbig hbig2 hC2 p1 hx e2
      go_upto_region 5 with (first | (go_at_call 20; (first | (with_reducible refine (spec_l1In.calls _ _ _ _ _ A1.out).mono ?_) | (with_reducible refine (spec_l1In.calls _ _ _ _ _ A3.out).mono ?_) | (with_reducible refine (spec_l1In.calls _ _ _ _ _ A5.out).mono ?_) | (with_reducible refine (spec_l1In.calls _ _ _ _ _ A6.out).mono ?_)); rintro e_ W' ⟨rfl, ⟨nd, rfl⟩⟩))
      refine wp_letter (fun W0 => spec_EdtSpan.E5 w (l3A (.slice A0_0 l0_0.length c0_0) (.slice (some ad) l0_3.length c0_3) a0_1 a0_2 a0_4) B Ac Ar cc cr r1 r2 r3 r4 r5 W0) (HQ.out.below (by repeat (with_reducible first | exact Below.refl _ _ | apply below_alloc | apply pw_below_drewN | apply below_drew1))) ?_
      rintro W5 hQ5
      clear HQ x3
      try clear p0
      have HQ := Aside0.mk hQ5
      clear hQ5
      go_wp2_with (first | (refine wpList_load_row rfl 26 _ rfl B rfl 26 (l3A (.slice Ac r1.length cc) (.slice Ar r4.length cr) r2 r3 r5) (0, 0) _ HQ.out.xb Tryd.underlying26 rfl (by kernel_rfl) ?_) | (refine wpList_put 26 _ _ rfl rfl (w.heap.size + 1) 0 rfl (.agg (l3A (.slice Ac r1.length cc) (.slice Ar r4.length cr) r2 r3 r5)) rfl 26 (l3A (.slice none 0 0) (.slice none 0 0) 0 0 0) (l3A (.slice Ac r1.length cc) (.slice Ar r4.length cr) r2 r3 r5) HQ.out.e.zb (by kernel_rfl) rfl rfl rfl (fun W9 hp => ?_); have HFB := Aside0.mk hp.blk; have HF := Aside0.mk (pw_below_grown HQ.out.e.bl _ (Nat.le_trans (Nat.le_add_right _ 2) HQ.out.e.size) hp.grown (fun k hk => by injection hk with hk; omega)); have HFR := Aside0.mk (R_put HQ.out.rc HQ.out.e.zb hp (by decide)); have HFS := Aside0.mk (S_put HQ.out.sr HQ.out.e.zb hp (by decide)); clear hp))
      exact bodyPost_ret (results_ct rfl _ _ (w.heap.size + 1) 26 (l3A (.slice Ac r1.length cc) (.slice Ar r4.length cr) r2 r3 r5) (0, 0) _ rfl HFB.out Tryd.underlying26 rfl (by kernel_rfl)) rfl ⟨_, _, rfl, HFR.out, HFS.out, HF.out⟩
  have hq : (decide (1 ≤ a3 ∧ a3 ≤ 4) && decide (1 ≤ a4 ∧ a4 ≤ 4)) = true := Option.some.inj T0.out
  rw [Bool.and_eq_true] at hq
  have A5 := Aside0.mk (spec_EdtSpan.in_dec a3 1 4)
  have A6 := Aside0.mk (spec_EdtSpan.in_dec a4 1 4)
  rw [hq.1] at A5
  rw [hq.2] at A6
  clear hq
  clear h1 h2 HS2 hbig hbig2 hC2 p1 hx e2
  go_upto_region 6 with (first | (go_at_call 20; (first | (with_reducible refine (spec_l1In.calls _ _ _ _ _ A1.out).mono ?_) | (with_reducible refine (spec_l1In.calls _ _ _ _ _ A3.out).mono ?_) | (with_reducible refine (spec_l1In.calls _ _ _ _ _ A5.out).mono ?_) | (with_reducible refine (spec_l1In.calls _ _ _ _ _ A6.out).mono ?_)); rintro e_ W' ⟨rfl, ⟨nd, rfl⟩⟩) )
  refine wp_letter (fun W0 => spec_EdtSpan.E5 w (l3A (.slice A0_0 l0_0.length c0_0) (.slice (some ad) l0_3.length c0_3) a0_1 a0_2 a0_4) B Ac Ar cc cr r1 r2 r3 rr r5 W0) (HQ.out.below (by repeat (with_reducible first | exact Below.refl _ _ | apply below_alloc | apply pw_below_drewN | apply below_drew1))) ?_
  rintro W5 hQ5
  clear HQ x3 p0
  have hy2 := hy.out
  unfold hasP at hy2
  obtain ⟨⟨hr0, hr1⟩, hp0, hp1⟩ := hy2
  have hr2 : a1 < (rr.length : Int) := by omega
  have hsr := hQ5.sr
  have hX := hQ5.xb
  have hZ := hQ5.e.zb
  obtain ⟨gr, c, he, hgr1, hgr2, cells, hgc⟩ := Kd.S_form hsr (by omega)
  obtain ⟨rfl, rfl⟩ : Ar = some ⟨gr, 0, none⟩ ∧ cr = c := by injection he with h1 _ h2; exact ⟨h1, h2⟩
  clear he
  obtain ⟨oki, cs, hcl, hM, hcc, hoki, hback⟩ := Kd.S_borrow hsr z40 a1 hr0 hr2
  obtain ⟨v0, rfl, hri⟩ := k40_openM hM
  have hri2 : Kd.R k37 37 W5 w.heap.size oki v0 (rd_T40 rr a1).f0 := hri
  obtain ⟨r, hr⟩ : ∃ r, rd_T40 rr a1 = r := ⟨_, rfl⟩
  rw [hr] at hri2 hp1 hr4
  have hpl : a2.toNat < r.f0.length := by omega
  have hp2 : a2 < (r.f0.length : Int) := by omega
  obtain ⟨gb, c3, rfl, hgb1, hgb2, cells2, hgc2⟩ := Kd.R_form hri2 (by omega)
  have p0 : W5.cell? ⟨gr, a1.toNat * 2, none⟩ = some (.slice (some ⟨gb, 0, none⟩) r.f0.length c3) := by
    have h : W5.cell? ((⟨gr, 0, none⟩ : Addr).add (a1.toNat * 2 + 0)) = some (.slice (some ⟨gb, 0, none⟩) r.f0.length c3) := hcc 0 _ rfl
    rw [add_at] at h
    simpa using h
  have x3 : W5.cell? ⟨B, 3, none⟩ = some (.slice (some ⟨gr, 0, none⟩) rr.length cr) := (blk_cell hX 3).trans rfl
  have nb : B ≠ gb := fun e => by
    rw [e, hgc2] at hX
    injection hX with hX
    injection hX with _ hX
    exact absurd hX (by decide)
  have nz : w.heap.size + 1 ≠ gb := fun e => by
    rw [e, hgc2] at hZ
    injection hZ with hZ
    injection hZ with _ hZ
    exact absurd hZ (by decide)
  have hPB := hQ5.e.pb
  have np : w.heap.size ≠ gb := fun e => by
    rw [e, hgc2] at hPB
    injection hPB with hPB
    injection hPB with _ hPB
    exact absurd hPB (by decide)
  have nr : gr ≠ gb := fun e => by
    rw [e, hgc2] at hgc
    injection hgc with hgc
    injection hgc with _ hgc
    exact absurd hgc (by decide)
  have hg : List.getD r.f0 a2.toNat z37 = rd_T37 r.f0 a2 := rfl
  obtain ⟨y, hyy⟩ : ∃ y, rd_T37 r.f0 a2 = y := ⟨_, rfl⟩
  rw [hyy] at hg hr4
  obtain ⟨ce, hcl2, hN, hcc2, hfr2⟩ := Kd.R_elem hri2 z37 a2 (by omega) (by omega)
  rw [hg] at hN
  obtain rfl := k37_openM hN
  have y0 : W5.cell? ⟨gb, a2.toNat * 11 + 1, none⟩ = some (.int .i64 y.f1) := hcc2 1 _ rfl
  have f0 : W5.frozen? ⟨gb, a2.toNat * 11 + 1, none⟩ = false := hfr2 1
  have y1 : W5.cell? ⟨gb, a2.toNat * 11 + 2, none⟩ = some (.int .i64 y.f2) := hcc2 2 _ rfl
  have f1 : W5.frozen? ⟨gb, a2.toNat * 11 + 2, none⟩ = false := hfr2 2
  have HP := Aside0.mk (Kd.R_seg hri2 a2 (by omega) (by omega) (seg := [.int .i64 a3, .int .i64 a4]) (j := 1) hcl2 hcc2 (show 1 + 2 ≤ 11 from by decide) (x' := { y with f1 := a3, f2 := a4 }) (k37_mkM _ _ _ ({ y with f1 := a3, f2 := a4 } : S37)) (fun _ hk => hk))
  have HQ5 := Aside0.mk hQ5
  have HBK := Aside0.mk @hback
  have HRI := Aside0.mk hri2
  have HRR := Aside0.mk hr
  have HR4 := Aside0.mk hr4
  have HNB := Aside0.mk nb
  have HNZ := Aside0.mk nz
  have HNP := Aside0.mk np
  have HGB := Aside0.mk (And.intro hgb1 hgb2)
  have HNR := Aside0.mk nr
  clear hr4 hQ5 hZ hX hPB np hsr hback hM hcc hoki hgc hgc2 hcl hri hri2 hcl2 hcc2 hfr2 hN hg hyy hr nb nz nr hgb1 hgb2 hgr1 hgr2 hr1 hp1
  go_upto_region 7 with (fail)
  refine wp_letter (fun W0 => W0 = W5.setCell ⟨gb, a2.toNat * 11 + 1, none⟩ (.int .i64 a3)) rfl ?_
  rintro W6 hW6
  have x3' : W6.cell? ⟨B, 3, none⟩ = some (.slice (some ⟨gr, 0, none⟩) rr.length cr) := by rw [hW6]; exact (World.cell?_setCell_far W5 _ _ _ (fun e => HNB.out e.symm)).trans x3
  have p0' : W6.cell? ⟨gr, a1.toNat * 2, none⟩ = some (.slice (some ⟨gb, 0, none⟩) r.f0.length c3) := by rw [hW6]; exact (World.cell?_setCell_far W5 _ _ _ (fun e => HNR.out e.symm)).trans p0
  have y1' : W6.cell? ⟨gb, a2.toNat * 11 + 2, none⟩ = some (.int .i64 y.f2) := by rw [hW6]; exact (World.cell?_setCell_other W5 _ _ _ (show (⟨gb, a2.toNat * 11 + 1, none⟩ : Addr) ≠ ⟨gb, a2.toNat * 11 + 2, none⟩ from fun e => by injection e with _ e _; omega)).trans y1
  have f1' : W6.frozen? ⟨gb, a2.toNat * 11 + 2, none⟩ = false := by rw [hW6]; go_simp
  clear x3 p0 y0 f0 y1 f1
  have HW6 := Aside0.mk hW6
  clear hW6
  go_upto_region 8 with (fail)
  rw [HW6.out]
  have hgW := HP.out.2
  have hS7 := HBK.out hgW (fun k hk => by injection hk with hk; subst hk; exact HRI.out.1 _ rfl) (by rw [show (List.getD rr a1.toNat z40).f1 = r.f1 from congrArg (·.f1) HRR.out]; exact k40_mkM _ _ _ (⟨r.f0.set a2.toNat { y with f1 := a3, f2 := a4 }, r.f1⟩ : S40) HP.out.1)
  refine wp_letter (fun W0 => spec_EdtSpan.E5 w (l3A (.slice A0_0 l0_0.length c0_0) (.slice (some ad) l0_3.length c0_3) a0_1 a0_2 a0_4) B Ac (some ⟨gr, 0, none⟩) cc cr r1 r2 r3 r4 r5 W0) ⟨⟨pw_below_grown HQ5.out.e.bl _ (by have := HQ5.out.e.size; omega) hgW (fun k hk => by injection hk with hk; subst hk; exact HGB.out.1), (hgW.block _ (blk_lt HQ5.out.e.pb) (fun e => HNP.out (Option.some.inj e))).trans HQ5.out.e.pb, (hgW.block _ (blk_lt HQ5.out.e.zb) (fun e => HNZ.out (Option.some.inj e))).trans HQ5.out.e.zb⟩, by rw [HR4.out, List.length_set]; exact (hgW.block _ (blk_lt HQ5.out.xb) (fun e => HNB.out (Option.some.inj e))).trans HQ5.out.xb, Kd.R_over HQ5.out.rc HRI.out (by decide) hgW, by rw [HR4.out, List.length_set]; exact hS7, HQ5.out.lt⟩ ?_
  clear hS7 hgW
  rintro W6 hQ
  have HQ := Aside0.mk hQ
  clear hQ HQ5 HBK HRI HRR HNB HNZ HNP HGB HP HR4
  go_wp2_with (first | (refine wpList_load_row rfl 26 _ rfl B rfl 26 (l3A (.slice Ac r1.length cc) (.slice (some ⟨gr, 0, none⟩) r4.length cr) r2 r3 r5) (0, 0) _ HQ.out.xb Tryd.underlying26 rfl (by kernel_rfl) ?_) | (refine wpList_put 26 _ _ rfl rfl (w.heap.size + 1) 0 rfl (.agg (l3A (.slice Ac r1.length cc) (.slice (some ⟨gr, 0, none⟩) r4.length cr) r2 r3 r5)) rfl 26 (l3A (.slice none 0 0) (.slice none 0 0) 0 0 0) (l3A (.slice Ac r1.length cc) (.slice (some ⟨gr, 0, none⟩) r4.length cr) r2 r3 r5) HQ.out.e.zb (by kernel_rfl) rfl rfl rfl (fun W9 hp => ?_); have HFB := Aside0.mk hp.blk; have HF := Aside0.mk (pw_below_grown HQ.out.e.bl _ (Nat.le_trans (Nat.le_add_right _ 2) HQ.out.e.size) hp.grown (fun k hk => by injection hk with hk; omega)); have HFR := Aside0.mk (R_put HQ.out.rc HQ.out.e.zb hp (by decide)); have HFS := Aside0.mk (S_put HQ.out.sr HQ.out.e.zb hp (by decide)); clear hp))
  exact bodyPost_ret (results_ct rfl _ _ (w.heap.size + 1) 26 (l3A (.slice Ac r1.length cc) (.slice (some ⟨gr, 0, none⟩) r4.length cr) r2 r3 r5) (0, 0) _ rfl HFB.out Tryd.underlying26 rfl (by kernel_rfl)) rfl ⟨_, _, rfl, HFR.out, HFS.out, HF.out⟩

/-! ### laws_pwRow: function 21 (by hand) -/
def laws_pwRow.tup (x : S37) : List UInt8 × List Int := (x.f0.data.toList, [x.f1, x.f2, x.f3.f0, x.f3.f1, x.f4.f0, x.f4.f1, x.f5.f0, x.f5.f1, x.f6.f0, x.f6.f1])
/-- Two rows that are the same; no answer else. -/
def laws_pwRow.f (k : Nat) (l0_0 : List S37) (a0_1 : Bool) (l1_0 : List S37) (a1_1 : Bool) : Option Bool := if l0_0.map laws_pwRow.tup = l1_0.map laws_pwRow.tup ∧ a0_1 = a1_1 then some true else none
theorem laws_pwRow.mono : ∀ l0_0 a0_1 l1_0 a1_1 k, LeO (laws_pwRow.f k l0_0 a0_1 l1_0 a1_1) (laws_pwRow.f (k + 1) l0_0 a0_1 l1_0 a1_1) := fun _ _ _ _ _ => LeO.refl _
theorem map_same {α β : Type} {f : α → β} (hf : ∀ x y, f x = f y → x = y) {l m : List α} (h : l.map f = m.map f) : l = m := by
  induction l generalizing m with
  | nil => cases m with
    | nil => rfl
    | cons y ys => cases h
  | cons x xs ih => cases m with
    | nil => cases h
    | cons y ys =>
      simp only [List.map_cons, List.cons.injEq] at h
      rw [ih h.2, hf x y h.1]
theorem laws_pwRow.inj (x y : S37) (h : laws_pwRow.tup x = laws_pwRow.tup y) : x = y := by
  obtain ⟨⟨⟨x0⟩⟩, x1, x2, ⟨x3, x4⟩, ⟨x5, x6⟩, ⟨x7, x8⟩, ⟨x9, x10⟩⟩ := x
  obtain ⟨⟨⟨y0⟩⟩, y1, y2, ⟨y3, y4⟩, ⟨y5, y6⟩, ⟨y7, y8⟩, ⟨y9, y10⟩⟩ := y
  unfold laws_pwRow.tup at h
  simp only [Prod.mk.injEq, List.cons.injEq, and_true] at h
  obtain ⟨h0, rfl, rfl, rfl, rfl, rfl, rfl, rfl, rfl, rfl, rfl⟩ := h
  subst h0
  rfl
set_option maxHeartbeats 4000000 in
set_option maxRecDepth 100000 in
theorem laws_pwRow.calls (k : Nat) (A0_0 : Option Addr) (c0_0 : Nat) (l0_0 : List (S37)) (a0_1 : Bool) (A1_0 : Option Addr) (c1_0 : Nat) (l1_0 : List (S37)) (a1_1 : Bool) (r : Bool) (w : World) (hr0_0 : Kd.C k37 w A0_0 l0_0.length l0_0) (hc0_0 : l0_0.length ≤ c0_0) (hr1_0 : Kd.C k37 w A1_0 l1_0.length l1_0) (hc1_0 : l1_0.length ≤ c1_0) (h : laws_pwRow.f k l0_0 a0_1 l1_0 a1_1 = some r) :
    Calls Tryd.prog 21 #[.agg #[.slice A0_0 l0_0.length c0_0, .bool a0_1], .agg #[.slice A1_0 l1_0.length c1_0, .bool a1_1]] w fun e w' => e = .returned (.bool r) ∧ Below w.heap.size w w' := by
  unfold laws_pwRow.f at h
  split at h
  rotate_left
  · cases h
  rename_i hs
  obtain ⟨hs, rfl⟩ := hs
  obtain rfl := map_same laws_pwRow.inj hs
  obtain rfl := Option.some.inj h
  have HR0 := Aside0.mk hr0_0
  have HR1 := Aside0.mk hr1_0
  have hbig := hr0_0.2.1
  clear hr0_0 hr1_0 hc0_0 hc1_0 h hs
  have hu1 := Tryd.underlying40
  have hu2 := Tryd.underlying37
  have hu3 := Tryd.underlying35
  go_enter Tryd.func21, Tryd.ntmps21
  go_upto_region 4 with (fail)
  refine wp_letter (fun W0 => W0.heap[w.heap.size]? = some (.cells #[.slice A0_0 l0_0.length c0_0, .bool a0_1] 40 (0, 0)) ∧ W0.heap[w.heap.size + 1]? = some (.cells #[.slice A1_0 l0_0.length c1_0, .bool a0_1] 40 (0, 0)) ∧ Below w.heap.size w W0) ⟨blk_alloc (blk_new w _) _, by have := blk_new2 w (.cells #[.slice A0_0 l0_0.length c0_0, .bool a0_1] 40) (.cells #[.slice A1_0 l0_0.length c1_0, .bool a0_1] 40); exact this, below_alloc (below_alloc (Below.refl _ _) _) _⟩ ?_
  rintro W1 ⟨hG, hH, hB⟩
  generalize w.heap.size + 1 = H at hH ⊢
  have HG := Aside0.mk hG
  have HH := Aside0.mk hH
  have HB := Aside0.mk hB
  clear hG hH hB
  go_loopg [5] l0_0.length (fun gg s5 wr => ∃ (n i : Nat), n ≤ gg ∧ i + n = l0_0.length ∧ s5 = .int .i64 i ∧ Aside0 (wr.heap[w.heap.size]? = some (.cells #[.slice A0_0 l0_0.length c0_0, .bool a0_1] 40 (0, 0))) ∧ Aside0 (wr.heap[H]? = some (.cells #[.slice A1_0 l0_0.length c1_0, .bool a0_1] 40 (0, 0))) ∧ Aside0 (Below w.heap.size w wr))
  case atStart => exact ⟨l0_0.length, 0, Nat.le_refl _, by omega, rfl, HG, HH, HB⟩
  case round =>
    clear HG HH HB
    obtain ⟨n, i, hg, hin, rfl, HG, HH, HB⟩ := hrel
    have g2 : wr.cell? ⟨w.heap.size, 0, none⟩ = some (Value.slice A0_0 l0_0.length c0_0) := (blk_cell HG.out 0).trans rfl
    cases n with
    | zero =>
      have hlt : ¬ (i : Int) < (l0_0.length : Int) := by omega
      go_wp2
      go_ret
      exact ⟨rfl, HB.out⟩
    | succ n =>
      have hlt : (i : Int) < (l0_0.length : Int) := by omega
      have h2 : wr.cell? ⟨H, 0, none⟩ = some (Value.slice A1_0 l0_0.length c1_0) := (blk_cell HH.out 0).trans rfl
      obtain ⟨ad, hA, p0, p1, p2, p3, p4, p5, p6, p7, p8, p9, p10⟩ := at_T37 (Kd.C_below HR0.out HB.out) i (by omega) hlt
      rw [hA] at g2
      clear hA
      obtain ⟨ad2, hA, q0, q1, q2, q3, q4, q5, q6, q7, q8, q9, q10⟩ := at_T37 (Kd.C_below HR1.out HB.out) i (by omega) hlt
      rw [hA] at h2
      clear hA
      simp only [Int.toNat_natCast] at p0 p1 p2 p3 p4 p5 p6 p7 p8 p9 p10 q0 q1 q2 q3 q4 q5 q6 q7 q8 q9 q10
      go_upto_region 6 with (fail)
      have xg2 := Ext.cell g2
      have xh2 := Ext.cell h2
      have xp0 := Ext.cell p0
      have xp1 := Ext.cell p1
      have xp2 := Ext.cell p2
      have xp3 := Ext.cell p3
      have xp4 := Ext.cell p4
      have xp5 := Ext.cell p5
      have xp6 := Ext.cell p6
      have xp7 := Ext.cell p7
      have xp8 := Ext.cell p8
      have xp9 := Ext.cell p9
      have xp10 := Ext.cell p10
      have xq0 := Ext.cell q0
      have xq1 := Ext.cell q1
      have xq2 := Ext.cell q2
      have xq3 := Ext.cell q3
      have xq4 := Ext.cell q4
      have xq5 := Ext.cell q5
      have xq6 := Ext.cell q6
      have xq7 := Ext.cell q7
      have xq8 := Ext.cell q8
      have xq9 := Ext.cell q9
      have xq10 := Ext.cell q10
      clear g2 h2 p0 p1 p2 p3 p4 p5 p6 p7 p8 p9 p10 q0 q1 q2 q3 q4 q5 q6 q7 q8 q9 q10
      refine region_ext (by kernel_rfl) (by kernel_rfl) ?_
      repeat (go_big_quiet_step (fail))
      refine wpQuiet_nil ?_
      rintro W8 ⟨⟨W9, hb3⟩, rfl⟩
      go_wp2
      go_roundg n
      case measure => omega
      case rel => exact ⟨n, i + 1, Nat.le_refl _, by omega, by go_num, ⟨blk_below HG.out hb3⟩, ⟨blk_below HH.out hb3⟩, ⟨below_step HB.out hb3⟩⟩

/-! ### laws_pwTable: function 7 (by hand) -/
def laws_pwTable.col (x : S59) : Int × Int := (x.f0, x.f1)
def laws_pwTable.row (x : S40) : List (List UInt8 × List Int) × Bool := (x.f0.map laws_pwRow.tup, x.f1)
/-- Two tables that are the same; no answer else. -/
def laws_pwTable.f (k : Nat) (l0_0 : List S59) (a0_1 : Int) (a0_2 : Int) (l0_3 : List S40) (a0_4 : Int) (l1_0 : List S59) (a1_1 : Int) (a1_2 : Int) (l1_3 : List S40) (a1_4 : Int) : Option Bool := if l0_0.map laws_pwTable.col = l1_0.map laws_pwTable.col ∧ a0_1 = a1_1 ∧ a0_2 = a1_2 ∧ l0_3.map laws_pwTable.row = l1_3.map laws_pwTable.row ∧ a0_4 = a1_4 then some true else none
theorem laws_pwTable.mono : ∀ l0_0 a0_1 a0_2 l0_3 a0_4 l1_0 a1_1 a1_2 l1_3 a1_4 k, LeO (laws_pwTable.f k l0_0 a0_1 a0_2 l0_3 a0_4 l1_0 a1_1 a1_2 l1_3 a1_4) (laws_pwTable.f (k + 1) l0_0 a0_1 a0_2 l0_3 a0_4 l1_0 a1_1 a1_2 l1_3 a1_4) := fun _ _ _ _ _ _ _ _ _ _ _ => LeO.refl _
theorem laws_pwTable.inj1 (x y : S59) (h : laws_pwTable.col x = laws_pwTable.col y) : x = y := by
  obtain ⟨x0, x1⟩ := x
  obtain ⟨y0, y1⟩ := y
  unfold laws_pwTable.col at h
  simp only [Prod.mk.injEq] at h
  obtain ⟨rfl, rfl⟩ := h
  rfl
theorem laws_pwTable.inj2 (x y : S40) (h : laws_pwTable.row x = laws_pwTable.row y) : x = y := by
  obtain ⟨x0, x1⟩ := x
  obtain ⟨y0, y1⟩ := y
  unfold laws_pwTable.row at h
  simp only [Prod.mk.injEq] at h
  obtain ⟨h, rfl⟩ := h
  rw [map_same laws_pwRow.inj h]
set_option maxHeartbeats 4000000 in
set_option maxRecDepth 100000 in
theorem laws_pwTable.calls (k : Nat) (A0_0 : Option Addr) (c0_0 : Nat) (l0_0 : List (S59)) (a0_1 : Int) (a0_2 : Int) (A0_3 : Option Addr) (c0_3 : Nat) (l0_3 : List (S40)) (a0_4 : Int) (A1_0 : Option Addr) (c1_0 : Nat) (l1_0 : List (S59)) (a1_1 : Int) (a1_2 : Int) (A1_3 : Option Addr) (c1_3 : Nat) (l1_3 : List (S40)) (a1_4 : Int) (r : Bool) (w : World) (hr0_0 : Kd.C k59 w A0_0 l0_0.length l0_0) (hc0_0 : l0_0.length ≤ c0_0) (hr0_3 : Kd.C k40 w A0_3 l0_3.length l0_3) (hc0_3 : l0_3.length ≤ c0_3) (hr1_0 : Kd.C k59 w A1_0 l1_0.length l1_0) (hc1_0 : l1_0.length ≤ c1_0) (hr1_3 : Kd.C k40 w A1_3 l1_3.length l1_3) (hc1_3 : l1_3.length ≤ c1_3) (h : laws_pwTable.f k l0_0 a0_1 a0_2 l0_3 a0_4 l1_0 a1_1 a1_2 l1_3 a1_4 = some r) :
    Calls Tryd.prog 7 #[.agg #[.slice A0_0 l0_0.length c0_0, .int .i64 a0_1, .int .i64 a0_2, .slice A0_3 l0_3.length c0_3, .int .i64 a0_4], .agg #[.slice A1_0 l1_0.length c1_0, .int .i64 a1_1, .int .i64 a1_2, .slice A1_3 l1_3.length c1_3, .int .i64 a1_4]] w fun e w' => e = .returned (.bool r) ∧ Below w.heap.size w w' := by
  unfold laws_pwTable.f at h
  split at h
  rotate_left
  · cases h
  rename_i hs
  obtain ⟨hs, rfl, rfl, hs3, rfl⟩ := hs
  obtain rfl := map_same laws_pwTable.inj1 hs
  obtain rfl := map_same laws_pwTable.inj2 hs3
  obtain rfl := Option.some.inj h
  have HR0 := Aside0.mk hr0_0
  have HR1 := Aside0.mk hr1_0
  have HS0 := Aside0.mk hr0_3
  have HS1 := Aside0.mk hr1_3
  have hbig := hr0_0.2.1
  have hbig3 := hr0_3.2.1
  clear hr0_0 hr1_0 hc0_0 hc1_0 hr0_3 hr1_3 hc0_3 hc1_3 h hs hs3
  have hu1 := Tryd.underlying26
  have hu2 := Tryd.underlying59
  go_enter Tryd.func7, Tryd.ntmps7
  go_upto_region 4 with (fail)
  refine wp_letter (fun W0 => W0.heap[w.heap.size]? = some (.cells (l3A (.slice A0_0 l0_0.length c0_0) (.slice A0_3 l0_3.length c0_3) a0_1 a0_2 a0_4) 26 (0, 0)) ∧ W0.heap[w.heap.size + 1]? = some (.cells (l3A (.slice A1_0 l0_0.length c1_0) (.slice A1_3 l0_3.length c1_3) a0_1 a0_2 a0_4) 26 (0, 0)) ∧ Below w.heap.size w W0) ⟨blk_alloc (blk_new w _) _, by have := blk_new2 w (.cells (l3A (.slice A0_0 l0_0.length c0_0) (.slice A0_3 l0_3.length c0_3) a0_1 a0_2 a0_4) 26) (.cells (l3A (.slice A1_0 l0_0.length c1_0) (.slice A1_3 l0_3.length c1_3) a0_1 a0_2 a0_4) 26); exact this, below_alloc (below_alloc (Below.refl _ _) _) _⟩ ?_
  rintro W1 ⟨hG, hH, hB⟩
  generalize w.heap.size + 1 = H at hH ⊢
  have HG := Aside0.mk hG
  have HH := Aside0.mk hH
  have HB := Aside0.mk hB
  clear hG hH hB
  go_loopg [5] l0_0.length (fun gg s5 wr => ∃ (n i : Nat), n ≤ gg ∧ i + n = l0_0.length ∧ s5 = .int .i64 i ∧ Aside0 (wr.heap[w.heap.size]? = some (.cells (l3A (.slice A0_0 l0_0.length c0_0) (.slice A0_3 l0_3.length c0_3) a0_1 a0_2 a0_4) 26 (0, 0))) ∧ Aside0 (wr.heap[H]? = some (.cells (l3A (.slice A1_0 l0_0.length c1_0) (.slice A1_3 l0_3.length c1_3) a0_1 a0_2 a0_4) 26 (0, 0))) ∧ Aside0 (Below w.heap.size w wr))
  case atStart => exact ⟨l0_0.length, 0, Nat.le_refl _, by omega, rfl, HG, HH, HB⟩
  case round =>
    clear HG HH HB
    obtain ⟨n, i, hg, hin, rfl, HG, HH, HB⟩ := hrel
    have g2 : wr.cell? ⟨w.heap.size, 0, none⟩ = some (Value.slice A0_0 l0_0.length c0_0) := (blk_cell HG.out 0).trans rfl
    cases n with
    | zero =>
      have hlt : ¬ (i : Int) < (l0_0.length : Int) := by omega
      go_upto_region 9 with (fail)
      clear g2
      go_loopg [6] l0_3.length (fun gg s6 wr => ∃ (n i : Nat), n ≤ gg ∧ i + n = l0_3.length ∧ s6 = .int .i64 i ∧ Aside0 (wr.heap[w.heap.size]? = some (.cells (l3A (.slice A0_0 l0_0.length c0_0) (.slice A0_3 l0_3.length c0_3) a0_1 a0_2 a0_4) 26 (0, 0))) ∧ Aside0 (wr.heap[H]? = some (.cells (l3A (.slice A1_0 l0_0.length c1_0) (.slice A1_3 l0_3.length c1_3) a0_1 a0_2 a0_4) 26 (0, 0))) ∧ Aside0 (Below w.heap.size w wr))
      case atStart => exact ⟨l0_3.length, 0, Nat.le_refl _, by omega, rfl, HG, HH, HB⟩
      case round =>
        clear HG HH HB hlt hin hg
        obtain ⟨n, i, hg, hin, rfl, HG, HH, HB⟩ := hrel
        have g3 : wr.cell? ⟨w.heap.size, 3, none⟩ = some (Value.slice A0_3 l0_3.length c0_3) := (blk_cell HG.out 3).trans rfl
        cases n with
        | zero =>
          have hlt : ¬ (i : Int) < (l0_3.length : Int) := by omega
          go_wp2
          go_ret
          exact ⟨rfl, HB.out⟩
        | succ n =>
          have hlt : (i : Int) < (l0_3.length : Int) := by omega
          have h3 : wr.cell? ⟨H, 3, none⟩ = some (Value.slice A1_3 l0_3.length c1_3) := (blk_cell HH.out 3).trans rfl
          obtain ⟨ad, B0, d0, hA, p0, p1, e0, hC0⟩ := at_T40 (Kd.C_below HS0.out HB.out) i (by omega) hlt
          rw [hA] at g3
          clear hA
          obtain ⟨ad2, B1, d1, hA, q0, q1, e1, hC1⟩ := at_T40 (Kd.C_below HS1.out HB.out) i (by omega) hlt
          rw [hA] at h3
          clear hA
          simp only [Int.toNat_natCast] at p0 p1 q0 q1
          obtain ⟨x, hx⟩ : ∃ x, rd_T40 l0_3 i = x := ⟨_, rfl⟩
          rw [hx] at p0 p1 q0 q1 hC0 hC1 e0 e1
          clear hx
          have HSM := Aside0.mk (show laws_pwRow.f k x.f0 x.f1 x.f0 x.f1 = some true by unfold laws_pwRow.f; rw [if_pos ⟨rfl, rfl⟩])
          have HE0 := Aside0.mk e0
          have HE1 := Aside0.mk e1
          clear e0 e1
          go_upto_region 11 with (fail)
          have FC := Aside0.mk (fun (v : Ext wr) => Kd.C_below hC0 v.below)
          have FD := Aside0.mk (fun (v : Ext wr) => Kd.C_below hC1 v.below)
          have xg2 := Ext.cell g3
          have xh2 := Ext.cell h3
          have xp0 := Ext.cell p0
          have xp1 := Ext.cell p1
          have xq0 := Ext.cell q0
          have xq1 := Ext.cell q1
          clear g3 h3 p0 p1 q0 q1 hC0 hC1
          refine region_ext (by kernel_rfl) (by kernel_rfl) ?_
          repeat (go_big_quiet_step (first | (go_at_call 21; exact Calls.ext (laws_pwRow.calls k B0 d0 x.f0 x.f1 B1 d1 x.f0 x.f1 true _ (FC.out _) HE0.out (FD.out _) HE1.out HSM.out))))
          refine wpQuiet_nil ?_
          rintro W8 ⟨⟨W9, hb3⟩, rfl⟩
          go_wp2
          go_roundg n
          case measure => omega
          case rel => exact ⟨n, i + 1, Nat.le_refl _, by omega, by go_num, ⟨blk_below HG.out hb3⟩, ⟨blk_below HH.out hb3⟩, ⟨below_step HB.out hb3⟩⟩
    | succ n =>
      have hlt : (i : Int) < (l0_0.length : Int) := by omega
      have h2 : wr.cell? ⟨H, 0, none⟩ = some (Value.slice A1_0 l0_0.length c1_0) := (blk_cell HH.out 0).trans rfl
      obtain ⟨ad, hA, p0, p1⟩ := at_T59 (Kd.C_below HR0.out HB.out) i (by omega) hlt
      rw [hA] at g2
      clear hA
      obtain ⟨ad2, hA, q0, q1⟩ := at_T59 (Kd.C_below HR1.out HB.out) i (by omega) hlt
      rw [hA] at h2
      clear hA
      simp only [Int.toNat_natCast] at p0 p1 q0 q1
      go_upto_region 6 with (fail)
      have xg2 := Ext.cell g2
      have xh2 := Ext.cell h2
      have xp0 := Ext.cell p0
      have xp1 := Ext.cell p1
      have xq0 := Ext.cell q0
      have xq1 := Ext.cell q1
      clear g2 h2 p0 p1 q0 q1
      refine region_ext (by kernel_rfl) (by kernel_rfl) ?_
      repeat (go_big_quiet_step (fail))
      refine wpQuiet_nil ?_
      rintro W8 ⟨⟨W9, hb3⟩, rfl⟩
      go_wp2
      go_roundg n
      case measure => omega
      case rel => exact ⟨n, i + 1, Nat.le_refl _, by omega, by go_num, ⟨blk_below HG.out hb3⟩, ⟨blk_below HH.out hb3⟩, ⟨below_step HB.out hb3⟩⟩

/-! ### laws_pwOk: function 9 -/
def laws_pwOk.f  : Option (Bool) := (impl_TxtOk.f (⟨#[97, 98, 32, 99]⟩ : ByteArray)).bind fun t397 => (some t397)
set_option maxHeartbeats 8000000 in
set_option maxRecDepth 100000 in
theorem laws_pwOk.calls  (r : Bool) (w : World) (hM : Txt.MLen w) (h : laws_pwOk.f  = some r) :
    Calls Tryd.prog 9 #[] w fun e w' => e = .returned (.bool r) ∧ Below w.heap.size w w' := by
  have HM := Aside0.mk hM
  clear hM
  have HB := Aside0.mk (Below.refl w.heap.size w)
  have H : ((impl_TxtOk.f (⟨#[97, 98, 32, 99]⟩ : ByteArray)).bind fun t397 => (some t397)) = some r := h
  clear h
  replace H := Option.bind_eq_some_iff.mp H
  obtain ⟨t397, A10, H⟩ := H
  replace H : (some t397) = some r := H
  have A1 := Aside0.mk A10
  clear A10
  obtain rfl := Option.some.inj H
  go_enter Tryd.func9, Tryd.ntmps9
  go_wp2_with (first | ((with_reducible refine gate_callee (f := 24) rfl ?_); refine goesL_ (some 1) rfl rfl Tryd.func24 (by kernel_rfl) rfl #[.string (⟨#[97, 98, 32, 99]⟩ : ByteArray)] rfl (by (try simp only [List.map_toArray, List.map_cons, List.map_nil]); first | done | rfl | (simp only [List.length_drop, List.length_take]; rfl)) ?_; (with_reducible refine (impl_TxtOk.calls (⟨#[97, 98, 32, 99]⟩ : ByteArray) t397 _ ?sideM A1.out).mono ?_); (case sideM => repeat (first | exact HM.out | exact (Txt.MLen_below HM.out HB.out) | (with_reducible refine Txt.MLen_alloc ?_ _) | (with_reducible refine Txt.MLen_drewN ?_ _) | (with_reducible refine Txt.MLen_drew ?_))); rintro e w2 ⟨rfl, hb⟩; refine ⟨_, rfl, ?_⟩; have n0_ := Aside0.mk (below_step (by repeat (first | (with_reducible first | exact HB.out | apply below_alloc | apply pw_below_drewN | apply below_drew1) | exact HB.out)) hb); clear HB; have HB := n0_; clear n0_; (try clear hb); (try clear hb2); (try clear hk); (try clear hi)))
  go_ret
  exact ⟨by first | rfl | (simp [IntKind.wrap_i64, wrap64]; done) | (simp [errW_none, errW_some] <;> rfl) | (simp [*, errW_none, errW_some] <;> rfl), by repeat (first | (with_reducible first | exact HB.out | apply below_alloc | apply pw_below_drewN | apply below_drew1) | exact HB.out)⟩

/-! ### impl_TblTable_part: function 25 -/
def impl_TblTable_part.f (l0_0 : List (S59)) (a0_1 : Int) (a0_2 : Int) (l0_3 : List (S40)) (a0_4 : Int) (a1 : Int) : Option (Int) := if a1 < a0_1 then (some 0) else (if a1 ≥ (wrap64 ((l0_3.length : Int) - a0_2)) then (some 2) else (some 1))
set_option maxHeartbeats 8000000 in
set_option maxRecDepth 100000 in
theorem impl_TblTable_part.calls (A0_0 : Option Addr) (c0_0 : Nat) (l0_0 : List (S59)) (a0_1 : Int) (a0_2 : Int) (A0_3 : Option Addr) (c0_3 : Nat) (l0_3 : List (S40)) (a0_4 : Int) (a1 : Int) (r : Int) (w : World) (hr0_0 : Kd.C k59 w A0_0 l0_0.length l0_0) (hc0_0 : l0_0.length ≤ c0_0) (hr0_3 : Kd.C k40 w A0_3 l0_3.length l0_3) (hc0_3 : l0_3.length ≤ c0_3) (h : impl_TblTable_part.f l0_0 a0_1 a0_2 l0_3 a0_4 a1 = some r) :
    Calls Tryd.prog 25 #[.agg #[.slice A0_0 l0_0.length c0_0, .int .i64 a0_1, .int .i64 a0_2, .slice A0_3 l0_3.length c0_3, .int .i64 a0_4], .int .i64 a1] w fun e w' => e = .returned (.int .i64 r) ∧ Below w.heap.size w w' := by
  have hu26 := Tryd.underlying26
  have HR0_0 := Aside0.mk hr0_0
  have HC0_0 := Aside0.mk hc0_0
  clear hr0_0 hc0_0
  have HR0_3 := Aside0.mk hr0_3
  have HC0_3 := Aside0.mk hc0_3
  clear hr0_3 hc0_3
  have HB := Aside0.mk (Below.refl w.heap.size w)
  have H : (if a1 < a0_1 then (some 0) else (if a1 ≥ (wrap64 ((l0_3.length : Int) - a0_2)) then (some 2) else (some 1))) = some r := h
  clear h
  by_cases c3 : a1 < a0_1
  · rw [if_pos c3] at H
    have c3b0 : decide (a1 < a0_1) = true := decide_eq_true c3
    clear c3
    obtain rfl := Option.some.inj H
    go_enter Tryd.func25, Tryd.ntmps25
    go_wp2_with (first | ((with_reducible refine gate_dst (N := 2) rfl ?_); refine box_event ?hg (N := 2) ?hd (cs := #[.slice A0_0 l0_0.length c0_0, .int .i64 a0_1, .int .i64 a0_2, .slice A0_3 l0_3.length c0_3, .int .i64 a0_4]) (t := 26) ?hr ?_; (case hd => rfl); (case hg => rfl); (case hr => first | (go_simp; done) | (go_simp; rfl)); intro gb398 hg w4 hbox hb; have n0_ := Aside0.mk (below_step (by repeat (first | (with_reducible first | exact HB.out | apply below_alloc | apply pw_below_drewN | apply below_drew1) | exact HB.out)) hb); have n1_ := Aside0.mk (hbox); have n2_ := Aside0.mk ((by rw [hg]; exact (below_size (by repeat (first | (with_reducible first | exact HB.out | apply below_alloc | apply pw_below_drewN | apply below_drew1) | exact HB.out))) : w.heap.size ≤ gb398)); have n3_ := Aside0.mk ((by rw [hg]; exact (below_size (by repeat (first | (with_reducible first | exact HB.out | apply below_alloc | apply pw_below_drewN | apply below_drew1) | exact HB.out))) : w.heap.size ≤ gb398)); clear HB; have HB := n0_; have BK398 := n1_; have GW398 := n2_; have GE398 := n3_; clear n0_ n1_ n2_ n3_; clear hb hbox hg; have hcz5_0 : w4.cell? ⟨gb398, 0, none⟩ = some (.slice A0_0 l0_0.length c0_0) := (blk_cell BK398.out 0).trans rfl; have hcz5_1 : w4.cell? ⟨gb398, 1, none⟩ = some (.int .i64 a0_1) := (blk_cell BK398.out 1).trans rfl; have hcz5_2 : w4.cell? ⟨gb398, 2, none⟩ = some (.int .i64 a0_2) := (blk_cell BK398.out 2).trans rfl; have hcz5_3 : w4.cell? ⟨gb398, 3, none⟩ = some (.slice A0_3 l0_3.length c0_3) := (blk_cell BK398.out 3).trans rfl; have hcz5_4 : w4.cell? ⟨gb398, 4, none⟩ = some (.int .i64 a0_4) := (blk_cell BK398.out 4).trans rfl; have hfz5_0 := blk_frozen BK398.out 0; have hfz5_1 := blk_frozen BK398.out 1; have hfz5_2 := blk_frozen BK398.out 2; have hfz5_3 := blk_frozen BK398.out 3; have hfz5_4 := blk_frozen BK398.out 4))
    go_ret
    exact ⟨by first | rfl | (simp [IntKind.wrap_i64, wrap64]; done) | (simp [errW_none, errW_some] <;> rfl) | (simp [*, errW_none, errW_some] <;> rfl), by repeat (first | (with_reducible first | exact HB.out | apply below_alloc | apply pw_below_drewN | apply below_drew1 | refine below_set ?_ GE398.out) | exact HB.out)⟩
  · rw [if_neg c3] at H
    have c3b0 : decide (a1 < a0_1) = false := decide_eq_false c3
    clear c3
    by_cases c6 : a1 ≥ (wrap64 ((l0_3.length : Int) - a0_2))
    · rw [if_pos c6] at H
      have c6b0 : decide ((wrap64 ((l0_3.length : Int) - a0_2)) ≤ a1) = true := decide_eq_true c6
      clear c6
      obtain rfl := Option.some.inj H
      go_enter Tryd.func25, Tryd.ntmps25
      go_wp2_with (first | ((with_reducible refine gate_dst (N := 2) rfl ?_); refine box_event ?hg (N := 2) ?hd (cs := #[.slice A0_0 l0_0.length c0_0, .int .i64 a0_1, .int .i64 a0_2, .slice A0_3 l0_3.length c0_3, .int .i64 a0_4]) (t := 26) ?hr ?_; (case hd => rfl); (case hg => rfl); (case hr => first | (go_simp; done) | (go_simp; rfl)); intro gb398 hg w7 hbox hb; have n0_ := Aside0.mk (below_step (by repeat (first | (with_reducible first | exact HB.out | apply below_alloc | apply pw_below_drewN | apply below_drew1) | exact HB.out)) hb); have n1_ := Aside0.mk (hbox); have n2_ := Aside0.mk ((by rw [hg]; exact (below_size (by repeat (first | (with_reducible first | exact HB.out | apply below_alloc | apply pw_below_drewN | apply below_drew1) | exact HB.out))) : w.heap.size ≤ gb398)); have n3_ := Aside0.mk ((by rw [hg]; exact (below_size (by repeat (first | (with_reducible first | exact HB.out | apply below_alloc | apply pw_below_drewN | apply below_drew1) | exact HB.out))) : w.heap.size ≤ gb398)); clear HB; have HB := n0_; have BK398 := n1_; have GW398 := n2_; have GE398 := n3_; clear n0_ n1_ n2_ n3_; clear hb hbox hg; have hcz8_0 : w7.cell? ⟨gb398, 0, none⟩ = some (.slice A0_0 l0_0.length c0_0) := (blk_cell BK398.out 0).trans rfl; have hcz8_1 : w7.cell? ⟨gb398, 1, none⟩ = some (.int .i64 a0_1) := (blk_cell BK398.out 1).trans rfl; have hcz8_2 : w7.cell? ⟨gb398, 2, none⟩ = some (.int .i64 a0_2) := (blk_cell BK398.out 2).trans rfl; have hcz8_3 : w7.cell? ⟨gb398, 3, none⟩ = some (.slice A0_3 l0_3.length c0_3) := (blk_cell BK398.out 3).trans rfl; have hcz8_4 : w7.cell? ⟨gb398, 4, none⟩ = some (.int .i64 a0_4) := (blk_cell BK398.out 4).trans rfl; have hfz8_0 := blk_frozen BK398.out 0; have hfz8_1 := blk_frozen BK398.out 1; have hfz8_2 := blk_frozen BK398.out 2; have hfz8_3 := blk_frozen BK398.out 3; have hfz8_4 := blk_frozen BK398.out 4))
      go_ret
      exact ⟨by first | rfl | (simp [IntKind.wrap_i64, wrap64]; done) | (simp [errW_none, errW_some] <;> rfl) | (simp [*, errW_none, errW_some] <;> rfl), by repeat (first | (with_reducible first | exact HB.out | apply below_alloc | apply pw_below_drewN | apply below_drew1 | refine below_set ?_ GE398.out) | exact HB.out)⟩
    · rw [if_neg c6] at H
      have c6b0 : decide ((wrap64 ((l0_3.length : Int) - a0_2)) ≤ a1) = false := decide_eq_false c6
      clear c6
      obtain rfl := Option.some.inj H
      go_enter Tryd.func25, Tryd.ntmps25
      go_wp2_with (first | ((with_reducible refine gate_dst (N := 2) rfl ?_); refine box_event ?hg (N := 2) ?hd (cs := #[.slice A0_0 l0_0.length c0_0, .int .i64 a0_1, .int .i64 a0_2, .slice A0_3 l0_3.length c0_3, .int .i64 a0_4]) (t := 26) ?hr ?_; (case hd => rfl); (case hg => rfl); (case hr => first | (go_simp; done) | (go_simp; rfl)); intro gb398 hg w9 hbox hb; have n0_ := Aside0.mk (below_step (by repeat (first | (with_reducible first | exact HB.out | apply below_alloc | apply pw_below_drewN | apply below_drew1) | exact HB.out)) hb); have n1_ := Aside0.mk (hbox); have n2_ := Aside0.mk ((by rw [hg]; exact (below_size (by repeat (first | (with_reducible first | exact HB.out | apply below_alloc | apply pw_below_drewN | apply below_drew1) | exact HB.out))) : w.heap.size ≤ gb398)); have n3_ := Aside0.mk ((by rw [hg]; exact (below_size (by repeat (first | (with_reducible first | exact HB.out | apply below_alloc | apply pw_below_drewN | apply below_drew1) | exact HB.out))) : w.heap.size ≤ gb398)); clear HB; have HB := n0_; have BK398 := n1_; have GW398 := n2_; have GE398 := n3_; clear n0_ n1_ n2_ n3_; clear hb hbox hg; have hcz10_0 : w9.cell? ⟨gb398, 0, none⟩ = some (.slice A0_0 l0_0.length c0_0) := (blk_cell BK398.out 0).trans rfl; have hcz10_1 : w9.cell? ⟨gb398, 1, none⟩ = some (.int .i64 a0_1) := (blk_cell BK398.out 1).trans rfl; have hcz10_2 : w9.cell? ⟨gb398, 2, none⟩ = some (.int .i64 a0_2) := (blk_cell BK398.out 2).trans rfl; have hcz10_3 : w9.cell? ⟨gb398, 3, none⟩ = some (.slice A0_3 l0_3.length c0_3) := (blk_cell BK398.out 3).trans rfl; have hcz10_4 : w9.cell? ⟨gb398, 4, none⟩ = some (.int .i64 a0_4) := (blk_cell BK398.out 4).trans rfl; have hfz10_0 := blk_frozen BK398.out 0; have hfz10_1 := blk_frozen BK398.out 1; have hfz10_2 := blk_frozen BK398.out 2; have hfz10_3 := blk_frozen BK398.out 3; have hfz10_4 := blk_frozen BK398.out 4))
      go_ret
      exact ⟨by first | rfl | (simp [IntKind.wrap_i64, wrap64]; done) | (simp [errW_none, errW_some] <;> rfl) | (simp [*, errW_none, errW_some] <;> rfl), by repeat (first | (with_reducible first | exact HB.out | apply below_alloc | apply pw_below_drewN | apply below_drew1 | refine below_set ?_ GE398.out) | exact HB.out)⟩


end Go.Proofs.YtpmbglbfoaejaaaDoor.Q
