-- Told by a program of this session (uprint.py, ulay.py).
import Derived.Test.YtaihfkjfbjcmhaaDoorQ0
import Derived.Test.YtaihfkjfbjcmhaaDoorQimplin
import Derived.Test.YtaihfkjfbjcmhaaDoorQimplCellOk
import Derived.Test.YtaihfkjfbjcmhaaDoorQspecTblOk
import Derived.Test.YtaihfkjfbjcmhaaDoorQspecl20AnyTable
import Derived.Test.YtaihfkjfbjcmhaaDoorQlawspwRow
namespace Go.Proofs.YtaihfkjfbjcmhaaDoor.Q
open Go.RowKit Go.Proofs.YtaihfkjfbjcmhaaDoorW.PrintWords Go.Proofs.YtaihfkjfbjcmhaaDoorW.PrintLast Go.Proofs.YtaihfkjfbjcmhaaDoorW.PrintMore
attribute [local go_sem] max2_int min2_int max_two min_two max_three min_three max_four min_four
set_option linter.unusedVariables false
set_option linter.unusedSimpArgs false

/-! ### laws_FnEdtRow: function 3 (by hand) -/
/-- The law's last chain: no answer where it falls. -/
def laws_FnEdtRow.fin (k : Nat) (tc : List S52) (th tf : Int) (tr : List S37) (tg : Int) (xc : List S52) (xh xf : Int) (xr : List S37) (xg : Int) (at_ : Int) : Option Bool :=
  if 0 ≤ at_ ∧ at_ ≤ (tr.length : Int) ∧ tr.length < 1000000 ∧ xr.map laws_pwTable.row = (rowRows tr at_).map laws_pwTable.row then (impl_TblOk.f k xc xh xf xr xg).bind fun a => (impl_TblPart.f k xc xh xf xr xg at_).bind fun p => (impl_TblCells.f k xc xh xf xr xg).bind fun n => (impl_TblCells.f k tc th tf tr tg).bind fun m => if a = true ∧ p = 1 ∧ n = m then some true else none else none
def laws_FnEdtRow.f (k : Nat) (l0 : List Int) : Option Bool :=
  if (l0.length : Int) > 1048576 then some true else (spec_DrawEdtRow.f k l0).bind fun d => (impl_EdtRow.f k d.1 d.2.1 d.2.2.1 d.2.2.2.1 d.2.2.2.2.1 d.2.2.2.2.2).bind fun x => (spec_EdtRow.f k d.1 d.2.1 d.2.2.1 d.2.2.2.1 d.2.2.2.2.1 d.2.2.2.2.2).bind fun y =>
    if x.2.2.2.2.2 = y.2.2.2.2.2 then (laws_pwTable.f k x.1 x.2.1 x.2.2.1 x.2.2.2.1 x.2.2.2.2.1 y.1 y.2.1 y.2.2.1 y.2.2.2.1 y.2.2.2.2.1).bind fun e => (spec_TblOk.f k d.1 d.2.1 d.2.2.1 d.2.2.2.1 d.2.2.2.2.1).bind fun o => if e = true then (
      if o = true then (if x.2.2.2.2.2 = true then laws_FnEdtRow.fin k d.1 d.2.1 d.2.2.1 d.2.2.2.1 d.2.2.2.2.1 x.1 x.2.1 x.2.2.1 x.2.2.2.1 x.2.2.2.2.1 d.2.2.2.2.2 else laws_pwTable.f k x.1 x.2.1 x.2.2.1 x.2.2.2.1 x.2.2.2.2.1 d.1 d.2.1 d.2.2.1 d.2.2.2.1 d.2.2.2.2.1)
      else (if x.2.2.2.2.2 = false then (laws_pwTable.f k x.1 x.2.1 x.2.2.1 x.2.2.2.1 x.2.2.2.2.1 [] 0 0 [] 0).bind fun e2 => if e2 = true then laws_pwOk.f else none else none)) else none else none
theorem laws_FnEdtRow.parts {k : Nat} {l0 : List Int} {r : Bool} (hn : ¬ (l0.length : Int) > 1048576) (h : laws_FnEdtRow.f k l0 = some r) :
    ∃ (tc : List S52) (th tf : Int) (tr : List S37) (tg : Int) (at_ : Int) (xc : List S52) (xh xf : Int) (xr : List S37) (xg : Int) (yc : List S52) (yh yf : Int) (yr : List S37) (yg : Int) (ok : Bool), Aside0 (spec_DrawEdtRow.f k l0 = some (tc, th, tf, tr, tg, at_)) ∧ Aside0 (impl_EdtRow.f k tc th tf tr tg at_ = some (xc, xh, xf, xr, xg, ok)) ∧ Aside0 (spec_EdtRow.f k tc th tf tr tg at_ = some (yc, yh, yf, yr, yg, ok)) ∧ Aside0 (laws_pwTable.f k xc xh xf xr xg yc yh yf yr yg = some true) ∧
    ((Aside0 (spec_TblOk.f k tc th tf tr tg = some true) ∧ ok = true ∧ Aside0 (laws_FnEdtRow.fin k tc th tf tr tg xc xh xf xr xg at_ = some r)) ∨ (Aside0 (spec_TblOk.f k tc th tf tr tg = some true) ∧ ok = false ∧ Aside0 (laws_pwTable.f k xc xh xf xr xg tc th tf tr tg = some r)) ∨
     (Aside0 (spec_TblOk.f k tc th tf tr tg = some false) ∧ ok = false ∧ Aside0 (laws_pwTable.f k xc xh xf xr xg [] 0 0 [] 0 = some true) ∧ Aside0 (laws_pwOk.f = some r))) := by
  unfold laws_FnEdtRow.f at h
  rw [if_neg hn] at h
  obtain ⟨⟨tc, th, tf, tr, tg, at_⟩, h1, g1⟩ := Option.bind_eq_some_iff.1 h
  clear h
  obtain ⟨⟨xc, xh, xf, xr, xg, ok⟩, h2, g2⟩ := Option.bind_eq_some_iff.1 g1
  clear g1
  obtain ⟨⟨yc, yh, yf, yr, yg, ok2⟩, h3, g3⟩ := Option.bind_eq_some_iff.1 g2
  clear g2
  split at g3
  · rename_i e
    obtain rfl : ok = ok2 := e
    obtain ⟨e, h4, g4⟩ := Option.bind_eq_some_iff.1 g3
    clear g3
    obtain ⟨o, h5, g5⟩ := Option.bind_eq_some_iff.1 g4
    clear g4
    cases e
    · rw [if_neg (by decide)] at g5; cases g5
    rw [if_pos rfl] at g5
    refine ⟨tc, th, tf, tr, tg, at_, xc, xh, xf, xr, xg, yc, yh, yf, yr, yg, ok, ⟨h1⟩, ⟨h2⟩, ⟨h3⟩, ⟨h4⟩, ?_⟩
    cases o
    · rw [if_neg (by decide)] at g5
      split at g5
      · rename_i e
        obtain ⟨e2, h6, g6⟩ := Option.bind_eq_some_iff.1 g5
        cases e2
        · rw [if_neg (by decide)] at g6; cases g6
        rw [if_pos rfl] at g6
        exact .inr (.inr ⟨⟨h5⟩, e, ⟨h6⟩, ⟨g6⟩⟩)
      · cases g5
    · rw [if_pos rfl] at g5
      split at g5
      · rename_i e
        exact .inl ⟨⟨h5⟩, e, ⟨g5⟩⟩
      · rename_i e
        exact .inr (.inl ⟨⟨h5⟩, by simpa using e, ⟨g5⟩⟩)
  · cases g3
theorem laws_FnEdtRow.parts2 {k : Nat} {tc : List S52} {th tf : Int} {tr : List S37} {tg : Int} {xc : List S52} {xh xf : Int} {xr : List S37} {xg : Int} {at_ : Int} {r : Bool} (h : laws_FnEdtRow.fin k tc th tf tr tg xc xh xf xr xg at_ = some r) :
    r = true ∧ (0 ≤ at_ ∧ at_ ≤ (tr.length : Int) ∧ tr.length < 1000000) ∧ xr = rowRows tr at_ ∧ ∃ n, Aside0 (impl_TblOk.f k xc xh xf xr xg = some true) ∧ Aside0 (impl_TblPart.f k xc xh xf xr xg at_ = some 1) ∧ Aside0 (impl_TblCells.f k xc xh xf xr xg = some n) ∧ Aside0 (impl_TblCells.f k tc th tf tr tg = some n) := by
  unfold laws_FnEdtRow.fin at h
  split at h
  · rename_i hb
    obtain ⟨hb1, hb2, hb3, hb4⟩ := hb
    obtain ⟨a, h2, g2⟩ := Option.bind_eq_some_iff.1 h
    obtain ⟨p, h3, g3⟩ := Option.bind_eq_some_iff.1 g2
    obtain ⟨n, h4, g4⟩ := Option.bind_eq_some_iff.1 g3
    obtain ⟨m, h5, g5⟩ := Option.bind_eq_some_iff.1 g4
    split at g5
    · rename_i ha
      obtain ⟨rfl, rfl, rfl⟩ := ha
      exact ⟨(Option.some.inj g5).symm, ⟨hb1, hb2, hb3⟩, map_same laws_pwTable.inj2 hb4, n, ⟨h2⟩, ⟨h3⟩, ⟨h4⟩, ⟨h5⟩⟩
    · cases g5
  · cases h
structure laws_FnEdtRow.Wd (w : World) (B : Nat) (pa : Array Value) (Ac Ar : Option Addr) (cs : List S52) (rs : List S37) (W : World) : Prop where
  bt : W.heap[B]? = some (.cells pa 26 (0, 0))
  kc : Kd.C k52 W Ac cs.length cs
  kr : Kd.C k37 W Ar rs.length rs
  bl : Below w.heap.size w W
theorem laws_FnEdtRow.Wd.below {w W W' : World} {B : Nat} {pa : Array Value} {Ac Ar : Option Addr} {cs : List S52} {rs : List S37} (h : laws_FnEdtRow.Wd w B pa Ac Ar cs rs W) (hb : Below W.heap.size W W') : laws_FnEdtRow.Wd w B pa Ac Ar cs rs W' :=
  ⟨blk_below h.bt hb, Kd.C_below h.kc hb, Kd.C_below h.kr hb, below_step h.bl hb⟩
theorem laws_FnEdtRow.rowAt (tr : List S37) (at_ i : Nat) (hat : at_ ≤ tr.length) (hi : i < tr.length) : rd_T37 (rowRows tr (at_ : Int)) (if at_ ≤ i then (i : Int) + 1 else (i : Int)) = rd_T37 tr (i : Int) := by
  unfold rd_T37 rowRows
  rw [List.getD_eq_getElem?_getD, List.getD_eq_getElem?_getD, Int.toNat_natCast, Int.toNat_natCast]
  by_cases h : at_ ≤ i
  · rw [if_pos h, show ((i : Int) + 1).toNat = i + 1 by omega, ins_at _ _ _ hat, if_neg (by omega), if_neg (by omega), Nat.add_sub_cancel]
  · rw [if_neg h, Int.toNat_natCast, ins_at _ _ _ hat, if_pos (by omega)]
theorem laws_FnEdtRow.rowNew (tr : List S37) (at_ : Nat) (hat : at_ ≤ tr.length) : rd_T37 (rowRows tr (at_ : Int)) (at_ : Int) = ⟨[], false⟩ := by
  unfold rd_T37 rowRows
  rw [List.getD_eq_getElem?_getD, Int.toNat_natCast, ins_at _ _ _ hat, if_neg (by omega), if_pos rfl]
  rfl
set_option maxHeartbeats 4000000 in
set_option maxRecDepth 100000 in
theorem laws_FnEdtRow.calls (k : Nat) (A0 : Option Addr) (c0 : Nat) (l0 : List Int) (r : Bool) (w : World) (hr0 : Kd.C (Kd.int .u8) w A0 l0.length l0) (hc0 : l0.length ≤ c0) (hM : Txt.MLen w) (h : laws_FnEdtRow.f k l0 = some r) :
    Calls Tryd.prog 3 #[.slice A0 l0.length c0] w fun e w' => e = .returned (.bool r) ∧ Below w.heap.size w w' := by
  have HM := Aside0.mk hM
  clear hM
  have HR := Aside0.mk hr0
  have HC := Aside0.mk hc0
  clear hr0 hc0
  have hu1 := Tryd.underlying26
  by_cases hbig : (l0.length : Int) > 1048576
  · have hf : r = true := by unfold laws_FnEdtRow.f at h; rw [if_pos hbig] at h; exact (Option.some.inj h).symm
    subst hf
    clear h
    have b0 : decide (1048576 < (l0.length : Int)) = true := decide_eq_true hbig
    have b1 : decide (1048576 < l0.length) = true := decide_eq_true (by omega)
    clear hbig
    go_enter Tryd.func3, Tryd.ntmps3
    go_wp2
    go_ret
    exact ⟨rfl, by (repeat (with_reducible first | exact Below.refl _ _ | apply below_alloc | apply pw_below_drewN | apply below_drew1))⟩
  obtain ⟨tc, th, tf, tr, tg, at_, xc, xh, xf, xr, xg, yc, yh, yf, yr, yg, ok, A1, A2, A3, A4, hs⟩ := laws_FnEdtRow.parts hbig h
  have b0 : decide (1048576 < (l0.length : Int)) = false := decide_eq_false hbig
  have b1 : decide (1048576 < l0.length) = false := decide_eq_false (by omega)
  clear hbig h
  have HS := Aside0.mk hs
  clear hs
  go_enter Tryd.func3, Tryd.ntmps3
  go_upto_region 4 with (go_at_call 4; (with_reducible refine (spec_DrawEdtRow.calls k _ _ l0 tc th tf tr tg at_ _ (by repeat (first | exact HR.out | (with_reducible refine Kd.C_alloc ?_ _) | (with_reducible refine Kd.C_drewN ?_ _) | (with_reducible refine Kd.C_drew ?_))) HC.out A1.out).mono ?_); rintro e W1 ⟨v0, v3, rfl, hv0, hv3, hb⟩; obtain ⟨tA, ta, rfl⟩ := Kd.R_slice hv0; obtain ⟨tB, tb, rfl⟩ := Kd.R_slice (Kd.S_R hv3); have HKc := Aside0.mk (Kd.R_reads' hv0).2.2; have HLc := Aside0.mk (Kd.R_reads' hv0).2.1; have HKr := Aside0.mk (Kd.R_reads' (Kd.S_R hv3)).2.2; have HLr := Aside0.mk (Kd.R_reads' (Kd.S_R hv3)).2.1; have HB := Aside0.mk (below_step (by (repeat (with_reducible first | exact Below.refl _ _ | apply below_alloc | apply pw_below_drewN | apply below_drew1))) hb); clear hb hv0 hv3)
  refine wp_letter (fun W0 => laws_FnEdtRow.Wd w W1.heap.size (l3A (.slice tA tc.length ta) (.slice tB tr.length tb) th tf tg) tA tB tc tr W0) ⟨blk_new W1 _, Kd.C_alloc HKc.out _, Kd.C_alloc HKr.out _, below_alloc HB.out _⟩ ?_
  rintro W2 hT
  generalize W1.heap.size = T at hT ⊢
  clear HKc HKr HB b0 b1
  have HT := Aside0.mk hT
  clear hT
  go_upto_region 5 with (first | (refine wpList_load_row rfl 26 _ rfl T rfl 26 (l3A (.slice tA tc.length ta) (.slice tB tr.length tb) th tf tg) (0, 0) _ HT.out.bt Tryd.underlying26 rfl (by kernel_rfl) ?_) | (go_at_call 5; (with_reducible refine (impl_EdtRow.calls k tA ta tc th tf tB tb tr tg at_ xc xh xf xr xg ok _ HT.out.kc HLc.out HT.out.kr HLr.out (Txt.MLen_below HM.out HT.out.bl) A2.out).mono ?_); rintro e W3 ⟨v0, v3, rfl, hv0, hv3, hb⟩; obtain ⟨xA, xa, rfl⟩ := Kd.R_slice hv0; obtain ⟨xB, xb, rfl⟩ := Kd.R_slice (Kd.S_R hv3); have HKx := Aside0.mk (Kd.R_reads' hv0).2.2; have HLx := Aside0.mk (Kd.R_reads' hv0).2.1; have HKs := Aside0.mk (Kd.R_reads' (Kd.S_R hv3)).2.2; have HLs := Aside0.mk (Kd.R_reads' (Kd.S_R hv3)).2.1; replace HT := Aside0.mk (HT.out.below hb); clear hb hv0 hv3))
  refine wp_letter (fun W0 => laws_FnEdtRow.Wd w T (l3A (.slice tA tc.length ta) (.slice tB tr.length tb) th tf tg) tA tB tc tr W0 ∧ laws_FnEdtRow.Wd w W3.heap.size (l3A (.slice xA xc.length xa) (.slice xB xr.length xb) xh xf xg) xA xB xc xr W0) ⟨HT.out.below (below_alloc (Below.refl _ _) _), blk_new W3 _, Kd.C_alloc HKx.out _, Kd.C_alloc HKs.out _, below_alloc HT.out.bl _⟩ ?_
  rintro W4 ⟨hT, hX⟩
  generalize W3.heap.size = X at hX ⊢
  clear HT HKx HKs
  have HT := Aside0.mk hT
  have HX := Aside0.mk hX
  clear hT hX
  go_upto_region 6 with (first | (refine wpList_load_row rfl 26 _ rfl T rfl 26 (l3A (.slice tA tc.length ta) (.slice tB tr.length tb) th tf tg) (0, 0) _ HT.out.bt Tryd.underlying26 rfl (by kernel_rfl) ?_) | (go_at_call 6; (with_reducible refine (spec_EdtRow.calls k tA ta tc th tf tB tb tr tg at_ yc yh yf yr yg ok _ HT.out.kc HLc.out HT.out.kr HLr.out A3.out).mono ?_); rintro e W5 ⟨v0, v3, rfl, hv0, ⟨yB, yb, rfl, hyl, hyc⟩, hb⟩; obtain ⟨yA, ya, rfl⟩ := Kd.R_slice hv0; have HKx := Aside0.mk (Kd.R_reads' hv0).2.2; have HLy := Aside0.mk (Kd.R_reads' hv0).2.1; have HKs := Aside0.mk hyc; have HLz := Aside0.mk hyl; replace HT := Aside0.mk (HT.out.below hb); replace HX := Aside0.mk (HX.out.below hb); clear hb hv0 hyl hyc))
  refine wp_letter (fun W0 => laws_FnEdtRow.Wd w T (l3A (.slice tA tc.length ta) (.slice tB tr.length tb) th tf tg) tA tB tc tr W0 ∧ laws_FnEdtRow.Wd w X (l3A (.slice xA xc.length xa) (.slice xB xr.length xb) xh xf xg) xA xB xc xr W0 ∧ laws_FnEdtRow.Wd w W5.heap.size (l3A (.slice yA yc.length ya) (.slice yB yr.length yb) yh yf yg) yA yB yc yr W0) ⟨HT.out.below (below_alloc (Below.refl _ _) _), HX.out.below (below_alloc (Below.refl _ _) _), blk_new W5 _, Kd.C_alloc HKx.out _, Kd.C_alloc HKs.out _, below_alloc HT.out.bl _⟩ ?_
  rintro W6 ⟨hT, hX, hY⟩
  generalize W5.heap.size = Y at hY ⊢
  clear HT HX HKx HKs
  have HT := Aside0.mk hT
  have HX := Aside0.mk hX
  have HY := Aside0.mk hY
  clear hT hX hY
  have x0_ : _ = some (Value.slice xA xc.length xa) := (blk_cell HX.out.bt 0).trans rfl
  have x1_ : _ = some (Value.int .i64 xh) := (blk_cell HX.out.bt 1).trans rfl
  have x2_ : _ = some (Value.int .i64 xf) := (blk_cell HX.out.bt 2).trans rfl
  have x3_ : _ = some (Value.slice xB xr.length xb) := (blk_cell HX.out.bt 3).trans rfl
  have x4_ : _ = some (Value.int .i64 xg) := (blk_cell HX.out.bt 4).trans rfl
  have y0_ : _ = some (Value.slice yA yc.length ya) := (blk_cell HY.out.bt 0).trans rfl
  have y1_ : _ = some (Value.int .i64 yh) := (blk_cell HY.out.bt 1).trans rfl
  have y2_ : _ = some (Value.int .i64 yf) := (blk_cell HY.out.bt 2).trans rfl
  have y3_ : _ = some (Value.slice yB yr.length yb) := (blk_cell HY.out.bt 3).trans rfl
  have y4_ : _ = some (Value.int .i64 yg) := (blk_cell HY.out.bt 4).trans rfl
  go_upto_region 8 with (go_at_call 7; (with_reducible refine (laws_pwTable.calls k xA xa xc xh xf xB xb xr xg yA ya yc yh yf yB yb yr yg true _ HX.out.kc HLx.out HX.out.kr HLs.out HY.out.kc HLy.out HY.out.kr HLz.out A4.out).mono ?_); rintro e W7 ⟨rfl, hb⟩; clear x0_ x1_ x2_ x3_ x4_ y0_ y1_ y2_ y3_ y4_; replace HT := Aside0.mk (HT.out.below hb); replace HX := Aside0.mk (HX.out.below hb); clear hb)
  clear HY HLy HLz A4 A3 A2 A1
  rcases HS.out with ⟨B1, rfl, B2⟩ | ⟨B1, rfl, B2⟩ | ⟨B1, rfl, B2, B3⟩
  rotate_left
  · clear HS
    go_wp2_with (first | (refine wpList_load_row rfl 26 _ rfl T rfl 26 (l3A (.slice tA tc.length ta) (.slice tB tr.length tb) th tf tg) (0, 0) _ HT.out.bt Tryd.underlying26 rfl (by kernel_rfl) ?_) | (refine wpList_load_row rfl 26 _ rfl X rfl 26 (l3A (.slice xA xc.length xa) (.slice xB xr.length xb) xh xf xg) (0, 0) _ HX.out.bt Tryd.underlying26 rfl (by kernel_rfl) ?_) | (go_at_call 8; (with_reducible refine (spec_TblOk.calls k tA ta tc th tf tB tb tr tg true _ HT.out.kc HLc.out HT.out.kr HLr.out B1.out).mono ?_); rintro e W8 ⟨rfl, hb⟩; replace HT := Aside0.mk (HT.out.below hb); replace HX := Aside0.mk (HX.out.below hb); clear hb) | (go_at_call 7; (with_reducible refine (laws_pwTable.calls k xA xa xc xh xf xB xb xr xg tA ta tc th tf tB tb tr tg r _ HX.out.kc HLx.out HX.out.kr HLs.out HT.out.kc HLc.out HT.out.kr HLr.out B2.out).mono ?_); rintro e W9 ⟨rfl, hb⟩; replace HT := Aside0.mk (HT.out.below hb); clear hb))
    go_ret
    exact ⟨rfl, HT.out.bl⟩
  · clear HS
    go_wp2_with (first | (refine wpList_load_row rfl 26 _ rfl T rfl 26 (l3A (.slice tA tc.length ta) (.slice tB tr.length tb) th tf tg) (0, 0) _ HT.out.bt Tryd.underlying26 rfl (by kernel_rfl) ?_) | (refine wpList_load_row rfl 26 _ rfl X rfl 26 (l3A (.slice xA xc.length xa) (.slice xB xr.length xb) xh xf xg) (0, 0) _ HX.out.bt Tryd.underlying26 rfl (by kernel_rfl) ?_) | (go_at_call 8; (with_reducible refine (spec_TblOk.calls k tA ta tc th tf tB tb tr tg false _ HT.out.kc HLc.out HT.out.kr HLr.out B1.out).mono ?_); rintro e W8 ⟨rfl, hb⟩; replace HT := Aside0.mk (HT.out.below hb); replace HX := Aside0.mk (HX.out.below hb); clear hb) | (go_at_call 7; (refine (laws_pwTable.calls k xA xa xc xh xf xB xb xr xg none 0 [] 0 0 none 0 [] 0 true _ HX.out.kc HLx.out HX.out.kr HLs.out ?n1 (Nat.le_refl _) ?n2 (Nat.le_refl _) B2.out).mono ?_); (case n1 => exact (Kd.R_reads' (Kd.R_nil k52 52 _ 0 (fun _ => True))).2.2); (case n2 => exact (Kd.R_reads' (Kd.R_nil k37 37 _ 0 (fun _ => True))).2.2); rintro e W9 ⟨rfl, hb⟩; replace HT := Aside0.mk (HT.out.below hb); clear hb) | (go_at_call 9; (with_reducible refine (laws_pwOk.calls r _ (Txt.MLen_below HM.out HT.out.bl) B3.out).mono ?_); rintro e W10 ⟨rfl, hb⟩; replace HT := Aside0.mk (HT.out.below hb); clear hb))
    go_ret
    exact ⟨rfl, HT.out.bl⟩
  obtain ⟨rfl, ⟨hb1, hb2, hb3⟩, hxr, n, C1, C2, C3, C4⟩ := laws_FnEdtRow.parts2 B2.out
  clear HS B2
  obtain ⟨at_, rfl⟩ : ∃ a : Nat, at_ = (a : Int) := ⟨at_.toNat, by omega⟩
  have hat : at_ ≤ tr.length := by omega
  have hxl : xr.length = tr.length + 1 := by rw [hxr]; unfold rowRows; rw [Int.toNat_natCast, ins_len _ _ _ hat]
  have HXR := Aside0.mk hxr
  have HXL := Aside0.mk hxl
  have HTL := Aside0.mk hb3
  clear hxr hxl hb1 hb2 hb3
  go_upto_region 12 with (first | (refine wpList_load_row rfl 26 _ rfl T rfl 26 (l3A (.slice tA tc.length ta) (.slice tB tr.length tb) th tf tg) (0, 0) _ HT.out.bt Tryd.underlying26 rfl (by kernel_rfl) ?_) | (go_at_call 8; (with_reducible refine (spec_TblOk.calls k tA ta tc th tf tB tb tr tg true _ HT.out.kc HLc.out HT.out.kr HLr.out B1.out).mono ?_); rintro e W8 ⟨rfl, hb⟩; replace HT := Aside0.mk (HT.out.below hb); replace HX := Aside0.mk (HX.out.below hb); clear hb))
  clear B1
  go_upto_region 13 with (fail)
  go_loopg [9] tr.length (fun gg s9 wr => ∃ (n i : Nat), n ≤ gg ∧ i + n = tr.length ∧ s9 = .int .i64 i ∧ Aside0 (laws_FnEdtRow.Wd w T (l3A (.slice tA tc.length ta) (.slice tB tr.length tb) th tf tg) tA tB tc tr wr) ∧ Aside0 (laws_FnEdtRow.Wd w X (l3A (.slice xA xc.length xa) (.slice xB xr.length xb) xh xf xg) xA xB xc xr wr))
  case atStart => exact ⟨tr.length, 0, Nat.le_refl _, by omega, rfl, HT, HX⟩
  case round =>
    clear HT HX
    obtain ⟨m, i, hg, hin, rfl, HT, HX⟩ := hrel
    have t3_ : wr.cell? ⟨T, 3, none⟩ = some (Value.slice tB tr.length tb) := (blk_cell HT.out.bt 3).trans rfl
    have x3_ : wr.cell? ⟨X, 3, none⟩ = some (Value.slice xB xr.length xb) := (blk_cell HX.out.bt 3).trans rfl
    cases m with
    | zero =>
      have hlt : ¬ (i : Int) < (tr.length : Int) := by omega
      go_upto_region 20 with (fail)
      clear t3_ x3_ hlt hin hg
      obtain ⟨ad, B0, d0, rfl, p0, p1, e0, hC0⟩ := at_T37 HX.out.kr (at_ : Int) (by omega) (by have := HXL.out; omega)
      have hnew := laws_FnEdtRow.rowNew tr at_ hat
      rw [← HXR.out] at hnew
      rw [hnew] at p0
      simp only [Int.toNat_natCast] at p0
      clear p1 e0 hC0 hnew
      have y0 := Ext.cell ((blk_cell HX.out.bt 0).trans rfl : wr.cell? ⟨X, 0, none⟩ = some (Value.slice xA xc.length xa))
      have y1 := Ext.cell ((blk_cell HX.out.bt 1).trans rfl : wr.cell? ⟨X, 1, none⟩ = some (Value.int .i64 xh))
      have y2 := Ext.cell ((blk_cell HX.out.bt 2).trans rfl : wr.cell? ⟨X, 2, none⟩ = some (Value.int .i64 xf))
      have y3 := Ext.cell ((blk_cell HX.out.bt 3).trans rfl : wr.cell? ⟨X, 3, none⟩ = some (Value.slice (some ad) xr.length xb))
      have y4 := Ext.cell ((blk_cell HX.out.bt 4).trans rfl : wr.cell? ⟨X, 4, none⟩ = some (Value.int .i64 xg))
      have z0 := Ext.cell ((blk_cell HT.out.bt 0).trans rfl : wr.cell? ⟨T, 0, none⟩ = some (Value.slice tA tc.length ta))
      have z1 := Ext.cell ((blk_cell HT.out.bt 1).trans rfl : wr.cell? ⟨T, 1, none⟩ = some (Value.int .i64 th))
      have z2 := Ext.cell ((blk_cell HT.out.bt 2).trans rfl : wr.cell? ⟨T, 2, none⟩ = some (Value.int .i64 tf))
      have z3 := Ext.cell ((blk_cell HT.out.bt 3).trans rfl : wr.cell? ⟨T, 3, none⟩ = some (Value.slice tB tr.length tb))
      have z4 := Ext.cell ((blk_cell HT.out.bt 4).trans rfl : wr.cell? ⟨T, 4, none⟩ = some (Value.int .i64 tg))
      have xp0 := Ext.cell p0
      have FXc := Aside0.mk (fun (v : Ext wr) => Kd.C_below HX.out.kc v.below)
      have FXr := Aside0.mk (fun (v : Ext wr) => Kd.C_below HX.out.kr v.below)
      have FTc := Aside0.mk (fun (v : Ext wr) => Kd.C_below HT.out.kc v.below)
      have FTr := Aside0.mk (fun (v : Ext wr) => Kd.C_below HT.out.kr v.below)
      have FM := Aside0.mk (fun (v : Ext wr) => Txt.MLen_below HM.out (below_step HT.out.bl v.below))
      have hxe : ((xr.length : Int) == (tr.length : Int) + 1) = true := by rw [beq_iff_eq]; have := HXL.out; omega
      have hw1 : wrap64 ((tr.length : Int) + 1) = (tr.length : Int) + 1 := by have := HTL.out; unfold wrap64; omega
      have hw2 : IntKind.i64.wrap ((tr.length : Int) + 1) = (tr.length : Int) + 1 := by have := HTL.out; rw [IntKind.wrap_i64]; omega
      have hat2 : at_ < xr.length := by have := HXL.out; omega
      clear p0
      refine region_ext (by kernel_rfl) (by kernel_rfl) ?_
      repeat (go_big_quiet_step (first | (go_at_call 11; with_reducible exact Calls.ext (impl_TblOk.calls k xA xa xc xh xf (some ad) xb xr xg true _ (FXc.out _) HLx.out (FXr.out _) HLs.out (FM.out _) C1.out)) | (go_at_call 12; with_reducible exact Calls.ext (impl_TblPart.calls k xA xa xc xh xf (some ad) xb xr xg (at_ : Int) 1 _ (FXc.out _) HLx.out (FXr.out _) HLs.out (FM.out _) C2.out)) | (go_at_call 13; first | with_reducible exact Calls.ext (impl_TblCells.calls k xA xa xc xh xf (some ad) xb xr xg n _ (FXc.out _) HLx.out (FXr.out _) HLs.out C3.out) | with_reducible exact Calls.ext (impl_TblCells.calls k tA ta tc th tf tB tb tr tg n _ (FTc.out _) HLc.out (FTr.out _) HLr.out C4.out))))
      refine wpQuiet_nil ?_
      rintro W8 ⟨⟨W9, hb3⟩, rfl⟩
      go_wp2
      go_ret
      exact ⟨rfl, below_step HT.out.bl hb3⟩
    | succ m =>
      have hlt : (i : Int) < (tr.length : Int) := by omega
      have hw1 : wrap64 ((i : Int) + 1) = (i : Int) + 1 := by have := HTL.out; unfold wrap64; omega
      have hw2 : IntKind.i64.wrap ((i : Int) + 1) = (i : Int) + 1 := by have := HTL.out; rw [IntKind.wrap_i64]; omega
      by_cases hk : at_ ≤ i
      · have hki : (at_ : Int) ≤ (i : Int) := by omega
        obtain ⟨ad, B0, d0, hA, p0, p1, e0, hC0⟩ := at_T37 HX.out.kr ((i : Int) + 1) (by omega) (by have := HXL.out; omega)
        rw [hA] at x3_
        clear hA
        obtain ⟨ad2, B1, d1, hA, q0, q1, e1, hC1⟩ := at_T37 HT.out.kr (i : Int) (by omega) hlt
        rw [hA] at t3_
        clear hA
        have hsame := laws_FnEdtRow.rowAt tr at_ i hat (by omega)
        rw [if_pos hk, ← HXR.out] at hsame
        rw [hsame] at p0 p1 e0 hC0
        have htn : ((i : Int) + 1).toNat = i + 1 := by omega
        rw [htn] at p0 p1
        simp only [Int.toNat_natCast] at q0 q1
        obtain ⟨x, hx⟩ : ∃ x, rd_T37 tr (i : Int) = x := ⟨_, rfl⟩
        rw [hx] at p0 p1 q0 q1 hC0 hC1 e0 e1
        clear hx hsame
        have HSM := Aside0.mk (show laws_pwRow.f k x.f0 x.f1 x.f0 x.f1 = some true by unfold laws_pwRow.f; rw [if_pos ⟨rfl, rfl⟩])
        have HE0 := Aside0.mk e0
        have HE1 := Aside0.mk e1
        have hilt : i < tr.length := by omega
        have hxlt : i + 1 < xr.length := by have := HXL.out; omega
        clear e0 e1
        go_upto_region 18 with (fail)
        have FC := Aside0.mk (fun (v : Ext wr) => Kd.C_below hC0 v.below)
        have FD := Aside0.mk (fun (v : Ext wr) => Kd.C_below hC1 v.below)
        have xg2 := Ext.cell x3_
        have xh2 := Ext.cell t3_
        have xp0 := Ext.cell p0
        have xp1 := Ext.cell p1
        have xq0 := Ext.cell q0
        have xq1 := Ext.cell q1
        clear x3_ t3_ p0 p1 q0 q1 hC0 hC1
        refine region_ext (by kernel_rfl) (by kernel_rfl) ?_
        repeat (go_big_quiet_step (first | (go_at_call 10; exact Calls.ext (laws_pwRow.calls k B0 d0 x.f0 x.f1 B1 d1 x.f0 x.f1 true _ (FC.out _) HE0.out (FD.out _) HE1.out HSM.out))))
        refine wpQuiet_nil ?_
        rintro W8 ⟨⟨W9, hb3⟩, rfl⟩
        go_wp2
        go_roundg m
        case measure => omega
        case rel => exact ⟨m, i + 1, Nat.le_refl _, by omega, by go_num, ⟨HT.out.below hb3⟩, ⟨HX.out.below hb3⟩⟩
      · have hki : ¬ (at_ : Int) ≤ (i : Int) := by omega
        obtain ⟨ad, B0, d0, hA, p0, p1, e0, hC0⟩ := at_T37 HX.out.kr (i : Int) (by omega) (by have := HXL.out; omega)
        rw [hA] at x3_
        clear hA
        obtain ⟨ad2, B1, d1, hA, q0, q1, e1, hC1⟩ := at_T37 HT.out.kr (i : Int) (by omega) hlt
        rw [hA] at t3_
        clear hA
        have hsame := laws_FnEdtRow.rowAt tr at_ i hat (by omega)
        rw [if_neg hk, ← HXR.out] at hsame
        rw [hsame] at p0 p1 e0 hC0
        simp only [Int.toNat_natCast] at p0 p1 q0 q1
        obtain ⟨x, hx⟩ : ∃ x, rd_T37 tr (i : Int) = x := ⟨_, rfl⟩
        rw [hx] at p0 p1 q0 q1 hC0 hC1 e0 e1
        clear hx hsame
        have HSM := Aside0.mk (show laws_pwRow.f k x.f0 x.f1 x.f0 x.f1 = some true by unfold laws_pwRow.f; rw [if_pos ⟨rfl, rfl⟩])
        have HE0 := Aside0.mk e0
        have HE1 := Aside0.mk e1
        have hilt : i < tr.length := by omega
        have hxlt : i < xr.length := by have := HXL.out; omega
        clear e0 e1
        go_upto_region 18 with (fail)
        have FC := Aside0.mk (fun (v : Ext wr) => Kd.C_below hC0 v.below)
        have FD := Aside0.mk (fun (v : Ext wr) => Kd.C_below hC1 v.below)
        have xg2 := Ext.cell x3_
        have xh2 := Ext.cell t3_
        have xp0 := Ext.cell p0
        have xp1 := Ext.cell p1
        have xq0 := Ext.cell q0
        have xq1 := Ext.cell q1
        clear x3_ t3_ p0 p1 q0 q1 hC0 hC1
        refine region_ext (by kernel_rfl) (by kernel_rfl) ?_
        repeat (go_big_quiet_step (first | (go_at_call 10; exact Calls.ext (laws_pwRow.calls k B0 d0 x.f0 x.f1 B1 d1 x.f0 x.f1 true _ (FC.out _) HE0.out (FD.out _) HE1.out HSM.out))))
        refine wpQuiet_nil ?_
        rintro W8 ⟨⟨W9, hb3⟩, rfl⟩
        go_wp2
        go_roundg m
        case measure => omega
        case rel => exact ⟨m, i + 1, Nat.le_refl _, by omega, by go_num, ⟨HT.out.below hb3⟩, ⟨HX.out.below hb3⟩⟩


end Go.Proofs.YtaihfkjfbjcmhaaDoor.Q
