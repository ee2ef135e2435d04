-- Told by a program of this session (uprint.py, ulay.py).
import Derived.Test.YtpmbglbfoaejaabDoorQ0
import Derived.Test.YtpmbglbfoaejaabDoorReg
import Derived.Test.YtpmbglbfoaejaabDoorQimplin
import Derived.Test.YtpmbglbfoaejaabDoorQimplCellOk
import Derived.Test.YtpmbglbfoaejaabDoorQspecTblOk
import Derived.Test.YtpmbglbfoaejaabDoorQspecl20AnyTable
import Derived.Test.YtpmbglbfoaejaabDoorQimplEdtText
namespace Go.Proofs.YtpmbglbfoaejaabDoor.Q
open Go.RowKit Go.Proofs.YtpmbglbfoaejaabDoorW.PrintWords Go.Proofs.YtpmbglbfoaejaabDoorW.PrintLast Go.Proofs.YtpmbglbfoaejaabDoorW.PrintMore Go.Proofs.YtpmbglbfoaejaabDoor.Reg Go.Proofs.YtpmbglbfoaejaabDoor.Box
attribute [local go_sem] max2_int min2_int max_two min_two max_three min_three max_four min_four
set_option linter.unusedVariables false
set_option linter.unusedSimpArgs false

/-! ### laws_FnEdtText: function 3 (by hand) -/
/-- The law's last chain: no answer where it falls. -/
def laws_FnEdtText.fin (k : Nat) (tc : List S59) (th tf : Int) (tr : List S40) (tg : Int) (xc : List S59) (xh xf : Int) (xr : List S40) (xg : Int) (row at_ : Int) (s : ByteArray) : Option Bool :=
  if 0 ≤ row ∧ row < (tr.length : Int) ∧ 0 ≤ at_ ∧ at_ < ((rd_T40 tr row).f0.length : Int) then (impl_EdtText.f k xc xh xf xr xg row at_ (rd_T37 (rd_T40 tr row).f0 at_).f0).bind fun z => (impl_TblOk.f k xc xh xf xr xg).bind fun a =>
    if a = true ∧ row < (xr.length : Int) ∧ at_ < ((rd_T40 xr row).f0.length : Int) ∧ (rd_T37 (rd_T40 xr row).f0 at_).f0.data.toList = s.data.toList ∧ z.2.2.2.2.2 = true then (impl_GrdOf.f k xc xh xf xr xg).bind fun g => (impl_GrdOf.f k tc th tf tr tg).bind fun h => (laws_pwGrid.f k g.1 g.2.1 g.2.2 h.1 h.2.1 h.2.2).bind fun e => (laws_pwTable.f k z.1 z.2.1 z.2.2.1 z.2.2.2.1 z.2.2.2.2.1 tc th tf tr tg).bind fun e2 => if e = true then some e2 else none else none else none
def laws_FnEdtText.f (k : Nat) (l0 : List Int) : Option Bool :=
  if (l0.length : Int) > 1048576 then some true else (spec_DrawEdtText.f k l0).bind fun d => (impl_EdtText.f k d.1 d.2.1 d.2.2.1 d.2.2.2.1 d.2.2.2.2.1 d.2.2.2.2.2.1 d.2.2.2.2.2.2.1 d.2.2.2.2.2.2.2).bind fun x => (spec_EdtText.f k d.1 d.2.1 d.2.2.1 d.2.2.2.1 d.2.2.2.2.1 d.2.2.2.2.2.1 d.2.2.2.2.2.2.1 d.2.2.2.2.2.2.2).bind fun y =>
    if x.2.2.2.2.2 = y.2.2.2.2.2 then (laws_pwTable.f k x.1 x.2.1 x.2.2.1 x.2.2.2.1 x.2.2.2.2.1 y.1 y.2.1 y.2.2.1 y.2.2.2.1 y.2.2.2.2.1).bind fun e => (spec_TblOk.f k d.1 d.2.1 d.2.2.1 d.2.2.2.1 d.2.2.2.2.1).bind fun o => if e = true then (
      if o = true then (if x.2.2.2.2.2 = true then laws_FnEdtText.fin k d.1 d.2.1 d.2.2.1 d.2.2.2.1 d.2.2.2.2.1 x.1 x.2.1 x.2.2.1 x.2.2.2.1 x.2.2.2.2.1 d.2.2.2.2.2.1 d.2.2.2.2.2.2.1 d.2.2.2.2.2.2.2 else laws_pwTable.f k x.1 x.2.1 x.2.2.1 x.2.2.2.1 x.2.2.2.2.1 d.1 d.2.1 d.2.2.1 d.2.2.2.1 d.2.2.2.2.1)
      else (if x.2.2.2.2.2 = false then (laws_pwTable.f k x.1 x.2.1 x.2.2.1 x.2.2.2.1 x.2.2.2.2.1 [] 0 0 [] 0).bind fun e2 => if e2 = true then laws_pwOk.f else none else none)) else none else none
theorem laws_FnEdtText.parts {k : Nat} {l0 : List Int} {r : Bool} (hn : ¬ (l0.length : Int) > 1048576) (h : laws_FnEdtText.f k l0 = some r) :
    ∃ (tc : List S59) (th tf : Int) (tr : List S40) (tg : Int) (row at_ : Int) (s : ByteArray) (xc : List S59) (xh xf : Int) (xr : List S40) (xg : Int) (yc : List S59) (yh yf : Int) (yr : List S40) (yg : Int) (ok : Bool), Aside0 (spec_DrawEdtText.f k l0 = some (tc, th, tf, tr, tg, row, at_, s)) ∧ Aside0 (impl_EdtText.f k tc th tf tr tg row at_ s = some (xc, xh, xf, xr, xg, ok)) ∧ Aside0 (spec_EdtText.f k tc th tf tr tg row at_ s = some (yc, yh, yf, yr, yg, ok)) ∧ Aside0 (laws_pwTable.f k xc xh xf xr xg yc yh yf yr yg = some true) ∧
    ((Aside0 (spec_TblOk.f k tc th tf tr tg = some true) ∧ ok = true ∧ Aside0 (laws_FnEdtText.fin k tc th tf tr tg xc xh xf xr xg row at_ s = some r)) ∨ (Aside0 (spec_TblOk.f k tc th tf tr tg = some true) ∧ ok = false ∧ Aside0 (laws_pwTable.f k xc xh xf xr xg tc th tf tr tg = some r)) ∨
     (Aside0 (spec_TblOk.f k tc th tf tr tg = some false) ∧ ok = false ∧ Aside0 (laws_pwTable.f k xc xh xf xr xg [] 0 0 [] 0 = some true) ∧ Aside0 (laws_pwOk.f = some r))) := by
  unfold laws_FnEdtText.f at h
  rw [if_neg hn] at h
  obtain ⟨⟨tc, th, tf, tr, tg, row, at_, s⟩, h1, g1⟩ := Option.bind_eq_some_iff.1 h
  clear h
  obtain ⟨⟨xc, xh, xf, xr, xg, ok⟩, h2, g2⟩ := Option.bind_eq_some_iff.1 g1
  clear g1
  obtain ⟨⟨yc, yh, yf, yr, yg, ok2⟩, h3, g3⟩ := Option.bind_eq_some_iff.1 g2
  clear g2
  split at g3
  · rename_i e
    obtain rfl : ok = ok2 := e
    obtain ⟨e, h4, g4⟩ := Option.bind_eq_some_iff.1 g3
    clear g3
    obtain ⟨o, h5, g5⟩ := Option.bind_eq_some_iff.1 g4
    clear g4
    cases e
    · rw [if_neg (by decide)] at g5; cases g5
    rw [if_pos rfl] at g5
    refine ⟨tc, th, tf, tr, tg, row, at_, s, xc, xh, xf, xr, xg, yc, yh, yf, yr, yg, ok, ⟨h1⟩, ⟨h2⟩, ⟨h3⟩, ⟨h4⟩, ?_⟩
    cases o
    · rw [if_neg (by decide)] at g5
      split at g5
      · rename_i e
        obtain ⟨e2, h6, g6⟩ := Option.bind_eq_some_iff.1 g5
        cases e2
        · rw [if_neg (by decide)] at g6; cases g6
        rw [if_pos rfl] at g6
        exact .inr (.inr ⟨⟨h5⟩, e, ⟨h6⟩, ⟨g6⟩⟩)
      · cases g5
    · rw [if_pos rfl] at g5
      split at g5
      · rename_i e
        exact .inl ⟨⟨h5⟩, e, ⟨g5⟩⟩
      · rename_i e
        exact .inr (.inl ⟨⟨h5⟩, by simpa using e, ⟨g5⟩⟩)
  · cases g3
theorem laws_FnEdtText.parts2 {k : Nat} {tc : List S59} {th tf : Int} {tr : List S40} {tg : Int} {xc : List S59} {xh xf : Int} {xr : List S40} {xg : Int} {row at_ : Int} {s : ByteArray} {r : Bool} (h : laws_FnEdtText.fin k tc th tf tr tg xc xh xf xr xg row at_ s = some r) :
    (0 ≤ row ∧ row < (tr.length : Int) ∧ 0 ≤ at_ ∧ at_ < ((rd_T40 tr row).f0.length : Int)) ∧ ∃ (zc : List S59) (zh zf : Int) (zr : List S40) (zg : Int) (g1 g2 : Int) (g3 : List S68) (h1 h2 : Int) (h3 : List S68), Aside0 (impl_EdtText.f k xc xh xf xr xg row at_ (rd_T37 (rd_T40 tr row).f0 at_).f0 = some (zc, zh, zf, zr, zg, true)) ∧ Aside0 (impl_TblOk.f k xc xh xf xr xg = some true) ∧ (row < (xr.length : Int) ∧ at_ < ((rd_T40 xr row).f0.length : Int) ∧ (rd_T37 (rd_T40 xr row).f0 at_).f0 = s) ∧
      Aside0 (impl_GrdOf.f k xc xh xf xr xg = some (g1, g2, g3)) ∧ Aside0 (impl_GrdOf.f k tc th tf tr tg = some (h1, h2, h3)) ∧ Aside0 (laws_pwGrid.f k g1 g2 g3 h1 h2 h3 = some true) ∧ Aside0 (laws_pwTable.f k zc zh zf zr zg tc th tf tr tg = some r) := by
  unfold laws_FnEdtText.fin at h
  split at h
  · rename_i hb
    obtain ⟨⟨zc, zh, zf, zr, zg, ok⟩, h1, g1⟩ := Option.bind_eq_some_iff.1 h
    obtain ⟨a, h2, g2⟩ := Option.bind_eq_some_iff.1 g1
    split at g2
    · rename_i ha
      obtain ⟨ha1, ha2, ha3, ha4, ha5⟩ := ha
      obtain ⟨⟨p1, p2, p3⟩, h3, g3⟩ := Option.bind_eq_some_iff.1 g2
      obtain ⟨⟨q1, q2, q3⟩, h4, g4⟩ := Option.bind_eq_some_iff.1 g3
      obtain ⟨e, h5, g5⟩ := Option.bind_eq_some_iff.1 g4
      obtain ⟨e2, h6, g6⟩ := Option.bind_eq_some_iff.1 g5
      split at g6
      · rename_i he
        obtain rfl := Option.some.inj g6
        obtain rfl : ok = true := ha5
        subst ha1
        subst he
        refine ⟨hb, zc, zh, zf, zr, zg, p1, p2, p3, q1, q2, q3, ⟨h1⟩, ⟨h2⟩, ⟨ha2, ha3, ?_⟩, ⟨h3⟩, ⟨h4⟩, ⟨h5⟩, ⟨h6⟩⟩
        generalize (rd_T37 (rd_T40 xr row).f0 at_).f0 = u at ha4
        obtain ⟨⟨u⟩⟩ := u
        obtain ⟨⟨v⟩⟩ := s
        simp only at ha4
        rw [ha4]
      · cases g6
    · cases g2
  · cases h
structure laws_FnEdtText.Wd (w : World) (B : Nat) (pa : Array Value) (Ac Ar : Option Addr) (cs : List S59) (rs : List S40) (W : World) : Prop where
  bt : W.heap[B]? = some (.cells pa 26 (0, 0))
  kc : Kd.C k59 W Ac cs.length cs
  kr : Kd.C k40 W Ar rs.length rs
  bl : Below w.heap.size w W
theorem laws_FnEdtText.Wd.below {w W W' : World} {B : Nat} {pa : Array Value} {Ac Ar : Option Addr} {cs : List S59} {rs : List S40} (h : laws_FnEdtText.Wd w B pa Ac Ar cs rs W) (hb : Below W.heap.size W W') : laws_FnEdtText.Wd w B pa Ac Ar cs rs W' :=
  ⟨blk_below h.bt hb, Kd.C_below h.kc hb, Kd.C_below h.kr hb, below_step h.bl hb⟩
set_option maxHeartbeats 4000000 in
set_option maxRecDepth 100000 in
theorem laws_FnEdtText.calls (k : Nat) (A0 : Option Addr) (c0 : Nat) (l0 : List Int) (r : Bool) (w : World) (hr0 : Kd.C (Kd.int .u8) w A0 l0.length l0) (hc0 : l0.length ≤ c0) (hM : Txt.MLen w) (h : laws_FnEdtText.f k l0 = some r) :
    Calls Tryd.prog 3 #[.slice A0 l0.length c0] w fun e w' => e = .returned (.bool r) ∧ Below w.heap.size w w' := by
  have HM := Aside0.mk hM
  clear hM
  have HR := Aside0.mk hr0
  have HC := Aside0.mk hc0
  clear hr0 hc0
  have hu1 := Tryd.underlying26
  by_cases hbig : (l0.length : Int) > 1048576
  · have hf : r = true := by unfold laws_FnEdtText.f at h; rw [if_pos hbig] at h; exact (Option.some.inj h).symm
    subst hf
    clear h
    have b0 : decide (1048576 < (l0.length : Int)) = true := decide_eq_true hbig
    have b1 : decide (1048576 < l0.length) = true := decide_eq_true (by omega)
    clear hbig
    go_enter Tryd.func3, Tryd.ntmps3
    go_wp2
    go_ret
    exact ⟨rfl, by (repeat (with_reducible first | exact Below.refl _ _ | apply below_alloc | apply pw_below_drewN | apply below_drew1))⟩
  obtain ⟨tc, th, tf, tr, tg, row, at_, s, xc, xh, xf, xr, xg, yc, yh, yf, yr, yg, ok, A1, A2, A3, A4, hs⟩ := laws_FnEdtText.parts hbig h
  have b0 : decide (1048576 < (l0.length : Int)) = false := decide_eq_false hbig
  have b1 : decide (1048576 < l0.length) = false := decide_eq_false (by omega)
  clear hbig h
  have HS := Aside0.mk hs
  clear hs
  go_enter Tryd.func3, Tryd.ntmps3
  go_upto_region 4 with (go_at_call 4; (with_reducible refine (spec_DrawEdtText.calls k _ _ l0 tc th tf tr tg row at_ s _ (by repeat (first | exact HR.out | (with_reducible refine Kd.C_alloc ?_ _) | (with_reducible refine Kd.C_drewN ?_ _) | (with_reducible refine Kd.C_drew ?_))) HC.out A1.out).mono ?_); rintro e W1 ⟨v0, v3, rfl, hv0, hv3, hb⟩; obtain ⟨tA, ta, rfl⟩ := Kd.R_slice hv0; obtain ⟨tB, tb, rfl⟩ := Kd.R_slice (Kd.S_R hv3); have HKc := Aside0.mk (Kd.R_reads' hv0).2.2; have HLc := Aside0.mk (Kd.R_reads' hv0).2.1; have HKr := Aside0.mk (Kd.R_reads' (Kd.S_R hv3)).2.2; have HLr := Aside0.mk (Kd.R_reads' (Kd.S_R hv3)).2.1; have HB := Aside0.mk (below_step (by (repeat (with_reducible first | exact Below.refl _ _ | apply below_alloc | apply pw_below_drewN | apply below_drew1))) hb); clear hb hv0 hv3)
  refine wp_letter (fun W0 => laws_FnEdtText.Wd w W1.heap.size (l3A (.slice tA tc.length ta) (.slice tB tr.length tb) th tf tg) tA tB tc tr W0) ⟨blk_new W1 _, Kd.C_alloc HKc.out _, Kd.C_alloc HKr.out _, below_alloc HB.out _⟩ ?_
  rintro W2 hT
  generalize W1.heap.size = T at hT ⊢
  clear HKc HKr HB b0 b1
  have HT := Aside0.mk hT
  clear hT
  go_upto_region 5 with (first | (refine wpList_load_row rfl 26 _ rfl T rfl 26 (l3A (.slice tA tc.length ta) (.slice tB tr.length tb) th tf tg) (0, 0) _ HT.out.bt Tryd.underlying26 rfl (by kernel_rfl) ?_) | (go_at_call 5; (with_reducible refine (impl_EdtText.calls k tA ta tc th tf tB tb tr tg row at_ s xc xh xf xr xg ok _ HT.out.kc HLc.out HT.out.kr HLr.out (Txt.MLen_below HM.out HT.out.bl) A2.out).mono ?_); rintro e W3 ⟨v0, v3, rfl, hv0, hv3, hb⟩; obtain ⟨xA, xa, rfl⟩ := Kd.R_slice hv0; obtain ⟨xB, xb, rfl⟩ := Kd.R_slice (Kd.S_R hv3); have HKx := Aside0.mk (Kd.R_reads' hv0).2.2; have HLx := Aside0.mk (Kd.R_reads' hv0).2.1; have HKs := Aside0.mk (Kd.R_reads' (Kd.S_R hv3)).2.2; have HLs := Aside0.mk (Kd.R_reads' (Kd.S_R hv3)).2.1; replace HT := Aside0.mk (HT.out.below hb); clear hb hv0 hv3))
  refine wp_letter (fun W0 => laws_FnEdtText.Wd w T (l3A (.slice tA tc.length ta) (.slice tB tr.length tb) th tf tg) tA tB tc tr W0 ∧ laws_FnEdtText.Wd w W3.heap.size (l3A (.slice xA xc.length xa) (.slice xB xr.length xb) xh xf xg) xA xB xc xr W0) ⟨HT.out.below (below_alloc (Below.refl _ _) _), blk_new W3 _, Kd.C_alloc HKx.out _, Kd.C_alloc HKs.out _, below_alloc HT.out.bl _⟩ ?_
  rintro W4 ⟨hT, hX⟩
  generalize W3.heap.size = X at hX ⊢
  clear HT HKx HKs
  have HT := Aside0.mk hT
  have HX := Aside0.mk hX
  clear hT hX
  go_upto_region 6 with (first | (refine wpList_load_row rfl 26 _ rfl T rfl 26 (l3A (.slice tA tc.length ta) (.slice tB tr.length tb) th tf tg) (0, 0) _ HT.out.bt Tryd.underlying26 rfl (by kernel_rfl) ?_) | (go_at_call 6; (with_reducible refine (spec_EdtText.calls k tA ta tc th tf tB tb tr tg row at_ s yc yh yf yr yg ok _ HT.out.kc HLc.out HT.out.kr HLr.out A3.out).mono ?_); rintro e W5 ⟨v0, v3, rfl, hv0, hv3, hb⟩; obtain ⟨yA, ya, rfl⟩ := Kd.R_slice hv0; obtain ⟨yB, yb, rfl⟩ := Kd.R_slice (Kd.S_R hv3); have HKx := Aside0.mk (Kd.R_reads' hv0).2.2; have HLy := Aside0.mk (Kd.R_reads' hv0).2.1; have HKs := Aside0.mk (Kd.R_reads' (Kd.S_R hv3)).2.2; have HLz := Aside0.mk (Kd.R_reads' (Kd.S_R hv3)).2.1; replace HT := Aside0.mk (HT.out.below hb); replace HX := Aside0.mk (HX.out.below hb); clear hb hv0 hv3))
  refine wp_letter (fun W0 => laws_FnEdtText.Wd w T (l3A (.slice tA tc.length ta) (.slice tB tr.length tb) th tf tg) tA tB tc tr W0 ∧ laws_FnEdtText.Wd w X (l3A (.slice xA xc.length xa) (.slice xB xr.length xb) xh xf xg) xA xB xc xr W0 ∧ laws_FnEdtText.Wd w W5.heap.size (l3A (.slice yA yc.length ya) (.slice yB yr.length yb) yh yf yg) yA yB yc yr W0) ⟨HT.out.below (below_alloc (Below.refl _ _) _), HX.out.below (below_alloc (Below.refl _ _) _), blk_new W5 _, Kd.C_alloc HKx.out _, Kd.C_alloc HKs.out _, below_alloc HT.out.bl _⟩ ?_
  rintro W6 ⟨hT, hX, hY⟩
  generalize W5.heap.size = Y at hY ⊢
  clear HT HX HKx HKs
  have HT := Aside0.mk hT
  have HX := Aside0.mk hX
  have HY := Aside0.mk hY
  clear hT hX hY
  have x0_ : _ = some (Value.slice xA xc.length xa) := (blk_cell HX.out.bt 0).trans rfl
  have x1_ : _ = some (Value.int .i64 xh) := (blk_cell HX.out.bt 1).trans rfl
  have x2_ : _ = some (Value.int .i64 xf) := (blk_cell HX.out.bt 2).trans rfl
  have x3_ : _ = some (Value.slice xB xr.length xb) := (blk_cell HX.out.bt 3).trans rfl
  have x4_ : _ = some (Value.int .i64 xg) := (blk_cell HX.out.bt 4).trans rfl
  have y0_ : _ = some (Value.slice yA yc.length ya) := (blk_cell HY.out.bt 0).trans rfl
  have y1_ : _ = some (Value.int .i64 yh) := (blk_cell HY.out.bt 1).trans rfl
  have y2_ : _ = some (Value.int .i64 yf) := (blk_cell HY.out.bt 2).trans rfl
  have y3_ : _ = some (Value.slice yB yr.length yb) := (blk_cell HY.out.bt 3).trans rfl
  have y4_ : _ = some (Value.int .i64 yg) := (blk_cell HY.out.bt 4).trans rfl
  go_upto_region 8 with (go_at_call 7; (with_reducible refine (laws_pwTable.calls k xA xa xc xh xf xB xb xr xg yA ya yc yh yf yB yb yr yg true _ HX.out.kc HLx.out HX.out.kr HLs.out HY.out.kc HLy.out HY.out.kr HLz.out A4.out).mono ?_); rintro e W7 ⟨rfl, hb⟩; clear x0_ x1_ x2_ x3_ x4_ y0_ y1_ y2_ y3_ y4_; replace HT := Aside0.mk (HT.out.below hb); replace HX := Aside0.mk (HX.out.below hb); clear hb)
  clear HY HLy HLz A4 A3 A2 A1
  rcases HS.out with ⟨B1, rfl, B2⟩ | ⟨B1, rfl, B2⟩ | ⟨B1, rfl, B2, B3⟩
  rotate_left
  · clear HS
    go_wp2_with (first | (refine wpList_load_row rfl 26 _ rfl T rfl 26 (l3A (.slice tA tc.length ta) (.slice tB tr.length tb) th tf tg) (0, 0) _ HT.out.bt Tryd.underlying26 rfl (by kernel_rfl) ?_) | (refine wpList_load_row rfl 26 _ rfl X rfl 26 (l3A (.slice xA xc.length xa) (.slice xB xr.length xb) xh xf xg) (0, 0) _ HX.out.bt Tryd.underlying26 rfl (by kernel_rfl) ?_) | (go_at_call 8; (with_reducible refine (spec_TblOk.calls k tA ta tc th tf tB tb tr tg true _ HT.out.kc HLc.out HT.out.kr HLr.out B1.out).mono ?_); rintro e W8 ⟨rfl, hb⟩; replace HT := Aside0.mk (HT.out.below hb); replace HX := Aside0.mk (HX.out.below hb); clear hb) | (go_at_call 7; (with_reducible refine (laws_pwTable.calls k xA xa xc xh xf xB xb xr xg tA ta tc th tf tB tb tr tg r _ HX.out.kc HLx.out HX.out.kr HLs.out HT.out.kc HLc.out HT.out.kr HLr.out B2.out).mono ?_); rintro e W9 ⟨rfl, hb⟩; replace HT := Aside0.mk (HT.out.below hb); clear hb))
    go_ret
    exact ⟨rfl, HT.out.bl⟩
  · clear HS
    go_wp2_with (first | (refine wpList_load_row rfl 26 _ rfl T rfl 26 (l3A (.slice tA tc.length ta) (.slice tB tr.length tb) th tf tg) (0, 0) _ HT.out.bt Tryd.underlying26 rfl (by kernel_rfl) ?_) | (refine wpList_load_row rfl 26 _ rfl X rfl 26 (l3A (.slice xA xc.length xa) (.slice xB xr.length xb) xh xf xg) (0, 0) _ HX.out.bt Tryd.underlying26 rfl (by kernel_rfl) ?_) | (go_at_call 8; (with_reducible refine (spec_TblOk.calls k tA ta tc th tf tB tb tr tg false _ HT.out.kc HLc.out HT.out.kr HLr.out B1.out).mono ?_); rintro e W8 ⟨rfl, hb⟩; replace HT := Aside0.mk (HT.out.below hb); replace HX := Aside0.mk (HX.out.below hb); clear hb) | (go_at_call 7; (refine (laws_pwTable.calls k xA xa xc xh xf xB xb xr xg none 0 [] 0 0 none 0 [] 0 true _ HX.out.kc HLx.out HX.out.kr HLs.out ?n1 (Nat.le_refl _) ?n2 (Nat.le_refl _) B2.out).mono ?_); (case n1 => exact (Kd.R_reads' (Kd.R_nil k59 59 _ 0 (fun _ => True))).2.2); (case n2 => exact (Kd.R_reads' (Kd.R_nil k40 40 _ 0 (fun _ => True))).2.2); rintro e W9 ⟨rfl, hb⟩; replace HT := Aside0.mk (HT.out.below hb); clear hb) | (go_at_call 9; (with_reducible refine (laws_pwOk.calls r _ (Txt.MLen_below HM.out HT.out.bl) B3.out).mono ?_); rintro e W10 ⟨rfl, hb⟩; replace HT := Aside0.mk (HT.out.below hb); clear hb))
    go_ret
    exact ⟨rfl, HT.out.bl⟩
  obtain ⟨⟨hb1, hb2, hb3, hb4⟩, zc, zh, zf, zr, zg, g1, g2, g3, h1, h2, h3, C1, C2, ⟨hx1, hx2, hx3⟩, C3, C4, C5, C6⟩ := laws_FnEdtText.parts2 B2.out
  clear HS B2
  go_upto_region 12 with (first | (refine wpList_load_row rfl 26 _ rfl T rfl 26 (l3A (.slice tA tc.length ta) (.slice tB tr.length tb) th tf tg) (0, 0) _ HT.out.bt Tryd.underlying26 rfl (by kernel_rfl) ?_) | (go_at_call 8; (with_reducible refine (spec_TblOk.calls k tA ta tc th tf tB tb tr tg true _ HT.out.kc HLc.out HT.out.kr HLr.out B1.out).mono ?_); rintro e W8 ⟨rfl, hb⟩; replace HT := Aside0.mk (HT.out.below hb); replace HX := Aside0.mk (HX.out.below hb); clear hb))
  clear B1
  obtain ⟨ad, B', c', hA, q0, q1, hle, hC⟩ := at_T40 HT.out.kr row hb1 hb2
  obtain ⟨ad2, hA2, z0, _, _, _, _, _, _, _, _, _, _⟩ := at_T37 hC at_ hb3 hb4
  rw [hA2] at q0
  have x0_ : _ = some (Value.slice xA xc.length xa) := (blk_cell HX.out.bt 0).trans rfl
  have x1_ : _ = some (Value.int .i64 xh) := (blk_cell HX.out.bt 1).trans rfl
  have x2_ : _ = some (Value.int .i64 xf) := (blk_cell HX.out.bt 2).trans rfl
  have x3_ : _ = some (Value.slice xB xr.length xb) := (blk_cell HX.out.bt 3).trans rfl
  have x4_ : _ = some (Value.int .i64 xg) := (blk_cell HX.out.bt 4).trans rfl
  have t3_ : _ = some (Value.slice tB tr.length tb) := (blk_cell HT.out.bt 3).trans rfl
  rw [hA] at t3_
  clear hA hA2 q1 hle hC
  have hrow : row < (tr.length : Int) := hb2
  go_cut [11, 12] (fun s11 s12 wx => ∃ (Z : Nat) (zA zB : Option Addr) (za zb : Nat), s11 = .pointer (some ⟨Z, 0, none⟩) ∧ s12 = .bool true ∧ Aside0 (laws_FnEdtText.Wd w T (l3A (.slice tA tc.length ta) (.slice tB tr.length tb) th tf tg) tA tB tc tr wx ∧ laws_FnEdtText.Wd w X (l3A (.slice xA xc.length xa) (.slice xB xr.length xb) xh xf xg) xA xB xc xr wx ∧ laws_FnEdtText.Wd w Z (l3A (.slice zA zc.length za) (.slice zB zr.length zb) zh zf zg) zA zB zc zr wx ∧ zc.length ≤ za ∧ zr.length ≤ zb))
  case first =>
    go_region_held3 (fun w' => w'.cell? ⟨X, 0, none⟩ = some (.slice xA xc.length xa) ∧ w'.cell? ⟨X, 1, none⟩ = some (.int .i64 xh) ∧ w'.cell? ⟨X, 2, none⟩ = some (.int .i64 xf) ∧ w'.cell? ⟨X, 3, none⟩ = some (.slice xB xr.length xb) ∧ w'.cell? ⟨X, 4, none⟩ = some (.int .i64 xg) ∧ w'.cell? ⟨T, 3, none⟩ = some (.slice (some ad) tr.length tb) ∧ w'.cell? (ad.add (row.toNat * 2)) = some (.slice (some ad2) (rd_T40 tr row).f0.length c') ∧ w'.cell? (ad2.add (at_.toNat * 11)) = some (.string (rd_T37 (rd_T40 tr row).f0 at_).f0)) ((repeat' apply And.intro) <;> exact keepc (W := W8) (by assumption) (by repeat (with_reducible first | exact Below.refl _ _ | apply below_alloc | apply pw_below_drewN | apply below_drew1 | (refine below_set ?_ (by first | exact hb10.size | simp)) | refine below_step ?_ hb10))) (first | (go_at_call 5; (with_reducible refine (impl_EdtText.calls k xA xa xc xh xf xB xb xr xg row at_ (rd_T37 (rd_T40 tr row).f0 at_).f0 zc zh zf zr zg true _ ?n1 HLx.out ?n2 HLs.out ?n3 C1.out).mono ?_); (case n1 => exact Kd.C_below HX.out.kc (by repeat (with_reducible first | exact Below.refl _ _ | apply below_alloc | apply pw_below_drewN | apply below_drew1))); (case n2 => exact Kd.C_below HX.out.kr (by repeat (with_reducible first | exact Below.refl _ _ | apply below_alloc | apply pw_below_drewN | apply below_drew1))); (case n3 => exact Txt.MLen_below HM.out (below_step HX.out.bl (by repeat (with_reducible first | exact Below.refl _ _ | apply below_alloc | apply pw_below_drewN | apply below_drew1)))); rintro e W10 ⟨v0, v3, rfl, hv0, hv3, hb10⟩; obtain ⟨zA, za, rfl⟩ := Kd.R_slice hv0; obtain ⟨zB, zb, rfl⟩ := Kd.R_slice (Kd.S_R hv3); have HLz := Aside0.mk (Kd.R_reads' hv0).2.1; have HLw := Aside0.mk (Kd.R_reads' (Kd.S_R hv3)).2.1; have HV0 := Aside0.mk (R_from hv0); have HV3 := Aside0.mk (R_from (Kd.S_R hv3)); clear hv0 hv3; (try (have hz10 : W10.heap[W8.heap.size]? = some (.cells (l3A (.slice none 0 0) (.slice none 0 0) 0 0 0) 26 (0, 0)) := blk_below (first_block W8 _ _ (by rfl)) hb10; have zc0 : W10.cell? ⟨W8.heap.size, 0, none⟩ = some (.slice none 0 0) := (blk_cell hz10 0).trans rfl; have zc1 : W10.cell? ⟨W8.heap.size, 1, none⟩ = some (.int .i64 0) := (blk_cell hz10 1).trans rfl; have zc2 : W10.cell? ⟨W8.heap.size, 2, none⟩ = some (.int .i64 0) := (blk_cell hz10 2).trans rfl; have zc3 : W10.cell? ⟨W8.heap.size, 3, none⟩ = some (.slice none 0 0) := (blk_cell hz10 3).trans rfl; have zc4 : W10.cell? ⟨W8.heap.size, 4, none⟩ = some (.int .i64 0) := (blk_cell hz10 4).trans rfl; have zf0 := blk_frozen hz10 0; have zf1 := blk_frozen hz10 1; have zf2 := blk_frozen hz10 2; have zf3 := blk_frozen hz10 3; have zf4 := blk_frozen hz10 4))))
    · go_wp2
      go_meet
      have hbx : Below W8.heap.size W8 (W10.alloc (.cells (l3A (.slice zA zc.length za) (.slice zB zr.length zb) zh zf zg) 26)) := by repeat (with_reducible first | exact Below.refl _ _ | apply below_alloc | apply pw_below_drewN | apply below_drew1 | refine below_step ?_ hb10)
      exact ⟨W10.heap.size, zA, zB, za, zb, rfl, rfl, ⟨HT.out.below hbx, HX.out.below hbx, ⟨blk_new W10 _, Kd.C_alloc (Kd.R_reads' HV0.out).2.2 _, Kd.C_alloc (Kd.R_reads' HV3.out).2.2 _, below_step HT.out.bl hbx⟩, HLz.out, HLw.out⟩⟩
    · go_wp2
      go_meet
      have hbx : Below W8.heap.size W8 (((((W10.setCell ⟨W8.heap.size, 0, none⟩ (.slice zA zc.length za)).setCell ⟨W8.heap.size, 1, none⟩ (.int .i64 zh)).setCell ⟨W8.heap.size, 2, none⟩ (.int .i64 zf)).setCell ⟨W8.heap.size, 3, none⟩ (.slice zB zr.length zb)).setCell ⟨W8.heap.size, 4, none⟩ (.int .i64 zg)) := by repeat (with_reducible first | exact Below.refl _ _ | apply below_alloc | apply pw_below_drewN | apply below_drew1 | (refine below_set ?_ (Nat.le_refl _)) | refine below_step ?_ hb10)
      exact ⟨W8.heap.size, zA, zB, za, zb, rfl, rfl, ⟨HT.out.below hbx, HX.out.below hbx, ⟨blk_put (blk_put (blk_put (blk_put (blk_put hz10 0 (.slice zA zc.length za) rfl) 1 (.int .i64 zh) rfl) 2 (.int .i64 zf) rfl) 3 (.slice zB zr.length zb) rfl) 4 (.int .i64 zg) rfl, (Kd.R_reads' (Kd.R_far (p := ⟨W8.heap.size, 4, none⟩) (Kd.R_far (p := ⟨W8.heap.size, 3, none⟩) (Kd.R_far (p := ⟨W8.heap.size, 2, none⟩) (Kd.R_far (p := ⟨W8.heap.size, 1, none⟩) (Kd.R_far (p := ⟨W8.heap.size, 0, none⟩) HV0.out (fun k hk => by have h := hk.2; simp at h; show k ≠ W8.heap.size; omega) _) (fun k hk => by have h := hk.2; simp at h; show k ≠ W8.heap.size; omega) _) (fun k hk => by have h := hk.2; simp at h; show k ≠ W8.heap.size; omega) _) (fun k hk => by have h := hk.2; simp at h; show k ≠ W8.heap.size; omega) _) (fun k hk => by have h := hk.2; simp at h; show k ≠ W8.heap.size; omega) _)).2.2, (Kd.R_reads' (Kd.R_far (p := ⟨W8.heap.size, 4, none⟩) (Kd.R_far (p := ⟨W8.heap.size, 3, none⟩) (Kd.R_far (p := ⟨W8.heap.size, 2, none⟩) (Kd.R_far (p := ⟨W8.heap.size, 1, none⟩) (Kd.R_far (p := ⟨W8.heap.size, 0, none⟩) HV3.out (fun k hk => by have h := hk.2; simp at h; show k ≠ W8.heap.size; omega) _) (fun k hk => by have h := hk.2; simp at h; show k ≠ W8.heap.size; omega) _) (fun k hk => by have h := hk.2; simp at h; show k ≠ W8.heap.size; omega) _) (fun k hk => by have h := hk.2; simp at h; show k ≠ W8.heap.size; omega) _) (fun k hk => by have h := hk.2; simp at h; show k ≠ W8.heap.size; omega) _)).2.2, below_step HT.out.bl hbx⟩, HLz.out, HLw.out⟩⟩
  case rest =>
    obtain ⟨Z, zA, zB, za, zb, rfl, rfl, hcw⟩ := hcut
    obtain ⟨hT, hX, hZ, hlz, hlw⟩ := hcw.out
    clear hcw HT HX q0 z0 x0_ x1_ x2_ x3_ x4_ t3_
    have HT := Aside0.mk hT
    have HX := Aside0.mk hX
    have HZ := Aside0.mk hZ
    have HLz := Aside0.mk hlz
    have HLw := Aside0.mk hlw
    clear hT hX hZ hlz hlw
    obtain ⟨ae, D', d', hA, q0, q1, hle, hC⟩ := at_T40 HX.out.kr row hb1 hx1
    obtain ⟨ae2, hA2, z0, _, _, _, _, _, _, _, _, _, _⟩ := at_T37 hC at_ hb3 hx2
    rw [hA2] at q0
    rw [hx3] at z0
    have x0_ : _ = some (Value.slice xA xc.length xa) := (blk_cell HX.out.bt 0).trans rfl
    have x1_ : _ = some (Value.int .i64 xh) := (blk_cell HX.out.bt 1).trans rfl
    have x2_ : _ = some (Value.int .i64 xf) := (blk_cell HX.out.bt 2).trans rfl
    have x3_ : _ = some (Value.slice xB xr.length xb) := (blk_cell HX.out.bt 3).trans rfl
    have x4_ : _ = some (Value.int .i64 xg) := (blk_cell HX.out.bt 4).trans rfl
    have t0_ : _ = some (Value.slice tA tc.length ta) := (blk_cell HT.out.bt 0).trans rfl
    have t1_ : _ = some (Value.int .i64 th) := (blk_cell HT.out.bt 1).trans rfl
    have t2_ : _ = some (Value.int .i64 tf) := (blk_cell HT.out.bt 2).trans rfl
    have t3_ : _ = some (Value.slice tB tr.length tb) := (blk_cell HT.out.bt 3).trans rfl
    have t4_ : _ = some (Value.int .i64 tg) := (blk_cell HT.out.bt 4).trans rfl
    have z0_ : _ = some (Value.slice zA zc.length za) := (blk_cell HZ.out.bt 0).trans rfl
    have z1_ : _ = some (Value.int .i64 zh) := (blk_cell HZ.out.bt 1).trans rfl
    have z2_ : _ = some (Value.int .i64 zf) := (blk_cell HZ.out.bt 2).trans rfl
    have z3_ : _ = some (Value.slice zB zr.length zb) := (blk_cell HZ.out.bt 3).trans rfl
    have z4_ : _ = some (Value.int .i64 zg) := (blk_cell HZ.out.bt 4).trans rfl
    rw [hA] at x3_
    have HAE := Aside0.mk hA
    clear hA hA2 q1 hle hC
    have hrow2 : row < (xr.length : Int) := hx1
    go_upto_region 13 with (fail)
    go_region_held3 (fun w' => w'.cell? ⟨X, 0, none⟩ = some (.slice xA xc.length xa) ∧ w'.cell? ⟨X, 1, none⟩ = some (.int .i64 xh) ∧ w'.cell? ⟨X, 2, none⟩ = some (.int .i64 xf) ∧ w'.cell? ⟨X, 3, none⟩ = some (.slice (some ae) xr.length xb) ∧ w'.cell? ⟨X, 4, none⟩ = some (.int .i64 xg) ∧ w'.cell? ⟨T, 0, none⟩ = some (.slice tA tc.length ta) ∧ w'.cell? ⟨T, 1, none⟩ = some (.int .i64 th) ∧ w'.cell? ⟨T, 2, none⟩ = some (.int .i64 tf) ∧ w'.cell? ⟨T, 3, none⟩ = some (.slice tB tr.length tb) ∧ w'.cell? ⟨T, 4, none⟩ = some (.int .i64 tg) ∧ w'.cell? ⟨Z, 0, none⟩ = some (.slice zA zc.length za) ∧ w'.cell? ⟨Z, 1, none⟩ = some (.int .i64 zh) ∧ w'.cell? ⟨Z, 2, none⟩ = some (.int .i64 zf) ∧ w'.cell? ⟨Z, 3, none⟩ = some (.slice zB zr.length zb) ∧ w'.cell? ⟨Z, 4, none⟩ = some (.int .i64 zg) ∧ w'.cell? (ae.add (row.toNat * 2)) = some (.slice (some ae2) (rd_T40 xr row).f0.length d') ∧ w'.cell? (ae2.add (at_.toNat * 11)) = some (.string s)) ((repeat' apply And.intro) <;> exact keepc (W := wc) (by assumption) (by repeat (with_reducible first | exact Below.refl _ _ | apply below_alloc | apply pw_below_drewN | apply below_drew1 | refine below_step ?_ hbE | refine below_step ?_ hbD | refine below_step ?_ hbC | refine below_step ?_ hbB | refine below_step ?_ hbA))) (first | (go_at_call 10; (with_reducible refine (impl_TblOk.calls k xA xa xc xh xf (some ae) xb xr xg true _ (Kd.C_below HX.out.kc (by repeat (with_reducible first | exact Below.refl _ _ | apply below_alloc | apply pw_below_drewN | apply below_drew1 | refine below_step ?_ hbE | refine below_step ?_ hbD | refine below_step ?_ hbC | refine below_step ?_ hbB | refine below_step ?_ hbA))) HLx.out (HAE.out ▸ (Kd.C_below HX.out.kr (by repeat (with_reducible first | exact Below.refl _ _ | apply below_alloc | apply pw_below_drewN | apply below_drew1 | refine below_step ?_ hbE | refine below_step ?_ hbD | refine below_step ?_ hbC | refine below_step ?_ hbB | refine below_step ?_ hbA)))) HLs.out (Txt.MLen_below HM.out (below_step HT.out.bl (by repeat (with_reducible first | exact Below.refl _ _ | apply below_alloc | apply pw_below_drewN | apply below_drew1 | refine below_step ?_ hbE | refine below_step ?_ hbD | refine below_step ?_ hbC | refine below_step ?_ hbB | refine below_step ?_ hbA)))) C2.out).mono ?_); rintro e WA ⟨rfl, hbA⟩) | (go_at_call 12; (with_reducible refine (impl_GrdOf.calls k xA xa xc xh xf (some ae) xb xr xg g1 g2 g3 _ (Kd.C_below HX.out.kc (by repeat (with_reducible first | exact Below.refl _ _ | apply below_alloc | apply pw_below_drewN | apply below_drew1 | refine below_step ?_ hbE | refine below_step ?_ hbD | refine below_step ?_ hbC | refine below_step ?_ hbB | refine below_step ?_ hbA))) HLx.out (HAE.out ▸ (Kd.C_below HX.out.kr (by repeat (with_reducible first | exact Below.refl _ _ | apply below_alloc | apply pw_below_drewN | apply below_drew1 | refine below_step ?_ hbE | refine below_step ?_ hbD | refine below_step ?_ hbC | refine below_step ?_ hbB | refine below_step ?_ hbA)))) HLs.out (Txt.MLen_below HM.out (below_step HT.out.bl (by repeat (with_reducible first | exact Below.refl _ _ | apply below_alloc | apply pw_below_drewN | apply below_drew1 | refine below_step ?_ hbE | refine below_step ?_ hbD | refine below_step ?_ hbC | refine below_step ?_ hbB | refine below_step ?_ hbA)))) C3.out).mono ?_); rintro e WB ⟨v0, rfl, hv0, hbB⟩; obtain ⟨gA, ga, rfl⟩ := Kd.R_slice hv0; have HKg := Aside0.mk (Kd.R_reads' hv0).2.2; have HLg := Aside0.mk (Kd.R_reads' hv0).2.1; clear hv0) | (go_at_call 12; (with_reducible refine (impl_GrdOf.calls k tA ta tc th tf tB tb tr tg h1 h2 h3 _ (Kd.C_below HT.out.kc (by repeat (with_reducible first | exact Below.refl _ _ | apply below_alloc | apply pw_below_drewN | apply below_drew1 | refine below_step ?_ hbE | refine below_step ?_ hbD | refine below_step ?_ hbC | refine below_step ?_ hbB | refine below_step ?_ hbA))) HLc.out (Kd.C_below HT.out.kr (by repeat (with_reducible first | exact Below.refl _ _ | apply below_alloc | apply pw_below_drewN | apply below_drew1 | refine below_step ?_ hbE | refine below_step ?_ hbD | refine below_step ?_ hbC | refine below_step ?_ hbB | refine below_step ?_ hbA))) HLr.out (Txt.MLen_below HM.out (below_step HT.out.bl (by repeat (with_reducible first | exact Below.refl _ _ | apply below_alloc | apply pw_below_drewN | apply below_drew1 | refine below_step ?_ hbE | refine below_step ?_ hbD | refine below_step ?_ hbC | refine below_step ?_ hbB | refine below_step ?_ hbA)))) C4.out).mono ?_); rintro e WC ⟨v0, rfl, hv0, hbC⟩; obtain ⟨hA, ha, rfl⟩ := Kd.R_slice hv0; have HKh := Aside0.mk (Kd.R_reads' hv0).2.2; have HLh := Aside0.mk (Kd.R_reads' hv0).2.1; clear hv0) | (go_at_call 11; (with_reducible refine (laws_pwGrid.calls k g1 g2 gA ga g3 h1 h2 hA ha h3 true _ (Kd.C_below HKg.out (by repeat (with_reducible first | exact Below.refl _ _ | apply pw_below_drewN | apply below_drew1 | refine below_step ?_ hbC))) HLg.out (Kd.C_below HKh.out (by repeat (with_reducible first | exact Below.refl _ _ | apply pw_below_drewN | apply below_drew1))) HLh.out C5.out).mono ?_); rintro e WD_ ⟨rfl, hbD⟩) | (go_at_call 7; (with_reducible refine (laws_pwTable.calls k zA za zc zh zf zB zb zr zg tA ta tc th tf tB tb tr tg r _ (Kd.C_below HZ.out.kc (by repeat (with_reducible first | exact Below.refl _ _ | apply below_alloc | apply pw_below_drewN | apply below_drew1 | refine below_step ?_ hbE | refine below_step ?_ hbD | refine below_step ?_ hbC | refine below_step ?_ hbB | refine below_step ?_ hbA))) HLz.out (Kd.C_below HZ.out.kr (by repeat (with_reducible first | exact Below.refl _ _ | apply below_alloc | apply pw_below_drewN | apply below_drew1 | refine below_step ?_ hbE | refine below_step ?_ hbD | refine below_step ?_ hbC | refine below_step ?_ hbB | refine below_step ?_ hbA))) HLw.out (Kd.C_below HT.out.kc (by repeat (with_reducible first | exact Below.refl _ _ | apply below_alloc | apply pw_below_drewN | apply below_drew1 | refine below_step ?_ hbE | refine below_step ?_ hbD | refine below_step ?_ hbC | refine below_step ?_ hbB | refine below_step ?_ hbA))) HLc.out (Kd.C_below HT.out.kr (by repeat (with_reducible first | exact Below.refl _ _ | apply below_alloc | apply pw_below_drewN | apply below_drew1 | refine below_step ?_ hbE | refine below_step ?_ hbD | refine below_step ?_ hbC | refine below_step ?_ hbB | refine below_step ?_ hbA))) HLr.out C6.out).mono ?_); rintro e WE ⟨rfl, hbE⟩))
    go_wp2
    go_ret
    exact ⟨rfl, below_step HT.out.bl (by repeat (with_reducible first | exact Below.refl _ _ | apply below_alloc | apply pw_below_drewN | apply below_drew1 | refine below_step ?_ hbE | refine below_step ?_ hbD | refine below_step ?_ hbC | refine below_step ?_ hbB | refine below_step ?_ hbA))⟩
def laws_FnEdtText.Pure : Prop := ∀ (l0 : List Int), l0.length ≤ maxLen → l0.length * 1 ≤ 140737488351232 → (∀ x ∈ l0, (Lit.int .u8 x).wf = true) → ∃ k, laws_FnEdtText.f k l0 = some true


end Go.Proofs.YtpmbglbfoaejaabDoor.Q
