-- Told by a program of this session (uprint.py, ulay.py).
import Derived.Test.YtaihfkjfbjcmhabDoorQ0
import Derived.Test.YtaihfkjfbjcmhabDoorQimplin
import Derived.Test.YtaihfkjfbjcmhabDoorQspecTblOk
import Derived.Test.YtaihfkjfbjcmhabDoorQimplTxtOk
import Derived.Test.YtaihfkjfbjcmhabDoorQimplTblOk
import Derived.Test.YtaihfkjfbjcmhabDoorQspecDrawEdtPut
import Derived.Test.YtaihfkjfbjcmhabDoorQlawspwRow
namespace Go.Proofs.YtaihfkjfbjcmhabDoor.Q
open Go.RowKit Go.Proofs.YtaihfkjfbjcmhabDoorW.PrintWords Go.Proofs.YtaihfkjfbjcmhabDoorW.PrintLast Go.Proofs.YtaihfkjfbjcmhabDoorW.PrintMore
attribute [local go_sem] max2_int min2_int max_two min_two max_three min_three max_four min_four
set_option linter.unusedVariables false
set_option linter.unusedSimpArgs false

/-! ### laws_FnEdtPut: function 3 (by hand) -/
/-- A drawn cell, of its parts. -/
def laws_FnEdtPut.cel (d : ByteArray × Int × Int × Int × Int × Int × Int × Int × Int × Int × Int) : S30 := ⟨d.1, d.2.1, d.2.2.1, ⟨d.2.2.2.1, d.2.2.2.2.1⟩, ⟨d.2.2.2.2.2.1, d.2.2.2.2.2.2.1⟩, ⟨d.2.2.2.2.2.2.2.1, d.2.2.2.2.2.2.2.2.1⟩, ⟨d.2.2.2.2.2.2.2.2.2.1, d.2.2.2.2.2.2.2.2.2.2⟩⟩
/-- The law's last chain: no answer where it falls. -/
def laws_FnEdtPut.fin (k : Nat) (tc : List S57) (th tf : Int) (tr : List S42) (tg : Int) (xc : List S57) (xh xf : Int) (xr : List S42) (xg : Int) (row at_ : Int) (c : S30) : Option Bool :=
  if (0 ≤ row ∧ row < (xr.length : Int) ∧ 0 ≤ at_ ∧ at_ < ((rd_T42 xr row).f0.length : Int)) ∧ laws_pwRow.tup (rd_T30 (rd_T42 xr row).f0 at_) = laws_pwRow.tup c then (impl_EdtTake.f k xc xh xf xr xg row at_).bind fun z => (impl_TblOk.f k xc xh xf xr xg).bind fun a => (impl_TblCells.f k xc xh xf xr xg).bind fun n => (impl_TblCells.f k tc th tf tr tg).bind fun m => (laws_pwTable.f k z.1 z.2.1 z.2.2.1 z.2.2.2.1 z.2.2.2.2.1 tc th tf tr tg).bind fun e =>
    if a = true ∧ n = m + 1 ∧ 0 ≤ m ∧ m < 1000000 ∧ z.2.2.2.2.2 = true then some e else none else none
def laws_FnEdtPut.f (k : Nat) (l0 : List Int) : Option Bool :=
  if (l0.length : Int) > 1048576 then some true else (spec_DrawEdtPut.f k l0).bind fun d => (impl_EdtPut.f k d.1 d.2.1 d.2.2.1 d.2.2.2.1 d.2.2.2.2.1 d.2.2.2.2.2.1 d.2.2.2.2.2.2.1 (laws_FnEdtPut.cel d.2.2.2.2.2.2.2)).bind fun x => (spec_EdtPut.f k d.1 d.2.1 d.2.2.1 d.2.2.2.1 d.2.2.2.2.1 d.2.2.2.2.2.1 d.2.2.2.2.2.2.1 (laws_FnEdtPut.cel d.2.2.2.2.2.2.2)).bind fun y =>
    if x.2.2.2.2.2 = y.2.2.2.2.2 then (laws_pwTable.f k x.1 x.2.1 x.2.2.1 x.2.2.2.1 x.2.2.2.2.1 y.1 y.2.1 y.2.2.1 y.2.2.2.1 y.2.2.2.2.1).bind fun e => (spec_TblOk.f k d.1 d.2.1 d.2.2.1 d.2.2.2.1 d.2.2.2.2.1).bind fun o => if e = true then (
      if o = true then (if x.2.2.2.2.2 = true then laws_FnEdtPut.fin k d.1 d.2.1 d.2.2.1 d.2.2.2.1 d.2.2.2.2.1 x.1 x.2.1 x.2.2.1 x.2.2.2.1 x.2.2.2.2.1 d.2.2.2.2.2.1 d.2.2.2.2.2.2.1 (laws_FnEdtPut.cel d.2.2.2.2.2.2.2) else laws_pwTable.f k x.1 x.2.1 x.2.2.1 x.2.2.2.1 x.2.2.2.2.1 d.1 d.2.1 d.2.2.1 d.2.2.2.1 d.2.2.2.2.1)
      else (if x.2.2.2.2.2 = false then (laws_pwTable.f k x.1 x.2.1 x.2.2.1 x.2.2.2.1 x.2.2.2.2.1 [] 0 0 [] 0).bind fun e2 => if e2 = true then laws_pwOk.f else none else none)) else none else none
theorem laws_FnEdtPut.parts {k : Nat} {l0 : List Int} {r : Bool} (hn : ¬ (l0.length : Int) > 1048576) (h : laws_FnEdtPut.f k l0 = some r) :
    ∃ (tc : List S57) (th tf : Int) (tr : List S42) (tg : Int) (row at_ : Int) (c : S30) (xc : List S57) (xh xf : Int) (xr : List S42) (xg : Int) (yc : List S57) (yh yf : Int) (yr : List S42) (yg : Int) (ok : Bool), Aside0 (spec_DrawEdtPut.f k l0 = some (tc, th, tf, tr, tg, row, at_, c.f0, c.f1, c.f2, c.f3.f0, c.f3.f1, c.f4.f0, c.f4.f1, c.f5.f0, c.f5.f1, c.f6.f0, c.f6.f1)) ∧ Aside0 (impl_EdtPut.f k tc th tf tr tg row at_ c = some (xc, xh, xf, xr, xg, ok)) ∧ Aside0 (spec_EdtPut.f k tc th tf tr tg row at_ c = some (yc, yh, yf, yr, yg, ok)) ∧ Aside0 (laws_pwTable.f k xc xh xf xr xg yc yh yf yr yg = some true) ∧
    ((Aside0 (spec_TblOk.f k tc th tf tr tg = some true) ∧ ok = true ∧ Aside0 (laws_FnEdtPut.fin k tc th tf tr tg xc xh xf xr xg row at_ c = some r)) ∨ (Aside0 (spec_TblOk.f k tc th tf tr tg = some true) ∧ ok = false ∧ Aside0 (laws_pwTable.f k xc xh xf xr xg tc th tf tr tg = some r)) ∨
     (Aside0 (spec_TblOk.f k tc th tf tr tg = some false) ∧ ok = false ∧ Aside0 (laws_pwTable.f k xc xh xf xr xg [] 0 0 [] 0 = some true) ∧ Aside0 (laws_pwOk.f = some r))) := by
  unfold laws_FnEdtPut.f at h
  rw [if_neg hn] at h
  obtain ⟨⟨tc, th, tf, tr, tg, row, at_, c0, c1, c2, c3, c4, c5, c6, c7, c8, c9, c10⟩, h1, g1⟩ := Option.bind_eq_some_iff.1 h
  clear h
  obtain ⟨⟨xc, xh, xf, xr, xg, ok⟩, h2, g2⟩ := Option.bind_eq_some_iff.1 g1
  clear g1
  obtain ⟨⟨yc, yh, yf, yr, yg, ok2⟩, h3, g3⟩ := Option.bind_eq_some_iff.1 g2
  clear g2
  split at g3
  · rename_i e
    obtain rfl : ok = ok2 := e
    obtain ⟨e, h4, g4⟩ := Option.bind_eq_some_iff.1 g3
    clear g3
    obtain ⟨o, h5, g5⟩ := Option.bind_eq_some_iff.1 g4
    clear g4
    cases e
    · rw [if_neg (by decide)] at g5; cases g5
    rw [if_pos rfl] at g5
    refine ⟨tc, th, tf, tr, tg, row, at_, ⟨c0, c1, c2, ⟨c3, c4⟩, ⟨c5, c6⟩, ⟨c7, c8⟩, ⟨c9, c10⟩⟩, xc, xh, xf, xr, xg, yc, yh, yf, yr, yg, ok, ⟨h1⟩, ⟨h2⟩, ⟨h3⟩, ⟨h4⟩, ?_⟩
    cases o
    · rw [if_neg (by decide)] at g5
      split at g5
      · rename_i e
        obtain ⟨e2, h6, g6⟩ := Option.bind_eq_some_iff.1 g5
        cases e2
        · rw [if_neg (by decide)] at g6; cases g6
        rw [if_pos rfl] at g6
        exact .inr (.inr ⟨⟨h5⟩, e, ⟨h6⟩, ⟨g6⟩⟩)
      · cases g5
    · rw [if_pos rfl] at g5
      split at g5
      · rename_i e
        exact .inl ⟨⟨h5⟩, e, ⟨g5⟩⟩
      · rename_i e
        exact .inr (.inl ⟨⟨h5⟩, by simpa using e, ⟨g5⟩⟩)
  · cases g3
theorem laws_FnEdtPut.parts2 {k : Nat} {tc : List S57} {th tf : Int} {tr : List S42} {tg : Int} {xc : List S57} {xh xf : Int} {xr : List S42} {xg : Int} {row at_ : Int} {c : S30} {r : Bool} (h : laws_FnEdtPut.fin k tc th tf tr tg xc xh xf xr xg row at_ c = some r) :
    (0 ≤ row ∧ row < (xr.length : Int) ∧ 0 ≤ at_ ∧ at_ < ((rd_T42 xr row).f0.length : Int)) ∧ (rd_T30 (rd_T42 xr row).f0 at_) = c ∧ ∃ (zc : List S57) (zh zf : Int) (zr : List S42) (zg : Int) (m : Int), Aside0 (impl_EdtTake.f k xc xh xf xr xg row at_ = some (zc, zh, zf, zr, zg, true)) ∧ Aside0 (impl_TblOk.f k xc xh xf xr xg = some true) ∧ (0 ≤ m ∧ m < 1000000) ∧ Aside0 (impl_TblCells.f k xc xh xf xr xg = some (m + 1)) ∧ Aside0 (impl_TblCells.f k tc th tf tr tg = some m) ∧ Aside0 (laws_pwTable.f k zc zh zf zr zg tc th tf tr tg = some r) := by
  unfold laws_FnEdtPut.fin at h
  split at h
  · rename_i hb
    obtain ⟨⟨zc, zh, zf, zr, zg, ok⟩, h1, g1⟩ := Option.bind_eq_some_iff.1 h
    obtain ⟨a, h2, g2⟩ := Option.bind_eq_some_iff.1 g1
    obtain ⟨n, h3, g3⟩ := Option.bind_eq_some_iff.1 g2
    obtain ⟨m, h4, g4⟩ := Option.bind_eq_some_iff.1 g3
    obtain ⟨e, h5, g5⟩ := Option.bind_eq_some_iff.1 g4
    split at g5
    · rename_i ha
      obtain ⟨ha1, ha2, ha3, ha4, ha5⟩ := ha
      obtain rfl := Option.some.inj g5
      obtain rfl : ok = true := ha5
      subst ha1
      subst ha2
      exact ⟨hb.1, laws_pwRow.inj _ _ hb.2, zc, zh, zf, zr, zg, m, ⟨h1⟩, ⟨h2⟩, ⟨ha3, ha4⟩, ⟨h3⟩, ⟨h4⟩, ⟨h5⟩⟩
    · cases g5
  · cases h
structure laws_FnEdtPut.Wd (w : World) (B : Nat) (pa : Array Value) (Ac Ar : Option Addr) (cs : List S57) (rs : List S42) (W : World) : Prop where
  bt : W.heap[B]? = some (.cells pa 26 (0, 0))
  kc : Kd.C k57 W Ac cs.length cs
  kr : Kd.C k42 W Ar rs.length rs
  bl : Below w.heap.size w W
theorem laws_FnEdtPut.Wd.below {w W W' : World} {B : Nat} {pa : Array Value} {Ac Ar : Option Addr} {cs : List S57} {rs : List S42} (h : laws_FnEdtPut.Wd w B pa Ac Ar cs rs W) (hb : Below W.heap.size W W') : laws_FnEdtPut.Wd w B pa Ac Ar cs rs W' :=
  ⟨blk_below h.bt hb, Kd.C_below h.kc hb, Kd.C_below h.kr hb, below_step h.bl hb⟩
structure laws_FnEdtPut.Wt (w : World) (B : Nat) (pa ca : Array Value) (Ac Ar : Option Addr) (cs : List S57) (rs : List S42) (W : World) : Prop where
  bt : W.heap[B]? = some (.cells pa 26 (0, 0))
  cb : W.heap[B + 1]? = some (.cells ca 30 (0, 0))
  kc : Kd.C k57 W Ac cs.length cs
  kr : Kd.C k42 W Ar rs.length rs
  bl : Below w.heap.size w W
theorem laws_FnEdtPut.Wt.below {w W W' : World} {B : Nat} {pa ca : Array Value} {Ac Ar : Option Addr} {cs : List S57} {rs : List S42} (h : laws_FnEdtPut.Wt w B pa ca Ac Ar cs rs W) (hb : Below W.heap.size W W') : laws_FnEdtPut.Wt w B pa ca Ac Ar cs rs W' :=
  ⟨blk_below h.bt hb, blk_below h.cb hb, Kd.C_below h.kc hb, Kd.C_below h.kr hb, below_step h.bl hb⟩
set_option maxHeartbeats 4000000 in
set_option maxRecDepth 100000 in
theorem laws_FnEdtPut.calls (k : Nat) (A0 : Option Addr) (c0 : Nat) (l0 : List Int) (r : Bool) (w : World) (hr0 : Kd.C (Kd.int .u8) w A0 l0.length l0) (hc0 : l0.length ≤ c0) (hM : Txt.MLen w) (h : laws_FnEdtPut.f k l0 = some r) :
    Calls Tryd.prog 3 #[.slice A0 l0.length c0] w fun e w' => e = .returned (.bool r) ∧ Below w.heap.size w w' := by
  have HM := Aside0.mk hM
  clear hM
  have HR := Aside0.mk hr0
  have HC := Aside0.mk hc0
  clear hr0 hc0
  have hu1 := Tryd.underlying26
  by_cases hbig : (l0.length : Int) > 1048576
  · have hf : r = true := by unfold laws_FnEdtPut.f at h; rw [if_pos hbig] at h; exact (Option.some.inj h).symm
    subst hf
    clear h
    have b0 : decide (1048576 < (l0.length : Int)) = true := decide_eq_true hbig
    have b1 : decide (1048576 < l0.length) = true := decide_eq_true (by omega)
    clear hbig
    go_enter Tryd.func3, Tryd.ntmps3
    go_wp2
    go_ret
    exact ⟨rfl, by (repeat (with_reducible first | exact Below.refl _ _ | apply below_alloc | apply pw_below_drewN | apply below_drew1))⟩
  obtain ⟨tc, th, tf, tr, tg, row, at_, c, xc, xh, xf, xr, xg, yc, yh, yf, yr, yg, ok, A1, A2, A3, A4, hs⟩ := laws_FnEdtPut.parts hbig h
  have b0 : decide (1048576 < (l0.length : Int)) = false := decide_eq_false hbig
  have b1 : decide (1048576 < l0.length) = false := decide_eq_false (by omega)
  clear hbig h
  have HS := Aside0.mk hs
  clear hs
  go_enter Tryd.func3, Tryd.ntmps3
  go_upto_region 4 with (go_at_call 4; (with_reducible refine (spec_DrawEdtPut.calls k _ _ l0 tc th tf tr tg row at_ c.f0 c.f1 c.f2 c.f3.f0 c.f3.f1 c.f4.f0 c.f4.f1 c.f5.f0 c.f5.f1 c.f6.f0 c.f6.f1 _ (by repeat (first | exact HR.out | (with_reducible refine Kd.C_alloc ?_ _) | (with_reducible refine Kd.C_drewN ?_ _) | (with_reducible refine Kd.C_drew ?_))) HC.out A1.out).mono ?_); rintro e W1 ⟨v0, v3, rfl, hv0, hv3, hb⟩; obtain ⟨tA, ta, rfl⟩ := Kd.R_slice hv0; obtain ⟨tB, tb, rfl⟩ := Kd.R_slice (Kd.S_R hv3); have HKc := Aside0.mk (Kd.R_reads' hv0).2.2; have HLc := Aside0.mk (Kd.R_reads' hv0).2.1; have HKr := Aside0.mk (Kd.R_reads' (Kd.S_R hv3)).2.2; have HLr := Aside0.mk (Kd.R_reads' (Kd.S_R hv3)).2.1; have HB := Aside0.mk (below_step (by (repeat (with_reducible first | exact Below.refl _ _ | apply below_alloc | apply pw_below_drewN | apply below_drew1))) hb); clear hb hv0 hv3)
  refine wp_letter (fun W0 => laws_FnEdtPut.Wt w W1.heap.size (l3A (.slice tA tc.length ta) (.slice tB tr.length tb) th tf tg) #[.string c.f0, .int .i64 c.f1, .int .i64 c.f2, .int .i64 c.f3.f0, .int .i64 c.f3.f1, .int .i64 c.f4.f0, .int .i64 c.f4.f1, .int .i64 c.f5.f0, .int .i64 c.f5.f1, .int .i64 c.f6.f0, .int .i64 c.f6.f1] tA tB tc tr W0) ⟨blk_alloc (blk_new W1 _) _, blk_new2 W1 (.cells (l3A (.slice tA tc.length ta) (.slice tB tr.length tb) th tf tg) 26) (.cells #[.string c.f0, .int .i64 c.f1, .int .i64 c.f2, .int .i64 c.f3.f0, .int .i64 c.f3.f1, .int .i64 c.f4.f0, .int .i64 c.f4.f1, .int .i64 c.f5.f0, .int .i64 c.f5.f1, .int .i64 c.f6.f0, .int .i64 c.f6.f1] 30), Kd.C_alloc (Kd.C_alloc HKc.out _) _, Kd.C_alloc (Kd.C_alloc HKr.out _) _, below_alloc (below_alloc HB.out _) _⟩ ?_
  rintro W2 hT
  generalize W1.heap.size = T at hT ⊢
  clear HKc HKr HB b0 b1
  have HT := Aside0.mk hT
  clear hT
  go_upto_region 5 with (first | ((with_reducible show wpList _ _ _ (Oper.mk (some 27) _ _ _ _ _ :: _) _ _); refine wpList_load_row rfl 30 _ rfl (T + 1) rfl 30 #[.string c.f0, .int .i64 c.f1, .int .i64 c.f2, .int .i64 c.f3.f0, .int .i64 c.f3.f1, .int .i64 c.f4.f0, .int .i64 c.f4.f1, .int .i64 c.f5.f0, .int .i64 c.f5.f1, .int .i64 c.f6.f0, .int .i64 c.f6.f1] (0, 0) _ HT.out.cb Tryd.underlying30 rfl (by kernel_rfl) ?_) | (refine wpList_load_row rfl 26 _ rfl T rfl 26 (l3A (.slice tA tc.length ta) (.slice tB tr.length tb) th tf tg) (0, 0) _ HT.out.bt Tryd.underlying26 rfl (by kernel_rfl) ?_) | (go_at_call 5; (refine (impl_EdtPut.calls k tA ta tc th tf tB tb tr tg row at_ c xc xh xf xr xg ok _ HT.out.kc HLc.out HT.out.kr HLr.out (Txt.MLen_below HM.out HT.out.bl) A2.out).mono ?_); rintro e W3 ⟨v0, v3, rfl, hv0, hv3, hb⟩; obtain ⟨xA, xa, rfl⟩ := Kd.R_slice hv0; obtain ⟨xB, xb, rfl⟩ := Kd.R_slice (Kd.S_R hv3); have HKx := Aside0.mk (Kd.R_reads' hv0).2.2; have HLx := Aside0.mk (Kd.R_reads' hv0).2.1; have HKs := Aside0.mk (Kd.R_reads' (Kd.S_R hv3)).2.2; have HLs := Aside0.mk (Kd.R_reads' (Kd.S_R hv3)).2.1; replace HT := Aside0.mk (HT.out.below hb); clear hb hv0 hv3))
  refine wp_letter (fun W0 => laws_FnEdtPut.Wt w T (l3A (.slice tA tc.length ta) (.slice tB tr.length tb) th tf tg) #[.string c.f0, .int .i64 c.f1, .int .i64 c.f2, .int .i64 c.f3.f0, .int .i64 c.f3.f1, .int .i64 c.f4.f0, .int .i64 c.f4.f1, .int .i64 c.f5.f0, .int .i64 c.f5.f1, .int .i64 c.f6.f0, .int .i64 c.f6.f1] tA tB tc tr W0 ∧ laws_FnEdtPut.Wd w W3.heap.size (l3A (.slice xA xc.length xa) (.slice xB xr.length xb) xh xf xg) xA xB xc xr W0) ⟨HT.out.below (below_alloc (Below.refl _ _) _), blk_new W3 _, Kd.C_alloc HKx.out _, Kd.C_alloc HKs.out _, below_alloc HT.out.bl _⟩ ?_
  rintro W4 ⟨hT, hX⟩
  generalize W3.heap.size = X at hX ⊢
  clear HT HKx HKs
  have HT := Aside0.mk hT
  have HX := Aside0.mk hX
  clear hT hX
  go_upto_region 6 with (first | ((with_reducible show wpList _ _ _ (Oper.mk (some 35) _ _ _ _ _ :: _) _ _); refine wpList_load_row rfl 30 _ rfl (T + 1) rfl 30 #[.string c.f0, .int .i64 c.f1, .int .i64 c.f2, .int .i64 c.f3.f0, .int .i64 c.f3.f1, .int .i64 c.f4.f0, .int .i64 c.f4.f1, .int .i64 c.f5.f0, .int .i64 c.f5.f1, .int .i64 c.f6.f0, .int .i64 c.f6.f1] (0, 0) _ HT.out.cb Tryd.underlying30 rfl (by kernel_rfl) ?_) | (refine wpList_load_row rfl 26 _ rfl T rfl 26 (l3A (.slice tA tc.length ta) (.slice tB tr.length tb) th tf tg) (0, 0) _ HT.out.bt Tryd.underlying26 rfl (by kernel_rfl) ?_) | (go_at_call 6; (refine (spec_EdtPut.calls k tA ta tc th tf tB tb tr tg row at_ c yc yh yf yr yg ok _ HT.out.kc HLc.out HT.out.kr HLr.out A3.out).mono ?_); rintro e W5 ⟨v0, v3, rfl, hv0, hv3, hb⟩; obtain ⟨yA, ya, rfl⟩ := Kd.R_slice hv0; obtain ⟨yB, yb, rfl⟩ := Kd.R_slice (Kd.S_R hv3); have HKx := Aside0.mk (Kd.R_reads' hv0).2.2; have HLy := Aside0.mk (Kd.R_reads' hv0).2.1; have HKs := Aside0.mk (Kd.R_reads' (Kd.S_R hv3)).2.2; have HLz := Aside0.mk (Kd.R_reads' (Kd.S_R hv3)).2.1; replace HT := Aside0.mk (HT.out.below hb); replace HX := Aside0.mk (HX.out.below hb); clear hb hv0 hv3))
  refine wp_letter (fun W0 => laws_FnEdtPut.Wt w T (l3A (.slice tA tc.length ta) (.slice tB tr.length tb) th tf tg) #[.string c.f0, .int .i64 c.f1, .int .i64 c.f2, .int .i64 c.f3.f0, .int .i64 c.f3.f1, .int .i64 c.f4.f0, .int .i64 c.f4.f1, .int .i64 c.f5.f0, .int .i64 c.f5.f1, .int .i64 c.f6.f0, .int .i64 c.f6.f1] tA tB tc tr W0 ∧ laws_FnEdtPut.Wd w X (l3A (.slice xA xc.length xa) (.slice xB xr.length xb) xh xf xg) xA xB xc xr W0 ∧ laws_FnEdtPut.Wd w W5.heap.size (l3A (.slice yA yc.length ya) (.slice yB yr.length yb) yh yf yg) yA yB yc yr W0) ⟨HT.out.below (below_alloc (Below.refl _ _) _), HX.out.below (below_alloc (Below.refl _ _) _), blk_new W5 _, Kd.C_alloc HKx.out _, Kd.C_alloc HKs.out _, below_alloc HT.out.bl _⟩ ?_
  rintro W6 ⟨hT, hX, hY⟩
  generalize W5.heap.size = Y at hY ⊢
  clear HT HX HKx HKs
  have HT := Aside0.mk hT
  have HX := Aside0.mk hX
  have HY := Aside0.mk hY
  clear hT hX hY
  have x0_ : _ = some (Value.slice xA xc.length xa) := (blk_cell HX.out.bt 0).trans rfl
  have x1_ : _ = some (Value.int .i64 xh) := (blk_cell HX.out.bt 1).trans rfl
  have x2_ : _ = some (Value.int .i64 xf) := (blk_cell HX.out.bt 2).trans rfl
  have x3_ : _ = some (Value.slice xB xr.length xb) := (blk_cell HX.out.bt 3).trans rfl
  have x4_ : _ = some (Value.int .i64 xg) := (blk_cell HX.out.bt 4).trans rfl
  have y0_ : _ = some (Value.slice yA yc.length ya) := (blk_cell HY.out.bt 0).trans rfl
  have y1_ : _ = some (Value.int .i64 yh) := (blk_cell HY.out.bt 1).trans rfl
  have y2_ : _ = some (Value.int .i64 yf) := (blk_cell HY.out.bt 2).trans rfl
  have y3_ : _ = some (Value.slice yB yr.length yb) := (blk_cell HY.out.bt 3).trans rfl
  have y4_ : _ = some (Value.int .i64 yg) := (blk_cell HY.out.bt 4).trans rfl
  go_upto_region 8 with (go_at_call 7; (with_reducible refine (laws_pwTable.calls k xA xa xc xh xf xB xb xr xg yA ya yc yh yf yB yb yr yg true _ HX.out.kc HLx.out HX.out.kr HLs.out HY.out.kc HLy.out HY.out.kr HLz.out A4.out).mono ?_); rintro e W7 ⟨rfl, hb⟩; clear x0_ x1_ x2_ x3_ x4_ y0_ y1_ y2_ y3_ y4_; replace HT := Aside0.mk (HT.out.below hb); replace HX := Aside0.mk (HX.out.below hb); clear hb)
  clear HY HLy HLz A4 A3 A2 A1
  rcases HS.out with ⟨B1, rfl, B2⟩ | ⟨B1, rfl, B2⟩ | ⟨B1, rfl, B2, B3⟩
  rotate_left
  · clear HS
    go_wp2_with (first | (refine wpList_load_row rfl 26 _ rfl T rfl 26 (l3A (.slice tA tc.length ta) (.slice tB tr.length tb) th tf tg) (0, 0) _ HT.out.bt Tryd.underlying26 rfl (by kernel_rfl) ?_) | (refine wpList_load_row rfl 26 _ rfl X rfl 26 (l3A (.slice xA xc.length xa) (.slice xB xr.length xb) xh xf xg) (0, 0) _ HX.out.bt Tryd.underlying26 rfl (by kernel_rfl) ?_) | (go_at_call 8; (with_reducible refine (spec_TblOk.calls k tA ta tc th tf tB tb tr tg true _ HT.out.kc HLc.out HT.out.kr HLr.out B1.out).mono ?_); rintro e W8 ⟨rfl, hb⟩; replace HT := Aside0.mk (HT.out.below hb); replace HX := Aside0.mk (HX.out.below hb); clear hb) | (go_at_call 7; (with_reducible refine (laws_pwTable.calls k xA xa xc xh xf xB xb xr xg tA ta tc th tf tB tb tr tg r _ HX.out.kc HLx.out HX.out.kr HLs.out HT.out.kc HLc.out HT.out.kr HLr.out B2.out).mono ?_); rintro e W9 ⟨rfl, hb⟩; replace HT := Aside0.mk (HT.out.below hb); clear hb))
    go_ret
    exact ⟨rfl, HT.out.bl⟩
  · clear HS
    go_wp2_with (first | (refine wpList_load_row rfl 26 _ rfl T rfl 26 (l3A (.slice tA tc.length ta) (.slice tB tr.length tb) th tf tg) (0, 0) _ HT.out.bt Tryd.underlying26 rfl (by kernel_rfl) ?_) | (refine wpList_load_row rfl 26 _ rfl X rfl 26 (l3A (.slice xA xc.length xa) (.slice xB xr.length xb) xh xf xg) (0, 0) _ HX.out.bt Tryd.underlying26 rfl (by kernel_rfl) ?_) | (go_at_call 8; (with_reducible refine (spec_TblOk.calls k tA ta tc th tf tB tb tr tg false _ HT.out.kc HLc.out HT.out.kr HLr.out B1.out).mono ?_); rintro e W8 ⟨rfl, hb⟩; replace HT := Aside0.mk (HT.out.below hb); replace HX := Aside0.mk (HX.out.below hb); clear hb) | (go_at_call 7; (refine (laws_pwTable.calls k xA xa xc xh xf xB xb xr xg none 0 [] 0 0 none 0 [] 0 true _ HX.out.kc HLx.out HX.out.kr HLs.out ?n1 (Nat.le_refl _) ?n2 (Nat.le_refl _) B2.out).mono ?_); (case n1 => exact (Kd.R_reads' (Kd.R_nil k57 57 _ 0 (fun _ => True))).2.2); (case n2 => exact (Kd.R_reads' (Kd.R_nil k42 42 _ 0 (fun _ => True))).2.2); rintro e W9 ⟨rfl, hb⟩; replace HT := Aside0.mk (HT.out.below hb); clear hb) | (go_at_call 9; (with_reducible refine (laws_pwOk.calls r _ (Txt.MLen_below HM.out HT.out.bl) B3.out).mono ?_); rintro e W10 ⟨rfl, hb⟩; replace HT := Aside0.mk (HT.out.below hb); clear hb))
    go_ret
    exact ⟨rfl, HT.out.bl⟩
  obtain ⟨⟨hb1, hb2, hb3, hb4⟩, hxc, zc, zh, zf, zr, zg, m, C1, C2, ⟨hm0, hm1⟩, C3, C4, C6⟩ := laws_FnEdtPut.parts2 B2.out
  clear HS B2
  go_upto_region 12 with (first | (refine wpList_load_row rfl 26 _ rfl T rfl 26 (l3A (.slice tA tc.length ta) (.slice tB tr.length tb) th tf tg) (0, 0) _ HT.out.bt Tryd.underlying26 rfl (by kernel_rfl) ?_) | (go_at_call 8; (with_reducible refine (spec_TblOk.calls k tA ta tc th tf tB tb tr tg true _ HT.out.kc HLc.out HT.out.kr HLr.out B1.out).mono ?_); rintro e W8 ⟨rfl, hb⟩; replace HT := Aside0.mk (HT.out.below hb); replace HX := Aside0.mk (HX.out.below hb); clear hb))
  clear B1
  have HXC := Aside0.mk hxc
  have HBB := Aside0.mk (And.intro hb1 (And.intro hb2 (And.intro hb3 hb4)))
  clear hxc hb1 hb2 hb3 hb4
  go_upto_region 13 with (first | (refine wpList_load_row rfl 26 _ rfl X rfl 26 (l3A (.slice xA xc.length xa) (.slice xB xr.length xb) xh xf xg) (0, 0) _ HX.out.bt Tryd.underlying26 rfl (by kernel_rfl) ?_) | (go_at_call 10; (with_reducible refine (impl_EdtTake.calls k xA xa xc xh xf xB xb xr xg row at_ zc zh zf zr zg true _ HX.out.kc HLx.out HX.out.kr HLs.out (Txt.MLen_below HM.out HX.out.bl) C1.out).mono ?_); rintro e W9 ⟨v0, v3, rfl, hv0, hv3, hb⟩; obtain ⟨zA, za, rfl⟩ := Kd.R_slice hv0; obtain ⟨zB, zb, rfl⟩ := Kd.R_slice (Kd.S_R hv3); have HKz := Aside0.mk (Kd.R_reads' hv0).2.2; have HLz := Aside0.mk (Kd.R_reads' hv0).2.1; have HKw := Aside0.mk (Kd.R_reads' (Kd.S_R hv3)).2.2; have HLw := Aside0.mk (Kd.R_reads' (Kd.S_R hv3)).2.1; replace HT := Aside0.mk (HT.out.below hb); replace HX := Aside0.mk (HX.out.below hb); clear hb hv0 hv3))
  refine wp_letter (fun W0 => laws_FnEdtPut.Wt w T (l3A (.slice tA tc.length ta) (.slice tB tr.length tb) th tf tg) #[.string c.f0, .int .i64 c.f1, .int .i64 c.f2, .int .i64 c.f3.f0, .int .i64 c.f3.f1, .int .i64 c.f4.f0, .int .i64 c.f4.f1, .int .i64 c.f5.f0, .int .i64 c.f5.f1, .int .i64 c.f6.f0, .int .i64 c.f6.f1] tA tB tc tr W0 ∧ laws_FnEdtPut.Wd w X (l3A (.slice xA xc.length xa) (.slice xB xr.length xb) xh xf xg) xA xB xc xr W0 ∧ laws_FnEdtPut.Wd w W9.heap.size (l3A (.slice zA zc.length za) (.slice zB zr.length zb) zh zf zg) zA zB zc zr W0) ⟨HT.out.below (below_alloc (Below.refl _ _) _), HX.out.below (below_alloc (Below.refl _ _) _), blk_new W9 _, Kd.C_alloc HKz.out _, Kd.C_alloc HKw.out _, below_alloc HT.out.bl _⟩ ?_
  rintro wc ⟨hT, hX, hZ⟩
  generalize W9.heap.size = Z at hZ ⊢
  clear HT HX HKz HKw
  have HT := Aside0.mk hT
  have HX := Aside0.mk hX
  have HZ := Aside0.mk hZ
  clear hT hX hZ
  · obtain ⟨hb1, hb2, hb3, hb4⟩ := HBB.out
    obtain ⟨ad, B', c', hA, q0, q1, hle, hC⟩ := at_T42 HX.out.kr row hb1 hb2
    subst hA
    obtain ⟨ad2, hA2, z0, z1, z2, z3, z4, z5, z6, z7, z8, z9, z10⟩ := at_T30 hC at_ hb3 hb4
    rw [hA2] at q0
    rw [HXC.out] at z0 z1 z2 z3 z4 z5 z6 z7 z8 z9 z10
    clear hA2 q1 hle hC
    have xq := Ext.cell q0
    have xz0 := Ext.cell z0
    have xz1 := Ext.cell z1
    have xz2 := Ext.cell z2
    have xz3 := Ext.cell z3
    have xz4 := Ext.cell z4
    have xz5 := Ext.cell z5
    have xz6 := Ext.cell z6
    have xz7 := Ext.cell z7
    have xz8 := Ext.cell z8
    have xz9 := Ext.cell z9
    have xz10 := Ext.cell z10
    have xc0 := Ext.cell ((blk_cell HT.out.cb 0).trans rfl : wc.cell? ⟨T + 1, 0, none⟩ = some (Value.string c.f0))
    have xc1 := Ext.cell ((blk_cell HT.out.cb 1).trans rfl : wc.cell? ⟨T + 1, 1, none⟩ = some (Value.int .i64 c.f1))
    have xc2 := Ext.cell ((blk_cell HT.out.cb 2).trans rfl : wc.cell? ⟨T + 1, 2, none⟩ = some (Value.int .i64 c.f2))
    have xc3 := Ext.cell ((blk_cell HT.out.cb 3).trans rfl : wc.cell? ⟨T + 1, 3, none⟩ = some (Value.int .i64 c.f3.f0))
    have xc4 := Ext.cell ((blk_cell HT.out.cb 4).trans rfl : wc.cell? ⟨T + 1, 4, none⟩ = some (Value.int .i64 c.f3.f1))
    have xc5 := Ext.cell ((blk_cell HT.out.cb 5).trans rfl : wc.cell? ⟨T + 1, 5, none⟩ = some (Value.int .i64 c.f4.f0))
    have xc6 := Ext.cell ((blk_cell HT.out.cb 6).trans rfl : wc.cell? ⟨T + 1, 6, none⟩ = some (Value.int .i64 c.f4.f1))
    have xc7 := Ext.cell ((blk_cell HT.out.cb 7).trans rfl : wc.cell? ⟨T + 1, 7, none⟩ = some (Value.int .i64 c.f5.f0))
    have xc8 := Ext.cell ((blk_cell HT.out.cb 8).trans rfl : wc.cell? ⟨T + 1, 8, none⟩ = some (Value.int .i64 c.f5.f1))
    have xc9 := Ext.cell ((blk_cell HT.out.cb 9).trans rfl : wc.cell? ⟨T + 1, 9, none⟩ = some (Value.int .i64 c.f6.f0))
    have xc10 := Ext.cell ((blk_cell HT.out.cb 10).trans rfl : wc.cell? ⟨T + 1, 10, none⟩ = some (Value.int .i64 c.f6.f1))
    clear q0 z0 z1 z2 z3 z4 z5 z6 z7 z8 z9 z10
    have hu2 := Tryd.underlying30
    have hu3 := Tryd.underlying28
    have y0 := Ext.cell ((blk_cell HX.out.bt 0).trans rfl : wc.cell? ⟨X, 0, none⟩ = some (Value.slice xA xc.length xa))
    have y1 := Ext.cell ((blk_cell HX.out.bt 1).trans rfl : wc.cell? ⟨X, 1, none⟩ = some (Value.int .i64 xh))
    have y2 := Ext.cell ((blk_cell HX.out.bt 2).trans rfl : wc.cell? ⟨X, 2, none⟩ = some (Value.int .i64 xf))
    have y3 := Ext.cell ((blk_cell HX.out.bt 3).trans rfl : wc.cell? ⟨X, 3, none⟩ = some (Value.slice (some ad) xr.length xb))
    have y4 := Ext.cell ((blk_cell HX.out.bt 4).trans rfl : wc.cell? ⟨X, 4, none⟩ = some (Value.int .i64 xg))
    have w0 := Ext.cell ((blk_cell HT.out.bt 0).trans rfl : wc.cell? ⟨T, 0, none⟩ = some (Value.slice tA tc.length ta))
    have w1 := Ext.cell ((blk_cell HT.out.bt 1).trans rfl : wc.cell? ⟨T, 1, none⟩ = some (Value.int .i64 th))
    have w2 := Ext.cell ((blk_cell HT.out.bt 2).trans rfl : wc.cell? ⟨T, 2, none⟩ = some (Value.int .i64 tf))
    have w3 := Ext.cell ((blk_cell HT.out.bt 3).trans rfl : wc.cell? ⟨T, 3, none⟩ = some (Value.slice tB tr.length tb))
    have w4 := Ext.cell ((blk_cell HT.out.bt 4).trans rfl : wc.cell? ⟨T, 4, none⟩ = some (Value.int .i64 tg))
    have v0 := Ext.cell ((blk_cell HZ.out.bt 0).trans rfl : wc.cell? ⟨Z, 0, none⟩ = some (Value.slice zA zc.length za))
    have v1 := Ext.cell ((blk_cell HZ.out.bt 1).trans rfl : wc.cell? ⟨Z, 1, none⟩ = some (Value.int .i64 zh))
    have v2 := Ext.cell ((blk_cell HZ.out.bt 2).trans rfl : wc.cell? ⟨Z, 2, none⟩ = some (Value.int .i64 zf))
    have v3 := Ext.cell ((blk_cell HZ.out.bt 3).trans rfl : wc.cell? ⟨Z, 3, none⟩ = some (Value.slice zB zr.length zb))
    have v4 := Ext.cell ((blk_cell HZ.out.bt 4).trans rfl : wc.cell? ⟨Z, 4, none⟩ = some (Value.int .i64 zg))
    have FXc := Aside0.mk (fun (v : Ext wc) => Kd.C_below HX.out.kc v.below)
    have FXr := Aside0.mk (fun (v : Ext wc) => Kd.C_below HX.out.kr v.below)
    have FTc := Aside0.mk (fun (v : Ext wc) => Kd.C_below HT.out.kc v.below)
    have FTr := Aside0.mk (fun (v : Ext wc) => Kd.C_below HT.out.kr v.below)
    have FZc := Aside0.mk (fun (v : Ext wc) => Kd.C_below HZ.out.kc v.below)
    have FZr := Aside0.mk (fun (v : Ext wc) => Kd.C_below HZ.out.kr v.below)
    have FM := Aside0.mk (fun (v : Ext wc) => Txt.MLen_below HM.out (below_step HT.out.bl v.below))
    have hw1 : wrap64 (m + 1) = m + 1 := by unfold wrap64; omega
    have hw2 : IntKind.i64.wrap (m + 1) = m + 1 := by rw [IntKind.wrap_i64]; omega
    refine region_ext (by kernel_rfl) (by kernel_rfl) ?_
    repeat (go_big_quiet_step (first | (go_at_call 11; with_reducible exact Calls.ext (impl_TblOk.calls k xA xa xc xh xf (some ad) xb xr xg true _ (FXc.out _) HLx.out (FXr.out _) HLs.out (FM.out _) C2.out)) | (go_at_call 12; first | with_reducible exact Calls.ext (impl_TblCells.calls k xA xa xc xh xf (some ad) xb xr xg (m + 1) _ (FXc.out _) HLx.out (FXr.out _) HLs.out C3.out) | with_reducible exact Calls.ext (impl_TblCells.calls k tA ta tc th tf tB tb tr tg m _ (FTc.out _) HLc.out (FTr.out _) HLr.out C4.out)) | (go_at_call 7; with_reducible exact Calls.ext (laws_pwTable.calls k zA za zc zh zf zB zb zr zg tA ta tc th tf tB tb tr tg r _ (FZc.out _) HLz.out (FZr.out _) HLw.out (FTc.out _) HLc.out (FTr.out _) HLr.out C6.out))))
    refine wpQuiet_nil ?_
    rintro W8_ ⟨⟨_, hb3_⟩, rfl⟩
    go_wp2
    go_ret
    exact ⟨rfl, below_step HT.out.bl hb3_⟩


end Go.Proofs.YtaihfkjfbjcmhabDoor.Q
