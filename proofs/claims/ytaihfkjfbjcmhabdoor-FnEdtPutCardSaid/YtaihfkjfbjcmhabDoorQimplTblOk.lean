-- Told by a program of this session (uprint.py, ulay.py).
import Derived.Test.YtaihfkjfbjcmhabDoorQ0
import Derived.Test.YtaihfkjfbjcmhabDoorReg
import Derived.Test.YtaihfkjfbjcmhabDoorQimplin
import Derived.Test.YtaihfkjfbjcmhabDoorQspecl20AnyTable
import Derived.Test.YtaihfkjfbjcmhabDoorQimplTxtOk
import Derived.Test.YtaihfkjfbjcmhabDoorQimplCellOk
import Derived.Deep.AppendSrc
import Derived.Laws.NewBlocks
import Derived.Shelf.Abstract
namespace Go.Proofs.YtaihfkjfbjcmhabDoor.Q
open Go.RowKit Go.Proofs.YtaihfkjfbjcmhabDoorW.PrintWords Go.Proofs.YtaihfkjfbjcmhabDoorW.PrintLast Go.Proofs.YtaihfkjfbjcmhabDoorW.PrintMore Go.Proofs.YtaihfkjfbjcmhabDoor.Reg Go.Proofs.YtaihfkjfbjcmhabDoor.Box
attribute [local go_sem] max2_int min2_int max_two min_two max_three min_three max_four min_four
set_option linter.unusedVariables false
set_option linter.unusedSimpArgs false

/-! ### impl_TblOk: function 11 (by hand) -/
-- imports: Derived.Shelf.Abstract
set_option maxHeartbeats 2000000 in
set_option maxRecDepth 100000 in
/-- slices.IndexFunc, whatever the function asks. -/
theorem idxf_col (p : S57 → Bool) (g : Nat) (lb : Array Value) (eg : ∀ args w, (callFunc g args).run Tryd.prog w = .ok (.enter g args) w) (A : Option Addr) (c : Nat) (l : List S57) (w : World)
    (hr : Kd.C k57 w A l.length l) (hc : l.length ≤ c)
    (hp : ∀ (W : World) (x : S57), x ∈ l → Below w.heap.size w W → Calls Tryd.prog g (#[.agg #[.int .i64 x.f0, .int .i64 x.f1]] ++ lb) W fun e W' => e = .returned (.bool (p x)) ∧ Below w.heap.size w W') :
    Calls Tryd.prog 50 #[.slice A l.length c, .func (.func g) #[] lb] w fun e w' => e = .returned (.int .i64 (ppIdx p l)) ∧ Below w.heap.size w w' := by
  have hbig := hr.2.1
  have hu := Tryd.underlying57
  have HR := Aside0.mk hr
  clear hr
  go_enter Tryd.func50, Tryd.ntmps50
  go_wp2
  go_loopg [5, 8] l.length (fun gg _ s8 wr => ∃ kk : Nat, kk ≤ l.length ∧ l.length - kk ≤ gg ∧ s8 = .int .i64 kk ∧ Aside0 (Below w.heap.size w wr) ∧ Aside0 (∀ j (h : j < l.length), j < kk → p l[j] = false))
  case atStart => exact ⟨0, Nat.zero_le _, by omega, rfl, ⟨Below.refl _ w⟩, ⟨fun j _ hj => absurd hj (Nat.not_lt_zero _)⟩⟩
  case round =>
    obtain ⟨kk, hkk, hg, rfl, BW, AA⟩ := hrel
    by_cases hlt : kk < l.length
    · have hltz : (kk : Int) < (l.length : Int) := by omega
      obtain ⟨ad, e0, h0, h1⟩ := at_T57 HR.out (kk : Int) (by omega) hltz
      cases e0
      replace h0 := (BW.out.cell (World.block_lt_of_cell? w _ h0)).trans h0
      replace h1 := (BW.out.cell (World.block_lt_of_cell? w _ h1)).trans h1
      simp only [Int.toNat_natCast] at h0 h1
      have hy : rd_T57 l (kk : Int) = l[kk] := by unfold rd_T57; simp [List.getD_eq_getElem?_getD, List.getElem?_eq_getElem hlt]
      have hcall := hp wr (rd_T57 l (kk : Int)) (by rw [hy]; exact List.getElem_mem _) BW.out
      generalize rd_T57 l (kk : Int) = y at h0 h1 hcall hy
      have HY := Aside0.mk hy
      clear hy hp
      cases hq : p y with
      | true =>
        rw [hq] at hcall
        go_wp2_with (go_at_fn g; refine hcall.mono ?_; rintro e w' ⟨rfl, hb'⟩)
        go_ret
        refine ⟨?_, hb'⟩
        rw [ppIdx_hit p l kk hlt (by rw [← HY.out]; exact hq) AA.out]
        rfl
      | false =>
        rw [hq] at hcall
        go_wp2_with (go_at_fn g; refine hcall.mono ?_; rintro e w' ⟨rfl, hb'⟩)
        go_roundg (l.length - (kk + 1))
        case measure => omega
        case rel =>
          refine ⟨kk + 1, by omega, by omega, by go_num, ⟨hb'⟩, ⟨fun j h hj => ?_⟩⟩
          by_cases e : j = kk
          · subst e
            rw [← HY.out]; exact hq
          · exact AA.out j h (by omega)
    · have hltz : ¬ (kk : Int) < (l.length : Int) := by omega
      have hk : kk = l.length := by omega
      subst hk
      go_wp2
      go_ret
      refine ⟨?_, BW.out⟩
      rw [ppIdx_miss p l (fun j hj => AA.out j hj hj)]
      rfl
set_option maxHeartbeats 2000000 in
set_option maxRecDepth 100000 in
theorem cntf_col (p : S57 → Bool) (g : Nat) (lb : Array Value) (eg : ∀ args w, (callFunc g args).run Tryd.prog w = .ok (.enter g args) w) (A : Option Addr) (c : Nat) (l : List S57) (w : World)
    (hr : Kd.C k57 w A l.length l) (hc : l.length ≤ c)
    (hp : ∀ (W : World) (x : S57), x ∈ l → Below w.heap.size w W → Calls Tryd.prog g (#[.agg #[.int .i64 x.f0, .int .i64 x.f1]] ++ lb) W fun e W' => e = .returned (.bool (p x)) ∧ Below w.heap.size w W') :
    Calls Tryd.prog 31 #[.slice A l.length c, .func (.func g) #[] lb] w fun e w' => e = .returned (.bool (decide (0 ≤ ppIdx p l))) ∧ Below w.heap.size w w' := by
  have HR := Aside0.mk hr
  have HC := Aside0.mk hc
  have HP := Aside0.mk hp
  clear hr hc hp
  go_enter Tryd.func31, Tryd.ntmps31
  go_wp2_with (go_at_call 50; (with_reducible refine (idxf_col p g lb eg A c l _ HR.out HC.out HP.out).mono ?_); rintro e w' ⟨rfl, hb⟩)
  go_ret
  exact ⟨rfl, hb⟩
set_option maxHeartbeats 2000000 in
set_option maxRecDepth 100000 in
/-- slices.IndexFunc, whatever the function asks. -/
theorem idxf_cell (p : S30 → Bool) (g : Nat) (lb : Array Value) (eg : ∀ args w, (callFunc g args).run Tryd.prog w = .ok (.enter g args) w) (A : Option Addr) (c : Nat) (l : List S30) (w : World)
    (hr : Kd.C k30 w A l.length l) (hc : l.length ≤ c)
    (hp : ∀ (W : World) (x : S30), x ∈ l → Below w.heap.size w W → Calls Tryd.prog g (#[.agg #[.string x.f0, .int .i64 x.f1, .int .i64 x.f2, .int .i64 x.f3.f0, .int .i64 x.f3.f1, .int .i64 x.f4.f0, .int .i64 x.f4.f1, .int .i64 x.f5.f0, .int .i64 x.f5.f1, .int .i64 x.f6.f0, .int .i64 x.f6.f1]] ++ lb) W fun e W' => e = .returned (.bool (p x)) ∧ Below w.heap.size w W') :
    Calls Tryd.prog 52 #[.slice A l.length c, .func (.func g) #[] lb] w fun e w' => e = .returned (.int .i64 (ppIdx p l)) ∧ Below w.heap.size w w' := by
  have hbig := hr.2.1
  have hu := Tryd.underlying30
  have HR := Aside0.mk hr
  clear hr
  go_enter Tryd.func52, Tryd.ntmps52
  go_wp2
  go_loopg [5, 8] l.length (fun gg _ s8 wr => ∃ kk : Nat, kk ≤ l.length ∧ l.length - kk ≤ gg ∧ s8 = .int .i64 kk ∧ Aside0 (Below w.heap.size w wr) ∧ Aside0 (∀ j (h : j < l.length), j < kk → p l[j] = false))
  case atStart => exact ⟨0, Nat.zero_le _, by omega, rfl, ⟨Below.refl _ w⟩, ⟨fun j _ hj => absurd hj (Nat.not_lt_zero _)⟩⟩
  case round =>
    obtain ⟨kk, hkk, hg, rfl, BW, AA⟩ := hrel
    by_cases hlt : kk < l.length
    · have hltz : (kk : Int) < (l.length : Int) := by omega
      obtain ⟨ad, e0, h0, h1, h2, h3, h4, h5, h6, h7, h8, h9, h10⟩ := at_T30 HR.out (kk : Int) (by omega) hltz
      cases e0
      replace h0 := (BW.out.cell (World.block_lt_of_cell? w _ h0)).trans h0
      replace h1 := (BW.out.cell (World.block_lt_of_cell? w _ h1)).trans h1
      replace h2 := (BW.out.cell (World.block_lt_of_cell? w _ h2)).trans h2
      replace h3 := (BW.out.cell (World.block_lt_of_cell? w _ h3)).trans h3
      replace h4 := (BW.out.cell (World.block_lt_of_cell? w _ h4)).trans h4
      replace h5 := (BW.out.cell (World.block_lt_of_cell? w _ h5)).trans h5
      replace h6 := (BW.out.cell (World.block_lt_of_cell? w _ h6)).trans h6
      replace h7 := (BW.out.cell (World.block_lt_of_cell? w _ h7)).trans h7
      replace h8 := (BW.out.cell (World.block_lt_of_cell? w _ h8)).trans h8
      replace h9 := (BW.out.cell (World.block_lt_of_cell? w _ h9)).trans h9
      replace h10 := (BW.out.cell (World.block_lt_of_cell? w _ h10)).trans h10
      simp only [Int.toNat_natCast] at h0 h1 h2 h3 h4 h5 h6 h7 h8 h9 h10
      have hy : rd_T30 l (kk : Int) = l[kk] := by unfold rd_T30; simp [List.getD_eq_getElem?_getD, List.getElem?_eq_getElem hlt]
      have hcall := hp wr (rd_T30 l (kk : Int)) (by rw [hy]; exact List.getElem_mem _) BW.out
      generalize rd_T30 l (kk : Int) = y at h0 h1 h2 h3 h4 h5 h6 h7 h8 h9 h10 hcall hy
      have HY := Aside0.mk hy
      clear hy hp
      cases hq : p y with
      | true =>
        rw [hq] at hcall
        go_wp2_with (go_at_fn g; refine hcall.mono ?_; rintro e w' ⟨rfl, hb'⟩)
        go_ret
        refine ⟨?_, hb'⟩
        rw [ppIdx_hit p l kk hlt (by rw [← HY.out]; exact hq) AA.out]
        rfl
      | false =>
        rw [hq] at hcall
        go_wp2_with (go_at_fn g; refine hcall.mono ?_; rintro e w' ⟨rfl, hb'⟩)
        go_roundg (l.length - (kk + 1))
        case measure => omega
        case rel =>
          refine ⟨kk + 1, by omega, by omega, by go_num, ⟨hb'⟩, ⟨fun j h hj => ?_⟩⟩
          by_cases e : j = kk
          · subst e
            rw [← HY.out]; exact hq
          · exact AA.out j h (by omega)
    · have hltz : ¬ (kk : Int) < (l.length : Int) := by omega
      have hk : kk = l.length := by omega
      subst hk
      go_wp2
      go_ret
      refine ⟨?_, BW.out⟩
      rw [ppIdx_miss p l (fun j hj => AA.out j hj hj)]
      rfl
set_option maxHeartbeats 2000000 in
set_option maxRecDepth 100000 in
theorem cntf_cell (p : S30 → Bool) (g : Nat) (lb : Array Value) (eg : ∀ args w, (callFunc g args).run Tryd.prog w = .ok (.enter g args) w) (A : Option Addr) (c : Nat) (l : List S30) (w : World)
    (hr : Kd.C k30 w A l.length l) (hc : l.length ≤ c)
    (hp : ∀ (W : World) (x : S30), x ∈ l → Below w.heap.size w W → Calls Tryd.prog g (#[.agg #[.string x.f0, .int .i64 x.f1, .int .i64 x.f2, .int .i64 x.f3.f0, .int .i64 x.f3.f1, .int .i64 x.f4.f0, .int .i64 x.f4.f1, .int .i64 x.f5.f0, .int .i64 x.f5.f1, .int .i64 x.f6.f0, .int .i64 x.f6.f1]] ++ lb) W fun e W' => e = .returned (.bool (p x)) ∧ Below w.heap.size w W') :
    Calls Tryd.prog 37 #[.slice A l.length c, .func (.func g) #[] lb] w fun e w' => e = .returned (.bool (decide (0 ≤ ppIdx p l))) ∧ Below w.heap.size w w' := by
  have HR := Aside0.mk hr
  have HC := Aside0.mk hc
  have HP := Aside0.mk hp
  clear hr hc hp
  go_enter Tryd.func37, Tryd.ntmps37
  go_wp2_with (go_at_call 52; (with_reducible refine (idxf_cell p g lb eg A c l _ HR.out HC.out HP.out).mono ?_); rintro e w' ⟨rfl, hb⟩)
  go_ret
  exact ⟨rfl, hb⟩
set_option maxHeartbeats 2000000 in
set_option maxRecDepth 100000 in
/-- slices.IndexFunc, whatever the function asks. -/
theorem idxf_row (p : S42 → Bool) (g : Nat) (lb : Array Value) (eg : ∀ args w, (callFunc g args).run Tryd.prog w = .ok (.enter g args) w) (A : Option Addr) (c : Nat) (l : List S42) (w : World)
    (hr : Kd.C k42 w A l.length l) (hc : l.length ≤ c)
    (hp : ∀ (W : World) (x : S42) (Ax : Option Addr) (cx : Nat), x ∈ l → Below w.heap.size w W → Kd.C k30 W Ax x.f0.length x.f0 → x.f0.length ≤ cx → Calls Tryd.prog g (#[.agg #[.slice Ax x.f0.length cx, .bool x.f1]] ++ lb) W fun e W' => e = .returned (.bool (p x)) ∧ Below w.heap.size w W') :
    Calls Tryd.prog 51 #[.slice A l.length c, .func (.func g) #[] lb] w fun e w' => e = .returned (.int .i64 (ppIdx p l)) ∧ Below w.heap.size w w' := by
  have hbig := hr.2.1
  have hu := Tryd.underlying42
  have HR := Aside0.mk hr
  clear hr
  go_enter Tryd.func51, Tryd.ntmps51
  go_wp2
  go_loopg [5, 8] l.length (fun gg _ s8 wr => ∃ kk : Nat, kk ≤ l.length ∧ l.length - kk ≤ gg ∧ s8 = .int .i64 kk ∧ Aside0 (Below w.heap.size w wr) ∧ Aside0 (∀ j (h : j < l.length), j < kk → p l[j] = false))
  case atStart => exact ⟨0, Nat.zero_le _, by omega, rfl, ⟨Below.refl _ w⟩, ⟨fun j _ hj => absurd hj (Nat.not_lt_zero _)⟩⟩
  case round =>
    obtain ⟨kk, hkk, hg, rfl, BW, AA⟩ := hrel
    by_cases hlt : kk < l.length
    · have hltz : (kk : Int) < (l.length : Int) := by omega
      obtain ⟨ad, Ax, cx, e0, h0, h1, hl0, hi0⟩ := at_T42 HR.out (kk : Int) (by omega) hltz
      cases e0
      replace h0 := (BW.out.cell (World.block_lt_of_cell? w _ h0)).trans h0
      replace h1 := (BW.out.cell (World.block_lt_of_cell? w _ h1)).trans h1
      simp only [Int.toNat_natCast] at h0 h1
      have hy : rd_T42 l (kk : Int) = l[kk] := by unfold rd_T42; simp [List.getD_eq_getElem?_getD, List.getElem?_eq_getElem hlt]
      have hcall := hp wr (rd_T42 l (kk : Int)) Ax cx (by rw [hy]; exact List.getElem_mem _) BW.out (Kd.C_below hi0 BW.out) hl0
      clear hl0 hi0
      generalize rd_T42 l (kk : Int) = y at h0 h1 hcall hy
      have HY := Aside0.mk hy
      clear hy hp
      cases hq : p y with
      | true =>
        rw [hq] at hcall
        go_wp2_with (go_at_fn g; refine hcall.mono ?_; rintro e w' ⟨rfl, hb'⟩)
        go_ret
        refine ⟨?_, hb'⟩
        rw [ppIdx_hit p l kk hlt (by rw [← HY.out]; exact hq) AA.out]
        rfl
      | false =>
        rw [hq] at hcall
        go_wp2_with (go_at_fn g; refine hcall.mono ?_; rintro e w' ⟨rfl, hb'⟩)
        go_roundg (l.length - (kk + 1))
        case measure => omega
        case rel =>
          refine ⟨kk + 1, by omega, by omega, by go_num, ⟨hb'⟩, ⟨fun j h hj => ?_⟩⟩
          by_cases e : j = kk
          · subst e
            rw [← HY.out]; exact hq
          · exact AA.out j h (by omega)
    · have hltz : ¬ (kk : Int) < (l.length : Int) := by omega
      have hk : kk = l.length := by omega
      subst hk
      go_wp2
      go_ret
      refine ⟨?_, BW.out⟩
      rw [ppIdx_miss p l (fun j hj => AA.out j hj hj)]
      rfl
set_option maxHeartbeats 2000000 in
set_option maxRecDepth 100000 in
theorem cntf_row (p : S42 → Bool) (g : Nat) (lb : Array Value) (eg : ∀ args w, (callFunc g args).run Tryd.prog w = .ok (.enter g args) w) (A : Option Addr) (c : Nat) (l : List S42) (w : World)
    (hr : Kd.C k42 w A l.length l) (hc : l.length ≤ c)
    (hp : ∀ (W : World) (x : S42) (Ax : Option Addr) (cx : Nat), x ∈ l → Below w.heap.size w W → Kd.C k30 W Ax x.f0.length x.f0 → x.f0.length ≤ cx → Calls Tryd.prog g (#[.agg #[.slice Ax x.f0.length cx, .bool x.f1]] ++ lb) W fun e W' => e = .returned (.bool (p x)) ∧ Below w.heap.size w W') :
    Calls Tryd.prog 35 #[.slice A l.length c, .func (.func g) #[] lb] w fun e w' => e = .returned (.bool (decide (0 ≤ ppIdx p l))) ∧ Below w.heap.size w w' := by
  have HR := Aside0.mk hr
  have HC := Aside0.mk hc
  have HP := Aside0.mk hp
  clear hr hc hp
  go_enter Tryd.func35, Tryd.ntmps35
  go_wp2_with (go_at_call 51; (with_reducible refine (idxf_row p g lb eg A c l _ HR.out HC.out HP.out).mono ?_); rintro e w' ⟨rfl, hb⟩)
  go_ret
  exact ⟨rfl, hb⟩
/-- Whether a column is ok. -/
def impl_TblOk.colB (x : S57) : Bool := (impl_TblCol_ok.f x.f0 x.f1).getD false
/-- Whether a cell is ok. -/
def impl_TblOk.cellB (x : S30) : Bool := (impl_CellOk.f x.f0 x.f1 x.f2 x.f3.f0 x.f3.f1 x.f4.f0 x.f4.f1 x.f5.f0 x.f5.f1 x.f6.f0 x.f6.f1).getD false
/-- Whether a row is wrong. -/
def impl_TblOk.rowW (x : S42) : Bool := decide (5 < (x.f0.length : Int)) || decide (0 ≤ ppIdx (fun c => !impl_TblOk.cellB c) x.f0)
/-- No text of a row is too long to be told. -/
def impl_TblOk.fits (l : List S42) : Bool := l.all fun r => r.f0.all fun c => decide (c.f0.size < 4294967281)
def impl_TblOk.f (_ : Nat) (l0_0 : List S57) (a0_1 : Int) (a0_2 : Int) (l0_3 : List S42) (a0_4 : Int) : Option Bool :=
  if impl_TblOk.fits l0_3 = true then ((impl_in.f (l0_3.length : Int) 1 8).bind fun b => if b = true then (if (l0_0.length : Int) ≤ 8 then ((impl_in.f a0_4 0 3).bind fun b => if b = true then ((impl_in.f a0_1 0 (l0_3.length : Int)).bind fun b => if b = true then ((impl_in.f a0_2 0 (wrap64 ((l0_3.length : Int) - a0_1))).bind fun b => if b = true then (if ¬ 0 ≤ ppIdx (fun c => !impl_TblOk.colB c) l0_0 then some (!decide (0 ≤ ppIdx impl_TblOk.rowW l0_3)) else some false) else some false) else some false) else some false) else some false) else some false) else none
theorem impl_TblOk.inSome (a b c : Int) : ∃ r, impl_in.f a b c = some r := by
  unfold impl_in.f
  split <;> exact ⟨_, rfl⟩
theorem impl_TblOk.colE (x : S57) : impl_TblCol_ok.f x.f0 x.f1 = some (impl_TblOk.colB x) := by
  obtain ⟨b, h⟩ : ∃ b, impl_TblCol_ok.f x.f0 x.f1 = some b := by
    unfold impl_TblCol_ok.f
    obtain ⟨b1, h1⟩ := impl_TblOk.inSome x.f1 0 60
    obtain ⟨b2, h2⟩ := impl_TblOk.inSome x.f1 1 100
    rw [h1, h2]
    simp only [Option.bind_some]
    repeat' split
    all_goals exact ⟨_, rfl⟩
  unfold impl_TblOk.colB
  rw [h]
  rfl
theorem impl_TblOk.brdSome (a b : Int) : ∃ r, impl_BrdOk.f a b = some r := by
  obtain ⟨b1, h1⟩ := impl_TblOk.inSome a 1 3
  obtain ⟨b2, h2⟩ := impl_TblOk.inSome b 1 3
  unfold impl_BrdOk.f impl_BrdLine_drawn.f
  rw [h1, h2]
  simp only [Option.bind_some]
  repeat' split
  all_goals exact ⟨_, rfl⟩
theorem impl_TblOk.cellE (x : S30) (hs : x.f0.size < 4294967281) : impl_CellOk.f x.f0 x.f1 x.f2 x.f3.f0 x.f3.f1 x.f4.f0 x.f4.f1 x.f5.f0 x.f5.f1 x.f6.f0 x.f6.f1 = some (impl_TblOk.cellB x) := by
  obtain ⟨b, h⟩ : ∃ b, impl_CellOk.f x.f0 x.f1 x.f2 x.f3.f0 x.f3.f1 x.f4.f0 x.f4.f1 x.f5.f0 x.f5.f1 x.f6.f0 x.f6.f1 = some b := by
    unfold impl_CellOk.f impl_TxtOk.f
    obtain ⟨b1, h1⟩ := impl_TblOk.inSome x.f1 1 4
    obtain ⟨b2, h2⟩ := impl_TblOk.inSome x.f2 1 4
    obtain ⟨b3, h3⟩ := impl_TblOk.brdSome x.f3.f0 x.f3.f1
    obtain ⟨b4, h4⟩ := impl_TblOk.brdSome x.f4.f0 x.f4.f1
    obtain ⟨b5, h5⟩ := impl_TblOk.brdSome x.f5.f0 x.f5.f1
    obtain ⟨b6, h6⟩ := impl_TblOk.brdSome x.f6.f0 x.f6.f1
    rw [h1, h2, h3, h4, h5, h6, if_pos hs]
    simp only [Option.bind_some]
    repeat' split
    all_goals exact ⟨_, rfl⟩
  unfold impl_TblOk.cellB
  rw [h]
  rfl
set_option maxHeartbeats 2000000 in
set_option maxRecDepth 100000 in
theorem clo_TblOk1 (x : S57) (w : World) :
    Calls Tryd.prog 32 (#[.agg #[.int .i64 x.f0, .int .i64 x.f1]] ++ #[]) w fun e w' => e = .returned (.bool (!impl_TblOk.colB x)) ∧ Below w.heap.size w w' := by
  have hu := Tryd.underlying57
  have A1 := Aside0.mk (impl_TblOk.colE x)
  go_enter Tryd.func32, Tryd.ntmps32
  go_wp2_with (go_at_call 33; (with_reducible refine (impl_TblCol_ok.calls x.f0 x.f1 _ _ A1.out).mono ?_); rintro e W ⟨rfl, hb⟩; have HB := Aside0.mk (below_step (below_alloc (Below.refl w.heap.size w) _) hb); clear hb)
  go_ret
  exact ⟨rfl, HB.out⟩
set_option maxHeartbeats 2000000 in
set_option maxRecDepth 100000 in
theorem clo_TblOk2 (x : S30) (hs : x.f0.size < 4294967281) (w : World) (hM : Txt.MLen w) :
    Calls Tryd.prog 34 (#[.agg #[.string x.f0, .int .i64 x.f1, .int .i64 x.f2, .int .i64 x.f3.f0, .int .i64 x.f3.f1, .int .i64 x.f4.f0, .int .i64 x.f4.f1, .int .i64 x.f5.f0, .int .i64 x.f5.f1, .int .i64 x.f6.f0, .int .i64 x.f6.f1]] ++ #[]) w fun e w' => e = .returned (.bool (!impl_TblOk.cellB x)) ∧ Below w.heap.size w w' := by
  have hu := Tryd.underlying30
  have A1 := Aside0.mk (impl_TblOk.cellE x hs)
  have HM := Aside0.mk hM
  clear hM
  go_enter Tryd.func34, Tryd.ntmps34
  go_wp2_with (go_at_call 19; (with_reducible refine (impl_CellOk.calls _ _ _ _ _ _ _ _ _ _ _ _ _ (Txt.MLen_alloc HM.out _) A1.out).mono ?_); rintro e W ⟨rfl, hb⟩; have HB := Aside0.mk (below_step (below_alloc (Below.refl w.heap.size w) _) hb); clear hb)
  go_ret
  exact ⟨rfl, HB.out⟩
set_option maxHeartbeats 2000000 in
set_option maxRecDepth 100000 in
theorem clo_TblOk3 (A : Option Addr) (c : Nat) (x : S42) (hs : ∀ y ∈ x.f0, y.f0.size < 4294967281) (b1 : Nat) (w : World) (hM : Txt.MLen w) (hr : Kd.C k30 w A x.f0.length x.f0) (hc : x.f0.length ≤ c) (h1 : w.cell? ⟨b1, 0, none⟩ = some (.func (.func 34) #[] #[])) :
    Calls Tryd.prog 36 (#[.agg #[.slice A x.f0.length c, .bool x.f1]] ++ #[.pointer (some ⟨b1, 0, none⟩)]) w fun e w' => e = .returned (.bool (impl_TblOk.rowW x)) ∧ Below w.heap.size w w' := by
  have hu := Tryd.underlying42
  have HM := Aside0.mk hM
  have HR := Aside0.mk hr
  have HC := Aside0.mk hc
  have hb1 := World.block_lt_of_cell? w _ h1
  have hbig := hr.2.1
  clear hM hr hc
  have eg : ∀ args w, (callFunc 34 args).run Tryd.prog w = .ok (.enter 34 args) w := enters_of Tryd.func34 (by kernel_rfl) rfl
  have HP : Aside0 (∀ (W0 : World), Below w.heap.size w W0 → ∀ (W : World) (y : S30), y ∈ x.f0 → Below W0.heap.size W0 W → Calls Tryd.prog 34 (#[.agg #[.string y.f0, .int .i64 y.f1, .int .i64 y.f2, .int .i64 y.f3.f0, .int .i64 y.f3.f1, .int .i64 y.f4.f0, .int .i64 y.f4.f1, .int .i64 y.f5.f0, .int .i64 y.f5.f1, .int .i64 y.f6.f0, .int .i64 y.f6.f1]] ++ #[]) W fun e W' => e = .returned (.bool ((fun c => !impl_TblOk.cellB c) y)) ∧ Below W0.heap.size W0 W') := ⟨fun W0 h0 W y hy hb => (clo_TblOk2 y (hs y hy) W (Txt.MLen_below (Txt.MLen_below HM.out h0) hb)).mono fun e W' ⟨he, hb'⟩ => ⟨he, below_then hb hb.size hb'⟩⟩
  clear hs
  obtain ⟨b, hb⟩ : ∃ b, impl_TblOk.rowW x = b := ⟨_, rfl⟩
  rw [hb]
  unfold impl_TblOk.rowW at hb
  by_cases h5 : 5 < (x.f0.length : Int)
  · have d1 : decide (5 < (x.f0.length : Int)) = true := decide_eq_true h5
    have d2 : decide (5 < x.f0.length) = true := decide_eq_true (by omega)
    rw [d1, Bool.true_or] at hb
    subst hb
    go_enter Tryd.func36, Tryd.ntmps36
    go_wp2
    go_ret
    exact ⟨rfl, below_alloc (Below.refl _ _) _⟩
  · have d1 : decide (5 < (x.f0.length : Int)) = false := decide_eq_false h5
    have d2 : decide (5 < x.f0.length) = false := decide_eq_false (by omega)
    rw [d1, Bool.false_or] at hb
    subst hb
    go_enter Tryd.func36, Tryd.ntmps36
    go_wp2_with (go_at_call 37; (with_reducible refine (cntf_cell (fun c => !impl_TblOk.cellB c) 34 #[] eg A c x.f0 _ (Kd.C_alloc HR.out _) HC.out (HP.out _ (below_alloc (Below.refl _ _) _))).mono ?_); rintro e W ⟨rfl, hb⟩; have HB := Aside0.mk (below_step (below_alloc (Below.refl w.heap.size w) _) hb); clear hb)
    go_ret
    exact ⟨rfl, HB.out⟩
theorem impl_TblOk.allocCell {W : World} {C : Nat} {o : Obj} (h : W.heap[C]? = some o) : ∀ (o' : Obj) (i : Nat), (W.alloc o').cell? ⟨C, i, none⟩ = W.cell? ⟨C, i, none⟩ := fun o' i => (below_alloc (Below.refl _ W) o').cell (p := ⟨C, i, none⟩) (blk_lt h)
theorem impl_TblOk.part {o f : Option Bool} {r : Bool} (h : (o.bind fun t => if t = true then f else some false) = some r) : ∃ b, Aside0 (o = some b) ∧ ((b = false ∧ r = false) ∨ (b = true ∧ f = some r)) := by
  obtain ⟨b, h1, h⟩ := Option.bind_eq_some_iff.1 h
  refine ⟨b, ⟨h1⟩, ?_⟩
  cases b
  · exact .inl ⟨rfl, (Option.some.inj h).symm⟩
  · exact .inr ⟨rfl, h⟩
theorem impl_TblOk.part2 {c : Prop} [Decidable c] {f : Option Bool} {r : Bool} (h : (if c then f else some false) = some r) : (¬ c ∧ r = false) ∨ (c ∧ f = some r) := by
  by_cases hc : c
  · rw [if_pos hc] at h
    exact .inr ⟨hc, h⟩
  · rw [if_neg hc] at h
    exact .inl ⟨hc, (Option.some.inj h).symm⟩
theorem impl_TblOk.fitsE {l : List S42} (h : impl_TblOk.fits l = true) : ∀ x ∈ l, ∀ y ∈ x.f0, y.f0.size < 4294967281 := by
  unfold impl_TblOk.fits at h
  simpa using h
theorem impl_TblOk.mono : ∀ a0 a1 a2 a3 a4 k, LeO (impl_TblOk.f k a0 a1 a2 a3 a4) (impl_TblOk.f (k + 1) a0 a1 a2 a3 a4) := fun _ _ _ _ _ _ => LeO.refl _
set_option maxHeartbeats 4000000 in
set_option maxRecDepth 100000 in
theorem impl_TblOk.calls (k : Nat) (A0_0 : Option Addr) (c0_0 : Nat) (l0_0 : List (S57)) (a0_1 : Int) (a0_2 : Int) (A0_3 : Option Addr) (c0_3 : Nat) (l0_3 : List (S42)) (a0_4 : Int) (r : Bool) (w : World) (hr0_0 : Kd.C k57 w A0_0 l0_0.length l0_0) (hc0_0 : l0_0.length ≤ c0_0) (hr0_3 : Kd.C k42 w A0_3 l0_3.length l0_3) (hc0_3 : l0_3.length ≤ c0_3) (hM : Txt.MLen w) (h : impl_TblOk.f k l0_0 a0_1 a0_2 l0_3 a0_4 = some r) :
    Calls Tryd.prog 11 #[.agg #[.slice A0_0 l0_0.length c0_0, .int .i64 a0_1, .int .i64 a0_2, .slice A0_3 l0_3.length c0_3, .int .i64 a0_4]] w fun e w' => e = .returned (.bool r) ∧ Below w.heap.size w w' := by
  have hu1 := Tryd.underlying26
  have HM := Aside0.mk hM
  have HR0 := Aside0.mk hr0_0
  have HC0 := Aside0.mk hc0_0
  have HR3 := Aside0.mk hr0_3
  have HC3 := Aside0.mk hc0_3
  clear hM hr0_0 hc0_0 hr0_3 hc0_3
  have HB := Aside0.mk (Below.refl w.heap.size w)
  unfold impl_TblOk.f at h
  by_cases hfit : impl_TblOk.fits l0_3 = true
  rotate_left
  · rw [if_neg hfit] at h
    cases h
  rw [if_pos hfit] at h
  have HF := Aside0.mk (impl_TblOk.fitsE hfit)
  clear hfit
  have eg1 : ∀ args w, (callFunc 32 args).run Tryd.prog w = .ok (.enter 32 args) w := enters_of Tryd.func32 (by kernel_rfl) rfl
  have eg3 : ∀ args w, (callFunc 36 args).run Tryd.prog w = .ok (.enter 36 args) w := enters_of Tryd.func36 (by kernel_rfl) rfl
  have HPC : Aside0 (∀ (W0 W : World) (y : S57), y ∈ l0_0 → Below W0.heap.size W0 W → Calls Tryd.prog 32 (#[.agg #[.int .i64 y.f0, .int .i64 y.f1]] ++ #[]) W fun e W' => e = .returned (.bool ((fun c => !impl_TblOk.colB c) y)) ∧ Below W0.heap.size W0 W') := ⟨fun W0 W y _ hb => (clo_TblOk1 y W).mono fun e W' ⟨he, hb'⟩ => ⟨he, below_then hb hb.size hb'⟩⟩
  have HPR : Aside0 (∀ (W0 : World) (b1 : Nat), W0.cell? ⟨b1, 0, none⟩ = some (.func (.func 34) #[] #[]) → Below w.heap.size w W0 → ∀ (W : World) (y : S42) (Ax : Option Addr) (cx : Nat), y ∈ l0_3 → Below W0.heap.size W0 W → Kd.C k30 W Ax y.f0.length y.f0 → y.f0.length ≤ cx → Calls Tryd.prog 36 (#[.agg #[.slice Ax y.f0.length cx, .bool y.f1]] ++ #[.pointer (some ⟨b1, 0, none⟩)]) W fun e W' => e = .returned (.bool (impl_TblOk.rowW y)) ∧ Below W0.heap.size W0 W') := ⟨fun W0 b1 h1 h0 W y Ax cx hy hb hi hl => (clo_TblOk3 Ax cx y (HF.out y hy) b1 W (Txt.MLen_below (Txt.MLen_below HM.out h0) hb) hi hl ((hb.cell (World.block_lt_of_cell? W0 _ h1)).trans h1)).mono fun e W' ⟨he, hb'⟩ => ⟨he, below_then hb hb.size hb'⟩⟩
  have e1 : IntKind.i64.wrap ((l0_3.length : Int) - a0_1) = wrap64 ((l0_3.length : Int) - a0_1) := by simp [IntKind.wrap_i64, wrap64]
  obtain ⟨b1, A1, ⟨rfl, rfl⟩ | ⟨rfl, h⟩⟩ := impl_TblOk.part h
  rotate_left
  obtain ⟨hn, rfl⟩ | ⟨hn, h⟩ := impl_TblOk.part2 h
  have d1 : decide (8 < (l0_0.length : Int)) = true := decide_eq_true (by omega)
  have d2 : decide (8 < l0_0.length) = true := decide_eq_true (by omega)
  rotate_left
  have d1 : decide (8 < (l0_0.length : Int)) = false := decide_eq_false (by omega)
  have d2 : decide (8 < l0_0.length) = false := decide_eq_false (by omega)
  obtain ⟨b2, A2, ⟨rfl, rfl⟩ | ⟨rfl, h⟩⟩ := impl_TblOk.part h
  rotate_left
  obtain ⟨b3, A3, ⟨rfl, rfl⟩ | ⟨rfl, h⟩⟩ := impl_TblOk.part h
  rotate_left
  obtain ⟨b4, A4, ⟨rfl, rfl⟩ | ⟨rfl, h⟩⟩ := impl_TblOk.part h
  rotate_left
  obtain ⟨hp, rfl⟩ | ⟨hp, h⟩ := impl_TblOk.part2 h
  have d3 : decide (0 ≤ ppIdx (fun c => !impl_TblOk.colB c) l0_0) = true := decide_eq_true (Classical.not_not.1 hp)
  rotate_left
  have d3 : decide (0 ≤ ppIdx (fun c => !impl_TblOk.colB c) l0_0) = false := decide_eq_false hp
  obtain rfl := Option.some.inj h
  all_goals
    clear h
    go_enter Tryd.func11, Tryd.ntmps11
    go_wp2_with (first | (go_at_call 20; (first | (with_reducible refine (impl_in.calls _ _ _ _ _ A1.out).mono ?_) | (with_reducible refine (impl_in.calls _ _ _ _ _ A2.out).mono ?_) | (with_reducible refine (impl_in.calls _ _ _ _ _ A3.out).mono ?_) | (with_reducible refine (impl_in.calls _ _ _ _ _ A4.out).mono ?_)); rintro e W' ⟨rfl, ⟨nd, rfl⟩⟩) | (go_at_call 31; (with_reducible refine (cntf_col (fun c => !impl_TblOk.colB c) 32 #[] eg1 A0_0 c0_0 l0_0 _ ?hr HC0.out (HPC.out _)).mono ?_); (case hr => repeat (first | exact HR0.out | (with_reducible refine Kd.C_alloc ?_ _) | (with_reducible refine Kd.C_drewN ?_ _) | (with_reducible refine Kd.C_drew ?_))); rintro e W1 ⟨rfl, hb⟩; have HG : Aside0 (W1.heap[w.heap.size]? = some (.cells #[.slice A0_0 l0_0.length c0_0, .int .i64 a0_1, .int .i64 a0_2, .slice A0_3 l0_3.length c0_3, .int .i64 a0_4] 26 (0, 0))) := ⟨blk_below (by (with_reducible repeat (first | refine blk_drewN ?_ _ | refine blk_drew ?_)); exact blk_new w _) hb⟩; have n1 : Aside0 (Below w.heap.size w W1) := ⟨below_step (by (repeat (with_reducible first | exact Below.refl _ _ | exact HB.out | apply below_alloc | apply pw_below_drewN | apply below_drew1))) hb⟩; clear HB hb; have HB := n1; clear n1; have q3 : W1.cell? ⟨w.heap.size, 3, none⟩ = some (.slice A0_3 l0_3.length c0_3) := (blk_cell HG.out 3).trans rfl; have n3 := impl_TblOk.allocCell HG.out) | (go_at_call 35; (with_reducible refine (cntf_row impl_TblOk.rowW 36 #[.pointer (some ⟨W1.heap.size, 0, none⟩)] eg3 A0_3 c0_3 l0_3 _ (Kd.C_below HR3.out HB.out) HC3.out (HPR.out _ W1.heap.size ?h1 HB.out)).mono ?_); (case h1 => exact (blk_cell HN.out 0).trans rfl); rintro e W2 ⟨rfl, hb2⟩; have n1 : Aside0 (Below w.heap.size w W2) := ⟨below_step HB.out hb2⟩; clear HB hb2; have HB := n1; clear n1) | (show wpList _ _ _ _ _ (World.alloc W1 _); with_reducible refine wpList_put _ _ _ rfl rfl W1.heap.size 0 rfl (.func (.func 34) #[] #[]) rfl _ #[.nilFunc] #[.func (.func 34) #[] #[]] (blk_new W1 _) (by kernel_rfl) rfl rfl rfl (fun W9 hp => ?_); have n1 : Aside0 (Below w.heap.size w W9) := ⟨hp.below (below_alloc HB.out _) HB.out.size⟩; have n2 := Aside0.mk (hp.keep (blk_alloc HG.out _) (by have := blk_lt HG.out; omega)); have HN := Aside0.mk hp.blk; clear HB HG hp q3 n3; have HB := n1; have HG := n2; clear n1 n2; have q3 : W9.cell? ⟨w.heap.size, 3, none⟩ = some (.slice A0_3 l0_3.length c0_3) := (blk_cell HG.out 3).trans rfl))
    go_ret
    exact ⟨rfl, by (repeat (with_reducible first | exact Below.refl _ _ | exact HB.out | apply below_alloc | apply pw_below_drewN | apply below_drew1))⟩

/-! ### impl_TblCell: function 53 (by hand) -/
set_option maxHeartbeats 2000000 in
set_option maxRecDepth 100000 in
/-- slices.Clone: the same members in a block of its own. -/
theorem clone_cell (A : Option Addr) (c : Nat) (l : List S30) (w : World) (hr : Kd.C k30 w A l.length l) (hl : l.length < 1466015503701) :
    Calls Tryd.prog 53 #[.slice A l.length c] w fun e w' => ∃ v, e = .returned v ∧ Kd.R k30 30 w' w.heap.size (fun _ => True) v l ∧ Below w.heap.size w w' := by
  have HR := Aside0.mk hr
  have hu := Tryd.underlying40
  cases A with
  | none =>
    have hz : l.length = 0 := by
      rcases Nat.eq_zero_or_pos l.length with h | h
      · exact h
      · obtain ⟨ad, e, _⟩ := hr.2.2 h
        cases e
    have hl0 : l = [] := List.length_eq_zero_iff.1 hz
    subst hl0
    clear hr hz
    have hq : (binOp .eql 40 (.slice none 0 c) (.slice none 0 0)).run Tryd.prog w = .ok (.bool true) w := nil_eq hu _ _ _
    go_enter Tryd.func53, Tryd.ntmps53
    go_wp2
    go_ret
    exact ⟨_, rfl, Kd.R_nil _ _ _ _ _, Below.refl _ _⟩
  | some ad =>
    clear hr
    have hq : (binOp .eql 40 (.slice (some ad) l.length c) (.slice none 0 0)).run Tryd.prog w = .ok (.bool false) w := nil_ne hu _ _ _ _
    go_enter Tryd.func53, Tryd.ntmps53
    go_wp2_with (first | (refine wpList_step (Kd.R_lit_step (w0 := w) k30 w.heap.size 30 ?hg (N := 5) ?hd (xs := ([] : List S30)) (inner := []) (ok := fun _ => True) (okp := fun _ => True) ?hr ?hp (fun _ hk => hk) trivial (Below.refl _ _) (Nat.le_refl _) (by simp) ?_); (case hd => rfl); (case hg => rfl); (case hr => first | (go_simp; done) | (go_simp; rfl)); (case hp => exact (Reps.none _ _)); intro v1 w1 ho1 hb1 hg1 hn1; have HO1 := Aside0.mk ho1; have HB1 := Aside0.mk hb1; clear ho1 hb1 hg1 hn1) | (refine wpList_step (Kd.R_append_rows_step k30 (w0 := w) w.heap.size (by rfl) (.tmp 5) (.tmp 6) 40 30 (.agg #[(.string ⟨#[]⟩), (.int .i64 0), (.int .i64 0), (.int .i64 0), (.int .i64 0), (.int .i64 0), (.int .i64 0), (.int .i64 0), (.int .i64 0), (.int .i64 0), (.int .i64 0)]) 96 rfl Tryd.underlying40 (by kernel_rfl) rfl (by decide) (by decide) v1 [] l (some ad) l.length c (fun _ => True) (fun _ => False) rfl rfl HO1.out (Kd.C_below HR.out HB1.out) (fun _ _ h => h) (fun _ h => h.elim) (fun _ _ => trivial) HB1.out HB1.out.size (by simp only [List.length_nil]; omega) ?_); intro v2 w2 ho2 hb2 hg2 hat2))
    go_ret
    exact ⟨_, rfl, ho2, hb2⟩
def impl_TblCell.f (l0 : List S30) : Option (List S30) := if l0.length < 1466015503701 then some l0 else none
theorem impl_TblCell.calls (A0 : Option Addr) (c0 : Nat) (l0 : List (S30)) (r : List (S30)) (w : World) (hr0 : Kd.C k30 w A0 l0.length l0) (hc0 : l0.length ≤ c0) (h : impl_TblCell.f l0 = some r) :
    Calls Tryd.prog 53 #[.slice A0 l0.length c0] w fun e w' => ∃ v0_ : Value, e = .returned (v0_) ∧ Kd.R k30 30 w' w.heap.size (fun _ => True) v0_ r ∧ Below w.heap.size w w' := by
  unfold impl_TblCell.f at h
  split at h
  · obtain rfl := Option.some.inj h
    exact clone_cell A0 c0 l0 w hr0 (by assumption)
  · cases h

/-! ### impl_TblCol: function 54 (by hand) -/
set_option maxHeartbeats 2000000 in
set_option maxRecDepth 100000 in
/-- slices.Clone: the same members in a block of its own. -/
theorem clone_col (A : Option Addr) (c : Nat) (l : List S57) (w : World) (hr : Kd.C k57 w A l.length l) (hl : l.length < 8796093022208) :
    Calls Tryd.prog 54 #[.slice A l.length c] w fun e w' => ∃ v, e = .returned v ∧ Kd.R k57 57 w' w.heap.size (fun _ => True) v l ∧ Below w.heap.size w w' := by
  have HR := Aside0.mk hr
  have hu := Tryd.underlying23
  cases A with
  | none =>
    have hz : l.length = 0 := by
      rcases Nat.eq_zero_or_pos l.length with h | h
      · exact h
      · obtain ⟨ad, e, _⟩ := hr.2.2 h
        cases e
    have hl0 : l = [] := List.length_eq_zero_iff.1 hz
    subst hl0
    clear hr hz
    have hq : (binOp .eql 23 (.slice none 0 c) (.slice none 0 0)).run Tryd.prog w = .ok (.bool true) w := nil_eq hu _ _ _
    go_enter Tryd.func54, Tryd.ntmps54
    go_wp2
    go_ret
    exact ⟨_, rfl, Kd.R_nil _ _ _ _ _, Below.refl _ _⟩
  | some ad =>
    clear hr
    have hq : (binOp .eql 23 (.slice (some ad) l.length c) (.slice none 0 0)).run Tryd.prog w = .ok (.bool false) w := nil_ne hu _ _ _ _
    go_enter Tryd.func54, Tryd.ntmps54
    go_wp2_with (first | (refine wpList_step (Kd.R_lit_step (w0 := w) k57 w.heap.size 57 ?hg (N := 5) ?hd (xs := ([] : List S57)) (inner := []) (ok := fun _ => True) (okp := fun _ => True) ?hr ?hp (fun _ hk => hk) trivial (Below.refl _ _) (Nat.le_refl _) (by simp) ?_); (case hd => rfl); (case hg => rfl); (case hr => first | (go_simp; done) | (go_simp; rfl)); (case hp => exact (Reps.none _ _)); intro v1 w1 ho1 hb1 hg1 hn1; have HO1 := Aside0.mk ho1; have HB1 := Aside0.mk hb1; clear ho1 hb1 hg1 hn1) | (refine wpList_step (Kd.R_append_rows_step k57 (w0 := w) w.heap.size (by rfl) (.tmp 5) (.tmp 6) 23 57 (.agg #[(.int .i64 0), (.int .i64 0)]) 16 rfl Tryd.underlying23 (by kernel_rfl) rfl (by decide) (by decide) v1 [] l (some ad) l.length c (fun _ => True) (fun _ => False) rfl rfl HO1.out (Kd.C_below HR.out HB1.out) (fun _ _ h => h) (fun _ h => h.elim) (fun _ _ => trivial) HB1.out HB1.out.size (by simp only [List.length_nil]; omega) ?_); intro v2 w2 ho2 hb2 hg2 hat2))
    go_ret
    exact ⟨_, rfl, ho2, hb2⟩
def impl_TblCol.f (l0 : List S57) : Option (List S57) := if l0.length < 8796093022208 then some l0 else none
theorem impl_TblCol.calls (A0 : Option Addr) (c0 : Nat) (l0 : List (S57)) (r : List (S57)) (w : World) (hr0 : Kd.C k57 w A0 l0.length l0) (hc0 : l0.length ≤ c0) (h : impl_TblCol.f l0 = some r) :
    Calls Tryd.prog 54 #[.slice A0 l0.length c0] w fun e w' => ∃ v0_ : Value, e = .returned (v0_) ∧ Kd.R k57 57 w' w.heap.size (fun _ => True) v0_ r ∧ Below w.heap.size w w' := by
  unfold impl_TblCol.f at h
  split at h
  · obtain rfl := Option.some.inj h
    exact clone_col A0 c0 l0 w hr0 (by assumption)
  · cases h

/-! ### impl_TblTable_copied: function 42 -/
def impl_TblTable_copied.l0 : Nat → List (S42) → List (S42) → Int → Int → List (S57) → Int → Int → List (S42) → Int → Option ((List (S57)) × Int × Int × (List (S42)) × Int)
  | 0, _, _, _, _, _, _, _, _, _ => none
  | k + 1, x3, x7, x8, x9, x307000, x307001, x307002, x307003, x307004 => if x9 < x8 then (if 0 ≤ x9 then (if x9 < (x7.length : Int) then ((impl_TblCell.f ((rd_T42 x7 x9).f0)).bind fun t310 => (if x3.length < 4398046511104 then (impl_TblTable_copied.l0 k (x3 ++ [(⟨t310, (rd_T42 x7 x9).f1⟩ : S42)]) x7 x8 (wrap64 (x9 + 1)) x307000 x307001 x307002 x307003 x307004) else (none))) else (none)) else (none)) else ((impl_TblCol.f x307000).bind fun t316 => (some (t316, x307001, x307002, x3, x307004)))
def impl_TblTable_copied.f (k : Nat) (l0_0 : List (S57)) (a0_1 : Int) (a0_2 : Int) (l0_3 : List (S42)) (a0_4 : Int) : Option ((List (S57)) × Int × Int × (List (S42)) × Int) := impl_TblTable_copied.l0 k ([] : List (S42)) l0_3 (l0_3.length : Int) 0 l0_0 a0_1 a0_2 l0_3 a0_4
theorem impl_TblTable_copied.mono_l : ∀ k, (∀ y0 y1 y2 y3 y4 y5 y6 y7 y8, LeO (impl_TblTable_copied.l0 k y0 y1 y2 y3 y4 y5 y6 y7 y8) (impl_TblTable_copied.l0 (k + 1) y0 y1 y2 y3 y4 y5 y6 y7 y8))
  | 0 => fun _ _ _ _ _ _ _ _ _ r h => by simp [impl_TblTable_copied.l0] at h
  | k + 1 => by
    have ih0 := impl_TblTable_copied.mono_l k
    · intro y0 y1 y2 y3 y4 y5 y6 y7 y8
      unfold impl_TblTable_copied.l0
      repeat' first
      | (with_reducible exact ih0 _ _ _ _ _ _ _ _ _)
      | (with_reducible exact LeO.refl _)
      | (with_reducible exact LeO.none _)
      | (with_reducible refine LeO.ite ?_ ?_)
      | (with_reducible refine LeO.bind ?_ (fun _ => ?_))
      | exact ih0 _ _ _ _ _ _ _ _ _
      | exact LeO.none _
      | refine LeO.ite ?_ ?_
      | refine LeO.bind ?_ (fun _ => ?_)
theorem impl_TblTable_copied.mono : ∀ a0 a1 a2 a3 a4 k, LeO (impl_TblTable_copied.f k a0 a1 a2 a3 a4) (impl_TblTable_copied.f (k + 1) a0 a1 a2 a3 a4) := by
  intro a0 a1 a2 a3 a4 k
  have ih0 := impl_TblTable_copied.mono_l k
  unfold impl_TblTable_copied.f
  repeat' first
      | (with_reducible exact ih0 _ _ _ _ _ _ _ _ _)
      | (with_reducible exact LeO.refl _)
      | (with_reducible exact LeO.none _)
      | (with_reducible refine LeO.ite ?_ ?_)
      | (with_reducible refine LeO.bind ?_ (fun _ => ?_))
      | exact ih0 _ _ _ _ _ _ _ _ _
      | exact LeO.none _
      | refine LeO.ite ?_ ?_
      | refine LeO.bind ?_ (fun _ => ?_)
def impl_TblTable_copied.T5 : Bool × List (List Nat × List Nat) := (true, [([], []), ([], []), ([1], [1]), ([2], [2]), ([], []), ([4], [4]), ([3, 5], [3, 5]), ([6], [6]), ([0, 7, 3], [0, 7]), ([8, 8, 0, 1, 2, 3, 4, 5, 6, 7, 8], [0, 8])])
def impl_TblTable_copied.B5 : List Nat := [0, 0, 2, 6, 0, 16, 62, 126, 255, 511]
theorem impl_TblTable_copied.tab5 : rtab .any (opsOf Tryd.f42 5) = impl_TblTable_copied.T5 := by kernel_rfl
theorem impl_TblTable_copied.bits5 : waitsOk impl_TblTable_copied.T5.2 impl_TblTable_copied.B5 = true := by kernel_rfl
set_option maxHeartbeats 8000000 in
set_option maxRecDepth 100000 in
theorem impl_TblTable_copied.calls (k : Nat) (A0_0 : Option Addr) (c0_0 : Nat) (l0_0 : List (S57)) (a0_1 : Int) (a0_2 : Int) (A0_3 : Option Addr) (c0_3 : Nat) (l0_3 : List (S42)) (a0_4 : Int) (r1 : List (S57)) (r2 : Int) (r3 : Int) (r4 : List (S42)) (r5 : Int) (w : World) (hr0_0 : Kd.C k57 w A0_0 l0_0.length l0_0) (hc0_0 : l0_0.length ≤ c0_0) (hr0_3 : Kd.C k42 w A0_3 l0_3.length l0_3) (hc0_3 : l0_3.length ≤ c0_3) (h : impl_TblTable_copied.f k l0_0 a0_1 a0_2 l0_3 a0_4 = some (r1, r2, r3, r4, r5)) :
    Calls Tryd.prog 42 #[.agg #[.slice A0_0 l0_0.length c0_0, .int .i64 a0_1, .int .i64 a0_2, .slice A0_3 l0_3.length c0_3, .int .i64 a0_4]] w fun e w' => ∃ v0_ v3_ : Value, e = .returned (.agg #[v0_, .int .i64 r2, .int .i64 r3, v3_, .int .i64 r5]) ∧ Kd.R k57 57 w' w.heap.size (fun _ => True) v0_ r1 ∧ Kd.S k42 42 w' w.heap.size (fun _ => True) v3_ r4 ∧ Below w.heap.size w w' := by
  have hu26 := Tryd.underlying26
  have hu42 := Tryd.underlying42
  have HR0_0 := Aside0.mk hr0_0
  have HC0_0 := Aside0.mk hc0_0
  clear hr0_0 hc0_0
  have HR0_3 := Aside0.mk hr0_3
  have HC0_3 := Aside0.mk hc0_3
  clear hr0_3 hc0_3
  have HB := Aside0.mk (Below.refl w.heap.size w)
  have H : (impl_TblTable_copied.l0 k ([] : List (S42)) l0_3 (l0_3.length : Int) 0 l0_0 a0_1 a0_2 l0_3 a0_4) = some (r1, r2, r3, r4, r5) := h
  clear h
  have H' := Aside0.mk H
  clear H
  go_enter Tryd.func42, Tryd.ntmps42
  go_wp2_with (first | ((with_reducible refine gate_dst (N := 1) rfl ?_); refine box_event ?hg (N := 1) ?hd (cs := #[.slice A0_0 l0_0.length c0_0, .int .i64 a0_1, .int .i64 a0_2, .slice A0_3 l0_3.length c0_3, .int .i64 a0_4]) (t := 26) ?hr ?_; (case hd => rfl); (case hg => rfl); (case hr => first | (go_simp; done) | (go_simp; rfl)); intro gb306 hg w2 hbox hb; have n0_ := Aside0.mk (below_step (by repeat (first | (with_reducible first | exact HB.out | apply below_alloc | apply pw_below_drewN | apply below_drew1) | exact HB.out)) hb); have n1_ := Aside0.mk (hbox); have n2_ := Aside0.mk ((by rw [hg]; exact (below_size (by repeat (first | (with_reducible first | exact HB.out | apply below_alloc | apply pw_below_drewN | apply below_drew1) | exact HB.out))) : w.heap.size ≤ gb306)); have n3_ := Aside0.mk ((by rw [hg]; exact (below_size (by repeat (first | (with_reducible first | exact HB.out | apply below_alloc | apply pw_below_drewN | apply below_drew1) | exact HB.out))) : w.heap.size ≤ gb306)); clear HB; have HB := n0_; have BK306 := n1_; have GW306 := n2_; have GE306 := n3_; clear n0_ n1_ n2_ n3_; clear hb hbox hg) | ((with_reducible refine gate_dst (N := 2) rfl ?_); refine box_event ?hg (N := 2) ?hd (cs := #[.slice none 0 0, .int .i64 0, .int .i64 0, .slice none 0 0, .int .i64 0]) (t := 26) ?hr ?_; (case hd => rfl); (case hg => rfl); (case hr => first | (go_simp; done) | (go_simp; rfl)); intro gb307 hg w3 hbox hb; have n0_ := Aside0.mk (blk_below (g := gb306) (o := .cells #[.slice A0_0 l0_0.length c0_0, .int .i64 a0_1, .int .i64 a0_2, .slice A0_3 l0_3.length c0_3, .int .i64 a0_4] 26 (0, 0)) (by (with_reducible repeat (first | refine blk_drewN ?_ _ | refine blk_drew ?_ | refine blk_alloc ?_ _)); exact BK306.out) hb); have n1_ := Aside0.mk (below_step (by repeat (first | (with_reducible first | exact HB.out | apply below_alloc | apply pw_below_drewN | apply below_drew1 | refine below_set ?_ GE306.out) | exact HB.out)) hb); have n2_ := Aside0.mk (hbox); have n3_ := Aside0.mk ((by rw [hg]; exact (below_size (by repeat (first | (with_reducible first | exact HB.out | apply below_alloc | apply pw_below_drewN | apply below_drew1 | refine below_set ?_ GE306.out) | exact HB.out))) : w.heap.size ≤ gb307)); have n4_ := Aside0.mk ((by rw [hg]; exact (below_size (by repeat (first | (with_reducible first | exact HB.out | apply below_alloc | apply pw_below_drewN | apply below_drew1 | refine below_set ?_ GE306.out) | exact HB.out))) : w.heap.size ≤ gb307)); have n5_ := Aside0.mk ((by rw [hg]; exact Nat.ne_of_lt (blk_lt (g := gb306) (o := .cells #[.slice A0_0 l0_0.length c0_0, .int .i64 a0_1, .int .i64 a0_2, .slice A0_3 l0_3.length c0_3, .int .i64 a0_4] 26 (0, 0)) (by (with_reducible repeat (first | refine blk_drewN ?_ _ | refine blk_drew ?_ | refine blk_alloc ?_ _)); exact BK306.out)) : gb306 ≠ gb307)); have n6_ := Aside0.mk ((by rw [hg]; exact Nat.ne_of_gt (blk_lt (g := gb306) (o := .cells #[.slice A0_0 l0_0.length c0_0, .int .i64 a0_1, .int .i64 a0_2, .slice A0_3 l0_3.length c0_3, .int .i64 a0_4] 26 (0, 0)) (by (with_reducible repeat (first | refine blk_drewN ?_ _ | refine blk_drew ?_ | refine blk_alloc ?_ _)); exact BK306.out)) : gb307 ≠ gb306)); clear BK306; clear HB; have BK306 := n0_; have HB := n1_; have BK307 := n2_; have GW307 := n3_; have GE307 := n4_; have NB306_307 := n5_; have NB307_306 := n6_; clear n0_ n1_ n2_ n3_ n4_ n5_ n6_; clear hb hbox hg; have hnb4 := NB306_307.out; have hnc4 := NB307_306.out; have hcz5_0 : w3.cell? ⟨gb306, 0, none⟩ = some (.slice A0_0 l0_0.length c0_0) := (blk_cell BK306.out 0).trans rfl; have hcz5_1 : w3.cell? ⟨gb306, 1, none⟩ = some (.int .i64 a0_1) := (blk_cell BK306.out 1).trans rfl; have hcz5_2 : w3.cell? ⟨gb306, 2, none⟩ = some (.int .i64 a0_2) := (blk_cell BK306.out 2).trans rfl; have hcz5_3 : w3.cell? ⟨gb306, 3, none⟩ = some (.slice A0_3 l0_3.length c0_3) := (blk_cell BK306.out 3).trans rfl; have hcz5_4 : w3.cell? ⟨gb306, 4, none⟩ = some (.int .i64 a0_4) := (blk_cell BK306.out 4).trans rfl; have hfz5_0 := blk_frozen BK306.out 0; have hfz5_1 := blk_frozen BK306.out 1; have hfz5_2 := blk_frozen BK306.out 2; have hfz5_3 := blk_frozen BK306.out 3; have hfz5_4 := blk_frozen BK306.out 4))
  go_loopg [3, 9] k (fun kq v3 v9 w' => ∃ (x3_1 : List (S42)) (x9_1 : Int), v9 = .int .i64 x9_1 ∧ Aside0 (impl_TblTable_copied.l0 kq x3_1 l0_3 (l0_3.length : Int) x9_1 l0_0 a0_1 a0_2 l0_3 a0_4 = some (r1, r2, r3, r4, r5)) ∧ Aside0 (kq ≤ k) ∧ Aside0 (Kd.S k42 42 w' w.heap.size (fun _ => True) v3 x3_1) ∧ Aside0 (w'.heap[gb306]? = some (.cells #[(.slice A0_0 l0_0.length c0_0), .int .i64 a0_1, .int .i64 a0_2, (.slice A0_3 l0_3.length c0_3), .int .i64 a0_4] 26 (0, 0))) ∧ Aside0 (w'.heap[gb307]? = some (.cells #[(.slice none 0 0), .int .i64 0, .int .i64 0, (.slice none 0 0), .int .i64 0] 26 (0, 0))) ∧ Aside0 (Below w.heap.size w w'))
  case atStart => exact ⟨(([] : List (S42))), (0), (by first | rfl | (simp; done) | (simp [*]; done)), H', ⟨Nat.le_refl _⟩, ⟨by first | exact Kd.S_nil _ _ _ _ _ | exact Kd.N_nil _ _ _ _ _ | exact Kd.V_nil _ _ _ _ _ | exact Kd.Q_nil _ _ _ _ _ | exact Kd.R_nil _ _ _ _ _⟩, ⟨by (with_reducible repeat (first | refine blk_drewN ?_ _ | refine blk_drew ?_ | refine blk_alloc ?_ _)); exact BK306.out⟩, ⟨by (with_reducible repeat (first | refine blk_drewN ?_ _ | refine blk_drew ?_ | refine blk_alloc ?_ _)); exact BK307.out⟩, ⟨by repeat (first | (with_reducible first | exact HB.out | apply below_alloc | apply pw_below_drewN | apply below_drew1 | refine below_set ?_ GE306.out | refine below_set ?_ GE307.out) | exact HB.out)⟩⟩
  case round =>
    clear H'
    try clear p2
    try clear c4
    try clear hcz5_0
    try clear hcz5_1
    try clear hcz5_2
    try clear hcz5_3
    try clear hcz5_4
    try clear hfz5_0
    try clear hfz5_1
    try clear hfz5_2
    try clear hfz5_3
    try clear hfz5_4
    obtain ⟨x3_1, x9_1, rfl, HA, HK1, HO_3, BK306, BK307, HB⟩ := hrel
    cases gk with
    | zero => exact absurd HA.out (by simp [impl_TblTable_copied.l0])
    | succ k1 =>
      have H := HA.out
      clear HA
      simp only [impl_TblTable_copied.l0] at H
      by_cases c6 : x9_1 < (l0_3.length : Int)
      · rw [if_pos c6] at H
        have c6b0 : decide (x9_1 < (l0_3.length : Int)) = true := decide_eq_true c6
        clear c6
        by_cases c7 : 0 ≤ x9_1
        · rw [if_pos c7] at H
          have c7b0 : decide (0 ≤ x9_1) = true := decide_eq_true c7
          clear c7
          by_cases c8 : x9_1 < (l0_3.length : Int)
          · rw [if_pos c8] at H
            have c8b0 : decide (x9_1 < (l0_3.length : Int)) = true := decide_eq_true c8
            clear c8
            replace H := Option.bind_eq_some_iff.mp H
            obtain ⟨t310, A90, H⟩ := H
            replace H : (if x3_1.length < 4398046511104 then (impl_TblTable_copied.l0 k1 (x3_1 ++ [(⟨t310, (rd_T42 l0_3 x9_1).f1⟩ : S42)]) l0_3 (l0_3.length : Int) (wrap64 (x9_1 + 1)) l0_0 a0_1 a0_2 l0_3 a0_4) else (none)) = some (r1, r2, r3, r4, r5) := H
            have A9 := Aside0.mk A90
            clear A90
            by_cases c10 : x3_1.length < 4398046511104
            · rw [if_pos c10] at H
              have LMc10 := Aside0.mk c10
              clear c10
              obtain ⟨y313, hy313⟩ : ∃ y_ : List (S42), y_ = (x3_1 ++ [(⟨t310, (rd_T42 l0_3 x9_1).f1⟩ : S42)]) := ⟨_, rfl⟩
              replace H : (impl_TblTable_copied.l0 k1 y313 l0_3 (l0_3.length : Int) (wrap64 (x9_1 + 1)) l0_0 a0_1 a0_2 l0_3 a0_4) = some (r1, r2, r3, r4, r5) := by first | (rw [hy313]; with_reducible exact H) | (have H2_ := (Option.bind_some _ _).symm.trans H; rw [hy313]; with_reducible exact H2_) | (have H2_ := (Option.bind_some _ _).symm.trans H; with_reducible exact H2_) | with_reducible exact H | (rw [hy313]; exact H) | exact H
              have Ny313 := Aside0.mk hy313
              clear hy313
              have H' := Aside0.mk H
              clear H
              have p308 : 0 ≤ (x9_1 : Int) := of_decide_eq_true (by first | (with_reducible assumption) | assumption)
              have q308 : x9_1 < (l0_3.length : Int) := of_decide_eq_true (by first | (with_reducible assumption) | assumption)
              obtain ⟨ad308, A308_0, c308_0, e308, hx308_0, hx308_1, hl308_0, hi308_0⟩ := at_T42 HR0_3.out x9_1 p308 q308
              cases e308
              replace hx308_0 := (HB.out.cell (World.block_lt_of_cell? w _ hx308_0)).trans hx308_0
              replace hx308_1 := (HB.out.cell (World.block_lt_of_cell? w _ hx308_1)).trans hx308_1
              have HR308_0 := Aside0.mk hi308_0
              have HC308_0 := Aside0.mk hl308_0
              clear hi308_0 hl308_0
              replace p308 := eq_true p308
              replace q308 := eq_true q308
              try go_wp2_with (first | ((with_reducible refine gate_dst (N := 5) rfl ?_); refine box_event ?hg (N := 5) ?hd (cs := #[.slice none 0 0, .bool false]) (t := 42) ?hr ?_; (case hd => rfl); (case hg => rfl); (case hr => first | (go_simp; done) | (go_simp; rfl)); intro gb309 hg w11 hbox hb; have n0_ := Aside0.mk (Kd.S_below (Kd.S_elderB (by (with_reducible repeat (first | apply Kd.S_alloc | apply Kd.S_drewN | apply Kd.S_drew)); exact HO_3.out) gb309 (Nat.le_of_eq hg.symm)) hb); have n1_ := Aside0.mk (blk_below (g := gb306) (o := .cells #[.slice A0_0 l0_0.length c0_0, .int .i64 a0_1, .int .i64 a0_2, .slice (some ad308) l0_3.length c0_3, .int .i64 a0_4] 26 (0, 0)) (by (with_reducible repeat (first | refine blk_drewN ?_ _ | refine blk_drew ?_ | refine blk_alloc ?_ _)); exact BK306.out) hb); have n2_ := Aside0.mk (blk_below (g := gb307) (o := .cells #[.slice none 0 0, .int .i64 0, .int .i64 0, .slice none 0 0, .int .i64 0] 26 (0, 0)) (by (with_reducible repeat (first | refine blk_drewN ?_ _ | refine blk_drew ?_ | refine blk_alloc ?_ _)); exact BK307.out) hb); have n3_ := Aside0.mk (below_step (by repeat (first | (with_reducible first | exact HB.out | apply below_alloc | apply pw_below_drewN | apply below_drew1 | refine below_set ?_ GE306.out | refine below_set ?_ GE307.out) | exact HB.out)) hb); have n4_ := Aside0.mk (hbox); have n5_ := Aside0.mk ((by rw [hg]; exact (below_size (by repeat (first | (with_reducible first | exact HB.out | apply below_alloc | apply pw_below_drewN | apply below_drew1 | refine below_set ?_ GE306.out | refine below_set ?_ GE307.out) | exact HB.out))) : w.heap.size ≤ gb309)); have n6_ := Aside0.mk ((by rw [hg]; exact (below_size (by repeat (first | (with_reducible first | exact HB.out | apply below_alloc | apply pw_below_drewN | apply below_drew1 | refine below_set ?_ GE306.out | refine below_set ?_ GE307.out) | exact HB.out))) : w.heap.size ≤ gb309)); have n7_ := Aside0.mk ((by rw [hg]; exact Nat.ne_of_lt (blk_lt (g := gb306) (o := .cells #[.slice A0_0 l0_0.length c0_0, .int .i64 a0_1, .int .i64 a0_2, .slice (some ad308) l0_3.length c0_3, .int .i64 a0_4] 26 (0, 0)) (by (with_reducible repeat (first | refine blk_drewN ?_ _ | refine blk_drew ?_ | refine blk_alloc ?_ _)); exact BK306.out)) : gb306 ≠ gb309)); have n8_ := Aside0.mk ((by rw [hg]; exact Nat.ne_of_gt (blk_lt (g := gb306) (o := .cells #[.slice A0_0 l0_0.length c0_0, .int .i64 a0_1, .int .i64 a0_2, .slice (some ad308) l0_3.length c0_3, .int .i64 a0_4] 26 (0, 0)) (by (with_reducible repeat (first | refine blk_drewN ?_ _ | refine blk_drew ?_ | refine blk_alloc ?_ _)); exact BK306.out)) : gb309 ≠ gb306)); have n9_ := Aside0.mk ((by rw [hg]; exact Nat.ne_of_lt (blk_lt (g := gb307) (o := .cells #[.slice none 0 0, .int .i64 0, .int .i64 0, .slice none 0 0, .int .i64 0] 26 (0, 0)) (by (with_reducible repeat (first | refine blk_drewN ?_ _ | refine blk_drew ?_ | refine blk_alloc ?_ _)); exact BK307.out)) : gb307 ≠ gb309)); have n10_ := Aside0.mk ((by rw [hg]; exact Nat.ne_of_gt (blk_lt (g := gb307) (o := .cells #[.slice none 0 0, .int .i64 0, .int .i64 0, .slice none 0 0, .int .i64 0] 26 (0, 0)) (by (with_reducible repeat (first | refine blk_drewN ?_ _ | refine blk_drew ?_ | refine blk_alloc ?_ _)); exact BK307.out)) : gb309 ≠ gb307)); clear HO_3; clear BK306; clear BK307; clear HB; have HO_3 := n0_; have BK306 := n1_; have BK307 := n2_; have HB := n3_; have BK309 := n4_; have GW309 := n5_; have GE309 := n6_; have NB306_309 := n7_; have NB309_306 := n8_; have NB307_309 := n9_; have NB309_307 := n10_; clear n0_ n1_ n2_ n3_ n4_ n5_ n6_ n7_ n8_ n9_ n10_; clear hb hbox hg; have hnb12 := NB309_306.out; have hnc12 := NB306_309.out; have hnb13 := NB309_307.out; have hnc13 := NB307_309.out; have hcz14_0 : w11.cell? ⟨gb309, 0, none⟩ = some (.slice none 0 0) := (blk_cell BK309.out 0).trans rfl; have hcz14_1 : w11.cell? ⟨gb309, 1, none⟩ = some (.bool false) := (blk_cell BK309.out 1).trans rfl; have hfz14_0 := blk_frozen BK309.out 0; have hfz14_1 := blk_frozen BK309.out 1))
              have n0_ : Aside0 (Kd.S k42 42 ((w11.setCell ⟨gb309, 0, none⟩ (.slice A308_0 ((rd_T42 l0_3 x9_1).f0).length c308_0)).setCell ⟨gb309, 1, none⟩ (.bool ((rd_T42 l0_3 x9_1).f1))) w.heap.size (fun k_ => k_ ≠ gb309) u3 x3_1) := ⟨by (with_reducible repeat (first | apply Kd.S_alloc | apply Kd.S_drewN | apply Kd.S_drew)); exact Kd.S_mono (Kd.S_far (p := ⟨gb309, 1, none⟩) (Kd.S_far (p := ⟨gb309, 0, none⟩) (Kd.S_mono HO_3.out (fun k_ hk => (⟨hk, hk.2⟩ : _ ∧ k_ ≠ gb309))) (fun _ hk => hk.2) (.slice A308_0 ((rd_T42 l0_3 x9_1).f0).length c308_0)) (fun _ hk => hk.2) (.bool ((rd_T42 l0_3 x9_1).f1))) (fun _ hk => hk.1.2)⟩
              have n1_ : Aside0 (((w11.setCell ⟨gb309, 0, none⟩ (.slice A308_0 ((rd_T42 l0_3 x9_1).f0).length c308_0)).setCell ⟨gb309, 1, none⟩ (.bool ((rd_T42 l0_3 x9_1).f1))).heap[gb306]? = some (.cells #[.slice A0_0 l0_0.length c0_0, .int .i64 a0_1, .int .i64 a0_2, .slice (some ad308) l0_3.length c0_3, .int .i64 a0_4] 26 (0, 0))) := ⟨by (with_reducible repeat (first | refine blk_drewN ?_ _ | refine blk_drew ?_ | refine blk_alloc ?_ _)); refine blk_far ?_ NB306_309.out _; (with_reducible repeat (first | refine blk_drewN ?_ _ | refine blk_drew ?_ | refine blk_alloc ?_ _)); refine blk_far ?_ NB306_309.out _; (with_reducible repeat (first | refine blk_drewN ?_ _ | refine blk_drew ?_ | refine blk_alloc ?_ _)); exact BK306.out⟩
              have n2_ : Aside0 (((w11.setCell ⟨gb309, 0, none⟩ (.slice A308_0 ((rd_T42 l0_3 x9_1).f0).length c308_0)).setCell ⟨gb309, 1, none⟩ (.bool ((rd_T42 l0_3 x9_1).f1))).heap[gb307]? = some (.cells #[.slice none 0 0, .int .i64 0, .int .i64 0, .slice none 0 0, .int .i64 0] 26 (0, 0))) := ⟨by (with_reducible repeat (first | refine blk_drewN ?_ _ | refine blk_drew ?_ | refine blk_alloc ?_ _)); refine blk_far ?_ NB307_309.out _; (with_reducible repeat (first | refine blk_drewN ?_ _ | refine blk_drew ?_ | refine blk_alloc ?_ _)); refine blk_far ?_ NB307_309.out _; (with_reducible repeat (first | refine blk_drewN ?_ _ | refine blk_drew ?_ | refine blk_alloc ?_ _)); exact BK307.out⟩
              have n3_ : Aside0 (((w11.setCell ⟨gb309, 0, none⟩ (.slice A308_0 ((rd_T42 l0_3 x9_1).f0).length c308_0)).setCell ⟨gb309, 1, none⟩ (.bool ((rd_T42 l0_3 x9_1).f1))).heap[gb309]? = some (.cells #[.slice A308_0 ((rd_T42 l0_3 x9_1).f0).length c308_0, .bool ((rd_T42 l0_3 x9_1).f1)] 42 (0, 0))) := ⟨by (with_reducible repeat (first | refine blk_drewN ?_ _ | refine blk_drew ?_ | refine blk_alloc ?_ _)); refine blk_put (cs := #[.slice A308_0 ((rd_T42 l0_3 x9_1).f0).length c308_0, .bool false]) ?_ 1 _ rfl; (with_reducible repeat (first | refine blk_drewN ?_ _ | refine blk_drew ?_ | refine blk_alloc ?_ _)); refine blk_put (cs := #[.slice none 0 0, .bool false]) ?_ 0 _ rfl; (with_reducible repeat (first | refine blk_drewN ?_ _ | refine blk_drew ?_ | refine blk_alloc ?_ _)); exact BK309.out⟩
              have n4_ : Aside0 (Below w.heap.size w ((w11.setCell ⟨gb309, 0, none⟩ (.slice A308_0 ((rd_T42 l0_3 x9_1).f0).length c308_0)).setCell ⟨gb309, 1, none⟩ (.bool ((rd_T42 l0_3 x9_1).f1)))) := ⟨by repeat (first | (with_reducible first | exact HB.out | apply below_alloc | apply pw_below_drewN | apply below_drew1 | refine below_set ?_ GE306.out | refine below_set ?_ GE307.out | refine below_set ?_ GE309.out) | exact HB.out)⟩
              (try clear HO_3)
              (try clear BK306)
              (try clear BK307)
              (try clear BK309)
              (try clear HB)
              generalize ((w11.setCell ⟨gb309, 0, none⟩ (.slice A308_0 ((rd_T42 l0_3 x9_1).f0).length c308_0)).setCell ⟨gb309, 1, none⟩ (.bool ((rd_T42 l0_3 x9_1).f1))) = w15 at n0_ n1_ n2_ n3_ n4_ ⊢
              have HO_3 := n0_
              have BK306 := n1_
              have BK307 := n2_
              have BK309 := n3_
              have HB := n4_
              clear n0_ n1_ n2_ n3_ n4_
              have n0_ := Aside0.mk (Kd.S_drew HO_3.out)
              have n1_ := Aside0.mk (blk_drew BK306.out)
              have n2_ := Aside0.mk (blk_drew BK307.out)
              have n3_ := Aside0.mk (blk_drew BK309.out)
              have n4_ := Aside0.mk (below_drew1 HB.out)
              clear HO_3
              clear BK306
              clear BK307
              clear BK309
              clear HB
              have HO_3 := n0_
              have BK306 := n1_
              have BK307 := n2_
              have BK309 := n3_
              have HB := n4_
              clear n0_ n1_ n2_ n3_ n4_
              refine start_ (n := 10) (S := fun w' => w'.cell? ⟨gb309, 0, none⟩ = some (.slice A308_0 ((rd_T42 l0_3 x9_1).f0).length c308_0) ∧ w'.cell? ⟨gb309, 1, none⟩ = some (.bool ((rd_T42 l0_3 x9_1).f1))) (ds := []) #[false, false, false, false, false, false, false, false, false, false] (by kernel_rfl) rfl rfl ⟨(blk_cell BK309.out 0).trans rfl, (blk_cell BK309.out 1).trans rfl⟩ (fun hHeld => ?_); refine with_tabW impl_TblTable_copied.tab5 impl_TblTable_copied.bits5 (fun HT_ HW_ => ?_)
              generalize w15.drew = w16 at HO_3 BK306 BK307 BK309 HB hHeld ⊢
              refine pure_ (i := 0) (N := some 13) (v := ?_) (a' := ?_) #[true, false, false, false, false, false, false, false, false, false] rfl rfl (any_of HT_.out (by kernel_rfl)) (fun _ _ _ h => h) (Or.inl ⟨by rfl, ?_⟩) ?_ ?_
              rotate_left
              · intro w'
                go_simp
                with_reducible rfl
              rotate_left
              · simp only [Act.put, List.setIfInBounds_toArray, List.set_cons_zero, List.set_cons_succ, i64_w, i32_w]
                rfl
              refine pure_ (i := 1) (N := some 14) (v := ?_) (a' := ?_) #[true, true, false, false, false, false, false, false, false, false] rfl rfl (any_of HT_.out (by kernel_rfl)) (fun _ _ _ h => h) (Or.inl ⟨by rfl, ?_⟩) ?_ ?_
              rotate_left
              · intro w'
                go_simp
                with_reducible rfl
              rotate_left
              · simp only [Act.put, List.setIfInBounds_toArray, List.set_cons_zero, List.set_cons_succ, i64_w, i32_w]
                rfl
              refine pure_ (i := 4) (N := some 17) (v := ?_) (a' := ?_) #[true, true, false, false, true, false, false, false, false, false] rfl rfl (any_of HT_.out (by kernel_rfl)) (fun _ _ _ h => h) (Or.inl ⟨by rfl, ?_⟩) ?_ ?_
              rotate_left
              · intro w'
                go_simp
                with_reducible rfl
              rotate_left
              · simp only [Act.put, List.setIfInBounds_toArray, List.set_cons_zero, List.set_cons_succ, i64_w, i32_w]
                rfl
              refine take_ (i := 2) (N := some 15) (v := ?_) (a' := ?_) #[true, true, true, false, true, false, false, false, false, false] rfl rfl (take_ofW HT_.out HW_.out (by kernel_rfl)) (fun _ _ _ h => h) (Or.inl ⟨by rfl, ?_⟩) hHeld ?_ ?_
              rotate_left
              · rintro w' ⟨s0, s1⟩
                go_simp
                with_reducible rfl
              rotate_left
              · simp only [Act.put, List.setIfInBounds_toArray, List.set_cons_zero, List.set_cons_succ, i64_w, i32_w]
                rfl
              refine take_ (i := 5) (N := some 18) (v := ?_) (a' := ?_) #[true, true, true, false, true, true, false, false, false, false] rfl rfl (take_ofW HT_.out HW_.out (by kernel_rfl)) (fun _ _ _ h => h) (Or.inl ⟨by rfl, ?_⟩) hHeld ?_ ?_
              rotate_left
              · rintro w' ⟨s0, s1⟩
                go_simp
                with_reducible rfl
              rotate_left
              · simp only [Act.put, List.setIfInBounds_toArray, List.set_cons_zero, List.set_cons_succ, i64_w, i32_w]
                rfl
              refine one_ (i := 3) (N := some 16) #[true, true, true, true, true, true, false, false, false, false] rfl rfl (one_of HT_.out (by kernel_rfl)) (by decide) (fun K hK => ?_)
              refine goes_ Tryd.func53 (by kernel_rfl) rfl #[.slice A308_0 ((rd_T42 l0_3 x9_1).f0).length c308_0] (by rfl) rfl rfl (by (try simp only [List.map_toArray, List.map_cons, List.map_nil]); first | done | rfl | (simp only [List.length_drop, List.length_take]; rfl)) ?_
              with_reducible refine (impl_TblCell.calls _ _ ((rd_T42 l0_3 x9_1).f0) t310 _ ?side1 ?side2 A9.out).mono ?_
              (case side1 => repeat (first | exact HR308_0.out | exact (Kd.C_below HR308_0.out HB.out) | (with_reducible refine Kd.C_alloc ?_ _) | (with_reducible refine Kd.C_drewN ?_ _) | (with_reducible refine Kd.C_drew ?_)))
              (case side2 => exact HC308_0.out)
              rintro e w17 ⟨v311, rfl, ho0, hb⟩
              refine ⟨_, rfl, ?_⟩
              have n0_ := Aside0.mk (Kd.S_elder' (by (with_reducible repeat (first | apply Kd.S_alloc | apply Kd.S_drewN | apply Kd.S_drew)); exact HO_3.out) (Kd.R_base ho0) hb)
              have n1_ := Aside0.mk (Kd.R_lower ho0 (below_size (by repeat (first | (with_reducible first | exact HB.out | apply below_alloc | apply pw_below_drewN | apply below_drew1 | refine below_set ?_ GE306.out | refine below_set ?_ GE307.out | refine below_set ?_ GE309.out) | exact HB.out))))
              have n2_ := Aside0.mk (blk_below (g := gb306) (o := .cells #[.slice A0_0 l0_0.length c0_0, .int .i64 a0_1, .int .i64 a0_2, .slice (some ad308) l0_3.length c0_3, .int .i64 a0_4] 26 (0, 0)) (by (with_reducible repeat (first | refine blk_drewN ?_ _ | refine blk_drew ?_ | refine blk_alloc ?_ _)); exact BK306.out) hb)
              have n3_ := Aside0.mk (blk_below (g := gb307) (o := .cells #[.slice none 0 0, .int .i64 0, .int .i64 0, .slice none 0 0, .int .i64 0] 26 (0, 0)) (by (with_reducible repeat (first | refine blk_drewN ?_ _ | refine blk_drew ?_ | refine blk_alloc ?_ _)); exact BK307.out) hb)
              have n4_ := Aside0.mk (blk_below (g := gb309) (o := .cells #[.slice A308_0 ((rd_T42 l0_3 x9_1).f0).length c308_0, .bool ((rd_T42 l0_3 x9_1).f1)] 42 (0, 0)) (by (with_reducible repeat (first | refine blk_drewN ?_ _ | refine blk_drew ?_ | refine blk_alloc ?_ _)); exact BK309.out) hb)
              have n5_ := Aside0.mk (below_step (by repeat (first | (with_reducible first | exact HB.out | apply below_alloc | apply pw_below_drewN | apply below_drew1 | refine below_set ?_ GE306.out | refine below_set ?_ GE307.out | refine below_set ?_ GE309.out) | exact HB.out)) hb)
              clear HO_3
              clear BK306
              clear BK307
              clear BK309
              clear HB
              have HO_3 := n0_
              have HO312 := n1_
              have BK306 := n2_
              have BK307 := n3_
              have BK309 := n4_
              have HB := n5_
              clear n0_ n1_ n2_ n3_ n4_ n5_
              (try clear hb)
              (try clear hb2)
              (try clear hk)
              (try clear hi)
              (try clear ho0)
              obtain ⟨Ao18, co18, eo18⟩ := Kd.R_slice HO312.out
              (first | subst eo18 | (injection eo18 with f1_ f2_ f3_; have f4_ := f1_.symm; have f5_ := f3_.symm; clear f1_ f2_ f3_; subst f4_; subst f5_))
              refine hK.out _ _ ⟨(blk_cell BK309.out 0).trans rfl, (blk_cell BK309.out 1).trans rfl⟩ (fun hHeld => ?_)
              clear hK K
              refine norm_ (a' := ?_) ?_ ?_
              rotate_left
              · show Act.put _ (some 16) _ = _
                simp only [Act.put, List.setIfInBounds_toArray, List.set_cons_zero, List.set_cons_succ, i64_w, i32_w]
                rfl
              refine pure_ (i := 6) (N := some 19) (v := ?_) (a' := ?_) #[true, true, true, true, true, true, true, false, false, false] rfl rfl (any_of HT_.out (by kernel_rfl)) (fun _ _ _ h => h) (Or.inl ⟨by rfl, ?_⟩) ?_ ?_
              rotate_left
              · intro w'
                go_simp
                with_reducible rfl
              rotate_left
              · simp only [Act.put, List.setIfInBounds_toArray, List.set_cons_zero, List.set_cons_succ, i64_w, i32_w]
                rfl
              refine one_ (i := 7) (N := some 20) #[true, true, true, true, true, true, true, true, false, false] rfl rfl (one_of HT_.out (by kernel_rfl)) (by decide) (fun K hK => ?_)
              refine value_ (w1 := ?_) (v := ?_) (by rfl) rfl ?_ ?_
              rotate_left 2
              · go_simp
                constructor
                · rfl
                · rfl
              refine hK.out _ _ ⟨(blk_cell (blk_alloc BK309.out _) 0).trans rfl, (blk_cell (blk_alloc BK309.out _) 1).trans rfl⟩ (fun hHeld => ?_)
              clear hK K
              refine norm_ (a' := ?_) ?_ ?_
              rotate_left
              · show Act.put _ (some 20) _ = _
                simp only [Act.put, List.setIfInBounds_toArray, List.set_cons_zero, List.set_cons_succ, i64_w, i32_w]
                rfl
              refine one_ (i := 8) (N := some 21) #[true, true, true, true, true, true, true, true, true, false] rfl rfl (one_of HT_.out (by kernel_rfl)) (by decide) (fun K hK => ?_)
              refine Kd.S_append_step k42 (w0 := w) w.heap.size (by rfl) (.tmp 13) (.tmp 20) 24 42 (.agg #[(.slice none 0 0), (.bool false)]) 32 rfl Tryd.underlying24 info42 rfl (by decide) (by omega) u3 x3_1 (⟨t310, (rd_T42 l0_3 x9_1).f1⟩ : S42) [.slice Ao18 t310.length co18, .bool ((rd_T42 l0_3 x9_1).f1)] (fun k_ => k_ ≠ gb309) (fun k_ => some k_ = (.slice Ao18 t310.length co18 : Value).ownBlock) rfl rfl ?aP (fun k_ hk_ => ((Kd.R_mono (ok' := fun k_ => ((fun k_ => k_ ≠ gb309)) k_ ∧ some k_ ≠ (u3 : Value).ownBlock) (Kd.R_types (Kd.R_apart' (HO312.out) (Kd.S_typed HO_3.out) (by decide)) BK309.out (by decide)) (fun k_ hk => ⟨hk.2, hk.1.2⟩))).1 k_ hk_.symm) ?aF ?aO ?aB ?aS ?aL ?_
              (case aP => exact k42_mkM _ _ _ (⟨t310, (rd_T42 l0_3 x9_1).f1⟩ : S42) (Kd.R_mono (Kd.R_tight rfl (Kd.R_mono (ok' := fun k_ => ((fun k_ => k_ ≠ gb309)) k_ ∧ some k_ ≠ (u3 : Value).ownBlock) (Kd.R_types (Kd.R_apart' (HO312.out) (Kd.S_typed HO_3.out) (by decide)) BK309.out (by decide)) (fun k_ hk => ⟨hk.2, hk.1.2⟩))) (fun _ h_ => h_)))
              (case aB => exact (by repeat (first | (with_reducible first | exact HB.out | apply below_alloc | apply pw_below_drewN | apply below_drew1 | refine below_set ?_ GE306.out | refine below_set ?_ GE307.out | refine below_set ?_ GE309.out) | exact HB.out)))
              (case aF => exact (fun k_ hk => Kd.freshB (g := gb309) (o := .cells #[.slice A308_0 ((rd_T42 l0_3 x9_1).f0).length c308_0, .bool ((rd_T42 l0_3 x9_1).f1)] 42 (0, 0)) (by (with_reducible repeat (first | refine blk_drewN ?_ _ | refine blk_drew ?_ | refine blk_alloc ?_ _)); exact BK309.out) k_ hk))
              (case aO => exact (by (with_reducible repeat (first | apply Kd.S_alloc | apply Kd.S_drewN | apply Kd.S_drew)); exact Kd.S_mono HO_3.out (fun k_ hk => ⟨hk.1, fun e_ => hk.2 e_⟩)))
              (case aS => exact (below_size (by repeat (first | (with_reducible first | exact HB.out | apply below_alloc | apply pw_below_drewN | apply below_drew1 | refine below_set ?_ GE306.out | refine below_set ?_ GE307.out | refine below_set ?_ GE309.out) | exact HB.out))))
              (case aL => have := LMc10.out; omega)
              intro v314 w19 ho hb hg hat
              rw [← Ny313.out] at ho
              have n0_ := Aside0.mk (blk_grown (g := gb306) (o := .cells #[.slice A0_0 l0_0.length c0_0, .int .i64 a0_1, .int .i64 a0_2, .slice (some ad308) l0_3.length c0_3, .int .i64 a0_4] 26 (0, 0)) (by (with_reducible repeat (first | refine blk_drewN ?_ _ | refine blk_drew ?_ | refine blk_alloc ?_ _)); exact BK306.out) hg (Kd.S_ne HO_3.out BK306.out (by decide)))
              have n1_ := Aside0.mk (blk_grown (g := gb307) (o := .cells #[.slice none 0 0, .int .i64 0, .int .i64 0, .slice none 0 0, .int .i64 0] 26 (0, 0)) (by (with_reducible repeat (first | refine blk_drewN ?_ _ | refine blk_drew ?_ | refine blk_alloc ?_ _)); exact BK307.out) hg (Kd.S_ne HO_3.out BK307.out (by decide)))
              have n2_ := Aside0.mk (blk_grown (g := gb309) (o := .cells #[.slice A308_0 ((rd_T42 l0_3 x9_1).f0).length c308_0, .bool ((rd_T42 l0_3 x9_1).f1)] 42 (0, 0)) (by (with_reducible repeat (first | refine blk_drewN ?_ _ | refine blk_drew ?_ | refine blk_alloc ?_ _)); exact BK309.out) hg (Kd.S_away HO_3.out (fun _ hk => hk.1)))
              have n3_ := Aside0.mk (hb)
              have n4_ := Aside0.mk (ho)
              clear BK306
              clear BK307
              clear BK309
              clear HB
              clear HO_3
              clear HO312
              have BK306 := n0_
              have BK307 := n1_
              have BK309 := n2_
              have HB := n3_
              have HO315 := n4_
              clear n0_ n1_ n2_ n3_ n4_
              clear ho hb hg hat
              refine hK.out _ _ ⟨(blk_cell BK309.out 0).trans rfl, (blk_cell BK309.out 1).trans rfl⟩ (fun hHeld => ?_)
              clear hK K
              refine norm_ (a' := ?_) ?_ ?_
              rotate_left
              · show Act.put _ (some 21) _ = _
                simp only [Act.put, List.setIfInBounds_toArray, List.set_cons_zero, List.set_cons_succ, i64_w, i32_w]
                rfl
              refine pure_ (i := 9) (N := some 3) (v := ?_) (a' := ?_) #[true, true, true, true, true, true, true, true, true, true] rfl rfl (any_of HT_.out (by kernel_rfl)) (fun _ _ _ h => h) (Or.inl ⟨by rfl, ?_⟩) ?_ ?_
              rotate_left
              · intro w'
                go_simp
                with_reducible rfl
              rotate_left
              · simp only [Act.put, List.setIfInBounds_toArray, List.set_cons_zero, List.set_cons_succ, i64_w, i32_w]
                rfl
              refine done_ (done_of HT_.out (by kernel_rfl)) ?_
              try go_wp2
              go_roundg k1
              case measure => have := HK1.out; omega
              case rel => exact ⟨(y313), (wrap64 (x9_1 + 1)), (by first | rfl | (simp; done) | (simp [*]; done)), H', ⟨by have := HK1.out; omega⟩, ⟨by (with_reducible repeat (first | apply Kd.S_alloc | apply Kd.S_drewN | apply Kd.S_drew)); exact Kd.S_mono HO315.out (fun _ hk => trivial)⟩, ⟨by (with_reducible repeat (first | refine blk_drewN ?_ _ | refine blk_drew ?_ | refine blk_alloc ?_ _)); exact BK306.out⟩, ⟨by (with_reducible repeat (first | refine blk_drewN ?_ _ | refine blk_drew ?_ | refine blk_alloc ?_ _)); exact BK307.out⟩, ⟨by repeat (first | (with_reducible first | exact HB.out | apply below_alloc | apply pw_below_drewN | apply below_drew1 | refine below_set ?_ GE306.out | refine below_set ?_ GE307.out | refine below_set ?_ GE309.out) | exact HB.out)⟩⟩
            · rw [if_neg c10] at H
              exact absurd H (by simp)
          · rw [if_neg c8] at H
            exact absurd H (by simp)
        · rw [if_neg c7] at H
          exact absurd H (by simp)
      · rw [if_neg c6] at H
        have c6b0 : decide (x9_1 < (l0_3.length : Int)) = false := decide_eq_false c6
        clear c6
        replace H := Option.bind_eq_some_iff.mp H
        obtain ⟨t316, A200, H⟩ := H
        replace H : (some (t316, a0_1, a0_2, x3_1, a0_4)) = some (r1, r2, r3, r4, r5) := H
        have A20 := Aside0.mk A200
        clear A200
        simp only [Option.some.injEq, Prod.mk.injEq] at H
        obtain ⟨rfl, rfl, rfl, rfl, rfl⟩ := H
        have hnb21 := NB306_307.out
        have hnc21 := NB307_306.out
        have hcz22_0 : wr.cell? ⟨gb306, 0, none⟩ = some (.slice A0_0 l0_0.length c0_0) := (blk_cell BK306.out 0).trans rfl
        have hcz22_1 : wr.cell? ⟨gb306, 1, none⟩ = some (.int .i64 a0_1) := (blk_cell BK306.out 1).trans rfl
        have hcz22_2 : wr.cell? ⟨gb306, 2, none⟩ = some (.int .i64 a0_2) := (blk_cell BK306.out 2).trans rfl
        have hcz22_3 : wr.cell? ⟨gb306, 3, none⟩ = some (.slice A0_3 l0_3.length c0_3) := (blk_cell BK306.out 3).trans rfl
        have hcz22_4 : wr.cell? ⟨gb306, 4, none⟩ = some (.int .i64 a0_4) := (blk_cell BK306.out 4).trans rfl
        have hfz22_0 := blk_frozen BK306.out 0
        have hfz22_1 := blk_frozen BK306.out 1
        have hfz22_2 := blk_frozen BK306.out 2
        have hfz22_3 := blk_frozen BK306.out 3
        have hfz22_4 := blk_frozen BK306.out 4
        go_wp2_with (first | ((with_reducible refine gate_callee (f := 54) rfl ?_); refine goesL_ (some 25) rfl rfl Tryd.func54 (by kernel_rfl) rfl #[.slice A0_0 l0_0.length c0_0] rfl (by (try simp only [List.map_toArray, List.map_cons, List.map_nil]); first | done | rfl | (simp only [List.length_drop, List.length_take]; rfl)) ?_; (with_reducible refine (impl_TblCol.calls _ _ l0_0 t316 _ ?side1 ?side2 A20.out).mono ?_); (case side1 => repeat (first | exact HR0_0.out | exact (Kd.C_below HR0_0.out HB.out) | (with_reducible refine Kd.C_alloc ?_ _) | (with_reducible refine Kd.C_drewN ?_ _) | (with_reducible refine Kd.C_drew ?_))); (case side2 => exact HC0_0.out); rintro e w23 ⟨v317, rfl, ho0, hb⟩; refine ⟨_, rfl, ?_⟩; have n0_ := Aside0.mk (Kd.S_below (by (with_reducible repeat (first | apply Kd.S_alloc | apply Kd.S_drewN | apply Kd.S_drew)); exact HO_3.out) hb); have n1_ := Aside0.mk (Kd.R_lower ho0 (below_size (by repeat (first | (with_reducible first | exact HB.out | apply below_alloc | apply pw_below_drewN | apply below_drew1 | refine below_set ?_ GE306.out | refine below_set ?_ GE307.out) | exact HB.out)))); have n2_ := Aside0.mk (blk_below (g := gb306) (o := .cells #[.slice A0_0 l0_0.length c0_0, .int .i64 a0_1, .int .i64 a0_2, .slice A0_3 l0_3.length c0_3, .int .i64 a0_4] 26 (0, 0)) (by (with_reducible repeat (first | refine blk_drewN ?_ _ | refine blk_drew ?_ | refine blk_alloc ?_ _)); exact BK306.out) hb); have n3_ := Aside0.mk (blk_below (g := gb307) (o := .cells #[.slice none 0 0, .int .i64 0, .int .i64 0, .slice none 0 0, .int .i64 0] 26 (0, 0)) (by (with_reducible repeat (first | refine blk_drewN ?_ _ | refine blk_drew ?_ | refine blk_alloc ?_ _)); exact BK307.out) hb); have n4_ := Aside0.mk (below_step (by repeat (first | (with_reducible first | exact HB.out | apply below_alloc | apply pw_below_drewN | apply below_drew1 | refine below_set ?_ GE306.out | refine below_set ?_ GE307.out) | exact HB.out)) hb); clear HO_3; clear BK306; clear BK307; clear HB; have HO_3 := n0_; have HO318 := n1_; have BK306 := n2_; have BK307 := n3_; have HB := n4_; clear n0_ n1_ n2_ n3_ n4_; (try clear hb); (try clear hb2); (try clear hk); (try clear hi); (try clear ho0); obtain ⟨Ao24, co24, eo24⟩ := Kd.R_slice HO318.out; subst eo24; have hcz25_0 : w23.cell? ⟨gb306, 0, none⟩ = some (.slice A0_0 l0_0.length c0_0) := (blk_cell BK306.out 0).trans rfl; have hcz25_1 : w23.cell? ⟨gb306, 1, none⟩ = some (.int .i64 a0_1) := (blk_cell BK306.out 1).trans rfl; have hcz25_2 : w23.cell? ⟨gb306, 2, none⟩ = some (.int .i64 a0_2) := (blk_cell BK306.out 2).trans rfl; have hcz25_3 : w23.cell? ⟨gb306, 3, none⟩ = some (.slice A0_3 l0_3.length c0_3) := (blk_cell BK306.out 3).trans rfl; have hcz25_4 : w23.cell? ⟨gb306, 4, none⟩ = some (.int .i64 a0_4) := (blk_cell BK306.out 4).trans rfl; have hfz25_0 := blk_frozen BK306.out 0; have hfz25_1 := blk_frozen BK306.out 1; have hfz25_2 := blk_frozen BK306.out 2; have hfz25_3 := blk_frozen BK306.out 3; have hfz25_4 := blk_frozen BK306.out 4; obtain ⟨Ao26, co26, eo26⟩ := Kd.S_slice HO_3.out; subst eo26; have hcz27_0 : w23.cell? ⟨gb307, 0, none⟩ = some (.slice none 0 0) := (blk_cell BK307.out 0).trans rfl; have hcz27_1 : w23.cell? ⟨gb307, 1, none⟩ = some (.int .i64 0) := (blk_cell BK307.out 1).trans rfl; have hcz27_2 : w23.cell? ⟨gb307, 2, none⟩ = some (.int .i64 0) := (blk_cell BK307.out 2).trans rfl; have hcz27_3 : w23.cell? ⟨gb307, 3, none⟩ = some (.slice none 0 0) := (blk_cell BK307.out 3).trans rfl; have hcz27_4 : w23.cell? ⟨gb307, 4, none⟩ = some (.int .i64 0) := (blk_cell BK307.out 4).trans rfl; have hfz27_0 := blk_frozen BK307.out 0; have hfz27_1 := blk_frozen BK307.out 1; have hfz27_2 := blk_frozen BK307.out 2; have hfz27_3 := blk_frozen BK307.out 3; have hfz27_4 := blk_frozen BK307.out 4))
        refine bodyPost_ret (results_cell_row rfl _ _ gb307 26 #[.slice Ao24 t316.length co24, .int .i64 a0_1, .int .i64 a0_2, .slice Ao26 x3_1.length co26, .int .i64 a0_4] (0, 0) _ rfl (by (with_reducible repeat (first | refine blk_drewN ?_ _ | refine blk_drew ?_ | refine blk_alloc ?_ _)); refine blk_put (cs := #[.slice Ao24 t316.length co24, .int .i64 a0_1, .int .i64 a0_2, .slice Ao26 x3_1.length co26, .int .i64 0]) ?_ 4 _ rfl; (with_reducible repeat (first | refine blk_drewN ?_ _ | refine blk_drew ?_ | refine blk_alloc ?_ _)); refine blk_put (cs := #[.slice Ao24 t316.length co24, .int .i64 a0_1, .int .i64 a0_2, .slice none 0 0, .int .i64 0]) ?_ 3 _ rfl; (with_reducible repeat (first | refine blk_drewN ?_ _ | refine blk_drew ?_ | refine blk_alloc ?_ _)); refine blk_put (cs := #[.slice Ao24 t316.length co24, .int .i64 a0_1, .int .i64 0, .slice none 0 0, .int .i64 0]) ?_ 2 _ rfl; (with_reducible repeat (first | refine blk_drewN ?_ _ | refine blk_drew ?_ | refine blk_alloc ?_ _)); refine blk_put (cs := #[.slice Ao24 t316.length co24, .int .i64 0, .int .i64 0, .slice none 0 0, .int .i64 0]) ?_ 1 _ rfl; (with_reducible repeat (first | refine blk_drewN ?_ _ | refine blk_drew ?_ | refine blk_alloc ?_ _)); refine blk_put (cs := #[.slice none 0 0, .int .i64 0, .int .i64 0, .slice none 0 0, .int .i64 0]) ?_ 0 _ rfl; (with_reducible repeat (first | refine blk_drewN ?_ _ | refine blk_drew ?_ | refine blk_alloc ?_ _)); refine blk_far ?_ NB307_306.out _; (with_reducible repeat (first | refine blk_drewN ?_ _ | refine blk_drew ?_ | refine blk_alloc ?_ _)); refine blk_far ?_ NB307_306.out _; (with_reducible repeat (first | refine blk_drewN ?_ _ | refine blk_drew ?_ | refine blk_alloc ?_ _)); exact BK307.out) Tryd.underlying26 rfl (by kernel_rfl)) rfl ?_
        exact ⟨_, _, by first | rfl | (simp [errW_none, errW_some] <;> rfl) | (simp [*, errW_none, errW_some] <;> rfl), by (with_reducible repeat (first | apply Kd.R_alloc | apply Kd.R_drewN | apply Kd.R_drew)); exact Kd.R_mono (Kd.R_far (p := ⟨gb307, 4, none⟩) (Kd.R_far (p := ⟨gb307, 3, none⟩) (Kd.R_far (p := ⟨gb307, 2, none⟩) (Kd.R_far (p := ⟨gb307, 1, none⟩) (Kd.R_far (p := ⟨gb307, 0, none⟩) (Kd.R_far (p := ⟨gb306, 3, none⟩) (Kd.R_far (p := ⟨gb306, 0, none⟩) (Kd.R_types (Kd.R_types HO318.out BK306.out (by decide)) BK307.out (by decide)) (fun _ hk => hk.1.2) (.slice Ao24 t316.length co24)) (fun _ hk => hk.1.2) (.slice Ao26 x3_1.length co26)) (fun _ hk => hk.2) (.slice Ao24 t316.length co24)) (fun _ hk => hk.2) (.int .i64 a0_1)) (fun _ hk => hk.2) (.int .i64 a0_2)) (fun _ hk => hk.2) (.slice Ao26 x3_1.length co26)) (fun _ hk => hk.2) (.int .i64 a0_4)) (fun _ hk => trivial), by (with_reducible repeat (first | apply Kd.S_alloc | apply Kd.S_drewN | apply Kd.S_drew)); exact Kd.S_mono (Kd.S_far (p := ⟨gb307, 4, none⟩) (Kd.S_far (p := ⟨gb307, 3, none⟩) (Kd.S_far (p := ⟨gb307, 2, none⟩) (Kd.S_far (p := ⟨gb307, 1, none⟩) (Kd.S_far (p := ⟨gb307, 0, none⟩) (Kd.S_far (p := ⟨gb306, 3, none⟩) (Kd.S_far (p := ⟨gb306, 0, none⟩) (Kd.S_types (Kd.S_types HO_3.out BK306.out (by decide)) BK307.out (by decide)) (fun _ hk => hk.1.2) (.slice Ao24 t316.length co24)) (fun _ hk => hk.1.2) (.slice Ao26 x3_1.length co26)) (fun _ hk => hk.2) (.slice Ao24 t316.length co24)) (fun _ hk => hk.2) (.int .i64 a0_1)) (fun _ hk => hk.2) (.int .i64 a0_2)) (fun _ hk => hk.2) (.slice Ao26 x3_1.length co26)) (fun _ hk => hk.2) (.int .i64 a0_4)) (fun _ hk => trivial), by repeat (first | (with_reducible first | exact HB.out | apply below_alloc | apply pw_below_drewN | apply below_drew1 | refine below_set ?_ GE306.out | refine below_set ?_ GE307.out) | exact HB.out)⟩

-- NOT PRINTED: function 17 (impl_edited)

-- NOT PRINTED: function 5 (impl_EdtPut)

set_option maxHeartbeats 4000000 in
set_option maxRecDepth 100000 in
/-- impl's edited, whatever the closure. -/
theorem edited_calls (k : Nat) (A0_0 : Option Addr) (c0_0 : Nat) (l0_0 : List S57) (a0_1 a0_2 : Int) (A0_3 : Option Addr) (c0_3 : Nat) (l0_3 : List S42) (a0_4 : Int) (g : Nat) (lb : Array Value) (eg : ∀ args w, (callFunc g args).run Tryd.prog w = .ok (.enter g args) w) (b : Bool) (c1 : List S57) (h1 f1 : Int) (r1 : List S42) (g1 : Int) (cols' : List S57) (hd' ft' : Int) (rows' : List S42) (gp' : Int) (q : Bool) (w : World)
    (hr0_0 : Kd.C k57 w A0_0 l0_0.length l0_0) (hc0_0 : l0_0.length ≤ c0_0) (hr0_3 : Kd.C k42 w A0_3 l0_3.length l0_3) (hc0_3 : l0_3.length ≤ c0_3) (hM : Txt.MLen w) (hT : impl_TblOk.f k l0_0 a0_1 a0_2 l0_3 a0_4 = some b)
    (hz : b = false → q = false ∧ cols' = [] ∧ hd' = 0 ∧ ft' = 0 ∧ rows' = [] ∧ gp' = 0) (hq : b = true → impl_TblTable_copied.f k l0_0 a0_1 a0_2 l0_3 a0_4 = some (c1, h1, f1, r1, g1) ∧ TabFn g lb w c1 h1 f1 r1 g1 cols' hd' ft' rows' gp' q) :
    Calls Tryd.prog 17 #[.agg (l3A (.slice A0_0 l0_0.length c0_0) (.slice A0_3 l0_3.length c0_3) a0_1 a0_2 a0_4), .func (.func g) #[] lb] w fun e w' => ∃ vc vr, e = .returned (.tuple #[.agg (l3A vc vr hd' ft' gp'), .bool q]) ∧ Kd.R k57 57 w' w.heap.size (fun _ => True) vc cols' ∧ Kd.S k42 42 w' w.heap.size (fun _ => True) vr rows' ∧ Below w.heap.size w w' := by
  have HM := Aside0.mk hM
  have HR0 := Aside0.mk hr0_0
  have HC0 := Aside0.mk hc0_0
  have HR3 := Aside0.mk hr0_3
  have HC3 := Aside0.mk hc0_3
  have HT := Aside0.mk hT
  have HZ := Aside0.mk hz
  have HQQ := Aside0.mk hq
  clear hM hr0_0 hc0_0 hr0_3 hc0_3 hT hz hq
  have hu := Tryd.underlying26
  go_enter Tryd.func17, Tryd.ntmps17
  go_upto_region 1 with (fail)
  refine wp_letter (fun W0 => E3 w (l3A (.slice A0_0 l0_0.length c0_0) (.slice A0_3 l0_3.length c0_3) a0_1 a0_2 a0_4) W0) ⟨below_alloc (below_alloc (Below.refl _ _) _) _, blk_alloc (blk_new w _) _, by have := blk_new2 w (.cells (l3A (.slice A0_0 l0_0.length c0_0) (.slice A0_3 l0_3.length c0_3) a0_1 a0_2 a0_4) 26) (.cells (l3A (.slice none 0 0) (.slice none 0 0) 0 0 0) 26); exact this⟩ ?_
  rintro W1 hQ
  have HQ := Aside0.mk hQ
  clear hQ
  cases b
  · obtain ⟨rfl, rfl, rfl, rfl, rfl, rfl⟩ := HZ.out rfl
    clear HZ HQQ
    go_wp2_with (first | (refine wpList_load_row rfl 26 _ rfl w.heap.size rfl 26 (l3A (.slice A0_0 l0_0.length c0_0) (.slice A0_3 l0_3.length c0_3) a0_1 a0_2 a0_4) (0, 0) _ HQ.out.pb Tryd.underlying26 rfl (by kernel_rfl) ?_) | (go_at_call 11; (with_reducible refine (impl_TblOk.calls k A0_0 c0_0 l0_0 a0_1 a0_2 A0_3 c0_3 l0_3 a0_4 false _ (Kd.C_below HR0.out HQ.out.bl) HC0.out (Kd.C_below HR3.out HQ.out.bl) HC3.out (Txt.MLen_below HM.out HQ.out.bl) HT.out).mono ?_); rintro e_ W2 ⟨rfl, hb⟩; replace HQ := Aside0.mk (HQ.out.below hb); clear hb) | (refine wpList_put 26 _ _ rfl rfl (w.heap.size + 1) 0 rfl (.agg (l3A (.slice none 0 0) (.slice none 0 0) 0 0 0)) rfl 26 (l3A (.slice none 0 0) (.slice none 0 0) 0 0 0) (l3A (.slice none 0 0) (.slice none 0 0) 0 0 0) HQ.out.zb (by kernel_rfl) rfl rfl rfl (fun W9 hp => ?_); have HFB := Aside0.mk hp.blk; have HF := Aside0.mk (pw_below_grown HQ.out.bl _ (Nat.le_trans (Nat.le_add_right _ 2) HQ.out.size) hp.grown (fun k hk => by injection hk with hk; omega)); clear hp))
    exact bodyPost_ret (results_ct rfl _ _ (w.heap.size + 1) 26 (l3A (.slice none 0 0) (.slice none 0 0) 0 0 0) (0, 0) _ rfl HFB.out Tryd.underlying26 rfl (by kernel_rfl)) rfl ⟨_, _, rfl, Kd.R_nil _ _ _ _ _, Kd.S_nil _ _ _ _ _, HF.out⟩
  obtain ⟨hcp, htf⟩ := HQQ.out rfl
  have HCP := Aside0.mk hcp
  have HTF := Aside0.mk htf
  clear HZ HQQ hcp htf
  go_upto_region 4 with (first | (refine wpList_load_row rfl 26 _ rfl w.heap.size rfl 26 (l3A (.slice A0_0 l0_0.length c0_0) (.slice A0_3 l0_3.length c0_3) a0_1 a0_2 a0_4) (0, 0) _ HQ.out.pb Tryd.underlying26 rfl (by kernel_rfl) ?_) | (go_at_call 11; (with_reducible refine (impl_TblOk.calls k A0_0 c0_0 l0_0 a0_1 a0_2 A0_3 c0_3 l0_3 a0_4 true _ (Kd.C_below HR0.out HQ.out.bl) HC0.out (Kd.C_below HR3.out HQ.out.bl) HC3.out (Txt.MLen_below HM.out HQ.out.bl) HT.out).mono ?_); rintro e_ W2 ⟨rfl, hb⟩; replace HQ := Aside0.mk (HQ.out.below hb); clear hb) | (go_at_call 42; (with_reducible refine (impl_TblTable_copied.calls k A0_0 c0_0 l0_0 a0_1 a0_2 A0_3 c0_3 l0_3 a0_4 c1 h1 f1 r1 g1 _ (Kd.C_below HR0.out HQ.out.bl) HC0.out (Kd.C_below HR3.out HQ.out.bl) HC3.out HCP.out).mono ?_); rintro e_ W3 ⟨vc, vr, rfl, hrc, hsr, hb⟩; obtain ⟨Ac, cc, rfl⟩ := Kd.R_slice hrc; obtain ⟨Ar, cr, rfl⟩ := Kd.R_slice (Kd.S_R hsr); have HRC := Aside0.mk (Kd.R_lower hrc (Nat.le_trans (Nat.le_add_right _ 2) HQ.out.size)); have HSR := Aside0.mk (Kd.S_lower hsr (Nat.le_trans (Nat.le_add_right _ 2) HQ.out.size)); replace HQ := Aside0.mk (HQ.out.below hb); clear hb hrc hsr))
  refine wp_letter (fun W0 => E3 w (l3A (.slice A0_0 l0_0.length c0_0) (.slice A0_3 l0_3.length c0_3) a0_1 a0_2 a0_4) W0 ∧ W0.heap[W3.heap.size]? = some (.cells (l3A (.slice Ac c1.length cc) (.slice Ar r1.length cr) h1 f1 g1) 26 (0, 0)) ∧ Kd.R k57 57 W0 w.heap.size (fun _ => True) (.slice Ac c1.length cc) c1 ∧ Kd.S k42 42 W0 w.heap.size (fun _ => True) (.slice Ar r1.length cr) r1 ∧ w.heap.size + 2 ≤ W3.heap.size) ⟨HQ.out.alloc _, blk_new W3 _, Kd.R_alloc HRC.out _, Kd.S_alloc HSR.out _, HQ.out.size⟩ ?_
  rintro W4 ⟨hQ, hX, hrc, hsr, hs⟩
  generalize W3.heap.size = B at hX hs ⊢
  clear HQ HRC HSR
  have HZ0 := Aside0.mk hQ.zb
  have HS := Aside0.mk hs
  have hcl := HTF.out W4 B _ _ hQ.bl hX (by omega) hrc hsr
  have HNE := Aside0.mk (show w.heap.size + 1 ≠ B by omega)
  clear hQ hX hrc hsr hs HTF
  go_wp2_with (first | (go_at_fn g; refine hcl.mono ?_; rintro e_ W5 ⟨vc', vr', rfl, hX, hrc, hsr, hb, hk⟩; obtain ⟨Ad, cd, rfl⟩ := Kd.R_slice hrc; obtain ⟨Ae, ce, rfl⟩ := Kd.R_slice (Kd.S_R hsr); have HX := Aside0.mk hX; have HRC := Aside0.mk hrc; have HSR := Aside0.mk hsr; have HB := Aside0.mk hb; have HZ := Aside0.mk (hk _ _ HNE.out HZ0.out); have HSZ := Aside0.mk (blk_lt HZ.out); clear hX hrc hsr hb hk) | (refine wpList_load_row rfl 26 _ rfl B rfl 26 (l3A (.slice Ad cols'.length cd) (.slice Ae rows'.length ce) hd' ft' gp') (0, 0) _ HX.out Tryd.underlying26 rfl (by kernel_rfl) ?_) | (refine wpList_put 26 _ _ rfl rfl (w.heap.size + 1) 0 rfl (.agg (l3A (.slice Ad cols'.length cd) (.slice Ae rows'.length ce) hd' ft' gp')) rfl 26 (l3A (.slice none 0 0) (.slice none 0 0) 0 0 0) (l3A (.slice Ad cols'.length cd) (.slice Ae rows'.length ce) hd' ft' gp') HZ.out (by kernel_rfl) rfl rfl rfl (fun W9 hp => ?_); have HFB := Aside0.mk hp.blk; have HF := Aside0.mk (pw_below_grown HB.out _ (by have := HSZ.out; omega) hp.grown (fun k hk => by injection hk with hk; omega)); have HFR := Aside0.mk (R_put HRC.out HZ.out hp (by decide)); have HFS := Aside0.mk (S_put HSR.out HZ.out hp (by decide)); clear hp))
  exact bodyPost_ret (results_ct rfl _ _ (w.heap.size + 1) 26 (l3A (.slice Ad cols'.length cd) (.slice Ae rows'.length ce) hd' ft' gp') (0, 0) _ rfl HFB.out Tryd.underlying26 rfl (by kernel_rfl)) rfl ⟨_, _, rfl, HFR.out, HFS.out, HF.out⟩

-- imports: Derived.Deep.AppendSrc Derived.Laws.NewBlocks
theorem reps_flat {sz : Nat} {w : World} {base : Nat} {ok : Nat → Prop} {rows : List (List Value)} {inner : List Value} (hr : Reps ((Kd.raw sz).M w base ok) sz rows inner) : inner = rows.flatten ∧ (∀ r ∈ rows, r.length = sz) ∧ ∀ r ∈ rows, ∀ u ∈ r, u.oneCell' = true := by
  have hel : ∀ r ∈ rows, r.length = sz ∧ ∀ u ∈ r, u.oneCell' = true := by
    intro r hm
    obtain ⟨j, hj, rfl⟩ := List.getElem_of_mem hm
    have h3 := hr.2 j _ (List.getElem?_eq_getElem hj)
    exact ⟨h3.1 ▸ h3.2.1, fun u hu => h3.2.2 u (h3.1 ▸ hu)⟩
  refine ⟨?_, fun r h => (hel r h).1, fun r h => (hel r h).2⟩
  obtain ⟨f1, f2⟩ := flat_chunk rows (fun r hr => (hel r hr).1)
  have hl : inner.length = rows.length * sz := hr.1
  rcases Nat.eq_zero_or_pos sz with h0 | h0
  · rw [h0, Nat.mul_zero] at hl f1
    rw [List.eq_nil_of_length_eq_zero hl, List.eq_nil_of_length_eq_zero f1]
  apply List.ext_getElem?
  intro k
  rcases Nat.lt_or_ge k (rows.length * sz) with hk | hk
  · have hj : k / sz < rows.length := by rw [Nat.div_lt_iff_lt_mul h0]; exact hk
    have hx := List.getElem?_eq_getElem hj
    have e1 : (inner.drop (k / sz * sz)).take sz = rows[k / sz] := (hr.2 _ _ hx).1
    have e2 := f2 _ _ hx
    have hkm : k = k / sz * sz + k % sz := by rw [Nat.mul_comm]; exact (Nat.div_add_mod k sz).symm
    have hm := Nat.mod_lt k h0
    have e3 := congrArg (fun l => l[k % sz]?) (e1.trans e2.symm)
    simp only [List.getElem?_take, List.getElem?_drop] at e3
    rw [if_pos hm, if_pos hm] at e3
    rw [← hkm] at e3
    exact e3
  · rw [List.getElem?_eq_none (by omega), List.getElem?_eq_none (by omega)]
theorem raw_news {sz : Nat} {w : World} {A : Option Addr} {m : Nat} {ys : List (List Value)} (h : (Kd.raw sz).C w A m ys) : ys.length = m ∧ (∀ r ∈ ys, r.length = sz) ∧ (∀ r ∈ ys, ∀ u ∈ r, u.oneCell' = true) ∧ ((A = none ∧ ys = []) ∨ ∃ ad, A = some ad ∧ ∀ j u, ys.flatten[j]? = some u → w.cell? (ad.add j) = some u) := by
  have hm : ys.length = m := h.1
  cases A with
  | none =>
    have h0 : m = 0 := by
      rcases Nat.eq_zero_or_pos m with h0 | h0
      · exact h0
      · obtain ⟨ad, e, _⟩ := h.2.2 h0
        cases e
    subst h0
    obtain rfl := List.eq_nil_of_length_eq_zero hm
    exact ⟨rfl, by simp, by simp, .inl ⟨rfl, rfl⟩⟩
  | some ad =>
    obtain ⟨inner, hr, hc⟩ := ReadsRow.inner_ h
    obtain ⟨rfl, h1, h2⟩ := reps_flat (w := w) (base := 0) (ok := fun _ => True) hr
    exact ⟨hm, h1, h2, .inr ⟨ad, rfl, hc⟩⟩
/-- append, the row as cells: where it lies then, and what else stands. -/
theorem append_raw {P : Program} (W : World) (t ty e : TypeId) (i : TypeInfo) (z : Value) (sz bytes : Nat) (ht : P.underlying t = some (.slice e)) (hi : P.info? e = some i) (hz : i.zero = some z) (hzs : i.size = sz) (hzb : i.bytes = bytes) (hzc : z.cells.size = sz) (h0 : 0 < sz) {base g n cap : Nat} {cur : Array Value} {rows : List (List Value)} (hB : RawB sz e base W g n cap cur rows) (hbase : base ≤ W.heap.size) {A : Option Addr} {m c : Nat} {ys : List (List Value)} (hY : (Kd.raw sz).C W A m ys) (hA : A = none → c = 0 ∨ True) (hbig : (n + m) * bytes ≤ 140737488355328) (hb63 : n + m ≤ 1000000000) :
    ∃ g1 cap1 cur1 W1, (Builtin.append_ #[t, t] ty #[.slice (some ⟨g, 0, none⟩) n cap, .slice A m c]).run P W = .ok (.slice (some ⟨g1, 0, none⟩) (n + m) cap1) W1 ∧ RawB sz e base W1 g1 (n + m) cap1 cur1 (rows ++ ys) ∧ Below base W W1 ∧ (m = 0 → cap1 = cap) ∧
      ∀ {g' n' cap' : Nat} {cur' : Array Value} {rows' : List (List Value)}, RawB sz e base W g' n' cap' cur' rows' → (g' = g → m = 0 ∨ cap < n + m ∨ n' ≤ n) → ∃ cur'', RawB sz e base W1 g' n' cap' cur'' rows' := by
  obtain ⟨hm, hel, hone, hsrc⟩ := raw_news hY
  have hyl := flat_len hel
  have hsrc2 : Src P i.size t (.slice A m c) m ys.flatten W := by
    rw [hzs]
    rcases hsrc with ⟨rfl, rfl⟩ | ⟨ad, rfl, hc⟩
    · obtain rfl : m = 0 := hm.symm
      exact Src.ofNil W ht c
    · exact Src.ofSlice W ht ad m c ys.flatten (by rw [hyl, hm]) hc (fun u hu => by obtain ⟨r, hr, hur⟩ := List.mem_flatten.1 hu; exact hone r hr u hur)
  have hel2 : ∀ r ∈ rows ++ ys, r.length = sz := fun r hr => (List.mem_append.1 hr).elim (hB.el r) (hel r)
  have hone2 : ∀ r ∈ rows ++ ys, ∀ u ∈ r, u.oneCell' = true := fun r hr => (List.mem_append.1 hr).elim (hB.one r) (hone r)
  have hlen2 : n + m = (rows ++ ys).length := by rw [List.length_append, ← hB.len, hm]
  have hfl := flat_len hB.el
  have hrl : rows.length = n := hB.len.symm
  have hcz : cur.toList.length = cap * sz := by rw [Array.length_toList]; exact hB.sz
  have hmul : (n + m) * sz = n * sz + m * sz := Nat.add_mul _ _ _
  by_cases hroom : n + m ≤ cap
  · have hle : (n + m) * sz ≤ cap * sz := Nat.mul_le_mul_right _ hroom
    have hst := run_storeCells_at P g (n * sz) e ys.flatten 0 cur W hB.blk (by rw [hyl, hm, Nat.add_zero, ← Array.length_toList, hcz]; omega) hsrc2.one
    rw [Nat.add_zero] at hst
    obtain ⟨C, hC⟩ : ∃ C, C = cur.toList.take (n * sz) ++ ys.flatten ++ cur.toList.drop (n * sz + ys.flatten.length) := ⟨_, rfl⟩
    rw [← hC] at hst
    have hCl : C.length = cap * sz := by
      rw [hC, List.length_append, List.length_append, List.length_take, List.length_drop, hyl, hm, hcz]
      omega
    have hlt : (cur.toList.take (n * sz)).length = n * sz := by rw [List.length_take, hcz]; omega
    have hCt : C.take ((n + m) * sz) = (rows ++ ys).flatten := by
      have hl2 : (cur.toList.take (n * sz) ++ ys.flatten).length = (n + m) * sz := by rw [List.length_append, hlt, hyl, hm, hmul]
      rw [hC, List.take_left' hl2, List.flatten_append, ← hB.tk]
    have hCp : ∀ k, k ≤ n * sz → C.take k = cur.toList.take k := fun k hk => by
      rw [hC, List.append_assoc, List.take_append_of_le_length (by rw [hlt]; exact hk), List.take_take, Nat.min_eq_left hk]
    refine ⟨g, cap, C.toArray, W.setRow g C.toArray, ?_, ⟨setRow_heap W g _ _ e _ hB.blk, hB.bg, hlen2, hroom, hB.mx, by rw [List.size_toArray]; exact hCl, by rw [List.toList_toArray]; exact hCt, hel2, hone2⟩, ⟨rfl, rfl, rfl, by simp [World.setRow], fun k hk => setRow_other W g k _ (by have := hB.bg; omega)⟩, fun _ => rfl, ?_⟩
    · rw [hzs] at hsrc2
      have hcells := hsrc2.cells
      simp [Builtin.append_, run_underlying ht, sizeOf, typeInfo, hi, hzs, hsrc2.len, hroom, hcells, Addr.add_lit, hst]
    · intro g' n' cap' cur' rows' h' hcond
      by_cases hg : g' = g
      · subst hg
        have hbe : some (Obj.cells cur' e (0, 0)) = some (Obj.cells cur e (0, 0)) := h'.blk.symm.trans hB.blk
        injection hbe with hbe
        injection hbe with hbe
        subst hbe
        have hcc : cap' * sz = cap * sz := h'.sz.symm.trans hB.sz
        have hn' : C.take (n' * sz) = cur'.toList.take (n' * sz) := by
          rcases hcond rfl with h | h | h
          · subst h
            obtain rfl := List.eq_nil_of_length_eq_zero hm
            rw [hC]
            simp
          · omega
          · exact hCp _ (Nat.mul_le_mul_right _ h)
        exact ⟨C.toArray, setRow_heap W g' _ _ e _ hB.blk, h'.bg, h'.len, h'.le, h'.mx, by rw [List.size_toArray, hCl]; exact hcc.symm, by rw [List.toList_toArray, hn']; exact h'.tk, h'.el, h'.one⟩
      · exact ⟨cur', (setRow_other W g g' _ hg).trans h'.blk, h'.bg, h'.len, h'.le, h'.mx, h'.sz, h'.tk, h'.el, h'.one⟩
  · have hold : (Builtin.firstCells i.size n (.slice (some ⟨g, 0, none⟩) n cap)).run P W.drew = .ok rows.flatten.toArray W.drew := by
      rw [hzs]
      exact run_firstCells_some W.drew sz n ⟨g, 0, none⟩ n cap rows.flatten (by rw [hfl, hrl]) (fun j u hj => by rw [add_at, Nat.zero_add]; exact hB.cells j u hj)
    have hgr := run_append_grow_src W t t ty e i z ht hi hz (some ⟨g, 0, none⟩) n cap rows.flatten hold (.slice A m c) m ys.flatten hsrc2 (by omega) (by omega) (by rw [hzb]; exact growslice_fits (by omega) hbig)
    obtain ⟨G, hG⟩ : ∃ G, G = grownCap W (n + m) cap e := ⟨_, rfl⟩
    rw [← hG] at hgr
    have hGn : n + m ≤ G := by rw [hG]; exact grownCap_ge W _ _ _
    have hGm : G ≤ maxLen := by rw [hG]; exact grownCap_le_maxLen W _ _ _ (by unfold maxLen; omega)
    have hle : (n + m) * sz ≤ G * sz := Nat.mul_le_mul_right _ hGn
    obtain ⟨C, hC⟩ : ∃ C : Array Value, C = (rows.flatten ++ ys.flatten).toArray ++ Builtin.zeroCells z.cells (G - (n + m)) := ⟨_, rfl⟩
    rw [← hC] at hgr
    have hzl : (Builtin.zeroCells z.cells (G - (n + m))).size = (G - (n + m)) * sz := by simp [Builtin.zeroCells, hzc]
    have hCs : C.size = G * sz := by
      rw [hC, Array.size_append, hzl, List.size_toArray, List.length_append, hfl, hyl, hrl, hm, Nat.sub_mul]
      omega
    have hCt : C.toList.take ((n + m) * sz) = (rows ++ ys).flatten := by
      have hl2 : (rows.flatten ++ ys.flatten).length = (n + m) * sz := by rw [List.length_append, hfl, hyl, hrl, hm, hmul]
      rw [hC, Array.toList_append, List.toList_toArray, List.take_left' hl2, List.flatten_append]
    refine ⟨W.heap.size, G, C, _, hgr, ⟨blk_new W.drew _, hbase, hlen2, hGn, hGm, hCs, hCt, hel2, hone2⟩, ⟨rfl, rfl, rfl, by simp, fun k hk => Below.heap_alloc W.drew _ k (Nat.lt_of_lt_of_le hk hbase)⟩, fun h => absurd (by rw [h, Nat.add_zero]; exact hB.le) hroom, ?_⟩
    intro g' n' cap' cur' rows' h' _
    exact ⟨cur', blk_alloc (w := W.drew) h'.blk _, h'.bg, h'.len, h'.le, h'.mx, h'.sz, h'.tk, h'.el, h'.one⟩
theorem exec_append {P : Program} {a : Act} {o : Oper} {w w1 : World} {s x : Operand} {t : TypeId} {v u v1 : Value} (ho : o.op = .call { callee := .builtin .append, args := #[s, x], argTypes := #[t, t] }) (hs : a.eval s = v) (hx : a.eval x = u) (hr : (Builtin.append_ #[t, t] o.type #[v, u]).run P w = .ok v1 w1) : (execOp a.eval o).run P w = .ok (.value v1) w1 := by
  simp [execOp, ho, resolve, invoke, builtin, hs, hx, hr, Result.andThen]

/-! ### spec_l20Open: function 13 -/
def spec_l20Open.f (l0 : List Int) : Option (List Int × Int) := if (l0.length : Int) > 2000 then (if 2000 ≤ (l0.length : Int) then (some (l0.take 2000, 0)) else (none)) else (some (l0, 0))
set_option maxHeartbeats 8000000 in
set_option maxRecDepth 100000 in
theorem spec_l20Open.calls (A0 : Option Addr) (c0 : Nat) (l0 : List Int) (r1 : List Int) (r2 : Int) (w0 w : World) (hB : Below w0.heap.size w0 w) (hr0 : Kd.C (Kd.int .u8) w0 A0 l0.length l0) (hc0 : l0.length ≤ c0) (h : spec_l20Open.f l0 = some (r1, r2)) :
    Calls Tryd.prog 13 #[.slice A0 l0.length c0] w fun e w' => ∃ g_ : Nat, e = .returned (.pointer (some ⟨g_, 0, none⟩)) ∧ IsS68 w0 w' g_ r1 r2 ∧ Below w0.heap.size w0 w' ∧ Below w.heap.size w w' := by
  have hu68 := Tryd.underlying68
  have HR0 := Aside0.mk hr0
  have HC0 := Aside0.mk hc0
  clear hr0 hc0
  have HBW := Aside0.mk (Below.refl w.heap.size w)
  have HW0 := Aside0.mk hB.size
  have HB := Aside0.mk hB
  clear hB
  have H : (if (l0.length : Int) > 2000 then (if 2000 ≤ (l0.length : Int) then (some (l0.take 2000, 0)) else (none)) else (some (l0, 0))) = some (r1, r2) := h
  clear h
  by_cases c2 : (l0.length : Int) > 2000
  · rw [if_pos c2] at H
    have c2b0 : decide (2000 < (l0.length : Int)) = true := decide_eq_true c2
    have c2b1 : decide (2000 < l0.length) = true := decide_eq_true (by omega)
    clear c2
    by_cases c3 : 2000 ≤ (l0.length : Int)
    · rw [if_pos c3] at H
      have c3b0 := eq_true c3
      have c3b1 : decide (2000 ≤ (l0.length : Int)) = true := decide_eq_true c3
      clear c3
      simp only [Option.some.injEq, Prod.mk.injEq] at H
      obtain ⟨rfl, rfl⟩ := H
      obtain ⟨i04, hi04, _, hsz4, _⟩ := info_parts info5
      obtain ⟨hcut4, hA4, hC4⟩ := print_take_of (P := Tryd.prog) (Value.int .u8) 0 22 5 .i64 Tryd.underlying22 hi04 hsz4 A0 c0 l0 2000 (by omega) (of_decide_eq_true (by first | (with_reducible assumption) | assumption)) HC0.out
      have HR101 := Aside0.mk (Kd.C_of_reads (h1 := fun _ => rfl) (hA4 _ (Kd.reads_of_C HR0.out)))
      have HC101 := Aside0.mk hC4
      clear hA4 hC4 hi04 hsz4
      go_enter Tryd.func13, Tryd.ntmps13
      go_wp2_with (first | ((with_reducible refine gate_dst (N := 10) rfl ?_); refine box_event ?hg (N := 10) ?hd (cs := #[.slice A0 (l0.take 2000).length c0, .int .i64 0]) (t := 68) ?hr ?_; (case hd => rfl); (case hg => rfl); (case hr => first | (go_simp; done) | (go_simp; rfl)); intro gb102 hg w5 hbox hb; have n0_ := Aside0.mk (below_step HBW.out hb); have n1_ := Aside0.mk (below_step (by repeat (first | (with_reducible first | exact HB.out | apply below_alloc | apply pw_below_drewN | apply below_drew1) | exact HB.out)) hb); have n2_ := Aside0.mk (hbox); have n3_ := Aside0.mk ((by rw [hg]; exact (below_size (by repeat (first | (with_reducible first | exact HBW.out | apply below_alloc | apply pw_below_drewN | apply below_drew1) | exact HBW.out))) : w.heap.size ≤ gb102)); have n4_ := Aside0.mk ((Nat.le_trans HW0.out (by rw [hg]; exact (below_size (by repeat (first | (with_reducible first | exact HBW.out | apply below_alloc | apply pw_below_drewN | apply below_drew1) | exact HBW.out))) : w.heap.size ≤ gb102) : w0.heap.size ≤ gb102)); clear HBW; clear HB; have HBW := n0_; have HB := n1_; have BK102 := n2_; have GW102 := n3_; have GE102 := n4_; clear n0_ n1_ n2_ n3_ n4_; clear hb hbox hg))
      go_ret
      exact ⟨_, rfl, (show IsS68 w0 _ gb102 (l0.take 2000) 0 from ⟨_, _, by (with_reducible repeat (first | refine blk_drewN ?_ _ | refine blk_drew ?_ | refine blk_alloc ?_ _)); exact BK102.out, GE102.out, HR101.out⟩), by repeat (first | (with_reducible first | exact HB.out | apply below_alloc | apply pw_below_drewN | apply below_drew1 | refine below_set ?_ GE102.out) | exact HB.out), by repeat (first | (with_reducible first | exact HBW.out | apply below_alloc | apply pw_below_drewN | apply below_drew1 | refine below_set ?_ GW102.out) | exact HBW.out)⟩
    · rw [if_neg c3] at H
      exact absurd H (by simp)
  · rw [if_neg c2] at H
    have c2b0 : decide (2000 < (l0.length : Int)) = false := decide_eq_false c2
    have c2b1 : decide (2000 < l0.length) = false := decide_eq_false (by omega)
    clear c2
    simp only [Option.some.injEq, Prod.mk.injEq] at H
    obtain ⟨rfl, rfl⟩ := H
    go_enter Tryd.func13, Tryd.ntmps13
    go_wp2_with (first | ((with_reducible refine gate_dst (N := 10) rfl ?_); refine box_event ?hg (N := 10) ?hd (cs := #[.slice A0 l0.length c0, .int .i64 0]) (t := 68) ?hr ?_; (case hd => rfl); (case hg => rfl); (case hr => first | (go_simp; done) | (go_simp; rfl)); intro gb103 hg w6 hbox hb; have n0_ := Aside0.mk (below_step HBW.out hb); have n1_ := Aside0.mk (below_step (by repeat (first | (with_reducible first | exact HB.out | apply below_alloc | apply pw_below_drewN | apply below_drew1) | exact HB.out)) hb); have n2_ := Aside0.mk (hbox); have n3_ := Aside0.mk ((by rw [hg]; exact (below_size (by repeat (first | (with_reducible first | exact HBW.out | apply below_alloc | apply pw_below_drewN | apply below_drew1) | exact HBW.out))) : w.heap.size ≤ gb103)); have n4_ := Aside0.mk ((Nat.le_trans HW0.out (by rw [hg]; exact (below_size (by repeat (first | (with_reducible first | exact HBW.out | apply below_alloc | apply pw_below_drewN | apply below_drew1) | exact HBW.out))) : w.heap.size ≤ gb103) : w0.heap.size ≤ gb103)); clear HBW; clear HB; have HBW := n0_; have HB := n1_; have BK103 := n2_; have GW103 := n3_; have GE103 := n4_; clear n0_ n1_ n2_ n3_ n4_; clear hb hbox hg))
    go_ret
    exact ⟨_, rfl, (show IsS68 w0 _ gb103 l0 0 from ⟨_, _, by (with_reducible repeat (first | refine blk_drewN ?_ _ | refine blk_drew ?_ | refine blk_alloc ?_ _)); exact BK103.out, GE103.out, HR0.out⟩), by repeat (first | (with_reducible first | exact HB.out | apply below_alloc | apply pw_below_drewN | apply below_drew1 | refine below_set ?_ GE103.out) | exact HB.out), by repeat (first | (with_reducible first | exact HBW.out | apply below_alloc | apply pw_below_drewN | apply below_drew1 | refine below_set ?_ GW103.out) | exact HBW.out)⟩


end Go.Proofs.YtaihfkjfbjcmhabDoor.Q
