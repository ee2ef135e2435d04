-- Told by a program of this session (uprint.py, ulay.py).
import Derived.Test.YtaihfkjfbjcmhabDoorQ0
import Derived.Test.YtaihfkjfbjcmhabDoorReg
import Derived.Test.YtaihfkjfbjcmhabDoorQimplin
import Derived.Test.YtaihfkjfbjcmhabDoorQspecl20Cell
import Derived.Test.YtaihfkjfbjcmhabDoorQspecl20Table
namespace Go.Proofs.YtaihfkjfbjcmhabDoor.Q
open Go.RowKit Go.Proofs.YtaihfkjfbjcmhabDoorW.PrintWords Go.Proofs.YtaihfkjfbjcmhabDoorW.PrintLast Go.Proofs.YtaihfkjfbjcmhabDoorW.PrintMore Go.Proofs.YtaihfkjfbjcmhabDoor.Reg Go.Proofs.YtaihfkjfbjcmhabDoor.Box
attribute [local go_sem] max2_int min2_int max_two min_two max_three min_three max_four min_four
set_option linter.unusedVariables false
set_option linter.unusedSimpArgs false

/-! ### spec_l20AnyTable: function 14 (by hand) -/
abbrev ppA0 (n : Nat) : List Int := [-1, 9, (n : Int)]
abbrev ppA2 : List Int := [-1, 4]
abbrev ppA3 : List Int := [-1, 0, 61, 101]
def paRow (rows : List S42) (a : Nat) : S42 := rows.getD a z42
/-- One cell more, at the end of row a. -/
def paPut (rows : List S42) (a : Nat) (c : S30) : List S42 := rows.set a ⟨(paRow rows a).f0 ++ [c], (paRow rows a).f1⟩
/-- Empty rows till there are nine. -/
def paFill (rows : List S42) : List S42 := rows ++ List.replicate (9 - rows.length) ⟨[], false⟩
/-- What is turned of a drawn table. -/
def spec_l20Any.turn (k : Nat) (s : List Int) (cols : List S57) (hd ft : Int) (rows : List S42) (gap : Int) (a : Nat) (p c : Int) : Option (PTab × Int) :=
  if c = 0 then (spec_l20Rd_pick.f k s p 3).bind fun e => if 0 ≤ e.1 ∧ e.1 < 3 then some (⟨cols, (ppA0 rows.length).getD e.1.toNat 0, ft, rows, gap⟩, e.2) else none
  else if c = 1 then (spec_l20Rd_pick.f k s p 3).bind fun e => if 0 ≤ e.1 ∧ e.1 < 3 then some (⟨cols, hd, (ppA0 rows.length).getD e.1.toNat 0, rows, gap⟩, e.2) else none
  else if c = 2 then (spec_l20Rd_pick.f k s p 2).bind fun e => if 0 ≤ e.1 ∧ e.1 < 2 then some (⟨cols, hd, ft, rows, ppA2.getD e.1.toNat 0⟩, e.2) else none
  else if c = 3 then (spec_l20Rd_pick.f k s p 4).bind fun d => (spec_l20Rd_pick.f k s d.2 4).bind fun e => if 0 ≤ e.1 ∧ e.1 < 4 ∧ cols.length < 1000000 then some (⟨cols ++ [⟨d.1, ppA3.getD e.1.toNat 0⟩], hd, ft, rows, gap⟩, e.2) else none
  else if c = 4 then (spec_l20Cel.f k s p 1).bind fun x => if (paRow rows a).f0.length < 1000000 then some (⟨cols, hd, ft, paPut rows a x.1, gap⟩, x.2) else none
  else some (⟨cols, hd, ft, paFill rows, gap⟩, p)
def spec_l20Any.f (k : Nat) (s : List Int) (p n : Int) : Option (PTab × Int) := (spec_l20Tab.f k s p).bind fun t => (spec_l20Rd_pick.f k s t.2 n).bind fun c => if c.1 > 0 then some (t.1, c.2) else (spec_l20Rd_pick.f k s c.2 t.1.rows.length).bind fun a =>
  if 0 ≤ a.1 ∧ a.1 < t.1.rows.length then (spec_l20Rd_pick.f k s a.2 6).bind fun sw => spec_l20Any.turn k s t.1.cols t.1.head t.1.foot t.1.rows t.1.gap a.1.toNat sw.2 sw.1 else none
theorem spec_l20Any.mono_t (k : Nat) (s : List Int) (cols : List S57) (hd ft : Int) (rows : List S42) (gap : Int) (a : Nat) (p c : Int) : LeO (spec_l20Any.turn k s cols hd ft rows gap a p c) (spec_l20Any.turn (k + 1) s cols hd ft rows gap a p c) := by
  unfold spec_l20Any.turn
  repeat' first
  | exact LeO.refl _
  | exact LeO.none _
  | exact spec_l20Rd_pick.mono _ _ _ _
  | exact spec_l20Cel.mono _ _ _ _
  | refine LeO.ite ?_ ?_
  | refine LeO.bind ?_ (fun _ => ?_)
theorem spec_l20Any.mono : ∀ a0 a1 a2 k, LeO (spec_l20Any.f k a0 a1 a2) (spec_l20Any.f (k + 1) a0 a1 a2) := fun _ _ _ k => by
  unfold spec_l20Any.f
  exact LeO.bind (spec_l20Tab.mono _ _ _) fun _ => LeO.bind (spec_l20Rd_pick.mono _ _ _ _) fun _ => LeO.ite (LeO.refl _) (LeO.bind (spec_l20Rd_pick.mono _ _ _ _) fun _ => LeO.ite (LeO.bind (spec_l20Rd_pick.mono _ _ _ _) fun _ => spec_l20Any.mono_t _ _ _ _ _ _ _ _ _ _) (LeO.none _))
/-- A store into a block that is known whole. -/
theorem run_blk {P : Program} {oi : Oper} {ev : Operand → Value} {W : World} {x y : Operand} (t : TypeId) (ho : oi.op = .store t x y) {g o' e : Nat} {cur : Array Value} (u : Value) (seg : List Value) (hx : ev x = .pointer (some ⟨g, o', none⟩)) (hy : ev y = u) (hu : u.cells.toList = seg) (ht : (P.info? t).map (·.size) = some seg.length) (h1 : ∀ q ∈ seg, q.oneCell' = true)
    (hh : W.heap[g]? = some (.cells cur e (0, 0))) (hn : o' + seg.length ≤ cur.size) : (execOp ev oi).run P W = .ok .skip (W.setCells g o' seg) := by
  have hrun : (Instr.storeAt t (.pointer (some ⟨g, o', none⟩)) u).run P W = .ok () (W.setCells g o' seg) := run_store_run t u seg hh hu ht hn h1
  unfold execOp
  simp only [ho, hx, hy, Sem.run_bind, Sem.run_pure, Result.andThen_ok, hrun]
def spec_l20Any.T9 : Bool × List (List Nat × List Nat) := (true, [([], []), ([0], [0]), ([1], [1]), ([2], [2]), ([], []), ([4], [4]), ([3, 5], [3, 5]), ([6], [6]), ([0, 1, 2, 3, 4, 5, 6, 7], []), ([8, 7, 5, 0, 1, 2, 3, 4, 5, 6, 7], [7, 8])])
def spec_l20Any.B9 : List Nat := [0, 1, 3, 7, 0, 16, 63, 127, 255, 511]
def spec_l20Any.L9 : List (Nat × Tmp) := [(0, 33), (1, 34), (2, 35), (3, 36), (4, 37), (5, 38), (6, 39), (7, 40), (8, 41)]
def spec_l20Any.O9 : List Nat := [0, 1, 2, 3, 4, 5, 6, 7, 8, 9]
theorem spec_l20Any.tab9 : rtab .any (opsOf Tryd.f14 9) = spec_l20Any.T9 := by kernel_rfl
theorem spec_l20Any.bits9 : waitsOk spec_l20Any.T9.2 spec_l20Any.B9 = true := by kernel_rfl
theorem spec_l20Any.base9 : baseOk spec_l20Any.T9.2 spec_l20Any.O9 = true := by kernel_rfl
theorem spec_l20Any.lof9 : (lof spec_l20Any.T9.2.length spec_l20Any.O9 (fun _ => false) == List.replicate spec_l20Any.T9.2.length false && spec_l20Any.O9.length == spec_l20Any.T9.2.length) = true := by kernel_rfl
theorem spec_l20Any.ents9 : chkL (opsOf Tryd.f14 9) spec_l20Any.O9 spec_l20Any.L9 = true := by kernel_rfl
theorem spec_l20Any.last9 : lastOk spec_l20Any.B9 spec_l20Any.O9 9 = true := by kernel_rfl
def spec_l20Any.F9 (e : Nat) : Nat → Option (Nat → Value)
  | 3 => some (fun C => .slice (some ⟨C, 0, none⟩) 3 3)
  | 6 => some (fun C => .pointer (some ⟨C, e, none⟩))
  | _ => none
def spec_l20Any.V9 (g tb e : Nat) (u : Int) (vr : Value) (n : Nat) : Nat → Value
  | 0 => .pointer (some ⟨tb, 3, none⟩)
  | 1 => vr
  | 2 => .int .i64 n
  | 4 => .pointer (some ⟨g, 0, none⟩)
  | 5 => .int .i64 e
  | 7 => .int .i64 u
  | 8 => .pointer (some ⟨tb, 1, none⟩)
  | _ => undef
def spec_l20Any.T11 : Bool × List (List Nat × List Nat) := (true, [([], []), ([0], [0]), ([1], [1]), ([2], [2]), ([], []), ([4], [4]), ([3, 5], [3, 5]), ([6], [6]), ([0, 1, 2, 3, 4, 5, 6, 7], []), ([8, 7, 5, 0, 1, 2, 3, 4, 5, 6, 7], [7, 8])])
def spec_l20Any.B11 : List Nat := [0, 1, 3, 7, 0, 16, 63, 127, 255, 511]
def spec_l20Any.L11 : List (Nat × Tmp) := [(0, 44), (1, 45), (2, 46), (3, 47), (4, 48), (5, 49), (6, 50), (7, 51), (8, 52)]
def spec_l20Any.O11 : List Nat := [0, 1, 2, 3, 4, 5, 6, 7, 8, 9]
theorem spec_l20Any.tab11 : rtab .any (opsOf Tryd.f14 11) = spec_l20Any.T11 := by kernel_rfl
theorem spec_l20Any.bits11 : waitsOk spec_l20Any.T11.2 spec_l20Any.B11 = true := by kernel_rfl
theorem spec_l20Any.base11 : baseOk spec_l20Any.T11.2 spec_l20Any.O11 = true := by kernel_rfl
theorem spec_l20Any.lof11 : (lof spec_l20Any.T11.2.length spec_l20Any.O11 (fun _ => false) == List.replicate spec_l20Any.T11.2.length false && spec_l20Any.O11.length == spec_l20Any.T11.2.length) = true := by kernel_rfl
theorem spec_l20Any.ents11 : chkL (opsOf Tryd.f14 11) spec_l20Any.O11 spec_l20Any.L11 = true := by kernel_rfl
theorem spec_l20Any.last11 : lastOk spec_l20Any.B11 spec_l20Any.O11 9 = true := by kernel_rfl
def spec_l20Any.F11 (e : Nat) : Nat → Option (Nat → Value)
  | 3 => some (fun C => .slice (some ⟨C, 0, none⟩) 3 3)
  | 6 => some (fun C => .pointer (some ⟨C, e, none⟩))
  | _ => none
def spec_l20Any.V11 (g tb e : Nat) (u : Int) (vr : Value) (n : Nat) : Nat → Value
  | 0 => .pointer (some ⟨tb, 3, none⟩)
  | 1 => vr
  | 2 => .int .i64 n
  | 4 => .pointer (some ⟨g, 0, none⟩)
  | 5 => .int .i64 e
  | 7 => .int .i64 u
  | 8 => .pointer (some ⟨tb, 2, none⟩)
  | _ => undef
def spec_l20Any.T15 : Bool × List (List Nat × List Nat) := (true, [([], []), ([0], [0]), ([], []), ([2], [2]), ([], []), ([], []), ([5, 3], [5]), ([4, 6], [4, 6]), ([7], [7]), ([3, 8], [3, 8]), ([9], [9]), ([1, 10, 6], [1, 10]), ([0, 1, 2, 3, 4, 5, 6, 7, 8, 9, 10, 11], []), ([12, 11, 11, 0, 1, 2, 3, 4, 5, 6, 7, 8, 9, 10, 11], [11, 12])])
def spec_l20Any.B15 : List Nat := [0, 1, 0, 4, 0, 0, 44, 124, 252, 508, 1020, 2047, 4095, 8191]
def spec_l20Any.L15 : List (Nat × Tmp) := [(0, 63), (1, 64), (2, 65), (3, 66), (4, 67), (5, 68), (6, 69), (7, 70), (8, 71), (9, 72), (10, 73), (11, 74), (12, 75)]
def spec_l20Any.O15 : List Nat := [0, 1, 2, 3, 4, 5, 6, 7, 8, 9, 10, 11, 12, 13]
theorem spec_l20Any.tab15 : rtab .any (opsOf Tryd.f14 15) = spec_l20Any.T15 := by kernel_rfl
theorem spec_l20Any.bits15 : waitsOk spec_l20Any.T15.2 spec_l20Any.B15 = true := by kernel_rfl
theorem spec_l20Any.base15 : baseOk spec_l20Any.T15.2 spec_l20Any.O15 = true := by kernel_rfl
theorem spec_l20Any.lof15 : (lof spec_l20Any.T15.2.length spec_l20Any.O15 (fun _ => false) == List.replicate spec_l20Any.T15.2.length false && spec_l20Any.O15.length == spec_l20Any.T15.2.length) = true := by kernel_rfl
theorem spec_l20Any.ents15 : chkL (opsOf Tryd.f14 15) spec_l20Any.O15 spec_l20Any.L15 = true := by kernel_rfl
theorem spec_l20Any.last15 : lastOk spec_l20Any.B15 spec_l20Any.O15 13 = true := by kernel_rfl
def spec_l20Any.F15 (e : Nat) : Nat → Option (Nat → Value)
  | 4 => some (fun C => .slice (some ⟨C, 0, none⟩) 4 4)
  | 7 => some (fun C => .pointer (some ⟨C, e, none⟩))
  | 10 => some (fun C => .slice (some ⟨C, 0, none⟩) 1 1)
  | _ => none
def spec_l20Any.W15 (d u : Int) : Nat → Obj
  | 4 | 7 => .cells (ppA3.map (Value.int .i64)).toArray 3 (0, 0)
  | _ => .cells #[.int .i64 d, .int .i64 u] 57 (0, 0)
def spec_l20Any.V15 (g tb e : Nat) (d u : Int) (vc : Value) : Nat → Value
  | 0 | 12 => .pointer (some ⟨tb, 0, none⟩)
  | 1 => vc
  | 2 | 5 => .pointer (some ⟨g, 0, none⟩)
  | 3 => .int .i64 d
  | 6 => .int .i64 e
  | 8 => .int .i64 u
  | 9 => .agg #[.int .i64 d, .int .i64 u]
  | _ => undef
def spec_l20Any.P15 (w wr : World) (cols : List S57) (e : Nat) (d u : Int) (V : Nat → Value) : Nat → Value → World → Prop
  | 11, v, W => Kd.R k57 57 W w.heap.size (fun _ => True) v (cols ++ [⟨d, u⟩])
  | j, v, W => PhiB (spec_l20Any.F15 e) (spec_l20Any.W15 d u) V wr.heap.size j v W
def spec_l20Any.T17 : Bool × List (List Nat × List Nat) := (true, [([], []), ([0], [0]), ([], []), ([], []), ([3], [3]), ([], []), ([4, 5], [4, 5]), ([6], [6]), ([7], [7]), ([], []), ([9], [9]), ([10], [10]), ([8, 11, 10], [8, 11]), ([1, 2, 0, 1, 2, 3, 4, 5, 6, 7, 8, 9, 10, 11, 12], [1, 2]), ([13, 0, 1, 2, 3, 4, 5, 6, 7, 8, 9, 10, 11, 12], [13]), ([14, 12, 12, 0, 1, 2, 3, 4, 5, 6, 7, 8, 9, 10, 11, 12], [12, 14])])
def spec_l20Any.B17 : List Nat := [0, 1, 0, 0, 8, 0, 56, 120, 248, 0, 512, 1536, 4088, 8191, 16383, 32767]
def spec_l20Any.L17 : List (Nat × Tmp) := [(0, 78), (1, 79), (2, 80), (3, 81), (4, 82), (5, 83), (6, 84), (7, 85), (8, 86), (9, 87), (10, 88), (11, 89), (12, 90), (13, 91), (14, 92)]
def spec_l20Any.O17 : List Nat := [0, 1, 2, 3, 4, 5, 6, 7, 8, 9, 10, 11, 12, 13, 14, 15]
theorem spec_l20Any.tab17 : rtab .any (opsOf Tryd.f14 17) = spec_l20Any.T17 := by kernel_rfl
theorem spec_l20Any.bits17 : waitsOk spec_l20Any.T17.2 spec_l20Any.B17 = true := by kernel_rfl
theorem spec_l20Any.base17 : baseOk spec_l20Any.T17.2 spec_l20Any.O17 = true := by kernel_rfl
theorem spec_l20Any.lof17 : (lof spec_l20Any.T17.2.length spec_l20Any.O17 (fun _ => false) == List.replicate spec_l20Any.T17.2.length false && spec_l20Any.O17.length == spec_l20Any.T17.2.length) = true := by kernel_rfl
theorem spec_l20Any.ents17 : chkL (opsOf Tryd.f14 17) spec_l20Any.O17 spec_l20Any.L17 = true := by kernel_rfl
theorem spec_l20Any.last17 : lastOk spec_l20Any.B17 spec_l20Any.O17 15 = true := by kernel_rfl
def spec_l20Any.V17 (g tb X a : Nat) (vr vx : Value) (x : S30) : Nat → Value
  | 0 | 3 => .pointer (some ⟨tb, 3, none⟩)
  | 1 | 4 => vr
  | 2 | 5 => .int .i64 a
  | 6 | 7 | 13 | 14 => .pointer (some ⟨X, a * 2, none⟩)
  | 8 => vx
  | 9 => .pointer (some ⟨g, 0, none⟩)
  | 10 => .agg (cellA x)
  | _ => undef
def spec_l20Any.P17 (w wr : World) (vr vx : Value) (rows : List S42) (a : Nat) (x : S30) (V : Nat → Value) : Nat → Value → World → Prop
  | 12, v, W => ∃ oki, Kd.H k42 42 W w.heap.size (fun _ => True) vr rows (a : Int) oki [vx, .bool (paRow rows a).f1] ∧ Kd.R k30 30 W w.heap.size oki v ((paRow rows a).f0 ++ [x])
  | j, v, W => PhiB (fun j => if j = 11 then some (fun C => .slice (some ⟨C, 0, none⟩) 1 1) else none) (fun _ => .cells (cellA x) 30 (0, 0)) V wr.heap.size j v W
set_option maxHeartbeats 4000000 in
set_option maxRecDepth 100000 in
theorem spec_l20Any.calls (k : Nat) (g : Nat) (s0_0 : List Int) (s0_1 : Int) (a1 : Int) (t : PTab) (r2 : Int) (w0 w : World) (hI : IsS68 w0 w g s0_0 s0_1) (hB : Below w0.heap.size w0 w) (h : spec_l20Any.f k s0_0 s0_1 a1 = some (t, r2)) :
    Calls Tryd.prog 14 #[.pointer (some ⟨g, 0, none⟩), .int .i64 a1] w fun e w' => ∃ vc vr : Value, e = .returned (.agg #[vc, .int .i64 t.head, .int .i64 t.foot, vr, .int .i64 t.gap]) ∧ Kd.R k57 57 w' w.heap.size (fun _ => True) vc t.cols ∧ Kd.S k42 42 w' w.heap.size (fun _ => True) vr t.rows ∧ IsS68 w0 w' g s0_0 r2 ∧ Below w0.heap.size w0 w' ∧ KeepBut w w' g none := by
  have HR := Aside0.mk (Rds.new hI hB)
  have hgw : g < w.heap.size := HR.out.lt
  clear hI hB
  unfold spec_l20Any.f at h
  rw [Option.bind_eq_some_iff] at h
  obtain ⟨⟨⟨cols, hd, ft, rows, gap⟩, p1⟩, h1, h⟩ := h
  have A1 := Aside0.mk h1
  clear h1
  rw [Option.bind_eq_some_iff] at h
  obtain ⟨⟨c, p2⟩, h1, h⟩ := h
  have A3 := Aside0.mk h1
  clear h1
  simp only at h A3
  have HH := Aside0.mk h
  clear h
  go_enter Tryd.func14, Tryd.ntmps14
  go_upto_region 2 with (go_at_call 38; (with_reducible refine (spec_l20Tab.calls k g s0_0 s0_1 _ p1 w0 _ (IsS68.alloc HR.out.st _) (below_alloc HR.out.bl _) A1.out).mono ?_); rintro e_ W1 ⟨vc, vr, rfl, hR, hS, hi, hb, hk⟩; have HQ := Aside0.mk ((HR.out.alloc _).call hi hb hk); have HB := Aside0.mk ((HR.out.alloc _).blk hk (blk_new w _) (Nat.le_refl _)); obtain ⟨Ac, cc, rfl⟩ := Kd.R_slice hR; obtain ⟨Ar, cr, rfl⟩ := Kd.S_slice hS; have HV := Aside0.mk (Kd.R_lower (base' := w.heap.size) hR (by simp)); have HS := Aside0.mk (Kd.S_lower (base' := w.heap.size) hS (by simp)); clear hR hS hi hb hk)
  have HQ1 := HQ.out.alloc (.cells (tabA (.slice Ac cols.length cc) (.slice Ar rows.length cr) hd ft gap) 26)
  have HB1 := blk_alloc HB.out (.cells (tabA (.slice Ac cols.length cc) (.slice Ar rows.length cr) hd ft gap) 26)
  have HG1 := blk_new W1 (.cells (tabA (.slice Ac cols.length cc) (.slice Ar rows.length cr) hd ft gap) 26)
  have HV1 := Kd.R_alloc HV.out (.cells (tabA (.slice Ac cols.length cc) (.slice Ar rows.length cr) hd ft gap) 26)
  have HS1 := Kd.S_alloc HS.out (.cells (tabA (.slice Ac cols.length cc) (.slice Ar rows.length cr) hd ft gap) 26)
  have HGN1 : w.heap.size < W1.heap.size := blk_lt HB.out
  obtain ⟨WA, hWA⟩ : ∃ WA, W1.alloc (.cells (tabA (.slice Ac cols.length cc) (.slice Ar rows.length cr) hd ft gap) 26) = WA := ⟨_, rfl⟩
  obtain ⟨tb, htb⟩ : ∃ tb, W1.heap.size = tb := ⟨_, rfl⟩
  show Code.wp Tryd.prog _ _ _ (W1.alloc (.cells (tabA (.slice Ac cols.length cc) (.slice Ar rows.length cr) hd ft gap) 26))
  rw [hWA] at HQ1 HB1 HG1 HV1 HS1 ⊢
  rw [htb] at HG1 HGN1 ⊢
  clear hWA htb HQ HB HV HS
  have HQ := Aside0.mk HQ1
  have HB : Aside0 (WA.heap[w.heap.size]? = some (.cells (tabA nilV nilV 0 0 0) 26 (0, 0))) := ⟨HB1⟩
  have HG := Aside0.mk HG1
  have HV := Aside0.mk HV1
  have HS := Aside0.mk HS1
  have HGN := Aside0.mk HGN1
  have HGB := Aside0.mk (Nat.le_of_lt HGN1)
  clear HQ1 HB1 HG1 HV1 HS1 HGN1 A1 HR
  have h := HH.out
  clear HH
  by_cases hc : c > 0
  · rw [if_pos hc] at h
    simp only [Option.some.injEq, Prod.mk.injEq] at h
    obtain ⟨rfl, rfl⟩ := h
    go_upto_region 3 with (go_at_call 15; (with_reducible refine (spec_l20Rd_pick.calls k g s0_0 p1 a1 c p2 w0 _ HQ.out.st HQ.out.bl A3.out).mono ?_); rintro e_ W2_ ⟨rfl, hi, hb, hk⟩; replace HB := Aside0.mk (HQ.out.blk hk HB.out (Nat.le_refl _)); replace HG := Aside0.mk (HQ.out.blk hk HG.out HGB.out); replace HV := Aside0.mk (R_keepG HV.out hgw hk); replace HS := Aside0.mk (S_keepG HS.out hgw hk); replace HQ := Aside0.mk (HQ.out.call hi hb hk); clear hi hb hk; (try clear q3); have q3 : W2_.cell? ⟨tb, 3, none⟩ = some (.slice Ar rows.length cr) := (blk_cell HG.out 3).trans rfl)
    go_wp2_with (first | (refine wpList_load_row rfl 26 _ rfl tb rfl 26 (tabA (.slice Ac cols.length cc) (.slice Ar rows.length cr) hd ft gap) (0, 0) _ HG.out Tryd.underlying26 rfl (by kernel_rfl) ?_) | (refine wpList_put 26 _ _ rfl rfl w.heap.size 0 rfl (.agg (tabA (.slice Ac cols.length cc) (.slice Ar rows.length cr) hd ft gap)) rfl 26 (tabA nilV nilV 0 0 0) (tabA (.slice Ac cols.length cc) (.slice Ar rows.length cr) hd ft gap) HB.out (by kernel_rfl) rfl rfl rfl (fun W9 hp => ?_); have HF := Aside0.mk (HQ.out.put hp (Nat.le_refl _)); have HFB := Aside0.mk hp.blk; have HFV := Aside0.mk (R_put HV.out HB.out hp (by decide)); have HFS := Aside0.mk (S_put HS.out HB.out hp (by decide)); clear hp))
    exact bodyPost_ret (results_cell_row rfl _ _ w.heap.size 26 (tabA (.slice Ac cols.length cc) (.slice Ar rows.length cr) hd ft gap) (0, 0) _ rfl HFB.out Tryd.underlying26 rfl (by kernel_rfl)) rfl ⟨_, _, rfl, HFV.out, HFS.out, HF.out.st, HF.out.bl, HF.out.kp⟩
  · rw [if_neg hc] at h
    have hcb : decide (c > 0) = false := decide_eq_false hc
    clear hc
    rw [Option.bind_eq_some_iff] at h
    obtain ⟨⟨a, p3⟩, h1, h⟩ := h
    have A4 := Aside0.mk h1
    clear h1
    simp only at h A4
    split at h
    · rename_i hab
      obtain ⟨a, rfl⟩ : ∃ n : Nat, a = n := ⟨a.toNat, by omega⟩
      rw [Int.toNat_natCast] at h
      have haz : (a : Int) < (rows.length : Int) := hab.2
      have HA := Aside0.mk (show a < rows.length by omega)
      clear hab
      rw [Option.bind_eq_some_iff] at h
      obtain ⟨⟨sw, p4⟩, h1, h⟩ := h
      have A5 := Aside0.mk h1
      clear h1
      simp only at h A5
      obtain ⟨X, cap2, hv, hX1, hX2, _⟩ := Kd.S_form HS.out (by have := HA.out; omega)
      injection hv with e1 e2 e3
      subst e1 e3
      clear hX1 hX2 e2
      have HH := Aside0.mk h
      clear h
      have q3 : WA.cell? ⟨tb, 3, none⟩ = some (.slice (some ⟨X, 0, none⟩) rows.length cr) := (blk_cell HG.out 3).trans rfl
      go_upto_region 8 with (first | (go_at_call 15; (with_reducible refine (spec_l20Rd_pick.calls k g s0_0 p1 a1 c p2 w0 _ HQ.out.st HQ.out.bl A3.out).mono ?_); rintro e_ W2_ ⟨rfl, hi, hb, hk⟩; replace HB := Aside0.mk (HQ.out.blk hk HB.out (Nat.le_refl _)); replace HG := Aside0.mk (HQ.out.blk hk HG.out HGB.out); replace HV := Aside0.mk (R_keepG HV.out hgw hk); replace HS := Aside0.mk (S_keepG HS.out hgw hk); replace HQ := Aside0.mk (HQ.out.call hi hb hk); clear hi hb hk; (try clear q3); have q3 : W2_.cell? ⟨tb, 3, none⟩ = some (.slice (some ⟨X, 0, none⟩) rows.length cr) := (blk_cell HG.out 3).trans rfl) | (go_at_call 15; (with_reducible refine (spec_l20Rd_pick.calls k g s0_0 p2 (rows.length : Int) a p3 w0 _ HQ.out.st HQ.out.bl A4.out).mono ?_); rintro e_ W2_ ⟨rfl, hi, hb, hk⟩; replace HB := Aside0.mk (HQ.out.blk hk HB.out (Nat.le_refl _)); replace HG := Aside0.mk (HQ.out.blk hk HG.out HGB.out); replace HV := Aside0.mk (R_keepG HV.out hgw hk); replace HS := Aside0.mk (S_keepG HS.out hgw hk); replace HQ := Aside0.mk (HQ.out.call hi hb hk); clear hi hb hk; (try clear q3); have q3 : W2_.cell? ⟨tb, 3, none⟩ = some (.slice (some ⟨X, 0, none⟩) rows.length cr) := (blk_cell HG.out 3).trans rfl) | (go_at_call 15; (with_reducible refine (spec_l20Rd_pick.calls k g s0_0 p3 6 sw p4 w0 _ HQ.out.st HQ.out.bl A5.out).mono ?_); rintro e_ W3 ⟨rfl, hi, hb, hk⟩; replace HB := Aside0.mk (HQ.out.blk hk HB.out (Nat.le_refl _)); replace HG := Aside0.mk (HQ.out.blk hk HG.out HGB.out); replace HV := Aside0.mk (R_keepG HV.out hgw hk); replace HS := Aside0.mk (S_keepG HS.out hgw hk); replace HQ := Aside0.mk (HQ.out.call hi hb hk); clear hi hb hk; (try clear q3); have q3 : W3.cell? ⟨tb, 3, none⟩ = some (.slice (some ⟨X, 0, none⟩) rows.length cr) := (blk_cell HG.out 3).trans rfl))
      have hk0 := fun W => KeepBut.refl W g none
      have h := HH.out
      clear HH hcb q3 A3 A4 A5
      unfold spec_l20Any.turn at h
      by_cases d0 : sw = 0
      · subst d0
        rw [if_pos rfl] at h
        rw [Option.bind_eq_some_iff] at h
        obtain ⟨⟨e, q⟩, h1, h⟩ := h
        have A6 := Aside0.mk h1
        clear h1
        simp only at h A6
        split at h
        · rename_i he2
          obtain ⟨e, rfl⟩ : ∃ n : Nat, e = n := ⟨e.toNat, by omega⟩
          have he : e < 3 := by omega
          rw [Int.toNat_natCast] at h
          obtain ⟨u, hu⟩ : ∃ u, (ppA0 rows.length).getD e 0 = u := ⟨_, rfl⟩
          rw [hu] at h
          clear he2
          simp only [Option.some.injEq, Prod.mk.injEq] at h
          obtain ⟨rfl, rfl⟩ := h
          go_wp2
          have HEL := Aside0.mk (show e < (ppA0 rows.length).length from he)
          have HU := Aside0.mk hu
          have hez : (e : Int) < ((3 : Nat) : Int) := Int.ofNat_lt.2 he
          have hez4 : ¬ (3 : Int) ≤ (e : Int) := by omega
          clear he hu
          refine region_envL (T := spec_l20Any.T9) (B := spec_l20Any.B9) spec_l20Any.O9 spec_l20Any.L9 9 (PhiB (spec_l20Any.F9 e) (fun _ => .cells ((ppA0 rows.length).map (Value.int .i64)).toArray 3 (0, 0)) (spec_l20Any.V9 g tb e u (.slice (some ⟨X, 0, none⟩) rows.length cr) rows.length) w.heap.size)
            (fun b W => Rds w0 w g s0_0 (if b 5 = true then q else p4) W ∧ W.heap[w.heap.size]? = some (.cells (tabA nilV nilV 0 0 0) 26 (0, 0)) ∧ W.heap[tb]? = some (.cells (tabA (.slice Ac cols.length cc) (.slice (some ⟨X, 0, none⟩) rows.length cr) hd ft gap) 26 (0, 0)) ∧ Kd.R k57 57 W w.heap.size (fun _ => True) (.slice Ac cols.length cc) cols ∧ Kd.S k42 42 W w.heap.size (fun _ => True) (.slice (some ⟨X, 0, none⟩) rows.length cr) rows) (fun W W' => KeepBut W W' g none)
            (fun _ W => Rds w0 w g s0_0 q W ∧ W.heap[w.heap.size]? = some (.cells (tabA nilV nilV 0 0 0) 26 (0, 0)) ∧ W.heap[tb]? = some (.cells (tabA (.slice Ac cols.length cc) (.slice (some ⟨X, 0, none⟩) rows.length cr) u ft gap) 26 (0, 0)) ∧ Kd.R k57 57 W w.heap.size (fun _ => True) (.slice Ac cols.length cc) cols ∧ Kd.S k42 42 W w.heap.size (fun _ => True) (.slice (some ⟨X, 0, none⟩) rows.length cr) rows)
            rfl spec_l20Any.tab9 spec_l20Any.bits9 spec_l20Any.base9 spec_l20Any.lof9 spec_l20Any.ents9 spec_l20Any.last9 (PhiB.keep hgw) ⟨HQ.out.drew, HB.out, HG.out, Kd.R_drew HV.out, Kd.S_drew HS.out⟩ ?_ ?_ ?_
          · skip
            refine alln_cons (EStep.pure hk0 fun b E a' W ha hG hP => ?_) ?_
            · have s5 : a'.tmps[5]? = some (.pointer (some ⟨tb, 0, none⟩)) := (slot_off ha rfl).trans rfl
              exact ⟨_, .pointer (some ⟨tb, 3, none⟩), rfl, rfl, by clear ha hG hP; go_simp; try first | rfl | exact i64_w _, rfl, hG⟩
            refine alln_cons (EStep.pure hk0 fun b E a' W ha hG hP => ?_) ?_
            · have s33 : a'.tmps[33]? = some (.pointer (some ⟨tb, 3, none⟩)) := slotv ha (hP 0 rfl).1 rfl (hP 0 rfl).2
              have hc : W.cell? ⟨tb, 3, none⟩ = some (.slice (some ⟨X, 0, none⟩) rows.length cr) := (blk_cell hG.2.2.1 3).trans rfl
              exact ⟨_, (.slice (some ⟨X, 0, none⟩) rows.length cr), rfl, rfl, by clear ha hG hP; go_simp, rfl, hG⟩
            refine alln_cons (EStep.pure hk0 fun b E a' W ha hG hP => ?_) ?_
            · have s34 : a'.tmps[34]? = some ((.slice (some ⟨X, 0, none⟩) rows.length cr)) := slotv ha (hP 1 rfl).1 rfl (hP 1 rfl).2
              exact ⟨_, .int .i64 rows.length, rfl, rfl, by clear ha hG hP; go_simp; try first | rfl | exact i64_w _, rfl, hG⟩
            refine alln_cons (EStep.step fun b E a' W ha hG hP hoff hb => ?_) ?_
            · have s35 : a'.tmps[35]? = some (.int .i64 rows.length) := slotv ha (hP 2 rfl).1 rfl (hP 2 rfl).2
              exact ⟨_, .slice (some ⟨W.heap.size, 0, none⟩) 3 3, W.alloc (.cells ((ppA0 rows.length).map (Value.int .i64)).toArray 3), rfl, rfl, by clear ha hP hoff hb hG; go_simp; try rfl, ⟨_, rfl, hG.1.size, blk_new _ _⟩, keep_alloc (hk0 W) _, hG.1.alloc _, blk_alloc hG.2.1 _, blk_alloc hG.2.2.1 _, Kd.R_alloc hG.2.2.2.1 _, Kd.S_alloc hG.2.2.2.2 _⟩
            refine alln_cons (EStep.pure hk0 fun b E a' W ha hG hP => ?_) ?_
            · have s0 : a'.tmps[0]? = some (.pointer (some ⟨g, 0, none⟩)) := (slot_off ha rfl).trans rfl
              exact ⟨_, .pointer (some ⟨g, 0, none⟩), rfl, rfl, by clear ha hG hP; go_simp; try first | rfl | exact i64_w _, rfl, hG⟩
            refine alln_cons (EStep.call Tryd.func15 (by kernel_rfl) rfl ⟨_, rfl, rfl, rfl⟩ fun b E a' W ha hG hP hoff hb => ⟨#[.pointer (some ⟨g, 0, none⟩), .int .i64 3], ?_, ?_⟩) ?_
            · have s37 : a'.tmps[37]? = some (.pointer (some ⟨g, 0, none⟩)) := slotv ha (hP 4 rfl).1 rfl (hP 4 rfl).2
              clear ha hG hP hoff hb
              simp [Act.eval, Array.getD_eq_getD_getElem?, s37]
            · obtain ⟨hG1, hG2, hG3, hG4, hG5⟩ := hG
              rw [if_neg (by rw [hb]; decide)] at hG1
              refine (spec_l20Rd_pick.calls k g s0_0 p4 3 e q w0 W hG1.st hG1.bl A6.out).mono ?_
              rintro _ W2 ⟨rfl, hi, hb2, hk⟩
              exact ⟨_, rfl, rfl, hk, hG1.call hi hb2 hk, hG1.blk hk hG2 (Nat.le_refl _), hG1.blk hk hG3 HGB.out, R_keepG hG4 hgw hk, S_keepG hG5 hgw hk⟩
            refine alln_cons (EStep.pure hk0 fun b E a' W ha hG hP => ?_) ?_
            · obtain ⟨C, hC1, hC2, hC3⟩ := (hP 3 rfl).2
              have s36 : a'.tmps[36]? = some (.slice (some ⟨C, 0, none⟩) 3 3) := slotv ha (hP 3 rfl).1 rfl hC1
              have s38 : a'.tmps[38]? = some (.int .i64 e) := slotv ha (hP 5 rfl).1 rfl (hP 5 rfl).2
              exact ⟨_, .pointer (some ⟨C, e, none⟩), rfl, rfl, by clear ha hG hP hC1 hC2 hC3; go_simp, ⟨C, rfl, hC2, hC3⟩, hG⟩
            refine alln_cons (EStep.pure hk0 fun b E a' W ha hG hP => ?_) ?_
            · obtain ⟨C, hC1, hC2, hC3⟩ := (hP 6 rfl).2
              have s39 : a'.tmps[39]? = some (.pointer (some ⟨C, e, none⟩)) := slotv ha (hP 6 rfl).1 rfl hC1
              have hc : W.cell? ⟨C, e, none⟩ = some (.int .i64 u) := (blk_cell hC3 e).trans ((ppInts_at (l := ppA0 rows.length) HEL.out).trans (by rw [HU.out]))
              exact ⟨_, .int .i64 u, rfl, rfl, by clear ha hG hP hC1 hC2 hC3; go_simp, rfl, hG⟩
            refine alln_cons (EStep.pure hk0 fun b E a' W ha hG hP => ?_) alln_last
            · have s5 : a'.tmps[5]? = some (.pointer (some ⟨tb, 0, none⟩)) := (slot_off ha rfl).trans rfl
              exact ⟨_, .pointer (some ⟨tb, 1, none⟩), rfl, rfl, by clear ha hG hP; go_simp; try first | rfl | exact i64_w _, rfl, hG⟩
          · intro b E a' W ha hG hP hb
            have s41 : a'.tmps[41]? = some (.pointer (some ⟨tb, 1, none⟩)) := slotv ha (hP 8 rfl (by decide)).1 rfl (hP 8 rfl (by decide)).2
            have s40 : a'.tmps[40]? = some (.int .i64 u) := slotv ha (hP 7 rfl (by decide)).1 rfl (hP 7 rfl (by decide)).2
            obtain ⟨hG1, hG2, hG3, hG4, hG5⟩ := hG
            rw [if_pos (hP 5 rfl (by decide)).1] at hG1
            have hp := Put.setRow (cs := tabA (.slice Ac cols.length cc) (.slice (some ⟨X, 0, none⟩) rows.length cr) u ft gap) hG3
            exact ⟨_, rfl, fun K hK => skip_ rfl rfl (exec_put 3 _ _ rfl tb 1 (by simp [Act.eval, Array.getD_eq_getD_getElem?, s41]) (.int .i64 u) (by simp [Act.eval, Array.getD_eq_getD_getElem?, s40]) 26 _ (tabA (.slice Ac cols.length cc) (.slice (some ⟨X, 0, none⟩) rows.length cr) u ft gap) hG3 (by kernel_rfl) rfl rfl rfl) (hK.out undef _ ⟨hG1.put hp HGB.out, hp.keep hG2 (Nat.ne_of_lt HGN.out), hp.blk, R_put hG4 hG3 hp (by decide), S_put hG5 hG3 hp (by decide)⟩)⟩
          · intro E b W hall hF
            obtain ⟨h1, h2, h3, h4, h5⟩ := hF
            rw [putSel_all (fun x hx => hall x.1 (by revert x; decide))]
            simp only [spec_l20Any.L9, List.foldl, Act.put, List.setIfInBounds_toArray, List.set_cons_zero, List.set_cons_succ]
            clear hall HQ HB HG HV HS HU HEL hez hez4
            have HQ := Aside0.mk h1
            have HB := Aside0.mk h2
            have HG := Aside0.mk h3
            have HV := Aside0.mk h4
            have HS := Aside0.mk h5
            clear h1 h2 h3 h4 h5
            go_wp2_with (first | (refine wpList_load_row rfl 26 _ rfl tb rfl 26 (tabA (.slice Ac cols.length cc) (.slice (some ⟨X, 0, none⟩) rows.length cr) u ft gap) (0, 0) _ HG.out Tryd.underlying26 rfl (by kernel_rfl) ?_) | (refine wpList_put 26 _ _ rfl rfl w.heap.size 0 rfl (.agg (tabA (.slice Ac cols.length cc) (.slice (some ⟨X, 0, none⟩) rows.length cr) u ft gap)) rfl 26 (tabA nilV nilV 0 0 0) (tabA (.slice Ac cols.length cc) (.slice (some ⟨X, 0, none⟩) rows.length cr) u ft gap) HB.out (by kernel_rfl) rfl rfl rfl (fun W9 hp => ?_); have HF := Aside0.mk (HQ.out.put hp (Nat.le_refl _)); have HFB := Aside0.mk hp.blk; have HFV := Aside0.mk (R_put HV.out HB.out hp (by decide)); have HFS := Aside0.mk (S_put HS.out HB.out hp (by decide)); clear hp))
            exact bodyPost_ret (results_cell_row rfl _ _ w.heap.size 26 (tabA (.slice Ac cols.length cc) (.slice (some ⟨X, 0, none⟩) rows.length cr) u ft gap) (0, 0) _ rfl HFB.out Tryd.underlying26 rfl (by kernel_rfl)) rfl ⟨_, _, rfl, HFV.out, HFS.out, HF.out.st, HF.out.bl, HF.out.kp⟩
        · cases h
      rw [if_neg d0] at h
      have b0 : (sw == 0) = false := by simpa using d0
      by_cases d1 : sw = 1
      · subst d1
        rw [if_pos rfl] at h
        rw [Option.bind_eq_some_iff] at h
        obtain ⟨⟨e, q⟩, h1, h⟩ := h
        have A6 := Aside0.mk h1
        clear h1
        simp only at h A6
        split at h
        · rename_i he2
          obtain ⟨e, rfl⟩ : ∃ n : Nat, e = n := ⟨e.toNat, by omega⟩
          have he : e < 3 := by omega
          rw [Int.toNat_natCast] at h
          obtain ⟨u, hu⟩ : ∃ u, (ppA0 rows.length).getD e 0 = u := ⟨_, rfl⟩
          rw [hu] at h
          clear he2
          simp only [Option.some.injEq, Prod.mk.injEq] at h
          obtain ⟨rfl, rfl⟩ := h
          go_wp2
          have HEL := Aside0.mk (show e < (ppA0 rows.length).length from he)
          have HU := Aside0.mk hu
          have hez : (e : Int) < ((3 : Nat) : Int) := Int.ofNat_lt.2 he
          have hez4 : ¬ (3 : Int) ≤ (e : Int) := by omega
          clear he hu
          refine region_envL (T := spec_l20Any.T11) (B := spec_l20Any.B11) spec_l20Any.O11 spec_l20Any.L11 9 (PhiB (spec_l20Any.F11 e) (fun _ => .cells ((ppA0 rows.length).map (Value.int .i64)).toArray 3 (0, 0)) (spec_l20Any.V11 g tb e u (.slice (some ⟨X, 0, none⟩) rows.length cr) rows.length) w.heap.size)
            (fun b W => Rds w0 w g s0_0 (if b 5 = true then q else p4) W ∧ W.heap[w.heap.size]? = some (.cells (tabA nilV nilV 0 0 0) 26 (0, 0)) ∧ W.heap[tb]? = some (.cells (tabA (.slice Ac cols.length cc) (.slice (some ⟨X, 0, none⟩) rows.length cr) hd ft gap) 26 (0, 0)) ∧ Kd.R k57 57 W w.heap.size (fun _ => True) (.slice Ac cols.length cc) cols ∧ Kd.S k42 42 W w.heap.size (fun _ => True) (.slice (some ⟨X, 0, none⟩) rows.length cr) rows) (fun W W' => KeepBut W W' g none)
            (fun _ W => Rds w0 w g s0_0 q W ∧ W.heap[w.heap.size]? = some (.cells (tabA nilV nilV 0 0 0) 26 (0, 0)) ∧ W.heap[tb]? = some (.cells (tabA (.slice Ac cols.length cc) (.slice (some ⟨X, 0, none⟩) rows.length cr) hd u gap) 26 (0, 0)) ∧ Kd.R k57 57 W w.heap.size (fun _ => True) (.slice Ac cols.length cc) cols ∧ Kd.S k42 42 W w.heap.size (fun _ => True) (.slice (some ⟨X, 0, none⟩) rows.length cr) rows)
            rfl spec_l20Any.tab11 spec_l20Any.bits11 spec_l20Any.base11 spec_l20Any.lof11 spec_l20Any.ents11 spec_l20Any.last11 (PhiB.keep hgw) ⟨HQ.out.drew, HB.out, HG.out, Kd.R_drew HV.out, Kd.S_drew HS.out⟩ ?_ ?_ ?_
          · skip
            refine alln_cons (EStep.pure hk0 fun b E a' W ha hG hP => ?_) ?_
            · have s5 : a'.tmps[5]? = some (.pointer (some ⟨tb, 0, none⟩)) := (slot_off ha rfl).trans rfl
              exact ⟨_, .pointer (some ⟨tb, 3, none⟩), rfl, rfl, by clear ha hG hP; go_simp; try first | rfl | exact i64_w _, rfl, hG⟩
            refine alln_cons (EStep.pure hk0 fun b E a' W ha hG hP => ?_) ?_
            · have s44 : a'.tmps[44]? = some (.pointer (some ⟨tb, 3, none⟩)) := slotv ha (hP 0 rfl).1 rfl (hP 0 rfl).2
              have hc : W.cell? ⟨tb, 3, none⟩ = some (.slice (some ⟨X, 0, none⟩) rows.length cr) := (blk_cell hG.2.2.1 3).trans rfl
              exact ⟨_, (.slice (some ⟨X, 0, none⟩) rows.length cr), rfl, rfl, by clear ha hG hP; go_simp, rfl, hG⟩
            refine alln_cons (EStep.pure hk0 fun b E a' W ha hG hP => ?_) ?_
            · have s45 : a'.tmps[45]? = some ((.slice (some ⟨X, 0, none⟩) rows.length cr)) := slotv ha (hP 1 rfl).1 rfl (hP 1 rfl).2
              exact ⟨_, .int .i64 rows.length, rfl, rfl, by clear ha hG hP; go_simp; try first | rfl | exact i64_w _, rfl, hG⟩
            refine alln_cons (EStep.step fun b E a' W ha hG hP hoff hb => ?_) ?_
            · have s46 : a'.tmps[46]? = some (.int .i64 rows.length) := slotv ha (hP 2 rfl).1 rfl (hP 2 rfl).2
              exact ⟨_, .slice (some ⟨W.heap.size, 0, none⟩) 3 3, W.alloc (.cells ((ppA0 rows.length).map (Value.int .i64)).toArray 3), rfl, rfl, by clear ha hP hoff hb hG; go_simp; try rfl, ⟨_, rfl, hG.1.size, blk_new _ _⟩, keep_alloc (hk0 W) _, hG.1.alloc _, blk_alloc hG.2.1 _, blk_alloc hG.2.2.1 _, Kd.R_alloc hG.2.2.2.1 _, Kd.S_alloc hG.2.2.2.2 _⟩
            refine alln_cons (EStep.pure hk0 fun b E a' W ha hG hP => ?_) ?_
            · have s0 : a'.tmps[0]? = some (.pointer (some ⟨g, 0, none⟩)) := (slot_off ha rfl).trans rfl
              exact ⟨_, .pointer (some ⟨g, 0, none⟩), rfl, rfl, by clear ha hG hP; go_simp; try first | rfl | exact i64_w _, rfl, hG⟩
            refine alln_cons (EStep.call Tryd.func15 (by kernel_rfl) rfl ⟨_, rfl, rfl, rfl⟩ fun b E a' W ha hG hP hoff hb => ⟨#[.pointer (some ⟨g, 0, none⟩), .int .i64 3], ?_, ?_⟩) ?_
            · have s48 : a'.tmps[48]? = some (.pointer (some ⟨g, 0, none⟩)) := slotv ha (hP 4 rfl).1 rfl (hP 4 rfl).2
              clear ha hG hP hoff hb
              simp [Act.eval, Array.getD_eq_getD_getElem?, s48]
            · obtain ⟨hG1, hG2, hG3, hG4, hG5⟩ := hG
              rw [if_neg (by rw [hb]; decide)] at hG1
              refine (spec_l20Rd_pick.calls k g s0_0 p4 3 e q w0 W hG1.st hG1.bl A6.out).mono ?_
              rintro _ W2 ⟨rfl, hi, hb2, hk⟩
              exact ⟨_, rfl, rfl, hk, hG1.call hi hb2 hk, hG1.blk hk hG2 (Nat.le_refl _), hG1.blk hk hG3 HGB.out, R_keepG hG4 hgw hk, S_keepG hG5 hgw hk⟩
            refine alln_cons (EStep.pure hk0 fun b E a' W ha hG hP => ?_) ?_
            · obtain ⟨C, hC1, hC2, hC3⟩ := (hP 3 rfl).2
              have s47 : a'.tmps[47]? = some (.slice (some ⟨C, 0, none⟩) 3 3) := slotv ha (hP 3 rfl).1 rfl hC1
              have s49 : a'.tmps[49]? = some (.int .i64 e) := slotv ha (hP 5 rfl).1 rfl (hP 5 rfl).2
              exact ⟨_, .pointer (some ⟨C, e, none⟩), rfl, rfl, by clear ha hG hP hC1 hC2 hC3; go_simp, ⟨C, rfl, hC2, hC3⟩, hG⟩
            refine alln_cons (EStep.pure hk0 fun b E a' W ha hG hP => ?_) ?_
            · obtain ⟨C, hC1, hC2, hC3⟩ := (hP 6 rfl).2
              have s50 : a'.tmps[50]? = some (.pointer (some ⟨C, e, none⟩)) := slotv ha (hP 6 rfl).1 rfl hC1
              have hc : W.cell? ⟨C, e, none⟩ = some (.int .i64 u) := (blk_cell hC3 e).trans ((ppInts_at (l := ppA0 rows.length) HEL.out).trans (by rw [HU.out]))
              exact ⟨_, .int .i64 u, rfl, rfl, by clear ha hG hP hC1 hC2 hC3; go_simp, rfl, hG⟩
            refine alln_cons (EStep.pure hk0 fun b E a' W ha hG hP => ?_) alln_last
            · have s5 : a'.tmps[5]? = some (.pointer (some ⟨tb, 0, none⟩)) := (slot_off ha rfl).trans rfl
              exact ⟨_, .pointer (some ⟨tb, 2, none⟩), rfl, rfl, by clear ha hG hP; go_simp; try first | rfl | exact i64_w _, rfl, hG⟩
          · intro b E a' W ha hG hP hb
            have s52 : a'.tmps[52]? = some (.pointer (some ⟨tb, 2, none⟩)) := slotv ha (hP 8 rfl (by decide)).1 rfl (hP 8 rfl (by decide)).2
            have s51 : a'.tmps[51]? = some (.int .i64 u) := slotv ha (hP 7 rfl (by decide)).1 rfl (hP 7 rfl (by decide)).2
            obtain ⟨hG1, hG2, hG3, hG4, hG5⟩ := hG
            rw [if_pos (hP 5 rfl (by decide)).1] at hG1
            have hp := Put.setRow (cs := tabA (.slice Ac cols.length cc) (.slice (some ⟨X, 0, none⟩) rows.length cr) hd u gap) hG3
            exact ⟨_, rfl, fun K hK => skip_ rfl rfl (exec_put 3 _ _ rfl tb 2 (by simp [Act.eval, Array.getD_eq_getD_getElem?, s52]) (.int .i64 u) (by simp [Act.eval, Array.getD_eq_getD_getElem?, s51]) 26 _ (tabA (.slice Ac cols.length cc) (.slice (some ⟨X, 0, none⟩) rows.length cr) hd u gap) hG3 (by kernel_rfl) rfl rfl rfl) (hK.out undef _ ⟨hG1.put hp HGB.out, hp.keep hG2 (Nat.ne_of_lt HGN.out), hp.blk, R_put hG4 hG3 hp (by decide), S_put hG5 hG3 hp (by decide)⟩)⟩
          · intro E b W hall hF
            obtain ⟨h1, h2, h3, h4, h5⟩ := hF
            rw [putSel_all (fun x hx => hall x.1 (by revert x; decide))]
            simp only [spec_l20Any.L11, List.foldl, Act.put, List.setIfInBounds_toArray, List.set_cons_zero, List.set_cons_succ]
            clear hall HQ HB HG HV HS HU HEL hez hez4
            have HQ := Aside0.mk h1
            have HB := Aside0.mk h2
            have HG := Aside0.mk h3
            have HV := Aside0.mk h4
            have HS := Aside0.mk h5
            clear h1 h2 h3 h4 h5
            go_wp2_with (first | (refine wpList_load_row rfl 26 _ rfl tb rfl 26 (tabA (.slice Ac cols.length cc) (.slice (some ⟨X, 0, none⟩) rows.length cr) hd u gap) (0, 0) _ HG.out Tryd.underlying26 rfl (by kernel_rfl) ?_) | (refine wpList_put 26 _ _ rfl rfl w.heap.size 0 rfl (.agg (tabA (.slice Ac cols.length cc) (.slice (some ⟨X, 0, none⟩) rows.length cr) hd u gap)) rfl 26 (tabA nilV nilV 0 0 0) (tabA (.slice Ac cols.length cc) (.slice (some ⟨X, 0, none⟩) rows.length cr) hd u gap) HB.out (by kernel_rfl) rfl rfl rfl (fun W9 hp => ?_); have HF := Aside0.mk (HQ.out.put hp (Nat.le_refl _)); have HFB := Aside0.mk hp.blk; have HFV := Aside0.mk (R_put HV.out HB.out hp (by decide)); have HFS := Aside0.mk (S_put HS.out HB.out hp (by decide)); clear hp))
            exact bodyPost_ret (results_cell_row rfl _ _ w.heap.size 26 (tabA (.slice Ac cols.length cc) (.slice (some ⟨X, 0, none⟩) rows.length cr) hd u gap) (0, 0) _ rfl HFB.out Tryd.underlying26 rfl (by kernel_rfl)) rfl ⟨_, _, rfl, HFV.out, HFS.out, HF.out.st, HF.out.bl, HF.out.kp⟩
        · cases h
      rw [if_neg d1] at h
      have b1 : (sw == 1) = false := by simpa using d1
      by_cases d2 : sw = 2
      · subst d2
        rw [if_pos rfl] at h
        rw [Option.bind_eq_some_iff] at h
        obtain ⟨⟨e, q⟩, h1, h⟩ := h
        have A6 := Aside0.mk h1
        clear h1
        simp only at h A6
        split at h
        · rename_i he2
          obtain ⟨e, rfl⟩ : ∃ n : Nat, e = n := ⟨e.toNat, by omega⟩
          have he : e < 2 := by omega
          rw [Int.toNat_natCast] at h
          obtain ⟨u, hu⟩ : ∃ u, ppA2.getD e 0 = u := ⟨_, rfl⟩
          rw [hu] at h
          clear he2
          simp only [Option.some.injEq, Prod.mk.injEq] at h
          obtain ⟨rfl, rfl⟩ := h
          have HEL := Aside0.mk (show e < ppA2.length from he)
          have HU := Aside0.mk hu
          have hez : (e : Int) < ((2 : Nat) : Int) := Int.ofNat_lt.2 he
          have hez4 : ¬ (2 : Int) ≤ (e : Int) := by omega
          clear he hu
          go_upto_region 18 with (first | (go_at_call 15; (with_reducible refine (spec_l20Rd_pick.calls k g s0_0 p4 2 e q w0 _ (IsS68.alloc HQ.out.st _) (below_alloc HQ.out.bl _) A6.out).mono ?_); rintro e_ W4 ⟨rfl, hi, hb, hk⟩; have HC := Aside0.mk ((HQ.out.alloc _).blk hk (blk_new W3 (.cells (ppA2.map (Value.int .i64)).toArray 3)) HQ.out.size); replace HB := Aside0.mk ((HQ.out.alloc _).blk hk (blk_alloc HB.out _) (Nat.le_refl _)); replace HG := Aside0.mk ((HQ.out.alloc _).blk hk (blk_alloc HG.out _) HGB.out); replace HV := Aside0.mk (R_keepG (Kd.R_alloc HV.out _) hgw hk); replace HS := Aside0.mk (S_keepG (Kd.S_alloc HS.out _) hgw hk); replace HQ := Aside0.mk ((HQ.out.alloc _).call hi hb hk); clear hi hb hk; have hc : W4.cell? ⟨W3.heap.size, e, none⟩ = some (.int .i64 u) := (blk_cell HC.out e).trans ((ppInts_at (l := ppA2) HEL.out).trans (by rw [HU.out]))) | (refine wpList_put 3 _ _ rfl rfl tb 4 rfl (.int .i64 u) rfl 26 (tabA (.slice Ac cols.length cc) (.slice (some ⟨X, 0, none⟩) rows.length cr) hd ft gap) (tabA (.slice Ac cols.length cc) (.slice (some ⟨X, 0, none⟩) rows.length cr) hd ft u) HG.out (by kernel_rfl) rfl rfl rfl (fun W5 hp => ?_); replace HB := Aside0.mk (hp.keep HB.out (Nat.ne_of_lt HGN.out)); replace HV := Aside0.mk (R_put HV.out HG.out hp (by decide)); replace HS := Aside0.mk (S_put HS.out HG.out hp (by decide)); replace HQ := Aside0.mk (HQ.out.put hp HGB.out); replace HG := Aside0.mk hp.blk; clear hp hc))
          clear hez hez4 HEL HU
          go_wp2_with (first | (refine wpList_load_row rfl 26 _ rfl tb rfl 26 (tabA (.slice Ac cols.length cc) (.slice (some ⟨X, 0, none⟩) rows.length cr) hd ft u) (0, 0) _ HG.out Tryd.underlying26 rfl (by kernel_rfl) ?_) | (refine wpList_put 26 _ _ rfl rfl w.heap.size 0 rfl (.agg (tabA (.slice Ac cols.length cc) (.slice (some ⟨X, 0, none⟩) rows.length cr) hd ft u)) rfl 26 (tabA nilV nilV 0 0 0) (tabA (.slice Ac cols.length cc) (.slice (some ⟨X, 0, none⟩) rows.length cr) hd ft u) HB.out (by kernel_rfl) rfl rfl rfl (fun W9 hp => ?_); have HF := Aside0.mk (HQ.out.put hp (Nat.le_refl _)); have HFB := Aside0.mk hp.blk; have HFV := Aside0.mk (R_put HV.out HB.out hp (by decide)); have HFS := Aside0.mk (S_put HS.out HB.out hp (by decide)); clear hp))
          exact bodyPost_ret (results_cell_row rfl _ _ w.heap.size 26 (tabA (.slice Ac cols.length cc) (.slice (some ⟨X, 0, none⟩) rows.length cr) hd ft u) (0, 0) _ rfl HFB.out Tryd.underlying26 rfl (by kernel_rfl)) rfl ⟨_, _, rfl, HFV.out, HFS.out, HF.out.st, HF.out.bl, HF.out.kp⟩
        · cases h
      rw [if_neg d2] at h
      have b2 : (sw == 2) = false := by simpa using d2
      by_cases d3 : sw = 3
      · subst d3
        rw [if_pos rfl] at h
        rw [Option.bind_eq_some_iff] at h
        obtain ⟨⟨d, q1⟩, h1, h⟩ := h
        have A6 := Aside0.mk h1
        clear h1
        rw [Option.bind_eq_some_iff] at h
        obtain ⟨⟨e, q⟩, h1, h⟩ := h
        have A7 := Aside0.mk h1
        clear h1
        simp only at h A7
        split at h
        · rename_i he2
          obtain ⟨e, rfl⟩ : ∃ n : Nat, e = n := ⟨e.toNat, by omega⟩
          have he : e < 4 := by omega
          have HCL := Aside0.mk he2.2.2
          rw [Int.toNat_natCast] at h
          obtain ⟨u, hu⟩ : ∃ u, ppA3.getD e 0 = u := ⟨_, rfl⟩
          rw [hu] at h
          clear he2
          simp only [Option.some.injEq, Prod.mk.injEq] at h
          obtain ⟨rfl, rfl⟩ := h
          go_wp2
          have HEL := Aside0.mk (show e < ppA3.length from he)
          have HU := Aside0.mk hu
          have hez : (e : Int) < ((4 : Nat) : Int) := Int.ofNat_lt.2 he
          have hez4 : ¬ (4 : Int) ≤ (e : Int) := by omega
          clear he hu
          have hrb : ∀ k, (Value.slice Ac cols.length cc).ownBlock = some k → w.heap.size ≤ k := Kd.R_base HV.out
          have hrl : ∀ k, (Value.slice Ac cols.length cc).ownBlock = some k → k < W3.heap.size := Kd.R_lt HV.out
          have hnr := own_ne_of HV.out HB.out (by decide)
          have hng := own_ne_of HV.out HG.out (by decide)
          have hst : ∀ j v W W', j ∉ [11] → spec_l20Any.P15 w W3 cols e d u (spec_l20Any.V15 g tb e d u (.slice Ac cols.length cc)) j v W → KeepBut W W' g (Value.slice Ac cols.length cc).ownBlock → spec_l20Any.P15 w W3 cols e d u (spec_l20Any.V15 g tb e d u (.slice Ac cols.length cc)) j v W' := by
            intro j v W W' hj h hk
            have e_ : ∀ W, spec_l20Any.P15 w W3 cols e d u (spec_l20Any.V15 g tb e d u (.slice Ac cols.length cc)) j v W = PhiB (spec_l20Any.F15 e) (spec_l20Any.W15 d u) (spec_l20Any.V15 g tb e d u (.slice Ac cols.length cc)) W3.heap.size j v W := fun W => by
              unfold spec_l20Any.P15
              split
              · exact absurd (by simp) hj
              · rfl
            rw [e_] at h ⊢
            exact PhiB.keepR (Nat.lt_of_lt_of_le hgw HQ.out.size) hrl j v W W' h hk
          refine region_envF (T := spec_l20Any.T15) (B := spec_l20Any.B15) spec_l20Any.O15 spec_l20Any.L15 13 (spec_l20Any.P15 w W3 cols e d u (spec_l20Any.V15 g tb e d u (.slice Ac cols.length cc)))
            (fun b W => Rds w0 w g s0_0 (if b 6 = true then q else if b 3 = true then q1 else p4) W ∧ W.heap[w.heap.size]? = some (.cells (tabA nilV nilV 0 0 0) 26 (0, 0)) ∧ W.heap[tb]? = some (.cells (tabA (.slice Ac cols.length cc) (.slice (some ⟨X, 0, none⟩) rows.length cr) hd ft gap) 26 (0, 0)) ∧ (b 11 = false → Kd.R k57 57 W w.heap.size (fun _ => True) (.slice Ac cols.length cc) cols) ∧ Kd.S k42 42 W w.heap.size (fun _ => True) (.slice (some ⟨X, 0, none⟩) rows.length cr) rows ∧ W3.heap.size ≤ W.heap.size)
            (fun _ W => Rds w0 w g s0_0 q W ∧ W.heap[w.heap.size]? = some (.cells (tabA nilV nilV 0 0 0) 26 (0, 0)) ∧ Kd.S k42 42 W w.heap.size (fun _ => True) (.slice (some ⟨X, 0, none⟩) rows.length cr) rows ∧ ∃ v1, W.heap[tb]? = some (.cells (tabA v1 (.slice (some ⟨X, 0, none⟩) rows.length cr) hd ft gap) 26 (0, 0)) ∧ Kd.R k57 57 W w.heap.size (fun _ => True) v1 (cols ++ [⟨d, u⟩]))
            rfl spec_l20Any.tab15 spec_l20Any.bits15 spec_l20Any.base15 spec_l20Any.lof15 spec_l20Any.ents15 spec_l20Any.last15 ⟨HQ.out.drew, HB.out, HG.out, fun _ => Kd.R_drew HV.out, Kd.S_drew HS.out, Nat.le_refl _⟩ ?_ ?_ ?_
          · skip
            refine alln_cons (EStepF.pure fun b_ E a' W ha hG hP => ?_) ?_
            · have s5 : a'.tmps[5]? = some (.pointer (some ⟨tb, 0, none⟩)) := (slot_off ha rfl).trans rfl
              exact ⟨_, .pointer (some ⟨tb, 0, none⟩), rfl, rfl, by clear ha hG hP; go_simp; try first | rfl | exact i64_w _, rfl, hG⟩
            refine alln_cons (EStepF.pure fun b E a' W ha hG hP => ?_) ?_
            · have s63 : a'.tmps[63]? = some (.pointer (some ⟨tb, 0, none⟩)) := slotv ha (hP 0 rfl).1 rfl (hP 0 rfl).2
              have hc : W.cell? ⟨tb, 0, none⟩ = some (.slice Ac cols.length cc) := (blk_cell hG.2.2.1 0).trans rfl
              exact ⟨_, (.slice Ac cols.length cc), rfl, rfl, by clear ha hG hP; go_simp, rfl, hG⟩
            refine alln_cons (EStepF.pure fun b_ E a' W ha hG hP => ?_) ?_
            · have s0 : a'.tmps[0]? = some (.pointer (some ⟨g, 0, none⟩)) := (slot_off ha rfl).trans rfl
              exact ⟨_, .pointer (some ⟨g, 0, none⟩), rfl, rfl, by clear ha hG hP; go_simp; try first | rfl | exact i64_w _, rfl, hG⟩
            refine alln_cons (EStepF.call [11] hst rfl Tryd.func15 (by kernel_rfl) rfl ⟨_, rfl, rfl, rfl⟩ fun b E a' W ha hG hP hoff hb => ⟨#[.pointer (some ⟨g, 0, none⟩), .int .i64 4], ?_, ?_⟩) ?_
            · have s65 : a'.tmps[65]? = some (.pointer (some ⟨g, 0, none⟩)) := slotv ha (hP 2 rfl).1 rfl (hP 2 rfl).2
              clear ha hG hP hoff hb
              simp [Act.eval, Array.getD_eq_getD_getElem?, s65]
            · obtain ⟨hG1, hG2, hG3, hG4, hG5, hG6⟩ := hG
              rw [if_neg (by rw [hoff 6 rfl]; decide), if_neg (by rw [hb]; decide)] at hG1
              refine (spec_l20Rd_pick.calls k g s0_0 p4 4 d q1 w0 W hG1.st hG1.bl A6.out).mono ?_
              rintro _ W2 ⟨rfl, hi, hb2, hk⟩
              exact ⟨_, rfl, rfl, ⟨hk.1, fun i h1 h2 _ => hk.2 i h1 h2 (by simp)⟩, (by rw [if_neg (by rw [up_ne (by decide), hoff 6 rfl]; decide), if_pos (by rw [up_self])]; exact hG1.call hi hb2 hk), hG1.blk hk hG2 (Nat.le_refl _), hG1.blk hk hG3 HGB.out, fun h5 => R_keepG (hG4 (by rw [up_ne (by decide)] at h5; exact h5)) hgw hk, S_keepG hG5 hgw hk, Nat.le_trans hG6 hk.1⟩
            refine alln_cons (EStepF.step [11] hst rfl fun b E a' W ha hG hP hoff hb => ?_) ?_
            · obtain ⟨hG1, hG2, hG3, hG4, hG5, hG6⟩ := hG
              refine ⟨_, .slice (some ⟨W.heap.size, 0, none⟩) 4 4, W.alloc (.cells (ppA3.map (Value.int .i64)).toArray 3), rfl, rfl, ?_, ⟨_, rfl, hG6, blk_new _ _⟩, KeepBut.of_grown (World.grownBy_alloc W _ _) g, (by rw [up_ne (by decide), up_ne (by decide)]; exact hG1.alloc _), blk_alloc hG2 _, blk_alloc hG3 _, fun h5 => Kd.R_alloc (hG4 (by rw [up_ne (by decide)] at h5; exact h5)) _, Kd.S_alloc hG5 _, by simpa using Nat.le_succ_of_le hG6⟩
              clear ha hP hoff hb
              go_simp
              try rfl
            refine alln_cons (EStepF.pure fun b_ E a' W ha hG hP => ?_) ?_
            · have s0 : a'.tmps[0]? = some (.pointer (some ⟨g, 0, none⟩)) := (slot_off ha rfl).trans rfl
              exact ⟨_, .pointer (some ⟨g, 0, none⟩), rfl, rfl, by clear ha hG hP; go_simp; try first | rfl | exact i64_w _, rfl, hG⟩
            refine alln_cons (EStepF.call [11] hst rfl Tryd.func15 (by kernel_rfl) rfl ⟨_, rfl, rfl, rfl⟩ fun b E a' W ha hG hP hoff hb => ⟨#[.pointer (some ⟨g, 0, none⟩), .int .i64 4], ?_, ?_⟩) ?_
            · have s68 : a'.tmps[68]? = some (.pointer (some ⟨g, 0, none⟩)) := slotv ha (hP 5 rfl).1 rfl (hP 5 rfl).2
              clear ha hG hP hoff hb
              simp [Act.eval, Array.getD_eq_getD_getElem?, s68]
            · obtain ⟨hG1, hG2, hG3, hG4, hG5, hG6⟩ := hG
              rw [if_neg (by rw [hb]; decide), if_pos (hP 3 rfl).1] at hG1
              refine (spec_l20Rd_pick.calls k g s0_0 q1 4 e q w0 W hG1.st hG1.bl A7.out).mono ?_
              rintro _ W2 ⟨rfl, hi, hb2, hk⟩
              exact ⟨_, rfl, rfl, ⟨hk.1, fun i h1 h2 _ => hk.2 i h1 h2 (by simp)⟩, (by rw [if_pos (by rw [up_self])]; exact hG1.call hi hb2 hk), hG1.blk hk hG2 (Nat.le_refl _), hG1.blk hk hG3 HGB.out, fun h5 => R_keepG (hG4 (by rw [up_ne (by decide)] at h5; exact h5)) hgw hk, S_keepG hG5 hgw hk, Nat.le_trans hG6 hk.1⟩
            refine alln_cons (EStepF.pure fun b E a' W ha hG hP => ?_) ?_
            · obtain ⟨C, hC1, hC2, hC3⟩ := (hP 4 rfl).2
              have s67 : a'.tmps[67]? = some (.slice (some ⟨C, 0, none⟩) 4 4) := slotv ha (hP 4 rfl).1 rfl hC1
              have s69 : a'.tmps[69]? = some (.int .i64 e) := slotv ha (hP 6 rfl).1 rfl (hP 6 rfl).2
              exact ⟨_, .pointer (some ⟨C, e, none⟩), rfl, rfl, by clear ha hG hP hC1 hC2 hC3; go_simp, ⟨C, rfl, hC2, hC3⟩, by simpa [up_ne] using hG⟩
            refine alln_cons (EStepF.pure fun b E a' W ha hG hP => ?_) ?_
            · obtain ⟨C, hC1, hC2, hC3⟩ := (hP 7 rfl).2
              have s70 : a'.tmps[70]? = some (.pointer (some ⟨C, e, none⟩)) := slotv ha (hP 7 rfl).1 rfl hC1
              have hc : W.cell? ⟨C, e, none⟩ = some (.int .i64 u) := (blk_cell hC3 e).trans ((ppInts_at (l := ppA3) HEL.out).trans (by rw [HU.out]))
              exact ⟨_, .int .i64 u, rfl, rfl, by clear ha hG hP hC1 hC2 hC3; go_simp, rfl, by simpa [up_ne] using hG⟩
            refine alln_cons (EStepF.pure fun b_ E a' W ha hG hP => ?_) ?_
            · have s66 : a'.tmps[66]? = some (.int .i64 d) := slotv ha (hP 3 rfl).1 rfl (hP 3 rfl).2
              have s71 : a'.tmps[71]? = some (.int .i64 u) := slotv ha (hP 8 rfl).1 rfl (hP 8 rfl).2
              exact ⟨_, .agg #[.int .i64 d, .int .i64 u], rfl, rfl, by clear ha hG hP; go_simp; try first | rfl | exact i64_w _, rfl, hG⟩
            refine alln_cons (EStepF.step [11] hst rfl fun b E a' W ha hG hP hoff hb => ?_) ?_
            · have s72 : a'.tmps[72]? = some (.agg #[.int .i64 d, .int .i64 u]) := slotv ha (hP 9 rfl).1 rfl (hP 9 rfl).2
              obtain ⟨hG1, hG2, hG3, hG4, hG5, hG6⟩ := hG
              refine ⟨_, .slice (some ⟨W.heap.size, 0, none⟩) 1 1, W.alloc (.cells #[.int .i64 d, .int .i64 u] 57), rfl, rfl, ?_, ⟨_, rfl, hG6, blk_new _ _⟩, KeepBut.of_grown (World.grownBy_alloc W _ _) g, (by rw [up_ne (by decide), up_ne (by decide)]; exact hG1.alloc _), blk_alloc hG2 _, blk_alloc hG3 _, fun h5 => Kd.R_alloc (hG4 (by rw [up_ne (by decide)] at h5; exact h5)) _, Kd.S_alloc hG5 _, by simpa using Nat.le_succ_of_le hG6⟩
              clear ha hP hoff hb
              go_simp
              try rfl
            refine alln_cons (EStepF.stepO [11] hst rfl (.call { callee := .builtin .append, args := #[.tmp 64, .tmp 73], argTypes := #[23, 23] }) ⟨_, rfl, rfl, rfl⟩ fun b E a' W oi ho ha hG hP hoff hb => ?_) ?_
            · obtain ⟨C, hC1, hC2, hC3⟩ := (hP 10 rfl).2
              have s64 : a'.tmps[64]? = some (.slice Ac cols.length cc) := slotv ha (hP 1 rfl).1 rfl (hP 1 rfl).2
              have s73 : a'.tmps[73]? = some (.slice (some ⟨C, 0, none⟩) 1 1) := slotv ha (hP 10 rfl).1 rfl hC1
              obtain ⟨hG1, hG2, hG3, hG4, hG5, hG6⟩ := hG
              obtain ⟨v1, w1, hr, hR1, hgr, hat⟩ := exec_append_R (P := Tryd.prog) (oi := oi) (ev := a'.eval) k57 w.heap.size (.tmp 64) (.tmp 73) 23 57 (.agg #[.int .i64 0, .int .i64 0]) 16 ho Tryd.underlying23 (by kernel_rfl) rfl (by decide) (by decide) (.slice Ac cols.length cc) cols ⟨d, u⟩ [.int .i64 d, .int .i64 u] C (fun _ => True) (fun _ => False) (by simp [Act.eval, Array.getD_eq_getD_getElem?, s64]) (by simp [Act.eval, Array.getD_eq_getD_getElem?, s73]) hC3 (k57_mkM _ _ _ ⟨d, u⟩) (fun _ h => h.elim) (fun _ _ => trivial) (hG4 hb) hG1.size (by have := HCL.out; omega)
              exact ⟨v1, w1, hr, hR1, KeepBut.of_grown hgr g, (by rw [up_ne (by decide), up_ne (by decide)]; exact hG1.grown hgr hrb), blk_grown hG2 hgr hnr, blk_grown hG3 hgr hng, fun h8 => (by rw [up_self] at h8; cases h8), Kd.S_mono (Kd.S_over' hG5 (Kd.R_typed (hG4 hb)) (by decide) hgr) (fun _ _ => trivial), Nat.le_trans hG6 hgr.size⟩
            refine alln_cons (EStepF.pure fun b_ E a' W ha hG hP => ?_) alln_last
            · have s5 : a'.tmps[5]? = some (.pointer (some ⟨tb, 0, none⟩)) := (slot_off ha rfl).trans rfl
              exact ⟨_, .pointer (some ⟨tb, 0, none⟩), rfl, rfl, by clear ha hG hP; go_simp; try first | rfl | exact i64_w _, rfl, hG⟩
          · intro b E a' W ha hG hP hb
            have s75 : a'.tmps[75]? = some (.pointer (some ⟨tb, 0, none⟩)) := slotv ha (hP 12 rfl (by decide)).1 rfl (hP 12 rfl (by decide)).2
            obtain ⟨v1, hv1⟩ : ∃ v1, E 11 = v1 := ⟨_, rfl⟩
            have s74 : a'.tmps[74]? = some v1 := slotv ha (hP 11 rfl (by decide)).1 rfl hv1
            have hR1 : Kd.R k57 57 W w.heap.size (fun _ => True) v1 (cols ++ [⟨d, u⟩]) := hv1 ▸ (hP 11 rfl (by decide)).2
            obtain ⟨A1, c1, rfl⟩ := Kd.R_slice hR1
            obtain ⟨hG1, hG2, hG3, hG4, hG5, hG6⟩ := hG
            rw [if_pos (hP 6 rfl (by decide)).1] at hG1
            have hp := Put.setRow (cs := tabA (.slice A1 (cols ++ [(⟨d, u⟩ : S57)]).length c1) (.slice (some ⟨X, 0, none⟩) rows.length cr) hd ft gap) hG3
            exact ⟨_, rfl, fun K hK => skip_ rfl rfl (exec_put 23 _ _ rfl tb 0 (by simp [Act.eval, Array.getD_eq_getD_getElem?, s75]) (.slice A1 (cols ++ [(⟨d, u⟩ : S57)]).length c1) (by simp [Act.eval, Array.getD_eq_getD_getElem?, s74]) 26 _ (tabA (.slice A1 (cols ++ [(⟨d, u⟩ : S57)]).length c1) (.slice (some ⟨X, 0, none⟩) rows.length cr) hd ft gap) hG3 (by kernel_rfl) rfl rfl rfl) (hK.out undef _ ⟨hG1.put hp HGB.out, hp.keep hG2 (Nat.ne_of_lt HGN.out), S_put hG5 hG3 hp (by decide), _, hp.blk, R_put hR1 hG3 hp (by decide)⟩)⟩
          · intro E b W hall hF
            obtain ⟨h1, h2, h5, v1, h3, h4⟩ := hF
            rw [putSel_all (fun x hx => hall x.1 (by revert x; decide))]
            simp only [spec_l20Any.L15, List.foldl, Act.put, List.setIfInBounds_toArray, List.set_cons_zero, List.set_cons_succ]
            obtain ⟨A1, n1, c1, rfl⟩ : ∃ A1 n1 c1, v1 = .slice A1 n1 c1 := (Kd.R_slice h4).imp fun _ h => ⟨_, h⟩
            clear hall HQ HB HG HV HS hst hrb hrl hnr hng HEL HU hez hez4
            have HQ := Aside0.mk h1
            have HB := Aside0.mk h2
            have HG := Aside0.mk h3
            have HV := Aside0.mk h4
            have HS := Aside0.mk h5
            clear h1 h2 h3 h4 h5
            go_wp2_with (first | (refine wpList_load_row rfl 26 _ rfl tb rfl 26 (tabA (.slice A1 n1 c1) (.slice (some ⟨X, 0, none⟩) rows.length cr) hd ft gap) (0, 0) _ HG.out Tryd.underlying26 rfl (by kernel_rfl) ?_) | (refine wpList_put 26 _ _ rfl rfl w.heap.size 0 rfl (.agg (tabA (.slice A1 n1 c1) (.slice (some ⟨X, 0, none⟩) rows.length cr) hd ft gap)) rfl 26 (tabA nilV nilV 0 0 0) (tabA (.slice A1 n1 c1) (.slice (some ⟨X, 0, none⟩) rows.length cr) hd ft gap) HB.out (by kernel_rfl) rfl rfl rfl (fun W9 hp => ?_); have HF := Aside0.mk (HQ.out.put hp (Nat.le_refl _)); have HFB := Aside0.mk hp.blk; have HFV := Aside0.mk (R_put HV.out HB.out hp (by decide)); have HFS := Aside0.mk (S_put HS.out HB.out hp (by decide)); clear hp))
            exact bodyPost_ret (results_cell_row rfl _ _ w.heap.size 26 (tabA (.slice A1 n1 c1) (.slice (some ⟨X, 0, none⟩) rows.length cr) hd ft gap) (0, 0) _ rfl HFB.out Tryd.underlying26 rfl (by kernel_rfl)) rfl ⟨_, _, rfl, HFV.out, HFS.out, HF.out.st, HF.out.bl, HF.out.kp⟩
        · cases h
      rw [if_neg d3] at h
      have b3 : (sw == 3) = false := by simpa using d3
      by_cases d4 : sw = 4
      · subst d4
        rw [if_pos rfl] at h
        rw [Option.bind_eq_some_iff] at h
        obtain ⟨⟨x, q⟩, h1, h⟩ := h
        have A6 := Aside0.mk h1
        clear h1
        simp only at h A6
        split at h
        · rename_i hcl
          have HCL := Aside0.mk hcl
          clear hcl
          simp only [Option.some.injEq, Prod.mk.injEq] at h
          obtain ⟨rfl, rfl⟩ := h
          go_wp2
          obtain ⟨rc, hrc⟩ := Kd.S_typed HS.out X (by simp [Value.ownBlock])
          obtain ⟨oki0, c0, hc0l, hc0M, hc0c, _, hc0k, _⟩ := Kd.S_elem HS.out z42 (a : Int) (by omega) haz
          rw [Int.toNat_natCast] at hc0M hc0c
          obtain ⟨vx, rfl, hRx0⟩ := k42_openM hc0M
          have hrx : rc[a * 2]? = some vx := (blk_cell hrc (a * 2)).symm.trans (hc0c 0 vx rfl)
          have HRX := Aside0.mk hrx
          have HRC := Aside0.mk hrc
          have hxb : ∀ k, vx.ownBlock = some k → w.heap.size ≤ k := Kd.R_base hRx0
          have hxl : ∀ k, vx.ownBlock = some k → k < W3.heap.size := Kd.R_lt hRx0
          have hnr := own_ne_of hRx0 HB.out (by decide)
          have hng := own_ne_of hRx0 HG.out (by decide)
          have hnx := own_ne_of hRx0 hrc (by decide)
          have hwx : w.heap.size ≤ X := Kd.S_base HS.out X (by simp [Value.ownBlock])
          clear hrx hrc hc0l hc0M hc0c hc0k hRx0
          have hst : ∀ j v W W', j ∉ [12] → spec_l20Any.P17 w W3 (.slice (some ⟨X, 0, none⟩) rows.length cr) vx rows a x (spec_l20Any.V17 g tb X a (.slice (some ⟨X, 0, none⟩) rows.length cr) vx x) j v W → KeepBut W W' g vx.ownBlock → spec_l20Any.P17 w W3 (.slice (some ⟨X, 0, none⟩) rows.length cr) vx rows a x (spec_l20Any.V17 g tb X a (.slice (some ⟨X, 0, none⟩) rows.length cr) vx x) j v W' := by
            intro j v W W' hj h hk
            have e_ : ∀ W, spec_l20Any.P17 w W3 (.slice (some ⟨X, 0, none⟩) rows.length cr) vx rows a x (spec_l20Any.V17 g tb X a (.slice (some ⟨X, 0, none⟩) rows.length cr) vx x) j v W = PhiB (fun j => if j = 11 then some (fun C => .slice (some ⟨C, 0, none⟩) 1 1) else none) (fun _ => .cells (cellA x) 30 (0, 0)) (spec_l20Any.V17 g tb X a (.slice (some ⟨X, 0, none⟩) rows.length cr) vx x) W3.heap.size j v W := fun W => by
              unfold spec_l20Any.P17
              split
              · exact absurd (by simp) hj
              · rfl
            rw [e_] at h ⊢
            exact PhiB.keepR (Nat.lt_of_lt_of_le hgw HQ.out.size) hxl j v W W' h hk
          refine region_envF (T := spec_l20Any.T17) (B := spec_l20Any.B17) spec_l20Any.O17 spec_l20Any.L17 15 (spec_l20Any.P17 w W3 (.slice (some ⟨X, 0, none⟩) rows.length cr) vx rows a x (spec_l20Any.V17 g tb X a (.slice (some ⟨X, 0, none⟩) rows.length cr) vx x))
            (fun b W => Rds w0 w g s0_0 (if b 10 = true then q else p4) W ∧ W.heap[w.heap.size]? = some (.cells (tabA nilV nilV 0 0 0) 26 (0, 0)) ∧ W.heap[tb]? = some (.cells (tabA (.slice Ac cols.length cc) (.slice (some ⟨X, 0, none⟩) rows.length cr) hd ft gap) 26 (0, 0)) ∧ Kd.R k57 57 W w.heap.size (fun _ => True) (.slice Ac cols.length cc) cols ∧ (b 12 = false → Kd.S k42 42 W w.heap.size (fun _ => True) (.slice (some ⟨X, 0, none⟩) rows.length cr) rows) ∧ W.heap[X]? = some (.cells rc 42 (0, 0)) ∧ W3.heap.size ≤ W.heap.size)
            (fun _ W => Rds w0 w g s0_0 q W ∧ W.heap[w.heap.size]? = some (.cells (tabA nilV nilV 0 0 0) 26 (0, 0)) ∧ W.heap[tb]? = some (.cells (tabA (.slice Ac cols.length cc) (.slice (some ⟨X, 0, none⟩) rows.length cr) hd ft gap) 26 (0, 0)) ∧ Kd.R k57 57 W w.heap.size (fun _ => True) (.slice Ac cols.length cc) cols ∧ Kd.S k42 42 W w.heap.size (fun _ => True) (.slice (some ⟨X, 0, none⟩) rows.length cr) (paPut rows a x))
            rfl spec_l20Any.tab17 spec_l20Any.bits17 spec_l20Any.base17 spec_l20Any.lof17 spec_l20Any.ents17 spec_l20Any.last17 ⟨HQ.out.drew, HB.out, HG.out, Kd.R_drew HV.out, fun _ => Kd.S_drew HS.out, HRC.out, Nat.le_refl _⟩ ?_ ?_ ?_
          · skip
            refine alln_cons (EStepF.pure fun b_ E a' W ha hG hP => ?_) ?_
            · have s5 : a'.tmps[5]? = some (.pointer (some ⟨tb, 0, none⟩)) := (slot_off ha rfl).trans rfl
              exact ⟨_, .pointer (some ⟨tb, 3, none⟩), rfl, rfl, by clear ha hG hP; go_simp; try first | rfl | exact i64_w _, rfl, hG⟩
            refine alln_cons (EStepF.pure fun b E a' W ha hG hP => ?_) ?_
            · have s78 : a'.tmps[78]? = some (.pointer (some ⟨tb, 3, none⟩)) := slotv ha (hP 0 rfl).1 rfl (hP 0 rfl).2
              have hc : W.cell? ⟨tb, 3, none⟩ = some (.slice (some ⟨X, 0, none⟩) rows.length cr) := (blk_cell hG.2.2.1 3).trans rfl
              exact ⟨_, (.slice (some ⟨X, 0, none⟩) rows.length cr), rfl, rfl, by clear ha hG hP; go_simp, rfl, hG⟩
            refine alln_cons (EStepF.pure fun b_ E a' W ha hG hP => ?_) ?_
            · have s6 : a'.tmps[6]? = some (.int .i64 a) := (slot_off ha rfl).trans rfl
              exact ⟨_, .int .i64 a, rfl, rfl, by clear ha hG hP; go_simp; try first | rfl | exact i64_w _, rfl, hG⟩
            refine alln_cons (EStepF.pure fun b_ E a' W ha hG hP => ?_) ?_
            · have s5 : a'.tmps[5]? = some (.pointer (some ⟨tb, 0, none⟩)) := (slot_off ha rfl).trans rfl
              exact ⟨_, .pointer (some ⟨tb, 3, none⟩), rfl, rfl, by clear ha hG hP; go_simp; try first | rfl | exact i64_w _, rfl, hG⟩
            refine alln_cons (EStepF.pure fun b E a' W ha hG hP => ?_) ?_
            · have s81 : a'.tmps[81]? = some (.pointer (some ⟨tb, 3, none⟩)) := slotv ha (hP 3 rfl).1 rfl (hP 3 rfl).2
              have hc : W.cell? ⟨tb, 3, none⟩ = some (.slice (some ⟨X, 0, none⟩) rows.length cr) := (blk_cell hG.2.2.1 3).trans rfl
              exact ⟨_, (.slice (some ⟨X, 0, none⟩) rows.length cr), rfl, rfl, by clear ha hG hP; go_simp, rfl, hG⟩
            refine alln_cons (EStepF.pure fun b_ E a' W ha hG hP => ?_) ?_
            · have s6 : a'.tmps[6]? = some (.int .i64 a) := (slot_off ha rfl).trans rfl
              exact ⟨_, .int .i64 a, rfl, rfl, by clear ha hG hP; go_simp; try first | rfl | exact i64_w _, rfl, hG⟩
            refine alln_cons (EStepF.pure fun b_ E a' W ha hG hP => ?_) ?_
            · have s82 : a'.tmps[82]? = some ((.slice (some ⟨X, 0, none⟩) rows.length cr)) := slotv ha (hP 4 rfl).1 rfl (hP 4 rfl).2
              have s83 : a'.tmps[83]? = some (.int .i64 a) := slotv ha (hP 5 rfl).1 rfl (hP 5 rfl).2
              exact ⟨_, .pointer (some ⟨X, a * 2, none⟩), rfl, rfl, by clear ha hG hP; go_simp; try first | rfl | exact i64_w _, rfl, hG⟩
            refine alln_cons (EStepF.pure fun b_ E a' W ha hG hP => ?_) ?_
            · have s84 : a'.tmps[84]? = some (.pointer (some ⟨X, a * 2, none⟩)) := slotv ha (hP 6 rfl).1 rfl (hP 6 rfl).2
              exact ⟨_, .pointer (some ⟨X, a * 2, none⟩), rfl, rfl, by clear ha hG hP; go_simp; try first | rfl | exact i64_w _, rfl, hG⟩
            refine alln_cons (EStepF.pure fun b E a' W ha hG hP => ?_) ?_
            · have s85 : a'.tmps[85]? = some (.pointer (some ⟨X, a * 2, none⟩)) := slotv ha (hP 7 rfl).1 rfl (hP 7 rfl).2
              have hc : W.cell? ⟨X, a * 2, none⟩ = some vx := (blk_cell hG.2.2.2.2.2.1 (a * 2)).trans HRX.out
              exact ⟨_, vx, rfl, rfl, by clear ha hG hP; go_simp, rfl, hG⟩
            refine alln_cons (EStepF.pure fun b_ E a' W ha hG hP => ?_) ?_
            · have s0 : a'.tmps[0]? = some (.pointer (some ⟨g, 0, none⟩)) := (slot_off ha rfl).trans rfl
              exact ⟨_, .pointer (some ⟨g, 0, none⟩), rfl, rfl, by clear ha hG hP; go_simp; try first | rfl | exact i64_w _, rfl, hG⟩
            refine alln_cons (EStepF.call [12] hst rfl Tryd.func16 (by kernel_rfl) rfl ⟨_, rfl, rfl, rfl⟩ fun b E a' W ha hG hP hoff hb => ⟨#[.pointer (some ⟨g, 0, none⟩), .int .i64 1], ?_, ?_⟩) ?_
            · have s87 : a'.tmps[87]? = some (.pointer (some ⟨g, 0, none⟩)) := slotv ha (hP 9 rfl).1 rfl (hP 9 rfl).2
              clear ha hG hP hoff hb
              simp [Act.eval, Array.getD_eq_getD_getElem?, s87]
            · obtain ⟨hG1, hG2, hG3, hG4, hG5, hG6, hG7⟩ := hG
              rw [if_neg (by rw [hb]; decide)] at hG1
              refine (spec_l20Cel.calls k g s0_0 p4 1 x q w0 W hG1.st hG1.bl A6.out).mono ?_
              rintro _ W2 ⟨rfl, hi, hb2, hk⟩
              exact ⟨_, rfl, rfl, ⟨hk.1, fun i h1 h2 _ => hk.2 i h1 h2 (by simp)⟩, hG1.call hi hb2 hk, hG1.blk hk hG2 (Nat.le_refl _), hG1.blk hk hG3 HGB.out, R_keepG hG4 hgw hk, fun h5 => S_keepG (hG5 h5) hgw hk, hG1.blk hk hG6 hwx, Nat.le_trans hG7 hk.1⟩
            refine alln_cons (EStepF.step [12] hst rfl fun b E a' W ha hG hP hoff hb => ?_) ?_
            · have s88 : a'.tmps[88]? = some (.agg (cellA x)) := slotv ha (hP 10 rfl).1 rfl (hP 10 rfl).2
              obtain ⟨hG1, hG2, hG3, hG4, hG5, hG6, hG7⟩ := hG
              refine ⟨_, .slice (some ⟨W.heap.size, 0, none⟩) 1 1, W.alloc (.cells (cellA x) 30), rfl, rfl, ?_, ⟨_, rfl, hG7, blk_new _ _⟩, KeepBut.of_grown (World.grownBy_alloc W _ _) g, hG1.alloc _, blk_alloc hG2 _, blk_alloc hG3 _, Kd.R_alloc hG4 _, fun h5 => Kd.S_alloc (hG5 h5) _, blk_alloc hG6 _, by simpa using Nat.le_succ_of_le hG7⟩
              clear ha hP hoff hb
              unfold cellA at s88 ⊢
              go_simp
              try rfl
            refine alln_cons (EStepF.stepO [12] hst rfl (.call { callee := .builtin .append, args := #[.tmp 86, .tmp 89], argTypes := #[40, 40] }) ⟨_, rfl, rfl, rfl⟩ fun b E a' W oi ho ha hG hP hoff hb => ?_) ?_
            · obtain ⟨C, hC1, hC2, hC3⟩ := (hP 11 rfl).2
              have s86 : a'.tmps[86]? = some vx := slotv ha (hP 8 rfl).1 rfl (hP 8 rfl).2
              have s89 : a'.tmps[89]? = some (.slice (some ⟨C, 0, none⟩) 1 1) := slotv ha (hP 11 rfl).1 rfl hC1
              obtain ⟨hG1, hG2, hG3, hG4, hG5, hG6, hG7⟩ := hG
              obtain ⟨oki, ce, hcl, hM, hcc, _, hoki, hH⟩ := Kd.S_elem (hG5 hb) z42 (a : Int) (by omega) haz
              rw [Int.toNat_natCast] at hM hcc
              obtain ⟨vx', rfl, hRx⟩ := k42_openM hM
              have hvx : vx' = vx := Option.some.inj ((hcc 0 vx' rfl).symm.trans ((blk_cell hG6 (a * 2)).trans HRX.out))
              subst hvx
              obtain ⟨v1, w1, hr, hR1, hgr, hat⟩ := exec_append_R (P := Tryd.prog) (oi := oi) (ev := a'.eval) k30 w.heap.size (.tmp 86) (.tmp 89) 40 30 (.agg (cellA z30)) 96 ho Tryd.underlying40 (by kernel_rfl) rfl (by decide) (by decide) vx' (paRow rows a).f0 x (cellA x).toList C (fun k => oki k ∨ True ∧ W.heap.size ≤ k) (fun _ => False) (by simp [Act.eval, Array.getD_eq_getD_getElem?, s86]) (by simp [Act.eval, Array.getD_eq_getD_getElem?, s89]) hC3 (k30_mkM W w.heap.size _ x) (fun _ h => h.elim) (fun _ hk => .inr ⟨trivial, hk⟩) (Kd.R_mono hRx (fun _ hk => .inl hk)) hG1.size (by have := HCL.out; omega)
              exact ⟨v1, w1, hr, ⟨_, Kd.H_grown (Kd.H_widen hH) hgr (fun k e_ => .inl (hRx.1 k e_)), hR1⟩, KeepBut.of_grown hgr g, hG1.grown hgr hxb, blk_grown hG2 hgr hnr, blk_grown hG3 hgr hng, Kd.R_mono (Kd.R_over' hG4 (Kd.R_typed hRx) (by decide) hgr) (fun _ _ => trivial), fun h8 => (by rw [up_self] at h8; cases h8), blk_grown hG6 hgr hnx, Nat.le_trans hG7 hgr.size⟩
            refine alln_cons (EStepF.pure fun b_ E a' W ha hG hP => ?_) ?_
            · have s79 : a'.tmps[79]? = some ((.slice (some ⟨X, 0, none⟩) rows.length cr)) := slotv ha (hP 1 rfl).1 rfl (hP 1 rfl).2
              have s80 : a'.tmps[80]? = some (.int .i64 a) := slotv ha (hP 2 rfl).1 rfl (hP 2 rfl).2
              exact ⟨_, .pointer (some ⟨X, a * 2, none⟩), rfl, rfl, by clear ha hG hP; go_simp; try first | rfl | exact i64_w _, rfl, hG⟩
            refine alln_cons (EStepF.pure fun b_ E a' W ha hG hP => ?_) alln_last
            · have s91 : a'.tmps[91]? = some (.pointer (some ⟨X, a * 2, none⟩)) := slotv ha (hP 13 rfl).1 rfl (hP 13 rfl).2
              exact ⟨_, .pointer (some ⟨X, a * 2, none⟩), rfl, rfl, by clear ha hG hP; go_simp; try first | rfl | exact i64_w _, rfl, hG⟩
          · intro b E a' W ha hG hP hb
            have s92 : a'.tmps[92]? = some (.pointer (some ⟨X, a * 2, none⟩)) := slotv ha (hP 14 rfl (by decide)).1 rfl (hP 14 rfl (by decide)).2
            obtain ⟨v1, hv1⟩ : ∃ v1, E 12 = v1 := ⟨_, rfl⟩
            have s90 : a'.tmps[90]? = some v1 := slotv ha (hP 12 rfl (by decide)).1 rfl hv1
            have hP12 : spec_l20Any.P17 w W3 (.slice (some ⟨X, 0, none⟩) rows.length cr) vx rows a x (spec_l20Any.V17 g tb X a (.slice (some ⟨X, 0, none⟩) rows.length cr) vx x) 12 v1 W := hv1 ▸ (hP 12 rfl (by decide)).2
            obtain ⟨oki, hH, hR1⟩ := hP12
            obtain ⟨hG1, hG2, hG3, hG4, hG5, hG6, hG7⟩ := hG
            rw [if_pos (hP 10 rfl (by decide)).1] at hG1
            have hval := Kd.R_val hR1
            obtain ⟨hS2, hg2⟩ := Kd.S_seg0 hH (by omega) haz (seg := [v1]) (j := 0) (show 1 ≤ 2 from by decide) (x' := ⟨(paRow rows a).f0 ++ [x], (paRow rows a).f1⟩) (k42_mkM _ _ _ ⟨(paRow rows a).f0 ++ [x], (paRow rows a).f1⟩ hR1) (fun _ hk => hk)
            rw [Int.toNat_natCast, show (k42).sz = 2 from rfl, Nat.add_zero] at hS2 hg2
            have hra : a * 2 < rc.size := by
              by_cases h_ : a * 2 < rc.size
              · exact h_
              · have := HRX.out
                rw [Array.getElem?_eq_none (by omega)] at this
                cases this
            have hxt : ∀ k, (Value.slice (some ⟨X, 0, none⟩) rows.length cr).ownBlock = some k → ∃ cells, W.heap[k]? = some (.cells cells 42 (0, 0)) := fun k hk => by
              have : X = k := by simpa [Value.ownBlock] using hk
              subst this
              exact ⟨_, hG6⟩
            have hxb2 : (W.grownBy (W.setCells X (a * 2) [v1]) (Value.slice (some ⟨X, 0, none⟩) rows.length cr).ownBlock) := hg2
            exact ⟨_, rfl, fun K hK => skip_ rfl rfl (run_blk 40 rfl v1 [v1] (by simp [Act.eval, Array.getD_eq_getD_getElem?, s92]) (by simp [Act.eval, Array.getD_eq_getD_getElem?, s90]) hval.1 (by kernel_rfl) (fun q hq => by rw [List.mem_singleton.1 hq]; exact hval.2) hG6 (by simp; omega)) (hK.out undef _ ⟨hG1.grown hg2 (fun k hk => by injection hk with hk; omega), blk_grown hG2 hg2 (fun e_ => by injection e_ with e_; subst e_; rw [hG6] at hG2; injection hG2 with hG2; injection hG2 with _ hG2; exact absurd hG2 (by decide)), blk_grown hG3 hg2 (fun e_ => by injection e_ with e_; subst e_; rw [hG6] at hG3; injection hG3 with hG3; injection hG3 with _ hG3; exact absurd hG3 (by decide)), Kd.R_mono (Kd.R_over' hG4 hxt (by decide) hxb2) (fun _ _ => trivial), hS2⟩)⟩
          · intro E b W hall hF
            obtain ⟨h1, h2, h3, h4, h5⟩ := hF
            rw [putSel_all (fun x hx => hall x.1 (by revert x; decide))]
            simp only [spec_l20Any.L17, List.foldl, Act.put, List.setIfInBounds_toArray, List.set_cons_zero, List.set_cons_succ]
            clear hall HQ HB HG HV HS hst hxb hxl hnr hng hnx HRX HRC
            have HQ := Aside0.mk h1
            have HB := Aside0.mk h2
            have HG := Aside0.mk h3
            have HV := Aside0.mk h4
            have HS := Aside0.mk h5
            clear h1 h2 h3 h4 h5
            go_wp2_with (first | (refine wpList_load_row rfl 26 _ rfl tb rfl 26 (tabA (.slice Ac cols.length cc) (.slice (some ⟨X, 0, none⟩) rows.length cr) hd ft gap) (0, 0) _ HG.out Tryd.underlying26 rfl (by kernel_rfl) ?_) | (refine wpList_put 26 _ _ rfl rfl w.heap.size 0 rfl (.agg (tabA (.slice Ac cols.length cc) (.slice (some ⟨X, 0, none⟩) rows.length cr) hd ft gap)) rfl 26 (tabA nilV nilV 0 0 0) (tabA (.slice Ac cols.length cc) (.slice (some ⟨X, 0, none⟩) rows.length cr) hd ft gap) HB.out (by kernel_rfl) rfl rfl rfl (fun W9 hp => ?_); have HF := Aside0.mk (HQ.out.put hp (Nat.le_refl _)); have HFB := Aside0.mk hp.blk; have HFV := Aside0.mk (R_put HV.out HB.out hp (by decide)); have HFS := Aside0.mk (S_put HS.out HB.out hp (by decide)); clear hp))
            exact bodyPost_ret (results_cell_row rfl _ _ w.heap.size 26 (tabA (.slice Ac cols.length cc) (.slice (some ⟨X, 0, none⟩) rows.length cr) hd ft gap) (0, 0) _ rfl HFB.out Tryd.underlying26 rfl (by kernel_rfl)) rfl ⟨_, _, rfl, HFV.out, HFS.out, HF.out.st, HF.out.bl, HF.out.kp⟩
        · cases h
      rw [if_neg d4] at h
      have b4 : (sw == 4) = false := by simpa using d4
      simp only [Option.some.injEq, Prod.mk.injEq] at h
      obtain ⟨rfl, rfl⟩ := h
      clear haz HA
      go_wp2
      go_loopg [] 10 (fun gg wr => ∃ (m : Nat) (vr : Value), 9 - (rows.length + m) ≤ gg ∧ Aside0 (m = 0 ∨ rows.length + m ≤ 9) ∧ Aside0 (Rds w0 w g s0_0 p4 wr) ∧ Aside0 (wr.heap[w.heap.size]? = some (.cells (tabA nilV nilV 0 0 0) 26 (0, 0))) ∧ Aside0 (wr.heap[tb]? = some (.cells (tabA (.slice Ac cols.length cc) vr hd ft gap) 26 (0, 0))) ∧ Aside0 (Kd.R k57 57 wr w.heap.size (fun _ => True) (.slice Ac cols.length cc) cols) ∧ Aside0 (Kd.S k42 42 wr w.heap.size (fun _ => True) vr (rows ++ List.replicate m ⟨[], false⟩)))
      case atStart => exact ⟨0, (.slice (some ⟨X, 0, none⟩) rows.length cr), by omega, ⟨.inl rfl⟩, HQ, HB, HG, HV, ⟨by simpa using HS.out⟩⟩
      case round =>
        clear HQ HB HG HV HS
        obtain ⟨m, vr, hgg, HM, HQ, HB, HG, HV, HS⟩ := hrel
        obtain ⟨Ar2, cr2, rfl⟩ := Kd.S_slice HS.out
        have hlen : (rows ++ List.replicate m (⟨[], false⟩ : S42)).length = rows.length + m := by simp
        obtain ⟨nn, hnn⟩ : ∃ nn, rows.length + m = nn := ⟨_, rfl⟩
        rw [hlen, hnn] at HG HS
        rw [hnn] at hlen hgg HM
        have HLEN := Aside0.mk hlen
        have HNN := Aside0.mk hnn
        clear hlen hnn
        have hc3 : wr.cell? ⟨tb, 3, none⟩ = some (.slice Ar2 nn cr2) := (blk_cell HG.out 3).trans rfl
        by_cases hlt : nn ≤ 8
        · have hltz : (nn : Int) ≤ 8 := by omega
          have d8 : decide ((nn : Int) ≤ 8) = true := decide_eq_true hltz
          have hXM := k42_mkM (wr.alloc (.cells #[nilV, .bool false] 42)) w.heap.size (fun _ => False) ⟨[], false⟩ (Kd.R_nil _ _ _ _ _)
          have HXM := Aside0.mk hXM
          have hnr := Kd.S_ne HS.out HB.out (by decide)
          have hnt := Kd.S_ne HS.out HG.out (by decide)
          clear hXM
          go_wp2_with (first | (refine wpList_append_S (P := Tryd.prog) k42 w.heap.size _ _ 24 42 (.agg #[nilV, .bool false]) 32 rfl rfl Tryd.underlying24 (by kernel_rfl) rfl (by decide) (by decide) (.slice Ar2 nn cr2) (rows ++ List.replicate m ⟨[], false⟩) ⟨[], false⟩ [nilV, .bool false] wr.heap.size (fun _ => True) (fun _ => False) rfl rfl (blk_new wr _) HXM.out (fun k hk => hk.elim) (fun _ _ => trivial) (Kd.S_mono (Kd.S_alloc HS.out _) (fun k hk => ⟨trivial, fun h_ => h_⟩)) (by have := HQ.out.size; simp; omega) (by rw [HLEN.out]; omega) (fun v1 w1 hS1 hg1 hat1 => ?_); have HQ7 := Aside0.mk ((HQ.out.alloc _).grown hg1 (fun k hk => Kd.S_base HS.out k hk)); have HB7 := Aside0.mk (blk_grown (blk_alloc HB.out _) hg1 hnr); have HG7 := Aside0.mk (blk_grown (blk_alloc HG.out _) hg1 hnt); have HV7 := Aside0.mk (Kd.R_over' (Kd.R_alloc HV.out _) (Kd.S_typed (Kd.S_alloc HS.out _)) (by decide) hg1); obtain ⟨X1, n1, c1, rfl⟩ : ∃ X1 n1 c1, v1 = .slice X1 n1 c1 := (Kd.S_slice hS1).imp fun _ h => ⟨_, h⟩; have HS7 := Aside0.mk hS1; clear hS1 hg1 hat1) | (refine wpList_put 24 _ _ rfl rfl tb 3 rfl (.slice X1 n1 c1) rfl 26 (tabA (.slice Ac cols.length cc) (.slice Ar2 nn cr2) hd ft gap) (tabA (.slice Ac cols.length cc) (.slice X1 n1 c1) hd ft gap) HG7.out (by kernel_rfl) rfl rfl rfl (fun W9 hp => ?_); have HQ9 := Aside0.mk (HQ7.out.put hp HGB.out); have HB9 := Aside0.mk (hp.keep HB7.out (Nat.ne_of_lt HGN.out)); have HG9 := Aside0.mk hp.blk; have HV9 := Aside0.mk (R_put (Kd.R_mono HV7.out (fun _ _ => trivial)) HG7.out hp (by decide)); have HS9 := Aside0.mk (S_put HS7.out HG7.out hp (by decide)); clear hp))
          go_roundg (9 - (nn + 1))
          case measure => omega
          case rel => exact ⟨m + 1, .slice X1 n1 c1, by have := HNN.out; omega, ⟨.inr (by have := HNN.out; omega)⟩, HQ9, HB9, HG9, HV9, ⟨by have h_ := HS9.out; rw [List.append_assoc, ← List.replicate_succ'] at h_; exact h_⟩⟩
        · have d8 : decide ((nn : Int) ≤ 8) = false := decide_eq_false (by omega)
          have hfill : rows ++ List.replicate m (⟨[], false⟩ : S42) = paFill rows := by
            unfold paFill
            rw [show m = 9 - rows.length by have := HM.out; have := HNN.out; omega]
          rw [hfill] at HS
          clear hfill hlt
          go_wp2_with (first | (refine wpList_load_row rfl 26 _ rfl tb rfl 26 (tabA (.slice Ac cols.length cc) (.slice Ar2 nn cr2) hd ft gap) (0, 0) _ HG.out Tryd.underlying26 rfl (by kernel_rfl) ?_) | (refine wpList_put 26 _ _ rfl rfl w.heap.size 0 rfl (.agg (tabA (.slice Ac cols.length cc) (.slice Ar2 nn cr2) hd ft gap)) rfl 26 (tabA nilV nilV 0 0 0) (tabA (.slice Ac cols.length cc) (.slice Ar2 nn cr2) hd ft gap) HB.out (by kernel_rfl) rfl rfl rfl (fun W9 hp => ?_); have HF := Aside0.mk (HQ.out.put hp (Nat.le_refl _)); have HFB := Aside0.mk hp.blk; have HFV := Aside0.mk (R_put HV.out HB.out hp (by decide)); have HFS := Aside0.mk (S_put HS.out HB.out hp (by decide)); clear hp))
          exact bodyPost_ret (results_cell_row rfl _ _ w.heap.size 26 (tabA (.slice Ac cols.length cc) (.slice Ar2 nn cr2) hd ft gap) (0, 0) _ rfl HFB.out Tryd.underlying26 rfl (by kernel_rfl)) rfl ⟨_, _, rfl, HFV.out, HFS.out, HF.out.st, HF.out.bl, HF.out.kp⟩
    · cases h
/-- The table's parts, one by one. -/
def spec_l20AnyTable.f (k : Nat) (s0_0 : List Int) (s0_1 a1 : Int) : Option (List S57 × Int × Int × List S42 × Int × Int) := (spec_l20Any.f k s0_0 s0_1 a1).bind fun t => some (t.1.cols, t.1.head, t.1.foot, t.1.rows, t.1.gap, t.2)
theorem spec_l20AnyTable.mono : ∀ a0 a1 a2 k, LeO (spec_l20AnyTable.f k a0 a1 a2) (spec_l20AnyTable.f (k + 1) a0 a1 a2) := fun _ _ _ k => by
  unfold spec_l20AnyTable.f
  exact LeO.bind (spec_l20Any.mono _ _ _ _) fun _ => LeO.refl _
theorem spec_l20AnyTable.calls (k : Nat) (g : Nat) (s0_0 : List Int) (s0_1 : Int) (a1 : Int) (r1 : List (S57)) (r2 : Int) (r3 : Int) (r4 : List (S42)) (r5 : Int) (r6 : Int) (w0 w : World) (hI : IsS68 w0 w g s0_0 s0_1) (hB : Below w0.heap.size w0 w) (h : spec_l20AnyTable.f k s0_0 s0_1 a1 = some (r1, r2, r3, r4, r5, r6)) :
    Calls Tryd.prog 14 #[.pointer (some ⟨g, 0, none⟩), .int .i64 a1] w fun e w' => ∃ v0_ v3_ : Value, e = .returned (.agg #[v0_, .int .i64 r2, .int .i64 r3, v3_, .int .i64 r5]) ∧ Kd.R k57 57 w' w.heap.size (fun _ => True) v0_ r1 ∧ Kd.S k42 42 w' w.heap.size (fun _ => True) v3_ r4 ∧ IsS68 w0 w' g s0_0 r6 ∧ Below w0.heap.size w0 w' ∧ KeepBut w w' g none := by
  unfold spec_l20AnyTable.f at h
  obtain ⟨⟨t, q⟩, h1, h⟩ := Option.bind_eq_some_iff.1 h
  simp only [Option.some.injEq, Prod.mk.injEq] at h
  obtain ⟨rfl, rfl, rfl, rfl, rfl, rfl⟩ := h
  exact spec_l20Any.calls k g s0_0 s0_1 a1 t q w0 w hI hB h1

def takeRows (rows : List S42) (row pl : Int) : List S42 := rows.set row.toNat ⟨(rd_T42 rows row).f0.eraseIdx pl.toNat, (rd_T42 rows row).f1⟩
def clo_Take.T3 : Bool × List (List Nat × List Nat) := (true, [([], []), ([0], [0]), ([1], [1]), ([2], [2]), ([], []), ([], []), ([5], [5]), ([6], [6]), ([7], [7]), ([], []), ([8, 9], [8, 9]), ([10], [10]), ([11], [11]), ([], []), ([], []), ([14], [14]), ([12, 13, 15], [12, 13, 15]), ([3, 4, 0, 1, 2, 3, 4, 5, 6, 7, 8, 9, 10, 11, 12, 13, 14, 15, 16], [3, 4]), ([17, 0, 1, 2, 3, 4, 5, 6, 7, 8, 9, 10, 11, 12, 13, 14, 15, 16], [17]), ([18, 16, 16, 0, 1, 2, 3, 4, 5, 6, 7, 8, 9, 10, 11, 12, 13, 14, 15, 16], [16, 18])])
def clo_Take.B3 : List Nat := [0, 1, 3, 7, 0, 0, 32, 96, 224, 0, 992, 2016, 4064, 0, 0, 16384, 65504, 131071, 262143, 524287]
def clo_Take.L3 : List (Nat × Tmp) := [(0, 10), (1, 11), (2, 12), (3, 13), (4, 14), (5, 15), (6, 16), (7, 17), (8, 18), (9, 19), (10, 20), (11, 21), (12, 22), (13, 23), (14, 24), (15, 25), (16, 26), (17, 27), (18, 28)]
def clo_Take.O3 : List Nat := [0, 1, 2, 3, 4, 5, 6, 7, 8, 9, 10, 11, 12, 13, 14, 15, 16, 17, 18, 19]
theorem clo_Take.tab3 : rtab .any (opsOf Tryd.f28 3) = clo_Take.T3 := by kernel_rfl
theorem clo_Take.bits3 : waitsOk clo_Take.T3.2 clo_Take.B3 = true := by kernel_rfl
theorem clo_Take.base3 : baseOk clo_Take.T3.2 clo_Take.O3 = true := by kernel_rfl
theorem clo_Take.lof3 : (lof clo_Take.T3.2.length clo_Take.O3 (fun _ => false) == List.replicate clo_Take.T3.2.length false && clo_Take.O3.length == clo_Take.T3.2.length) = true := by kernel_rfl
theorem clo_Take.ents3 : chkL (opsOf Tryd.f28 3) clo_Take.O3 clo_Take.L3 = true := by kernel_rfl
theorem clo_Take.last3 : lastOk clo_Take.B3 clo_Take.O3 19 = true := by kernel_rfl
/-- What is known of the values of the region that takes the cell. -/
def clo_Take.P3 (base gb n c2 : Nat) (l' : List S30) (V : Nat → Value) : Nat → Value → World → Prop
  | 16, v, W => v = .slice (some ⟨gb, 0, none⟩) (n - 1) c2 ∧ Kd.R k30 30 W base (fun _ => True) (.slice (some ⟨gb, 0, none⟩) (n - 1) c2) l'
  | j, v, _ => v = V j
def clo_Take.V3 (b gr gb : Nat) (row : Int) (i m c n c2 : Nat) : Nat → Value
  | 0 | 1 | 5 | 6 => .pointer (some ⟨b, 0, none⟩)
  | 2 | 7 => .pointer (some ⟨b, 3, none⟩)
  | 3 | 8 => .slice (some ⟨gr, 0, none⟩) m c
  | 4 | 9 => .int .i64 row
  | 10 | 11 | 17 | 18 => .pointer (some ⟨gr, row.toNat * 2, none⟩)
  | 12 => .slice (some ⟨gb, 0, none⟩) n c2
  | 13 | 14 => .int .i64 (i : Int)
  | 15 => .int .i64 ((i : Int) + 1)
  | _ => undef
set_option maxHeartbeats 4000000 in
set_option maxRecDepth 100000 in
/-- EdtTake's own closure. -/
theorem clo_Take (row pl : Int) (br ba : Nat) (cols : List S57) (hd ft : Int) (rows : List S42) (gp : Int) (q : Bool) (W0 : World) (h2 : W0.cell? ⟨br, 0, none⟩ = some (.int .i64 row)) (h3 : W0.cell? ⟨ba, 0, none⟩ = some (.int .i64 pl)) (hq : decide (hasP rows row pl) = q) (hbig : rows.length < 1000000 ∧ (rd_T42 rows row).f0.length < 1000000) :
    TabFn 28 #[.pointer (some ⟨br, 0, none⟩), .pointer (some ⟨ba, 0, none⟩)] W0 cols hd ft rows gp cols hd ft (if q = true then takeRows rows row pl else rows) gp q := by
  intro W b vc vr hb hX hWb hrc hsr
  obtain ⟨A, c, rfl⟩ := Kd.R_slice (Kd.S_R hsr)
  have HX := Aside0.mk hX
  have HRC := Aside0.mk hrc
  have HSR := Aside0.mk hsr
  have HB := Aside0.mk hb
  have HKR := Aside0.mk (Kd.R_reads' (Kd.S_R hsr)).2.2
  have hx2 := (hb.cell (World.block_lt_of_cell? W0 _ h2)).trans h2
  have hx3 := (hb.cell (World.block_lt_of_cell? W0 _ h3)).trans h3
  have X2 := Aside0.mk hx2
  have X3 := Aside0.mk hx3
  have X4 := Aside0.mk (show W.cell? ⟨b, 3, none⟩ = some (Value.slice A rows.length c) from (blk_cell hX 3).trans rfl)
  have L2 := Aside0.mk (show br < W0.heap.size from World.block_lt_of_cell? W0 _ h2)
  have L3 := Aside0.mk (show ba < W0.heap.size from World.block_lt_of_cell? W0 _ h3)
  have HQ := Aside0.mk hq
  clear hX hrc hsr hb h2 h3
  have HCON : Aside0 (∀ (W9 : World), Below W.heap.size W W9 → ∃ vc' vr', W9.heap[b]? = some (.cells (l3A vc' vr' hd ft gp) 26 (0, 0)) ∧ Kd.R k57 57 W9 W0.heap.size (fun _ => True) vc' cols ∧ Kd.S k42 42 W9 W0.heap.size (fun _ => True) vr' rows ∧ Below W0.heap.size W0 W9 ∧
      ∀ (j : Nat) (cs : Array Value), ¬ j = b → W.heap[j]? = some (.cells cs 26 (0, 0)) → W9.heap[j]? = some (.cells cs 26 (0, 0))) :=
    ⟨fun W9 hb3 => ⟨_, _, blk_below HX.out hb3, Kd.R_below HRC.out hb3, Kd.S_below HSR.out hb3, below_step HB.out hb3, fun j cs _ hj => blk_below hj hb3⟩⟩
  cases q
  · clear X2 X3 X4 HKR hbig L2 L3
    have hk := Kd.R_reads' (Kd.S_R HSR.out)
    go_enter Tryd.func28, Tryd.ntmps28
    go_wp2_with (go_at_call 29; refine (has_calls b vc hd ft gp A c rows row pl _ HX.out hk.2.2).mono ?_; rintro e_ W2 ⟨he, hb2⟩; rw [HQ.out] at he; subst he)
    go_ret
    exact ⟨rfl, HCON.out _ hb2⟩
  have hy := of_decide_eq_true HQ.out
  unfold hasP at hy
  obtain ⟨hrow, hp0, hp1⟩ := hy
  have hr2 : row < (rows.length : Int) := by omega
  obtain ⟨r, hr⟩ : ∃ r, rd_T42 rows row = r := ⟨_, rfl⟩
  rw [hr] at hp1
  have hbg := hbig.2
  rw [hr] at hbg
  obtain ⟨i, rfl⟩ : ∃ i : Nat, pl = (i : Int) := ⟨pl.toNat, by omega⟩
  have hil : i < r.f0.length := by omega
  have hw1 : wrap64 ((i : Int) + 1) = (i : Int) + 1 := by unfold wrap64; omega
  have hw2 : IntKind.i64.wrap ((i : Int) + 1) = (i : Int) + 1 := by rw [IntKind.wrap_i64]; omega
  obtain ⟨gr, c', he, hgr1, hgr2, cells, hgc⟩ := Kd.S_form HSR.out (by omega)
  obtain ⟨rfl, rfl⟩ : A = some ⟨gr, 0, none⟩ ∧ c = c' := by injection he with h1 _ h2; exact ⟨h1, h2⟩
  clear he
  obtain ⟨oki, cs, hcl, hMM, hcc, hoki, hH⟩ := Kd.S_lend HSR.out z42 row hrow.1 hr2
  obtain ⟨v0, rfl, hri⟩ := k42_openM hMM
  have hri2 : Kd.R k30 30 W W0.heap.size oki v0 (rd_T42 rows row).f0 := hri
  rw [hr] at hri2
  obtain ⟨gb, c2, rfl, hgb1, hgb2, cells2, hgc2⟩ := Kd.R_form hri2 (by omega)
  have p0 : W.cell? ⟨gr, row.toNat * 2, none⟩ = some (.slice (some ⟨gb, 0, none⟩) r.f0.length c2) := by
    have h : W.cell? ⟨gr, row.toNat * 2 + 0, none⟩ = some (.slice (some ⟨gb, 0, none⟩) r.f0.length c2) := hcc 0 _ rfl
    exact h
  have HRI := Aside0.mk hri2
  have HH := Aside0.mk hH
  have HRR := Aside0.mk hr
  have HGC := Aside0.mk hgc
  have P0 := Aside0.mk p0
  have HOK := Aside0.mk hoki
  have HG1 := Aside0.mk hgr1
  have HG2 := Aside0.mk hgr2
  have hrow0 : 0 ≤ row := hrow.1
  have hK := Aside0.mk HKR.out
  clear hcl hMM hcc hri hri2 hH hgc hgc2 hgb1 hgb2 hr p0 hrow hgr1 hgr2 hoki hq hbig
  go_enter Tryd.func28, Tryd.ntmps28
  go_upto_region 3 with (go_at_call 29; refine (has_calls b vc hd ft gp (some ⟨gr, 0, none⟩) c rows row (i : Int) _ HX.out HKR.out).mono ?_; rintro e_ W5 ⟨he, hb5⟩; rw [HQ.out] at he; subst he)
  have hx5 := Kd.R_below HRI.out hb5
  have hS5 := Kd.S_below HSR.out hb5
  have hH5 := Kd.H_widen (Kd.H_below HH.out hb5)
  have hbox := blk_below HX.out hb5
  have hgr := blk_below HGC.out hb5
  have NR := Aside0.mk (show some br ≠ (some gb : Option Nat) from fun e => by have := Kd.R_base hx5 br (by rw [e]; rfl); have := L2.out; omega)
  have NA := Aside0.mk (show some ba ≠ (some gb : Option Nat) from fun e => by have := Kd.R_base hx5 ba (by rw [e]; rfl); have := L3.out; omega)
  have NB := Aside0.mk (show some b ≠ (some gb : Option Nat) from Kd.R_ne hx5 hbox (by decide))
  have NG := Aside0.mk (show some gr ≠ (some gb : Option Nat) from Kd.R_ne hx5 hgr (by decide))
  have HX5 := Aside0.mk (Kd.R_mono hx5 (fun _ _ => trivial))
  have HO5 := Aside0.mk hx5.1
  have HH5 := Aside0.mk hH5
  have HBX := Aside0.mk hbox
  have HGR := Aside0.mk hgr
  have HB5 := Aside0.mk (below_step HB.out hb5)
  have HRC5 := Aside0.mk (Kd.R_below HRC.out hb5)
  have HBZ := Aside0.mk HB5.out.size
  have s0 : W5.cell? ⟨br, 0, none⟩ = some (.int .i64 row) := keepc (W := W) X2.out hb5
  have s1 : W5.cell? ⟨ba, 0, none⟩ = some (.int .i64 (i : Int)) := keepc (W := W) X3.out hb5
  have s2 : W5.cell? ⟨b, 3, none⟩ = some (.slice (some ⟨gr, 0, none⟩) rows.length c) := keepc (W := W) X4.out hb5
  have s3 : W5.cell? ⟨gr, row.toNat * 2, none⟩ = some (.slice (some ⟨gb, 0, none⟩) r.f0.length c2) := keepc (W := W) P0.out hb5
  have hsz := R_size (Kd.S_R hS5) hgr
  have S0 := Aside0.mk s0
  have S1 := Aside0.mk s1
  have S2 := Aside0.mk s2
  have S3 := Aside0.mk s3
  have HSZ := Aside0.mk hsz
  have GNB := Aside0.mk (blk_ne HGR.out HBX.out (by decide))
  clear hx5 hS5 hH5 hbox hgr hsz s0 s1 s2 s3
  refine region_envF (T := clo_Take.T3) (B := clo_Take.B3) clo_Take.O3 clo_Take.L3 19 (clo_Take.P3 W0.heap.size gb r.f0.length c2 (r.f0.eraseIdx i) (clo_Take.V3 b gr gb row i rows.length c r.f0.length c2))
    (fun bb W => W5.grownBy W (some gb) ∧ (bb 16 = false → Below W5.heap.size W5 W))
    (fun _ W => ∃ w1, W = w1.setCells gr (row.toNat * 2) [.slice (some ⟨gb, 0, none⟩) (r.f0.length - 1) c2] ∧ W5.grownBy w1 (some gb) ∧ Kd.R k30 30 w1 W0.heap.size (fun _ => True) (.slice (some ⟨gb, 0, none⟩) (r.f0.length - 1) c2) (r.f0.eraseIdx i))
    rfl clo_Take.tab3 clo_Take.bits3 clo_Take.base3 clo_Take.lof3 clo_Take.ents3 clo_Take.last3 ⟨grown_of_below (below_drew1 (Below.refl _ _)) _, fun _ => below_drew1 (Below.refl _ _)⟩ ?_ ?_ ?_
  · have hst : ∀ j v W W', j ∉ [16] → (clo_Take.P3 W0.heap.size gb r.f0.length c2 (r.f0.eraseIdx i) (clo_Take.V3 b gr gb row i rows.length c r.f0.length c2)) j v W → W.grownBy W' (some gb) → (clo_Take.P3 W0.heap.size gb r.f0.length c2 (r.f0.eraseIdx i) (clo_Take.V3 b gr gb row i rows.length c r.f0.length c2)) j v W' := by
      intro j v W W' hj h hg
      unfold clo_Take.P3 at h ⊢
      split at h
      · exact absurd (by simp) hj
      · exact h
    refine alln_cons (EStepF.pure fun b_ E a' W ha hG hP => ?_) ?_
    · have s0 : a'.tmps[0]? = some (.pointer (some ⟨b, 0, none⟩)) := (slot_off ha rfl).trans rfl
      exact ⟨_, .pointer (some ⟨b, 0, none⟩), rfl, rfl, by clear ha hG hP; go_simp; try first | rfl | exact i64_w _, rfl, hG⟩
    refine alln_cons (EStepF.pure fun b_ E a' W ha hG hP => ?_) ?_
    · have s10 : a'.tmps[10]? = some (.pointer (some ⟨b, 0, none⟩)) := slotv ha (hP 0 rfl).1 rfl (hP 0 rfl).2
      exact ⟨_, .pointer (some ⟨b, 0, none⟩), rfl, rfl, by clear ha hG hP; go_simp; try first | rfl | exact i64_w _, rfl, hG⟩
    refine alln_cons (EStepF.pure fun b_ E a' W ha hG hP => ?_) ?_
    · have s11 : a'.tmps[11]? = some (.pointer (some ⟨b, 0, none⟩)) := slotv ha (hP 1 rfl).1 rfl (hP 1 rfl).2
      exact ⟨_, .pointer (some ⟨b, 3, none⟩), rfl, rfl, by clear ha hG hP; go_simp; try first | rfl | exact i64_w _, rfl, hG⟩
    refine alln_cons (EStepF.pure fun b_ E a' W ha hG hP => ?_) ?_
    · have s12 : a'.tmps[12]? = some (.pointer (some ⟨b, 3, none⟩)) := slotv ha (hP 2 rfl).1 rfl (hP 2 rfl).2
      have hc := cell_grown hG.1 S2.out NB.out
      exact ⟨_, .slice (some ⟨gr, 0, none⟩) rows.length c, rfl, rfl, by clear ha hG hP; go_simp, rfl, hG⟩
    refine alln_cons (EStepF.pure fun b_ E a' W ha hG hP => ?_) ?_
    · have s1' : a'.tmps[1]? = some (.pointer (some ⟨br, 0, none⟩)) := (slot_off ha rfl).trans rfl
      have hc := cell_grown hG.1 S0.out NR.out
      exact ⟨_, .int .i64 row, rfl, rfl, by clear ha hG hP; go_simp, rfl, hG⟩
    refine alln_cons (EStepF.pure fun b_ E a' W ha hG hP => ?_) ?_
    · have s0 : a'.tmps[0]? = some (.pointer (some ⟨b, 0, none⟩)) := (slot_off ha rfl).trans rfl
      exact ⟨_, .pointer (some ⟨b, 0, none⟩), rfl, rfl, by clear ha hG hP; go_simp; try first | rfl | exact i64_w _, rfl, hG⟩
    refine alln_cons (EStepF.pure fun b_ E a' W ha hG hP => ?_) ?_
    · have s15 : a'.tmps[15]? = some (.pointer (some ⟨b, 0, none⟩)) := slotv ha (hP 5 rfl).1 rfl (hP 5 rfl).2
      exact ⟨_, .pointer (some ⟨b, 0, none⟩), rfl, rfl, by clear ha hG hP; go_simp; try first | rfl | exact i64_w _, rfl, hG⟩
    refine alln_cons (EStepF.pure fun b_ E a' W ha hG hP => ?_) ?_
    · have s16 : a'.tmps[16]? = some (.pointer (some ⟨b, 0, none⟩)) := slotv ha (hP 6 rfl).1 rfl (hP 6 rfl).2
      exact ⟨_, .pointer (some ⟨b, 3, none⟩), rfl, rfl, by clear ha hG hP; go_simp; try first | rfl | exact i64_w _, rfl, hG⟩
    refine alln_cons (EStepF.pure fun b_ E a' W ha hG hP => ?_) ?_
    · have s17 : a'.tmps[17]? = some (.pointer (some ⟨b, 3, none⟩)) := slotv ha (hP 7 rfl).1 rfl (hP 7 rfl).2
      have hc := cell_grown hG.1 S2.out NB.out
      exact ⟨_, .slice (some ⟨gr, 0, none⟩) rows.length c, rfl, rfl, by clear ha hG hP; go_simp, rfl, hG⟩
    refine alln_cons (EStepF.pure fun b_ E a' W ha hG hP => ?_) ?_
    · have s1' : a'.tmps[1]? = some (.pointer (some ⟨br, 0, none⟩)) := (slot_off ha rfl).trans rfl
      have hc := cell_grown hG.1 S0.out NR.out
      exact ⟨_, .int .i64 row, rfl, rfl, by clear ha hG hP; go_simp, rfl, hG⟩
    refine alln_cons (EStepF.pure fun b_ E a' W ha hG hP => ?_) ?_
    · have s18 : a'.tmps[18]? = some (.slice (some ⟨gr, 0, none⟩) rows.length c) := slotv ha (hP 8 rfl).1 rfl (hP 8 rfl).2
      have s19 : a'.tmps[19]? = some (.int .i64 row) := slotv ha (hP 9 rfl).1 rfl (hP 9 rfl).2
      exact ⟨_, .pointer (some ⟨gr, row.toNat * 2, none⟩), rfl, rfl, by clear ha hG hP; go_simp; try first | rfl | exact i64_w _, rfl, hG⟩
    refine alln_cons (EStepF.pure fun b_ E a' W ha hG hP => ?_) ?_
    · have s20 : a'.tmps[20]? = some (.pointer (some ⟨gr, row.toNat * 2, none⟩)) := slotv ha (hP 10 rfl).1 rfl (hP 10 rfl).2
      exact ⟨_, .pointer (some ⟨gr, row.toNat * 2, none⟩), rfl, rfl, by clear ha hG hP; go_simp; try first | rfl | exact i64_w _, rfl, hG⟩
    refine alln_cons (EStepF.pure fun b_ E a' W ha hG hP => ?_) ?_
    · have s21 : a'.tmps[21]? = some (.pointer (some ⟨gr, row.toNat * 2, none⟩)) := slotv ha (hP 11 rfl).1 rfl (hP 11 rfl).2
      have hc := cell_grown hG.1 S3.out NG.out
      exact ⟨_, .slice (some ⟨gb, 0, none⟩) r.f0.length c2, rfl, rfl, by clear ha hG hP; go_simp, rfl, hG⟩
    refine alln_cons (EStepF.pure fun b_ E a' W ha hG hP => ?_) ?_
    · have s2' : a'.tmps[2]? = some (.pointer (some ⟨ba, 0, none⟩)) := (slot_off ha rfl).trans rfl
      have hc := cell_grown hG.1 S1.out NA.out
      exact ⟨_, .int .i64 (i : Int), rfl, rfl, by clear ha hG hP; go_simp, rfl, hG⟩
    refine alln_cons (EStepF.pure fun b_ E a' W ha hG hP => ?_) ?_
    · have s2' : a'.tmps[2]? = some (.pointer (some ⟨ba, 0, none⟩)) := (slot_off ha rfl).trans rfl
      have hc := cell_grown hG.1 S1.out NA.out
      exact ⟨_, .int .i64 (i : Int), rfl, rfl, by clear ha hG hP; go_simp, rfl, hG⟩
    refine alln_cons (EStepF.pure fun b_ E a' W ha hG hP => ?_) ?_
    · have s24 : a'.tmps[24]? = some (.int .i64 (i : Int)) := slotv ha (hP 14 rfl).1 rfl (hP 14 rfl).2
      exact ⟨_, .int .i64 ((i : Int) + 1), rfl, rfl, by clear ha hG hP; go_simp; try first | rfl | exact i64_w _, rfl, hG⟩
    refine alln_cons (EStepF.call [16] hst rfl Tryd.func30 (by kernel_rfl) rfl ⟨_, rfl, rfl, rfl⟩ fun b_ E a' W ha hG hP hoff hb => ⟨#[.slice (some ⟨gb, 0, none⟩) r.f0.length c2, .int .i64 (i : Int), .int .i64 ((i : Int) + 1)], ?_, ?_⟩) ?_
    · have s22 : a'.tmps[22]? = some (.slice (some ⟨gb, 0, none⟩) r.f0.length c2) := slotv ha (hP 12 rfl).1 rfl (hP 12 rfl).2
      have s23 : a'.tmps[23]? = some (.int .i64 (i : Int)) := slotv ha (hP 13 rfl).1 rfl (hP 13 rfl).2
      have s25 : a'.tmps[25]? = some (.int .i64 ((i : Int) + 1)) := slotv ha (hP 15 rfl).1 rfl (hP 15 rfl).2
      clear ha hG hP hoff hb
      simp [Act.eval, Array.getD_eq_getD_getElem?, s22, s23, s25]
    · have hbl := hG.2 hb
      refine (del_cellR W W0.heap.size gb c2 r.f0.length r.f0 i (Kd.R_below HX5.out hbl) rfl hil (Nat.le_trans HBZ.out hbl.size) hbg).mono ?_
      rintro e_ W6 ⟨rfl, hr6, hg6⟩
      exact ⟨_, rfl, ⟨rfl, hr6⟩, hg6, grown_step hbl hg6, fun h => (by rw [up_self] at h; cases h)⟩
    refine alln_cons (EStepF.pure fun b_ E a' W ha hG hP => ?_) ?_
    · have s13 : a'.tmps[13]? = some (.slice (some ⟨gr, 0, none⟩) rows.length c) := slotv ha (hP 3 rfl).1 rfl (hP 3 rfl).2
      have s14 : a'.tmps[14]? = some (.int .i64 row) := slotv ha (hP 4 rfl).1 rfl (hP 4 rfl).2
      exact ⟨_, .pointer (some ⟨gr, row.toNat * 2, none⟩), rfl, rfl, by clear ha hG hP; go_simp; try first | rfl | exact i64_w _, rfl, hG⟩
    refine alln_cons (EStepF.pure fun b_ E a' W ha hG hP => ?_) alln_last
    · have s27 : a'.tmps[27]? = some (.pointer (some ⟨gr, row.toNat * 2, none⟩)) := slotv ha (hP 17 rfl).1 rfl (hP 17 rfl).2
      exact ⟨_, .pointer (some ⟨gr, row.toNat * 2, none⟩), rfl, rfl, by clear ha hG hP; go_simp; try first | rfl | exact i64_w _, rfl, hG⟩
  · intro b_ E a' W ha hG hP hb
    have s28 : a'.tmps[28]? = some (.pointer (some ⟨gr, row.toNat * 2, none⟩)) := slotv ha (hP 18 rfl (by decide)).1 rfl (hP 18 rfl (by decide)).2
    obtain ⟨h16, hR16⟩ := (hP 16 rfl (by decide)).2
    have s26 : a'.tmps[26]? = some (.slice (some ⟨gb, 0, none⟩) (r.f0.length - 1) c2) := slotv ha (hP 16 rfl (by decide)).1 rfl h16
    have hn : row.toNat * 2 + 1 ≤ cells.size := by
      rw [HSZ.out.1]
      have := HSZ.out.2
      have := Nat.mul_le_mul_right 2 (show row.toNat + 1 ≤ c by omega)
      show row.toNat * 2 + 1 ≤ c * 2
      omega
    exact ⟨_, rfl, fun K hK => skip_ rfl rfl (run_blk 40 rfl (.slice (some ⟨gb, 0, none⟩) (r.f0.length - 1) c2) [.slice (some ⟨gb, 0, none⟩) (r.f0.length - 1) c2] (by simp [Act.eval, Array.getD_eq_getD_getElem?, s28]) (by simp [Act.eval, Array.getD_eq_getD_getElem?, s26]) rfl (by kernel_rfl) (by intro q hq; rw [List.mem_singleton] at hq; subst hq; rfl) (blk_grown HGR.out hG.1 NG.out) hn) (hK.out undef _ ⟨W, rfl, hG.1, hR16⟩)⟩
  · intro E b_ W9 hall hF
    obtain ⟨W6, rfl, hgW, hr6⟩ := hF
    rw [putSel_all (fun x hx => hall x.1 (by revert x; decide))]
    simp only [clo_Take.L3, List.foldl, Act.put, List.setIfInBounds_toArray, List.set_cons_zero, List.set_cons_succ]
    clear hall
    go_wp2
    go_ret
    have hWg : W5.heap.size ≤ W6.heap.size := hgW.size
    have hH6 := Kd.H_grown HH5.out hgW (fun k hk => .inl (HO5.out k (by rw [← hk]; rfl)))
    have hgr6 := blk_grown HGR.out hgW NG.out
    have hgn : row < (rows.length : Int) := hr2
    obtain ⟨hHf, hgf⟩ := Kd.H_seg hH6 hrow0 hgn (seg := [.slice (some ⟨gb, 0, none⟩) (r.f0.length - 1) c2]) (j := 0) (show 0 + 1 ≤ 2 by decide) (by intro q hq; rw [List.mem_singleton] at hq; subst hq; rfl)
    have hrf := Kd.R_set (Kd.R_tight rfl hr6) hgr6 (by decide) (row.toNat * 2) (.slice (some ⟨gb, 0, none⟩) (r.f0.length - 1) c2)
    have hS := Kd.H_back hHf (x' := (⟨r.f0.eraseIdx i, r.f1⟩ : S42)) (okp := fun k => some k = (Value.slice (some ⟨gb, 0, none⟩) (r.f0.length - 1) c2).ownBlock) (show k42.M _ _ _ _ _ from by rw [show (List.getD rows row.toNat z42).f1 = r.f1 from congrArg (·.f1) HRR.out]; exact k42_mkM _ _ _ (⟨r.f0.eraseIdx i, r.f1⟩ : S42) hrf) (fun k hk => .inl (HO5.out k (by rw [hk]; rfl)))
    have hput : takeRows rows row (i : Int) = rows.set row.toNat ⟨r.f0.eraseIdx i, r.f1⟩ := by
      unfold takeRows
      rw [HRR.out, Int.toNat_natCast]
    rw [hput]
    have hbW := pw_below_grown HB5.out _ HBZ.out hgW (fun k hk => Kd.R_base HX5.out k (by rw [← hk]; rfl))
    have hgf2 := blk_grown HBX.out hgW NB.out
    exact ⟨rfl, _, _, blk_far hgf2 (show b ≠ gr from fun e => GNB.out e.symm) _, Kd.R_set (Kd.R_over HRC5.out HX5.out (by decide) hgW) hgr6 (by decide) _ _, hS, pw_below_grown hbW _ (Nat.le_trans HBZ.out hWg) hgf (fun k hk => by injection hk with hk; have := HG1.out; omega), fun j cs hj hT => by
      have h1 := blk_below hT hb5
      have h2 := blk_grown h1 hgW (Kd.R_ne HX5.out h1 (by decide))
      exact blk_far h2 (show j ≠ gr from blk_ne h2 hgr6 (by decide)) _⟩

/-- What a cell holds. -/
def curCell (w : World) (a : Addr) : Value := (w.cell? a).getD undef
theorem curCell_of {w : World} {a : Addr} {v : Value} (h : w.cell? a = some v) : w.cell? a = some (curCell w a) := by
  unfold curCell
  rw [h]
  rfl
theorem curCell_eq {w : World} {a : Addr} {v : Value} (h : w.cell? a = some v) : curCell w a = v := by
  unfold curCell
  rw [h]
  rfl

/-- A step of the walk by a step's rule. -/
theorem wpList_step {P : Program} {ops : Array Oper} {Q : Exit → Act → World → Prop} {a : Act} {w : World} {rest : List Oper} {o : Oper} (h : if Region.wanted o (yielded ops a.tmps) = true then Oper.wp P o a w (wpList P ops Q rest) Q else wpList P ops Q rest (a.put o.dst undef) w) : wpList P ops Q (o :: rest) a w := by
  show (if Region.wanted o (yielded ops a.tmps) = true then (Oper.wp P o a w (wpList P ops Q rest) Q ∨ _) else _)
  split at h
  · rename_i e
    rw [if_pos e]
    exact .inl h
  · rename_i e
    rw [if_neg e]
    exact h
theorem nil_eq {P : Program} {t e : TypeId} (hu : P.underlying t = some (.slice e)) (n c : Nat) (w : World) : (binOp .eql t (.slice none n c) (.slice none 0 0)).run P w = .ok (.bool true) w := by
  have h : ∀ d : Nat, (Op.equalIn (d + 1) t (.slice none n c) (.slice none 0 0)).run P w = .ok true w := fun d => by simp [Op.equalIn, run_underlying hu]
  have h2 : (Op.equal t (.slice none n c) (.slice none 0 0)).run P w = .ok true w := h 9999
  show (do pure (Value.bool (← Op.equal t (.slice none n c) (.slice none 0 0))) : Sem Value).run P w = _
  simp [h2]
theorem nil_ne {P : Program} {t e : TypeId} (hu : P.underlying t = some (.slice e)) (ad : Addr) (n c : Nat) (w : World) : (binOp .eql t (.slice (some ad) n c) (.slice none 0 0)).run P w = .ok (.bool false) w := by
  have h : ∀ d : Nat, (Op.equalIn (d + 1) t (.slice (some ad) n c) (.slice none 0 0)).run P w = .ok false w := fun d => by simp [Op.equalIn, run_underlying hu]
  have h2 : (Op.equal t (.slice (some ad) n c) (.slice none 0 0)).run P w = .ok false w := h 9999
  show (do pure (Value.bool (← Op.equal t (.slice (some ad) n c) (.slice none 0 0))) : Sem Value).run P w = _
  simp [h2]


end Go.Proofs.YtaihfkjfbjcmhabDoor.Q
