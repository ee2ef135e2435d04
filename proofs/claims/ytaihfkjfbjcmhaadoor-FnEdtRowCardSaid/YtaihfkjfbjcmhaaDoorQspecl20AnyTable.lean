-- Told by a program of this session (uprint.py, ulay.py).
import Derived.Test.YtaihfkjfbjcmhaaDoorQ0
import Derived.Test.YtaihfkjfbjcmhaaDoorReg
import Derived.Test.YtaihfkjfbjcmhaaDoorQimplTblTablecopied
import Derived.Test.YtaihfkjfbjcmhaaDoorQspecTblOk
import Derived.Test.YtaihfkjfbjcmhaaDoorQspecl20Cell
import Derived.Test.YtaihfkjfbjcmhaaDoorQspecl20Table
namespace Go.Proofs.YtaihfkjfbjcmhaaDoor.Q
open Go.RowKit Go.Proofs.YtaihfkjfbjcmhaaDoorW.PrintWords Go.Proofs.YtaihfkjfbjcmhaaDoorW.PrintLast Go.Proofs.YtaihfkjfbjcmhaaDoorW.PrintMore Go.Proofs.YtaihfkjfbjcmhaaDoor.Reg Go.Proofs.YtaihfkjfbjcmhaaDoor.Box
attribute [local go_sem] max2_int min2_int max_two min_two max_three min_three max_four min_four
set_option linter.unusedVariables false
set_option linter.unusedSimpArgs false

/-! ### spec_l20AnyTable: function 15 (by hand) -/
abbrev ppA0 (n : Nat) : List Int := [-1, 9, (n : Int)]
abbrev ppA2 : List Int := [-1, 4]
abbrev ppA3 : List Int := [-1, 0, 61, 101]
def paRow (rows : List S37) (a : Nat) : S37 := rows.getD a z37
/-- One cell more, at the end of row a. -/
def paPut (rows : List S37) (a : Nat) (c : S58) : List S37 := rows.set a ⟨(paRow rows a).f0 ++ [c], (paRow rows a).f1⟩
/-- Empty rows till there are nine. -/
def paFill (rows : List S37) : List S37 := rows ++ List.replicate (9 - rows.length) ⟨[], false⟩
/-- What is turned of a drawn table. -/
def spec_l20Any.turn (k : Nat) (s : List Int) (cols : List S52) (hd ft : Int) (rows : List S37) (gap : Int) (a : Nat) (p c : Int) : Option (PTab × Int) :=
  if c = 0 then (spec_l20Rd_pick.f k s p 3).bind fun e => if 0 ≤ e.1 ∧ e.1 < 3 then some (⟨cols, (ppA0 rows.length).getD e.1.toNat 0, ft, rows, gap⟩, e.2) else none
  else if c = 1 then (spec_l20Rd_pick.f k s p 3).bind fun e => if 0 ≤ e.1 ∧ e.1 < 3 then some (⟨cols, hd, (ppA0 rows.length).getD e.1.toNat 0, rows, gap⟩, e.2) else none
  else if c = 2 then (spec_l20Rd_pick.f k s p 2).bind fun e => if 0 ≤ e.1 ∧ e.1 < 2 then some (⟨cols, hd, ft, rows, ppA2.getD e.1.toNat 0⟩, e.2) else none
  else if c = 3 then (spec_l20Rd_pick.f k s p 4).bind fun d => (spec_l20Rd_pick.f k s d.2 4).bind fun e => if 0 ≤ e.1 ∧ e.1 < 4 ∧ cols.length < 1000000 then some (⟨cols ++ [⟨d.1, ppA3.getD e.1.toNat 0⟩], hd, ft, rows, gap⟩, e.2) else none
  else if c = 4 then (spec_l20Cel.f k s p 1).bind fun x => if (paRow rows a).f0.length < 1000000 then some (⟨cols, hd, ft, paPut rows a x.1, gap⟩, x.2) else none
  else some (⟨cols, hd, ft, paFill rows, gap⟩, p)
def spec_l20Any.f (k : Nat) (s : List Int) (p n : Int) : Option (PTab × Int) := (spec_l20Tab.f k s p).bind fun t => (spec_l20Rd_pick.f k s t.2 n).bind fun c => if c.1 > 0 then some (t.1, c.2) else (spec_l20Rd_pick.f k s c.2 t.1.rows.length).bind fun a =>
  if 0 ≤ a.1 ∧ a.1 < t.1.rows.length then (spec_l20Rd_pick.f k s a.2 6).bind fun sw => spec_l20Any.turn k s t.1.cols t.1.head t.1.foot t.1.rows t.1.gap a.1.toNat sw.2 sw.1 else none
theorem spec_l20Any.mono_t (k : Nat) (s : List Int) (cols : List S52) (hd ft : Int) (rows : List S37) (gap : Int) (a : Nat) (p c : Int) : LeO (spec_l20Any.turn k s cols hd ft rows gap a p c) (spec_l20Any.turn (k + 1) s cols hd ft rows gap a p c) := by
  unfold spec_l20Any.turn
  repeat' first
  | exact LeO.refl _
  | exact LeO.none _
  | exact spec_l20Rd_pick.mono _ _ _ _
  | exact spec_l20Cel.mono _ _ _ _
  | refine LeO.ite ?_ ?_
  | refine LeO.bind ?_ (fun _ => ?_)
theorem spec_l20Any.mono : ∀ a0 a1 a2 k, LeO (spec_l20Any.f k a0 a1 a2) (spec_l20Any.f (k + 1) a0 a1 a2) := fun _ _ _ k => by
  unfold spec_l20Any.f
  exact LeO.bind (spec_l20Tab.mono _ _ _) fun _ => LeO.bind (spec_l20Rd_pick.mono _ _ _ _) fun _ => LeO.ite (LeO.refl _) (LeO.bind (spec_l20Rd_pick.mono _ _ _ _) fun _ => LeO.ite (LeO.bind (spec_l20Rd_pick.mono _ _ _ _) fun _ => spec_l20Any.mono_t _ _ _ _ _ _ _ _ _ _) (LeO.none _))
/-- A store into a block that is known whole. -/
theorem run_blk {P : Program} {oi : Oper} {ev : Operand → Value} {W : World} {x y : Operand} (t : TypeId) (ho : oi.op = .store t x y) {g o' e : Nat} {cur : Array Value} (u : Value) (seg : List Value) (hx : ev x = .pointer (some ⟨g, o', none⟩)) (hy : ev y = u) (hu : u.cells.toList = seg) (ht : (P.info? t).map (·.size) = some seg.length) (h1 : ∀ q ∈ seg, q.oneCell' = true)
    (hh : W.heap[g]? = some (.cells cur e (0, 0))) (hn : o' + seg.length ≤ cur.size) : (execOp ev oi).run P W = .ok .skip (W.setCells g o' seg) := by
  have hrun : (Instr.storeAt t (.pointer (some ⟨g, o', none⟩)) u).run P W = .ok () (W.setCells g o' seg) := run_store_run t u seg hh hu ht hn h1
  unfold execOp
  simp only [ho, hx, hy, Sem.run_bind, Sem.run_pure, Result.andThen_ok, hrun]
def spec_l20Any.T9 : Bool × List (List Nat × List Nat) := (true, [([], []), ([0], [0]), ([1], [1]), ([2], [2]), ([], []), ([4], [4]), ([3, 5], [3, 5]), ([6], [6]), ([0, 1, 2, 3, 4, 5, 6, 7], []), ([8, 7, 5, 0, 1, 2, 3, 4, 5, 6, 7], [7, 8])])
def spec_l20Any.B9 : List Nat := [0, 1, 3, 7, 0, 16, 63, 127, 255, 511]
def spec_l20Any.L9 : List (Nat × Tmp) := [(0, 33), (1, 34), (2, 35), (3, 36), (4, 37), (5, 38), (6, 39), (7, 40), (8, 41)]
def spec_l20Any.O9 : List Nat := [0, 1, 2, 3, 4, 5, 6, 7, 8, 9]
theorem spec_l20Any.tab9 : rtab .any (opsOf Tryd.f15 9) = spec_l20Any.T9 := by kernel_rfl
theorem spec_l20Any.bits9 : waitsOk spec_l20Any.T9.2 spec_l20Any.B9 = true := by kernel_rfl
theorem spec_l20Any.base9 : baseOk spec_l20Any.T9.2 spec_l20Any.O9 = true := by kernel_rfl
theorem spec_l20Any.lof9 : (lof spec_l20Any.T9.2.length spec_l20Any.O9 (fun _ => false) == List.replicate spec_l20Any.T9.2.length false && spec_l20Any.O9.length == spec_l20Any.T9.2.length) = true := by kernel_rfl
theorem spec_l20Any.ents9 : chkL (opsOf Tryd.f15 9) spec_l20Any.O9 spec_l20Any.L9 = true := by kernel_rfl
theorem spec_l20Any.last9 : lastOk spec_l20Any.B9 spec_l20Any.O9 9 = true := by kernel_rfl
def spec_l20Any.F9 (e : Nat) : Nat → Option (Nat → Value)
  | 3 => some (fun C => .slice (some ⟨C, 0, none⟩) 3 3)
  | 6 => some (fun C => .pointer (some ⟨C, e, none⟩))
  | _ => none
def spec_l20Any.V9 (g tb e : Nat) (u : Int) (vr : Value) (n : Nat) : Nat → Value
  | 0 => .pointer (some ⟨tb, 3, none⟩)
  | 1 => vr
  | 2 => .int .i64 n
  | 4 => .pointer (some ⟨g, 0, none⟩)
  | 5 => .int .i64 e
  | 7 => .int .i64 u
  | 8 => .pointer (some ⟨tb, 1, none⟩)
  | _ => undef
def spec_l20Any.T11 : Bool × List (List Nat × List Nat) := (true, [([], []), ([0], [0]), ([1], [1]), ([2], [2]), ([], []), ([4], [4]), ([3, 5], [3, 5]), ([6], [6]), ([0, 1, 2, 3, 4, 5, 6, 7], []), ([8, 7, 5, 0, 1, 2, 3, 4, 5, 6, 7], [7, 8])])
def spec_l20Any.B11 : List Nat := [0, 1, 3, 7, 0, 16, 63, 127, 255, 511]
def spec_l20Any.L11 : List (Nat × Tmp) := [(0, 44), (1, 45), (2, 46), (3, 47), (4, 48), (5, 49), (6, 50), (7, 51), (8, 52)]
def spec_l20Any.O11 : List Nat := [0, 1, 2, 3, 4, 5, 6, 7, 8, 9]
theorem spec_l20Any.tab11 : rtab .any (opsOf Tryd.f15 11) = spec_l20Any.T11 := by kernel_rfl
theorem spec_l20Any.bits11 : waitsOk spec_l20Any.T11.2 spec_l20Any.B11 = true := by kernel_rfl
theorem spec_l20Any.base11 : baseOk spec_l20Any.T11.2 spec_l20Any.O11 = true := by kernel_rfl
theorem spec_l20Any.lof11 : (lof spec_l20Any.T11.2.length spec_l20Any.O11 (fun _ => false) == List.replicate spec_l20Any.T11.2.length false && spec_l20Any.O11.length == spec_l20Any.T11.2.length) = true := by kernel_rfl
theorem spec_l20Any.ents11 : chkL (opsOf Tryd.f15 11) spec_l20Any.O11 spec_l20Any.L11 = true := by kernel_rfl
theorem spec_l20Any.last11 : lastOk spec_l20Any.B11 spec_l20Any.O11 9 = true := by kernel_rfl
def spec_l20Any.F11 (e : Nat) : Nat → Option (Nat → Value)
  | 3 => some (fun C => .slice (some ⟨C, 0, none⟩) 3 3)
  | 6 => some (fun C => .pointer (some ⟨C, e, none⟩))
  | _ => none
def spec_l20Any.V11 (g tb e : Nat) (u : Int) (vr : Value) (n : Nat) : Nat → Value
  | 0 => .pointer (some ⟨tb, 3, none⟩)
  | 1 => vr
  | 2 => .int .i64 n
  | 4 => .pointer (some ⟨g, 0, none⟩)
  | 5 => .int .i64 e
  | 7 => .int .i64 u
  | 8 => .pointer (some ⟨tb, 2, none⟩)
  | _ => undef
def spec_l20Any.T15 : Bool × List (List Nat × List Nat) := (true, [([], []), ([0], [0]), ([], []), ([2], [2]), ([], []), ([], []), ([5, 3], [5]), ([4, 6], [4, 6]), ([7], [7]), ([3, 8], [3, 8]), ([9], [9]), ([1, 10, 6], [1, 10]), ([0, 1, 2, 3, 4, 5, 6, 7, 8, 9, 10, 11], []), ([12, 11, 11, 0, 1, 2, 3, 4, 5, 6, 7, 8, 9, 10, 11], [11, 12])])
def spec_l20Any.B15 : List Nat := [0, 1, 0, 4, 0, 0, 44, 124, 252, 508, 1020, 2047, 4095, 8191]
def spec_l20Any.L15 : List (Nat × Tmp) := [(0, 63), (1, 64), (2, 65), (3, 66), (4, 67), (5, 68), (6, 69), (7, 70), (8, 71), (9, 72), (10, 73), (11, 74), (12, 75)]
def spec_l20Any.O15 : List Nat := [0, 1, 2, 3, 4, 5, 6, 7, 8, 9, 10, 11, 12, 13]
theorem spec_l20Any.tab15 : rtab .any (opsOf Tryd.f15 15) = spec_l20Any.T15 := by kernel_rfl
theorem spec_l20Any.bits15 : waitsOk spec_l20Any.T15.2 spec_l20Any.B15 = true := by kernel_rfl
theorem spec_l20Any.base15 : baseOk spec_l20Any.T15.2 spec_l20Any.O15 = true := by kernel_rfl
theorem spec_l20Any.lof15 : (lof spec_l20Any.T15.2.length spec_l20Any.O15 (fun _ => false) == List.replicate spec_l20Any.T15.2.length false && spec_l20Any.O15.length == spec_l20Any.T15.2.length) = true := by kernel_rfl
theorem spec_l20Any.ents15 : chkL (opsOf Tryd.f15 15) spec_l20Any.O15 spec_l20Any.L15 = true := by kernel_rfl
theorem spec_l20Any.last15 : lastOk spec_l20Any.B15 spec_l20Any.O15 13 = true := by kernel_rfl
def spec_l20Any.F15 (e : Nat) : Nat → Option (Nat → Value)
  | 4 => some (fun C => .slice (some ⟨C, 0, none⟩) 4 4)
  | 7 => some (fun C => .pointer (some ⟨C, e, none⟩))
  | 10 => some (fun C => .slice (some ⟨C, 0, none⟩) 1 1)
  | _ => none
def spec_l20Any.W15 (d u : Int) : Nat → Obj
  | 4 | 7 => .cells (ppA3.map (Value.int .i64)).toArray 3 (0, 0)
  | _ => .cells #[.int .i64 d, .int .i64 u] 52 (0, 0)
def spec_l20Any.V15 (g tb e : Nat) (d u : Int) (vc : Value) : Nat → Value
  | 0 | 12 => .pointer (some ⟨tb, 0, none⟩)
  | 1 => vc
  | 2 | 5 => .pointer (some ⟨g, 0, none⟩)
  | 3 => .int .i64 d
  | 6 => .int .i64 e
  | 8 => .int .i64 u
  | 9 => .agg #[.int .i64 d, .int .i64 u]
  | _ => undef
def spec_l20Any.P15 (w wr : World) (cols : List S52) (e : Nat) (d u : Int) (V : Nat → Value) : Nat → Value → World → Prop
  | 11, v, W => Kd.R k52 52 W w.heap.size (fun _ => True) v (cols ++ [⟨d, u⟩])
  | j, v, W => PhiB (spec_l20Any.F15 e) (spec_l20Any.W15 d u) V wr.heap.size j v W
def spec_l20Any.T17 : Bool × List (List Nat × List Nat) := (true, [([], []), ([0], [0]), ([], []), ([], []), ([3], [3]), ([], []), ([4, 5], [4, 5]), ([6], [6]), ([7], [7]), ([], []), ([9], [9]), ([10], [10]), ([8, 11, 10], [8, 11]), ([1, 2, 0, 1, 2, 3, 4, 5, 6, 7, 8, 9, 10, 11, 12], [1, 2]), ([13, 0, 1, 2, 3, 4, 5, 6, 7, 8, 9, 10, 11, 12], [13]), ([14, 12, 12, 0, 1, 2, 3, 4, 5, 6, 7, 8, 9, 10, 11, 12], [12, 14])])
def spec_l20Any.B17 : List Nat := [0, 1, 0, 0, 8, 0, 56, 120, 248, 0, 512, 1536, 4088, 8191, 16383, 32767]
def spec_l20Any.L17 : List (Nat × Tmp) := [(0, 78), (1, 79), (2, 80), (3, 81), (4, 82), (5, 83), (6, 84), (7, 85), (8, 86), (9, 87), (10, 88), (11, 89), (12, 90), (13, 91), (14, 92)]
def spec_l20Any.O17 : List Nat := [0, 1, 2, 3, 4, 5, 6, 7, 8, 9, 10, 11, 12, 13, 14, 15]
theorem spec_l20Any.tab17 : rtab .any (opsOf Tryd.f15 17) = spec_l20Any.T17 := by kernel_rfl
theorem spec_l20Any.bits17 : waitsOk spec_l20Any.T17.2 spec_l20Any.B17 = true := by kernel_rfl
theorem spec_l20Any.base17 : baseOk spec_l20Any.T17.2 spec_l20Any.O17 = true := by kernel_rfl
theorem spec_l20Any.lof17 : (lof spec_l20Any.T17.2.length spec_l20Any.O17 (fun _ => false) == List.replicate spec_l20Any.T17.2.length false && spec_l20Any.O17.length == spec_l20Any.T17.2.length) = true := by kernel_rfl
theorem spec_l20Any.ents17 : chkL (opsOf Tryd.f15 17) spec_l20Any.O17 spec_l20Any.L17 = true := by kernel_rfl
theorem spec_l20Any.last17 : lastOk spec_l20Any.B17 spec_l20Any.O17 15 = true := by kernel_rfl
def spec_l20Any.V17 (g tb X a : Nat) (vr vx : Value) (x : S58) : Nat → Value
  | 0 | 3 => .pointer (some ⟨tb, 3, none⟩)
  | 1 | 4 => vr
  | 2 | 5 => .int .i64 a
  | 6 | 7 | 13 | 14 => .pointer (some ⟨X, a * 2, none⟩)
  | 8 => vx
  | 9 => .pointer (some ⟨g, 0, none⟩)
  | 10 => .agg (cellA x)
  | _ => undef
def spec_l20Any.P17 (w wr : World) (vr vx : Value) (rows : List S37) (a : Nat) (x : S58) (V : Nat → Value) : Nat → Value → World → Prop
  | 12, v, W => ∃ oki, Kd.H k37 37 W w.heap.size (fun _ => True) vr rows (a : Int) oki [vx, .bool (paRow rows a).f1] ∧ Kd.R k58 58 W w.heap.size oki v ((paRow rows a).f0 ++ [x])
  | j, v, W => PhiB (fun j => if j = 11 then some (fun C => .slice (some ⟨C, 0, none⟩) 1 1) else none) (fun _ => .cells (cellA x) 58 (0, 0)) V wr.heap.size j v W
set_option maxHeartbeats 4000000 in
set_option maxRecDepth 100000 in
theorem spec_l20Any.calls (k : Nat) (g : Nat) (s0_0 : List Int) (s0_1 : Int) (a1 : Int) (t : PTab) (r2 : Int) (w0 w : World) (hI : IsS65 w0 w g s0_0 s0_1) (hB : Below w0.heap.size w0 w) (h : spec_l20Any.f k s0_0 s0_1 a1 = some (t, r2)) :
    Calls Tryd.prog 15 #[.pointer (some ⟨g, 0, none⟩), .int .i64 a1] w fun e w' => ∃ vc vr : Value, e = .returned (.agg #[vc, .int .i64 t.head, .int .i64 t.foot, vr, .int .i64 t.gap]) ∧ Kd.R k52 52 w' w.heap.size (fun _ => True) vc t.cols ∧ Kd.S k37 37 w' w.heap.size (fun _ => True) vr t.rows ∧ IsS65 w0 w' g s0_0 r2 ∧ Below w0.heap.size w0 w' ∧ KeepBut w w' g none := by
  have HR := Aside0.mk (Rds.new hI hB)
  have hgw : g < w.heap.size := HR.out.lt
  clear hI hB
  unfold spec_l20Any.f at h
  rw [Option.bind_eq_some_iff] at h
  obtain ⟨⟨⟨cols, hd, ft, rows, gap⟩, p1⟩, h1, h⟩ := h
  have A1 := Aside0.mk h1
  clear h1
  rw [Option.bind_eq_some_iff] at h
  obtain ⟨⟨c, p2⟩, h1, h⟩ := h
  have A3 := Aside0.mk h1
  clear h1
  simp only at h A3
  have HH := Aside0.mk h
  clear h
  go_enter Tryd.func15, Tryd.ntmps15
  go_upto_region 2 with (go_at_call 35; (with_reducible refine (spec_l20Tab.calls k g s0_0 s0_1 _ p1 w0 _ (IsS65.alloc HR.out.st _) (below_alloc HR.out.bl _) A1.out).mono ?_); rintro e_ W1 ⟨vc, vr, rfl, hR, hS, hi, hb, hk⟩; have HQ := Aside0.mk ((HR.out.alloc _).call hi hb hk); have HB := Aside0.mk ((HR.out.alloc _).blk hk (blk_new w _) (Nat.le_refl _)); obtain ⟨Ac, cc, rfl⟩ := Kd.R_slice hR; obtain ⟨Ar, cr, rfl⟩ := Kd.S_slice hS; have HV := Aside0.mk (Kd.R_lower (base' := w.heap.size) hR (by simp)); have HS := Aside0.mk (Kd.S_lower (base' := w.heap.size) hS (by simp)); clear hR hS hi hb hk)
  have HQ1 := HQ.out.alloc (.cells (tabA (.slice Ac cols.length cc) (.slice Ar rows.length cr) hd ft gap) 26)
  have HB1 := blk_alloc HB.out (.cells (tabA (.slice Ac cols.length cc) (.slice Ar rows.length cr) hd ft gap) 26)
  have HG1 := blk_new W1 (.cells (tabA (.slice Ac cols.length cc) (.slice Ar rows.length cr) hd ft gap) 26)
  have HV1 := Kd.R_alloc HV.out (.cells (tabA (.slice Ac cols.length cc) (.slice Ar rows.length cr) hd ft gap) 26)
  have HS1 := Kd.S_alloc HS.out (.cells (tabA (.slice Ac cols.length cc) (.slice Ar rows.length cr) hd ft gap) 26)
  have HGN1 : w.heap.size < W1.heap.size := blk_lt HB.out
  obtain ⟨WA, hWA⟩ : ∃ WA, W1.alloc (.cells (tabA (.slice Ac cols.length cc) (.slice Ar rows.length cr) hd ft gap) 26) = WA := ⟨_, rfl⟩
  obtain ⟨tb, htb⟩ : ∃ tb, W1.heap.size = tb := ⟨_, rfl⟩
  show Code.wp Tryd.prog _ _ _ (W1.alloc (.cells (tabA (.slice Ac cols.length cc) (.slice Ar rows.length cr) hd ft gap) 26))
  rw [hWA] at HQ1 HB1 HG1 HV1 HS1 ⊢
  rw [htb] at HG1 HGN1 ⊢
  clear hWA htb HQ HB HV HS
  have HQ := Aside0.mk HQ1
  have HB : Aside0 (WA.heap[w.heap.size]? = some (.cells (tabA nilV nilV 0 0 0) 26 (0, 0))) := ⟨HB1⟩
  have HG := Aside0.mk HG1
  have HV := Aside0.mk HV1
  have HS := Aside0.mk HS1
  have HGN := Aside0.mk HGN1
  have HGB := Aside0.mk (Nat.le_of_lt HGN1)
  clear HQ1 HB1 HG1 HV1 HS1 HGN1 A1 HR
  have h := HH.out
  clear HH
  by_cases hc : c > 0
  · rw [if_pos hc] at h
    simp only [Option.some.injEq, Prod.mk.injEq] at h
    obtain ⟨rfl, rfl⟩ := h
    go_upto_region 3 with (go_at_call 16; (with_reducible refine (spec_l20Rd_pick.calls k g s0_0 p1 a1 c p2 w0 _ HQ.out.st HQ.out.bl A3.out).mono ?_); rintro e_ W2_ ⟨rfl, hi, hb, hk⟩; replace HB := Aside0.mk (HQ.out.blk hk HB.out (Nat.le_refl _)); replace HG := Aside0.mk (HQ.out.blk hk HG.out HGB.out); replace HV := Aside0.mk (R_keepG HV.out hgw hk); replace HS := Aside0.mk (S_keepG HS.out hgw hk); replace HQ := Aside0.mk (HQ.out.call hi hb hk); clear hi hb hk; (try clear q3); have q3 : W2_.cell? ⟨tb, 3, none⟩ = some (.slice Ar rows.length cr) := (blk_cell HG.out 3).trans rfl)
    go_wp2_with (first | (refine wpList_load_row rfl 26 _ rfl tb rfl 26 (tabA (.slice Ac cols.length cc) (.slice Ar rows.length cr) hd ft gap) (0, 0) _ HG.out Tryd.underlying26 rfl (by kernel_rfl) ?_) | (refine wpList_put 26 _ _ rfl rfl w.heap.size 0 rfl (.agg (tabA (.slice Ac cols.length cc) (.slice Ar rows.length cr) hd ft gap)) rfl 26 (tabA nilV nilV 0 0 0) (tabA (.slice Ac cols.length cc) (.slice Ar rows.length cr) hd ft gap) HB.out (by kernel_rfl) rfl rfl rfl (fun W9 hp => ?_); have HF := Aside0.mk (HQ.out.put hp (Nat.le_refl _)); have HFB := Aside0.mk hp.blk; have HFV := Aside0.mk (R_put HV.out HB.out hp (by decide)); have HFS := Aside0.mk (S_put HS.out HB.out hp (by decide)); clear hp))
    exact bodyPost_ret (results_cell_row rfl _ _ w.heap.size 26 (tabA (.slice Ac cols.length cc) (.slice Ar rows.length cr) hd ft gap) (0, 0) _ rfl HFB.out Tryd.underlying26 rfl (by kernel_rfl)) rfl ⟨_, _, rfl, HFV.out, HFS.out, HF.out.st, HF.out.bl, HF.out.kp⟩
  · rw [if_neg hc] at h
    have hcb : decide (c > 0) = false := decide_eq_false hc
    clear hc
    rw [Option.bind_eq_some_iff] at h
    obtain ⟨⟨a, p3⟩, h1, h⟩ := h
    have A4 := Aside0.mk h1
    clear h1
    simp only at h A4
    split at h
    · rename_i hab
      obtain ⟨a, rfl⟩ : ∃ n : Nat, a = n := ⟨a.toNat, by omega⟩
      rw [Int.toNat_natCast] at h
      have haz : (a : Int) < (rows.length : Int) := hab.2
      have HA := Aside0.mk (show a < rows.length by omega)
      clear hab
      rw [Option.bind_eq_some_iff] at h
      obtain ⟨⟨sw, p4⟩, h1, h⟩ := h
      have A5 := Aside0.mk h1
      clear h1
      simp only at h A5
      obtain ⟨X, cap2, hv, hX1, hX2, _⟩ := Kd.S_form HS.out (by have := HA.out; omega)
      injection hv with e1 e2 e3
      subst e1 e3
      clear hX1 hX2 e2
      have HH := Aside0.mk h
      clear h
      have q3 : WA.cell? ⟨tb, 3, none⟩ = some (.slice (some ⟨X, 0, none⟩) rows.length cr) := (blk_cell HG.out 3).trans rfl
      go_upto_region 8 with (first | (go_at_call 16; (with_reducible refine (spec_l20Rd_pick.calls k g s0_0 p1 a1 c p2 w0 _ HQ.out.st HQ.out.bl A3.out).mono ?_); rintro e_ W2_ ⟨rfl, hi, hb, hk⟩; replace HB := Aside0.mk (HQ.out.blk hk HB.out (Nat.le_refl _)); replace HG := Aside0.mk (HQ.out.blk hk HG.out HGB.out); replace HV := Aside0.mk (R_keepG HV.out hgw hk); replace HS := Aside0.mk (S_keepG HS.out hgw hk); replace HQ := Aside0.mk (HQ.out.call hi hb hk); clear hi hb hk; (try clear q3); have q3 : W2_.cell? ⟨tb, 3, none⟩ = some (.slice (some ⟨X, 0, none⟩) rows.length cr) := (blk_cell HG.out 3).trans rfl) | (go_at_call 16; (with_reducible refine (spec_l20Rd_pick.calls k g s0_0 p2 (rows.length : Int) a p3 w0 _ HQ.out.st HQ.out.bl A4.out).mono ?_); rintro e_ W2_ ⟨rfl, hi, hb, hk⟩; replace HB := Aside0.mk (HQ.out.blk hk HB.out (Nat.le_refl _)); replace HG := Aside0.mk (HQ.out.blk hk HG.out HGB.out); replace HV := Aside0.mk (R_keepG HV.out hgw hk); replace HS := Aside0.mk (S_keepG HS.out hgw hk); replace HQ := Aside0.mk (HQ.out.call hi hb hk); clear hi hb hk; (try clear q3); have q3 : W2_.cell? ⟨tb, 3, none⟩ = some (.slice (some ⟨X, 0, none⟩) rows.length cr) := (blk_cell HG.out 3).trans rfl) | (go_at_call 16; (with_reducible refine (spec_l20Rd_pick.calls k g s0_0 p3 6 sw p4 w0 _ HQ.out.st HQ.out.bl A5.out).mono ?_); rintro e_ W3 ⟨rfl, hi, hb, hk⟩; replace HB := Aside0.mk (HQ.out.blk hk HB.out (Nat.le_refl _)); replace HG := Aside0.mk (HQ.out.blk hk HG.out HGB.out); replace HV := Aside0.mk (R_keepG HV.out hgw hk); replace HS := Aside0.mk (S_keepG HS.out hgw hk); replace HQ := Aside0.mk (HQ.out.call hi hb hk); clear hi hb hk; (try clear q3); have q3 : W3.cell? ⟨tb, 3, none⟩ = some (.slice (some ⟨X, 0, none⟩) rows.length cr) := (blk_cell HG.out 3).trans rfl))
      have hk0 := fun W => KeepBut.refl W g none
      have h := HH.out
      clear HH hcb q3 A3 A4 A5
      unfold spec_l20Any.turn at h
      by_cases d0 : sw = 0
      · subst d0
        rw [if_pos rfl] at h
        rw [Option.bind_eq_some_iff] at h
        obtain ⟨⟨e, q⟩, h1, h⟩ := h
        have A6 := Aside0.mk h1
        clear h1
        simp only at h A6
        split at h
        · rename_i he2
          obtain ⟨e, rfl⟩ : ∃ n : Nat, e = n := ⟨e.toNat, by omega⟩
          have he : e < 3 := by omega
          rw [Int.toNat_natCast] at h
          obtain ⟨u, hu⟩ : ∃ u, (ppA0 rows.length).getD e 0 = u := ⟨_, rfl⟩
          rw [hu] at h
          clear he2
          simp only [Option.some.injEq, Prod.mk.injEq] at h
          obtain ⟨rfl, rfl⟩ := h
          go_wp2
          have HEL := Aside0.mk (show e < (ppA0 rows.length).length from he)
          have HU := Aside0.mk hu
          have hez : (e : Int) < ((3 : Nat) : Int) := Int.ofNat_lt.2 he
          have hez4 : ¬ (3 : Int) ≤ (e : Int) := by omega
          clear he hu
          refine region_envL (T := spec_l20Any.T9) (B := spec_l20Any.B9) spec_l20Any.O9 spec_l20Any.L9 9 (PhiB (spec_l20Any.F9 e) (fun _ => .cells ((ppA0 rows.length).map (Value.int .i64)).toArray 3 (0, 0)) (spec_l20Any.V9 g tb e u (.slice (some ⟨X, 0, none⟩) rows.length cr) rows.length) w.heap.size)
            (fun b W => Rds w0 w g s0_0 (if b 5 = true then q else p4) W ∧ W.heap[w.heap.size]? = some (.cells (tabA nilV nilV 0 0 0) 26 (0, 0)) ∧ W.heap[tb]? = some (.cells (tabA (.slice Ac cols.length cc) (.slice (some ⟨X, 0, none⟩) rows.length cr) hd ft gap) 26 (0, 0)) ∧ Kd.R k52 52 W w.heap.size (fun _ => True) (.slice Ac cols.length cc) cols ∧ Kd.S k37 37 W w.heap.size (fun _ => True) (.slice (some ⟨X, 0, none⟩) rows.length cr) rows) (fun W W' => KeepBut W W' g none)
            (fun _ W => Rds w0 w g s0_0 q W ∧ W.heap[w.heap.size]? = some (.cells (tabA nilV nilV 0 0 0) 26 (0, 0)) ∧ W.heap[tb]? = some (.cells (tabA (.slice Ac cols.length cc) (.slice (some ⟨X, 0, none⟩) rows.length cr) u ft gap) 26 (0, 0)) ∧ Kd.R k52 52 W w.heap.size (fun _ => True) (.slice Ac cols.length cc) cols ∧ Kd.S k37 37 W w.heap.size (fun _ => True) (.slice (some ⟨X, 0, none⟩) rows.length cr) rows)
            rfl spec_l20Any.tab9 spec_l20Any.bits9 spec_l20Any.base9 spec_l20Any.lof9 spec_l20Any.ents9 spec_l20Any.last9 (PhiB.keep hgw) ⟨HQ.out.drew, HB.out, HG.out, Kd.R_drew HV.out, Kd.S_drew HS.out⟩ ?_ ?_ ?_
          · skip
            refine alln_cons (EStep.pure hk0 fun b E a' W ha hG hP => ?_) ?_
            · have s5 : a'.tmps[5]? = some (.pointer (some ⟨tb, 0, none⟩)) := (slot_off ha rfl).trans rfl
              exact ⟨_, .pointer (some ⟨tb, 3, none⟩), rfl, rfl, by clear ha hG hP; go_simp; try first | rfl | exact i64_w _, rfl, hG⟩
            refine alln_cons (EStep.pure hk0 fun b E a' W ha hG hP => ?_) ?_
            · have s33 : a'.tmps[33]? = some (.pointer (some ⟨tb, 3, none⟩)) := slotv ha (hP 0 rfl).1 rfl (hP 0 rfl).2
              have hc : W.cell? ⟨tb, 3, none⟩ = some (.slice (some ⟨X, 0, none⟩) rows.length cr) := (blk_cell hG.2.2.1 3).trans rfl
              exact ⟨_, (.slice (some ⟨X, 0, none⟩) rows.length cr), rfl, rfl, by clear ha hG hP; go_simp, rfl, hG⟩
            refine alln_cons (EStep.pure hk0 fun b E a' W ha hG hP => ?_) ?_
            · have s34 : a'.tmps[34]? = some ((.slice (some ⟨X, 0, none⟩) rows.length cr)) := slotv ha (hP 1 rfl).1 rfl (hP 1 rfl).2
              exact ⟨_, .int .i64 rows.length, rfl, rfl, by clear ha hG hP; go_simp; try first | rfl | exact i64_w _, rfl, hG⟩
            refine alln_cons (EStep.step fun b E a' W ha hG hP hoff hb => ?_) ?_
            · have s35 : a'.tmps[35]? = some (.int .i64 rows.length) := slotv ha (hP 2 rfl).1 rfl (hP 2 rfl).2
              exact ⟨_, .slice (some ⟨W.heap.size, 0, none⟩) 3 3, W.alloc (.cells ((ppA0 rows.length).map (Value.int .i64)).toArray 3), rfl, rfl, by clear ha hP hoff hb hG; go_simp; try rfl, ⟨_, rfl, hG.1.size, blk_new _ _⟩, keep_alloc (hk0 W) _, hG.1.alloc _, blk_alloc hG.2.1 _, blk_alloc hG.2.2.1 _, Kd.R_alloc hG.2.2.2.1 _, Kd.S_alloc hG.2.2.2.2 _⟩
            refine alln_cons (EStep.pure hk0 fun b E a' W ha hG hP => ?_) ?_
            · have s0 : a'.tmps[0]? = some (.pointer (some ⟨g, 0, none⟩)) := (slot_off ha rfl).trans rfl
              exact ⟨_, .pointer (some ⟨g, 0, none⟩), rfl, rfl, by clear ha hG hP; go_simp; try first | rfl | exact i64_w _, rfl, hG⟩
            refine alln_cons (EStep.call Tryd.func16 (by kernel_rfl) rfl ⟨_, rfl, rfl, rfl⟩ fun b E a' W ha hG hP hoff hb => ⟨#[.pointer (some ⟨g, 0, none⟩), .int .i64 3], ?_, ?_⟩) ?_
            · have s37 : a'.tmps[37]? = some (.pointer (some ⟨g, 0, none⟩)) := slotv ha (hP 4 rfl).1 rfl (hP 4 rfl).2
              clear ha hG hP hoff hb
              simp [Act.eval, Array.getD_eq_getD_getElem?, s37]
            · obtain ⟨hG1, hG2, hG3, hG4, hG5⟩ := hG
              rw [if_neg (by rw [hb]; decide)] at hG1
              refine (spec_l20Rd_pick.calls k g s0_0 p4 3 e q w0 W hG1.st hG1.bl A6.out).mono ?_
              rintro _ W2 ⟨rfl, hi, hb2, hk⟩
              exact ⟨_, rfl, rfl, hk, hG1.call hi hb2 hk, hG1.blk hk hG2 (Nat.le_refl _), hG1.blk hk hG3 HGB.out, R_keepG hG4 hgw hk, S_keepG hG5 hgw hk⟩
            refine alln_cons (EStep.pure hk0 fun b E a' W ha hG hP => ?_) ?_
            · obtain ⟨C, hC1, hC2, hC3⟩ := (hP 3 rfl).2
              have s36 : a'.tmps[36]? = some (.slice (some ⟨C, 0, none⟩) 3 3) := slotv ha (hP 3 rfl).1 rfl hC1
              have s38 : a'.tmps[38]? = some (.int .i64 e) := slotv ha (hP 5 rfl).1 rfl (hP 5 rfl).2
              exact ⟨_, .pointer (some ⟨C, e, none⟩), rfl, rfl, by clear ha hG hP hC1 hC2 hC3; go_simp, ⟨C, rfl, hC2, hC3⟩, hG⟩
            refine alln_cons (EStep.pure hk0 fun b E a' W ha hG hP => ?_) ?_
            · obtain ⟨C, hC1, hC2, hC3⟩ := (hP 6 rfl).2
              have s39 : a'.tmps[39]? = some (.pointer (some ⟨C, e, none⟩)) := slotv ha (hP 6 rfl).1 rfl hC1
              have hc : W.cell? ⟨C, e, none⟩ = some (.int .i64 u) := (blk_cell hC3 e).trans ((ppInts_at (l := ppA0 rows.length) HEL.out).trans (by rw [HU.out]))
              exact ⟨_, .int .i64 u, rfl, rfl, by clear ha hG hP hC1 hC2 hC3; go_simp, rfl, hG⟩
            refine alln_cons (EStep.pure hk0 fun b E a' W ha hG hP => ?_) alln_last
            · have s5 : a'.tmps[5]? = some (.pointer (some ⟨tb, 0, none⟩)) := (slot_off ha rfl).trans rfl
              exact ⟨_, .pointer (some ⟨tb, 1, none⟩), rfl, rfl, by clear ha hG hP; go_simp; try first | rfl | exact i64_w _, rfl, hG⟩
          · intro b E a' W ha hG hP hb
            have s41 : a'.tmps[41]? = some (.pointer (some ⟨tb, 1, none⟩)) := slotv ha (hP 8 rfl (by decide)).1 rfl (hP 8 rfl (by decide)).2
            have s40 : a'.tmps[40]? = some (.int .i64 u) := slotv ha (hP 7 rfl (by decide)).1 rfl (hP 7 rfl (by decide)).2
            obtain ⟨hG1, hG2, hG3, hG4, hG5⟩ := hG
            rw [if_pos (hP 5 rfl (by decide)).1] at hG1
            have hp := Put.setRow (cs := tabA (.slice Ac cols.length cc) (.slice (some ⟨X, 0, none⟩) rows.length cr) u ft gap) hG3
            exact ⟨_, rfl, fun K hK => skip_ rfl rfl (exec_put 3 _ _ rfl tb 1 (by simp [Act.eval, Array.getD_eq_getD_getElem?, s41]) (.int .i64 u) (by simp [Act.eval, Array.getD_eq_getD_getElem?, s40]) 26 _ (tabA (.slice Ac cols.length cc) (.slice (some ⟨X, 0, none⟩) rows.length cr) u ft gap) hG3 (by kernel_rfl) rfl rfl rfl) (hK.out undef _ ⟨hG1.put hp HGB.out, hp.keep hG2 (Nat.ne_of_lt HGN.out), hp.blk, R_put hG4 hG3 hp (by decide), S_put hG5 hG3 hp (by decide)⟩)⟩
          · intro E b W hall hF
            obtain ⟨h1, h2, h3, h4, h5⟩ := hF
            rw [putSel_all (fun x hx => hall x.1 (by revert x; decide))]
            simp only [spec_l20Any.L9, List.foldl, Act.put, List.setIfInBounds_toArray, List.set_cons_zero, List.set_cons_succ]
            clear hall HQ HB HG HV HS HU HEL hez hez4
            have HQ := Aside0.mk h1
            have HB := Aside0.mk h2
            have HG := Aside0.mk h3
            have HV := Aside0.mk h4
            have HS := Aside0.mk h5
            clear h1 h2 h3 h4 h5
            go_wp2_with (first | (refine wpList_load_row rfl 26 _ rfl tb rfl 26 (tabA (.slice Ac cols.length cc) (.slice (some ⟨X, 0, none⟩) rows.length cr) u ft gap) (0, 0) _ HG.out Tryd.underlying26 rfl (by kernel_rfl) ?_) | (refine wpList_put 26 _ _ rfl rfl w.heap.size 0 rfl (.agg (tabA (.slice Ac cols.length cc) (.slice (some ⟨X, 0, none⟩) rows.length cr) u ft gap)) rfl 26 (tabA nilV nilV 0 0 0) (tabA (.slice Ac cols.length cc) (.slice (some ⟨X, 0, none⟩) rows.length cr) u ft gap) HB.out (by kernel_rfl) rfl rfl rfl (fun W9 hp => ?_); have HF := Aside0.mk (HQ.out.put hp (Nat.le_refl _)); have HFB := Aside0.mk hp.blk; have HFV := Aside0.mk (R_put HV.out HB.out hp (by decide)); have HFS := Aside0.mk (S_put HS.out HB.out hp (by decide)); clear hp))
            exact bodyPost_ret (results_cell_row rfl _ _ w.heap.size 26 (tabA (.slice Ac cols.length cc) (.slice (some ⟨X, 0, none⟩) rows.length cr) u ft gap) (0, 0) _ rfl HFB.out Tryd.underlying26 rfl (by kernel_rfl)) rfl ⟨_, _, rfl, HFV.out, HFS.out, HF.out.st, HF.out.bl, HF.out.kp⟩
        · cases h
      rw [if_neg d0] at h
      have b0 : (sw == 0) = false := by simpa using d0
      by_cases d1 : sw = 1
      · subst d1
        rw [if_pos rfl] at h
        rw [Option.bind_eq_some_iff] at h
        obtain ⟨⟨e, q⟩, h1, h⟩ := h
        have A6 := Aside0.mk h1
        clear h1
        simp only at h A6
        split at h
        · rename_i he2
          obtain ⟨e, rfl⟩ : ∃ n : Nat, e = n := ⟨e.toNat, by omega⟩
          have he : e < 3 := by omega
          rw [Int.toNat_natCast] at h
          obtain ⟨u, hu⟩ : ∃ u, (ppA0 rows.length).getD e 0 = u := ⟨_, rfl⟩
          rw [hu] at h
          clear he2
          simp only [Option.some.injEq, Prod.mk.injEq] at h
          obtain ⟨rfl, rfl⟩ := h
          go_wp2
          have HEL := Aside0.mk (show e < (ppA0 rows.length).length from he)
          have HU := Aside0.mk hu
          have hez : (e : Int) < ((3 : Nat) : Int) := Int.ofNat_lt.2 he
          have hez4 : ¬ (3 : Int) ≤ (e : Int) := by omega
          clear he hu
          refine region_envL (T := spec_l20Any.T11) (B := spec_l20Any.B11) spec_l20Any.O11 spec_l20Any.L11 9 (PhiB (spec_l20Any.F11 e) (fun _ => .cells ((ppA0 rows.length).map (Value.int .i64)).toArray 3 (0, 0)) (spec_l20Any.V11 g tb e u (.slice (some ⟨X, 0, none⟩) rows.length cr) rows.length) w.heap.size)
            (fun b W => Rds w0 w g s0_0 (if b 5 = true then q else p4) W ∧ W.heap[w.heap.size]? = some (.cells (tabA nilV nilV 0 0 0) 26 (0, 0)) ∧ W.heap[tb]? = some (.cells (tabA (.slice Ac cols.length cc) (.slice (some ⟨X, 0, none⟩) rows.length cr) hd ft gap) 26 (0, 0)) ∧ Kd.R k52 52 W w.heap.size (fun _ => True) (.slice Ac cols.length cc) cols ∧ Kd.S k37 37 W w.heap.size (fun _ => True) (.slice (some ⟨X, 0, none⟩) rows.length cr) rows) (fun W W' => KeepBut W W' g none)
            (fun _ W => Rds w0 w g s0_0 q W ∧ W.heap[w.heap.size]? = some (.cells (tabA nilV nilV 0 0 0) 26 (0, 0)) ∧ W.heap[tb]? = some (.cells (tabA (.slice Ac cols.length cc) (.slice (some ⟨X, 0, none⟩) rows.length cr) hd u gap) 26 (0, 0)) ∧ Kd.R k52 52 W w.heap.size (fun _ => True) (.slice Ac cols.length cc) cols ∧ Kd.S k37 37 W w.heap.size (fun _ => True) (.slice (some ⟨X, 0, none⟩) rows.length cr) rows)
            rfl spec_l20Any.tab11 spec_l20Any.bits11 spec_l20Any.base11 spec_l20Any.lof11 spec_l20Any.ents11 spec_l20Any.last11 (PhiB.keep hgw) ⟨HQ.out.drew, HB.out, HG.out, Kd.R_drew HV.out, Kd.S_drew HS.out⟩ ?_ ?_ ?_
          · skip
            refine alln_cons (EStep.pure hk0 fun b E a' W ha hG hP => ?_) ?_
            · have s5 : a'.tmps[5]? = some (.pointer (some ⟨tb, 0, none⟩)) := (slot_off ha rfl).trans rfl
              exact ⟨_, .pointer (some ⟨tb, 3, none⟩), rfl, rfl, by clear ha hG hP; go_simp; try first | rfl | exact i64_w _, rfl, hG⟩
            refine alln_cons (EStep.pure hk0 fun b E a' W ha hG hP => ?_) ?_
            · have s44 : a'.tmps[44]? = some (.pointer (some ⟨tb, 3, none⟩)) := slotv ha (hP 0 rfl).1 rfl (hP 0 rfl).2
              have hc : W.cell? ⟨tb, 3, none⟩ = some (.slice (some ⟨X, 0, none⟩) rows.length cr) := (blk_cell hG.2.2.1 3).trans rfl
              exact ⟨_, (.slice (some ⟨X, 0, none⟩) rows.length cr), rfl, rfl, by clear ha hG hP; go_simp, rfl, hG⟩
            refine alln_cons (EStep.pure hk0 fun b E a' W ha hG hP => ?_) ?_
            · have s45 : a'.tmps[45]? = some ((.slice (some ⟨X, 0, none⟩) rows.length cr)) := slotv ha (hP 1 rfl).1 rfl (hP 1 rfl).2
              exact ⟨_, .int .i64 rows.length, rfl, rfl, by clear ha hG hP; go_simp; try first | rfl | exact i64_w _, rfl, hG⟩
            refine alln_cons (EStep.step fun b E a' W ha hG hP hoff hb => ?_) ?_
            · have s46 : a'.tmps[46]? = some (.int .i64 rows.length) := slotv ha (hP 2 rfl).1 rfl (hP 2 rfl).2
              exact ⟨_, .slice (some ⟨W.heap.size, 0, none⟩) 3 3, W.alloc (.cells ((ppA0 rows.length).map (Value.int .i64)).toArray 3), rfl, rfl, by clear ha hP hoff hb hG; go_simp; try rfl, ⟨_, rfl, hG.1.size, blk_new _ _⟩, keep_alloc (hk0 W) _, hG.1.alloc _, blk_alloc hG.2.1 _, blk_alloc hG.2.2.1 _, Kd.R_alloc hG.2.2.2.1 _, Kd.S_alloc hG.2.2.2.2 _⟩
            refine alln_cons (EStep.pure hk0 fun b E a' W ha hG hP => ?_) ?_
            · have s0 : a'.tmps[0]? = some (.pointer (some ⟨g, 0, none⟩)) := (slot_off ha rfl).trans rfl
              exact ⟨_, .pointer (some ⟨g, 0, none⟩), rfl, rfl, by clear ha hG hP; go_simp; try first | rfl | exact i64_w _, rfl, hG⟩
            refine alln_cons (EStep.call Tryd.func16 (by kernel_rfl) rfl ⟨_, rfl, rfl, rfl⟩ fun b E a' W ha hG hP hoff hb => ⟨#[.pointer (some ⟨g, 0, none⟩), .int .i64 3], ?_, ?_⟩) ?_
            · have s48 : a'.tmps[48]? = some (.pointer (some ⟨g, 0, none⟩)) := slotv ha (hP 4 rfl).1 rfl (hP 4 rfl).2
              clear ha hG hP hoff hb
              simp [Act.eval, Array.getD_eq_getD_getElem?, s48]
            · obtain ⟨hG1, hG2, hG3, hG4, hG5⟩ := hG
              rw [if_neg (by rw [hb]; decide)] at hG1
              refine (spec_l20Rd_pick.calls k g s0_0 p4 3 e q w0 W hG1.st hG1.bl A6.out).mono ?_
              rintro _ W2 ⟨rfl, hi, hb2, hk⟩
              exact ⟨_, rfl, rfl, hk, hG1.call hi hb2 hk, hG1.blk hk hG2 (Nat.le_refl _), hG1.blk hk hG3 HGB.out, R_keepG hG4 hgw hk, S_keepG hG5 hgw hk⟩
            refine alln_cons (EStep.pure hk0 fun b E a' W ha hG hP => ?_) ?_
            · obtain ⟨C, hC1, hC2, hC3⟩ := (hP 3 rfl).2
              have s47 : a'.tmps[47]? = some (.slice (some ⟨C, 0, none⟩) 3 3) := slotv ha (hP 3 rfl).1 rfl hC1
              have s49 : a'.tmps[49]? = some (.int .i64 e) := slotv ha (hP 5 rfl).1 rfl (hP 5 rfl).2
              exact ⟨_, .pointer (some ⟨C, e, none⟩), rfl, rfl, by clear ha hG hP hC1 hC2 hC3; go_simp, ⟨C, rfl, hC2, hC3⟩, hG⟩
            refine alln_cons (EStep.pure hk0 fun b E a' W ha hG hP => ?_) ?_
            · obtain ⟨C, hC1, hC2, hC3⟩ := (hP 6 rfl).2
              have s50 : a'.tmps[50]? = some (.pointer (some ⟨C, e, none⟩)) := slotv ha (hP 6 rfl).1 rfl hC1
              have hc : W.cell? ⟨C, e, none⟩ = some (.int .i64 u) := (blk_cell hC3 e).trans ((ppInts_at (l := ppA0 rows.length) HEL.out).trans (by rw [HU.out]))
              exact ⟨_, .int .i64 u, rfl, rfl, by clear ha hG hP hC1 hC2 hC3; go_simp, rfl, hG⟩
            refine alln_cons (EStep.pure hk0 fun b E a' W ha hG hP => ?_) alln_last
            · have s5 : a'.tmps[5]? = some (.pointer (some ⟨tb, 0, none⟩)) := (slot_off ha rfl).trans rfl
              exact ⟨_, .pointer (some ⟨tb, 2, none⟩), rfl, rfl, by clear ha hG hP; go_simp; try first | rfl | exact i64_w _, rfl, hG⟩
          · intro b E a' W ha hG hP hb
            have s52 : a'.tmps[52]? = some (.pointer (some ⟨tb, 2, none⟩)) := slotv ha (hP 8 rfl (by decide)).1 rfl (hP 8 rfl (by decide)).2
            have s51 : a'.tmps[51]? = some (.int .i64 u) := slotv ha (hP 7 rfl (by decide)).1 rfl (hP 7 rfl (by decide)).2
            obtain ⟨hG1, hG2, hG3, hG4, hG5⟩ := hG
            rw [if_pos (hP 5 rfl (by decide)).1] at hG1
            have hp := Put.setRow (cs := tabA (.slice Ac cols.length cc) (.slice (some ⟨X, 0, none⟩) rows.length cr) hd u gap) hG3
            exact ⟨_, rfl, fun K hK => skip_ rfl rfl (exec_put 3 _ _ rfl tb 2 (by simp [Act.eval, Array.getD_eq_getD_getElem?, s52]) (.int .i64 u) (by simp [Act.eval, Array.getD_eq_getD_getElem?, s51]) 26 _ (tabA (.slice Ac cols.length cc) (.slice (some ⟨X, 0, none⟩) rows.length cr) hd u gap) hG3 (by kernel_rfl) rfl rfl rfl) (hK.out undef _ ⟨hG1.put hp HGB.out, hp.keep hG2 (Nat.ne_of_lt HGN.out), hp.blk, R_put hG4 hG3 hp (by decide), S_put hG5 hG3 hp (by decide)⟩)⟩
          · intro E b W hall hF
            obtain ⟨h1, h2, h3, h4, h5⟩ := hF
            rw [putSel_all (fun x hx => hall x.1 (by revert x; decide))]
            simp only [spec_l20Any.L11, List.foldl, Act.put, List.setIfInBounds_toArray, List.set_cons_zero, List.set_cons_succ]
            clear hall HQ HB HG HV HS HU HEL hez hez4
            have HQ := Aside0.mk h1
            have HB := Aside0.mk h2
            have HG := Aside0.mk h3
            have HV := Aside0.mk h4
            have HS := Aside0.mk h5
            clear h1 h2 h3 h4 h5
            go_wp2_with (first | (refine wpList_load_row rfl 26 _ rfl tb rfl 26 (tabA (.slice Ac cols.length cc) (.slice (some ⟨X, 0, none⟩) rows.length cr) hd u gap) (0, 0) _ HG.out Tryd.underlying26 rfl (by kernel_rfl) ?_) | (refine wpList_put 26 _ _ rfl rfl w.heap.size 0 rfl (.agg (tabA (.slice Ac cols.length cc) (.slice (some ⟨X, 0, none⟩) rows.length cr) hd u gap)) rfl 26 (tabA nilV nilV 0 0 0) (tabA (.slice Ac cols.length cc) (.slice (some ⟨X, 0, none⟩) rows.length cr) hd u gap) HB.out (by kernel_rfl) rfl rfl rfl (fun W9 hp => ?_); have HF := Aside0.mk (HQ.out.put hp (Nat.le_refl _)); have HFB := Aside0.mk hp.blk; have HFV := Aside0.mk (R_put HV.out HB.out hp (by decide)); have HFS := Aside0.mk (S_put HS.out HB.out hp (by decide)); clear hp))
            exact bodyPost_ret (results_cell_row rfl _ _ w.heap.size 26 (tabA (.slice Ac cols.length cc) (.slice (some ⟨X, 0, none⟩) rows.length cr) hd u gap) (0, 0) _ rfl HFB.out Tryd.underlying26 rfl (by kernel_rfl)) rfl ⟨_, _, rfl, HFV.out, HFS.out, HF.out.st, HF.out.bl, HF.out.kp⟩
        · cases h
      rw [if_neg d1] at h
      have b1 : (sw == 1) = false := by simpa using d1
      by_cases d2 : sw = 2
      · subst d2
        rw [if_pos rfl] at h
        rw [Option.bind_eq_some_iff] at h
        obtain ⟨⟨e, q⟩, h1, h⟩ := h
        have A6 := Aside0.mk h1
        clear h1
        simp only at h A6
        split at h
        · rename_i he2
          obtain ⟨e, rfl⟩ : ∃ n : Nat, e = n := ⟨e.toNat, by omega⟩
          have he : e < 2 := by omega
          rw [Int.toNat_natCast] at h
          obtain ⟨u, hu⟩ : ∃ u, ppA2.getD e 0 = u := ⟨_, rfl⟩
          rw [hu] at h
          clear he2
          simp only [Option.some.injEq, Prod.mk.injEq] at h
          obtain ⟨rfl, rfl⟩ := h
          have HEL := Aside0.mk (show e < ppA2.length from he)
          have HU := Aside0.mk hu
          have hez : (e : Int) < ((2 : Nat) : Int) := Int.ofNat_lt.2 he
          have hez4 : ¬ (2 : Int) ≤ (e : Int) := by omega
          clear he hu
          go_upto_region 18 with (first | (go_at_call 16; (with_reducible refine (spec_l20Rd_pick.calls k g s0_0 p4 2 e q w0 _ (IsS65.alloc HQ.out.st _) (below_alloc HQ.out.bl _) A6.out).mono ?_); rintro e_ W4 ⟨rfl, hi, hb, hk⟩; have HC := Aside0.mk ((HQ.out.alloc _).blk hk (blk_new W3 (.cells (ppA2.map (Value.int .i64)).toArray 3)) HQ.out.size); replace HB := Aside0.mk ((HQ.out.alloc _).blk hk (blk_alloc HB.out _) (Nat.le_refl _)); replace HG := Aside0.mk ((HQ.out.alloc _).blk hk (blk_alloc HG.out _) HGB.out); replace HV := Aside0.mk (R_keepG (Kd.R_alloc HV.out _) hgw hk); replace HS := Aside0.mk (S_keepG (Kd.S_alloc HS.out _) hgw hk); replace HQ := Aside0.mk ((HQ.out.alloc _).call hi hb hk); clear hi hb hk; have hc : W4.cell? ⟨W3.heap.size, e, none⟩ = some (.int .i64 u) := (blk_cell HC.out e).trans ((ppInts_at (l := ppA2) HEL.out).trans (by rw [HU.out]))) | (refine wpList_put 3 _ _ rfl rfl tb 4 rfl (.int .i64 u) rfl 26 (tabA (.slice Ac cols.length cc) (.slice (some ⟨X, 0, none⟩) rows.length cr) hd ft gap) (tabA (.slice Ac cols.length cc) (.slice (some ⟨X, 0, none⟩) rows.length cr) hd ft u) HG.out (by kernel_rfl) rfl rfl rfl (fun W5 hp => ?_); replace HB := Aside0.mk (hp.keep HB.out (Nat.ne_of_lt HGN.out)); replace HV := Aside0.mk (R_put HV.out HG.out hp (by decide)); replace HS := Aside0.mk (S_put HS.out HG.out hp (by decide)); replace HQ := Aside0.mk (HQ.out.put hp HGB.out); replace HG := Aside0.mk hp.blk; clear hp hc))
          clear hez hez4 HEL HU
          go_wp2_with (first | (refine wpList_load_row rfl 26 _ rfl tb rfl 26 (tabA (.slice Ac cols.length cc) (.slice (some ⟨X, 0, none⟩) rows.length cr) hd ft u) (0, 0) _ HG.out Tryd.underlying26 rfl (by kernel_rfl) ?_) | (refine wpList_put 26 _ _ rfl rfl w.heap.size 0 rfl (.agg (tabA (.slice Ac cols.length cc) (.slice (some ⟨X, 0, none⟩) rows.length cr) hd ft u)) rfl 26 (tabA nilV nilV 0 0 0) (tabA (.slice Ac cols.length cc) (.slice (some ⟨X, 0, none⟩) rows.length cr) hd ft u) HB.out (by kernel_rfl) rfl rfl rfl (fun W9 hp => ?_); have HF := Aside0.mk (HQ.out.put hp (Nat.le_refl _)); have HFB := Aside0.mk hp.blk; have HFV := Aside0.mk (R_put HV.out HB.out hp (by decide)); have HFS := Aside0.mk (S_put HS.out HB.out hp (by decide)); clear hp))
          exact bodyPost_ret (results_cell_row rfl _ _ w.heap.size 26 (tabA (.slice Ac cols.length cc) (.slice (some ⟨X, 0, none⟩) rows.length cr) hd ft u) (0, 0) _ rfl HFB.out Tryd.underlying26 rfl (by kernel_rfl)) rfl ⟨_, _, rfl, HFV.out, HFS.out, HF.out.st, HF.out.bl, HF.out.kp⟩
        · cases h
      rw [if_neg d2] at h
      have b2 : (sw == 2) = false := by simpa using d2
      by_cases d3 : sw = 3
      · subst d3
        rw [if_pos rfl] at h
        rw [Option.bind_eq_some_iff] at h
        obtain ⟨⟨d, q1⟩, h1, h⟩ := h
        have A6 := Aside0.mk h1
        clear h1
        rw [Option.bind_eq_some_iff] at h
        obtain ⟨⟨e, q⟩, h1, h⟩ := h
        have A7 := Aside0.mk h1
        clear h1
        simp only at h A7
        split at h
        · rename_i he2
          obtain ⟨e, rfl⟩ : ∃ n : Nat, e = n := ⟨e.toNat, by omega⟩
          have he : e < 4 := by omega
          have HCL := Aside0.mk he2.2.2
          rw [Int.toNat_natCast] at h
          obtain ⟨u, hu⟩ : ∃ u, ppA3.getD e 0 = u := ⟨_, rfl⟩
          rw [hu] at h
          clear he2
          simp only [Option.some.injEq, Prod.mk.injEq] at h
          obtain ⟨rfl, rfl⟩ := h
          go_wp2
          have HEL := Aside0.mk (show e < ppA3.length from he)
          have HU := Aside0.mk hu
          have hez : (e : Int) < ((4 : Nat) : Int) := Int.ofNat_lt.2 he
          have hez4 : ¬ (4 : Int) ≤ (e : Int) := by omega
          clear he hu
          have hrb : ∀ k, (Value.slice Ac cols.length cc).ownBlock = some k → w.heap.size ≤ k := Kd.R_base HV.out
          have hrl : ∀ k, (Value.slice Ac cols.length cc).ownBlock = some k → k < W3.heap.size := Kd.R_lt HV.out
          have hnr := own_ne_of HV.out HB.out (by decide)
          have hng := own_ne_of HV.out HG.out (by decide)
          have hst : ∀ j v W W', j ∉ [11] → spec_l20Any.P15 w W3 cols e d u (spec_l20Any.V15 g tb e d u (.slice Ac cols.length cc)) j v W → KeepBut W W' g (Value.slice Ac cols.length cc).ownBlock → spec_l20Any.P15 w W3 cols e d u (spec_l20Any.V15 g tb e d u (.slice Ac cols.length cc)) j v W' := by
            intro j v W W' hj h hk
            have e_ : ∀ W, spec_l20Any.P15 w W3 cols e d u (spec_l20Any.V15 g tb e d u (.slice Ac cols.length cc)) j v W = PhiB (spec_l20Any.F15 e) (spec_l20Any.W15 d u) (spec_l20Any.V15 g tb e d u (.slice Ac cols.length cc)) W3.heap.size j v W := fun W => by
              unfold spec_l20Any.P15
              split
              · exact absurd (by simp) hj
              · rfl
            rw [e_] at h ⊢
            exact PhiB.keepR (Nat.lt_of_lt_of_le hgw HQ.out.size) hrl j v W W' h hk
          refine region_envF (T := spec_l20Any.T15) (B := spec_l20Any.B15) spec_l20Any.O15 spec_l20Any.L15 13 (spec_l20Any.P15 w W3 cols e d u (spec_l20Any.V15 g tb e d u (.slice Ac cols.length cc)))
            (fun b W => Rds w0 w g s0_0 (if b 6 = true then q else if b 3 = true then q1 else p4) W ∧ W.heap[w.heap.size]? = some (.cells (tabA nilV nilV 0 0 0) 26 (0, 0)) ∧ W.heap[tb]? = some (.cells (tabA (.slice Ac cols.length cc) (.slice (some ⟨X, 0, none⟩) rows.length cr) hd ft gap) 26 (0, 0)) ∧ (b 11 = false → Kd.R k52 52 W w.heap.size (fun _ => True) (.slice Ac cols.length cc) cols) ∧ Kd.S k37 37 W w.heap.size (fun _ => True) (.slice (some ⟨X, 0, none⟩) rows.length cr) rows ∧ W3.heap.size ≤ W.heap.size)
            (fun _ W => Rds w0 w g s0_0 q W ∧ W.heap[w.heap.size]? = some (.cells (tabA nilV nilV 0 0 0) 26 (0, 0)) ∧ Kd.S k37 37 W w.heap.size (fun _ => True) (.slice (some ⟨X, 0, none⟩) rows.length cr) rows ∧ ∃ v1, W.heap[tb]? = some (.cells (tabA v1 (.slice (some ⟨X, 0, none⟩) rows.length cr) hd ft gap) 26 (0, 0)) ∧ Kd.R k52 52 W w.heap.size (fun _ => True) v1 (cols ++ [⟨d, u⟩]))
            rfl spec_l20Any.tab15 spec_l20Any.bits15 spec_l20Any.base15 spec_l20Any.lof15 spec_l20Any.ents15 spec_l20Any.last15 ⟨HQ.out.drew, HB.out, HG.out, fun _ => Kd.R_drew HV.out, Kd.S_drew HS.out, Nat.le_refl _⟩ ?_ ?_ ?_
          · skip
            refine alln_cons (EStepF.pure fun b_ E a' W ha hG hP => ?_) ?_
            · have s5 : a'.tmps[5]? = some (.pointer (some ⟨tb, 0, none⟩)) := (slot_off ha rfl).trans rfl
              exact ⟨_, .pointer (some ⟨tb, 0, none⟩), rfl, rfl, by clear ha hG hP; go_simp; try first | rfl | exact i64_w _, rfl, hG⟩
            refine alln_cons (EStepF.pure fun b E a' W ha hG hP => ?_) ?_
            · have s63 : a'.tmps[63]? = some (.pointer (some ⟨tb, 0, none⟩)) := slotv ha (hP 0 rfl).1 rfl (hP 0 rfl).2
              have hc : W.cell? ⟨tb, 0, none⟩ = some (.slice Ac cols.length cc) := (blk_cell hG.2.2.1 0).trans rfl
              exact ⟨_, (.slice Ac cols.length cc), rfl, rfl, by clear ha hG hP; go_simp, rfl, hG⟩
            refine alln_cons (EStepF.pure fun b_ E a' W ha hG hP => ?_) ?_
            · have s0 : a'.tmps[0]? = some (.pointer (some ⟨g, 0, none⟩)) := (slot_off ha rfl).trans rfl
              exact ⟨_, .pointer (some ⟨g, 0, none⟩), rfl, rfl, by clear ha hG hP; go_simp; try first | rfl | exact i64_w _, rfl, hG⟩
            refine alln_cons (EStepF.call [11] hst rfl Tryd.func16 (by kernel_rfl) rfl ⟨_, rfl, rfl, rfl⟩ fun b E a' W ha hG hP hoff hb => ⟨#[.pointer (some ⟨g, 0, none⟩), .int .i64 4], ?_, ?_⟩) ?_
            · have s65 : a'.tmps[65]? = some (.pointer (some ⟨g, 0, none⟩)) := slotv ha (hP 2 rfl).1 rfl (hP 2 rfl).2
              clear ha hG hP hoff hb
              simp [Act.eval, Array.getD_eq_getD_getElem?, s65]
            · obtain ⟨hG1, hG2, hG3, hG4, hG5, hG6⟩ := hG
              rw [if_neg (by rw [hoff 6 rfl]; decide), if_neg (by rw [hb]; decide)] at hG1
              refine (spec_l20Rd_pick.calls k g s0_0 p4 4 d q1 w0 W hG1.st hG1.bl A6.out).mono ?_
              rintro _ W2 ⟨rfl, hi, hb2, hk⟩
              exact ⟨_, rfl, rfl, ⟨hk.1, fun i h1 h2 _ => hk.2 i h1 h2 (by simp)⟩, (by rw [if_neg (by rw [up_ne (by decide), hoff 6 rfl]; decide), if_pos (by rw [up_self])]; exact hG1.call hi hb2 hk), hG1.blk hk hG2 (Nat.le_refl _), hG1.blk hk hG3 HGB.out, fun h5 => R_keepG (hG4 (by rw [up_ne (by decide)] at h5; exact h5)) hgw hk, S_keepG hG5 hgw hk, Nat.le_trans hG6 hk.1⟩
            refine alln_cons (EStepF.step [11] hst rfl fun b E a' W ha hG hP hoff hb => ?_) ?_
            · obtain ⟨hG1, hG2, hG3, hG4, hG5, hG6⟩ := hG
              refine ⟨_, .slice (some ⟨W.heap.size, 0, none⟩) 4 4, W.alloc (.cells (ppA3.map (Value.int .i64)).toArray 3), rfl, rfl, ?_, ⟨_, rfl, hG6, blk_new _ _⟩, KeepBut.of_grown (World.grownBy_alloc W _ _) g, (by rw [up_ne (by decide), up_ne (by decide)]; exact hG1.alloc _), blk_alloc hG2 _, blk_alloc hG3 _, fun h5 => Kd.R_alloc (hG4 (by rw [up_ne (by decide)] at h5; exact h5)) _, Kd.S_alloc hG5 _, by simpa using Nat.le_succ_of_le hG6⟩
              clear ha hP hoff hb
              go_simp
              try rfl
            refine alln_cons (EStepF.pure fun b_ E a' W ha hG hP => ?_) ?_
            · have s0 : a'.tmps[0]? = some (.pointer (some ⟨g, 0, none⟩)) := (slot_off ha rfl).trans rfl
              exact ⟨_, .pointer (some ⟨g, 0, none⟩), rfl, rfl, by clear ha hG hP; go_simp; try first | rfl | exact i64_w _, rfl, hG⟩
            refine alln_cons (EStepF.call [11] hst rfl Tryd.func16 (by kernel_rfl) rfl ⟨_, rfl, rfl, rfl⟩ fun b E a' W ha hG hP hoff hb => ⟨#[.pointer (some ⟨g, 0, none⟩), .int .i64 4], ?_, ?_⟩) ?_
            · have s68 : a'.tmps[68]? = some (.pointer (some ⟨g, 0, none⟩)) := slotv ha (hP 5 rfl).1 rfl (hP 5 rfl).2
              clear ha hG hP hoff hb
              simp [Act.eval, Array.getD_eq_getD_getElem?, s68]
            · obtain ⟨hG1, hG2, hG3, hG4, hG5, hG6⟩ := hG
              rw [if_neg (by rw [hb]; decide), if_pos (hP 3 rfl).1] at hG1
              refine (spec_l20Rd_pick.calls k g s0_0 q1 4 e q w0 W hG1.st hG1.bl A7.out).mono ?_
              rintro _ W2 ⟨rfl, hi, hb2, hk⟩
              exact ⟨_, rfl, rfl, ⟨hk.1, fun i h1 h2 _ => hk.2 i h1 h2 (by simp)⟩, (by rw [if_pos (by rw [up_self])]; exact hG1.call hi hb2 hk), hG1.blk hk hG2 (Nat.le_refl _), hG1.blk hk hG3 HGB.out, fun h5 => R_keepG (hG4 (by rw [up_ne (by decide)] at h5; exact h5)) hgw hk, S_keepG hG5 hgw hk, Nat.le_trans hG6 hk.1⟩
            refine alln_cons (EStepF.pure fun b E a' W ha hG hP => ?_) ?_
            · obtain ⟨C, hC1, hC2, hC3⟩ := (hP 4 rfl).2
              have s67 : a'.tmps[67]? = some (.slice (some ⟨C, 0, none⟩) 4 4) := slotv ha (hP 4 rfl).1 rfl hC1
              have s69 : a'.tmps[69]? = some (.int .i64 e) := slotv ha (hP 6 rfl).1 rfl (hP 6 rfl).2
              exact ⟨_, .pointer (some ⟨C, e, none⟩), rfl, rfl, by clear ha hG hP hC1 hC2 hC3; go_simp, ⟨C, rfl, hC2, hC3⟩, by simpa [up_ne] using hG⟩
            refine alln_cons (EStepF.pure fun b E a' W ha hG hP => ?_) ?_
            · obtain ⟨C, hC1, hC2, hC3⟩ := (hP 7 rfl).2
              have s70 : a'.tmps[70]? = some (.pointer (some ⟨C, e, none⟩)) := slotv ha (hP 7 rfl).1 rfl hC1
              have hc : W.cell? ⟨C, e, none⟩ = some (.int .i64 u) := (blk_cell hC3 e).trans ((ppInts_at (l := ppA3) HEL.out).trans (by rw [HU.out]))
              exact ⟨_, .int .i64 u, rfl, rfl, by clear ha hG hP hC1 hC2 hC3; go_simp, rfl, by simpa [up_ne] using hG⟩
            refine alln_cons (EStepF.pure fun b_ E a' W ha hG hP => ?_) ?_
            · have s66 : a'.tmps[66]? = some (.int .i64 d) := slotv ha (hP 3 rfl).1 rfl (hP 3 rfl).2
              have s71 : a'.tmps[71]? = some (.int .i64 u) := slotv ha (hP 8 rfl).1 rfl (hP 8 rfl).2
              exact ⟨_, .agg #[.int .i64 d, .int .i64 u], rfl, rfl, by clear ha hG hP; go_simp; try first | rfl | exact i64_w _, rfl, hG⟩
            refine alln_cons (EStepF.step [11] hst rfl fun b E a' W ha hG hP hoff hb => ?_) ?_
            · have s72 : a'.tmps[72]? = some (.agg #[.int .i64 d, .int .i64 u]) := slotv ha (hP 9 rfl).1 rfl (hP 9 rfl).2
              obtain ⟨hG1, hG2, hG3, hG4, hG5, hG6⟩ := hG
              refine ⟨_, .slice (some ⟨W.heap.size, 0, none⟩) 1 1, W.alloc (.cells #[.int .i64 d, .int .i64 u] 52), rfl, rfl, ?_, ⟨_, rfl, hG6, blk_new _ _⟩, KeepBut.of_grown (World.grownBy_alloc W _ _) g, (by rw [up_ne (by decide), up_ne (by decide)]; exact hG1.alloc _), blk_alloc hG2 _, blk_alloc hG3 _, fun h5 => Kd.R_alloc (hG4 (by rw [up_ne (by decide)] at h5; exact h5)) _, Kd.S_alloc hG5 _, by simpa using Nat.le_succ_of_le hG6⟩
              clear ha hP hoff hb
              go_simp
              try rfl
            refine alln_cons (EStepF.stepO [11] hst rfl (.call { callee := .builtin .append, args := #[.tmp 64, .tmp 73], argTypes := #[23, 23] }) ⟨_, rfl, rfl, rfl⟩ fun b E a' W oi ho ha hG hP hoff hb => ?_) ?_
            · obtain ⟨C, hC1, hC2, hC3⟩ := (hP 10 rfl).2
              have s64 : a'.tmps[64]? = some (.slice Ac cols.length cc) := slotv ha (hP 1 rfl).1 rfl (hP 1 rfl).2
              have s73 : a'.tmps[73]? = some (.slice (some ⟨C, 0, none⟩) 1 1) := slotv ha (hP 10 rfl).1 rfl hC1
              obtain ⟨hG1, hG2, hG3, hG4, hG5, hG6⟩ := hG
              obtain ⟨v1, w1, hr, hR1, hgr, hat⟩ := exec_append_R (P := Tryd.prog) (oi := oi) (ev := a'.eval) k52 w.heap.size (.tmp 64) (.tmp 73) 23 52 (.agg #[.int .i64 0, .int .i64 0]) 16 ho Tryd.underlying23 (by kernel_rfl) rfl (by decide) (by decide) (.slice Ac cols.length cc) cols ⟨d, u⟩ [.int .i64 d, .int .i64 u] C (fun _ => True) (fun _ => False) (by simp [Act.eval, Array.getD_eq_getD_getElem?, s64]) (by simp [Act.eval, Array.getD_eq_getD_getElem?, s73]) hC3 (k52_mkM _ _ _ ⟨d, u⟩) (fun _ h => h.elim) (fun _ _ => trivial) (hG4 hb) hG1.size (by have := HCL.out; omega)
              exact ⟨v1, w1, hr, hR1, KeepBut.of_grown hgr g, (by rw [up_ne (by decide), up_ne (by decide)]; exact hG1.grown hgr hrb), blk_grown hG2 hgr hnr, blk_grown hG3 hgr hng, fun h8 => (by rw [up_self] at h8; cases h8), Kd.S_mono (Kd.S_over' hG5 (Kd.R_typed (hG4 hb)) (by decide) hgr) (fun _ _ => trivial), Nat.le_trans hG6 hgr.size⟩
            refine alln_cons (EStepF.pure fun b_ E a' W ha hG hP => ?_) alln_last
            · have s5 : a'.tmps[5]? = some (.pointer (some ⟨tb, 0, none⟩)) := (slot_off ha rfl).trans rfl
              exact ⟨_, .pointer (some ⟨tb, 0, none⟩), rfl, rfl, by clear ha hG hP; go_simp; try first | rfl | exact i64_w _, rfl, hG⟩
          · intro b E a' W ha hG hP hb
            have s75 : a'.tmps[75]? = some (.pointer (some ⟨tb, 0, none⟩)) := slotv ha (hP 12 rfl (by decide)).1 rfl (hP 12 rfl (by decide)).2
            obtain ⟨v1, hv1⟩ : ∃ v1, E 11 = v1 := ⟨_, rfl⟩
            have s74 : a'.tmps[74]? = some v1 := slotv ha (hP 11 rfl (by decide)).1 rfl hv1
            have hR1 : Kd.R k52 52 W w.heap.size (fun _ => True) v1 (cols ++ [⟨d, u⟩]) := hv1 ▸ (hP 11 rfl (by decide)).2
            obtain ⟨A1, c1, rfl⟩ := Kd.R_slice hR1
            obtain ⟨hG1, hG2, hG3, hG4, hG5, hG6⟩ := hG
            rw [if_pos (hP 6 rfl (by decide)).1] at hG1
            have hp := Put.setRow (cs := tabA (.slice A1 (cols ++ [(⟨d, u⟩ : S52)]).length c1) (.slice (some ⟨X, 0, none⟩) rows.length cr) hd ft gap) hG3
            exact ⟨_, rfl, fun K hK => skip_ rfl rfl (exec_put 23 _ _ rfl tb 0 (by simp [Act.eval, Array.getD_eq_getD_getElem?, s75]) (.slice A1 (cols ++ [(⟨d, u⟩ : S52)]).length c1) (by simp [Act.eval, Array.getD_eq_getD_getElem?, s74]) 26 _ (tabA (.slice A1 (cols ++ [(⟨d, u⟩ : S52)]).length c1) (.slice (some ⟨X, 0, none⟩) rows.length cr) hd ft gap) hG3 (by kernel_rfl) rfl rfl rfl) (hK.out undef _ ⟨hG1.put hp HGB.out, hp.keep hG2 (Nat.ne_of_lt HGN.out), S_put hG5 hG3 hp (by decide), _, hp.blk, R_put hR1 hG3 hp (by decide)⟩)⟩
          · intro E b W hall hF
            obtain ⟨h1, h2, h5, v1, h3, h4⟩ := hF
            rw [putSel_all (fun x hx => hall x.1 (by revert x; decide))]
            simp only [spec_l20Any.L15, List.foldl, Act.put, List.setIfInBounds_toArray, List.set_cons_zero, List.set_cons_succ]
            obtain ⟨A1, n1, c1, rfl⟩ : ∃ A1 n1 c1, v1 = .slice A1 n1 c1 := (Kd.R_slice h4).imp fun _ h => ⟨_, h⟩
            clear hall HQ HB HG HV HS hst hrb hrl hnr hng HEL HU hez hez4
            have HQ := Aside0.mk h1
            have HB := Aside0.mk h2
            have HG := Aside0.mk h3
            have HV := Aside0.mk h4
            have HS := Aside0.mk h5
            clear h1 h2 h3 h4 h5
            go_wp2_with (first | (refine wpList_load_row rfl 26 _ rfl tb rfl 26 (tabA (.slice A1 n1 c1) (.slice (some ⟨X, 0, none⟩) rows.length cr) hd ft gap) (0, 0) _ HG.out Tryd.underlying26 rfl (by kernel_rfl) ?_) | (refine wpList_put 26 _ _ rfl rfl w.heap.size 0 rfl (.agg (tabA (.slice A1 n1 c1) (.slice (some ⟨X, 0, none⟩) rows.length cr) hd ft gap)) rfl 26 (tabA nilV nilV 0 0 0) (tabA (.slice A1 n1 c1) (.slice (some ⟨X, 0, none⟩) rows.length cr) hd ft gap) HB.out (by kernel_rfl) rfl rfl rfl (fun W9 hp => ?_); have HF := Aside0.mk (HQ.out.put hp (Nat.le_refl _)); have HFB := Aside0.mk hp.blk; have HFV := Aside0.mk (R_put HV.out HB.out hp (by decide)); have HFS := Aside0.mk (S_put HS.out HB.out hp (by decide)); clear hp))
            exact bodyPost_ret (results_cell_row rfl _ _ w.heap.size 26 (tabA (.slice A1 n1 c1) (.slice (some ⟨X, 0, none⟩) rows.length cr) hd ft gap) (0, 0) _ rfl HFB.out Tryd.underlying26 rfl (by kernel_rfl)) rfl ⟨_, _, rfl, HFV.out, HFS.out, HF.out.st, HF.out.bl, HF.out.kp⟩
        · cases h
      rw [if_neg d3] at h
      have b3 : (sw == 3) = false := by simpa using d3
      by_cases d4 : sw = 4
      · subst d4
        rw [if_pos rfl] at h
        rw [Option.bind_eq_some_iff] at h
        obtain ⟨⟨x, q⟩, h1, h⟩ := h
        have A6 := Aside0.mk h1
        clear h1
        simp only at h A6
        split at h
        · rename_i hcl
          have HCL := Aside0.mk hcl
          clear hcl
          simp only [Option.some.injEq, Prod.mk.injEq] at h
          obtain ⟨rfl, rfl⟩ := h
          go_wp2
          obtain ⟨rc, hrc⟩ := Kd.S_typed HS.out X (by simp [Value.ownBlock])
          obtain ⟨oki0, c0, hc0l, hc0M, hc0c, _, hc0k, _⟩ := Kd.S_elem HS.out z37 (a : Int) (by omega) haz
          rw [Int.toNat_natCast] at hc0M hc0c
          obtain ⟨vx, rfl, hRx0⟩ := k37_openM hc0M
          have hrx : rc[a * 2]? = some vx := (blk_cell hrc (a * 2)).symm.trans (hc0c 0 vx rfl)
          have HRX := Aside0.mk hrx
          have HRC := Aside0.mk hrc
          have hxb : ∀ k, vx.ownBlock = some k → w.heap.size ≤ k := Kd.R_base hRx0
          have hxl : ∀ k, vx.ownBlock = some k → k < W3.heap.size := Kd.R_lt hRx0
          have hnr := own_ne_of hRx0 HB.out (by decide)
          have hng := own_ne_of hRx0 HG.out (by decide)
          have hnx := own_ne_of hRx0 hrc (by decide)
          have hwx : w.heap.size ≤ X := Kd.S_base HS.out X (by simp [Value.ownBlock])
          clear hrx hrc hc0l hc0M hc0c hc0k hRx0
          have hst : ∀ j v W W', j ∉ [12] → spec_l20Any.P17 w W3 (.slice (some ⟨X, 0, none⟩) rows.length cr) vx rows a x (spec_l20Any.V17 g tb X a (.slice (some ⟨X, 0, none⟩) rows.length cr) vx x) j v W → KeepBut W W' g vx.ownBlock → spec_l20Any.P17 w W3 (.slice (some ⟨X, 0, none⟩) rows.length cr) vx rows a x (spec_l20Any.V17 g tb X a (.slice (some ⟨X, 0, none⟩) rows.length cr) vx x) j v W' := by
            intro j v W W' hj h hk
            have e_ : ∀ W, spec_l20Any.P17 w W3 (.slice (some ⟨X, 0, none⟩) rows.length cr) vx rows a x (spec_l20Any.V17 g tb X a (.slice (some ⟨X, 0, none⟩) rows.length cr) vx x) j v W = PhiB (fun j => if j = 11 then some (fun C => .slice (some ⟨C, 0, none⟩) 1 1) else none) (fun _ => .cells (cellA x) 58 (0, 0)) (spec_l20Any.V17 g tb X a (.slice (some ⟨X, 0, none⟩) rows.length cr) vx x) W3.heap.size j v W := fun W => by
              unfold spec_l20Any.P17
              split
              · exact absurd (by simp) hj
              · rfl
            rw [e_] at h ⊢
            exact PhiB.keepR (Nat.lt_of_lt_of_le hgw HQ.out.size) hxl j v W W' h hk
          refine region_envF (T := spec_l20Any.T17) (B := spec_l20Any.B17) spec_l20Any.O17 spec_l20Any.L17 15 (spec_l20Any.P17 w W3 (.slice (some ⟨X, 0, none⟩) rows.length cr) vx rows a x (spec_l20Any.V17 g tb X a (.slice (some ⟨X, 0, none⟩) rows.length cr) vx x))
            (fun b W => Rds w0 w g s0_0 (if b 10 = true then q else p4) W ∧ W.heap[w.heap.size]? = some (.cells (tabA nilV nilV 0 0 0) 26 (0, 0)) ∧ W.heap[tb]? = some (.cells (tabA (.slice Ac cols.length cc) (.slice (some ⟨X, 0, none⟩) rows.length cr) hd ft gap) 26 (0, 0)) ∧ Kd.R k52 52 W w.heap.size (fun _ => True) (.slice Ac cols.length cc) cols ∧ (b 12 = false → Kd.S k37 37 W w.heap.size (fun _ => True) (.slice (some ⟨X, 0, none⟩) rows.length cr) rows) ∧ W.heap[X]? = some (.cells rc 37 (0, 0)) ∧ W3.heap.size ≤ W.heap.size)
            (fun _ W => Rds w0 w g s0_0 q W ∧ W.heap[w.heap.size]? = some (.cells (tabA nilV nilV 0 0 0) 26 (0, 0)) ∧ W.heap[tb]? = some (.cells (tabA (.slice Ac cols.length cc) (.slice (some ⟨X, 0, none⟩) rows.length cr) hd ft gap) 26 (0, 0)) ∧ Kd.R k52 52 W w.heap.size (fun _ => True) (.slice Ac cols.length cc) cols ∧ Kd.S k37 37 W w.heap.size (fun _ => True) (.slice (some ⟨X, 0, none⟩) rows.length cr) (paPut rows a x))
            rfl spec_l20Any.tab17 spec_l20Any.bits17 spec_l20Any.base17 spec_l20Any.lof17 spec_l20Any.ents17 spec_l20Any.last17 ⟨HQ.out.drew, HB.out, HG.out, Kd.R_drew HV.out, fun _ => Kd.S_drew HS.out, HRC.out, Nat.le_refl _⟩ ?_ ?_ ?_
          · skip
            refine alln_cons (EStepF.pure fun b_ E a' W ha hG hP => ?_) ?_
            · have s5 : a'.tmps[5]? = some (.pointer (some ⟨tb, 0, none⟩)) := (slot_off ha rfl).trans rfl
              exact ⟨_, .pointer (some ⟨tb, 3, none⟩), rfl, rfl, by clear ha hG hP; go_simp; try first | rfl | exact i64_w _, rfl, hG⟩
            refine alln_cons (EStepF.pure fun b E a' W ha hG hP => ?_) ?_
            · have s78 : a'.tmps[78]? = some (.pointer (some ⟨tb, 3, none⟩)) := slotv ha (hP 0 rfl).1 rfl (hP 0 rfl).2
              have hc : W.cell? ⟨tb, 3, none⟩ = some (.slice (some ⟨X, 0, none⟩) rows.length cr) := (blk_cell hG.2.2.1 3).trans rfl
              exact ⟨_, (.slice (some ⟨X, 0, none⟩) rows.length cr), rfl, rfl, by clear ha hG hP; go_simp, rfl, hG⟩
            refine alln_cons (EStepF.pure fun b_ E a' W ha hG hP => ?_) ?_
            · have s6 : a'.tmps[6]? = some (.int .i64 a) := (slot_off ha rfl).trans rfl
              exact ⟨_, .int .i64 a, rfl, rfl, by clear ha hG hP; go_simp; try first | rfl | exact i64_w _, rfl, hG⟩
            refine alln_cons (EStepF.pure fun b_ E a' W ha hG hP => ?_) ?_
            · have s5 : a'.tmps[5]? = some (.pointer (some ⟨tb, 0, none⟩)) := (slot_off ha rfl).trans rfl
              exact ⟨_, .pointer (some ⟨tb, 3, none⟩), rfl, rfl, by clear ha hG hP; go_simp; try first | rfl | exact i64_w _, rfl, hG⟩
            refine alln_cons (EStepF.pure fun b E a' W ha hG hP => ?_) ?_
            · have s81 : a'.tmps[81]? = some (.pointer (some ⟨tb, 3, none⟩)) := slotv ha (hP 3 rfl).1 rfl (hP 3 rfl).2
              have hc : W.cell? ⟨tb, 3, none⟩ = some (.slice (some ⟨X, 0, none⟩) rows.length cr) := (blk_cell hG.2.2.1 3).trans rfl
              exact ⟨_, (.slice (some ⟨X, 0, none⟩) rows.length cr), rfl, rfl, by clear ha hG hP; go_simp, rfl, hG⟩
            refine alln_cons (EStepF.pure fun b_ E a' W ha hG hP => ?_) ?_
            · have s6 : a'.tmps[6]? = some (.int .i64 a) := (slot_off ha rfl).trans rfl
              exact ⟨_, .int .i64 a, rfl, rfl, by clear ha hG hP; go_simp; try first | rfl | exact i64_w _, rfl, hG⟩
            refine alln_cons (EStepF.pure fun b_ E a' W ha hG hP => ?_) ?_
            · have s82 : a'.tmps[82]? = some ((.slice (some ⟨X, 0, none⟩) rows.length cr)) := slotv ha (hP 4 rfl).1 rfl (hP 4 rfl).2
              have s83 : a'.tmps[83]? = some (.int .i64 a) := slotv ha (hP 5 rfl).1 rfl (hP 5 rfl).2
              exact ⟨_, .pointer (some ⟨X, a * 2, none⟩), rfl, rfl, by clear ha hG hP; go_simp; try first | rfl | exact i64_w _, rfl, hG⟩
            refine alln_cons (EStepF.pure fun b_ E a' W ha hG hP => ?_) ?_
            · have s84 : a'.tmps[84]? = some (.pointer (some ⟨X, a * 2, none⟩)) := slotv ha (hP 6 rfl).1 rfl (hP 6 rfl).2
              exact ⟨_, .pointer (some ⟨X, a * 2, none⟩), rfl, rfl, by clear ha hG hP; go_simp; try first | rfl | exact i64_w _, rfl, hG⟩
            refine alln_cons (EStepF.pure fun b E a' W ha hG hP => ?_) ?_
            · have s85 : a'.tmps[85]? = some (.pointer (some ⟨X, a * 2, none⟩)) := slotv ha (hP 7 rfl).1 rfl (hP 7 rfl).2
              have hc : W.cell? ⟨X, a * 2, none⟩ = some vx := (blk_cell hG.2.2.2.2.2.1 (a * 2)).trans HRX.out
              exact ⟨_, vx, rfl, rfl, by clear ha hG hP; go_simp, rfl, hG⟩
            refine alln_cons (EStepF.pure fun b_ E a' W ha hG hP => ?_) ?_
            · have s0 : a'.tmps[0]? = some (.pointer (some ⟨g, 0, none⟩)) := (slot_off ha rfl).trans rfl
              exact ⟨_, .pointer (some ⟨g, 0, none⟩), rfl, rfl, by clear ha hG hP; go_simp; try first | rfl | exact i64_w _, rfl, hG⟩
            refine alln_cons (EStepF.call [12] hst rfl Tryd.func36 (by kernel_rfl) rfl ⟨_, rfl, rfl, rfl⟩ fun b E a' W ha hG hP hoff hb => ⟨#[.pointer (some ⟨g, 0, none⟩), .int .i64 1], ?_, ?_⟩) ?_
            · have s87 : a'.tmps[87]? = some (.pointer (some ⟨g, 0, none⟩)) := slotv ha (hP 9 rfl).1 rfl (hP 9 rfl).2
              clear ha hG hP hoff hb
              simp [Act.eval, Array.getD_eq_getD_getElem?, s87]
            · obtain ⟨hG1, hG2, hG3, hG4, hG5, hG6, hG7⟩ := hG
              rw [if_neg (by rw [hb]; decide)] at hG1
              refine (spec_l20Cel.calls k g s0_0 p4 1 x q w0 W hG1.st hG1.bl A6.out).mono ?_
              rintro _ W2 ⟨rfl, hi, hb2, hk⟩
              exact ⟨_, rfl, rfl, ⟨hk.1, fun i h1 h2 _ => hk.2 i h1 h2 (by simp)⟩, hG1.call hi hb2 hk, hG1.blk hk hG2 (Nat.le_refl _), hG1.blk hk hG3 HGB.out, R_keepG hG4 hgw hk, fun h5 => S_keepG (hG5 h5) hgw hk, hG1.blk hk hG6 hwx, Nat.le_trans hG7 hk.1⟩
            refine alln_cons (EStepF.step [12] hst rfl fun b E a' W ha hG hP hoff hb => ?_) ?_
            · have s88 : a'.tmps[88]? = some (.agg (cellA x)) := slotv ha (hP 10 rfl).1 rfl (hP 10 rfl).2
              obtain ⟨hG1, hG2, hG3, hG4, hG5, hG6, hG7⟩ := hG
              refine ⟨_, .slice (some ⟨W.heap.size, 0, none⟩) 1 1, W.alloc (.cells (cellA x) 58), rfl, rfl, ?_, ⟨_, rfl, hG7, blk_new _ _⟩, KeepBut.of_grown (World.grownBy_alloc W _ _) g, hG1.alloc _, blk_alloc hG2 _, blk_alloc hG3 _, Kd.R_alloc hG4 _, fun h5 => Kd.S_alloc (hG5 h5) _, blk_alloc hG6 _, by simpa using Nat.le_succ_of_le hG7⟩
              clear ha hP hoff hb
              unfold cellA at s88 ⊢
              go_simp
              try rfl
            refine alln_cons (EStepF.stepO [12] hst rfl (.call { callee := .builtin .append, args := #[.tmp 86, .tmp 89], argTypes := #[35, 35] }) ⟨_, rfl, rfl, rfl⟩ fun b E a' W oi ho ha hG hP hoff hb => ?_) ?_
            · obtain ⟨C, hC1, hC2, hC3⟩ := (hP 11 rfl).2
              have s86 : a'.tmps[86]? = some vx := slotv ha (hP 8 rfl).1 rfl (hP 8 rfl).2
              have s89 : a'.tmps[89]? = some (.slice (some ⟨C, 0, none⟩) 1 1) := slotv ha (hP 11 rfl).1 rfl hC1
              obtain ⟨hG1, hG2, hG3, hG4, hG5, hG6, hG7⟩ := hG
              obtain ⟨oki, ce, hcl, hM, hcc, _, hoki, hH⟩ := Kd.S_elem (hG5 hb) z37 (a : Int) (by omega) haz
              rw [Int.toNat_natCast] at hM hcc
              obtain ⟨vx', rfl, hRx⟩ := k37_openM hM
              have hvx : vx' = vx := Option.some.inj ((hcc 0 vx' rfl).symm.trans ((blk_cell hG6 (a * 2)).trans HRX.out))
              subst hvx
              obtain ⟨v1, w1, hr, hR1, hgr, hat⟩ := exec_append_R (P := Tryd.prog) (oi := oi) (ev := a'.eval) k58 w.heap.size (.tmp 86) (.tmp 89) 35 58 (.agg (cellA z58)) 96 ho Tryd.underlying35 (by kernel_rfl) rfl (by decide) (by decide) vx' (paRow rows a).f0 x (cellA x).toList C (fun k => oki k ∨ True ∧ W.heap.size ≤ k) (fun _ => False) (by simp [Act.eval, Array.getD_eq_getD_getElem?, s86]) (by simp [Act.eval, Array.getD_eq_getD_getElem?, s89]) hC3 (k58_mkM W w.heap.size _ x) (fun _ h => h.elim) (fun _ hk => .inr ⟨trivial, hk⟩) (Kd.R_mono hRx (fun _ hk => .inl hk)) hG1.size (by have := HCL.out; omega)
              exact ⟨v1, w1, hr, ⟨_, Kd.H_grown (Kd.H_widen hH) hgr (fun k e_ => .inl (hRx.1 k e_)), hR1⟩, KeepBut.of_grown hgr g, hG1.grown hgr hxb, blk_grown hG2 hgr hnr, blk_grown hG3 hgr hng, Kd.R_mono (Kd.R_over' hG4 (Kd.R_typed hRx) (by decide) hgr) (fun _ _ => trivial), fun h8 => (by rw [up_self] at h8; cases h8), blk_grown hG6 hgr hnx, Nat.le_trans hG7 hgr.size⟩
            refine alln_cons (EStepF.pure fun b_ E a' W ha hG hP => ?_) ?_
            · have s79 : a'.tmps[79]? = some ((.slice (some ⟨X, 0, none⟩) rows.length cr)) := slotv ha (hP 1 rfl).1 rfl (hP 1 rfl).2
              have s80 : a'.tmps[80]? = some (.int .i64 a) := slotv ha (hP 2 rfl).1 rfl (hP 2 rfl).2
              exact ⟨_, .pointer (some ⟨X, a * 2, none⟩), rfl, rfl, by clear ha hG hP; go_simp; try first | rfl | exact i64_w _, rfl, hG⟩
            refine alln_cons (EStepF.pure fun b_ E a' W ha hG hP => ?_) alln_last
            · have s91 : a'.tmps[91]? = some (.pointer (some ⟨X, a * 2, none⟩)) := slotv ha (hP 13 rfl).1 rfl (hP 13 rfl).2
              exact ⟨_, .pointer (some ⟨X, a * 2, none⟩), rfl, rfl, by clear ha hG hP; go_simp; try first | rfl | exact i64_w _, rfl, hG⟩
          · intro b E a' W ha hG hP hb
            have s92 : a'.tmps[92]? = some (.pointer (some ⟨X, a * 2, none⟩)) := slotv ha (hP 14 rfl (by decide)).1 rfl (hP 14 rfl (by decide)).2
            obtain ⟨v1, hv1⟩ : ∃ v1, E 12 = v1 := ⟨_, rfl⟩
            have s90 : a'.tmps[90]? = some v1 := slotv ha (hP 12 rfl (by decide)).1 rfl hv1
            have hP12 : spec_l20Any.P17 w W3 (.slice (some ⟨X, 0, none⟩) rows.length cr) vx rows a x (spec_l20Any.V17 g tb X a (.slice (some ⟨X, 0, none⟩) rows.length cr) vx x) 12 v1 W := hv1 ▸ (hP 12 rfl (by decide)).2
            obtain ⟨oki, hH, hR1⟩ := hP12
            obtain ⟨hG1, hG2, hG3, hG4, hG5, hG6, hG7⟩ := hG
            rw [if_pos (hP 10 rfl (by decide)).1] at hG1
            have hval := Kd.R_val hR1
            obtain ⟨hS2, hg2⟩ := Kd.S_seg0 hH (by omega) haz (seg := [v1]) (j := 0) (show 1 ≤ 2 from by decide) (x' := ⟨(paRow rows a).f0 ++ [x], (paRow rows a).f1⟩) (k37_mkM _ _ _ ⟨(paRow rows a).f0 ++ [x], (paRow rows a).f1⟩ hR1) (fun _ hk => hk)
            rw [Int.toNat_natCast, show (k37).sz = 2 from rfl, Nat.add_zero] at hS2 hg2
            have hra : a * 2 < rc.size := by
              by_cases h_ : a * 2 < rc.size
              · exact h_
              · have := HRX.out
                rw [Array.getElem?_eq_none (by omega)] at this
                cases this
            have hxt : ∀ k, (Value.slice (some ⟨X, 0, none⟩) rows.length cr).ownBlock = some k → ∃ cells, W.heap[k]? = some (.cells cells 37 (0, 0)) := fun k hk => by
              have : X = k := by simpa [Value.ownBlock] using hk
              subst this
              exact ⟨_, hG6⟩
            have hxb2 : (W.grownBy (W.setCells X (a * 2) [v1]) (Value.slice (some ⟨X, 0, none⟩) rows.length cr).ownBlock) := hg2
            exact ⟨_, rfl, fun K hK => skip_ rfl rfl (run_blk 35 rfl v1 [v1] (by simp [Act.eval, Array.getD_eq_getD_getElem?, s92]) (by simp [Act.eval, Array.getD_eq_getD_getElem?, s90]) hval.1 (by kernel_rfl) (fun q hq => by rw [List.mem_singleton.1 hq]; exact hval.2) hG6 (by simp; omega)) (hK.out undef _ ⟨hG1.grown hg2 (fun k hk => by injection hk with hk; omega), blk_grown hG2 hg2 (fun e_ => by injection e_ with e_; subst e_; rw [hG6] at hG2; injection hG2 with hG2; injection hG2 with _ hG2; exact absurd hG2 (by decide)), blk_grown hG3 hg2 (fun e_ => by injection e_ with e_; subst e_; rw [hG6] at hG3; injection hG3 with hG3; injection hG3 with _ hG3; exact absurd hG3 (by decide)), Kd.R_mono (Kd.R_over' hG4 hxt (by decide) hxb2) (fun _ _ => trivial), hS2⟩)⟩
          · intro E b W hall hF
            obtain ⟨h1, h2, h3, h4, h5⟩ := hF
            rw [putSel_all (fun x hx => hall x.1 (by revert x; decide))]
            simp only [spec_l20Any.L17, List.foldl, Act.put, List.setIfInBounds_toArray, List.set_cons_zero, List.set_cons_succ]
            clear hall HQ HB HG HV HS hst hxb hxl hnr hng hnx HRX HRC
            have HQ := Aside0.mk h1
            have HB := Aside0.mk h2
            have HG := Aside0.mk h3
            have HV := Aside0.mk h4
            have HS := Aside0.mk h5
            clear h1 h2 h3 h4 h5
            go_wp2_with (first | (refine wpList_load_row rfl 26 _ rfl tb rfl 26 (tabA (.slice Ac cols.length cc) (.slice (some ⟨X, 0, none⟩) rows.length cr) hd ft gap) (0, 0) _ HG.out Tryd.underlying26 rfl (by kernel_rfl) ?_) | (refine wpList_put 26 _ _ rfl rfl w.heap.size 0 rfl (.agg (tabA (.slice Ac cols.length cc) (.slice (some ⟨X, 0, none⟩) rows.length cr) hd ft gap)) rfl 26 (tabA nilV nilV 0 0 0) (tabA (.slice Ac cols.length cc) (.slice (some ⟨X, 0, none⟩) rows.length cr) hd ft gap) HB.out (by kernel_rfl) rfl rfl rfl (fun W9 hp => ?_); have HF := Aside0.mk (HQ.out.put hp (Nat.le_refl _)); have HFB := Aside0.mk hp.blk; have HFV := Aside0.mk (R_put HV.out HB.out hp (by decide)); have HFS := Aside0.mk (S_put HS.out HB.out hp (by decide)); clear hp))
            exact bodyPost_ret (results_cell_row rfl _ _ w.heap.size 26 (tabA (.slice Ac cols.length cc) (.slice (some ⟨X, 0, none⟩) rows.length cr) hd ft gap) (0, 0) _ rfl HFB.out Tryd.underlying26 rfl (by kernel_rfl)) rfl ⟨_, _, rfl, HFV.out, HFS.out, HF.out.st, HF.out.bl, HF.out.kp⟩
        · cases h
      rw [if_neg d4] at h
      have b4 : (sw == 4) = false := by simpa using d4
      simp only [Option.some.injEq, Prod.mk.injEq] at h
      obtain ⟨rfl, rfl⟩ := h
      clear haz HA
      go_wp2
      go_loopg [] 10 (fun gg wr => ∃ (m : Nat) (vr : Value), 9 - (rows.length + m) ≤ gg ∧ Aside0 (m = 0 ∨ rows.length + m ≤ 9) ∧ Aside0 (Rds w0 w g s0_0 p4 wr) ∧ Aside0 (wr.heap[w.heap.size]? = some (.cells (tabA nilV nilV 0 0 0) 26 (0, 0))) ∧ Aside0 (wr.heap[tb]? = some (.cells (tabA (.slice Ac cols.length cc) vr hd ft gap) 26 (0, 0))) ∧ Aside0 (Kd.R k52 52 wr w.heap.size (fun _ => True) (.slice Ac cols.length cc) cols) ∧ Aside0 (Kd.S k37 37 wr w.heap.size (fun _ => True) vr (rows ++ List.replicate m ⟨[], false⟩)))
      case atStart => exact ⟨0, (.slice (some ⟨X, 0, none⟩) rows.length cr), by omega, ⟨.inl rfl⟩, HQ, HB, HG, HV, ⟨by simpa using HS.out⟩⟩
      case round =>
        clear HQ HB HG HV HS
        obtain ⟨m, vr, hgg, HM, HQ, HB, HG, HV, HS⟩ := hrel
        obtain ⟨Ar2, cr2, rfl⟩ := Kd.S_slice HS.out
        have hlen : (rows ++ List.replicate m (⟨[], false⟩ : S37)).length = rows.length + m := by simp
        obtain ⟨nn, hnn⟩ : ∃ nn, rows.length + m = nn := ⟨_, rfl⟩
        rw [hlen, hnn] at HG HS
        rw [hnn] at hlen hgg HM
        have HLEN := Aside0.mk hlen
        have HNN := Aside0.mk hnn
        clear hlen hnn
        have hc3 : wr.cell? ⟨tb, 3, none⟩ = some (.slice Ar2 nn cr2) := (blk_cell HG.out 3).trans rfl
        by_cases hlt : nn ≤ 8
        · have hltz : (nn : Int) ≤ 8 := by omega
          have d8 : decide ((nn : Int) ≤ 8) = true := decide_eq_true hltz
          have hXM := k37_mkM (wr.alloc (.cells #[nilV, .bool false] 37)) w.heap.size (fun _ => False) ⟨[], false⟩ (Kd.R_nil _ _ _ _ _)
          have HXM := Aside0.mk hXM
          have hnr := Kd.S_ne HS.out HB.out (by decide)
          have hnt := Kd.S_ne HS.out HG.out (by decide)
          clear hXM
          go_wp2_with (first | (refine wpList_append_S (P := Tryd.prog) k37 w.heap.size _ _ 24 37 (.agg #[nilV, .bool false]) 32 rfl rfl Tryd.underlying24 (by kernel_rfl) rfl (by decide) (by decide) (.slice Ar2 nn cr2) (rows ++ List.replicate m ⟨[], false⟩) ⟨[], false⟩ [nilV, .bool false] wr.heap.size (fun _ => True) (fun _ => False) rfl rfl (blk_new wr _) HXM.out (fun k hk => hk.elim) (fun _ _ => trivial) (Kd.S_mono (Kd.S_alloc HS.out _) (fun k hk => ⟨trivial, fun h_ => h_⟩)) (by have := HQ.out.size; simp; omega) (by rw [HLEN.out]; omega) (fun v1 w1 hS1 hg1 hat1 => ?_); have HQ7 := Aside0.mk ((HQ.out.alloc _).grown hg1 (fun k hk => Kd.S_base HS.out k hk)); have HB7 := Aside0.mk (blk_grown (blk_alloc HB.out _) hg1 hnr); have HG7 := Aside0.mk (blk_grown (blk_alloc HG.out _) hg1 hnt); have HV7 := Aside0.mk (Kd.R_over' (Kd.R_alloc HV.out _) (Kd.S_typed (Kd.S_alloc HS.out _)) (by decide) hg1); obtain ⟨X1, n1, c1, rfl⟩ : ∃ X1 n1 c1, v1 = .slice X1 n1 c1 := (Kd.S_slice hS1).imp fun _ h => ⟨_, h⟩; have HS7 := Aside0.mk hS1; clear hS1 hg1 hat1) | (refine wpList_put 24 _ _ rfl rfl tb 3 rfl (.slice X1 n1 c1) rfl 26 (tabA (.slice Ac cols.length cc) (.slice Ar2 nn cr2) hd ft gap) (tabA (.slice Ac cols.length cc) (.slice X1 n1 c1) hd ft gap) HG7.out (by kernel_rfl) rfl rfl rfl (fun W9 hp => ?_); have HQ9 := Aside0.mk (HQ7.out.put hp HGB.out); have HB9 := Aside0.mk (hp.keep HB7.out (Nat.ne_of_lt HGN.out)); have HG9 := Aside0.mk hp.blk; have HV9 := Aside0.mk (R_put (Kd.R_mono HV7.out (fun _ _ => trivial)) HG7.out hp (by decide)); have HS9 := Aside0.mk (S_put HS7.out HG7.out hp (by decide)); clear hp))
          go_roundg (9 - (nn + 1))
          case measure => omega
          case rel => exact ⟨m + 1, .slice X1 n1 c1, by have := HNN.out; omega, ⟨.inr (by have := HNN.out; omega)⟩, HQ9, HB9, HG9, HV9, ⟨by have h_ := HS9.out; rw [List.append_assoc, ← List.replicate_succ'] at h_; exact h_⟩⟩
        · have d8 : decide ((nn : Int) ≤ 8) = false := decide_eq_false (by omega)
          have hfill : rows ++ List.replicate m (⟨[], false⟩ : S37) = paFill rows := by
            unfold paFill
            rw [show m = 9 - rows.length by have := HM.out; have := HNN.out; omega]
          rw [hfill] at HS
          clear hfill hlt
          go_wp2_with (first | (refine wpList_load_row rfl 26 _ rfl tb rfl 26 (tabA (.slice Ac cols.length cc) (.slice Ar2 nn cr2) hd ft gap) (0, 0) _ HG.out Tryd.underlying26 rfl (by kernel_rfl) ?_) | (refine wpList_put 26 _ _ rfl rfl w.heap.size 0 rfl (.agg (tabA (.slice Ac cols.length cc) (.slice Ar2 nn cr2) hd ft gap)) rfl 26 (tabA nilV nilV 0 0 0) (tabA (.slice Ac cols.length cc) (.slice Ar2 nn cr2) hd ft gap) HB.out (by kernel_rfl) rfl rfl rfl (fun W9 hp => ?_); have HF := Aside0.mk (HQ.out.put hp (Nat.le_refl _)); have HFB := Aside0.mk hp.blk; have HFV := Aside0.mk (R_put HV.out HB.out hp (by decide)); have HFS := Aside0.mk (S_put HS.out HB.out hp (by decide)); clear hp))
          exact bodyPost_ret (results_cell_row rfl _ _ w.heap.size 26 (tabA (.slice Ac cols.length cc) (.slice Ar2 nn cr2) hd ft gap) (0, 0) _ rfl HFB.out Tryd.underlying26 rfl (by kernel_rfl)) rfl ⟨_, _, rfl, HFV.out, HFS.out, HF.out.st, HF.out.bl, HF.out.kp⟩
    · cases h
/-- The table's parts, one by one. -/
def spec_l20AnyTable.f (k : Nat) (s0_0 : List Int) (s0_1 a1 : Int) : Option (List S52 × Int × Int × List S37 × Int × Int) := (spec_l20Any.f k s0_0 s0_1 a1).bind fun t => some (t.1.cols, t.1.head, t.1.foot, t.1.rows, t.1.gap, t.2)
theorem spec_l20AnyTable.mono : ∀ a0 a1 a2 k, LeO (spec_l20AnyTable.f k a0 a1 a2) (spec_l20AnyTable.f (k + 1) a0 a1 a2) := fun _ _ _ k => by
  unfold spec_l20AnyTable.f
  exact LeO.bind (spec_l20Any.mono _ _ _ _) fun _ => LeO.refl _
theorem spec_l20AnyTable.calls (k : Nat) (g : Nat) (s0_0 : List Int) (s0_1 : Int) (a1 : Int) (r1 : List (S52)) (r2 : Int) (r3 : Int) (r4 : List (S37)) (r5 : Int) (r6 : Int) (w0 w : World) (hI : IsS65 w0 w g s0_0 s0_1) (hB : Below w0.heap.size w0 w) (h : spec_l20AnyTable.f k s0_0 s0_1 a1 = some (r1, r2, r3, r4, r5, r6)) :
    Calls Tryd.prog 15 #[.pointer (some ⟨g, 0, none⟩), .int .i64 a1] w fun e w' => ∃ v0_ v3_ : Value, e = .returned (.agg #[v0_, .int .i64 r2, .int .i64 r3, v3_, .int .i64 r5]) ∧ Kd.R k52 52 w' w.heap.size (fun _ => True) v0_ r1 ∧ Kd.S k37 37 w' w.heap.size (fun _ => True) v3_ r4 ∧ IsS65 w0 w' g s0_0 r6 ∧ Below w0.heap.size w0 w' ∧ KeepBut w w' g none := by
  unfold spec_l20AnyTable.f at h
  obtain ⟨⟨t, q⟩, h1, h⟩ := Option.bind_eq_some_iff.1 h
  simp only [Option.some.injEq, Prod.mk.injEq] at h
  obtain ⟨rfl, rfl, rfl, rfl, rfl, rfl⟩ := h
  exact spec_l20Any.calls k g s0_0 s0_1 a1 t q w0 w hI hB h1

/-! ### spec_DrawEdtRow: function 4 -/
def spec_DrawEdtRow.f (k : Nat) (l0 : List Int) : Option ((List (S52)) × Int × Int × (List (S37)) × Int × Int) := (spec_l20Open.f l0).bind fun bt236 => ((spec_l20AnyTable.f k bt236.1 bt236.2 16).bind fun bt239 => ((spec_l20Rd_pick.f k bt236.1 bt239.2.2.2.2.2 8).bind fun bt249 => (some (bt239.1, bt239.2.1, bt239.2.2.1, bt239.2.2.2.1, bt239.2.2.2.2.1, wrap64 (bt249.1 - 1)))))
theorem spec_DrawEdtRow.mono : ∀ a0 k, LeO (spec_DrawEdtRow.f k a0) (spec_DrawEdtRow.f (k + 1) a0) := by
  intro a0 k
  unfold spec_DrawEdtRow.f
  repeat' first
      | (with_reducible exact spec_l20AnyTable.mono _ _ _ _)
      | (with_reducible exact spec_l20Rd_pick.mono _ _ _ _)
      | (with_reducible exact LeO.refl _)
      | (with_reducible exact LeO.none _)
      | (with_reducible refine LeO.ite ?_ ?_)
      | (with_reducible refine LeO.bind ?_ (fun _ => ?_))
      | exact spec_l20AnyTable.mono _ _ _ _
      | exact spec_l20Rd_pick.mono _ _ _ _
      | exact LeO.none _
      | refine LeO.ite ?_ ?_
      | refine LeO.bind ?_ (fun _ => ?_)
set_option maxHeartbeats 8000000 in
set_option maxRecDepth 100000 in
theorem spec_DrawEdtRow.calls (k : Nat) (A0 : Option Addr) (c0 : Nat) (l0 : List Int) (r1 : List (S52)) (r2 : Int) (r3 : Int) (r4 : List (S37)) (r5 : Int) (r6 : Int) (w : World) (hr0 : Kd.C (Kd.int .u8) w A0 l0.length l0) (hc0 : l0.length ≤ c0) (h : spec_DrawEdtRow.f k l0 = some (r1, r2, r3, r4, r5, r6)) :
    Calls Tryd.prog 4 #[.slice A0 l0.length c0] w fun e w' => ∃ v0_ v3_ : Value, e = .returned (.tuple #[.agg #[v0_, .int .i64 r2, .int .i64 r3, v3_, .int .i64 r5], .int .i64 r6]) ∧ Kd.R k52 52 w' w.heap.size (fun _ => True) v0_ r1 ∧ Kd.S k37 37 w' w.heap.size (fun _ => True) v3_ r4 ∧ Below w.heap.size w w' := by
  have hu26 := Tryd.underlying26
  have HR0 := Aside0.mk hr0
  have HC0 := Aside0.mk hc0
  clear hr0 hc0
  have HB := Aside0.mk (Below.refl w.heap.size w)
  have H : ((spec_l20Open.f l0).bind fun bt236 => ((spec_l20AnyTable.f k bt236.1 bt236.2 16).bind fun bt239 => ((spec_l20Rd_pick.f k bt236.1 bt239.2.2.2.2.2 8).bind fun bt249 => (some (bt239.1, bt239.2.1, bt239.2.2.1, bt239.2.2.2.1, bt239.2.2.2.2.1, wrap64 (bt249.1 - 1)))))) = some (r1, r2, r3, r4, r5, r6) := h
  clear h
  replace H := Option.bind_eq_some_iff.mp H
  obtain ⟨⟨t236, t237⟩, A20, H⟩ := H
  replace H : ((spec_l20AnyTable.f k t236 t237 16).bind fun bt239 => ((spec_l20Rd_pick.f k t236 bt239.2.2.2.2.2 8).bind fun bt249 => (some (bt239.1, bt239.2.1, bt239.2.2.1, bt239.2.2.2.1, bt239.2.2.2.2.1, wrap64 (bt249.1 - 1))))) = some (r1, r2, r3, r4, r5, r6) := H
  have A2 := Aside0.mk A20
  clear A20
  replace H := Option.bind_eq_some_iff.mp H
  obtain ⟨⟨t239, t242, t243, t244, t247, t248⟩, A30, H⟩ := H
  replace H : ((spec_l20Rd_pick.f k t236 t248 8).bind fun bt249 => (some (t239, t242, t243, t244, t247, wrap64 (bt249.1 - 1)))) = some (r1, r2, r3, r4, r5, r6) := H
  have A3 := Aside0.mk A30
  clear A30
  replace H := Option.bind_eq_some_iff.mp H
  obtain ⟨⟨t249, t250⟩, A40, H⟩ := H
  replace H : (some (t239, t242, t243, t244, t247, wrap64 (t249 - 1))) = some (r1, r2, r3, r4, r5, r6) := H
  have A4 := Aside0.mk A40
  clear A40
  simp only [Option.some.injEq, Prod.mk.injEq] at H
  obtain ⟨rfl, rfl, rfl, rfl, rfl, rfl⟩ := H
  go_enter Tryd.func4, Tryd.ntmps4
  go_wp2_with (first | ((with_reducible refine gate_dst (N := 2) rfl ?_); refine box_event ?hg (N := 2) ?hd (cs := #[.slice none 0 0, .int .i64 0, .int .i64 0, .slice none 0 0, .int .i64 0]) (t := 26) ?hr ?_; (case hd => rfl); (case hg => rfl); (case hr => first | (go_simp; done) | (go_simp; rfl)); intro gb235 hg w5 hbox hb; have n0_ := Aside0.mk (below_step (by repeat (first | (with_reducible first | exact HB.out | apply below_alloc | apply pw_below_drewN | apply below_drew1) | exact HB.out)) hb); have n1_ := Aside0.mk (hbox); have n2_ := Aside0.mk ((by rw [hg]; exact (below_size (by repeat (first | (with_reducible first | exact HB.out | apply below_alloc | apply pw_below_drewN | apply below_drew1) | exact HB.out))) : w.heap.size ≤ gb235)); have n3_ := Aside0.mk ((by rw [hg]; exact (below_size (by repeat (first | (with_reducible first | exact HB.out | apply below_alloc | apply pw_below_drewN | apply below_drew1) | exact HB.out))) : w.heap.size ≤ gb235)); clear HB; have HB := n0_; have BK235 := n1_; have GW235 := n2_; have GE235 := n3_; clear n0_ n1_ n2_ n3_; clear hb hbox hg) | ((with_reducible refine gate_callee (f := 14) rfl ?_); refine goesL_ (some 6) rfl rfl Tryd.func14 (by kernel_rfl) rfl #[.slice A0 l0.length c0] rfl (by (try simp only [List.map_toArray, List.map_cons, List.map_nil]); first | done | rfl | (simp only [List.length_drop, List.length_take]; rfl)) ?_; (with_reducible refine (spec_l20Open.calls _ _ l0 t236 t237 w _ ?side1 ?side2 ?side3 A2.out).mono ?_); (case side1 => repeat (first | (with_reducible first | exact HB.out | apply below_alloc | apply pw_below_drewN | apply below_drew1 | refine below_set ?_ GE235.out) | exact HB.out)); (case side2 => exact HR0.out); (case side3 => exact HC0.out); rintro e w6 ⟨g238, rfl, hi, hb, hb2⟩; refine ⟨_, rfl, ?_⟩; have n0_ := Aside0.mk (blk_below (g := gb235) (o := .cells #[.slice none 0 0, .int .i64 0, .int .i64 0, .slice none 0 0, .int .i64 0] 26 (0, 0)) (by (with_reducible repeat (first | refine blk_drewN ?_ _ | refine blk_drew ?_ | refine blk_alloc ?_ _)); exact BK235.out) hb2); have n1_ := Aside0.mk (hb); have n2_ := Aside0.mk (hi); have n3_ := Aside0.mk (IsS65.ne_blk hi (blk_below (g := gb235) (o := .cells #[.slice none 0 0, .int .i64 0, .int .i64 0, .slice none 0 0, .int .i64 0] 26 (0, 0)) (by (with_reducible repeat (first | refine blk_drewN ?_ _ | refine blk_drew ?_ | refine blk_alloc ?_ _)); exact BK235.out) hb2) (by decide)); have n4_ := Aside0.mk (Ne.symm (IsS65.ne_blk hi (blk_below (g := gb235) (o := .cells #[.slice none 0 0, .int .i64 0, .int .i64 0, .slice none 0 0, .int .i64 0] 26 (0, 0)) (by (with_reducible repeat (first | refine blk_drewN ?_ _ | refine blk_drew ?_ | refine blk_alloc ?_ _)); exact BK235.out) hb2) (by decide))); clear BK235; clear HB; have BK235 := n0_; have HB := n1_; have HI238 := n2_; have NB238_235 := n3_; have NB235_238 := n4_; clear n0_ n1_ n2_ n3_ n4_; (try clear hb); (try clear hb2); (try clear hk); (try clear hi)) | ((with_reducible refine gate_callee (f := 15) rfl ?_); refine goesL_ (some 8) rfl rfl Tryd.func15 (by kernel_rfl) rfl #[.pointer (some ⟨g238, 0, none⟩), .int .i64 16] rfl (by (try simp only [List.map_toArray, List.map_cons, List.map_nil]); first | done | rfl | (simp only [List.length_drop, List.length_take]; rfl)) ?_; (with_reducible refine (spec_l20AnyTable.calls k g238 t236 t237 16 t239 t242 t243 t244 t247 t248 w _ ?side1 ?side2 A3.out).mono ?_); (case side1 => repeat (first | (with_reducible first | exact HI238.out | apply IsS65.alloc | apply IsS65.drewN | apply IsS65.drew | apply IsS65.set_1 | refine IsS65.far ?_ NB238_235.out _) | exact HI238.out)); (case side2 => repeat (first | (with_reducible first | exact HB.out | apply below_alloc | apply pw_below_drewN | apply below_drew1 | refine below_set ?_ (IsS65.ge HI238.out) | refine below_set ?_ GE235.out) | exact HB.out)); rintro e w7 ⟨v240, v245, rfl, ho0, ho1, hi, hb, hk⟩; refine ⟨_, rfl, ?_⟩; have n0_ := Aside0.mk (KeepBut.blk hk (g' := gb235) (o := .cells #[.slice none 0 0, .int .i64 0, .int .i64 0, .slice none 0 0, .int .i64 0] 26 (0, 0)) (by (with_reducible repeat (first | refine blk_drewN ?_ _ | refine blk_drew ?_ | refine blk_alloc ?_ _)); exact BK235.out) NB235_238.out (by simp)); have n1_ := Aside0.mk (Kd.R_lower ho0 (below_size (by repeat (first | (with_reducible first | exact HB.out | apply below_alloc | apply pw_below_drewN | apply below_drew1 | refine below_set ?_ (IsS65.ge HI238.out) | refine below_set ?_ GE235.out) | exact HB.out)))); have n2_ := Aside0.mk (Kd.S_lower ho1 (below_size (by repeat (first | (with_reducible first | exact HB.out | apply below_alloc | apply pw_below_drewN | apply below_drew1 | refine below_set ?_ (IsS65.ge HI238.out) | refine below_set ?_ GE235.out) | exact HB.out)))); have n3_ := Aside0.mk (hb); have n4_ := Aside0.mk (hi); clear BK235; clear HB; clear HI238; have BK235 := n0_; have HO241 := n1_; have HO246 := n2_; have HB := n3_; have HI238 := n4_; clear n0_ n1_ n2_ n3_ n4_; (try clear hb); (try clear hb2); (try clear hk); (try clear hi); (try clear ho0); (try clear ho1)) | ((with_reducible refine gate_callee (f := 16) rfl ?_); refine goesL_ (some 10) rfl rfl Tryd.func16 (by kernel_rfl) rfl #[.pointer (some ⟨g238, 0, none⟩), .int .i64 8] rfl (by (try simp only [List.map_toArray, List.map_cons, List.map_nil]); first | done | rfl | (simp only [List.length_drop, List.length_take]; rfl)) ?_; (with_reducible refine (spec_l20Rd_pick.calls k g238 t236 t248 8 t249 t250 w _ ?side1 ?side2 A4.out).mono ?_); (case side1 => repeat (first | (with_reducible first | exact HI238.out | apply IsS65.alloc | apply IsS65.drewN | apply IsS65.drew | apply IsS65.set_1 | refine IsS65.far ?_ NB238_235.out _) | exact HI238.out)); (case side2 => repeat (first | (with_reducible first | exact HB.out | apply below_alloc | apply pw_below_drewN | apply below_drew1 | refine below_set ?_ (IsS65.ge HI238.out) | refine below_set ?_ GE235.out) | exact HB.out)); rintro e w8 ⟨rfl, hi, hb, hk⟩; refine ⟨_, rfl, ?_⟩; have n0_ := Aside0.mk (KeepBut.blk hk (g' := gb235) (o := .cells #[.slice none 0 0, .int .i64 0, .int .i64 0, .slice none 0 0, .int .i64 0] 26 (0, 0)) (by (with_reducible repeat (first | refine blk_drewN ?_ _ | refine blk_drew ?_ | refine blk_alloc ?_ _)); exact BK235.out) NB235_238.out (by simp)); have n1_ := Aside0.mk (Kd.R_mono (Kd.R_keep (IsS65.apart (show IsS65 w _ g238 t236 t248 from by repeat (first | (with_reducible first | exact HI238.out | apply IsS65.alloc | apply IsS65.drewN | apply IsS65.drew | apply IsS65.set_1 | refine IsS65.far ?_ NB238_235.out _) | exact HI238.out)) (by (with_reducible repeat (first | apply Kd.R_alloc | apply Kd.R_drewN | apply Kd.R_drew)); exact HO241.out) (by decide)) hk (fun _ h => h.2)) (fun _ h => h.1)); have n2_ := Aside0.mk (Kd.S_mono (Kd.S_keep (IsS65.apartS (show IsS65 w _ g238 t236 t248 from by repeat (first | (with_reducible first | exact HI238.out | apply IsS65.alloc | apply IsS65.drewN | apply IsS65.drew | apply IsS65.set_1 | refine IsS65.far ?_ NB238_235.out _) | exact HI238.out)) (by (with_reducible repeat (first | apply Kd.S_alloc | apply Kd.S_drewN | apply Kd.S_drew)); exact HO246.out) (by decide)) hk (fun _ h => h.2)) (fun _ h => h.1)); have n3_ := Aside0.mk (hb); have n4_ := Aside0.mk (hi); clear BK235; clear HO241; clear HO246; clear HB; clear HI238; have BK235 := n0_; have HO241 := n1_; have HO246 := n2_; have HB := n3_; have HI238 := n4_; clear n0_ n1_ n2_ n3_ n4_; (try clear hb); (try clear hb2); (try clear hk); (try clear hi); obtain ⟨Ao9, co9, eo9⟩ := Kd.R_slice HO241.out; subst eo9; have hnb10 := NB235_238.out; have hnc10 := NB238_235.out; have hcz11_0 : w8.cell? ⟨gb235, 0, none⟩ = some (.slice none 0 0) := (blk_cell BK235.out 0).trans rfl; have hcz11_1 : w8.cell? ⟨gb235, 1, none⟩ = some (.int .i64 0) := (blk_cell BK235.out 1).trans rfl; have hcz11_2 : w8.cell? ⟨gb235, 2, none⟩ = some (.int .i64 0) := (blk_cell BK235.out 2).trans rfl; have hcz11_3 : w8.cell? ⟨gb235, 3, none⟩ = some (.slice none 0 0) := (blk_cell BK235.out 3).trans rfl; have hcz11_4 : w8.cell? ⟨gb235, 4, none⟩ = some (.int .i64 0) := (blk_cell BK235.out 4).trans rfl; have hfz11_0 := blk_frozen BK235.out 0; have hfz11_1 := blk_frozen BK235.out 1; have hfz11_2 := blk_frozen BK235.out 2; have hfz11_3 := blk_frozen BK235.out 3; have hfz11_4 := blk_frozen BK235.out 4; obtain ⟨Ao12, co12, eo12⟩ := Kd.S_slice HO246.out; subst eo12))
  refine bodyPost_ret (results_ct rfl _ _ gb235 26 #[.slice Ao9 t239.length co9, .int .i64 t242, .int .i64 t243, .slice Ao12 t244.length co12, .int .i64 t247] (0, 0) _ rfl (by (with_reducible repeat (first | refine blk_drewN ?_ _ | refine blk_drew ?_ | refine blk_alloc ?_ _)); refine blk_put (cs := #[.slice Ao9 t239.length co9, .int .i64 t242, .int .i64 t243, .slice Ao12 t244.length co12, .int .i64 0]) ?_ 4 _ rfl; (with_reducible repeat (first | refine blk_drewN ?_ _ | refine blk_drew ?_ | refine blk_alloc ?_ _)); refine blk_put (cs := #[.slice Ao9 t239.length co9, .int .i64 t242, .int .i64 t243, .slice none 0 0, .int .i64 0]) ?_ 3 _ rfl; (with_reducible repeat (first | refine blk_drewN ?_ _ | refine blk_drew ?_ | refine blk_alloc ?_ _)); refine blk_put (cs := #[.slice Ao9 t239.length co9, .int .i64 t242, .int .i64 0, .slice none 0 0, .int .i64 0]) ?_ 2 _ rfl; (with_reducible repeat (first | refine blk_drewN ?_ _ | refine blk_drew ?_ | refine blk_alloc ?_ _)); refine blk_put (cs := #[.slice Ao9 t239.length co9, .int .i64 0, .int .i64 0, .slice none 0 0, .int .i64 0]) ?_ 1 _ rfl; (with_reducible repeat (first | refine blk_drewN ?_ _ | refine blk_drew ?_ | refine blk_alloc ?_ _)); refine blk_put (cs := #[.slice none 0 0, .int .i64 0, .int .i64 0, .slice none 0 0, .int .i64 0]) ?_ 0 _ rfl; (with_reducible repeat (first | refine blk_drewN ?_ _ | refine blk_drew ?_ | refine blk_alloc ?_ _)); exact BK235.out) Tryd.underlying26 rfl (by kernel_rfl)) rfl ?_
  exact ⟨_, _, by first | rfl | (simp [errW_none, errW_some] <;> rfl) | (simp [*, errW_none, errW_some] <;> rfl), by (with_reducible repeat (first | apply Kd.R_alloc | apply Kd.R_drewN | apply Kd.R_drew)); exact Kd.R_mono (Kd.R_far (p := ⟨gb235, 4, none⟩) (Kd.R_far (p := ⟨gb235, 3, none⟩) (Kd.R_far (p := ⟨gb235, 2, none⟩) (Kd.R_far (p := ⟨gb235, 1, none⟩) (Kd.R_far (p := ⟨gb235, 0, none⟩) (Kd.R_types HO241.out BK235.out (by decide)) (fun _ hk => hk.2) (.slice Ao9 t239.length co9)) (fun _ hk => hk.2) (.int .i64 t242)) (fun _ hk => hk.2) (.int .i64 t243)) (fun _ hk => hk.2) (.slice Ao12 t244.length co12)) (fun _ hk => hk.2) (.int .i64 t247)) (fun _ hk => trivial), by (with_reducible repeat (first | apply Kd.S_alloc | apply Kd.S_drewN | apply Kd.S_drew)); exact Kd.S_mono (Kd.S_far (p := ⟨gb235, 4, none⟩) (Kd.S_far (p := ⟨gb235, 3, none⟩) (Kd.S_far (p := ⟨gb235, 2, none⟩) (Kd.S_far (p := ⟨gb235, 1, none⟩) (Kd.S_far (p := ⟨gb235, 0, none⟩) (Kd.S_types HO246.out BK235.out (by decide)) (fun _ hk => hk.2) (.slice Ao9 t239.length co9)) (fun _ hk => hk.2) (.int .i64 t242)) (fun _ hk => hk.2) (.int .i64 t243)) (fun _ hk => hk.2) (.slice Ao12 t244.length co12)) (fun _ hk => hk.2) (.int .i64 t247)) (fun _ hk => trivial), by repeat (first | (with_reducible first | exact HB.out | apply below_alloc | apply pw_below_drewN | apply below_drew1 | refine below_set ?_ (IsS65.ge HI238.out) | refine below_set ?_ GE235.out) | exact HB.out)⟩


end Go.Proofs.YtaihfkjfbjcmhaaDoor.Q
