-- Told by a program of this session (uprint.py, ulay.py).
import Derived.Test.YtaihfkjfbjcmhabDoorQ0
import Derived.Test.YtaihfkjfbjcmhabDoorReg
import Derived.Test.YtaihfkjfbjcmhabDoorQimplin
import Derived.Test.YtaihfkjfbjcmhabDoorQspecl20Cell
import Derived.Test.YtaihfkjfbjcmhabDoorQspecTblOk
namespace Go.Proofs.YtaihfkjfbjcmhabDoor.Q
open Go.RowKit Go.Proofs.YtaihfkjfbjcmhabDoorW.PrintWords Go.Proofs.YtaihfkjfbjcmhabDoorW.PrintLast Go.Proofs.YtaihfkjfbjcmhabDoorW.PrintMore Go.Proofs.YtaihfkjfbjcmhabDoor.Reg Go.Proofs.YtaihfkjfbjcmhabDoor.Box
attribute [local go_sem] max2_int min2_int max_two min_two max_three min_three max_four min_four
set_option linter.unusedVariables false
set_option linter.unusedSimpArgs false

/-! ### spec_l20Table: function 38 (by hand) -/
/-- A table. -/
structure PTab where
  cols : List S57
  head : Int
  foot : Int
  rows : List S42
  gap : Int
def ppParts : List Int := [10, 25, 50, 100]
def ppColOf (a b : Int) : List S57 := [⟨0, 0⟩, ⟨0, 0⟩, ⟨1, a⟩, ⟨2, ppParts.getD b.toNat 0⟩]
def ppNoTab : PTab := ⟨[], 0, 0, [⟨[], false⟩], 0⟩
def spec_l20Tab.lc (k : Nat) (s : List Int) : Nat → List S57 → Int → Option (List S57 × Int)
  | 0, xs, p => some (xs, p)
  | n + 1, xs, p => (spec_l20Rd_pick.f k s p 30).bind fun a => (spec_l20Rd_pick.f k s a.2 4).bind fun b => (spec_l20Rd_pick.f k s b.2 4).bind fun c =>
    if 0 ≤ b.1 ∧ b.1 < 4 ∧ 0 ≤ c.1 ∧ c.1 < 4 then spec_l20Tab.lc k s n (xs ++ [(ppColOf a.1 b.1).getD c.1.toNat z57]) c.2 else none
def spec_l20Tab.ls (k : Nat) (s : List Int) : Nat → List S30 → Int → Option (List S30 × Int)
  | 0, xs, p => some (xs, p)
  | n + 1, xs, p => (spec_l20Cel.f k s p 99999).bind fun c => spec_l20Tab.ls k s n (xs ++ [c.1]) c.2
def spec_l20Tab.lr (k : Nat) (s : List Int) : Nat → List S42 → Int → Option (List S42 × Int)
  | 0, xs, p => some (xs, p)
  | n + 1, xs, p => (spec_l20Rd_pick.f k s p 4).bind fun wh => (spec_l20Rd_pick.f k s wh.2 5).bind fun m => if 0 ≤ m.1 ∧ m.1 < 1000 then (spec_l20Tab.ls k s m.1.toNat [] m.2).bind fun cs => spec_l20Tab.lr k s n (xs ++ [⟨cs.1, wh.1 == 0⟩]) cs.2 else none
/-- The table, if it is ok; else one without cells. -/
def spec_l20Tab.fin (k : Nat) (t : PTab) (p : Int) : Option (PTab × Int) := (spec_TblOk.f k t.cols t.head t.foot t.rows t.gap).bind fun b => some (if b = true then t else ppNoTab, p)
def spec_l20Tab.f (k : Nat) (s : List Int) (p : Int) : Option (PTab × Int) := (spec_l20Rd_pick.f k s p 4).bind fun gap => (spec_l20Rd_pick.f k s gap.2 6).bind fun nc => if 0 ≤ nc.1 ∧ nc.1 < 1000 then (spec_l20Tab.lc k s nc.1.toNat [] nc.2).bind fun cols =>
  (spec_l20Rd_pick.f k s cols.2 6).bind fun nr => if 0 ≤ nr.1 ∧ nr.1 < 1000 then (spec_l20Tab.lr k s (nr.1.toNat + 1) [] nr.2).bind fun rows => (spec_l20Rd_pick.f k s rows.2 2).bind fun hf =>
    if hf.1 = 0 then (spec_l20Rd_pick.f k s hf.2 2).bind fun hd => (spec_l20Rd_pick.f k s hd.2 2).bind fun ft => if 0 ≤ hd.1 ∧ hd.1 < 1000 ∧ 0 ≤ ft.1 ∧ ft.1 < 1000 then spec_l20Tab.fin k ⟨cols.1, hd.1, if nr.1 + 1 < hd.1 + ft.1 then 0 else ft.1, rows.1, gap.1⟩ ft.2 else none
    else spec_l20Tab.fin k ⟨cols.1, 0, 0, rows.1, gap.1⟩ hf.2 else none else none
theorem spec_l20Tab.mono_c (k : Nat) (s : List Int) : ∀ n xs p, LeO (spec_l20Tab.lc k s n xs p) (spec_l20Tab.lc (k + 1) s n xs p)
  | 0, _, _ => LeO.refl _
  | n + 1, xs, p => by
    unfold spec_l20Tab.lc
    exact LeO.bind (spec_l20Rd_pick.mono _ _ _ _) fun _ => LeO.bind (spec_l20Rd_pick.mono _ _ _ _) fun _ => LeO.bind (spec_l20Rd_pick.mono _ _ _ _) fun _ => LeO.ite (spec_l20Tab.mono_c k s n _ _) (LeO.none _)
theorem spec_l20Tab.mono_s (k : Nat) (s : List Int) : ∀ n xs p, LeO (spec_l20Tab.ls k s n xs p) (spec_l20Tab.ls (k + 1) s n xs p)
  | 0, _, _ => LeO.refl _
  | n + 1, xs, p => by
    unfold spec_l20Tab.ls
    exact LeO.bind (spec_l20Cel.mono _ _ _ _) fun _ => spec_l20Tab.mono_s k s n _ _
theorem spec_l20Tab.mono_r (k : Nat) (s : List Int) : ∀ n xs p, LeO (spec_l20Tab.lr k s n xs p) (spec_l20Tab.lr (k + 1) s n xs p)
  | 0, _, _ => LeO.refl _
  | n + 1, xs, p => by
    unfold spec_l20Tab.lr
    exact LeO.bind (spec_l20Rd_pick.mono _ _ _ _) fun _ => LeO.bind (spec_l20Rd_pick.mono _ _ _ _) fun _ => LeO.ite (LeO.bind (spec_l20Tab.mono_s k s _ _ _) fun _ => spec_l20Tab.mono_r k s n _ _) (LeO.none _)
theorem spec_l20Tab.mono_f (k : Nat) (t : PTab) (p : Int) : LeO (spec_l20Tab.fin k t p) (spec_l20Tab.fin (k + 1) t p) := by
  unfold spec_l20Tab.fin
  exact LeO.bind (spec_TblOk.mono _ _ _ _ _ _) fun _ => LeO.refl _
theorem spec_l20Tab.mono : ∀ a0 a1 k, LeO (spec_l20Tab.f k a0 a1) (spec_l20Tab.f (k + 1) a0 a1) := fun _ _ k => by
  unfold spec_l20Tab.f
  exact LeO.bind (spec_l20Rd_pick.mono _ _ _ _) fun _ => LeO.bind (spec_l20Rd_pick.mono _ _ _ _) fun _ => LeO.ite (LeO.bind (spec_l20Tab.mono_c _ _ _ _ _) fun _ => LeO.bind (spec_l20Rd_pick.mono _ _ _ _) fun _ => LeO.ite (LeO.bind (spec_l20Tab.mono_r _ _ _ _ _) fun _ => LeO.bind (spec_l20Rd_pick.mono _ _ _ _) fun _ => LeO.ite (LeO.bind (spec_l20Rd_pick.mono _ _ _ _) fun _ => LeO.bind (spec_l20Rd_pick.mono _ _ _ _) fun _ => LeO.ite (spec_l20Tab.mono_f _ _ _) (LeO.none _)) (spec_l20Tab.mono_f _ _ _)) (LeO.none _)) (LeO.none _)
def spec_l20Tab.T5 : Bool × List (List Nat × List Nat) := (true, [([], []), ([0], [0]), ([], []), ([], []), ([], []), ([4], [4]), ([5], [5]), ([], []), ([], []), ([8, 5], [8]), ([7, 9], [7, 9]), ([10], [10]), ([11], [11]), ([2, 3, 6, 12], [2, 3, 6, 12]), ([], []), ([14, 9], [14]), ([13, 15], [13, 15]), ([16], [16]), ([17], [17]), ([1, 18, 15], [1, 18]), ([0, 1, 2, 3, 4, 5, 6, 7, 8, 9, 10, 11, 12, 13, 14, 15, 16, 17, 18, 19], []), ([20, 19, 19, 0, 1, 2, 3, 4, 5, 6, 7, 8, 9, 10, 11, 12, 13, 14, 15, 16, 17, 18, 19], [19, 20])])
def spec_l20Tab.B5 : List Nat := [0, 1, 0, 0, 0, 16, 48, 0, 0, 304, 944, 1968, 4016, 8188, 0, 17200, 65532, 131068, 262140, 524287, 1048575, 2097151]
def spec_l20Tab.L5 : List (Nat × Tmp) := [(0, 18), (1, 19), (2, 20), (3, 21), (4, 22), (5, 23), (6, 24), (7, 25), (8, 26), (9, 27), (10, 28), (11, 29), (12, 30), (13, 31), (14, 32), (15, 33), (16, 34), (17, 35), (18, 36), (19, 37), (20, 38)]
def spec_l20Tab.O5 : List Nat := [0, 1, 2, 3, 4, 5, 6, 7, 8, 9, 10, 11, 12, 13, 14, 15, 16, 17, 18, 19, 20, 21]
theorem spec_l20Tab.tab5 : rtab .any (opsOf Tryd.f38 5) = spec_l20Tab.T5 := by kernel_rfl
theorem spec_l20Tab.bits5 : waitsOk spec_l20Tab.T5.2 spec_l20Tab.B5 = true := by kernel_rfl
theorem spec_l20Tab.base5 : baseOk spec_l20Tab.T5.2 spec_l20Tab.O5 = true := by kernel_rfl
theorem spec_l20Tab.lof5 : (lof spec_l20Tab.T5.2.length spec_l20Tab.O5 (fun _ => false) == List.replicate spec_l20Tab.T5.2.length false && spec_l20Tab.O5.length == spec_l20Tab.T5.2.length) = true := by kernel_rfl
theorem spec_l20Tab.ents5 : chkL (opsOf Tryd.f38 5) spec_l20Tab.O5 spec_l20Tab.L5 = true := by kernel_rfl
theorem spec_l20Tab.last5 : lastOk spec_l20Tab.B5 spec_l20Tab.O5 21 = true := by kernel_rfl
def spec_l20Tab.T14 : Bool × List (List Nat × List Nat) := (true, [([], []), ([0], [0]), ([], []), ([2], [2]), ([3], [3]), ([1, 4, 3], [1, 4]), ([0, 1, 2, 3, 4, 5], []), ([6, 5, 5, 0, 1, 2, 3, 4, 5], [5, 6])])
def spec_l20Tab.B14 : List Nat := [0, 1, 0, 4, 12, 31, 63, 127]
def spec_l20Tab.L14 : List (Nat × Tmp) := [(0, 57), (1, 58), (2, 59), (3, 60), (4, 61), (5, 62), (6, 63)]
def spec_l20Tab.O14 : List Nat := [0, 1, 2, 3, 4, 5, 6, 7]
theorem spec_l20Tab.tab14 : rtab .any (opsOf Tryd.f38 14) = spec_l20Tab.T14 := by kernel_rfl
theorem spec_l20Tab.bits14 : waitsOk spec_l20Tab.T14.2 spec_l20Tab.B14 = true := by kernel_rfl
theorem spec_l20Tab.base14 : baseOk spec_l20Tab.T14.2 spec_l20Tab.O14 = true := by kernel_rfl
theorem spec_l20Tab.lof14 : (lof spec_l20Tab.T14.2.length spec_l20Tab.O14 (fun _ => false) == List.replicate spec_l20Tab.T14.2.length false && spec_l20Tab.O14.length == spec_l20Tab.T14.2.length) = true := by kernel_rfl
theorem spec_l20Tab.ents14 : chkL (opsOf Tryd.f38 14) spec_l20Tab.O14 spec_l20Tab.L14 = true := by kernel_rfl
theorem spec_l20Tab.last14 : lastOk spec_l20Tab.B14 spec_l20Tab.O14 7 = true := by kernel_rfl
def spec_l20Tab.P14 (base : Nat) (wr : World) (ys : List S30) (c : S30) (V : Nat → Value) : Nat → Value → World → Prop
  | 5, v, W => Kd.R k30 30 W base (fun _ => True) v (ys ++ [c])
  | j, v, W => PhiB (fun j => if j = 4 then some (fun C => .slice (some ⟨C, 0, none⟩) 1 1) else none) (fun _ => .cells (cellA c) 30 (0, 0)) V wr.heap.size j v W
def spec_l20Tab.V14 (vx : Value) (g xb : Nat) (c : S30) : Nat → Value
  | 0 | 6 => .pointer (some ⟨xb, 0, none⟩)
  | 1 => vx
  | 2 => .pointer (some ⟨g, 0, none⟩)
  | _ => .agg (cellA c)
def spec_l20Tab.P5 (w wr : World) (xs : List S57) (x : S57) (F : Nat → Option (Nat → Value)) (O : Nat → Obj) (V : Nat → Value) : Nat → Value → World → Prop
  | 19, v, W => Kd.R k57 57 W w.heap.size (fun _ => True) v (xs ++ [x])
  | j, v, W => PhiB F O V wr.heap.size j v W
/-- A table's values, as they lie. -/
abbrev tabA (vc vr : Value) (hd ft gap : Int) : Array Value := #[vc, .int .i64 hd, .int .i64 ft, vr, .int .i64 gap]
def nilV : Value := .slice none 0 0
def spec_l20Tab.F5 (b c : Nat) : Nat → Option (Nat → Value)
  | 7 => some (fun C => .slice (some ⟨C, 0, none⟩) 4 4)
  | 10 => some (fun C => .pointer (some ⟨C, b, none⟩))
  | 13 => some (fun C => .slice (some ⟨C, 0, none⟩) 4 4)
  | 16 => some (fun C => .pointer (some ⟨C, c * 2, none⟩))
  | 18 => some (fun C => .slice (some ⟨C, 0, none⟩) 1 1)
  | _ => none
def spec_l20Tab.W5 (a q : Int) (x : S57) : Nat → Obj
  | 7 | 10 => .cells (ppParts.map (Value.int .i64)).toArray 3 (0, 0)
  | 13 | 16 => .cells #[.int .i64 0, .int .i64 0, .int .i64 0, .int .i64 0, .int .i64 1, .int .i64 a, .int .i64 2, .int .i64 q] 57 (0, 0)
  | _ => .cells #[.int .i64 x.f0, .int .i64 x.f1] 57 (0, 0)
def spec_l20Tab.V5 (vc : Value) (g tb : Nat) (a q : Int) (b c : Nat) (x : S57) : Nat → Value
  | 0 | 20 => .pointer (some ⟨tb, 0, none⟩)
  | 1 => vc
  | 2 | 3 => .agg #[.int .i64 0, .int .i64 0]
  | 4 | 8 | 14 => .pointer (some ⟨g, 0, none⟩)
  | 5 => .int .i64 a
  | 6 => .agg #[.int .i64 1, .int .i64 a]
  | 9 => .int .i64 b
  | 11 => .int .i64 q
  | 12 => .agg #[.int .i64 2, .int .i64 q]
  | 15 => .int .i64 c
  | _ => .agg #[.int .i64 x.f0, .int .i64 x.f1]
theorem ppColOf_at (a q : Int) {c : Nat} (h : c < 4) : ∃ x : S57, ([⟨0, 0⟩, ⟨0, 0⟩, ⟨1, a⟩, ⟨2, q⟩] : List S57).getD c z57 = x ∧ (#[Value.int .i64 0, .int .i64 0, .int .i64 0, .int .i64 0, .int .i64 1, .int .i64 a, .int .i64 2, .int .i64 q])[c * 2]? = some (.int .i64 x.f0) ∧ (#[Value.int .i64 0, .int .i64 0, .int .i64 0, .int .i64 0, .int .i64 1, .int .i64 a, .int .i64 2, .int .i64 q])[c * 2 + 1]? = some (.int .i64 x.f1) := by
  match c, h with
  | 0, _ => exact ⟨⟨0, 0⟩, rfl, rfl, rfl⟩
  | 1, _ => exact ⟨⟨0, 0⟩, rfl, rfl, rfl⟩
  | 2, _ => exact ⟨⟨1, a⟩, rfl, rfl, rfl⟩
  | 3, _ => exact ⟨⟨2, q⟩, rfl, rfl, rfl⟩
theorem S_one {α : Type} (d : Kd α) {W : World} {C base e : Nat} {ok okp : Nat → Prop} {p : α} {cs : List Value} (h : W.heap[C]? = some (.cells cs.toArray e (0, 0))) (hb : base ≤ C) (hok : ok C) (hM : d.M W base okp p cs) (hokp : ∀ k, okp k → ok k ∧ k ≠ C) : Kd.S d e W base ok (.slice (some ⟨C, 0, none⟩) 1 1) [p] := by
  have hl := d.K_len (d.K_of_M hM)
  have ht : cs.take d.sz = cs := List.take_of_length_le (Nat.le_of_eq hl)
  have hl1 : cs.length = 1 * d.sz := by rw [Nat.one_mul]; exact hl
  have ht1 : cs.toArray.toList.take (1 * d.sz) = cs := by rw [Nat.one_mul]; exact ht
  refine ⟨fun _ => 0, ?_, cs, ⟨hl1, .inr ⟨C, 1, cs.toArray, rfl, hb, h, Nat.le_refl _, by decide, hl1, ht1⟩⟩, hl1, ?_⟩
  · intro k hk
    have : C = k := by simpa [Value.ownBlock] using hk
    exact this ▸ hok
  · intro j q hj
    cases j with
    | zero =>
      have hq : (p, 0) = q := by simpa using hj
      subst hq
      have e1 : (cs.drop (0 * d.sz)).take d.sz = cs := by rw [Nat.zero_mul, List.drop_zero]; exact ht
      show d.M W base _ p ((cs.drop (0 * d.sz)).take d.sz)
      rw [e1]
      exact d.M_mono (fun k hk => ⟨⟨(hokp k hk).1, by simp only [Value.ownBlock]; intro e; injection e with e; exact (hokp k hk).2 e⟩, rfl⟩) hM
    | succ j => simp at hj
theorem Rds.below {w0 w W W' : World} {g : Nat} {s : List Int} {p : Int} (h : Rds w0 w g s p W) (hb : Below W.heap.size W W') : Rds w0 w g s p W' := h.grown (row := none) ⟨hb.os, hb.tape, hb.output, hb.size, fun k hk _ => hb.block k hk⟩ (fun _ hk => by cases hk)
set_option maxHeartbeats 4000000 in
set_option maxRecDepth 100000 in
theorem spec_l20Tab.calls (k : Nat) (g : Nat) (s0_0 : List Int) (s0_1 : Int) (t : PTab) (r2 : Int) (w0 w : World) (hI : IsS68 w0 w g s0_0 s0_1) (hB : Below w0.heap.size w0 w) (h : spec_l20Tab.f k s0_0 s0_1 = some (t, r2)) :
    Calls Tryd.prog 38 #[.pointer (some ⟨g, 0, none⟩)] w fun e w' => ∃ vc vr : Value, e = .returned (.agg #[vc, .int .i64 t.head, .int .i64 t.foot, vr, .int .i64 t.gap]) ∧ Kd.R k57 57 w' w.heap.size (fun _ => True) vc t.cols ∧ Kd.S k42 42 w' w.heap.size (fun _ => True) vr t.rows ∧ IsS68 w0 w' g s0_0 r2 ∧ Below w0.heap.size w0 w' ∧ KeepBut w w' g none := by
  have HR := Aside0.mk (Rds.new hI hB)
  clear hI hB
  unfold spec_l20Tab.f at h
  rw [Option.bind_eq_some_iff] at h
  obtain ⟨⟨gap, p1⟩, h1, h⟩ := h
  have A1 := Aside0.mk h1
  clear h1
  rw [Option.bind_eq_some_iff] at h
  obtain ⟨⟨nc, p2⟩, h1, h⟩ := h
  have A2 := Aside0.mk h1
  clear h1
  simp only at h A2
  split at h
  · rename_i hnc
    obtain ⟨nc, rfl⟩ : ∃ n : Nat, nc = n := ⟨nc.toNat, by omega⟩
    rw [Int.toNat_natCast] at h
    have hnc1 := Aside0.mk (show nc < 1000 by omega)
    clear hnc
    rw [Option.bind_eq_some_iff] at h
    obtain ⟨⟨cols, p3⟩, h1, h⟩ := h
    have A3 := Aside0.mk h1
    have HH := Aside0.mk h
    clear h1 h
    go_enter Tryd.func38, Tryd.ntmps38
    go_upto_region 2 with (go_at_call 15; (with_reducible refine (spec_l20Rd_pick.calls k g s0_0 s0_1 4 gap p1 w0 _ (IsS68.alloc HR.out.st _) (below_alloc HR.out.bl _) A1.out).mono ?_); rintro e_ W1 ⟨rfl, hi, hb, hk⟩; have HR1 := Aside0.mk ((HR.out.alloc _).call hi hb hk); have RB1 := Aside0.mk ((HR.out.alloc _).blk hk (blk_new w _) (Nat.le_refl _)); clear hi hb hk)
    have HR2 := Aside0.mk (HR1.out.alloc (.cells (tabA nilV nilV 0 0 gap) 26))
    have RB2 := Aside0.mk (blk_alloc RB1.out (.cells (tabA nilV nilV 0 0 gap) 26))
    have TB2 := Aside0.mk (blk_new W1 (.cells (tabA nilV nilV 0 0 gap) 26))
    have HT := Aside0.mk (show w.heap.size < W1.heap.size from blk_lt RB1.out)
    obtain ⟨W2, hW2⟩ : ∃ W2, W1.alloc (.cells (tabA nilV nilV 0 0 gap) 26) = W2 := ⟨_, rfl⟩
    obtain ⟨tb, htb⟩ : ∃ tb, W1.heap.size = tb := ⟨_, rfl⟩
    show Code.wp Tryd.prog _ _ _ (W1.alloc (.cells (tabA nilV nilV 0 0 gap) 26))
    rw [hW2] at HR2 RB2 TB2 ⊢
    rw [htb] at TB2 HT ⊢
    clear hW2 htb HR1 RB1
    go_upto_region 6 with (go_at_call 15; (with_reducible refine (spec_l20Rd_pick.calls k g s0_0 p1 6 nc p2 w0 _ HR2.out.st HR2.out.bl A2.out).mono ?_); rintro e_ W3 ⟨rfl, hi, hb, hk⟩; have HR3 := Aside0.mk (HR2.out.call hi hb hk); have RB3 := Aside0.mk (HR2.out.blk hk RB2.out (Nat.le_refl _)); have TB3 := Aside0.mk (HR2.out.blk hk TB2.out (Nat.le_of_lt HT.out)); clear hi hb hk)
    go_loopg [4] nc (fun gg s4 wr => ∃ (m : Nat) (xs : List S57) (q : Int) (vc : Value), m ≤ gg ∧ s4 = .int .i64 m ∧ m < 1000 ∧ Aside0 (xs.length + m < 1000) ∧ Aside0 (spec_l20Tab.lc k s0_0 m xs q = some (cols, p3)) ∧ Aside0 (Rds w0 w g s0_0 q wr) ∧ Aside0 (wr.heap[w.heap.size]? = some (.cells (tabA nilV nilV 0 0 0) 26 (0, 0))) ∧ Aside0 (wr.heap[tb]? = some (.cells (tabA vc nilV 0 0 gap) 26 (0, 0))) ∧ Aside0 (Kd.R k57 57 wr w.heap.size (fun _ => True) vc xs))
    case atStart => exact ⟨nc, [], p2, nilV, Nat.le_refl _, rfl, hnc1.out, ⟨by have := hnc1.out; simpa using this⟩, A3, HR3, RB3, TB3, ⟨Kd.R_nil _ _ _ _ _⟩⟩
    case round =>
      obtain ⟨m, xs, q, vc, hg, rfl, hm, HX, HL, HQ, HRB, HTB, HRC⟩ := hrel
      cases m with
      | zero =>
        have hl := HL.out
        unfold spec_l20Tab.lc at hl
        injection Option.some.inj hl with e1 e2
        replace e1 := e1.symm
        subst e1 e2
        clear hl HL hg A3 HX
        have h := HH.out
        rw [Option.bind_eq_some_iff] at h
        obtain ⟨⟨nr, p4⟩, h1, h⟩ := h
        have A4 := Aside0.mk h1
        clear h1 HH
        simp only at h A4
        split at h
        · rename_i hnr
          obtain ⟨nr, rfl⟩ : ∃ n : Nat, nr = n := ⟨nr.toNat, by omega⟩
          rw [Int.toNat_natCast] at h
          have hnr1 := Aside0.mk (show nr < 1000 by omega)
          have hnrz : (nr : Int) < 1000 := by omega
          clear hnr
          rw [Option.bind_eq_some_iff] at h
          obtain ⟨⟨rows, p5⟩, h1, h⟩ := h
          have A5 := Aside0.mk h1
          have HH := Aside0.mk h
          clear h1 h
          have hlt : ¬ (0 : Int) < ((0 : Nat) : Int) := by omega
          go_wp2_with (go_at_call 15; (with_reducible refine (spec_l20Rd_pick.calls k g s0_0 q 6 nr p4 w0 _ HQ.out.st HQ.out.bl A4.out).mono ?_); rintro e_ W4 ⟨rfl, hi, hb, hk⟩; have HR4 := Aside0.mk (HQ.out.call hi hb hk); have RB4 := Aside0.mk (HQ.out.blk hk HRB.out (Nat.le_refl _)); have TB4 := Aside0.mk (HQ.out.blk hk HTB.out (Nat.le_of_lt HT.out)); have RC4 := Aside0.mk (R_keepG HRC.out HR.out.lt hk); clear hi hb hk)
          clear HQ HRB HTB HRC
          go_loopg [6] (nr + 1) (fun gg s6 wr => ∃ (kk m : Nat) (xs : List S42) (q : Int) (vr : Value), m ≤ gg ∧ kk + m = nr + 1 ∧ s6 = .int .i64 kk ∧ Aside0 (xs.length = kk) ∧ Aside0 (spec_l20Tab.lr k s0_0 m xs q = some (rows, p5)) ∧ Aside0 (Rds w0 w g s0_0 q wr) ∧ Aside0 (wr.heap[w.heap.size]? = some (.cells (tabA nilV nilV 0 0 0) 26 (0, 0))) ∧ Aside0 (wr.heap[tb]? = some (.cells (tabA vc vr 0 0 gap) 26 (0, 0))) ∧ Aside0 (Kd.R k57 57 wr w.heap.size (fun _ => True) vc cols) ∧ Aside0 (Kd.S k42 42 wr w.heap.size (fun _ => True) vr xs))
          case atStart => exact ⟨0, nr + 1, [], p4, nilV, Nat.le_refl _, by omega, rfl, ⟨rfl⟩, A5, HR4, RB4, TB4, RC4, ⟨Kd.S_nil _ _ _ _ _⟩⟩
          case round =>
            obtain ⟨kk, m, xs, q, vr, hg, hkm, rfl, HX, HL, HQ, HRB, HTB, HRC, HSR⟩ := hrel
            cases m with
            | zero =>
              have hl := HL.out
              unfold spec_l20Tab.lr at hl
              injection Option.some.inj hl with e1 e2
              replace e1 := e1.symm
              subst e1 e2
              obtain ⟨Ac, cc, rfl⟩ := Kd.R_slice HRC.out
              obtain ⟨Ar, cr, rfl⟩ := Kd.S_slice HSR.out
              have h := HH.out
              clear hl HL hg A5 HR4 RB4 TB4 RC4 HH HX
              rw [Option.bind_eq_some_iff] at h
              obtain ⟨⟨hf, p6⟩, h1, h⟩ := h
              have A6 := Aside0.mk h1
              clear h1
              simp only at h A6
              have hltz : ¬ (kk : Int) < 1 + (nr : Int) := by omega
              split at h
              · rename_i hf0
                subst hf0
                rw [Option.bind_eq_some_iff] at h
                obtain ⟨⟨hd, p7⟩, h1, h⟩ := h
                have A7 := Aside0.mk h1
                clear h1
                rw [Option.bind_eq_some_iff] at h
                obtain ⟨⟨ft, p8⟩, h1, h⟩ := h
                have A8 := Aside0.mk h1
                clear h1
                simp only at h A7 A8
                split at h
                · rename_i hh
                  obtain ⟨hd0, hd1, ft0, ft1⟩ := hh
                  by_cases hgt : (nr : Int) + 1 < hd + ft
                  · rw [if_pos hgt] at h
                    have hgt2 : 1 + (nr : Int) < hd + ft := by omega
                    clear hgt
                    go_upto_region 21 with (first | (go_at_call 15; (with_reducible refine (spec_l20Rd_pick.calls k g s0_0 q 2 0 p6 w0 _ HQ.out.st HQ.out.bl A6.out).mono ?_); rintro e_ W6 ⟨rfl, hi, hb, hk⟩; replace HRB := Aside0.mk (HQ.out.blk hk HRB.out (Nat.le_refl _)); replace HTB := Aside0.mk (HQ.out.blk hk HTB.out (Nat.le_of_lt HT.out)); replace HQ := Aside0.mk (HQ.out.call hi hb hk); replace HRC := Aside0.mk (R_keepG HRC.out HR.out.lt hk); replace HSR := Aside0.mk (S_keepG HSR.out HR.out.lt hk); clear hi hb hk) | (go_at_call 15; (with_reducible refine (spec_l20Rd_pick.calls k g s0_0 p6 2 hd p7 w0 _ HQ.out.st HQ.out.bl A7.out).mono ?_); rintro e_ W6 ⟨rfl, hi, hb, hk⟩; replace HRB := Aside0.mk (HQ.out.blk hk HRB.out (Nat.le_refl _)); replace HTB := Aside0.mk (HQ.out.blk hk HTB.out (Nat.le_of_lt HT.out)); replace HQ := Aside0.mk (HQ.out.call hi hb hk); replace HRC := Aside0.mk (R_keepG HRC.out HR.out.lt hk); replace HSR := Aside0.mk (S_keepG HSR.out HR.out.lt hk); clear hi hb hk) | (go_at_call 15; (with_reducible refine (spec_l20Rd_pick.calls k g s0_0 p7 2 ft p8 w0 _ HQ.out.st HQ.out.bl A8.out).mono ?_); rintro e_ W6 ⟨rfl, hi, hb, hk⟩; replace HRB := Aside0.mk (HQ.out.blk hk HRB.out (Nat.le_refl _)); replace HTB := Aside0.mk (HQ.out.blk hk HTB.out (Nat.le_of_lt HT.out)); replace HQ := Aside0.mk (HQ.out.call hi hb hk); replace HRC := Aside0.mk (R_keepG HRC.out HR.out.lt hk); replace HSR := Aside0.mk (S_keepG HSR.out HR.out.lt hk); clear hi hb hk) | (refine wpList_put 3 _ _ rfl rfl tb 1 rfl (.int .i64 hd) rfl 26 (tabA (.slice Ac cols.length cc) (.slice Ar rows.length cr) 0 0 gap) (tabA (.slice Ac cols.length cc) (.slice Ar rows.length cr) hd 0 gap) HTB.out (by kernel_rfl) rfl rfl rfl (fun W9 hp => ?_); replace HQ := Aside0.mk (HQ.out.put hp (Nat.le_of_lt HT.out)); replace HRB := Aside0.mk (hp.keep HRB.out (Nat.ne_of_lt HT.out)); replace HRC := Aside0.mk (R_put HRC.out HTB.out hp (by decide)); replace HSR := Aside0.mk (S_put HSR.out HTB.out hp (by decide)); replace HTB := Aside0.mk hp.blk; clear hp) | (refine wpList_put 3 _ _ rfl rfl tb 2 rfl (.int .i64 ft) rfl 26 (tabA (.slice Ac cols.length cc) (.slice Ar rows.length cr) hd 0 gap) (tabA (.slice Ac cols.length cc) (.slice Ar rows.length cr) hd ft gap) HTB.out (by kernel_rfl) rfl rfl rfl (fun W9 hp => ?_); replace HQ := Aside0.mk (HQ.out.put hp (Nat.le_of_lt HT.out)); replace HRB := Aside0.mk (hp.keep HRB.out (Nat.ne_of_lt HT.out)); replace HRC := Aside0.mk (R_put HRC.out HTB.out hp (by decide)); replace HSR := Aside0.mk (S_put HSR.out HTB.out hp (by decide)); replace HTB := Aside0.mk hp.blk; clear hp; have hc1 : W9.cell? ⟨tb, 1, none⟩ = some (.int .i64 hd) := (blk_cell HTB.out 1).trans rfl; have hc2 : W9.cell? ⟨tb, 2, none⟩ = some (.int .i64 ft) := (blk_cell HTB.out 2).trans rfl) | (refine wpList_put 3 _ _ rfl rfl tb 2 rfl (.int .i64 0) rfl 26 (tabA (.slice Ac cols.length cc) (.slice Ar rows.length cr) hd ft gap) (tabA (.slice Ac cols.length cc) (.slice Ar rows.length cr) hd 0 gap) HTB.out (by kernel_rfl) rfl rfl rfl (fun W9 hp => ?_); replace HQ := Aside0.mk (HQ.out.put hp (Nat.le_of_lt HT.out)); replace HRB := Aside0.mk (hp.keep HRB.out (Nat.ne_of_lt HT.out)); replace HRC := Aside0.mk (R_put HRC.out HTB.out hp (by decide)); replace HSR := Aside0.mk (S_put HSR.out HTB.out hp (by decide)); replace HTB := Aside0.mk hp.blk; clear hp))
                    unfold spec_l20Tab.fin at h
                    rw [Option.bind_eq_some_iff] at h
                    obtain ⟨b, h1, h⟩ := h
                    have AT := Aside0.mk h1
                    clear h1
                    injection Option.some.inj h with e1 e2
                    subst e2
                    clear h
                    cases b
                    · replace e1 : ppNoTab = t := e1
                      subst e1
                      go_wp2_with (first | (refine wpList_load_row rfl 26 _ rfl tb rfl 26 (tabA (.slice Ac cols.length cc) (.slice Ar rows.length cr) hd 0 gap) (0, 0) _ HTB.out Tryd.underlying26 rfl (by kernel_rfl) ?_) | (go_at_call 8; (with_reducible refine (spec_TblOk.calls k Ac cc cols hd 0 Ar cr rows gap false _ (Kd.R_reads' HRC.out).2.2 (Kd.R_reads' HRC.out).2.1 (Kd.S_reads' HSR.out).2.2 (Kd.S_reads' HSR.out).2.1 AT.out).mono ?_); rintro e_ Wt ⟨rfl, hb⟩; replace HQ := Aside0.mk (HQ.out.below hb); replace HRB := Aside0.mk ((hb.block _ (blk_lt HRB.out)).trans HRB.out); clear hb) | (refine wpList_put 26 _ _ rfl rfl w.heap.size 0 rfl (.agg (tabA nilV (.slice (some ⟨Wt.heap.size, 0, none⟩) 1 1) 0 0 0)) rfl 26 (tabA nilV nilV 0 0 0) (tabA nilV (.slice (some ⟨Wt.heap.size, 0, none⟩) 1 1) 0 0 0) (blk_alloc HRB.out _) (by kernel_rfl) rfl rfl rfl (fun W9 hp => ?_); have HF := Aside0.mk ((HQ.out.alloc _).put hp (Nat.le_refl _)); have HFB := Aside0.mk hp.blk; have HFC := Aside0.mk (hp.keep (blk_new Wt _) (Nat.ne_of_gt (blk_lt HRB.out))); clear hp))
                      exact bodyPost_ret (results_cell_row rfl _ _ w.heap.size 26 (tabA nilV (.slice (some ⟨Wt.heap.size, 0, none⟩) 1 1) 0 0 0) (0, 0) _ rfl HFB.out Tryd.underlying26 rfl (by kernel_rfl)) rfl ⟨_, _, rfl, Kd.R_nil _ _ _ _ _, S_one k42 HFC.out HQ.out.size trivial (k42_mkM _ _ (fun _ => False) ⟨[], false⟩ (Kd.R_nil _ _ _ _ _)) (fun _ hk => hk.elim), HF.out.st, HF.out.bl, HF.out.kp⟩
                    · replace e1 : PTab.mk cols hd 0 rows gap = t := e1
                      subst e1
                      go_wp2_with (first | (refine wpList_load_row rfl 26 _ rfl tb rfl 26 (tabA (.slice Ac cols.length cc) (.slice Ar rows.length cr) hd 0 gap) (0, 0) _ HTB.out Tryd.underlying26 rfl (by kernel_rfl) ?_) | (go_at_call 8; (with_reducible refine (spec_TblOk.calls k Ac cc cols hd 0 Ar cr rows gap true _ (Kd.R_reads' HRC.out).2.2 (Kd.R_reads' HRC.out).2.1 (Kd.S_reads' HSR.out).2.2 (Kd.S_reads' HSR.out).2.1 AT.out).mono ?_); rintro e_ Wt ⟨rfl, hb⟩; replace HQ := Aside0.mk (HQ.out.below hb); replace HRB := Aside0.mk ((hb.block _ (blk_lt HRB.out)).trans HRB.out); replace HTB := Aside0.mk ((hb.block _ (blk_lt HTB.out)).trans HTB.out); replace HRC := Aside0.mk (Kd.R_below HRC.out hb); replace HSR := Aside0.mk (Kd.S_below HSR.out hb); clear hb) | (refine wpList_put 26 _ _ rfl rfl w.heap.size 0 rfl (.agg (tabA (.slice Ac cols.length cc) (.slice Ar rows.length cr) hd 0 gap)) rfl 26 (tabA nilV nilV 0 0 0) (tabA (.slice Ac cols.length cc) (.slice Ar rows.length cr) hd 0 gap) HRB.out (by kernel_rfl) rfl rfl rfl (fun W9 hp => ?_); have HF := Aside0.mk (HQ.out.put hp (Nat.le_refl _)); have HFB := Aside0.mk hp.blk; have HFC := Aside0.mk (R_put HRC.out HRB.out hp (by decide)); have HFS := Aside0.mk (S_put HSR.out HRB.out hp (by decide)); clear hp))
                      exact bodyPost_ret (results_cell_row rfl _ _ w.heap.size 26 (tabA (.slice Ac cols.length cc) (.slice Ar rows.length cr) hd 0 gap) (0, 0) _ rfl HFB.out Tryd.underlying26 rfl (by kernel_rfl)) rfl ⟨_, _, rfl, Kd.R_mono HFC.out (fun _ _ => trivial), Kd.S_mono HFS.out (fun _ _ => trivial), HF.out.st, HF.out.bl, HF.out.kp⟩
                  · rw [if_neg hgt] at h
                    have hgt2 : ¬ 1 + (nr : Int) < hd + ft := by omega
                    clear hgt
                    go_upto_region 21 with (first | (go_at_call 15; (with_reducible refine (spec_l20Rd_pick.calls k g s0_0 q 2 0 p6 w0 _ HQ.out.st HQ.out.bl A6.out).mono ?_); rintro e_ W6 ⟨rfl, hi, hb, hk⟩; replace HRB := Aside0.mk (HQ.out.blk hk HRB.out (Nat.le_refl _)); replace HTB := Aside0.mk (HQ.out.blk hk HTB.out (Nat.le_of_lt HT.out)); replace HQ := Aside0.mk (HQ.out.call hi hb hk); replace HRC := Aside0.mk (R_keepG HRC.out HR.out.lt hk); replace HSR := Aside0.mk (S_keepG HSR.out HR.out.lt hk); clear hi hb hk) | (go_at_call 15; (with_reducible refine (spec_l20Rd_pick.calls k g s0_0 p6 2 hd p7 w0 _ HQ.out.st HQ.out.bl A7.out).mono ?_); rintro e_ W6 ⟨rfl, hi, hb, hk⟩; replace HRB := Aside0.mk (HQ.out.blk hk HRB.out (Nat.le_refl _)); replace HTB := Aside0.mk (HQ.out.blk hk HTB.out (Nat.le_of_lt HT.out)); replace HQ := Aside0.mk (HQ.out.call hi hb hk); replace HRC := Aside0.mk (R_keepG HRC.out HR.out.lt hk); replace HSR := Aside0.mk (S_keepG HSR.out HR.out.lt hk); clear hi hb hk) | (go_at_call 15; (with_reducible refine (spec_l20Rd_pick.calls k g s0_0 p7 2 ft p8 w0 _ HQ.out.st HQ.out.bl A8.out).mono ?_); rintro e_ W6 ⟨rfl, hi, hb, hk⟩; replace HRB := Aside0.mk (HQ.out.blk hk HRB.out (Nat.le_refl _)); replace HTB := Aside0.mk (HQ.out.blk hk HTB.out (Nat.le_of_lt HT.out)); replace HQ := Aside0.mk (HQ.out.call hi hb hk); replace HRC := Aside0.mk (R_keepG HRC.out HR.out.lt hk); replace HSR := Aside0.mk (S_keepG HSR.out HR.out.lt hk); clear hi hb hk) | (refine wpList_put 3 _ _ rfl rfl tb 1 rfl (.int .i64 hd) rfl 26 (tabA (.slice Ac cols.length cc) (.slice Ar rows.length cr) 0 0 gap) (tabA (.slice Ac cols.length cc) (.slice Ar rows.length cr) hd 0 gap) HTB.out (by kernel_rfl) rfl rfl rfl (fun W9 hp => ?_); replace HQ := Aside0.mk (HQ.out.put hp (Nat.le_of_lt HT.out)); replace HRB := Aside0.mk (hp.keep HRB.out (Nat.ne_of_lt HT.out)); replace HRC := Aside0.mk (R_put HRC.out HTB.out hp (by decide)); replace HSR := Aside0.mk (S_put HSR.out HTB.out hp (by decide)); replace HTB := Aside0.mk hp.blk; clear hp) | (refine wpList_put 3 _ _ rfl rfl tb 2 rfl (.int .i64 ft) rfl 26 (tabA (.slice Ac cols.length cc) (.slice Ar rows.length cr) hd 0 gap) (tabA (.slice Ac cols.length cc) (.slice Ar rows.length cr) hd ft gap) HTB.out (by kernel_rfl) rfl rfl rfl (fun W9 hp => ?_); replace HQ := Aside0.mk (HQ.out.put hp (Nat.le_of_lt HT.out)); replace HRB := Aside0.mk (hp.keep HRB.out (Nat.ne_of_lt HT.out)); replace HRC := Aside0.mk (R_put HRC.out HTB.out hp (by decide)); replace HSR := Aside0.mk (S_put HSR.out HTB.out hp (by decide)); replace HTB := Aside0.mk hp.blk; clear hp; have hc1 : W9.cell? ⟨tb, 1, none⟩ = some (.int .i64 hd) := (blk_cell HTB.out 1).trans rfl; have hc2 : W9.cell? ⟨tb, 2, none⟩ = some (.int .i64 ft) := (blk_cell HTB.out 2).trans rfl))
                    unfold spec_l20Tab.fin at h
                    rw [Option.bind_eq_some_iff] at h
                    obtain ⟨b, h1, h⟩ := h
                    have AT := Aside0.mk h1
                    clear h1
                    injection Option.some.inj h with e1 e2
                    subst e2
                    clear h
                    cases b
                    · replace e1 : ppNoTab = t := e1
                      subst e1
                      go_wp2_with (first | (refine wpList_load_row rfl 26 _ rfl tb rfl 26 (tabA (.slice Ac cols.length cc) (.slice Ar rows.length cr) hd ft gap) (0, 0) _ HTB.out Tryd.underlying26 rfl (by kernel_rfl) ?_) | (go_at_call 8; (with_reducible refine (spec_TblOk.calls k Ac cc cols hd ft Ar cr rows gap false _ (Kd.R_reads' HRC.out).2.2 (Kd.R_reads' HRC.out).2.1 (Kd.S_reads' HSR.out).2.2 (Kd.S_reads' HSR.out).2.1 AT.out).mono ?_); rintro e_ Wt ⟨rfl, hb⟩; replace HQ := Aside0.mk (HQ.out.below hb); replace HRB := Aside0.mk ((hb.block _ (blk_lt HRB.out)).trans HRB.out); clear hb) | (refine wpList_put 26 _ _ rfl rfl w.heap.size 0 rfl (.agg (tabA nilV (.slice (some ⟨Wt.heap.size, 0, none⟩) 1 1) 0 0 0)) rfl 26 (tabA nilV nilV 0 0 0) (tabA nilV (.slice (some ⟨Wt.heap.size, 0, none⟩) 1 1) 0 0 0) (blk_alloc HRB.out _) (by kernel_rfl) rfl rfl rfl (fun W9 hp => ?_); have HF := Aside0.mk ((HQ.out.alloc _).put hp (Nat.le_refl _)); have HFB := Aside0.mk hp.blk; have HFC := Aside0.mk (hp.keep (blk_new Wt _) (Nat.ne_of_gt (blk_lt HRB.out))); clear hp))
                      exact bodyPost_ret (results_cell_row rfl _ _ w.heap.size 26 (tabA nilV (.slice (some ⟨Wt.heap.size, 0, none⟩) 1 1) 0 0 0) (0, 0) _ rfl HFB.out Tryd.underlying26 rfl (by kernel_rfl)) rfl ⟨_, _, rfl, Kd.R_nil _ _ _ _ _, S_one k42 HFC.out HQ.out.size trivial (k42_mkM _ _ (fun _ => False) ⟨[], false⟩ (Kd.R_nil _ _ _ _ _)) (fun _ hk => hk.elim), HF.out.st, HF.out.bl, HF.out.kp⟩
                    · replace e1 : PTab.mk cols hd ft rows gap = t := e1
                      subst e1
                      go_wp2_with (first | (refine wpList_load_row rfl 26 _ rfl tb rfl 26 (tabA (.slice Ac cols.length cc) (.slice Ar rows.length cr) hd ft gap) (0, 0) _ HTB.out Tryd.underlying26 rfl (by kernel_rfl) ?_) | (go_at_call 8; (with_reducible refine (spec_TblOk.calls k Ac cc cols hd ft Ar cr rows gap true _ (Kd.R_reads' HRC.out).2.2 (Kd.R_reads' HRC.out).2.1 (Kd.S_reads' HSR.out).2.2 (Kd.S_reads' HSR.out).2.1 AT.out).mono ?_); rintro e_ Wt ⟨rfl, hb⟩; replace HQ := Aside0.mk (HQ.out.below hb); replace HRB := Aside0.mk ((hb.block _ (blk_lt HRB.out)).trans HRB.out); replace HTB := Aside0.mk ((hb.block _ (blk_lt HTB.out)).trans HTB.out); replace HRC := Aside0.mk (Kd.R_below HRC.out hb); replace HSR := Aside0.mk (Kd.S_below HSR.out hb); clear hb) | (refine wpList_put 26 _ _ rfl rfl w.heap.size 0 rfl (.agg (tabA (.slice Ac cols.length cc) (.slice Ar rows.length cr) hd ft gap)) rfl 26 (tabA nilV nilV 0 0 0) (tabA (.slice Ac cols.length cc) (.slice Ar rows.length cr) hd ft gap) HRB.out (by kernel_rfl) rfl rfl rfl (fun W9 hp => ?_); have HF := Aside0.mk (HQ.out.put hp (Nat.le_refl _)); have HFB := Aside0.mk hp.blk; have HFC := Aside0.mk (R_put HRC.out HRB.out hp (by decide)); have HFS := Aside0.mk (S_put HSR.out HRB.out hp (by decide)); clear hp))
                      exact bodyPost_ret (results_cell_row rfl _ _ w.heap.size 26 (tabA (.slice Ac cols.length cc) (.slice Ar rows.length cr) hd ft gap) (0, 0) _ rfl HFB.out Tryd.underlying26 rfl (by kernel_rfl)) rfl ⟨_, _, rfl, Kd.R_mono HFC.out (fun _ _ => trivial), Kd.S_mono HFS.out (fun _ _ => trivial), HF.out.st, HF.out.bl, HF.out.kp⟩
                · cases h
              · rename_i hf0
                have hf0b : (hf == 0) = false := by simpa using hf0
                go_upto_region 21 with (go_at_call 15; (with_reducible refine (spec_l20Rd_pick.calls k g s0_0 q 2 hf p6 w0 _ HQ.out.st HQ.out.bl A6.out).mono ?_); rintro e_ W6 ⟨rfl, hi, hb, hk⟩; replace HRB := Aside0.mk (HQ.out.blk hk HRB.out (Nat.le_refl _)); replace HTB := Aside0.mk (HQ.out.blk hk HTB.out (Nat.le_of_lt HT.out)); replace HQ := Aside0.mk (HQ.out.call hi hb hk); replace HRC := Aside0.mk (R_keepG HRC.out HR.out.lt hk); replace HSR := Aside0.mk (S_keepG HSR.out HR.out.lt hk); clear hi hb hk)
                unfold spec_l20Tab.fin at h
                rw [Option.bind_eq_some_iff] at h
                obtain ⟨b, h1, h⟩ := h
                have AT := Aside0.mk h1
                clear h1
                injection Option.some.inj h with e1 e2
                subst e2
                clear h
                cases b
                · replace e1 : ppNoTab = t := e1
                  subst e1
                  go_wp2_with (first | (refine wpList_load_row rfl 26 _ rfl tb rfl 26 (tabA (.slice Ac cols.length cc) (.slice Ar rows.length cr) 0 0 gap) (0, 0) _ HTB.out Tryd.underlying26 rfl (by kernel_rfl) ?_) | (go_at_call 8; (with_reducible refine (spec_TblOk.calls k Ac cc cols 0 0 Ar cr rows gap false _ (Kd.R_reads' HRC.out).2.2 (Kd.R_reads' HRC.out).2.1 (Kd.S_reads' HSR.out).2.2 (Kd.S_reads' HSR.out).2.1 AT.out).mono ?_); rintro e_ Wt ⟨rfl, hb⟩; replace HQ := Aside0.mk (HQ.out.below hb); replace HRB := Aside0.mk ((hb.block _ (blk_lt HRB.out)).trans HRB.out); clear hb) | (refine wpList_put 26 _ _ rfl rfl w.heap.size 0 rfl (.agg (tabA nilV (.slice (some ⟨Wt.heap.size, 0, none⟩) 1 1) 0 0 0)) rfl 26 (tabA nilV nilV 0 0 0) (tabA nilV (.slice (some ⟨Wt.heap.size, 0, none⟩) 1 1) 0 0 0) (blk_alloc HRB.out _) (by kernel_rfl) rfl rfl rfl (fun W9 hp => ?_); have HF := Aside0.mk ((HQ.out.alloc _).put hp (Nat.le_refl _)); have HFB := Aside0.mk hp.blk; have HFC := Aside0.mk (hp.keep (blk_new Wt _) (Nat.ne_of_gt (blk_lt HRB.out))); clear hp))
                  exact bodyPost_ret (results_cell_row rfl _ _ w.heap.size 26 (tabA nilV (.slice (some ⟨Wt.heap.size, 0, none⟩) 1 1) 0 0 0) (0, 0) _ rfl HFB.out Tryd.underlying26 rfl (by kernel_rfl)) rfl ⟨_, _, rfl, Kd.R_nil _ _ _ _ _, S_one k42 HFC.out HQ.out.size trivial (k42_mkM _ _ (fun _ => False) ⟨[], false⟩ (Kd.R_nil _ _ _ _ _)) (fun _ hk => hk.elim), HF.out.st, HF.out.bl, HF.out.kp⟩
                · replace e1 : PTab.mk cols 0 0 rows gap = t := e1
                  subst e1
                  go_wp2_with (first | (refine wpList_load_row rfl 26 _ rfl tb rfl 26 (tabA (.slice Ac cols.length cc) (.slice Ar rows.length cr) 0 0 gap) (0, 0) _ HTB.out Tryd.underlying26 rfl (by kernel_rfl) ?_) | (go_at_call 8; (with_reducible refine (spec_TblOk.calls k Ac cc cols 0 0 Ar cr rows gap true _ (Kd.R_reads' HRC.out).2.2 (Kd.R_reads' HRC.out).2.1 (Kd.S_reads' HSR.out).2.2 (Kd.S_reads' HSR.out).2.1 AT.out).mono ?_); rintro e_ Wt ⟨rfl, hb⟩; replace HQ := Aside0.mk (HQ.out.below hb); replace HRB := Aside0.mk ((hb.block _ (blk_lt HRB.out)).trans HRB.out); replace HTB := Aside0.mk ((hb.block _ (blk_lt HTB.out)).trans HTB.out); replace HRC := Aside0.mk (Kd.R_below HRC.out hb); replace HSR := Aside0.mk (Kd.S_below HSR.out hb); clear hb) | (refine wpList_put 26 _ _ rfl rfl w.heap.size 0 rfl (.agg (tabA (.slice Ac cols.length cc) (.slice Ar rows.length cr) 0 0 gap)) rfl 26 (tabA nilV nilV 0 0 0) (tabA (.slice Ac cols.length cc) (.slice Ar rows.length cr) 0 0 gap) HRB.out (by kernel_rfl) rfl rfl rfl (fun W9 hp => ?_); have HF := Aside0.mk (HQ.out.put hp (Nat.le_refl _)); have HFB := Aside0.mk hp.blk; have HFC := Aside0.mk (R_put HRC.out HRB.out hp (by decide)); have HFS := Aside0.mk (S_put HSR.out HRB.out hp (by decide)); clear hp))
                  exact bodyPost_ret (results_cell_row rfl _ _ w.heap.size 26 (tabA (.slice Ac cols.length cc) (.slice Ar rows.length cr) 0 0 gap) (0, 0) _ rfl HFB.out Tryd.underlying26 rfl (by kernel_rfl)) rfl ⟨_, _, rfl, Kd.R_mono HFC.out (fun _ _ => trivial), Kd.S_mono HFS.out (fun _ _ => trivial), HF.out.st, HF.out.bl, HF.out.kp⟩
            | succ m =>
              have hl := HL.out
              unfold spec_l20Tab.lr at hl
              rw [Option.bind_eq_some_iff] at hl
              obtain ⟨⟨wh, q1⟩, h1, hl⟩ := hl
              have AA := Aside0.mk h1
              clear h1
              rw [Option.bind_eq_some_iff] at hl
              obtain ⟨⟨mc, q2⟩, h1, hl⟩ := hl
              have AB := Aside0.mk h1
              clear h1
              simp only at hl AB
              split at hl
              · rename_i hh
                obtain ⟨mc, rfl⟩ : ∃ n : Nat, mc = n := ⟨mc.toNat, by omega⟩
                rw [Int.toNat_natCast] at hl
                have HMC := Aside0.mk (show mc < 1000 by omega)
                clear hh
                rw [Option.bind_eq_some_iff] at hl
                obtain ⟨⟨cs, q3⟩, h1, hl⟩ := hl
                have AC := Aside0.mk h1
                have HL2 := Aside0.mk hl
                clear h1 hl HL HR4 RB4 TB4 RC4 HH A5
                have hltz : (kk : Int) < 1 + (nr : Int) := by omega
                go_wp2_with (first | (go_at_call 15; (with_reducible refine (spec_l20Rd_pick.calls k g s0_0 q 4 wh q1 w0 _ HQ.out.st HQ.out.bl AA.out).mono ?_); rintro e_ W5 ⟨rfl, hi, hb, hk⟩; have HR5 := Aside0.mk (HQ.out.call hi hb hk); have RB5 := Aside0.mk (HQ.out.blk hk HRB.out (Nat.le_refl _)); have TB5 := Aside0.mk (HQ.out.blk hk HTB.out (Nat.le_of_lt HT.out)); have RC5 := Aside0.mk (R_keepG HRC.out HR.out.lt hk); have SR5 := Aside0.mk (S_keepG HSR.out HR.out.lt hk); clear hi hb hk) | (go_at_call 15; (with_reducible refine (spec_l20Rd_pick.calls k g s0_0 q1 5 mc q2 w0 _ (IsS68.alloc HR5.out.st _) (below_alloc HR5.out.bl _) AB.out).mono ?_); rintro e_ W6 ⟨rfl, hi, hb, hk⟩; have HR6 := Aside0.mk ((HR5.out.alloc _).call hi hb hk); have RB6 := Aside0.mk ((HR5.out.alloc _).blk hk (blk_alloc RB5.out _) (Nat.le_refl _)); have TB6 := Aside0.mk ((HR5.out.alloc _).blk hk (blk_alloc TB5.out _) (Nat.le_of_lt HT.out)); have XB6 := Aside0.mk ((HR5.out.alloc _).blk hk (blk_new W5 _) HR5.out.size); have RC6 := Aside0.mk (R_keepG (Kd.R_alloc (R_upto RC5.out) _) HR.out.lt hk); have SR6 := Aside0.mk (S_keepG (Kd.S_alloc (S_upto SR5.out) _) HR.out.lt hk); clear hi hb hk))
                obtain ⟨xb, hxb⟩ : ∃ xb, W5.heap.size = xb := ⟨_, rfl⟩
                have HTX := Aside0.mk (show tb < xb from hxb ▸ blk_lt TB5.out)
                rw [hxb] at XB6 RC6 SR6 ⊢
                have RC7 := Aside0.mk (Kd.R_mono RC6.out (fun _ h => h.2))
                have SR7 := Aside0.mk (Kd.S_mono SR6.out (fun _ h => h.2))
                clear hxb HR5 RB5 TB5 RC5 SR5 RC6 SR6 HQ HRB HTB HRC HSR
                go_loopg [8] mc (fun gg s8 wr => ∃ (m3 : Nat) (ys : List S30) (q : Int) (vx : Value), m3 ≤ gg ∧ s8 = .int .i64 m3 ∧ m3 < 1000 ∧ Aside0 (ys.length + m3 < 1000) ∧ Aside0 (spec_l20Tab.ls k s0_0 m3 ys q = some (cs, q3)) ∧ Aside0 (Rds w0 w g s0_0 q wr) ∧ Aside0 (wr.heap[w.heap.size]? = some (.cells (tabA nilV nilV 0 0 0) 26 (0, 0))) ∧ Aside0 (wr.heap[tb]? = some (.cells (tabA vc vr 0 0 gap) 26 (0, 0))) ∧ Aside0 (wr.heap[xb]? = some (.cells #[vx, .bool (wh == 0)] 42 (0, 0))) ∧ Aside0 (Kd.R k57 57 wr w.heap.size (fun k => k < xb) vc cols) ∧ Aside0 (Kd.S k42 42 wr w.heap.size (fun k => k < xb) vr xs) ∧ Aside0 (Kd.R k30 30 wr (xb + 1) (fun _ => True) vx ys))
                case atStart => exact ⟨mc, [], q2, nilV, Nat.le_refl _, rfl, HMC.out, ⟨by have := HMC.out; simpa using this⟩, AC, HR6, RB6, TB6, XB6, RC7, SR7, ⟨Kd.R_nil _ _ _ _ _⟩⟩
                case round =>
                  obtain ⟨m3, ys, q, vx, hg3, rfl, hm3, HY, HL3, HQ, HRB, HTB, HXB, HRC, HSR, HRX⟩ := hrel
                  cases m3 with
                  | zero =>
                    have hl := HL3.out
                    unfold spec_l20Tab.ls at hl
                    injection Option.some.inj hl with e1 e2
                    replace e1 := e1.symm
                    subst e1 e2
                    clear hl HL3 hg3 HR6 RB6 TB6 XB6 RC7 SR7 AC HY
                    have hlt3 : ¬ (0 : Int) < ((0 : Nat) : Int) := by omega
                    have hc3 : wr.cell? ⟨tb, 3, none⟩ = some vr := (blk_cell HTB.out 3).trans rfl
                    have HXM := Aside0.mk (k42.M_lower (Nat.le_of_lt (Nat.lt_succ_of_lt (Nat.lt_trans HT.out HTX.out))) (k42_mkM (wr.alloc (.cells #[vx, .bool (wh == 0)] 42)) (xb + 1) (fun k => xb < k) ⟨cs, wh == 0⟩ (Kd.R_mono (R_from (Kd.R_alloc HRX.out _)) (fun _ h => h.2))))
                    have hnr := Kd.S_ne HSR.out HRB.out (by decide)
                    have hnt := Kd.S_ne HSR.out HTB.out (by decide)
                    go_wp2_with (first | (refine wpList_load_row rfl 42 _ rfl xb rfl 42 #[vx, .bool (wh == 0)] (0, 0) _ HXB.out Tryd.underlying42 rfl (by kernel_rfl) ?_) | (refine wpList_append_S (P := Tryd.prog) k42 w.heap.size _ _ 24 42 (.agg #[nilV, .bool false]) 32 rfl rfl Tryd.underlying24 (by kernel_rfl) rfl (by decide) (by decide) vr xs ⟨cs, wh == 0⟩ [vx, .bool (wh == 0)] wr.heap.size (fun _ => True) (fun k => xb < k) rfl rfl (blk_new wr _) HXM.out (fun k hk => ⟨trivial, fun e => absurd (S_own_ok HSR.out k e.symm) (Nat.lt_asymm hk)⟩) (fun _ _ => trivial) (Kd.S_mono (Kd.S_alloc HSR.out _) (fun k hk => ⟨trivial, Nat.lt_asymm hk⟩)) (by have := HQ.out.size; simp; omega) (by have := HX.out; have := hnr1.out; omega) (fun v1 w1 hS1 hg1 hat1 => ?_); have HQ7 := Aside0.mk ((HQ.out.alloc _).grown hg1 (fun k hk => Kd.S_base HSR.out k hk)); have RB7 := Aside0.mk (blk_grown (blk_alloc HRB.out _) hg1 hnr); have TB7 := Aside0.mk (blk_grown (blk_alloc HTB.out _) hg1 hnt); have RC8 := Aside0.mk (Kd.R_over' (Kd.R_alloc HRC.out _) (Kd.S_typed (Kd.S_alloc HSR.out _)) (by decide) hg1); obtain ⟨X1, n1, c1, rfl⟩ : ∃ X1 n1 c1, v1 = .slice X1 n1 c1 := (Kd.S_slice hS1).imp fun _ h => ⟨_, h⟩; have SR8 := Aside0.mk hS1; clear hS1 hg1 hat1) | (refine wpList_put 24 _ _ rfl rfl tb 3 rfl (.slice X1 n1 c1) rfl 26 (tabA vc vr 0 0 gap) (tabA vc (.slice X1 n1 c1) 0 0 gap) TB7.out (by kernel_rfl) rfl rfl rfl (fun W9 hp => ?_); have HQ9 := Aside0.mk (HQ7.out.put hp (Nat.le_of_lt HT.out)); have RB9 := Aside0.mk (hp.keep RB7.out (Nat.ne_of_lt HT.out)); have TB9 := Aside0.mk hp.blk; have RC9 := Aside0.mk (R_put (Kd.R_mono RC8.out (fun _ _ => trivial)) TB7.out hp (by decide)); have SR9 := Aside0.mk (S_put SR8.out TB7.out hp (by decide)); clear hp))
                    go_roundg m
                    case measure => omega
                    case rel => exact ⟨kk + 1, m, xs ++ [⟨cs, wh == 0⟩], q, .slice X1 n1 c1, Nat.le_refl _, by omega, by go_num, ⟨by have := HX.out; simp; omega⟩, HL2, HQ9, RB9, TB9, RC9, SR9⟩
                  | succ m3 =>
                    have hl := HL3.out
                    unfold spec_l20Tab.ls at hl
                    rw [Option.bind_eq_some_iff] at hl
                    obtain ⟨⟨c, q4⟩, h1, hl⟩ := hl
                    have AD := Aside0.mk h1
                    have HL4 := Aside0.mk hl
                    clear h1 hl HL3 HR6 RB6 TB6 XB6 RC7 SR7 AC
                    have hgt : (0 : Int) < ((m3 + 1 : Nat) : Int) := by omega
                    go_wp2
                    have hgw := HR.out.lt
                    have hrb : ∀ k, vx.ownBlock = some k → xb + 1 ≤ k := Kd.R_base HRX.out
                    have hrl : ∀ k, vx.ownBlock = some k → k < wr.heap.size := Kd.R_lt HRX.out
                    have hnr := own_ne_of HRX.out HRB.out (by decide)
                    have hnt := own_ne_of HRX.out HTB.out (by decide)
                    have hnx := own_ne_of HRX.out HXB.out (by decide)
                    have hst : ∀ j v W W', j ∉ [5] → spec_l20Tab.P14 (xb + 1) wr ys c (spec_l20Tab.V14 vx g xb c) j v W → KeepBut W W' g vx.ownBlock → spec_l20Tab.P14 (xb + 1) wr ys c (spec_l20Tab.V14 vx g xb c) j v W' := by
                      intro j v W W' hj h hk
                      have e : ∀ W, spec_l20Tab.P14 (xb + 1) wr ys c (spec_l20Tab.V14 vx g xb c) j v W = PhiB (fun j => if j = 4 then some (fun C => .slice (some ⟨C, 0, none⟩) 1 1) else none) (fun _ => .cells (cellA c) 30 (0, 0)) (spec_l20Tab.V14 vx g xb c) wr.heap.size j v W := fun W => by
                        unfold spec_l20Tab.P14
                        split
                        · exact absurd (by simp) hj
                        · rfl
                      rw [e] at h ⊢
                      exact PhiB.keepR (Nat.lt_of_lt_of_le hgw HQ.out.size) hrl j v W W' h hk
                    refine region_envF (T := spec_l20Tab.T14) (B := spec_l20Tab.B14) spec_l20Tab.O14 spec_l20Tab.L14 7 (spec_l20Tab.P14 (xb + 1) wr ys c (spec_l20Tab.V14 vx g xb c))
                      (fun b W => Rds w0 w g s0_0 (if b 3 = true then q4 else q) W ∧ W.heap[w.heap.size]? = some (.cells (tabA nilV nilV 0 0 0) 26 (0, 0)) ∧ W.heap[tb]? = some (.cells (tabA vc vr 0 0 gap) 26 (0, 0)) ∧ W.heap[xb]? = some (.cells #[vx, .bool (wh == 0)] 42 (0, 0)) ∧ Kd.R k57 57 W w.heap.size (fun k => k < xb) vc cols ∧ Kd.S k42 42 W w.heap.size (fun k => k < xb) vr xs ∧ (b 5 = false → Kd.R k30 30 W (xb + 1) (fun _ => True) vx ys) ∧ wr.heap.size ≤ W.heap.size)
                      (fun _ W => Rds w0 w g s0_0 q4 W ∧ W.heap[w.heap.size]? = some (.cells (tabA nilV nilV 0 0 0) 26 (0, 0)) ∧ W.heap[tb]? = some (.cells (tabA vc vr 0 0 gap) 26 (0, 0)) ∧ Kd.R k57 57 W w.heap.size (fun k => k < xb) vc cols ∧ Kd.S k42 42 W w.heap.size (fun k => k < xb) vr xs ∧ ∃ v1, W.heap[xb]? = some (.cells #[v1, .bool (wh == 0)] 42 (0, 0)) ∧ Kd.R k30 30 W (xb + 1) (fun _ => True) v1 (ys ++ [c]))
                      rfl spec_l20Tab.tab14 spec_l20Tab.bits14 spec_l20Tab.base14 spec_l20Tab.lof14 spec_l20Tab.ents14 spec_l20Tab.last14 ⟨HQ.out.drew, HRB.out, HTB.out, HXB.out, Kd.R_drew HRC.out, Kd.S_drew HSR.out, fun _ => Kd.R_drew HRX.out, Nat.le_refl _⟩ ?_ ?_ ?_
                    · skip
                      refine alln_cons (EStepF.pure fun b_ E a' W ha hG hP => ?_) ?_
                      · have s7 : a'.tmps[7]? = some (.pointer (some ⟨xb, 0, none⟩)) := (slot_off ha rfl).trans rfl
                        exact ⟨_, .pointer (some ⟨xb, 0, none⟩), rfl, rfl, by clear ha hG hP; go_simp; try first | rfl | exact i64_w _, rfl, hG⟩
                      refine alln_cons (EStepF.pure fun b E a' W ha hG hP => ?_) ?_
                      · have s57 : a'.tmps[57]? = some (.pointer (some ⟨xb, 0, none⟩)) := slotv ha (hP 0 rfl).1 rfl (hP 0 rfl).2
                        have hc : W.cell? ⟨xb, 0, none⟩ = some vx := (blk_cell hG.2.2.2.1 0).trans rfl
                        exact ⟨_, vx, rfl, rfl, by clear ha hG hP; go_simp, rfl, hG⟩
                      refine alln_cons (EStepF.pure fun b_ E a' W ha hG hP => ?_) ?_
                      · have s0 : a'.tmps[0]? = some (.pointer (some ⟨g, 0, none⟩)) := (slot_off ha rfl).trans rfl
                        exact ⟨_, .pointer (some ⟨g, 0, none⟩), rfl, rfl, by clear ha hG hP; go_simp; try first | rfl | exact i64_w _, rfl, hG⟩
                      refine alln_cons (EStepF.call [5] hst rfl Tryd.func16 (by kernel_rfl) rfl ⟨_, rfl, rfl, rfl⟩ fun b E a' W ha hG hP hoff hb => ⟨#[.pointer (some ⟨g, 0, none⟩), .int .i64 99999], ?_, ?_⟩) ?_
                      · have s59 : a'.tmps[59]? = some (.pointer (some ⟨g, 0, none⟩)) := slotv ha (hP 2 rfl).1 rfl (hP 2 rfl).2
                        clear ha hG hP hoff hb
                        simp [Act.eval, Array.getD_eq_getD_getElem?, s59]
                      · obtain ⟨hG1, hG2, hG3, hG4, hG5, hG6, hG7, hG8⟩ := hG
                        rw [if_neg (by rw [hb]; decide)] at hG1
                        refine (spec_l20Cel.calls k g s0_0 q 99999 c q4 w0 W hG1.st hG1.bl AD.out).mono ?_
                        rintro _ W2 ⟨rfl, hi, hb2, hk⟩
                        have hwx : w.heap.size ≤ xb := Nat.le_of_lt (Nat.lt_trans HT.out HTX.out)
                        exact ⟨_, rfl, rfl, ⟨hk.1, fun i h1 h2 _ => hk.2 i h1 h2 (by simp)⟩, hG1.call hi hb2 hk, hG1.blk hk hG2 (Nat.le_refl _), hG1.blk hk hG3 (Nat.le_of_lt HT.out), hG1.blk hk hG4 hwx, R_keepG hG5 hgw hk, S_keepG hG6 hgw hk, fun h5 => R_keepG (hG7 h5) (by omega) hk, Nat.le_trans hG8 hk.1⟩
                      refine alln_cons (EStepF.step [5] hst rfl fun b E a' W ha hG hP hoff hb => ?_) ?_
                      · have s60 : a'.tmps[60]? = some (.agg (cellA c)) := slotv ha (hP 3 rfl).1 rfl (hP 3 rfl).2
                        obtain ⟨hG1, hG2, hG3, hG4, hG5, hG6, hG7, hG8⟩ := hG
                        refine ⟨_, .slice (some ⟨W.heap.size, 0, none⟩) 1 1, W.alloc (.cells (cellA c) 30), rfl, rfl, ?_, ⟨_, rfl, hG8, blk_new _ _⟩, KeepBut.of_grown (World.grownBy_alloc W _ _) g, hG1.alloc _, blk_alloc hG2 _, blk_alloc hG3 _, blk_alloc hG4 _, Kd.R_alloc hG5 _, Kd.S_alloc hG6 _, fun h5 => Kd.R_alloc (hG7 h5) _, by simpa using Nat.le_succ_of_le hG8⟩
                        clear ha hP hoff hb
                        unfold cellA at s60 ⊢
                        go_simp
                        try rfl
                      refine alln_cons (EStepF.stepO [5] hst rfl (.call { callee := .builtin .append, args := #[.tmp 58, .tmp 61], argTypes := #[40, 40] }) ⟨_, rfl, rfl, rfl⟩ fun b E a' W oi ho ha hG hP hoff hb => ?_) ?_
                      · obtain ⟨C, hC1, hC2, hC3⟩ := (hP 4 rfl).2
                        have s58 : a'.tmps[58]? = some vx := slotv ha (hP 1 rfl).1 rfl (hP 1 rfl).2
                        have s61 : a'.tmps[61]? = some (.slice (some ⟨C, 0, none⟩) 1 1) := slotv ha (hP 4 rfl).1 rfl hC1
                        obtain ⟨hG1, hG2, hG3, hG4, hG5, hG6, hG7, hG8⟩ := hG
                        obtain ⟨v1, w1, hr, hR1, hgr, hat⟩ := exec_append_R (P := Tryd.prog) (oi := oi) (ev := a'.eval) k30 (xb + 1) (.tmp 58) (.tmp 61) 40 30 (.agg (cellA z30)) 96 ho Tryd.underlying40 (by kernel_rfl) rfl (by decide) (by decide) vx ys c (cellA c).toList C (fun _ => True) (fun _ => False) (by simp [Act.eval, Array.getD_eq_getD_getElem?, s58]) (by simp [Act.eval, Array.getD_eq_getD_getElem?, s61]) hC3 (k30_mkM W (xb + 1) _ c) (fun _ h => h.elim) (fun _ _ => trivial) (hG7 hb) (blk_lt hG4) (by have := HY.out; omega)
                        exact ⟨v1, w1, hr, hR1, KeepBut.of_grown hgr g, hG1.grown hgr (fun k hk => by have := hrb k hk; have := HT.out; have := HTX.out; omega), blk_grown hG2 hgr hnr, blk_grown hG3 hgr hnt, blk_grown hG4 hgr hnx, Kd.R_grown hG5 hgr (fun k hk e => by have := hrb k e.symm; omega), Kd.S_grown hG6 hgr (fun k hk e => by have := hrb k e.symm; omega), fun h5 => (by rw [up_self] at h5; cases h5), Nat.le_trans hG8 hgr.size⟩
                      refine alln_cons (EStepF.pure fun b_ E a' W ha hG hP => ?_) alln_last
                      · have s7 : a'.tmps[7]? = some (.pointer (some ⟨xb, 0, none⟩)) := (slot_off ha rfl).trans rfl
                        exact ⟨_, .pointer (some ⟨xb, 0, none⟩), rfl, rfl, by clear ha hG hP; go_simp; try first | rfl | exact i64_w _, rfl, hG⟩
                    · intro b E a' W ha hG hP hb
                      have s63 : a'.tmps[63]? = some (.pointer (some ⟨xb, 0, none⟩)) := slotv ha (hP 6 rfl (by decide)).1 rfl (hP 6 rfl (by decide)).2
                      obtain ⟨v1, hv1⟩ : ∃ v1, E 5 = v1 := ⟨_, rfl⟩
                      have s62 : a'.tmps[62]? = some v1 := slotv ha (hP 5 rfl (by decide)).1 rfl hv1
                      have hR1 : Kd.R k30 30 W (xb + 1) (fun _ => True) v1 (ys ++ [c]) := hv1 ▸ (hP 5 rfl (by decide)).2
                      obtain ⟨A1, c1, rfl⟩ := Kd.R_slice hR1
                      obtain ⟨hG1, hG2, hG3, hG4, hG5, hG6, hG7, hG8⟩ := hG
                      rw [if_pos (hP 3 rfl (by decide)).1] at hG1
                      have hp := Put.setRow (cs := #[.slice A1 (ys ++ [c]).length c1, .bool (wh == 0)]) hG4
                      exact ⟨_, rfl, fun K hK => skip_ rfl rfl (exec_put 40 _ _ rfl xb 0 (by simp [Act.eval, Array.getD_eq_getD_getElem?, s63]) (.slice A1 (ys ++ [c]).length c1) (by simp [Act.eval, Array.getD_eq_getD_getElem?, s62]) 42 _ #[.slice A1 (ys ++ [c]).length c1, .bool (wh == 0)] hG4 (by kernel_rfl) rfl rfl rfl) (hK.out undef _ ⟨hG1.put hp (Nat.le_of_lt (Nat.lt_trans HT.out HTX.out)), hp.keep hG2 (Nat.ne_of_lt (Nat.lt_trans HT.out HTX.out)), hp.keep hG3 (Nat.ne_of_lt HTX.out), R_putN hG5 hp (fun k hk => Nat.ne_of_lt hk), S_putN hG6 hp (fun k hk => Nat.ne_of_lt hk), _, hp.blk, R_put hR1 hG4 hp (by decide)⟩)⟩
                    · intro E b W hall hF
                      obtain ⟨hR, hRB, hTB, hRC, hSR, v1, hXB, hRX⟩ := hF
                      rw [putSel_all (fun x hx => hall x.1 (by revert x; decide))]
                      simp only [spec_l20Tab.L14, List.foldl, Act.put, List.setIfInBounds_toArray, List.set_cons_zero, List.set_cons_succ]
                      have HQ2 := Aside0.mk hR
                      have HRB2 := Aside0.mk hRB
                      have HTB2 := Aside0.mk hTB
                      have HRC2 := Aside0.mk hRC
                      have HSR2 := Aside0.mk hSR
                      have HXB2 := Aside0.mk hXB
                      have HRX2 := Aside0.mk hRX
                      clear hall hst hrb hrl hnr hnt hnx hR hRB hTB hRC hSR hXB hRX hgw
                      go_wp2
                      go_roundg m3
                      case measure => omega
                      case rel => exact ⟨m3, ys ++ [c], q4, v1, Nat.le_refl _, by go_num, by omega, ⟨by have := HY.out; simp; omega⟩, HL4, HQ2, HRB2, HTB2, HXB2, HRC2, HSR2, HRX2⟩
              · cases hl
        · cases h
      | succ m =>
        have hl := HL.out
        unfold spec_l20Tab.lc at hl
        rw [Option.bind_eq_some_iff] at hl
        obtain ⟨⟨a, q1⟩, h1, hl⟩ := hl
        have AA := Aside0.mk h1
        clear h1
        rw [Option.bind_eq_some_iff] at hl
        obtain ⟨⟨b_, q2⟩, h1, hl⟩ := hl
        have AB := Aside0.mk h1
        clear h1
        rw [Option.bind_eq_some_iff] at hl
        obtain ⟨⟨c, q3⟩, h1, hl⟩ := hl
        have AC := Aside0.mk h1
        clear h1
        simp only at hl AB AC
        split at hl
        · rename_i hh
          obtain ⟨hb0, hb4, hc0, hc4⟩ := hh
          obtain ⟨bb, rfl⟩ : ∃ n : Nat, b_ = n := ⟨b_.toNat, by omega⟩
          obtain ⟨cc, rfl⟩ : ∃ n : Nat, c = n := ⟨c.toNat, by omega⟩
          unfold ppColOf at hl
          rw [Int.toNat_natCast, Int.toNat_natCast] at hl
          obtain ⟨p, hp⟩ : ∃ p, ppParts.getD bb 0 = p := ⟨_, rfl⟩
          rw [hp] at hl
          obtain ⟨x, hx, hx0, hx1⟩ := ppColOf_at a p (c := cc) (by omega)
          rw [hx] at hl
          have HB4 := Aside0.mk (show bb < ppParts.length by show bb < 4; omega)
          have HPP := Aside0.mk hp
          have HX0 := Aside0.mk hx0
          have HX1 := Aside0.mk hx1
          have HL2 := Aside0.mk hl
          clear hl HL hp hx hx0 hx1 hb0 hc0 HH A3 HR3 RB3 TB3
          have hb4z : (bb : Int) < ((4 : Nat) : Int) := hb4
          have hc4z : (cc : Int) < ((4 : Nat) : Int) := hc4
          have hgt : (0 : Int) < ((m + 1 : Nat) : Int) := by omega
          go_wp2
          have hgw := HR.out.lt
          have hrb : ∀ k, vc.ownBlock = some k → w.heap.size ≤ k := Kd.R_base HRC.out
          have hrl : ∀ k, vc.ownBlock = some k → k < wr.heap.size := Kd.R_lt HRC.out
          have hnr := own_ne_of HRC.out HRB.out (by decide)
          have hnt := own_ne_of HRC.out HTB.out (by decide)
          have hst : ∀ j v W W', j ∉ [19] → spec_l20Tab.P5 w wr xs x (spec_l20Tab.F5 bb cc) (spec_l20Tab.W5 a p x) (spec_l20Tab.V5 vc g tb a p bb cc x) j v W → KeepBut W W' g vc.ownBlock → spec_l20Tab.P5 w wr xs x (spec_l20Tab.F5 bb cc) (spec_l20Tab.W5 a p x) (spec_l20Tab.V5 vc g tb a p bb cc x) j v W' := by
            intro j v W W' hj h hk
            have e : ∀ W, spec_l20Tab.P5 w wr xs x (spec_l20Tab.F5 bb cc) (spec_l20Tab.W5 a p x) (spec_l20Tab.V5 vc g tb a p bb cc x) j v W = PhiB (spec_l20Tab.F5 bb cc) (spec_l20Tab.W5 a p x) (spec_l20Tab.V5 vc g tb a p bb cc x) wr.heap.size j v W := fun W => by
              unfold spec_l20Tab.P5
              split
              · exact absurd (by simp) hj
              · rfl
            rw [e] at h ⊢
            exact PhiB.keepR (Nat.lt_of_lt_of_le hgw HQ.out.size) hrl j v W W' h hk
          refine region_envF (T := spec_l20Tab.T5) (B := spec_l20Tab.B5) spec_l20Tab.O5 spec_l20Tab.L5 21 (spec_l20Tab.P5 w wr xs x (spec_l20Tab.F5 bb cc) (spec_l20Tab.W5 a p x) (spec_l20Tab.V5 vc g tb a p bb cc x))
            (fun b W => Rds w0 w g s0_0 (if b 15 = true then q3 else if b 9 = true then q2 else if b 5 = true then q1 else q) W ∧ W.heap[w.heap.size]? = some (.cells (tabA nilV nilV 0 0 0) 26 (0, 0)) ∧ W.heap[tb]? = some (.cells (tabA vc nilV 0 0 gap) 26 (0, 0)) ∧ (b 19 = false → Kd.R k57 57 W w.heap.size (fun _ => True) vc xs) ∧ wr.heap.size ≤ W.heap.size)
            (fun _ W => Rds w0 w g s0_0 q3 W ∧ W.heap[w.heap.size]? = some (.cells (tabA nilV nilV 0 0 0) 26 (0, 0)) ∧ ∃ v1, W.heap[tb]? = some (.cells (tabA v1 nilV 0 0 gap) 26 (0, 0)) ∧ Kd.R k57 57 W w.heap.size (fun _ => True) v1 (xs ++ [x]))
            rfl spec_l20Tab.tab5 spec_l20Tab.bits5 spec_l20Tab.base5 spec_l20Tab.lof5 spec_l20Tab.ents5 spec_l20Tab.last5 ⟨HQ.out.drew, HRB.out, HTB.out, fun _ => Kd.R_drew HRC.out, Nat.le_refl _⟩ ?_ ?_ ?_
          · skip
            refine alln_cons (EStepF.pure fun b_ E a' W ha hG hP => ?_) ?_
            · have s3 : a'.tmps[3]? = some (.pointer (some ⟨tb, 0, none⟩)) := (slot_off ha rfl).trans rfl
              exact ⟨_, .pointer (some ⟨tb, 0, none⟩), rfl, rfl, by clear ha hG hP; go_simp; try first | rfl | exact i64_w _, rfl, hG⟩
            refine alln_cons (EStepF.pure fun b E a' W ha hG hP => ?_) ?_
            · have s18 : a'.tmps[18]? = some (.pointer (some ⟨tb, 0, none⟩)) := slotv ha (hP 0 rfl).1 rfl (hP 0 rfl).2
              have hc : W.cell? ⟨tb, 0, none⟩ = some vc := (blk_cell hG.2.2.1 0).trans rfl
              exact ⟨_, vc, rfl, rfl, by clear ha hG hP; go_simp, rfl, hG⟩
            refine alln_cons (EStepF.pure fun b_ E a' W ha hG hP => ?_) ?_
            · exact ⟨_, .agg #[.int .i64 0, .int .i64 0], rfl, rfl, by clear ha hG hP; go_simp; try first | rfl | exact i64_w _, rfl, hG⟩
            refine alln_cons (EStepF.pure fun b_ E a' W ha hG hP => ?_) ?_
            · exact ⟨_, .agg #[.int .i64 0, .int .i64 0], rfl, rfl, by clear ha hG hP; go_simp; try first | rfl | exact i64_w _, rfl, hG⟩
            refine alln_cons (EStepF.pure fun b_ E a' W ha hG hP => ?_) ?_
            · have s0 : a'.tmps[0]? = some (.pointer (some ⟨g, 0, none⟩)) := (slot_off ha rfl).trans rfl
              exact ⟨_, .pointer (some ⟨g, 0, none⟩), rfl, rfl, by clear ha hG hP; go_simp; try first | rfl | exact i64_w _, rfl, hG⟩
            refine alln_cons (EStepF.call [19] hst rfl Tryd.func15 (by kernel_rfl) rfl ⟨_, rfl, rfl, rfl⟩ fun b E a' W ha hG hP hoff hb => ⟨#[.pointer (some ⟨g, 0, none⟩), .int .i64 30], ?_, ?_⟩) ?_
            · have s22 : a'.tmps[22]? = some (.pointer (some ⟨g, 0, none⟩)) := slotv ha (hP 4 rfl).1 rfl (hP 4 rfl).2
              clear ha hG hP hoff hb
              simp [Act.eval, Array.getD_eq_getD_getElem?, s22]
            · obtain ⟨hG1, hG2, hG3, hG4, hG5⟩ := hG
              rw [if_neg (by rw [hoff 15 rfl]; decide), if_neg (by rw [hoff 9 rfl]; decide), if_neg (by rw [hb]; decide)] at hG1
              refine (spec_l20Rd_pick.calls k g s0_0 q 30 a q1 w0 W hG1.st hG1.bl AA.out).mono ?_
              rintro _ W2 ⟨rfl, hi, hb2, hk⟩
              refine ⟨_, rfl, rfl, ⟨hk.1, fun i h1 h2 _ => hk.2 i h1 h2 (by simp)⟩, ?_, hG1.blk hk hG2 (Nat.le_refl _), hG1.blk hk hG3 (Nat.le_of_lt HT.out), fun h19 => R_keepG (hG4 h19) hgw hk, Nat.le_trans hG5 hk.1⟩
              rw [if_neg (show ¬ up b 5 15 = true by rw [up_ne (by decide), hoff 15 rfl]; decide), if_neg (show ¬ up b 5 9 = true by rw [up_ne (by decide), hoff 9 rfl]; decide)]
              exact hG1.call hi hb2 hk
            refine alln_cons (EStepF.pure fun b_ E a' W ha hG hP => ?_) ?_
            · have s23 : a'.tmps[23]? = some (.int .i64 a) := slotv ha (hP 5 rfl).1 rfl (hP 5 rfl).2
              exact ⟨_, .agg #[.int .i64 1, .int .i64 a], rfl, rfl, by clear ha hG hP; go_simp; try first | rfl | exact i64_w _, rfl, hG⟩
            refine alln_cons (EStepF.step [19] hst rfl fun b E a' W ha hG hP hoff hb => ?_) ?_
            · exact ⟨_, .slice (some ⟨W.heap.size, 0, none⟩) 4 4, W.alloc (.cells (ppParts.map (Value.int .i64)).toArray 3), rfl, rfl, by clear ha hG hP hoff hb; go_simp; try rfl, ⟨_, rfl, hG.2.2.2.2, blk_new _ _⟩, KeepBut.of_grown (World.grownBy_alloc W _ _) g, hG.1.alloc _, blk_alloc hG.2.1 _, blk_alloc hG.2.2.1 _, fun h19 => Kd.R_alloc (hG.2.2.2.1 h19) _, by simpa using Nat.le_succ_of_le hG.2.2.2.2⟩
            refine alln_cons (EStepF.pure fun b_ E a' W ha hG hP => ?_) ?_
            · have s0 : a'.tmps[0]? = some (.pointer (some ⟨g, 0, none⟩)) := (slot_off ha rfl).trans rfl
              exact ⟨_, .pointer (some ⟨g, 0, none⟩), rfl, rfl, by clear ha hG hP; go_simp; try first | rfl | exact i64_w _, rfl, hG⟩
            refine alln_cons (EStepF.call [19] hst rfl Tryd.func15 (by kernel_rfl) rfl ⟨_, rfl, rfl, rfl⟩ fun b E a' W ha hG hP hoff hb => ⟨#[.pointer (some ⟨g, 0, none⟩), .int .i64 4], ?_, ?_⟩) ?_
            · have s26 : a'.tmps[26]? = some (.pointer (some ⟨g, 0, none⟩)) := slotv ha (hP 8 rfl).1 rfl (hP 8 rfl).2
              clear ha hG hP hoff hb
              simp [Act.eval, Array.getD_eq_getD_getElem?, s26]
            · obtain ⟨hG1, hG2, hG3, hG4, hG5⟩ := hG
              rw [if_neg (by rw [hoff 15 rfl]; decide), if_neg (by rw [hb]; decide), if_pos (hP 5 rfl).1] at hG1
              refine (spec_l20Rd_pick.calls k g s0_0 q1 4 bb q2 w0 W hG1.st hG1.bl AB.out).mono ?_
              rintro _ W2 ⟨rfl, hi, hb2, hk⟩
              refine ⟨_, rfl, rfl, ⟨hk.1, fun i h1 h2 _ => hk.2 i h1 h2 (by simp)⟩, ?_, hG1.blk hk hG2 (Nat.le_refl _), hG1.blk hk hG3 (Nat.le_of_lt HT.out), fun h19 => R_keepG (hG4 h19) hgw hk, Nat.le_trans hG5 hk.1⟩
              rw [if_neg (show ¬ up b 9 15 = true by rw [up_ne (by decide), hoff 15 rfl]; decide)]
              exact hG1.call hi hb2 hk
            refine alln_cons (EStepF.pure fun b E a' W ha hG hP => ?_) ?_
            · obtain ⟨C, hC1, hC2, hC3⟩ := (hP 7 rfl).2
              have s25 : a'.tmps[25]? = some (.slice (some ⟨C, 0, none⟩) 4 4) := slotv ha (hP 7 rfl).1 rfl hC1
              have s27 : a'.tmps[27]? = some (.int .i64 bb) := slotv ha (hP 9 rfl).1 rfl (hP 9 rfl).2
              exact ⟨_, .pointer (some ⟨C, bb, none⟩), rfl, rfl, by clear ha hG hP hC1 hC2 hC3; go_simp, ⟨C, rfl, hC2, hC3⟩, hG⟩
            refine alln_cons (EStepF.pure fun b E a' W ha hG hP => ?_) ?_
            · obtain ⟨C, hC1, hC2, hC3⟩ := (hP 10 rfl).2
              have s28 : a'.tmps[28]? = some (.pointer (some ⟨C, bb, none⟩)) := slotv ha (hP 10 rfl).1 rfl hC1
              have hc : W.cell? ⟨C, bb, none⟩ = some (.int .i64 p) := (blk_cell hC3 bb).trans ((ppInts_at (l := ppParts) HB4.out).trans (by rw [HPP.out]))
              exact ⟨_, .int .i64 p, rfl, rfl, by clear ha hG hP hC1 hC2 hC3; go_simp, rfl, hG⟩
            refine alln_cons (EStepF.pure fun b_ E a' W ha hG hP => ?_) ?_
            · have s29 : a'.tmps[29]? = some (.int .i64 p) := slotv ha (hP 11 rfl).1 rfl (hP 11 rfl).2
              exact ⟨_, .agg #[.int .i64 2, .int .i64 p], rfl, rfl, by clear ha hG hP; go_simp; try first | rfl | exact i64_w _, rfl, hG⟩
            refine alln_cons (EStepF.step [19] hst rfl fun b E a' W ha hG hP hoff hb => ?_) ?_
            · have s20 : a'.tmps[20]? = some (.agg #[.int .i64 0, .int .i64 0]) := slotv ha (hP 2 rfl).1 rfl (hP 2 rfl).2
              have s21 : a'.tmps[21]? = some (.agg #[.int .i64 0, .int .i64 0]) := slotv ha (hP 3 rfl).1 rfl (hP 3 rfl).2
              have s24 : a'.tmps[24]? = some (.agg #[.int .i64 1, .int .i64 a]) := slotv ha (hP 6 rfl).1 rfl (hP 6 rfl).2
              have s30 : a'.tmps[30]? = some (.agg #[.int .i64 2, .int .i64 p]) := slotv ha (hP 12 rfl).1 rfl (hP 12 rfl).2
              exact ⟨_, .slice (some ⟨W.heap.size, 0, none⟩) 4 4, W.alloc (.cells #[.int .i64 0, .int .i64 0, .int .i64 0, .int .i64 0, .int .i64 1, .int .i64 a, .int .i64 2, .int .i64 p] 57), rfl, rfl, by clear ha hG hP hoff hb; go_simp; try rfl, ⟨_, rfl, hG.2.2.2.2, blk_new _ _⟩, KeepBut.of_grown (World.grownBy_alloc W _ _) g, hG.1.alloc _, blk_alloc hG.2.1 _, blk_alloc hG.2.2.1 _, fun h19 => Kd.R_alloc (hG.2.2.2.1 h19) _, by simpa using Nat.le_succ_of_le hG.2.2.2.2⟩
            refine alln_cons (EStepF.pure fun b_ E a' W ha hG hP => ?_) ?_
            · have s0 : a'.tmps[0]? = some (.pointer (some ⟨g, 0, none⟩)) := (slot_off ha rfl).trans rfl
              exact ⟨_, .pointer (some ⟨g, 0, none⟩), rfl, rfl, by clear ha hG hP; go_simp; try first | rfl | exact i64_w _, rfl, hG⟩
            refine alln_cons (EStepF.call [19] hst rfl Tryd.func15 (by kernel_rfl) rfl ⟨_, rfl, rfl, rfl⟩ fun b E a' W ha hG hP hoff hb => ⟨#[.pointer (some ⟨g, 0, none⟩), .int .i64 4], ?_, ?_⟩) ?_
            · have s32 : a'.tmps[32]? = some (.pointer (some ⟨g, 0, none⟩)) := slotv ha (hP 14 rfl).1 rfl (hP 14 rfl).2
              clear ha hG hP hoff hb
              simp [Act.eval, Array.getD_eq_getD_getElem?, s32]
            · obtain ⟨hG1, hG2, hG3, hG4, hG5⟩ := hG
              rw [if_neg (by rw [hb]; decide), if_pos (hP 9 rfl).1] at hG1
              refine (spec_l20Rd_pick.calls k g s0_0 q2 4 cc q3 w0 W hG1.st hG1.bl AC.out).mono ?_
              rintro _ W2 ⟨rfl, hi, hb2, hk⟩
              refine ⟨_, rfl, rfl, ⟨hk.1, fun i h1 h2 _ => hk.2 i h1 h2 (by simp)⟩, ?_, hG1.blk hk hG2 (Nat.le_refl _), hG1.blk hk hG3 (Nat.le_of_lt HT.out), fun h19 => R_keepG (hG4 h19) hgw hk, Nat.le_trans hG5 hk.1⟩
              exact hG1.call hi hb2 hk
            refine alln_cons (EStepF.pure fun b E a' W ha hG hP => ?_) ?_
            · obtain ⟨C, hC1, hC2, hC3⟩ := (hP 13 rfl).2
              have s31 : a'.tmps[31]? = some (.slice (some ⟨C, 0, none⟩) 4 4) := slotv ha (hP 13 rfl).1 rfl hC1
              have s33 : a'.tmps[33]? = some (.int .i64 cc) := slotv ha (hP 15 rfl).1 rfl (hP 15 rfl).2
              exact ⟨_, .pointer (some ⟨C, cc * 2, none⟩), rfl, rfl, by clear ha hG hP hC1 hC2 hC3; go_simp, ⟨C, rfl, hC2, hC3⟩, hG⟩
            refine alln_cons (EStepF.pure fun b E a' W ha hG hP => ?_) ?_
            · obtain ⟨C, hC1, hC2, hC3⟩ := (hP 16 rfl).2
              have s34 : a'.tmps[34]? = some (.pointer (some ⟨C, cc * 2, none⟩)) := slotv ha (hP 16 rfl).1 rfl hC1
              have hc0 : W.cell? ⟨C, cc * 2, none⟩ = some (.int .i64 x.f0) := (blk_cell hC3 (cc * 2)).trans HX0.out
              have hc1 : W.cell? ⟨C, cc * 2 + 1, none⟩ = some (.int .i64 x.f1) := (blk_cell hC3 (cc * 2 + 1)).trans HX1.out
              exact ⟨_, .agg #[.int .i64 x.f0, .int .i64 x.f1], rfl, rfl, by clear ha hG hP hC1 hC2 hC3; go_simp; try rfl, rfl, hG⟩
            refine alln_cons (EStepF.step [19] hst rfl fun b E a' W ha hG hP hoff hb => ?_) ?_
            · have s35 : a'.tmps[35]? = some (.agg #[.int .i64 x.f0, .int .i64 x.f1]) := slotv ha (hP 17 rfl).1 rfl (hP 17 rfl).2
              exact ⟨_, .slice (some ⟨W.heap.size, 0, none⟩) 1 1, W.alloc (.cells #[.int .i64 x.f0, .int .i64 x.f1] 57), rfl, rfl, by clear ha hG hP hoff hb; go_simp; try rfl, ⟨_, rfl, hG.2.2.2.2, blk_new _ _⟩, KeepBut.of_grown (World.grownBy_alloc W _ _) g, hG.1.alloc _, blk_alloc hG.2.1 _, blk_alloc hG.2.2.1 _, fun h19 => Kd.R_alloc (hG.2.2.2.1 h19) _, by simpa using Nat.le_succ_of_le hG.2.2.2.2⟩
            refine alln_cons (EStepF.stepO [19] hst rfl (.call { callee := .builtin .append, args := #[.tmp 19, .tmp 36], argTypes := #[23, 23] }) ⟨_, rfl, rfl, rfl⟩ fun b E a' W oi ho ha hG hP hoff hb => ?_) ?_
            · obtain ⟨C, hC1, hC2, hC3⟩ := (hP 18 rfl).2
              have s19 : a'.tmps[19]? = some vc := slotv ha (hP 1 rfl).1 rfl (hP 1 rfl).2
              have s36 : a'.tmps[36]? = some (.slice (some ⟨C, 0, none⟩) 1 1) := slotv ha (hP 18 rfl).1 rfl hC1
              obtain ⟨hG1, hG2, hG3, hG4, hG5⟩ := hG
              obtain ⟨v1, w1, hr, hR1, hgr, hat⟩ := exec_append_R (P := Tryd.prog) (oi := oi) (ev := a'.eval) k57 w.heap.size (.tmp 19) (.tmp 36) 23 57 (.agg #[.int .i64 0, .int .i64 0]) 16 ho Tryd.underlying23 (by kernel_rfl) rfl (by decide) (by decide) vc xs x [.int .i64 x.f0, .int .i64 x.f1] C (fun _ => True) (fun _ => False) (by simp [Act.eval, Array.getD_eq_getD_getElem?, s19]) (by simp [Act.eval, Array.getD_eq_getD_getElem?, s36]) hC3 (k57_mkM W w.heap.size _ x) (fun _ h => h.elim) (fun _ _ => trivial) (hG4 hb) hG1.size (by have := HX.out; omega)
              refine ⟨v1, w1, hr, hR1, KeepBut.of_grown hgr g, ?_, blk_grown hG2 hgr hnr, blk_grown hG3 hgr hnt, fun h19 => (by rw [up_self] at h19; cases h19), Nat.le_trans hG5 hgr.size⟩
              exact hG1.grown hgr hrb
            refine alln_cons (EStepF.pure fun b_ E a' W ha hG hP => ?_) alln_last
            · have s3 : a'.tmps[3]? = some (.pointer (some ⟨tb, 0, none⟩)) := (slot_off ha rfl).trans rfl
              exact ⟨_, .pointer (some ⟨tb, 0, none⟩), rfl, rfl, by clear ha hG hP; go_simp; try first | rfl | exact i64_w _, rfl, hG⟩
          · intro b E a' W ha hG hP hb
            have s38 : a'.tmps[38]? = some (.pointer (some ⟨tb, 0, none⟩)) := slotv ha (hP 20 rfl (by decide)).1 rfl (hP 20 rfl (by decide)).2
            obtain ⟨v1, hv1⟩ : ∃ v1, E 19 = v1 := ⟨_, rfl⟩
            have s37 : a'.tmps[37]? = some v1 := slotv ha (hP 19 rfl (by decide)).1 rfl hv1
            have hR1 : Kd.R k57 57 W w.heap.size (fun _ => True) v1 (xs ++ [x]) := hv1 ▸ (hP 19 rfl (by decide)).2
            obtain ⟨A1, c1, rfl⟩ := Kd.R_slice hR1
            obtain ⟨hG1, hG2, hG3, hG4, hG5⟩ := hG
            rw [if_pos (hP 15 rfl (by decide)).1] at hG1
            have hp := Put.setRow (cs := tabA (.slice A1 (xs ++ [x]).length c1) nilV 0 0 gap) hG3
            exact ⟨_, rfl, fun K hK => skip_ rfl rfl (exec_put 23 _ _ rfl tb 0 (by simp [Act.eval, Array.getD_eq_getD_getElem?, s38]) (.slice A1 (xs ++ [x]).length c1) (by simp [Act.eval, Array.getD_eq_getD_getElem?, s37]) 26 _ (tabA (.slice A1 (xs ++ [x]).length c1) nilV 0 0 gap) hG3 (by kernel_rfl) rfl rfl rfl) (hK.out undef _ ⟨hG1.put hp (Nat.le_of_lt HT.out), hp.keep hG2 (Nat.ne_of_lt HT.out), _, hp.blk, R_put hR1 hG3 hp (by decide)⟩)⟩
          · intro E b W hall hF
            obtain ⟨hR, hRB, v1, hTB1, hRC1⟩ := hF
            rw [putSel_all (fun x hx => hall x.1 (by revert x; decide))]
            simp only [spec_l20Tab.L5, List.foldl, Act.put, List.setIfInBounds_toArray, List.set_cons_zero, List.set_cons_succ]
            have HQ2 := Aside0.mk hR
            have HRB2 := Aside0.mk hRB
            have HTB2 := Aside0.mk hTB1
            have HRC2 := Aside0.mk hRC1
            clear hall hst hrb hrl hnr hnt hb4z hc4z hb4 hc4 hR hRB hTB1 hRC1 hgw
            go_wp2
            go_roundg m
            case measure => omega
            case rel => exact ⟨m, xs ++ [x], q3, v1, Nat.le_refl _, by go_num, by omega, ⟨by have := HX.out; simp; omega⟩, HL2, HQ2, HRB2, HTB2, HRC2⟩
        · cases hl
  · cases h
/-- The table's parts, one by one. -/
def spec_l20Table.f (k : Nat) (s0_0 : List Int) (s0_1 : Int) : Option (List S57 × Int × Int × List S42 × Int × Int) := (spec_l20Tab.f k s0_0 s0_1).bind fun t => some (t.1.cols, t.1.head, t.1.foot, t.1.rows, t.1.gap, t.2)
theorem spec_l20Table.mono : ∀ a0 a1 k, LeO (spec_l20Table.f k a0 a1) (spec_l20Table.f (k + 1) a0 a1) := fun _ _ k => by
  unfold spec_l20Table.f
  exact LeO.bind (spec_l20Tab.mono _ _ _) fun _ => LeO.refl _
theorem spec_l20Table.calls (k : Nat) (g : Nat) (s0_0 : List Int) (s0_1 : Int) (r1 : List (S57)) (r2 : Int) (r3 : Int) (r4 : List (S42)) (r5 : Int) (r6 : Int) (w0 w : World) (hI : IsS68 w0 w g s0_0 s0_1) (hB : Below w0.heap.size w0 w) (h : spec_l20Table.f k s0_0 s0_1 = some (r1, r2, r3, r4, r5, r6)) :
    Calls Tryd.prog 38 #[.pointer (some ⟨g, 0, none⟩)] w fun e w' => ∃ v0_ v3_ : Value, e = .returned (.agg #[v0_, .int .i64 r2, .int .i64 r3, v3_, .int .i64 r5]) ∧ Kd.R k57 57 w' w.heap.size (fun _ => True) v0_ r1 ∧ Kd.S k42 42 w' w.heap.size (fun _ => True) v3_ r4 ∧ IsS68 w0 w' g s0_0 r6 ∧ Below w0.heap.size w0 w' ∧ KeepBut w w' g none := by
  unfold spec_l20Table.f at h
  obtain ⟨⟨t, q⟩, h1, h⟩ := Option.bind_eq_some_iff.1 h
  simp only [Option.some.injEq, Prod.mk.injEq] at h
  obtain ⟨rfl, rfl, rfl, rfl, rfl, rfl⟩ := h
  exact spec_l20Tab.calls k g s0_0 s0_1 t q w0 w hI hB h1


end Go.Proofs.YtaihfkjfbjcmhabDoor.Q
