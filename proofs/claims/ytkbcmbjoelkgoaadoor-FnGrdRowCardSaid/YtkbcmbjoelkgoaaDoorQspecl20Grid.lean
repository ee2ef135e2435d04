-- Told by a program of this session (uprint.py, ulay.py).
import Derived.Test.YtkbcmbjoelkgoaaDoorQ0
import Derived.Test.YtkbcmbjoelkgoaaDoorReg
import Derived.Test.YtkbcmbjoelkgoaaDoorQspecl20Open
import Derived.Test.YtkbcmbjoelkgoaaDoorQspecl1Max
import Derived.Test.YtkbcmbjoelkgoaaDoorQspecl20Text
import Derived.Test.YtkbcmbjoelkgoaaDoorQspecl20Cell
namespace Go.Proofs.YtkbcmbjoelkgoaaDoor.Q
open Go.RowKit Go.Proofs.YtkbcmbjoelkgoaaDoorW.PrintWords Go.Proofs.YtkbcmbjoelkgoaaDoorW.PrintLast Go.Proofs.YtkbcmbjoelkgoaaDoorW.PrintMore Go.Proofs.YtkbcmbjoelkgoaaDoor.Reg Go.Proofs.YtkbcmbjoelkgoaaDoor.Box
attribute [local go_sem] max2_int min2_int max_two min_two max_three min_three max_four min_four
set_option linter.unusedVariables false
set_option linter.unusedSimpArgs false

/-! ### spec_l20Grid: function 15 (by hand) -/
abbrev ppG0 (rows : Int) : List Int := [0, 9, wrap64 (rows + 1)]
abbrev ppG1 (cols : Int) : List Int := [0, 95, wrap64 (cols + 1)]
abbrev ppG2 (rows : Int) : List Int := [-1, rows]
abbrev ppG3 (cols : Int) : List Int := [0, wrap64 (cols + 1), 2]
abbrev ppG4 : List Int := [-1, 5]
abbrev ppG5 : List Int := [1, 9223372036854775807]
def pgEl (cs : List S34) (a : Nat) : S34 := cs.getD a z34
def pgSet (cs : List S34) (a : Nat) (x : S34) : List S34 := cs.set a x
/-- What is turned of a drawn grid. -/
def spec_l20Grid.turn (k : Nat) (s : List Int) (rows cols : Int) (cs : List S34) (a : Nat) (p c : Int) : Option (Int × Int × List S34 × Int) :=
  if c = 0 then (spec_l20Rd_pick.f k s p 3).bind fun e => if 0 ≤ e.1 ∧ e.1 < 3 then some ((ppG0 rows).getD e.1.toNat 0, cols, cs, e.2) else none
  else if c = 1 then (spec_l20Rd_pick.f k s p 3).bind fun e => if 0 ≤ e.1 ∧ e.1 < 3 then some (rows, (ppG1 cols).getD e.1.toNat 0, cs, e.2) else none
  else if c = 2 then (spec_l20Rd_pick.f k s p 2).bind fun e => if 0 ≤ e.1 ∧ e.1 < 2 then some (rows, cols, pgSet cs a { pgEl cs a with f0 := (ppG2 rows).getD e.1.toNat 0 }, e.2) else none
  else if c = 3 then (spec_l20Rd_pick.f k s p 3).bind fun e => if 0 ≤ e.1 ∧ e.1 < 3 then some (rows, cols, pgSet cs a { pgEl cs a with f3 := (ppG3 cols).getD e.1.toNat 0 }, e.2) else none
  else if c = 4 then (spec_l20Rd_pick.f k s p 2).bind fun e => if 0 ≤ e.1 ∧ e.1 < 2 then (spec_l20Rd_pick.f k s e.2 2).bind fun d => if 0 ≤ d.1 ∧ d.1 < 2 then
    some (rows, cols, pgSet (pgSet cs a { pgEl cs a with f4 := ppG4.getD e.1.toNat 0 }) a { pgEl (pgSet cs a { pgEl cs a with f4 := ppG4.getD e.1.toNat 0 }) a with f2 := ppG5.getD d.1.toNat 0 }, d.2) else none else none
  else if cs.length < 3518437208883 then some (rows, cols, cs ++ [pgEl cs a], p) else none
def spec_l20Grid.f (k : Nat) (s : List Int) (p n : Int) : Option (Int × Int × List S34 × Int) := (spec_l20Table.f k s p).bind fun t => (spec_GrdOf.f k t.1.cols t.1.head t.1.foot t.1.rows t.1.gap).bind fun g => (spec_l20Rd_pick.f k s t.2 n).bind fun c =>
  if c.1 > 0 ∨ g.2.2.length = 0 then some (g.1, g.2.1, g.2.2, c.2) else (spec_l20Rd_pick.f k s c.2 g.2.2.length).bind fun a => if 0 ≤ a.1 ∧ a.1 < g.2.2.length then (spec_l20Rd_pick.f k s a.2 6).bind fun sw => spec_l20Grid.turn k s g.1 g.2.1 g.2.2 a.1.toNat sw.2 sw.1 else none
theorem spec_l20Grid.mono_t (k : Nat) (s : List Int) (rows cols : Int) (cs : List S34) (a : Nat) (p c : Int) : LeO (spec_l20Grid.turn k s rows cols cs a p c) (spec_l20Grid.turn (k + 1) s rows cols cs a p c) := by
  unfold spec_l20Grid.turn
  repeat' first
  | exact LeO.refl _
  | exact LeO.none _
  | exact spec_l20Rd_pick.mono _ _ _ _
  | refine LeO.ite ?_ ?_
  | refine LeO.bind ?_ (fun _ => ?_)
theorem spec_l20Grid.mono : ∀ a0 a1 a2 k, LeO (spec_l20Grid.f k a0 a1 a2) (spec_l20Grid.f (k + 1) a0 a1 a2) := fun _ _ _ k => by
  unfold spec_l20Grid.f
  exact LeO.bind (spec_l20Table.mono _ _ _) fun _ => LeO.bind (spec_GrdOf.mono _ _ _ _ _ _) fun _ => LeO.bind (spec_l20Rd_pick.mono _ _ _ _) fun _ => LeO.ite (LeO.refl _) (LeO.bind (spec_l20Rd_pick.mono _ _ _ _) fun _ => LeO.ite (LeO.bind (spec_l20Rd_pick.mono _ _ _ _) fun _ => spec_l20Grid.mono_t _ _ _ _ _ _ _ _) (LeO.none _))
theorem run_R {α : Type} {P : Program} (d : Kd α) {oi : Oper} {ev : Operand → Value} {W : World} {x y : Operand} (t : TypeId) (ho : oi.op = .store t x y) {g n cap base e o' : Nat} {ok : Nat → Prop} {xs : List α} (i j : Nat) (u : Value) (seg : List Value) (hx : ev x = .pointer (some ⟨g, o', none⟩)) (hoff : o' = i * d.sz + j) (hy : ev y = u) (hu : u.cells.toList = seg) (ht : (P.info? t).map (·.size) = some seg.length) (h1 : ∀ q ∈ seg, q.oneCell' = true)
    (HO : d.R e W base ok (.slice (some ⟨g, 0, none⟩) n cap) xs) (hi : i < n) (hj : j + seg.length ≤ d.sz) : (execOp ev oi).run P W = .ok .skip (W.setCells g o' seg) := by
  have hnx : n = xs.length := (Kd.R_reads' HO).1
  obtain ⟨_, inner, hown, hr⟩ := HO
  have hrun : (Instr.storeAt t (.pointer (some ⟨g, o', none⟩)) u).run P W = .ok () (W.setCells g o' seg) := by
    rcases hown.2 with ⟨hv, _⟩ | ⟨g', cap', cur, hv, hb, hh, hnc, hcm, hcs, _⟩
    · cases hv
    injection hv with ha _ hc
    injection ha with ha
    injection ha with hg'
    subst hg'; subst hc
    refine run_store_run t u seg hh hu ht ?_ h1
    have h2 : i * d.sz + d.sz ≤ n * d.sz := by rw [← Nat.succ_mul]; exact Nat.mul_le_mul_right _ hi
    have h3 : n * d.sz ≤ cap * d.sz := Nat.mul_le_mul_right _ (by omega)
    omega
  unfold execOp
  simp only [ho, hx, hy, Sem.run_bind, Sem.run_pure, Result.andThen_ok, hrun]
theorem grd_R {W : World} {g n cap base : Nat} {ok : Nat → Prop} {xs : List S34} (i j : Nat) (x' : S34) (u : Value) (HO : Kd.R k34 34 W base ok (.slice (some ⟨g, 0, none⟩) n cap) xs) (hi : i < n) (hj : j + 1 ≤ 5)
    (he : [Value.int .i64 (pgEl xs i).f0, .int .i64 (pgEl xs i).f1, .int .i64 (pgEl xs i).f2, .int .i64 (pgEl xs i).f3, .int .i64 (pgEl xs i).f4].take j ++ [u] ++ [Value.int .i64 (pgEl xs i).f0, .int .i64 (pgEl xs i).f1, .int .i64 (pgEl xs i).f2, .int .i64 (pgEl xs i).f3, .int .i64 (pgEl xs i).f4].drop (j + 1) = [Value.int .i64 x'.f0, .int .i64 x'.f1, .int .i64 x'.f2, .int .i64 x'.f3, .int .i64 x'.f4]) :
    Kd.R k34 34 (W.setCells g (i * 5 + j) [u]) base ok (.slice (some ⟨g, 0, none⟩) n cap) (xs.set i x') ∧ W.grownBy (W.setCells g (i * 5 + j) [u]) (some g) := by
  obtain ⟨c, hcl, hM, hcc, _⟩ := Kd.R_elem HO z34 i (by omega) (by omega)
  have hc := k34_open (k34.K_of_M hM)
  rw [Int.toNat_natCast, show xs.getD i z34 = pgEl xs i from rfl] at hc
  subst hc
  have h := Kd.R_seg HO i (by omega) (by omega) hcl hcc (seg := [u]) (j := j) (x' := x') (okp := fun _ => False) hj (by show Kd.M k34 W base _ x' _; simp only [List.length_singleton]; rw [he]; exact k34_mkM _ _ _ x') (fun _ h => h.elim)
  rw [Int.toNat_natCast] at h
  exact h
def spec_l20Grid.T8 : Bool × List (List Nat × List Nat) := (true, [([], []), ([0], [0]), ([1], [1]), ([2], [2]), ([], []), ([4], [4]), ([3, 5], [3, 5]), ([6], [6]), ([0, 1, 2, 3, 4, 5, 6, 7], []), ([8, 7, 5, 0, 1, 2, 3, 4, 5, 6, 7], [7, 8])])
def spec_l20Grid.B8 : List Nat := [0, 1, 3, 7, 0, 16, 63, 127, 255, 511]
def spec_l20Grid.L8 : List (Nat × Tmp) := [(0, 40), (1, 41), (2, 42), (3, 43), (4, 44), (5, 45), (6, 46), (7, 47), (8, 48)]
def spec_l20Grid.O8 : List Nat := [0, 1, 2, 3, 4, 5, 6, 7, 8, 9]
theorem spec_l20Grid.tab8 : rtab .any (opsOf Tryd.f15 8) = spec_l20Grid.T8 := by kernel_rfl
theorem spec_l20Grid.bits8 : waitsOk spec_l20Grid.T8.2 spec_l20Grid.B8 = true := by kernel_rfl
theorem spec_l20Grid.base8 : baseOk spec_l20Grid.T8.2 spec_l20Grid.O8 = true := by kernel_rfl
theorem spec_l20Grid.lof8 : (lof spec_l20Grid.T8.2.length spec_l20Grid.O8 (fun _ => false) == List.replicate spec_l20Grid.T8.2.length false && spec_l20Grid.O8.length == spec_l20Grid.T8.2.length) = true := by kernel_rfl
theorem spec_l20Grid.ents8 : chkL (opsOf Tryd.f15 8) spec_l20Grid.O8 spec_l20Grid.L8 = true := by kernel_rfl
theorem spec_l20Grid.last8 : lastOk spec_l20Grid.B8 spec_l20Grid.O8 9 = true := by kernel_rfl
def spec_l20Grid.F8 (e : Nat) : Nat → Option (Nat → Value)
  | 3 => some (fun C => .slice (some ⟨C, 0, none⟩) 3 3)
  | 6 => some (fun C => .pointer (some ⟨C, e, none⟩))
  | _ => none
def spec_l20Grid.V8 (g gb a e : Nat) (u rows cols : Int) (X cap n : Nat) : Nat → Value
  | 0 => .pointer (some ⟨gb, 0, none⟩)
  | 1 => .int .i64 rows
  | 2 => .int .i64 (wrap64 (rows + 1))
  | 4 => .pointer (some ⟨g, 0, none⟩)
  | 5 => .int .i64 e
  | 7 => .int .i64 u
  | 8 => .pointer (some ⟨gb, 0, none⟩)
  | _ => undef
def spec_l20Grid.T10 : Bool × List (List Nat × List Nat) := (true, [([], []), ([0], [0]), ([1], [1]), ([2], [2]), ([], []), ([4], [4]), ([3, 5], [3, 5]), ([6], [6]), ([0, 1, 2, 3, 4, 5, 6, 7], []), ([8, 7, 5, 0, 1, 2, 3, 4, 5, 6, 7], [7, 8])])
def spec_l20Grid.B10 : List Nat := [0, 1, 3, 7, 0, 16, 63, 127, 255, 511]
def spec_l20Grid.L10 : List (Nat × Tmp) := [(0, 51), (1, 52), (2, 53), (3, 54), (4, 55), (5, 56), (6, 57), (7, 58), (8, 59)]
def spec_l20Grid.O10 : List Nat := [0, 1, 2, 3, 4, 5, 6, 7, 8, 9]
theorem spec_l20Grid.tab10 : rtab .any (opsOf Tryd.f15 10) = spec_l20Grid.T10 := by kernel_rfl
theorem spec_l20Grid.bits10 : waitsOk spec_l20Grid.T10.2 spec_l20Grid.B10 = true := by kernel_rfl
theorem spec_l20Grid.base10 : baseOk spec_l20Grid.T10.2 spec_l20Grid.O10 = true := by kernel_rfl
theorem spec_l20Grid.lof10 : (lof spec_l20Grid.T10.2.length spec_l20Grid.O10 (fun _ => false) == List.replicate spec_l20Grid.T10.2.length false && spec_l20Grid.O10.length == spec_l20Grid.T10.2.length) = true := by kernel_rfl
theorem spec_l20Grid.ents10 : chkL (opsOf Tryd.f15 10) spec_l20Grid.O10 spec_l20Grid.L10 = true := by kernel_rfl
theorem spec_l20Grid.last10 : lastOk spec_l20Grid.B10 spec_l20Grid.O10 9 = true := by kernel_rfl
def spec_l20Grid.F10 (e : Nat) : Nat → Option (Nat → Value)
  | 3 => some (fun C => .slice (some ⟨C, 0, none⟩) 3 3)
  | 6 => some (fun C => .pointer (some ⟨C, e, none⟩))
  | _ => none
def spec_l20Grid.V10 (g gb a e : Nat) (u rows cols : Int) (X cap n : Nat) : Nat → Value
  | 0 => .pointer (some ⟨gb, 1, none⟩)
  | 1 => .int .i64 cols
  | 2 => .int .i64 (wrap64 (cols + 1))
  | 4 => .pointer (some ⟨g, 0, none⟩)
  | 5 => .int .i64 e
  | 7 => .int .i64 u
  | 8 => .pointer (some ⟨gb, 1, none⟩)
  | _ => undef
def spec_l20Grid.T12 : Bool × List (List Nat × List Nat) := (true, [([], []), ([0], [0]), ([], []), ([], []), ([3], [3]), ([4], [4]), ([], []), ([6], [6]), ([5, 7], [5, 7]), ([8], [8]), ([1, 2, 0, 1, 2, 3, 4, 5, 6, 7, 8, 9], [1, 2]), ([10, 0, 1, 2, 3, 4, 5, 6, 7, 8, 9], [10]), ([11, 9, 7, 0, 1, 2, 3, 4, 5, 6, 7, 8, 9], [9, 11])])
def spec_l20Grid.B12 : List Nat := [0, 1, 0, 0, 8, 24, 0, 64, 248, 504, 1023, 2047, 4095]
def spec_l20Grid.L12 : List (Nat × Tmp) := [(0, 62), (1, 63), (2, 64), (3, 65), (4, 66), (5, 67), (6, 68), (7, 69), (8, 70), (9, 71), (10, 72), (11, 73)]
def spec_l20Grid.O12 : List Nat := [0, 1, 2, 3, 4, 5, 6, 7, 8, 9, 10, 11, 12]
theorem spec_l20Grid.tab12 : rtab .any (opsOf Tryd.f15 12) = spec_l20Grid.T12 := by kernel_rfl
theorem spec_l20Grid.bits12 : waitsOk spec_l20Grid.T12.2 spec_l20Grid.B12 = true := by kernel_rfl
theorem spec_l20Grid.base12 : baseOk spec_l20Grid.T12.2 spec_l20Grid.O12 = true := by kernel_rfl
theorem spec_l20Grid.lof12 : (lof spec_l20Grid.T12.2.length spec_l20Grid.O12 (fun _ => false) == List.replicate spec_l20Grid.T12.2.length false && spec_l20Grid.O12.length == spec_l20Grid.T12.2.length) = true := by kernel_rfl
theorem spec_l20Grid.ents12 : chkL (opsOf Tryd.f15 12) spec_l20Grid.O12 spec_l20Grid.L12 = true := by kernel_rfl
theorem spec_l20Grid.last12 : lastOk spec_l20Grid.B12 spec_l20Grid.O12 12 = true := by kernel_rfl
def spec_l20Grid.F12 (e : Nat) : Nat → Option (Nat → Value)
  | 5 => some (fun C => .slice (some ⟨C, 0, none⟩) 2 2)
  | 8 => some (fun C => .pointer (some ⟨C, e, none⟩))
  | _ => none
def spec_l20Grid.V12 (g gb a e : Nat) (u rows cols : Int) (X cap n : Nat) : Nat → Value
  | 0 => .pointer (some ⟨gb, 2, none⟩)
  | 1 => (.slice (some ⟨X, 0, none⟩) n cap)
  | 2 => .int .i64 a
  | 3 => .pointer (some ⟨gb, 0, none⟩)
  | 4 => .int .i64 rows
  | 6 => .pointer (some ⟨g, 0, none⟩)
  | 7 => .int .i64 e
  | 9 => .int .i64 u
  | 10 => .pointer (some ⟨X, a * 5, none⟩)
  | 11 => .pointer (some ⟨X, a * 5, none⟩)
  | _ => undef
def spec_l20Grid.T14 : Bool × List (List Nat × List Nat) := (true, [([], []), ([0], [0]), ([], []), ([], []), ([3], [3]), ([4], [4]), ([5], [5]), ([], []), ([7], [7]), ([6, 8], [6, 8]), ([9], [9]), ([1, 2, 0, 1, 2, 3, 4, 5, 6, 7, 8, 9, 10], [1, 2]), ([11, 0, 1, 2, 3, 4, 5, 6, 7, 8, 9, 10], [11]), ([12, 10, 8, 0, 1, 2, 3, 4, 5, 6, 7, 8, 9, 10], [10, 12])])
def spec_l20Grid.B14 : List Nat := [0, 1, 0, 0, 8, 24, 56, 0, 128, 504, 1016, 2047, 4095, 8191]
def spec_l20Grid.L14 : List (Nat × Tmp) := [(0, 76), (1, 77), (2, 78), (3, 79), (4, 80), (5, 81), (6, 82), (7, 83), (8, 84), (9, 85), (10, 86), (11, 87), (12, 88)]
def spec_l20Grid.O14 : List Nat := [0, 1, 2, 3, 4, 5, 6, 7, 8, 9, 10, 11, 12, 13]
theorem spec_l20Grid.tab14 : rtab .any (opsOf Tryd.f15 14) = spec_l20Grid.T14 := by kernel_rfl
theorem spec_l20Grid.bits14 : waitsOk spec_l20Grid.T14.2 spec_l20Grid.B14 = true := by kernel_rfl
theorem spec_l20Grid.base14 : baseOk spec_l20Grid.T14.2 spec_l20Grid.O14 = true := by kernel_rfl
theorem spec_l20Grid.lof14 : (lof spec_l20Grid.T14.2.length spec_l20Grid.O14 (fun _ => false) == List.replicate spec_l20Grid.T14.2.length false && spec_l20Grid.O14.length == spec_l20Grid.T14.2.length) = true := by kernel_rfl
theorem spec_l20Grid.ents14 : chkL (opsOf Tryd.f15 14) spec_l20Grid.O14 spec_l20Grid.L14 = true := by kernel_rfl
theorem spec_l20Grid.last14 : lastOk spec_l20Grid.B14 spec_l20Grid.O14 13 = true := by kernel_rfl
def spec_l20Grid.F14 (e : Nat) : Nat → Option (Nat → Value)
  | 6 => some (fun C => .slice (some ⟨C, 0, none⟩) 3 3)
  | 9 => some (fun C => .pointer (some ⟨C, e, none⟩))
  | _ => none
def spec_l20Grid.V14 (g gb a e : Nat) (u rows cols : Int) (X cap n : Nat) : Nat → Value
  | 0 => .pointer (some ⟨gb, 2, none⟩)
  | 1 => (.slice (some ⟨X, 0, none⟩) n cap)
  | 2 => .int .i64 a
  | 3 => .pointer (some ⟨gb, 1, none⟩)
  | 4 => .int .i64 cols
  | 5 => .int .i64 (wrap64 (cols + 1))
  | 7 => .pointer (some ⟨g, 0, none⟩)
  | 8 => .int .i64 e
  | 10 => .int .i64 u
  | 11 => .pointer (some ⟨X, a * 5, none⟩)
  | 12 => .pointer (some ⟨X, a * 5 + 3, none⟩)
  | _ => undef
def spec_l20Grid.T16 : Bool × List (List Nat × List Nat) := (true, [([], []), ([0], [0]), ([], []), ([], []), ([], []), ([4], [4]), ([3, 5], [3, 5]), ([6], [6]), ([1, 2, 0, 1, 2, 3, 4, 5, 6, 7], [1, 2]), ([8, 0, 1, 2, 3, 4, 5, 6, 7], [8]), ([9, 7, 5, 0, 1, 2, 3, 4, 5, 6, 7], [7, 9])])
def spec_l20Grid.B16 : List Nat := [0, 1, 0, 0, 0, 16, 56, 120, 255, 511, 1023]
def spec_l20Grid.L16 : List (Nat × Tmp) := [(0, 91), (1, 92), (2, 93), (3, 94), (4, 95), (5, 96), (6, 97), (7, 98), (8, 99), (9, 100)]
def spec_l20Grid.O16 : List Nat := [0, 1, 2, 3, 4, 5, 6, 7, 8, 9, 10]
theorem spec_l20Grid.tab16 : rtab .any (opsOf Tryd.f15 16) = spec_l20Grid.T16 := by kernel_rfl
theorem spec_l20Grid.bits16 : waitsOk spec_l20Grid.T16.2 spec_l20Grid.B16 = true := by kernel_rfl
theorem spec_l20Grid.base16 : baseOk spec_l20Grid.T16.2 spec_l20Grid.O16 = true := by kernel_rfl
theorem spec_l20Grid.lof16 : (lof spec_l20Grid.T16.2.length spec_l20Grid.O16 (fun _ => false) == List.replicate spec_l20Grid.T16.2.length false && spec_l20Grid.O16.length == spec_l20Grid.T16.2.length) = true := by kernel_rfl
theorem spec_l20Grid.ents16 : chkL (opsOf Tryd.f15 16) spec_l20Grid.O16 spec_l20Grid.L16 = true := by kernel_rfl
theorem spec_l20Grid.last16 : lastOk spec_l20Grid.B16 spec_l20Grid.O16 10 = true := by kernel_rfl
def spec_l20Grid.F16 (e : Nat) : Nat → Option (Nat → Value)
  | 3 => some (fun C => .slice (some ⟨C, 0, none⟩) 2 2)
  | 6 => some (fun C => .pointer (some ⟨C, e, none⟩))
  | _ => none
def spec_l20Grid.V16 (g gb a e : Nat) (u rows cols : Int) (X cap n : Nat) : Nat → Value
  | 0 => .pointer (some ⟨gb, 2, none⟩)
  | 1 => (.slice (some ⟨X, 0, none⟩) n cap)
  | 2 => .int .i64 a
  | 4 => .pointer (some ⟨g, 0, none⟩)
  | 5 => .int .i64 e
  | 7 => .int .i64 u
  | 8 => .pointer (some ⟨X, a * 5, none⟩)
  | 9 => .pointer (some ⟨X, a * 5 + 4, none⟩)
  | _ => undef
def spec_l20Grid.T17 : Bool × List (List Nat × List Nat) := (true, [([], []), ([0], [0]), ([], []), ([], []), ([], []), ([4], [4]), ([3, 5], [3, 5]), ([6], [6]), ([1, 2, 0, 1, 2, 3, 4, 5, 6, 7], [1, 2]), ([8, 0, 1, 2, 3, 4, 5, 6, 7], [8]), ([9, 7, 5, 0, 1, 2, 3, 4, 5, 6, 7], [7, 9])])
def spec_l20Grid.B17 : List Nat := [0, 1, 0, 0, 0, 16, 56, 120, 255, 511, 1023]
def spec_l20Grid.L17 : List (Nat × Tmp) := [(0, 101), (1, 102), (2, 103), (3, 104), (4, 105), (5, 106), (6, 107), (7, 108), (8, 109), (9, 110)]
def spec_l20Grid.O17 : List Nat := [0, 1, 2, 3, 4, 5, 6, 7, 8, 9, 10]
theorem spec_l20Grid.tab17 : rtab .any (opsOf Tryd.f15 17) = spec_l20Grid.T17 := by kernel_rfl
theorem spec_l20Grid.bits17 : waitsOk spec_l20Grid.T17.2 spec_l20Grid.B17 = true := by kernel_rfl
theorem spec_l20Grid.base17 : baseOk spec_l20Grid.T17.2 spec_l20Grid.O17 = true := by kernel_rfl
theorem spec_l20Grid.lof17 : (lof spec_l20Grid.T17.2.length spec_l20Grid.O17 (fun _ => false) == List.replicate spec_l20Grid.T17.2.length false && spec_l20Grid.O17.length == spec_l20Grid.T17.2.length) = true := by kernel_rfl
theorem spec_l20Grid.ents17 : chkL (opsOf Tryd.f15 17) spec_l20Grid.O17 spec_l20Grid.L17 = true := by kernel_rfl
theorem spec_l20Grid.last17 : lastOk spec_l20Grid.B17 spec_l20Grid.O17 10 = true := by kernel_rfl
def spec_l20Grid.F17 (e : Nat) : Nat → Option (Nat → Value)
  | 3 => some (fun C => .slice (some ⟨C, 0, none⟩) 2 2)
  | 6 => some (fun C => .pointer (some ⟨C, e, none⟩))
  | _ => none
def spec_l20Grid.V17 (g gb a e : Nat) (u rows cols : Int) (X cap n : Nat) : Nat → Value
  | 0 => .pointer (some ⟨gb, 2, none⟩)
  | 1 => (.slice (some ⟨X, 0, none⟩) n cap)
  | 2 => .int .i64 a
  | 4 => .pointer (some ⟨g, 0, none⟩)
  | 5 => .int .i64 e
  | 7 => .int .i64 u
  | 8 => .pointer (some ⟨X, a * 5, none⟩)
  | 9 => .pointer (some ⟨X, a * 5 + 2, none⟩)
  | _ => undef
theorem grd_cells {W : World} {g n cap base : Nat} {ok : Nat → Prop} {xs : List S34} (a : Nat) (HO : Kd.R k34 34 W base ok (.slice (some ⟨g, 0, none⟩) n cap) xs) (hi : a < n) :
    W.cell? ⟨g, a * 5, none⟩ = some (.int .i64 (pgEl xs a).f0) ∧ W.cell? ⟨g, a * 5 + 1, none⟩ = some (.int .i64 (pgEl xs a).f1) ∧ W.cell? ⟨g, a * 5 + 2, none⟩ = some (.int .i64 (pgEl xs a).f2) ∧ W.cell? ⟨g, a * 5 + 3, none⟩ = some (.int .i64 (pgEl xs a).f3) ∧ W.cell? ⟨g, a * 5 + 4, none⟩ = some (.int .i64 (pgEl xs a).f4) := by
  obtain ⟨c, hcl, hM, hcc, _⟩ := Kd.R_elem HO z34 a (by omega) (by omega)
  have hc := k34_open (k34.K_of_M hM)
  rw [Int.toNat_natCast, show xs.getD a z34 = pgEl xs a from rfl] at hc
  rw [Int.toNat_natCast] at hcc
  subst hc
  exact ⟨hcc 0 _ rfl, hcc 1 _ rfl, hcc 2 _ rfl, hcc 3 _ rfl, hcc 4 _ rfl⟩
def spec_l20Grid.T6 : Bool × List (List Nat × List Nat) := (true, [([], []), ([0], [0]), ([], []), ([2], [2]), ([], []), ([3, 4], [3, 4]), ([5], [5]), ([6], [6]), ([1, 7], [1, 7]), ([0, 1, 2, 3, 4, 5, 6, 7, 8], []), ([9, 8, 8, 0, 1, 2, 3, 4, 5, 6, 7, 8], [8, 9])])
def spec_l20Grid.B6 : List Nat := [0, 1, 0, 4, 0, 28, 60, 124, 255, 511, 1023]
def spec_l20Grid.L6 : List (Nat × Tmp) := [(0, 28), (1, 29), (2, 30), (3, 31), (4, 32), (5, 33), (6, 34), (7, 35), (8, 36), (9, 37)]
def spec_l20Grid.O6 : List Nat := [0, 1, 2, 3, 4, 5, 6, 7, 8, 9, 10]
theorem spec_l20Grid.tab6 : rtab .any (opsOf Tryd.f15 6) = spec_l20Grid.T6 := by kernel_rfl
theorem spec_l20Grid.bits6 : waitsOk spec_l20Grid.T6.2 spec_l20Grid.B6 = true := by kernel_rfl
theorem spec_l20Grid.base6 : baseOk spec_l20Grid.T6.2 spec_l20Grid.O6 = true := by kernel_rfl
theorem spec_l20Grid.lof6 : (lof spec_l20Grid.T6.2.length spec_l20Grid.O6 (fun _ => false) == List.replicate spec_l20Grid.T6.2.length false && spec_l20Grid.O6.length == spec_l20Grid.T6.2.length) = true := by kernel_rfl
theorem spec_l20Grid.ents6 : chkL (opsOf Tryd.f15 6) spec_l20Grid.O6 spec_l20Grid.L6 = true := by kernel_rfl
theorem spec_l20Grid.last6 : lastOk spec_l20Grid.B6 spec_l20Grid.O6 10 = true := by kernel_rfl
def spec_l20Grid.F6 : Nat → Option (Nat → Value)
  | 7 => some (fun C => .slice (some ⟨C, 0, none⟩) 1 1)
  | _ => none
def spec_l20Grid.V6 (gb a X cap n : Nat) (x : Value) : Nat → Value
  | 0 | 2 | 9 => .pointer (some ⟨gb, 2, none⟩)
  | 1 | 3 => .slice (some ⟨X, 0, none⟩) n cap
  | 4 => .int .i64 a
  | 5 => .pointer (some ⟨X, a * 5, none⟩)
  | _ => x
def spec_l20Grid.P6 (w wr : World) (cs : List S34) (x : S34) (V : Nat → Value) : Nat → Value → World → Prop
  | 8, v, W => Kd.R k34 34 W w.heap.size (fun _ => True) v (cs ++ [x])
  | j, v, W => PhiB spec_l20Grid.F6 (fun _ => .cells (outA x.f0 x.f1 x.f2 x.f3 x.f4) 34 (0, 0)) V wr.heap.size j v W
set_option maxHeartbeats 4000000 in
set_option maxRecDepth 100000 in
theorem spec_l20Grid.calls (k : Nat) (g : Nat) (s0_0 : List Int) (s0_1 : Int) (a1 : Int) (r1 : Int) (r2 : Int) (r3 : List (S34)) (r4 : Int) (w0 w : World) (hI : IsS48 w0 w g s0_0 s0_1) (hB : Below w0.heap.size w0 w) (h : spec_l20Grid.f k s0_0 s0_1 a1 = some (r1, r2, r3, r4)) :
    Calls Tryd.prog 15 #[.pointer (some ⟨g, 0, none⟩), .int .i64 a1] w fun e w' => ∃ v2_ : Value, e = .returned (.agg #[.int .i64 r1, .int .i64 r2, v2_]) ∧ Kd.R k34 34 w' w.heap.size (fun _ => True) v2_ r3 ∧ IsS48 w0 w' g s0_0 r4 ∧ Below w0.heap.size w0 w' ∧ KeepBut w w' g none := by
  have HR := Aside0.mk (Rds.new hI hB)
  have hgw : g < w.heap.size := HR.out.lt
  clear hI hB
  unfold spec_l20Grid.f at h
  rw [Option.bind_eq_some_iff] at h
  obtain ⟨⟨t, p1⟩, h1, h⟩ := h
  have A1 := Aside0.mk h1
  clear h1
  rw [Option.bind_eq_some_iff] at h
  obtain ⟨⟨rows, cols, cs⟩, h1, h⟩ := h
  have A2 := Aside0.mk h1
  clear h1
  rw [Option.bind_eq_some_iff] at h
  obtain ⟨⟨c, p2⟩, h1, h⟩ := h
  have A3 := Aside0.mk h1
  clear h1
  simp only at h A2 A3
  have HH := Aside0.mk h
  clear h
  go_enter Tryd.func15, Tryd.ntmps15
  go_upto_region 2 with (first | (go_at_call 29; (with_reducible refine (spec_l20Table.calls k g s0_0 s0_1 t p1 w0 _ (IsS48.alloc HR.out.st _) (below_alloc HR.out.bl _) A1.out).mono ?_); rintro e_ W1 ⟨vc, vr, rfl, hR, hS, hi, hb, hk⟩; have HQ := Aside0.mk ((HR.out.alloc _).call hi hb hk); have HB := Aside0.mk ((HR.out.alloc _).blk hk (blk_new w _) (Nat.le_refl _)); obtain ⟨Ac, cc, rfl⟩ := Kd.R_slice hR; obtain ⟨Ar, cr, rfl⟩ := Kd.S_slice hS; have HC1 := Aside0.mk (Kd.R_reads' hR); have HC2 := Aside0.mk (Kd.S_reads' hS); clear hR hS hi hb hk) | (go_at_call 28; (with_reducible refine (spec_GrdOf.calls k Ac cc t.cols t.head t.foot Ar cr t.rows t.gap rows cols cs _ HC1.out.2.2 HC1.out.2.1 HC2.out.2.2 HC2.out.2.1 A2.out).mono ?_); rintro e_ W2 ⟨v, rfl, hR, hb⟩; obtain ⟨vX, cap, rfl⟩ := Kd.R_slice hR; have hl0 := HQ.out.size; replace HQ := Aside0.mk (HQ.out.below hb); replace HB := Aside0.mk ((hb.block _ (blk_lt HB.out)).trans HB.out); have HV := Aside0.mk (Kd.R_lower hR hl0); clear hR hb hl0 HC1 HC2))
  have HQ1 := HQ.out.alloc (.cells (gridA rows cols (.slice vX cs.length cap)) 25)
  have HB1 := blk_alloc HB.out (.cells (gridA rows cols (.slice vX cs.length cap)) 25)
  have HG1 := blk_new W2 (.cells (gridA rows cols (.slice vX cs.length cap)) 25)
  have HV1 := Kd.R_alloc HV.out (.cells (gridA rows cols (.slice vX cs.length cap)) 25)
  have HGN1 : w.heap.size < W2.heap.size := blk_lt HB.out
  obtain ⟨WA, hWA⟩ : ∃ WA, W2.alloc (.cells (gridA rows cols (.slice vX cs.length cap)) 25) = WA := ⟨_, rfl⟩
  obtain ⟨gb, hgb⟩ : ∃ gb, W2.heap.size = gb := ⟨_, rfl⟩
  show Code.wp Tryd.prog _ _ _ (W2.alloc (.cells (gridA rows cols (.slice vX cs.length cap)) 25))
  rw [hWA] at HQ1 HB1 HG1 HV1 ⊢
  rw [hgb] at HG1 HGN1 ⊢
  clear hWA hgb HQ HB HV
  have HQ := Aside0.mk HQ1
  have HB : Aside0 (WA.heap[w.heap.size]? = some (.cells (gridA 0 0 (.slice none 0 0)) 25 (0, 0))) := ⟨HB1⟩
  have HG := Aside0.mk HG1
  have HV := Aside0.mk HV1
  have HGN := Aside0.mk HGN1
  have HGB := Aside0.mk (Nat.le_of_lt HGN1)
  clear HQ1 HB1 HG1 HV1 HGN1 A1 A2 HR
  have h := HH.out
  clear HH
  by_cases hc : c > 0
  · rw [if_pos (Or.inl hc)] at h
    simp only [Option.some.injEq, Prod.mk.injEq] at h
    obtain ⟨rfl, rfl, rfl, rfl⟩ := h
    go_upto_region 3 with (go_at_call 16; (with_reducible refine (spec_l20Rd_pick.calls k g s0_0 p1 a1 c p2 w0 _ HQ.out.st HQ.out.bl A3.out).mono ?_); rintro e_ W3 ⟨rfl, hi, hb, hk⟩; replace HB := Aside0.mk (HQ.out.blk hk HB.out (Nat.le_refl _)); replace HG := Aside0.mk (HQ.out.blk hk HG.out HGB.out); replace HV := Aside0.mk (R_keepG HV.out hgw hk); replace HQ := Aside0.mk (HQ.out.call hi hb hk); clear hi hb hk; (try clear q2); have q2 : W3.cell? ⟨gb, 2, none⟩ = some (.slice vX cs.length cap) := (blk_cell HG.out 2).trans rfl)
    go_wp2_with (first | (refine wpList_load_row rfl 25 _ rfl gb rfl 25 (gridA rows cols (.slice vX cs.length cap)) (0, 0) _ HG.out Tryd.underlying25 rfl (by kernel_rfl) ?_) | (refine wpList_put 25 _ _ rfl rfl w.heap.size 0 rfl (.agg (gridA rows cols (.slice vX cs.length cap))) rfl 25 (gridA 0 0 (.slice none 0 0)) (gridA rows cols (.slice vX cs.length cap)) HB.out (by kernel_rfl) rfl rfl rfl (fun W9 hp => ?_); have HF := Aside0.mk (HQ.out.put hp (Nat.le_refl _)); have HFB := Aside0.mk hp.blk; have HFV := Aside0.mk (R_put HV.out HB.out hp (by decide)); clear hp))
    exact bodyPost_ret (results_cell_row rfl _ _ w.heap.size 25 (gridA rows cols (.slice vX cs.length cap)) (0, 0) _ rfl HFB.out Tryd.underlying25 rfl (by kernel_rfl)) rfl ⟨_, rfl, HFV.out, HF.out.st, HF.out.bl, HF.out.kp⟩
  · by_cases hl : cs.length = 0
    · rw [if_pos (Or.inr hl)] at h
      simp only [Option.some.injEq, Prod.mk.injEq] at h
      obtain ⟨rfl, rfl, rfl, rfl⟩ := h
      have hlzb : ((cs.length : Int) == 0) = true := by rw [hl]; rfl
      clear hl
      have hcb : decide (c > 0) = false := decide_eq_false hc
      go_upto_region 3 with (go_at_call 16; (with_reducible refine (spec_l20Rd_pick.calls k g s0_0 p1 a1 c p2 w0 _ HQ.out.st HQ.out.bl A3.out).mono ?_); rintro e_ W3 ⟨rfl, hi, hb, hk⟩; replace HB := Aside0.mk (HQ.out.blk hk HB.out (Nat.le_refl _)); replace HG := Aside0.mk (HQ.out.blk hk HG.out HGB.out); replace HV := Aside0.mk (R_keepG HV.out hgw hk); replace HQ := Aside0.mk (HQ.out.call hi hb hk); clear hi hb hk; (try clear q2); have q2 : W3.cell? ⟨gb, 2, none⟩ = some (.slice vX cs.length cap) := (blk_cell HG.out 2).trans rfl)
      go_wp2_with (first | (refine wpList_load_row rfl 25 _ rfl gb rfl 25 (gridA rows cols (.slice vX cs.length cap)) (0, 0) _ HG.out Tryd.underlying25 rfl (by kernel_rfl) ?_) | (refine wpList_put 25 _ _ rfl rfl w.heap.size 0 rfl (.agg (gridA rows cols (.slice vX cs.length cap))) rfl 25 (gridA 0 0 (.slice none 0 0)) (gridA rows cols (.slice vX cs.length cap)) HB.out (by kernel_rfl) rfl rfl rfl (fun W9 hp => ?_); have HF := Aside0.mk (HQ.out.put hp (Nat.le_refl _)); have HFB := Aside0.mk hp.blk; have HFV := Aside0.mk (R_put HV.out HB.out hp (by decide)); clear hp))
      exact bodyPost_ret (results_cell_row rfl _ _ w.heap.size 25 (gridA rows cols (.slice vX cs.length cap)) (0, 0) _ rfl HFB.out Tryd.underlying25 rfl (by kernel_rfl)) rfl ⟨_, rfl, HFV.out, HF.out.st, HF.out.bl, HF.out.kp⟩
    · rw [if_neg (by omega)] at h
      rw [Option.bind_eq_some_iff] at h
      obtain ⟨⟨a, p3⟩, h1, h⟩ := h
      have A4 := Aside0.mk h1
      clear h1
      simp only at h
      split at h
      · rename_i hab
        obtain ⟨a, rfl⟩ : ∃ n : Nat, a = n := ⟨a.toNat, by omega⟩
        rw [Int.toNat_natCast] at h
        have haz : (a : Int) < (cs.length : Int) := hab.2
        have HA := Aside0.mk (show a < cs.length by omega)
        have hlz : ¬ (cs.length : Int) = 0 := by omega
        clear hab hl
        rw [Option.bind_eq_some_iff] at h
        obtain ⟨⟨sw, p4⟩, h1, h⟩ := h
        have A5 := Aside0.mk h1
        clear h1
        simp only at h
        obtain ⟨X, cap2, hv, hX1, hX2, _⟩ := Kd.R_form HV.out (by have := HA.out; omega)
        injection hv with e1 e2 e3
        subst e1 e3
        have hk0 := fun W => KeepBut.refl W g none
        have hcb : decide (c > 0) = false := decide_eq_false hc
        have hlzb : ((cs.length : Int) == 0) = false := by simpa using hlz
        clear hlz
        go_upto_region 7 with (first | (go_at_call 16; (with_reducible refine (spec_l20Rd_pick.calls k g s0_0 p1 a1 c p2 w0 _ HQ.out.st HQ.out.bl A3.out).mono ?_); rintro e_ W3 ⟨rfl, hi, hb, hk⟩; replace HB := Aside0.mk (HQ.out.blk hk HB.out (Nat.le_refl _)); replace HG := Aside0.mk (HQ.out.blk hk HG.out HGB.out); replace HV := Aside0.mk (R_keepG HV.out hgw hk); replace HQ := Aside0.mk (HQ.out.call hi hb hk); clear hi hb hk; (try clear q2); have q2 : W3.cell? ⟨gb, 2, none⟩ = some (.slice (some ⟨X, 0, none⟩) cs.length cap) := (blk_cell HG.out 2).trans rfl) | (go_at_call 16; (with_reducible refine (spec_l20Rd_pick.calls k g s0_0 p2 cs.length a p3 w0 _ HQ.out.st HQ.out.bl A4.out).mono ?_); rintro e_ W3 ⟨rfl, hi, hb, hk⟩; replace HB := Aside0.mk (HQ.out.blk hk HB.out (Nat.le_refl _)); replace HG := Aside0.mk (HQ.out.blk hk HG.out HGB.out); replace HV := Aside0.mk (R_keepG HV.out hgw hk); replace HQ := Aside0.mk (HQ.out.call hi hb hk); clear hi hb hk; (try clear q2); have q2 : W3.cell? ⟨gb, 2, none⟩ = some (.slice (some ⟨X, 0, none⟩) cs.length cap) := (blk_cell HG.out 2).trans rfl) | (go_at_call 16; (with_reducible refine (spec_l20Rd_pick.calls k g s0_0 p3 6 sw p4 w0 _ HQ.out.st HQ.out.bl A5.out).mono ?_); rintro e_ W3 ⟨rfl, hi, hb, hk⟩; replace HB := Aside0.mk (HQ.out.blk hk HB.out (Nat.le_refl _)); replace HG := Aside0.mk (HQ.out.blk hk HG.out HGB.out); replace HV := Aside0.mk (R_keepG HV.out hgw hk); replace HQ := Aside0.mk (HQ.out.call hi hb hk); clear hi hb hk; (try clear q2); have q2 : W3.cell? ⟨gb, 2, none⟩ = some (.slice (some ⟨X, 0, none⟩) cs.length cap) := (blk_cell HG.out 2).trans rfl))
        unfold spec_l20Grid.turn at h
        by_cases d0 : sw = 0
        · subst d0
          rw [if_pos rfl] at h
          rw [Option.bind_eq_some_iff] at h
          obtain ⟨⟨e, q⟩, h1, h⟩ := h
          have A6 := Aside0.mk h1
          clear h1
          simp only at h
          split at h
          · rename_i he2
            obtain ⟨e, rfl⟩ : ∃ n : Nat, e = n := ⟨e.toNat, by omega⟩
            have he : e < 3 := by omega
            rw [Int.toNat_natCast] at h
            obtain ⟨u, hu⟩ : ∃ u, (ppG0 rows).getD e 0 = u := ⟨_, rfl⟩
            rw [hu] at h
            clear he2
            simp only [Option.some.injEq, Prod.mk.injEq] at h
            obtain ⟨rfl, rfl, rfl, rfl⟩ := h
            go_wp2
            have HEL := Aside0.mk (show e < ((ppG0 rows)).length from he)
            have HU := Aside0.mk hu
            have hez : (e : Int) < ((3 : Nat) : Int) := Int.ofNat_lt.2 he
            have hez4 : ¬ (3 : Int) ≤ (e : Int) := by omega
            clear he hu
            refine region_envL (T := spec_l20Grid.T8) (B := spec_l20Grid.B8) spec_l20Grid.O8 spec_l20Grid.L8 9 (PhiB (spec_l20Grid.F8 e) (fun _ => .cells ((ppG0 rows).map (Value.int .i64)).toArray 3 (0, 0)) (spec_l20Grid.V8 g gb a e u rows cols X cap cs.length) w.heap.size)
              (fun b W => Rds w0 w g s0_0 (if b 5 = true then q else p4) W ∧ W.heap[w.heap.size]? = some (.cells (gridA 0 0 (.slice none 0 0)) 25 (0, 0)) ∧ W.heap[gb]? = some (.cells (gridA rows cols (.slice (some ⟨X, 0, none⟩) cs.length cap)) 25 (0, 0)) ∧ Kd.R k34 34 W w.heap.size (fun _ => True) (.slice (some ⟨X, 0, none⟩) cs.length cap) cs) (fun W W' => KeepBut W W' g none)
              (fun _ W => Rds w0 w g s0_0 q W ∧ W.heap[w.heap.size]? = some (.cells (gridA 0 0 (.slice none 0 0)) 25 (0, 0)) ∧ W.heap[gb]? = some (.cells (gridA u cols (.slice (some ⟨X, 0, none⟩) cs.length cap)) 25 (0, 0)) ∧ Kd.R k34 34 W w.heap.size (fun _ => True) (.slice (some ⟨X, 0, none⟩) cs.length cap) cs)
              rfl spec_l20Grid.tab8 spec_l20Grid.bits8 spec_l20Grid.base8 spec_l20Grid.lof8 spec_l20Grid.ents8 spec_l20Grid.last8 (PhiB.keep hgw) ⟨HQ.out.drew, HB.out, HG.out, Kd.R_drew HV.out⟩ ?_ ?_ ?_
            · skip
              refine alln_cons (EStep.pure hk0 fun b E a' W ha hG hP => ?_) ?_
              · have s5 : a'.tmps[5]? = some (.pointer (some ⟨gb, 0, none⟩)) := (slot_off ha rfl).trans rfl
                exact ⟨_, .pointer (some ⟨gb, 0, none⟩), rfl, rfl, by clear ha hG hP; go_simp; try first | rfl | exact i64_w _, rfl, hG⟩
              refine alln_cons (EStep.pure hk0 fun b E a' W ha hG hP => ?_) ?_
              · have s40 : a'.tmps[40]? = some (.pointer (some ⟨gb, 0, none⟩)) := slotv ha (hP 0 rfl).1 rfl (hP 0 rfl).2
                have hc : W.cell? ⟨gb, 0, none⟩ = some (.int .i64 rows) := (blk_cell hG.2.2.1 0).trans rfl
                exact ⟨_, .int .i64 rows, rfl, rfl, by clear ha hG hP; go_simp, rfl, hG⟩
              refine alln_cons (EStep.pure hk0 fun b E a' W ha hG hP => ?_) ?_
              · have s41 : a'.tmps[41]? = some (.int .i64 rows) := slotv ha (hP 1 rfl).1 rfl (hP 1 rfl).2
                exact ⟨_, .int .i64 (wrap64 (rows + 1)), rfl, rfl, by clear ha hG hP; go_simp; try first | rfl | exact i64_w _, rfl, hG⟩
              refine alln_cons (EStep.step fun b E a' W ha hG hP hoff hb => ?_) ?_
              · have s42 : a'.tmps[42]? = some (.int .i64 (wrap64 (rows + 1))) := slotv ha (hP 2 rfl).1 rfl (hP 2 rfl).2
                exact ⟨_, .slice (some ⟨W.heap.size, 0, none⟩) 3 3, W.alloc (.cells ((ppG0 rows).map (Value.int .i64)).toArray 3), rfl, rfl, by clear ha hP hoff hb hG; go_simp; try rfl, ⟨_, rfl, hG.1.size, blk_new _ _⟩, keep_alloc (hk0 W) _, hG.1.alloc _, blk_alloc hG.2.1 _, blk_alloc hG.2.2.1 _, Kd.R_alloc hG.2.2.2 _⟩
              refine alln_cons (EStep.pure hk0 fun b E a' W ha hG hP => ?_) ?_
              · have s0 : a'.tmps[0]? = some (.pointer (some ⟨g, 0, none⟩)) := (slot_off ha rfl).trans rfl
                exact ⟨_, .pointer (some ⟨g, 0, none⟩), rfl, rfl, by clear ha hG hP; go_simp; try first | rfl | exact i64_w _, rfl, hG⟩
              refine alln_cons (EStep.call Tryd.func16 (by kernel_rfl) rfl ⟨_, rfl, rfl, rfl⟩ fun b E a' W ha hG hP hoff hb => ⟨#[.pointer (some ⟨g, 0, none⟩), .int .i64 3], ?_, ?_⟩) ?_
              · have s44 : a'.tmps[44]? = some (.pointer (some ⟨g, 0, none⟩)) := slotv ha (hP 4 rfl).1 rfl (hP 4 rfl).2
                clear ha hG hP hoff hb
                simp [Act.eval, Array.getD_eq_getD_getElem?, s44]
              · obtain ⟨hG1, hG2, hG3, hG4⟩ := hG
                rw [if_neg (by rw [hb]; decide)] at hG1
                refine (spec_l20Rd_pick.calls k g s0_0 p4 3 e q w0 W hG1.st hG1.bl A6.out).mono ?_
                rintro _ W2 ⟨rfl, hi, hb2, hk⟩
                exact ⟨_, rfl, rfl, hk, hG1.call hi hb2 hk, hG1.blk hk hG2 (Nat.le_refl _), hG1.blk hk hG3 HGB.out, R_keepG hG4 hgw hk⟩
              refine alln_cons (EStep.pure hk0 fun b E a' W ha hG hP => ?_) ?_
              · obtain ⟨C, hC1, hC2, hC3⟩ := (hP 3 rfl).2
                have s43 : a'.tmps[43]? = some (.slice (some ⟨C, 0, none⟩) 3 3) := slotv ha (hP 3 rfl).1 rfl hC1
                have s45 : a'.tmps[45]? = some (.int .i64 e) := slotv ha (hP 5 rfl).1 rfl (hP 5 rfl).2
                exact ⟨_, .pointer (some ⟨C, e, none⟩), rfl, rfl, by clear ha hG hP hC1 hC2 hC3; go_simp, ⟨C, rfl, hC2, hC3⟩, hG⟩
              refine alln_cons (EStep.pure hk0 fun b E a' W ha hG hP => ?_) ?_
              · obtain ⟨C, hC1, hC2, hC3⟩ := (hP 6 rfl).2
                have s46 : a'.tmps[46]? = some (.pointer (some ⟨C, e, none⟩)) := slotv ha (hP 6 rfl).1 rfl hC1
                have hc : W.cell? ⟨C, e, none⟩ = some (.int .i64 u) := (blk_cell hC3 e).trans ((ppInts_at (l := (ppG0 rows)) HEL.out).trans (by rw [HU.out]))
                exact ⟨_, .int .i64 u, rfl, rfl, by clear ha hG hP hC1 hC2 hC3; go_simp, rfl, hG⟩
              refine alln_cons (EStep.pure hk0 fun b E a' W ha hG hP => ?_) alln_last
              · have s5 : a'.tmps[5]? = some (.pointer (some ⟨gb, 0, none⟩)) := (slot_off ha rfl).trans rfl
                exact ⟨_, .pointer (some ⟨gb, 0, none⟩), rfl, rfl, by clear ha hG hP; go_simp; try first | rfl | exact i64_w _, rfl, hG⟩
            · intro b E a' W ha hG hP hb
              have s48 : a'.tmps[48]? = some (.pointer (some ⟨gb, 0, none⟩)) := slotv ha (hP 8 rfl (by decide)).1 rfl (hP 8 rfl (by decide)).2
              have s47 : a'.tmps[47]? = some (.int .i64 u) := slotv ha (hP 7 rfl (by decide)).1 rfl (hP 7 rfl (by decide)).2
              obtain ⟨hG1, hG2, hG3, hG4⟩ := hG
              rw [if_pos (hP 5 rfl (by decide)).1] at hG1
              have hp := Put.setRow (cs := gridA u cols (.slice (some ⟨X, 0, none⟩) cs.length cap)) hG3
              exact ⟨_, rfl, fun K hK => skip_ rfl rfl (exec_put 3 _ _ rfl gb 0 (by simp [Act.eval, Array.getD_eq_getD_getElem?, s48]) (.int .i64 u) (by simp [Act.eval, Array.getD_eq_getD_getElem?, s47]) 25 _ (gridA u cols (.slice (some ⟨X, 0, none⟩) cs.length cap)) hG3 (by kernel_rfl) rfl rfl rfl) (hK.out undef _ ⟨hG1.put hp HGB.out, hp.keep hG2 (Nat.ne_of_lt HGN.out), hp.blk, R_put hG4 hG3 hp (by decide)⟩)⟩
            · intro E b W hall hF
              obtain ⟨h1, h2, h3, h4⟩ := hF
              rw [putSel_all (fun x hx => hall x.1 (by revert x; decide))]
              simp only [spec_l20Grid.L8, List.foldl, Act.put, List.setIfInBounds_toArray, List.set_cons_zero, List.set_cons_succ]
              clear hall HQ HB HG HV HU HEL hez hez4
              have HQ := Aside0.mk h1
              have HB := Aside0.mk h2
              have HG := Aside0.mk h3
              have HV := Aside0.mk h4
              clear h1 h2 h3 h4
              go_wp2_with (first | (refine wpList_load_row rfl 25 _ rfl gb rfl 25 (gridA u cols (.slice (some ⟨X, 0, none⟩) cs.length cap)) (0, 0) _ HG.out Tryd.underlying25 rfl (by kernel_rfl) ?_) | (refine wpList_put 25 _ _ rfl rfl w.heap.size 0 rfl (.agg (gridA u cols (.slice (some ⟨X, 0, none⟩) cs.length cap))) rfl 25 (gridA 0 0 (.slice none 0 0)) (gridA u cols (.slice (some ⟨X, 0, none⟩) cs.length cap)) HB.out (by kernel_rfl) rfl rfl rfl (fun W9 hp => ?_); have HF := Aside0.mk (HQ.out.put hp (Nat.le_refl _)); have HFB := Aside0.mk hp.blk; have HFV := Aside0.mk (R_put HV.out HB.out hp (by decide)); clear hp))
              exact bodyPost_ret (results_cell_row rfl _ _ w.heap.size 25 (gridA u cols (.slice (some ⟨X, 0, none⟩) cs.length cap)) (0, 0) _ rfl HFB.out Tryd.underlying25 rfl (by kernel_rfl)) rfl ⟨_, rfl, HFV.out, HF.out.st, HF.out.bl, HF.out.kp⟩
          · cases h
        · rw [if_neg d0] at h
          have b0 : (sw == 0) = false := by simpa using d0
          by_cases d1 : sw = 1
          · subst d1
            rw [if_pos rfl] at h
            rw [Option.bind_eq_some_iff] at h
            obtain ⟨⟨e, q⟩, h1, h⟩ := h
            have A6 := Aside0.mk h1
            clear h1
            simp only at h
            split at h
            · rename_i he2
              obtain ⟨e, rfl⟩ : ∃ n : Nat, e = n := ⟨e.toNat, by omega⟩
              have he : e < 3 := by omega
              rw [Int.toNat_natCast] at h
              obtain ⟨u, hu⟩ : ∃ u, (ppG1 cols).getD e 0 = u := ⟨_, rfl⟩
              rw [hu] at h
              clear he2
              simp only [Option.some.injEq, Prod.mk.injEq] at h
              obtain ⟨rfl, rfl, rfl, rfl⟩ := h
              go_wp2
              have HEL := Aside0.mk (show e < ((ppG1 cols)).length from he)
              have HU := Aside0.mk hu
              have hez : (e : Int) < ((3 : Nat) : Int) := Int.ofNat_lt.2 he
              have hez4 : ¬ (3 : Int) ≤ (e : Int) := by omega
              clear he hu
              refine region_envL (T := spec_l20Grid.T10) (B := spec_l20Grid.B10) spec_l20Grid.O10 spec_l20Grid.L10 9 (PhiB (spec_l20Grid.F10 e) (fun _ => .cells ((ppG1 cols).map (Value.int .i64)).toArray 3 (0, 0)) (spec_l20Grid.V10 g gb a e u rows cols X cap cs.length) w.heap.size)
                (fun b W => Rds w0 w g s0_0 (if b 5 = true then q else p4) W ∧ W.heap[w.heap.size]? = some (.cells (gridA 0 0 (.slice none 0 0)) 25 (0, 0)) ∧ W.heap[gb]? = some (.cells (gridA rows cols (.slice (some ⟨X, 0, none⟩) cs.length cap)) 25 (0, 0)) ∧ Kd.R k34 34 W w.heap.size (fun _ => True) (.slice (some ⟨X, 0, none⟩) cs.length cap) cs) (fun W W' => KeepBut W W' g none)
                (fun _ W => Rds w0 w g s0_0 q W ∧ W.heap[w.heap.size]? = some (.cells (gridA 0 0 (.slice none 0 0)) 25 (0, 0)) ∧ W.heap[gb]? = some (.cells (gridA rows u (.slice (some ⟨X, 0, none⟩) cs.length cap)) 25 (0, 0)) ∧ Kd.R k34 34 W w.heap.size (fun _ => True) (.slice (some ⟨X, 0, none⟩) cs.length cap) cs)
                rfl spec_l20Grid.tab10 spec_l20Grid.bits10 spec_l20Grid.base10 spec_l20Grid.lof10 spec_l20Grid.ents10 spec_l20Grid.last10 (PhiB.keep hgw) ⟨HQ.out.drew, HB.out, HG.out, Kd.R_drew HV.out⟩ ?_ ?_ ?_
              · skip
                refine alln_cons (EStep.pure hk0 fun b E a' W ha hG hP => ?_) ?_
                · have s5 : a'.tmps[5]? = some (.pointer (some ⟨gb, 0, none⟩)) := (slot_off ha rfl).trans rfl
                  exact ⟨_, .pointer (some ⟨gb, 1, none⟩), rfl, rfl, by clear ha hG hP; go_simp; try first | rfl | exact i64_w _, rfl, hG⟩
                refine alln_cons (EStep.pure hk0 fun b E a' W ha hG hP => ?_) ?_
                · have s51 : a'.tmps[51]? = some (.pointer (some ⟨gb, 1, none⟩)) := slotv ha (hP 0 rfl).1 rfl (hP 0 rfl).2
                  have hc : W.cell? ⟨gb, 1, none⟩ = some (.int .i64 cols) := (blk_cell hG.2.2.1 1).trans rfl
                  exact ⟨_, .int .i64 cols, rfl, rfl, by clear ha hG hP; go_simp, rfl, hG⟩
                refine alln_cons (EStep.pure hk0 fun b E a' W ha hG hP => ?_) ?_
                · have s52 : a'.tmps[52]? = some (.int .i64 cols) := slotv ha (hP 1 rfl).1 rfl (hP 1 rfl).2
                  exact ⟨_, .int .i64 (wrap64 (cols + 1)), rfl, rfl, by clear ha hG hP; go_simp; try first | rfl | exact i64_w _, rfl, hG⟩
                refine alln_cons (EStep.step fun b E a' W ha hG hP hoff hb => ?_) ?_
                · have s53 : a'.tmps[53]? = some (.int .i64 (wrap64 (cols + 1))) := slotv ha (hP 2 rfl).1 rfl (hP 2 rfl).2
                  exact ⟨_, .slice (some ⟨W.heap.size, 0, none⟩) 3 3, W.alloc (.cells ((ppG1 cols).map (Value.int .i64)).toArray 3), rfl, rfl, by clear ha hP hoff hb hG; go_simp; try rfl, ⟨_, rfl, hG.1.size, blk_new _ _⟩, keep_alloc (hk0 W) _, hG.1.alloc _, blk_alloc hG.2.1 _, blk_alloc hG.2.2.1 _, Kd.R_alloc hG.2.2.2 _⟩
                refine alln_cons (EStep.pure hk0 fun b E a' W ha hG hP => ?_) ?_
                · have s0 : a'.tmps[0]? = some (.pointer (some ⟨g, 0, none⟩)) := (slot_off ha rfl).trans rfl
                  exact ⟨_, .pointer (some ⟨g, 0, none⟩), rfl, rfl, by clear ha hG hP; go_simp; try first | rfl | exact i64_w _, rfl, hG⟩
                refine alln_cons (EStep.call Tryd.func16 (by kernel_rfl) rfl ⟨_, rfl, rfl, rfl⟩ fun b E a' W ha hG hP hoff hb => ⟨#[.pointer (some ⟨g, 0, none⟩), .int .i64 3], ?_, ?_⟩) ?_
                · have s55 : a'.tmps[55]? = some (.pointer (some ⟨g, 0, none⟩)) := slotv ha (hP 4 rfl).1 rfl (hP 4 rfl).2
                  clear ha hG hP hoff hb
                  simp [Act.eval, Array.getD_eq_getD_getElem?, s55]
                · obtain ⟨hG1, hG2, hG3, hG4⟩ := hG
                  rw [if_neg (by rw [hb]; decide)] at hG1
                  refine (spec_l20Rd_pick.calls k g s0_0 p4 3 e q w0 W hG1.st hG1.bl A6.out).mono ?_
                  rintro _ W2 ⟨rfl, hi, hb2, hk⟩
                  exact ⟨_, rfl, rfl, hk, hG1.call hi hb2 hk, hG1.blk hk hG2 (Nat.le_refl _), hG1.blk hk hG3 HGB.out, R_keepG hG4 hgw hk⟩
                refine alln_cons (EStep.pure hk0 fun b E a' W ha hG hP => ?_) ?_
                · obtain ⟨C, hC1, hC2, hC3⟩ := (hP 3 rfl).2
                  have s54 : a'.tmps[54]? = some (.slice (some ⟨C, 0, none⟩) 3 3) := slotv ha (hP 3 rfl).1 rfl hC1
                  have s56 : a'.tmps[56]? = some (.int .i64 e) := slotv ha (hP 5 rfl).1 rfl (hP 5 rfl).2
                  exact ⟨_, .pointer (some ⟨C, e, none⟩), rfl, rfl, by clear ha hG hP hC1 hC2 hC3; go_simp, ⟨C, rfl, hC2, hC3⟩, hG⟩
                refine alln_cons (EStep.pure hk0 fun b E a' W ha hG hP => ?_) ?_
                · obtain ⟨C, hC1, hC2, hC3⟩ := (hP 6 rfl).2
                  have s57 : a'.tmps[57]? = some (.pointer (some ⟨C, e, none⟩)) := slotv ha (hP 6 rfl).1 rfl hC1
                  have hc : W.cell? ⟨C, e, none⟩ = some (.int .i64 u) := (blk_cell hC3 e).trans ((ppInts_at (l := (ppG1 cols)) HEL.out).trans (by rw [HU.out]))
                  exact ⟨_, .int .i64 u, rfl, rfl, by clear ha hG hP hC1 hC2 hC3; go_simp, rfl, hG⟩
                refine alln_cons (EStep.pure hk0 fun b E a' W ha hG hP => ?_) alln_last
                · have s5 : a'.tmps[5]? = some (.pointer (some ⟨gb, 0, none⟩)) := (slot_off ha rfl).trans rfl
                  exact ⟨_, .pointer (some ⟨gb, 1, none⟩), rfl, rfl, by clear ha hG hP; go_simp; try first | rfl | exact i64_w _, rfl, hG⟩
              · intro b E a' W ha hG hP hb
                have s59 : a'.tmps[59]? = some (.pointer (some ⟨gb, 1, none⟩)) := slotv ha (hP 8 rfl (by decide)).1 rfl (hP 8 rfl (by decide)).2
                have s58 : a'.tmps[58]? = some (.int .i64 u) := slotv ha (hP 7 rfl (by decide)).1 rfl (hP 7 rfl (by decide)).2
                obtain ⟨hG1, hG2, hG3, hG4⟩ := hG
                rw [if_pos (hP 5 rfl (by decide)).1] at hG1
                have hp := Put.setRow (cs := gridA rows u (.slice (some ⟨X, 0, none⟩) cs.length cap)) hG3
                exact ⟨_, rfl, fun K hK => skip_ rfl rfl (exec_put 3 _ _ rfl gb 1 (by simp [Act.eval, Array.getD_eq_getD_getElem?, s59]) (.int .i64 u) (by simp [Act.eval, Array.getD_eq_getD_getElem?, s58]) 25 _ (gridA rows u (.slice (some ⟨X, 0, none⟩) cs.length cap)) hG3 (by kernel_rfl) rfl rfl rfl) (hK.out undef _ ⟨hG1.put hp HGB.out, hp.keep hG2 (Nat.ne_of_lt HGN.out), hp.blk, R_put hG4 hG3 hp (by decide)⟩)⟩
              · intro E b W hall hF
                obtain ⟨h1, h2, h3, h4⟩ := hF
                rw [putSel_all (fun x hx => hall x.1 (by revert x; decide))]
                simp only [spec_l20Grid.L10, List.foldl, Act.put, List.setIfInBounds_toArray, List.set_cons_zero, List.set_cons_succ]
                clear hall HQ HB HG HV HU HEL hez hez4
                have HQ := Aside0.mk h1
                have HB := Aside0.mk h2
                have HG := Aside0.mk h3
                have HV := Aside0.mk h4
                clear h1 h2 h3 h4
                go_wp2_with (first | (refine wpList_load_row rfl 25 _ rfl gb rfl 25 (gridA rows u (.slice (some ⟨X, 0, none⟩) cs.length cap)) (0, 0) _ HG.out Tryd.underlying25 rfl (by kernel_rfl) ?_) | (refine wpList_put 25 _ _ rfl rfl w.heap.size 0 rfl (.agg (gridA rows u (.slice (some ⟨X, 0, none⟩) cs.length cap))) rfl 25 (gridA 0 0 (.slice none 0 0)) (gridA rows u (.slice (some ⟨X, 0, none⟩) cs.length cap)) HB.out (by kernel_rfl) rfl rfl rfl (fun W9 hp => ?_); have HF := Aside0.mk (HQ.out.put hp (Nat.le_refl _)); have HFB := Aside0.mk hp.blk; have HFV := Aside0.mk (R_put HV.out HB.out hp (by decide)); clear hp))
                exact bodyPost_ret (results_cell_row rfl _ _ w.heap.size 25 (gridA rows u (.slice (some ⟨X, 0, none⟩) cs.length cap)) (0, 0) _ rfl HFB.out Tryd.underlying25 rfl (by kernel_rfl)) rfl ⟨_, rfl, HFV.out, HF.out.st, HF.out.bl, HF.out.kp⟩
            · cases h
          · rw [if_neg d1] at h
            have b1 : (sw == 1) = false := by simpa using d1
            by_cases d2 : sw = 2
            · subst d2
              rw [if_pos rfl] at h
              rw [Option.bind_eq_some_iff] at h
              obtain ⟨⟨e, q⟩, h1, h⟩ := h
              have A6 := Aside0.mk h1
              clear h1
              simp only at h
              split at h
              · rename_i he2
                obtain ⟨e, rfl⟩ : ∃ n : Nat, e = n := ⟨e.toNat, by omega⟩
                have he : e < 2 := by omega
                rw [Int.toNat_natCast] at h
                obtain ⟨u, hu⟩ : ∃ u, (ppG2 rows).getD e 0 = u := ⟨_, rfl⟩
                rw [hu] at h
                clear he2
                simp only [Option.some.injEq, Prod.mk.injEq] at h
                obtain ⟨rfl, rfl, rfl, rfl⟩ := h
                go_wp2
                have HEL := Aside0.mk (show e < ((ppG2 rows)).length from he)
                have HU := Aside0.mk hu
                have hez : (e : Int) < ((2 : Nat) : Int) := Int.ofNat_lt.2 he
                have hez4 : ¬ (2 : Int) ≤ (e : Int) := by omega
                clear he hu
                refine region_envL (T := spec_l20Grid.T12) (B := spec_l20Grid.B12) spec_l20Grid.O12 spec_l20Grid.L12 12 (PhiB (spec_l20Grid.F12 e) (fun _ => .cells ((ppG2 rows).map (Value.int .i64)).toArray 3 (0, 0)) (spec_l20Grid.V12 g gb a e u rows cols X cap cs.length) w.heap.size)
                  (fun b W => Rds w0 w g s0_0 (if b 7 = true then q else p4) W ∧ W.heap[w.heap.size]? = some (.cells (gridA 0 0 (.slice none 0 0)) 25 (0, 0)) ∧ W.heap[gb]? = some (.cells (gridA rows cols (.slice (some ⟨X, 0, none⟩) cs.length cap)) 25 (0, 0)) ∧ Kd.R k34 34 W w.heap.size (fun _ => True) (.slice (some ⟨X, 0, none⟩) cs.length cap) cs) (fun W W' => KeepBut W W' g none)
                  (fun _ W => Rds w0 w g s0_0 q W ∧ W.heap[w.heap.size]? = some (.cells (gridA 0 0 (.slice none 0 0)) 25 (0, 0)) ∧ W.heap[gb]? = some (.cells (gridA rows cols (.slice (some ⟨X, 0, none⟩) cs.length cap)) 25 (0, 0)) ∧ Kd.R k34 34 W w.heap.size (fun _ => True) (.slice (some ⟨X, 0, none⟩) cs.length cap) (pgSet cs a { pgEl cs a with f0 := u }))
                  rfl spec_l20Grid.tab12 spec_l20Grid.bits12 spec_l20Grid.base12 spec_l20Grid.lof12 spec_l20Grid.ents12 spec_l20Grid.last12 (PhiB.keep hgw) ⟨HQ.out.drew, HB.out, HG.out, Kd.R_drew HV.out⟩ ?_ ?_ ?_
                · skip
                  refine alln_cons (EStep.pure hk0 fun b E a' W ha hG hP => ?_) ?_
                  · have s5 : a'.tmps[5]? = some (.pointer (some ⟨gb, 0, none⟩)) := (slot_off ha rfl).trans rfl
                    exact ⟨_, .pointer (some ⟨gb, 2, none⟩), rfl, rfl, by clear ha hG hP; go_simp; try first | rfl | exact i64_w _, rfl, hG⟩
                  refine alln_cons (EStep.pure hk0 fun b E a' W ha hG hP => ?_) ?_
                  · have s62 : a'.tmps[62]? = some (.pointer (some ⟨gb, 2, none⟩)) := slotv ha (hP 0 rfl).1 rfl (hP 0 rfl).2
                    have hc : W.cell? ⟨gb, 2, none⟩ = some ((.slice (some ⟨X, 0, none⟩) cs.length cap)) := (blk_cell hG.2.2.1 2).trans rfl
                    exact ⟨_, (.slice (some ⟨X, 0, none⟩) cs.length cap), rfl, rfl, by clear ha hG hP; go_simp, rfl, hG⟩
                  refine alln_cons (EStep.pure hk0 fun b E a' W ha hG hP => ?_) ?_
                  · have s6 : a'.tmps[6]? = some (.int .i64 a) := (slot_off ha rfl).trans rfl
                    exact ⟨_, .int .i64 a, rfl, rfl, by clear ha hG hP; go_simp; try first | rfl | exact i64_w _, rfl, hG⟩
                  refine alln_cons (EStep.pure hk0 fun b E a' W ha hG hP => ?_) ?_
                  · have s5 : a'.tmps[5]? = some (.pointer (some ⟨gb, 0, none⟩)) := (slot_off ha rfl).trans rfl
                    exact ⟨_, .pointer (some ⟨gb, 0, none⟩), rfl, rfl, by clear ha hG hP; go_simp; try first | rfl | exact i64_w _, rfl, hG⟩
                  refine alln_cons (EStep.pure hk0 fun b E a' W ha hG hP => ?_) ?_
                  · have s65 : a'.tmps[65]? = some (.pointer (some ⟨gb, 0, none⟩)) := slotv ha (hP 3 rfl).1 rfl (hP 3 rfl).2
                    have hc : W.cell? ⟨gb, 0, none⟩ = some (.int .i64 rows) := (blk_cell hG.2.2.1 0).trans rfl
                    exact ⟨_, .int .i64 rows, rfl, rfl, by clear ha hG hP; go_simp, rfl, hG⟩
                  refine alln_cons (EStep.step fun b E a' W ha hG hP hoff hb => ?_) ?_
                  · have s66 : a'.tmps[66]? = some (.int .i64 rows) := slotv ha (hP 4 rfl).1 rfl (hP 4 rfl).2
                    exact ⟨_, .slice (some ⟨W.heap.size, 0, none⟩) 2 2, W.alloc (.cells ((ppG2 rows).map (Value.int .i64)).toArray 3), rfl, rfl, by clear ha hP hoff hb hG; go_simp; try rfl, ⟨_, rfl, hG.1.size, blk_new _ _⟩, keep_alloc (hk0 W) _, hG.1.alloc _, blk_alloc hG.2.1 _, blk_alloc hG.2.2.1 _, Kd.R_alloc hG.2.2.2 _⟩
                  refine alln_cons (EStep.pure hk0 fun b E a' W ha hG hP => ?_) ?_
                  · have s0 : a'.tmps[0]? = some (.pointer (some ⟨g, 0, none⟩)) := (slot_off ha rfl).trans rfl
                    exact ⟨_, .pointer (some ⟨g, 0, none⟩), rfl, rfl, by clear ha hG hP; go_simp; try first | rfl | exact i64_w _, rfl, hG⟩
                  refine alln_cons (EStep.call Tryd.func16 (by kernel_rfl) rfl ⟨_, rfl, rfl, rfl⟩ fun b E a' W ha hG hP hoff hb => ⟨#[.pointer (some ⟨g, 0, none⟩), .int .i64 2], ?_, ?_⟩) ?_
                  · have s68 : a'.tmps[68]? = some (.pointer (some ⟨g, 0, none⟩)) := slotv ha (hP 6 rfl).1 rfl (hP 6 rfl).2
                    clear ha hG hP hoff hb
                    simp [Act.eval, Array.getD_eq_getD_getElem?, s68]
                  · obtain ⟨hG1, hG2, hG3, hG4⟩ := hG
                    rw [if_neg (by rw [hb]; decide)] at hG1
                    refine (spec_l20Rd_pick.calls k g s0_0 p4 2 e q w0 W hG1.st hG1.bl A6.out).mono ?_
                    rintro _ W2 ⟨rfl, hi, hb2, hk⟩
                    exact ⟨_, rfl, rfl, hk, hG1.call hi hb2 hk, hG1.blk hk hG2 (Nat.le_refl _), hG1.blk hk hG3 HGB.out, R_keepG hG4 hgw hk⟩
                  refine alln_cons (EStep.pure hk0 fun b E a' W ha hG hP => ?_) ?_
                  · obtain ⟨C, hC1, hC2, hC3⟩ := (hP 5 rfl).2
                    have s67 : a'.tmps[67]? = some (.slice (some ⟨C, 0, none⟩) 2 2) := slotv ha (hP 5 rfl).1 rfl hC1
                    have s69 : a'.tmps[69]? = some (.int .i64 e) := slotv ha (hP 7 rfl).1 rfl (hP 7 rfl).2
                    exact ⟨_, .pointer (some ⟨C, e, none⟩), rfl, rfl, by clear ha hG hP hC1 hC2 hC3; go_simp, ⟨C, rfl, hC2, hC3⟩, hG⟩
                  refine alln_cons (EStep.pure hk0 fun b E a' W ha hG hP => ?_) ?_
                  · obtain ⟨C, hC1, hC2, hC3⟩ := (hP 8 rfl).2
                    have s70 : a'.tmps[70]? = some (.pointer (some ⟨C, e, none⟩)) := slotv ha (hP 8 rfl).1 rfl hC1
                    have hc : W.cell? ⟨C, e, none⟩ = some (.int .i64 u) := (blk_cell hC3 e).trans ((ppInts_at (l := (ppG2 rows)) HEL.out).trans (by rw [HU.out]))
                    exact ⟨_, .int .i64 u, rfl, rfl, by clear ha hG hP hC1 hC2 hC3; go_simp, rfl, hG⟩
                  refine alln_cons (EStep.pure hk0 fun b E a' W ha hG hP => ?_) ?_
                  · have s63 : a'.tmps[63]? = some ((.slice (some ⟨X, 0, none⟩) cs.length cap)) := slotv ha (hP 1 rfl).1 rfl (hP 1 rfl).2
                    have s64 : a'.tmps[64]? = some (.int .i64 a) := slotv ha (hP 2 rfl).1 rfl (hP 2 rfl).2
                    exact ⟨_, .pointer (some ⟨X, a * 5, none⟩), rfl, rfl, by clear ha hG hP; go_simp; try first | rfl | exact i64_w _, rfl, hG⟩
                  refine alln_cons (EStep.pure hk0 fun b E a' W ha hG hP => ?_) alln_last
                  · have s72 : a'.tmps[72]? = some (.pointer (some ⟨X, a * 5, none⟩)) := slotv ha (hP 10 rfl).1 rfl (hP 10 rfl).2
                    exact ⟨_, .pointer (some ⟨X, a * 5, none⟩), rfl, rfl, by clear ha hG hP; go_simp; try first | rfl | exact i64_w _, rfl, hG⟩
                · intro b E a' W ha hG hP hb
                  have s73 : a'.tmps[73]? = some (.pointer (some ⟨X, a * 5, none⟩)) := slotv ha (hP 11 rfl (by decide)).1 rfl (hP 11 rfl (by decide)).2
                  have s71 : a'.tmps[71]? = some (.int .i64 u) := slotv ha (hP 9 rfl (by decide)).1 rfl (hP 9 rfl (by decide)).2
                  obtain ⟨hG1, hG2, hG3, hG4⟩ := hG
                  rw [if_pos (hP 7 rfl (by decide)).1] at hG1
                  obtain ⟨hR2, hg2⟩ := grd_R a 0 { pgEl cs a with f0 := u } (.int .i64 u) hG4 HA.out (by decide) rfl
                  have hbg : w.heap.size ≤ X := Kd.R_base hG4 X (by simp [Value.ownBlock])
                  exact ⟨_, rfl, fun K hK => skip_ rfl rfl (run_R (o' := a * 5) k34 3 rfl a 0 (.int .i64 u) [.int .i64 u] (by simp [Act.eval, Array.getD_eq_getD_getElem?, s73]) rfl (by simp [Act.eval, Array.getD_eq_getD_getElem?, s71]) rfl (by kernel_rfl) (fun q hq => by rw [List.mem_singleton.1 hq]; rfl) hG4 HA.out (Nat.le_of_ble_eq_true rfl)) (hK.out undef _ ⟨hG1.grown hg2 (fun k hk => by injection hk with hk; omega), blk_grown hG2 hg2 (own_ne_of hG4 hG2 (by decide)), blk_grown hG3 hg2 (own_ne_of hG4 hG3 (by decide)), hR2⟩)⟩
                · intro E b W hall hF
                  obtain ⟨h1, h2, h3, h4⟩ := hF
                  rw [putSel_all (fun x hx => hall x.1 (by revert x; decide))]
                  simp only [spec_l20Grid.L12, List.foldl, Act.put, List.setIfInBounds_toArray, List.set_cons_zero, List.set_cons_succ]
                  clear hall HQ HB HG HV HU HEL hez hez4
                  have HQ := Aside0.mk h1
                  have HB := Aside0.mk h2
                  have HG := Aside0.mk h3
                  have HV := Aside0.mk h4
                  clear h1 h2 h3 h4
                  go_wp2_with (first | (refine wpList_load_row rfl 25 _ rfl gb rfl 25 (gridA rows cols (.slice (some ⟨X, 0, none⟩) cs.length cap)) (0, 0) _ HG.out Tryd.underlying25 rfl (by kernel_rfl) ?_) | (refine wpList_put 25 _ _ rfl rfl w.heap.size 0 rfl (.agg (gridA rows cols (.slice (some ⟨X, 0, none⟩) cs.length cap))) rfl 25 (gridA 0 0 (.slice none 0 0)) (gridA rows cols (.slice (some ⟨X, 0, none⟩) cs.length cap)) HB.out (by kernel_rfl) rfl rfl rfl (fun W9 hp => ?_); have HF := Aside0.mk (HQ.out.put hp (Nat.le_refl _)); have HFB := Aside0.mk hp.blk; have HFV := Aside0.mk (R_put HV.out HB.out hp (by decide)); clear hp))
                  exact bodyPost_ret (results_cell_row rfl _ _ w.heap.size 25 (gridA rows cols (.slice (some ⟨X, 0, none⟩) cs.length cap)) (0, 0) _ rfl HFB.out Tryd.underlying25 rfl (by kernel_rfl)) rfl ⟨_, rfl, HFV.out, HF.out.st, HF.out.bl, HF.out.kp⟩
              · cases h
            · rw [if_neg d2] at h
              have b2 : (sw == 2) = false := by simpa using d2
              by_cases d3 : sw = 3
              · subst d3
                rw [if_pos rfl] at h
                rw [Option.bind_eq_some_iff] at h
                obtain ⟨⟨e, q⟩, h1, h⟩ := h
                have A6 := Aside0.mk h1
                clear h1
                simp only at h
                split at h
                · rename_i he2
                  obtain ⟨e, rfl⟩ : ∃ n : Nat, e = n := ⟨e.toNat, by omega⟩
                  have he : e < 3 := by omega
                  rw [Int.toNat_natCast] at h
                  obtain ⟨u, hu⟩ : ∃ u, (ppG3 cols).getD e 0 = u := ⟨_, rfl⟩
                  rw [hu] at h
                  clear he2
                  simp only [Option.some.injEq, Prod.mk.injEq] at h
                  obtain ⟨rfl, rfl, rfl, rfl⟩ := h
                  go_wp2
                  have HEL := Aside0.mk (show e < ((ppG3 cols)).length from he)
                  have HU := Aside0.mk hu
                  have hez : (e : Int) < ((3 : Nat) : Int) := Int.ofNat_lt.2 he
                  have hez4 : ¬ (3 : Int) ≤ (e : Int) := by omega
                  clear he hu
                  refine region_envL (T := spec_l20Grid.T14) (B := spec_l20Grid.B14) spec_l20Grid.O14 spec_l20Grid.L14 13 (PhiB (spec_l20Grid.F14 e) (fun _ => .cells ((ppG3 cols).map (Value.int .i64)).toArray 3 (0, 0)) (spec_l20Grid.V14 g gb a e u rows cols X cap cs.length) w.heap.size)
                    (fun b W => Rds w0 w g s0_0 (if b 8 = true then q else p4) W ∧ W.heap[w.heap.size]? = some (.cells (gridA 0 0 (.slice none 0 0)) 25 (0, 0)) ∧ W.heap[gb]? = some (.cells (gridA rows cols (.slice (some ⟨X, 0, none⟩) cs.length cap)) 25 (0, 0)) ∧ Kd.R k34 34 W w.heap.size (fun _ => True) (.slice (some ⟨X, 0, none⟩) cs.length cap) cs) (fun W W' => KeepBut W W' g none)
                    (fun _ W => Rds w0 w g s0_0 q W ∧ W.heap[w.heap.size]? = some (.cells (gridA 0 0 (.slice none 0 0)) 25 (0, 0)) ∧ W.heap[gb]? = some (.cells (gridA rows cols (.slice (some ⟨X, 0, none⟩) cs.length cap)) 25 (0, 0)) ∧ Kd.R k34 34 W w.heap.size (fun _ => True) (.slice (some ⟨X, 0, none⟩) cs.length cap) (pgSet cs a { pgEl cs a with f3 := u }))
                    rfl spec_l20Grid.tab14 spec_l20Grid.bits14 spec_l20Grid.base14 spec_l20Grid.lof14 spec_l20Grid.ents14 spec_l20Grid.last14 (PhiB.keep hgw) ⟨HQ.out.drew, HB.out, HG.out, Kd.R_drew HV.out⟩ ?_ ?_ ?_
                  · skip
                    refine alln_cons (EStep.pure hk0 fun b E a' W ha hG hP => ?_) ?_
                    · have s5 : a'.tmps[5]? = some (.pointer (some ⟨gb, 0, none⟩)) := (slot_off ha rfl).trans rfl
                      exact ⟨_, .pointer (some ⟨gb, 2, none⟩), rfl, rfl, by clear ha hG hP; go_simp; try first | rfl | exact i64_w _, rfl, hG⟩
                    refine alln_cons (EStep.pure hk0 fun b E a' W ha hG hP => ?_) ?_
                    · have s76 : a'.tmps[76]? = some (.pointer (some ⟨gb, 2, none⟩)) := slotv ha (hP 0 rfl).1 rfl (hP 0 rfl).2
                      have hc : W.cell? ⟨gb, 2, none⟩ = some ((.slice (some ⟨X, 0, none⟩) cs.length cap)) := (blk_cell hG.2.2.1 2).trans rfl
                      exact ⟨_, (.slice (some ⟨X, 0, none⟩) cs.length cap), rfl, rfl, by clear ha hG hP; go_simp, rfl, hG⟩
                    refine alln_cons (EStep.pure hk0 fun b E a' W ha hG hP => ?_) ?_
                    · have s6 : a'.tmps[6]? = some (.int .i64 a) := (slot_off ha rfl).trans rfl
                      exact ⟨_, .int .i64 a, rfl, rfl, by clear ha hG hP; go_simp; try first | rfl | exact i64_w _, rfl, hG⟩
                    refine alln_cons (EStep.pure hk0 fun b E a' W ha hG hP => ?_) ?_
                    · have s5 : a'.tmps[5]? = some (.pointer (some ⟨gb, 0, none⟩)) := (slot_off ha rfl).trans rfl
                      exact ⟨_, .pointer (some ⟨gb, 1, none⟩), rfl, rfl, by clear ha hG hP; go_simp; try first | rfl | exact i64_w _, rfl, hG⟩
                    refine alln_cons (EStep.pure hk0 fun b E a' W ha hG hP => ?_) ?_
                    · have s79 : a'.tmps[79]? = some (.pointer (some ⟨gb, 1, none⟩)) := slotv ha (hP 3 rfl).1 rfl (hP 3 rfl).2
                      have hc : W.cell? ⟨gb, 1, none⟩ = some (.int .i64 cols) := (blk_cell hG.2.2.1 1).trans rfl
                      exact ⟨_, .int .i64 cols, rfl, rfl, by clear ha hG hP; go_simp, rfl, hG⟩
                    refine alln_cons (EStep.pure hk0 fun b E a' W ha hG hP => ?_) ?_
                    · have s80 : a'.tmps[80]? = some (.int .i64 cols) := slotv ha (hP 4 rfl).1 rfl (hP 4 rfl).2
                      exact ⟨_, .int .i64 (wrap64 (cols + 1)), rfl, rfl, by clear ha hG hP; go_simp; try first | rfl | exact i64_w _, rfl, hG⟩
                    refine alln_cons (EStep.step fun b E a' W ha hG hP hoff hb => ?_) ?_
                    · have s81 : a'.tmps[81]? = some (.int .i64 (wrap64 (cols + 1))) := slotv ha (hP 5 rfl).1 rfl (hP 5 rfl).2
                      exact ⟨_, .slice (some ⟨W.heap.size, 0, none⟩) 3 3, W.alloc (.cells ((ppG3 cols).map (Value.int .i64)).toArray 3), rfl, rfl, by clear ha hP hoff hb hG; go_simp; try rfl, ⟨_, rfl, hG.1.size, blk_new _ _⟩, keep_alloc (hk0 W) _, hG.1.alloc _, blk_alloc hG.2.1 _, blk_alloc hG.2.2.1 _, Kd.R_alloc hG.2.2.2 _⟩
                    refine alln_cons (EStep.pure hk0 fun b E a' W ha hG hP => ?_) ?_
                    · have s0 : a'.tmps[0]? = some (.pointer (some ⟨g, 0, none⟩)) := (slot_off ha rfl).trans rfl
                      exact ⟨_, .pointer (some ⟨g, 0, none⟩), rfl, rfl, by clear ha hG hP; go_simp; try first | rfl | exact i64_w _, rfl, hG⟩
                    refine alln_cons (EStep.call Tryd.func16 (by kernel_rfl) rfl ⟨_, rfl, rfl, rfl⟩ fun b E a' W ha hG hP hoff hb => ⟨#[.pointer (some ⟨g, 0, none⟩), .int .i64 3], ?_, ?_⟩) ?_
                    · have s83 : a'.tmps[83]? = some (.pointer (some ⟨g, 0, none⟩)) := slotv ha (hP 7 rfl).1 rfl (hP 7 rfl).2
                      clear ha hG hP hoff hb
                      simp [Act.eval, Array.getD_eq_getD_getElem?, s83]
                    · obtain ⟨hG1, hG2, hG3, hG4⟩ := hG
                      rw [if_neg (by rw [hb]; decide)] at hG1
                      refine (spec_l20Rd_pick.calls k g s0_0 p4 3 e q w0 W hG1.st hG1.bl A6.out).mono ?_
                      rintro _ W2 ⟨rfl, hi, hb2, hk⟩
                      exact ⟨_, rfl, rfl, hk, hG1.call hi hb2 hk, hG1.blk hk hG2 (Nat.le_refl _), hG1.blk hk hG3 HGB.out, R_keepG hG4 hgw hk⟩
                    refine alln_cons (EStep.pure hk0 fun b E a' W ha hG hP => ?_) ?_
                    · obtain ⟨C, hC1, hC2, hC3⟩ := (hP 6 rfl).2
                      have s82 : a'.tmps[82]? = some (.slice (some ⟨C, 0, none⟩) 3 3) := slotv ha (hP 6 rfl).1 rfl hC1
                      have s84 : a'.tmps[84]? = some (.int .i64 e) := slotv ha (hP 8 rfl).1 rfl (hP 8 rfl).2
                      exact ⟨_, .pointer (some ⟨C, e, none⟩), rfl, rfl, by clear ha hG hP hC1 hC2 hC3; go_simp, ⟨C, rfl, hC2, hC3⟩, hG⟩
                    refine alln_cons (EStep.pure hk0 fun b E a' W ha hG hP => ?_) ?_
                    · obtain ⟨C, hC1, hC2, hC3⟩ := (hP 9 rfl).2
                      have s85 : a'.tmps[85]? = some (.pointer (some ⟨C, e, none⟩)) := slotv ha (hP 9 rfl).1 rfl hC1
                      have hc : W.cell? ⟨C, e, none⟩ = some (.int .i64 u) := (blk_cell hC3 e).trans ((ppInts_at (l := (ppG3 cols)) HEL.out).trans (by rw [HU.out]))
                      exact ⟨_, .int .i64 u, rfl, rfl, by clear ha hG hP hC1 hC2 hC3; go_simp, rfl, hG⟩
                    refine alln_cons (EStep.pure hk0 fun b E a' W ha hG hP => ?_) ?_
                    · have s77 : a'.tmps[77]? = some ((.slice (some ⟨X, 0, none⟩) cs.length cap)) := slotv ha (hP 1 rfl).1 rfl (hP 1 rfl).2
                      have s78 : a'.tmps[78]? = some (.int .i64 a) := slotv ha (hP 2 rfl).1 rfl (hP 2 rfl).2
                      exact ⟨_, .pointer (some ⟨X, a * 5, none⟩), rfl, rfl, by clear ha hG hP; go_simp; try first | rfl | exact i64_w _, rfl, hG⟩
                    refine alln_cons (EStep.pure hk0 fun b E a' W ha hG hP => ?_) alln_last
                    · have s87 : a'.tmps[87]? = some (.pointer (some ⟨X, a * 5, none⟩)) := slotv ha (hP 11 rfl).1 rfl (hP 11 rfl).2
                      exact ⟨_, .pointer (some ⟨X, a * 5 + 3, none⟩), rfl, rfl, by clear ha hG hP; go_simp; try first | rfl | exact i64_w _, rfl, hG⟩
                  · intro b E a' W ha hG hP hb
                    have s88 : a'.tmps[88]? = some (.pointer (some ⟨X, a * 5 + 3, none⟩)) := slotv ha (hP 12 rfl (by decide)).1 rfl (hP 12 rfl (by decide)).2
                    have s86 : a'.tmps[86]? = some (.int .i64 u) := slotv ha (hP 10 rfl (by decide)).1 rfl (hP 10 rfl (by decide)).2
                    obtain ⟨hG1, hG2, hG3, hG4⟩ := hG
                    rw [if_pos (hP 8 rfl (by decide)).1] at hG1
                    obtain ⟨hR2, hg2⟩ := grd_R a 3 { pgEl cs a with f3 := u } (.int .i64 u) hG4 HA.out (by decide) rfl
                    have hbg : w.heap.size ≤ X := Kd.R_base hG4 X (by simp [Value.ownBlock])
                    exact ⟨_, rfl, fun K hK => skip_ rfl rfl (run_R (o' := a * 5 + 3) k34 3 rfl a 3 (.int .i64 u) [.int .i64 u] (by simp [Act.eval, Array.getD_eq_getD_getElem?, s88]) rfl (by simp [Act.eval, Array.getD_eq_getD_getElem?, s86]) rfl (by kernel_rfl) (fun q hq => by rw [List.mem_singleton.1 hq]; rfl) hG4 HA.out (Nat.le_of_ble_eq_true rfl)) (hK.out undef _ ⟨hG1.grown hg2 (fun k hk => by injection hk with hk; omega), blk_grown hG2 hg2 (own_ne_of hG4 hG2 (by decide)), blk_grown hG3 hg2 (own_ne_of hG4 hG3 (by decide)), hR2⟩)⟩
                  · intro E b W hall hF
                    obtain ⟨h1, h2, h3, h4⟩ := hF
                    rw [putSel_all (fun x hx => hall x.1 (by revert x; decide))]
                    simp only [spec_l20Grid.L14, List.foldl, Act.put, List.setIfInBounds_toArray, List.set_cons_zero, List.set_cons_succ]
                    clear hall HQ HB HG HV HU HEL hez hez4
                    have HQ := Aside0.mk h1
                    have HB := Aside0.mk h2
                    have HG := Aside0.mk h3
                    have HV := Aside0.mk h4
                    clear h1 h2 h3 h4
                    go_wp2_with (first | (refine wpList_load_row rfl 25 _ rfl gb rfl 25 (gridA rows cols (.slice (some ⟨X, 0, none⟩) cs.length cap)) (0, 0) _ HG.out Tryd.underlying25 rfl (by kernel_rfl) ?_) | (refine wpList_put 25 _ _ rfl rfl w.heap.size 0 rfl (.agg (gridA rows cols (.slice (some ⟨X, 0, none⟩) cs.length cap))) rfl 25 (gridA 0 0 (.slice none 0 0)) (gridA rows cols (.slice (some ⟨X, 0, none⟩) cs.length cap)) HB.out (by kernel_rfl) rfl rfl rfl (fun W9 hp => ?_); have HF := Aside0.mk (HQ.out.put hp (Nat.le_refl _)); have HFB := Aside0.mk hp.blk; have HFV := Aside0.mk (R_put HV.out HB.out hp (by decide)); clear hp))
                    exact bodyPost_ret (results_cell_row rfl _ _ w.heap.size 25 (gridA rows cols (.slice (some ⟨X, 0, none⟩) cs.length cap)) (0, 0) _ rfl HFB.out Tryd.underlying25 rfl (by kernel_rfl)) rfl ⟨_, rfl, HFV.out, HF.out.st, HF.out.bl, HF.out.kp⟩
                · cases h
              · rw [if_neg d3] at h
                have b3 : (sw == 3) = false := by simpa using d3
                by_cases d4 : sw = 4
                · subst d4
                  rw [if_pos rfl] at h
                  rw [Option.bind_eq_some_iff] at h
                  obtain ⟨⟨e, q⟩, h1, h⟩ := h
                  have A6 := Aside0.mk h1
                  clear h1
                  simp only at h
                  split at h
                  · rename_i he2
                    obtain ⟨e, rfl⟩ : ∃ n : Nat, e = n := ⟨e.toNat, by omega⟩
                    have he : e < 2 := by omega
                    rw [Int.toNat_natCast] at h
                    obtain ⟨u, hu⟩ : ∃ u, ppG4.getD e 0 = u := ⟨_, rfl⟩
                    rw [hu] at h
                    clear he2
                    rw [Option.bind_eq_some_iff] at h
                    obtain ⟨⟨d, q2_⟩, h1, h⟩ := h
                    have A7 := Aside0.mk h1
                    clear h1
                    simp only at h
                    split at h
                    · rename_i hd2
                      obtain ⟨d, rfl⟩ : ∃ n : Nat, d = n := ⟨d.toNat, by omega⟩
                      have hd : d < 2 := by omega
                      rw [Int.toNat_natCast] at h
                      obtain ⟨u2, hu2⟩ : ∃ u2, ppG5.getD d 0 = u2 := ⟨_, rfl⟩
                      rw [hu2] at h
                      clear hd2
                      simp only [Option.some.injEq, Prod.mk.injEq] at h
                      obtain ⟨rfl, rfl, rfl, rfl⟩ := h
                      go_wp2
                      have HEL := Aside0.mk (show e < (ppG4).length from he)
                      have HU := Aside0.mk hu
                      have hez : (e : Int) < ((2 : Nat) : Int) := Int.ofNat_lt.2 he
                      have hez4 : ¬ (2 : Int) ≤ (e : Int) := by omega
                      clear he hu
                      refine region_envL (T := spec_l20Grid.T16) (B := spec_l20Grid.B16) spec_l20Grid.O16 spec_l20Grid.L16 10 (PhiB (spec_l20Grid.F16 e) (fun _ => .cells (ppG4.map (Value.int .i64)).toArray 3 (0, 0)) (spec_l20Grid.V16 g gb a e u rows cols X cap cs.length) w.heap.size)
                        (fun b W => Rds w0 w g s0_0 (if b 5 = true then q else p4) W ∧ W.heap[w.heap.size]? = some (.cells (gridA 0 0 (.slice none 0 0)) 25 (0, 0)) ∧ W.heap[gb]? = some (.cells (gridA rows cols (.slice (some ⟨X, 0, none⟩) cs.length cap)) 25 (0, 0)) ∧ Kd.R k34 34 W w.heap.size (fun _ => True) (.slice (some ⟨X, 0, none⟩) cs.length cap) cs) (fun W W' => KeepBut W W' g none)
                        (fun _ W => Rds w0 w g s0_0 q W ∧ W.heap[w.heap.size]? = some (.cells (gridA 0 0 (.slice none 0 0)) 25 (0, 0)) ∧ W.heap[gb]? = some (.cells (gridA rows cols (.slice (some ⟨X, 0, none⟩) cs.length cap)) 25 (0, 0)) ∧ Kd.R k34 34 W w.heap.size (fun _ => True) (.slice (some ⟨X, 0, none⟩) cs.length cap) (pgSet cs a { pgEl cs a with f4 := u }))
                        rfl spec_l20Grid.tab16 spec_l20Grid.bits16 spec_l20Grid.base16 spec_l20Grid.lof16 spec_l20Grid.ents16 spec_l20Grid.last16 (PhiB.keep hgw) ⟨HQ.out.drew, HB.out, HG.out, Kd.R_drew HV.out⟩ ?_ ?_ ?_
                      · skip
                        refine alln_cons (EStep.pure hk0 fun b E a' W ha hG hP => ?_) ?_
                        · have s5 : a'.tmps[5]? = some (.pointer (some ⟨gb, 0, none⟩)) := (slot_off ha rfl).trans rfl
                          exact ⟨_, .pointer (some ⟨gb, 2, none⟩), rfl, rfl, by clear ha hG hP; go_simp; try first | rfl | exact i64_w _, rfl, hG⟩
                        refine alln_cons (EStep.pure hk0 fun b E a' W ha hG hP => ?_) ?_
                        · have s91 : a'.tmps[91]? = some (.pointer (some ⟨gb, 2, none⟩)) := slotv ha (hP 0 rfl).1 rfl (hP 0 rfl).2
                          have hc : W.cell? ⟨gb, 2, none⟩ = some ((.slice (some ⟨X, 0, none⟩) cs.length cap)) := (blk_cell hG.2.2.1 2).trans rfl
                          exact ⟨_, (.slice (some ⟨X, 0, none⟩) cs.length cap), rfl, rfl, by clear ha hG hP; go_simp, rfl, hG⟩
                        refine alln_cons (EStep.pure hk0 fun b E a' W ha hG hP => ?_) ?_
                        · have s6 : a'.tmps[6]? = some (.int .i64 a) := (slot_off ha rfl).trans rfl
                          exact ⟨_, .int .i64 a, rfl, rfl, by clear ha hG hP; go_simp; try first | rfl | exact i64_w _, rfl, hG⟩
                        refine alln_cons (EStep.step fun b E a' W ha hG hP hoff hb => ?_) ?_
                        · exact ⟨_, .slice (some ⟨W.heap.size, 0, none⟩) 2 2, W.alloc (.cells (ppG4.map (Value.int .i64)).toArray 3), rfl, rfl, by clear ha hP hoff hb hG; go_simp; try rfl, ⟨_, rfl, hG.1.size, blk_new _ _⟩, keep_alloc (hk0 W) _, hG.1.alloc _, blk_alloc hG.2.1 _, blk_alloc hG.2.2.1 _, Kd.R_alloc hG.2.2.2 _⟩
                        refine alln_cons (EStep.pure hk0 fun b E a' W ha hG hP => ?_) ?_
                        · have s0 : a'.tmps[0]? = some (.pointer (some ⟨g, 0, none⟩)) := (slot_off ha rfl).trans rfl
                          exact ⟨_, .pointer (some ⟨g, 0, none⟩), rfl, rfl, by clear ha hG hP; go_simp; try first | rfl | exact i64_w _, rfl, hG⟩
                        refine alln_cons (EStep.call Tryd.func16 (by kernel_rfl) rfl ⟨_, rfl, rfl, rfl⟩ fun b E a' W ha hG hP hoff hb => ⟨#[.pointer (some ⟨g, 0, none⟩), .int .i64 2], ?_, ?_⟩) ?_
                        · have s95 : a'.tmps[95]? = some (.pointer (some ⟨g, 0, none⟩)) := slotv ha (hP 4 rfl).1 rfl (hP 4 rfl).2
                          clear ha hG hP hoff hb
                          simp [Act.eval, Array.getD_eq_getD_getElem?, s95]
                        · obtain ⟨hG1, hG2, hG3, hG4⟩ := hG
                          rw [if_neg (by rw [hb]; decide)] at hG1
                          refine (spec_l20Rd_pick.calls k g s0_0 p4 2 e q w0 W hG1.st hG1.bl A6.out).mono ?_
                          rintro _ W2 ⟨rfl, hi, hb2, hk⟩
                          exact ⟨_, rfl, rfl, hk, hG1.call hi hb2 hk, hG1.blk hk hG2 (Nat.le_refl _), hG1.blk hk hG3 HGB.out, R_keepG hG4 hgw hk⟩
                        refine alln_cons (EStep.pure hk0 fun b E a' W ha hG hP => ?_) ?_
                        · obtain ⟨C, hC1, hC2, hC3⟩ := (hP 3 rfl).2
                          have s94 : a'.tmps[94]? = some (.slice (some ⟨C, 0, none⟩) 2 2) := slotv ha (hP 3 rfl).1 rfl hC1
                          have s96 : a'.tmps[96]? = some (.int .i64 e) := slotv ha (hP 5 rfl).1 rfl (hP 5 rfl).2
                          exact ⟨_, .pointer (some ⟨C, e, none⟩), rfl, rfl, by clear ha hG hP hC1 hC2 hC3; go_simp, ⟨C, rfl, hC2, hC3⟩, hG⟩
                        refine alln_cons (EStep.pure hk0 fun b E a' W ha hG hP => ?_) ?_
                        · obtain ⟨C, hC1, hC2, hC3⟩ := (hP 6 rfl).2
                          have s97 : a'.tmps[97]? = some (.pointer (some ⟨C, e, none⟩)) := slotv ha (hP 6 rfl).1 rfl hC1
                          have hc : W.cell? ⟨C, e, none⟩ = some (.int .i64 u) := (blk_cell hC3 e).trans ((ppInts_at (l := ppG4) HEL.out).trans (by rw [HU.out]))
                          exact ⟨_, .int .i64 u, rfl, rfl, by clear ha hG hP hC1 hC2 hC3; go_simp, rfl, hG⟩
                        refine alln_cons (EStep.pure hk0 fun b E a' W ha hG hP => ?_) ?_
                        · have s92 : a'.tmps[92]? = some ((.slice (some ⟨X, 0, none⟩) cs.length cap)) := slotv ha (hP 1 rfl).1 rfl (hP 1 rfl).2
                          have s93 : a'.tmps[93]? = some (.int .i64 a) := slotv ha (hP 2 rfl).1 rfl (hP 2 rfl).2
                          exact ⟨_, .pointer (some ⟨X, a * 5, none⟩), rfl, rfl, by clear ha hG hP; go_simp; try first | rfl | exact i64_w _, rfl, hG⟩
                        refine alln_cons (EStep.pure hk0 fun b E a' W ha hG hP => ?_) alln_last
                        · have s99 : a'.tmps[99]? = some (.pointer (some ⟨X, a * 5, none⟩)) := slotv ha (hP 8 rfl).1 rfl (hP 8 rfl).2
                          exact ⟨_, .pointer (some ⟨X, a * 5 + 4, none⟩), rfl, rfl, by clear ha hG hP; go_simp; try first | rfl | exact i64_w _, rfl, hG⟩
                      · intro b E a' W ha hG hP hb
                        have s100 : a'.tmps[100]? = some (.pointer (some ⟨X, a * 5 + 4, none⟩)) := slotv ha (hP 9 rfl (by decide)).1 rfl (hP 9 rfl (by decide)).2
                        have s98 : a'.tmps[98]? = some (.int .i64 u) := slotv ha (hP 7 rfl (by decide)).1 rfl (hP 7 rfl (by decide)).2
                        obtain ⟨hG1, hG2, hG3, hG4⟩ := hG
                        rw [if_pos (hP 5 rfl (by decide)).1] at hG1
                        obtain ⟨hR2, hg2⟩ := grd_R a 4 { pgEl cs a with f4 := u } (.int .i64 u) hG4 HA.out (by decide) rfl
                        have hbg : w.heap.size ≤ X := Kd.R_base hG4 X (by simp [Value.ownBlock])
                        exact ⟨_, rfl, fun K hK => skip_ rfl rfl (run_R (o' := a * 5 + 4) k34 3 rfl a 4 (.int .i64 u) [.int .i64 u] (by simp [Act.eval, Array.getD_eq_getD_getElem?, s100]) rfl (by simp [Act.eval, Array.getD_eq_getD_getElem?, s98]) rfl (by kernel_rfl) (fun q hq => by rw [List.mem_singleton.1 hq]; rfl) hG4 HA.out (Nat.le_of_ble_eq_true rfl)) (hK.out undef _ ⟨hG1.grown hg2 (fun k hk => by injection hk with hk; omega), blk_grown hG2 hg2 (own_ne_of hG4 hG2 (by decide)), blk_grown hG3 hg2 (own_ne_of hG4 hG3 (by decide)), hR2⟩)⟩
                      · intro E b W hall hF
                        obtain ⟨h1, h2, h3, h4⟩ := hF
                        rw [putSel_all (fun x hx => hall x.1 (by revert x; decide))]
                        simp only [spec_l20Grid.L16, List.foldl, Act.put, List.setIfInBounds_toArray, List.set_cons_zero, List.set_cons_succ]
                        clear hall HQ HB HG HV HU HEL hez hez4
                        have HQ := Aside0.mk h1
                        have HB := Aside0.mk h2
                        have HG := Aside0.mk h3
                        have HV := Aside0.mk h4
                        clear h1 h2 h3 h4
                        obtain ⟨cs2, hcs2⟩ : ∃ cs2, pgSet cs a { pgEl cs a with f4 := u } = cs2 := ⟨_, rfl⟩
                        rw [hcs2] at HV
                        have HC2 := Aside0.mk hcs2
                        clear hcs2
                        have he := hd
                        have hu := hu2
                        clear hd hu2
                        go_wp2
                        have HEL := Aside0.mk (show d < (ppG5).length from he)
                        have HU := Aside0.mk hu
                        have hez : (d : Int) < ((2 : Nat) : Int) := Int.ofNat_lt.2 he
                        have hez4 : ¬ (2 : Int) ≤ (d : Int) := by omega
                        clear he hu
                        refine region_envL (T := spec_l20Grid.T17) (B := spec_l20Grid.B17) spec_l20Grid.O17 spec_l20Grid.L17 10 (PhiB (spec_l20Grid.F17 d) (fun _ => .cells (ppG5.map (Value.int .i64)).toArray 3 (0, 0)) (spec_l20Grid.V17 g gb a d u2 rows cols X cap cs.length) w.heap.size)
                          (fun b W => Rds w0 w g s0_0 (if b 5 = true then q2_ else q) W ∧ W.heap[w.heap.size]? = some (.cells (gridA 0 0 (.slice none 0 0)) 25 (0, 0)) ∧ W.heap[gb]? = some (.cells (gridA rows cols (.slice (some ⟨X, 0, none⟩) cs.length cap)) 25 (0, 0)) ∧ Kd.R k34 34 W w.heap.size (fun _ => True) (.slice (some ⟨X, 0, none⟩) cs.length cap) cs2) (fun W W' => KeepBut W W' g none)
                          (fun _ W => Rds w0 w g s0_0 q2_ W ∧ W.heap[w.heap.size]? = some (.cells (gridA 0 0 (.slice none 0 0)) 25 (0, 0)) ∧ W.heap[gb]? = some (.cells (gridA rows cols (.slice (some ⟨X, 0, none⟩) cs.length cap)) 25 (0, 0)) ∧ Kd.R k34 34 W w.heap.size (fun _ => True) (.slice (some ⟨X, 0, none⟩) cs.length cap) (pgSet cs2 a { pgEl cs2 a with f2 := u2 }))
                          rfl spec_l20Grid.tab17 spec_l20Grid.bits17 spec_l20Grid.base17 spec_l20Grid.lof17 spec_l20Grid.ents17 spec_l20Grid.last17 (PhiB.keep hgw) ⟨HQ.out.drew, HB.out, HG.out, Kd.R_drew HV.out⟩ ?_ ?_ ?_
                        · skip
                          refine alln_cons (EStep.pure hk0 fun b E a' W ha hG hP => ?_) ?_
                          · have s5 : a'.tmps[5]? = some (.pointer (some ⟨gb, 0, none⟩)) := (slot_off ha rfl).trans rfl
                            exact ⟨_, .pointer (some ⟨gb, 2, none⟩), rfl, rfl, by clear ha hG hP; go_simp; try first | rfl | exact i64_w _, rfl, hG⟩
                          refine alln_cons (EStep.pure hk0 fun b E a' W ha hG hP => ?_) ?_
                          · have s101 : a'.tmps[101]? = some (.pointer (some ⟨gb, 2, none⟩)) := slotv ha (hP 0 rfl).1 rfl (hP 0 rfl).2
                            have hc : W.cell? ⟨gb, 2, none⟩ = some ((.slice (some ⟨X, 0, none⟩) cs.length cap)) := (blk_cell hG.2.2.1 2).trans rfl
                            exact ⟨_, (.slice (some ⟨X, 0, none⟩) cs.length cap), rfl, rfl, by clear ha hG hP; go_simp, rfl, hG⟩
                          refine alln_cons (EStep.pure hk0 fun b E a' W ha hG hP => ?_) ?_
                          · have s6 : a'.tmps[6]? = some (.int .i64 a) := (slot_off ha rfl).trans rfl
                            exact ⟨_, .int .i64 a, rfl, rfl, by clear ha hG hP; go_simp; try first | rfl | exact i64_w _, rfl, hG⟩
                          refine alln_cons (EStep.step fun b E a' W ha hG hP hoff hb => ?_) ?_
                          · exact ⟨_, .slice (some ⟨W.heap.size, 0, none⟩) 2 2, W.alloc (.cells (ppG5.map (Value.int .i64)).toArray 3), rfl, rfl, by clear ha hP hoff hb hG; go_simp; try rfl, ⟨_, rfl, hG.1.size, blk_new _ _⟩, keep_alloc (hk0 W) _, hG.1.alloc _, blk_alloc hG.2.1 _, blk_alloc hG.2.2.1 _, Kd.R_alloc hG.2.2.2 _⟩
                          refine alln_cons (EStep.pure hk0 fun b E a' W ha hG hP => ?_) ?_
                          · have s0 : a'.tmps[0]? = some (.pointer (some ⟨g, 0, none⟩)) := (slot_off ha rfl).trans rfl
                            exact ⟨_, .pointer (some ⟨g, 0, none⟩), rfl, rfl, by clear ha hG hP; go_simp; try first | rfl | exact i64_w _, rfl, hG⟩
                          refine alln_cons (EStep.call Tryd.func16 (by kernel_rfl) rfl ⟨_, rfl, rfl, rfl⟩ fun b E a' W ha hG hP hoff hb => ⟨#[.pointer (some ⟨g, 0, none⟩), .int .i64 2], ?_, ?_⟩) ?_
                          · have s105 : a'.tmps[105]? = some (.pointer (some ⟨g, 0, none⟩)) := slotv ha (hP 4 rfl).1 rfl (hP 4 rfl).2
                            clear ha hG hP hoff hb
                            simp [Act.eval, Array.getD_eq_getD_getElem?, s105]
                          · obtain ⟨hG1, hG2, hG3, hG4⟩ := hG
                            rw [if_neg (by rw [hb]; decide)] at hG1
                            refine (spec_l20Rd_pick.calls k g s0_0 q 2 d q2_ w0 W hG1.st hG1.bl A7.out).mono ?_
                            rintro _ W2 ⟨rfl, hi, hb2, hk⟩
                            exact ⟨_, rfl, rfl, hk, hG1.call hi hb2 hk, hG1.blk hk hG2 (Nat.le_refl _), hG1.blk hk hG3 HGB.out, R_keepG hG4 hgw hk⟩
                          refine alln_cons (EStep.pure hk0 fun b E a' W ha hG hP => ?_) ?_
                          · obtain ⟨C, hC1, hC2, hC3⟩ := (hP 3 rfl).2
                            have s104 : a'.tmps[104]? = some (.slice (some ⟨C, 0, none⟩) 2 2) := slotv ha (hP 3 rfl).1 rfl hC1
                            have s106 : a'.tmps[106]? = some (.int .i64 d) := slotv ha (hP 5 rfl).1 rfl (hP 5 rfl).2
                            exact ⟨_, .pointer (some ⟨C, d, none⟩), rfl, rfl, by clear ha hG hP hC1 hC2 hC3; go_simp, ⟨C, rfl, hC2, hC3⟩, hG⟩
                          refine alln_cons (EStep.pure hk0 fun b E a' W ha hG hP => ?_) ?_
                          · obtain ⟨C, hC1, hC2, hC3⟩ := (hP 6 rfl).2
                            have s107 : a'.tmps[107]? = some (.pointer (some ⟨C, d, none⟩)) := slotv ha (hP 6 rfl).1 rfl hC1
                            have hc : W.cell? ⟨C, d, none⟩ = some (.int .i64 u2) := (blk_cell hC3 d).trans ((ppInts_at (l := ppG5) HEL.out).trans (by rw [HU.out]))
                            exact ⟨_, .int .i64 u2, rfl, rfl, by clear ha hG hP hC1 hC2 hC3; go_simp, rfl, hG⟩
                          refine alln_cons (EStep.pure hk0 fun b E a' W ha hG hP => ?_) ?_
                          · have s102 : a'.tmps[102]? = some ((.slice (some ⟨X, 0, none⟩) cs.length cap)) := slotv ha (hP 1 rfl).1 rfl (hP 1 rfl).2
                            have s103 : a'.tmps[103]? = some (.int .i64 a) := slotv ha (hP 2 rfl).1 rfl (hP 2 rfl).2
                            exact ⟨_, .pointer (some ⟨X, a * 5, none⟩), rfl, rfl, by clear ha hG hP; go_simp; try first | rfl | exact i64_w _, rfl, hG⟩
                          refine alln_cons (EStep.pure hk0 fun b E a' W ha hG hP => ?_) alln_last
                          · have s109 : a'.tmps[109]? = some (.pointer (some ⟨X, a * 5, none⟩)) := slotv ha (hP 8 rfl).1 rfl (hP 8 rfl).2
                            exact ⟨_, .pointer (some ⟨X, a * 5 + 2, none⟩), rfl, rfl, by clear ha hG hP; go_simp; try first | rfl | exact i64_w _, rfl, hG⟩
                        · intro b E a' W ha hG hP hb
                          have s110 : a'.tmps[110]? = some (.pointer (some ⟨X, a * 5 + 2, none⟩)) := slotv ha (hP 9 rfl (by decide)).1 rfl (hP 9 rfl (by decide)).2
                          have s108 : a'.tmps[108]? = some (.int .i64 u2) := slotv ha (hP 7 rfl (by decide)).1 rfl (hP 7 rfl (by decide)).2
                          obtain ⟨hG1, hG2, hG3, hG4⟩ := hG
                          rw [if_pos (hP 5 rfl (by decide)).1] at hG1
                          obtain ⟨hR2, hg2⟩ := grd_R a 2 { pgEl cs2 a with f2 := u2 } (.int .i64 u2) hG4 HA.out (by decide) rfl
                          have hbg : w.heap.size ≤ X := Kd.R_base hG4 X (by simp [Value.ownBlock])
                          exact ⟨_, rfl, fun K hK => skip_ rfl rfl (run_R (o' := a * 5 + 2) k34 3 rfl a 2 (.int .i64 u2) [.int .i64 u2] (by simp [Act.eval, Array.getD_eq_getD_getElem?, s110]) rfl (by simp [Act.eval, Array.getD_eq_getD_getElem?, s108]) rfl (by kernel_rfl) (fun q hq => by rw [List.mem_singleton.1 hq]; rfl) hG4 HA.out (Nat.le_of_ble_eq_true rfl)) (hK.out undef _ ⟨hG1.grown hg2 (fun k hk => by injection hk with hk; omega), blk_grown hG2 hg2 (own_ne_of hG4 hG2 (by decide)), blk_grown hG3 hg2 (own_ne_of hG4 hG3 (by decide)), hR2⟩)⟩
                        · intro E b W hall hF
                          obtain ⟨h1, h2, h3, h4⟩ := hF
                          rw [putSel_all (fun x hx => hall x.1 (by revert x; decide))]
                          simp only [spec_l20Grid.L17, List.foldl, Act.put, List.setIfInBounds_toArray, List.set_cons_zero, List.set_cons_succ]
                          clear hall HQ HB HG HV HU HEL hez hez4
                          have HQ := Aside0.mk h1
                          have HB := Aside0.mk h2
                          have HG := Aside0.mk h3
                          have HV := Aside0.mk h4
                          clear h1 h2 h3 h4
                          have hcs2 := HC2.out
                          clear HC2
                          subst hcs2
                          go_wp2_with (first | (refine wpList_load_row rfl 25 _ rfl gb rfl 25 (gridA rows cols (.slice (some ⟨X, 0, none⟩) cs.length cap)) (0, 0) _ HG.out Tryd.underlying25 rfl (by kernel_rfl) ?_) | (refine wpList_put 25 _ _ rfl rfl w.heap.size 0 rfl (.agg (gridA rows cols (.slice (some ⟨X, 0, none⟩) cs.length cap))) rfl 25 (gridA 0 0 (.slice none 0 0)) (gridA rows cols (.slice (some ⟨X, 0, none⟩) cs.length cap)) HB.out (by kernel_rfl) rfl rfl rfl (fun W9 hp => ?_); have HF := Aside0.mk (HQ.out.put hp (Nat.le_refl _)); have HFB := Aside0.mk hp.blk; have HFV := Aside0.mk (R_put HV.out HB.out hp (by decide)); clear hp))
                          exact bodyPost_ret (results_cell_row rfl _ _ w.heap.size 25 (gridA rows cols (.slice (some ⟨X, 0, none⟩) cs.length cap)) (0, 0) _ rfl HFB.out Tryd.underlying25 rfl (by kernel_rfl)) rfl ⟨_, rfl, HFV.out, HF.out.st, HF.out.bl, HF.out.kp⟩
                    · cases h
                  · cases h
                · rw [if_neg d4] at h
                  have b4 : (sw == 4) = false := by simpa using d4
                  split at h
                  · rename_i hcl
                    have HCL := Aside0.mk hcl
                    clear hcl
                    simp only [Option.some.injEq, Prod.mk.injEq] at h
                    obtain ⟨rfl, rfl, rfl, rfl⟩ := h
                    go_wp2
                    have hrb : ∀ k, (Value.slice (some ⟨X, 0, none⟩) cs.length cap).ownBlock = some k → w.heap.size ≤ k := Kd.R_base HV.out
                    have hrl : ∀ k, (Value.slice (some ⟨X, 0, none⟩) cs.length cap).ownBlock = some k → k < W3.heap.size := Kd.R_lt HV.out
                    have hnr := own_ne_of HV.out HB.out (by decide)
                    have hng := own_ne_of HV.out HG.out (by decide)
                    have hst : ∀ j v W W', j ∉ [8] → (spec_l20Grid.P6 w W3 cs (pgEl cs a) (spec_l20Grid.V6 gb a X cap cs.length (.agg (outA (pgEl cs a).f0 (pgEl cs a).f1 (pgEl cs a).f2 (pgEl cs a).f3 (pgEl cs a).f4)))) j v W → KeepBut W W' g (Value.slice (some ⟨X, 0, none⟩) cs.length cap).ownBlock → (spec_l20Grid.P6 w W3 cs (pgEl cs a) (spec_l20Grid.V6 gb a X cap cs.length (.agg (outA (pgEl cs a).f0 (pgEl cs a).f1 (pgEl cs a).f2 (pgEl cs a).f3 (pgEl cs a).f4)))) j v W' := by
                      intro j v W W' hj h hk
                      have e : ∀ W, (spec_l20Grid.P6 w W3 cs (pgEl cs a) (spec_l20Grid.V6 gb a X cap cs.length (.agg (outA (pgEl cs a).f0 (pgEl cs a).f1 (pgEl cs a).f2 (pgEl cs a).f3 (pgEl cs a).f4)))) j v W = PhiB spec_l20Grid.F6 (fun _ => .cells (outA (pgEl cs a).f0 (pgEl cs a).f1 (pgEl cs a).f2 (pgEl cs a).f3 (pgEl cs a).f4) 34 (0, 0)) (spec_l20Grid.V6 gb a X cap cs.length (.agg (outA (pgEl cs a).f0 (pgEl cs a).f1 (pgEl cs a).f2 (pgEl cs a).f3 (pgEl cs a).f4))) W3.heap.size j v W := fun W => by
                        unfold spec_l20Grid.P6
                        split
                        · exact absurd (by simp) hj
                        · rfl
                      rw [e] at h ⊢
                      exact PhiB.keepR (Nat.lt_of_lt_of_le hgw HQ.out.size) hrl j v W W' h hk
                    refine region_envF (T := spec_l20Grid.T6) (B := spec_l20Grid.B6) spec_l20Grid.O6 spec_l20Grid.L6 10 (spec_l20Grid.P6 w W3 cs (pgEl cs a) (spec_l20Grid.V6 gb a X cap cs.length (.agg (outA (pgEl cs a).f0 (pgEl cs a).f1 (pgEl cs a).f2 (pgEl cs a).f3 (pgEl cs a).f4))))
                      (fun b W => Rds w0 w g s0_0 p4 W ∧ W.heap[w.heap.size]? = some (.cells (gridA 0 0 (.slice none 0 0)) 25 (0, 0)) ∧ W.heap[gb]? = some (.cells (gridA rows cols (.slice (some ⟨X, 0, none⟩) cs.length cap)) 25 (0, 0)) ∧ (b 8 = false → Kd.R k34 34 W w.heap.size (fun _ => True) (.slice (some ⟨X, 0, none⟩) cs.length cap) cs) ∧ W3.heap.size ≤ W.heap.size)
                      (fun _ W => Rds w0 w g s0_0 p4 W ∧ W.heap[w.heap.size]? = some (.cells (gridA 0 0 (.slice none 0 0)) 25 (0, 0)) ∧ ∃ v1, W.heap[gb]? = some (.cells (gridA rows cols v1) 25 (0, 0)) ∧ Kd.R k34 34 W w.heap.size (fun _ => True) v1 (cs ++ [pgEl cs a]))
                      rfl spec_l20Grid.tab6 spec_l20Grid.bits6 spec_l20Grid.base6 spec_l20Grid.lof6 spec_l20Grid.ents6 spec_l20Grid.last6 ⟨HQ.out.drew, HB.out, HG.out, fun _ => Kd.R_drew HV.out, Nat.le_refl _⟩ ?_ ?_ ?_
                    · skip
                      refine alln_cons (EStepF.pure fun b E a' W ha hG hP => ?_) ?_
                      · have s5 : a'.tmps[5]? = some (.pointer (some ⟨gb, 0, none⟩)) := (slot_off ha rfl).trans rfl
                        exact ⟨_, .pointer (some ⟨gb, 2, none⟩), rfl, rfl, by clear ha hG hP; go_simp; try first | rfl | exact i64_w _, rfl, hG⟩
                      refine alln_cons (EStepF.pure fun b E a' W ha hG hP => ?_) ?_
                      · have s28 : a'.tmps[28]? = some (.pointer (some ⟨gb, 2, none⟩)) := slotv ha (hP 0 rfl).1 rfl (hP 0 rfl).2
                        have hc : W.cell? ⟨gb, 2, none⟩ = some (.slice (some ⟨X, 0, none⟩) cs.length cap) := (blk_cell hG.2.2.1 2).trans rfl
                        exact ⟨_, (.slice (some ⟨X, 0, none⟩) cs.length cap), rfl, rfl, by clear ha hG hP; go_simp, rfl, hG⟩
                      refine alln_cons (EStepF.pure fun b E a' W ha hG hP => ?_) ?_
                      · have s5 : a'.tmps[5]? = some (.pointer (some ⟨gb, 0, none⟩)) := (slot_off ha rfl).trans rfl
                        exact ⟨_, .pointer (some ⟨gb, 2, none⟩), rfl, rfl, by clear ha hG hP; go_simp; try first | rfl | exact i64_w _, rfl, hG⟩
                      refine alln_cons (EStepF.pure fun b E a' W ha hG hP => ?_) ?_
                      · have s30 : a'.tmps[30]? = some (.pointer (some ⟨gb, 2, none⟩)) := slotv ha (hP 2 rfl).1 rfl (hP 2 rfl).2
                        have hc : W.cell? ⟨gb, 2, none⟩ = some (.slice (some ⟨X, 0, none⟩) cs.length cap) := (blk_cell hG.2.2.1 2).trans rfl
                        exact ⟨_, (.slice (some ⟨X, 0, none⟩) cs.length cap), rfl, rfl, by clear ha hG hP; go_simp, rfl, hG⟩
                      refine alln_cons (EStepF.pure fun b E a' W ha hG hP => ?_) ?_
                      · have s6 : a'.tmps[6]? = some (.int .i64 a) := (slot_off ha rfl).trans rfl
                        exact ⟨_, .int .i64 a, rfl, rfl, by clear ha hG hP; go_simp; try first | rfl | exact i64_w _, rfl, hG⟩
                      refine alln_cons (EStepF.pure fun b E a' W ha hG hP => ?_) ?_
                      · have s31 : a'.tmps[31]? = some ((.slice (some ⟨X, 0, none⟩) cs.length cap)) := slotv ha (hP 3 rfl).1 rfl (hP 3 rfl).2
                        have s32 : a'.tmps[32]? = some (.int .i64 a) := slotv ha (hP 4 rfl).1 rfl (hP 4 rfl).2
                        exact ⟨_, .pointer (some ⟨X, a * 5, none⟩), rfl, rfl, by clear ha hG hP; go_simp; try first | rfl | exact i64_w _, rfl, hG⟩
                      refine alln_cons (EStepF.step [8] hst rfl fun b E a' W ha hG hP hoff hb => ?_) ?_
                      · have s33 : a'.tmps[33]? = some (.pointer (some ⟨X, a * 5, none⟩)) := slotv ha (hP 5 rfl).1 rfl (hP 5 rfl).2
                        obtain ⟨c0, c1, c2, c3, c4⟩ := grd_cells a (hG.2.2.2.1 (hoff 8 rfl)) HA.out
                        exact ⟨_, .agg (outA (pgEl cs a).f0 (pgEl cs a).f1 (pgEl cs a).f2 (pgEl cs a).f3 (pgEl cs a).f4), W, rfl, rfl, by clear ha hG hP hoff hb; go_simp; try rfl, rfl, KeepBut.refl _ _ _, hG.1, hG.2.1, hG.2.2.1, fun _ => hG.2.2.2.1 (hoff 8 rfl), hG.2.2.2.2⟩
                      refine alln_cons (EStepF.step [8] hst rfl fun b E a' W ha hG hP hoff hb => ?_) ?_
                      · have s34 : a'.tmps[34]? = some (.agg (outA (pgEl cs a).f0 (pgEl cs a).f1 (pgEl cs a).f2 (pgEl cs a).f3 (pgEl cs a).f4)) := slotv ha (hP 6 rfl).1 rfl (hP 6 rfl).2
                        exact ⟨_, .slice (some ⟨W.heap.size, 0, none⟩) 1 1, W.alloc (.cells (outA (pgEl cs a).f0 (pgEl cs a).f1 (pgEl cs a).f2 (pgEl cs a).f3 (pgEl cs a).f4) 34), rfl, rfl, by clear ha hG hP hoff hb; go_simp; try rfl, ⟨_, rfl, hG.2.2.2.2, blk_new _ _⟩, KeepBut.of_grown (World.grownBy_alloc W _ _) g, hG.1.alloc _, blk_alloc hG.2.1 _, blk_alloc hG.2.2.1 _, fun h8 => Kd.R_alloc (hG.2.2.2.1 h8) _, by simpa using Nat.le_succ_of_le hG.2.2.2.2⟩
                      refine alln_cons (EStepF.stepO [8] hst rfl (.call { callee := .builtin .append, args := #[.tmp 29, .tmp 35], argTypes := #[23, 23] }) ⟨_, rfl, rfl, rfl⟩ fun b E a' W oi ho ha hG hP hoff hb => ?_) ?_
                      · obtain ⟨C, hC1, hC2, hC3⟩ := (hP 7 rfl).2
                        have s29 : a'.tmps[29]? = some (.slice (some ⟨X, 0, none⟩) cs.length cap) := slotv ha (hP 1 rfl).1 rfl (hP 1 rfl).2
                        have s35 : a'.tmps[35]? = some (.slice (some ⟨C, 0, none⟩) 1 1) := slotv ha (hP 7 rfl).1 rfl hC1
                        obtain ⟨hG1, hG2, hG3, hG4, hG5⟩ := hG
                        obtain ⟨v1, w1, hr, hR1, hgr, hat⟩ := exec_append_R (P := Tryd.prog) (oi := oi) (ev := a'.eval) k34 w.heap.size (.tmp 29) (.tmp 35) 23 34 (.agg #[.int .i64 0, .int .i64 0, .int .i64 0, .int .i64 0, .int .i64 0]) 40 ho Tryd.underlying23 (by kernel_rfl) rfl (by decide) (by decide) (.slice (some ⟨X, 0, none⟩) cs.length cap) cs (pgEl cs a) [.int .i64 (pgEl cs a).f0, .int .i64 (pgEl cs a).f1, .int .i64 (pgEl cs a).f2, .int .i64 (pgEl cs a).f3, .int .i64 (pgEl cs a).f4] C (fun _ => True) (fun _ => False) (by simp [Act.eval, Array.getD_eq_getD_getElem?, s29]) (by simp [Act.eval, Array.getD_eq_getD_getElem?, s35]) hC3 (k34_mkM _ _ _ (pgEl cs a)) (fun _ h => h.elim) (fun _ _ => trivial) (hG4 hb) hG1.size (by have := HCL.out; omega)
                        exact ⟨v1, w1, hr, hR1, KeepBut.of_grown hgr g, hG1.grown hgr hrb, blk_grown hG2 hgr hnr, blk_grown hG3 hgr hng, fun h8 => (by rw [up_self] at h8; cases h8), Nat.le_trans hG5 hgr.size⟩
                      refine alln_cons (EStepF.pure fun b E a' W ha hG hP => ?_) alln_last
                      · have s5 : a'.tmps[5]? = some (.pointer (some ⟨gb, 0, none⟩)) := (slot_off ha rfl).trans rfl
                        exact ⟨_, .pointer (some ⟨gb, 2, none⟩), rfl, rfl, by clear ha hG hP; go_simp; try first | rfl | exact i64_w _, rfl, hG⟩
                    · intro b E a' W ha hG hP hb
                      have s37 : a'.tmps[37]? = some (.pointer (some ⟨gb, 2, none⟩)) := slotv ha (hP 9 rfl (by decide)).1 rfl (hP 9 rfl (by decide)).2
                      obtain ⟨v1, hv1⟩ : ∃ v1, E 8 = v1 := ⟨_, rfl⟩
                      have s36 : a'.tmps[36]? = some v1 := slotv ha (hP 8 rfl (by decide)).1 rfl hv1
                      have hR1 : Kd.R k34 34 W w.heap.size (fun _ => True) v1 (cs ++ [pgEl cs a]) := hv1 ▸ (hP 8 rfl (by decide)).2
                      obtain ⟨A1, c1, rfl⟩ := Kd.R_slice hR1
                      obtain ⟨hG1, hG2, hG3, hG4, hG5⟩ := hG
                      have hp := Put.setRow (cs := gridA rows cols (.slice A1 (cs ++ [pgEl cs a]).length c1)) hG3
                      exact ⟨_, rfl, fun K hK => skip_ rfl rfl (exec_put 23 _ _ rfl gb 2 (by simp [Act.eval, Array.getD_eq_getD_getElem?, s37]) (.slice A1 (cs ++ [pgEl cs a]).length c1) (by simp [Act.eval, Array.getD_eq_getD_getElem?, s36]) 25 _ (gridA rows cols (.slice A1 (cs ++ [pgEl cs a]).length c1)) hG3 (by kernel_rfl) rfl rfl rfl) (hK.out undef _ ⟨hG1.put hp HGB.out, hp.keep hG2 (Nat.ne_of_lt HGN.out), _, hp.blk, R_put hR1 hG3 hp (by decide)⟩)⟩
                    · intro E b W hall hF
                      obtain ⟨h1, h2, v1, h3, h4⟩ := hF
                      rw [putSel_all (fun x hx => hall x.1 (by revert x; decide))]
                      simp only [spec_l20Grid.L6, List.foldl, Act.put, List.setIfInBounds_toArray, List.set_cons_zero, List.set_cons_succ]
                      obtain ⟨A1, n1, c1, rfl⟩ : ∃ A1 n1 c1, v1 = .slice A1 n1 c1 := (Kd.R_slice h4).imp fun _ h => ⟨_, h⟩
                      clear hall HQ HB HG HV hst hrb hrl hnr hng
                      have HQ := Aside0.mk h1
                      have HB := Aside0.mk h2
                      have HG := Aside0.mk h3
                      have HV := Aside0.mk h4
                      clear h1 h2 h3 h4
                      go_wp2_with (first | (refine wpList_load_row rfl 25 _ rfl gb rfl 25 (gridA rows cols (.slice A1 n1 c1)) (0, 0) _ HG.out Tryd.underlying25 rfl (by kernel_rfl) ?_) | (refine wpList_put 25 _ _ rfl rfl w.heap.size 0 rfl (.agg (gridA rows cols (.slice A1 n1 c1))) rfl 25 (gridA 0 0 (.slice none 0 0)) (gridA rows cols (.slice A1 n1 c1)) HB.out (by kernel_rfl) rfl rfl rfl (fun W9 hp => ?_); have HF := Aside0.mk (HQ.out.put hp (Nat.le_refl _)); have HFB := Aside0.mk hp.blk; have HFV := Aside0.mk (R_put HV.out HB.out hp (by decide)); clear hp))
                      exact bodyPost_ret (results_cell_row rfl _ _ w.heap.size 25 (gridA rows cols (.slice A1 n1 c1)) (0, 0) _ rfl HFB.out Tryd.underlying25 rfl (by kernel_rfl)) rfl ⟨_, rfl, HFV.out, HF.out.st, HF.out.bl, HF.out.kp⟩
                  · cases h
      · cases h


end Go.Proofs.YtkbcmbjoelkgoaaDoor.Q
