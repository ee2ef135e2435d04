-- Told by a program of this session (uprint.py, ulay.py).
import Derived.Test.YtaihfkjfbjcmhabDoorQ0
import Derived.Test.YtaihfkjfbjcmhabDoorReg
import Derived.Test.YtaihfkjfbjcmhabDoorQimplin
import Derived.Test.YtaihfkjfbjcmhabDoorQspecl20Brd
namespace Go.Proofs.YtaihfkjfbjcmhabDoor.Q
open Go.RowKit Go.Proofs.YtaihfkjfbjcmhabDoorW.PrintWords Go.Proofs.YtaihfkjfbjcmhabDoorW.PrintLast Go.Proofs.YtaihfkjfbjcmhabDoorW.PrintMore Go.Proofs.YtaihfkjfbjcmhabDoor.Reg Go.Proofs.YtaihfkjfbjcmhabDoor.Box
attribute [local go_sem] max2_int min2_int max_two min_two max_three min_three max_four min_four
set_option linter.unusedVariables false
set_option linter.unusedSimpArgs false

/-! ### spec_l20Cell: function 16 (by hand) -/
def spec_l20Cel.T1 : Bool × List (List Nat × List Nat) := (true, [([], []), ([0], [0]), ([], []), ([], []), ([3, 1], [3]), ([2, 4], [2, 4]), ([5], [5]), ([], []), ([], []), ([8, 4], [8]), ([7, 9], [7, 9]), ([10], [10]), ([1, 6, 11], [1, 6, 11]), ([], []), ([13, 12, 9, 0, 1, 2, 3, 4, 5, 6, 7, 8, 9, 10, 11, 12, 13], [12, 13])])
def spec_l20Cel.B1 : List Nat := [0, 1, 0, 0, 11, 31, 63, 0, 0, 283, 923, 1947, 4095, 0, 16383]
def spec_l20Cel.L1 : List (Nat × Tmp) := [(0, 6), (1, 7), (2, 8), (3, 9), (4, 10), (5, 11), (6, 12), (7, 13), (8, 14), (9, 15), (10, 16), (11, 17), (12, 18), (13, 5)]
def spec_l20Cel.O1 : List Nat := [0, 1, 2, 3, 4, 5, 6, 7, 8, 9, 10, 11, 12, 13, 14]
theorem spec_l20Cel.tab1 : rtab .any (opsOf Tryd.f16 1) = spec_l20Cel.T1 := by kernel_rfl
theorem spec_l20Cel.bits1 : waitsOk spec_l20Cel.T1.2 spec_l20Cel.B1 = true := by kernel_rfl
theorem spec_l20Cel.base1 : baseOk spec_l20Cel.T1.2 spec_l20Cel.O1 = true := by kernel_rfl
theorem spec_l20Cel.lof1 : (lof spec_l20Cel.T1.2.length spec_l20Cel.O1 (fun _ => false) == List.replicate spec_l20Cel.T1.2.length false && spec_l20Cel.O1.length == spec_l20Cel.T1.2.length) = true := by kernel_rfl
theorem spec_l20Cel.ents1 : chkL (opsOf Tryd.f16 1) spec_l20Cel.O1 spec_l20Cel.L1 = true := by kernel_rfl
theorem spec_l20Cel.last1 : lastOk spec_l20Cel.B1 spec_l20Cel.O1 14 = true := by kernel_rfl
def ppOf6a : List Int := [1, 1, 1, 2, 3, 4]
def ppOf6b : List Int := [1, 1, 1, 1, 2, 3]
def ppOf3 : List Int := [0, 5, -1]
theorem ppInts_at {l : List Int} {i : Nat} (h : i < l.length) : (l.map (Value.int .i64)).toArray[i]? = some (.int .i64 (l.getD i 0)) := by
  simp [List.getD_eq_getElem?_getD, List.getElem?_eq_getElem h]
/-- A cell's values, as they lie. -/
def cellA (x : S30) : Array Value := #[.string x.f0, .int .i64 x.f1, .int .i64 x.f2, .int .i64 x.f3.f0, .int .i64 x.f3.f1, .int .i64 x.f4.f0, .int .i64 x.f4.f1, .int .i64 x.f5.f0, .int .i64 x.f5.f1, .int .i64 x.f6.f0, .int .i64 x.f6.f1]
/-- What may be turned of a drawn cell. -/
def spec_l20Cel.j (k : Nat) (s : List Int) (n : Int) (x : S30) (p : Int) : Option (S30 × Int) := (spec_l20Rd_pick.f k s p n).bind fun c => if c.1 > 0 then some (x, c.2) else (spec_l20Rd_pick.f k s c.2 4).bind fun d =>
  if d.1 = 0 then (spec_l20AnyText.f k s d.2 1).bind fun t => some ({ x with f0 := t.1 }, t.2)
  else if d.1 = 1 then (spec_l20Rd_pick.f k s d.2 3).bind fun e => if 0 ≤ e.1 ∧ e.1 < 3 then some ({ x with f1 := ppOf3.getD e.1.toNat 0 }, e.2) else none
  else if d.1 = 2 then (spec_l20Rd_pick.f k s d.2 3).bind fun e => if 0 ≤ e.1 ∧ e.1 < 3 then some ({ x with f2 := ppOf3.getD e.1.toNat 0 }, e.2) else none
  else (spec_l20Brd.f k s d.2 1).bind fun b => some ({ x with f6 := ⟨b.1, b.2.1⟩ }, b.2.2)
def spec_l20Cel.f (k : Nat) (s : List Int) (p n : Int) : Option (S30 × Int) := (spec_l20Text.f k s p).bind fun t => (spec_l20Rd_pick.f k s t.2 6).bind fun c => (spec_l20Rd_pick.f k s c.2 6).bind fun r => if 0 ≤ c.1 ∧ c.1 < 6 ∧ 0 ≤ r.1 ∧ r.1 < 6 then
  (spec_l20Brd.f k s r.2 999).bind fun b1 => (spec_l20Brd.f k s b1.2.2 999).bind fun b2 => (spec_l20Brd.f k s b2.2.2 999).bind fun b3 => (spec_l20Brd.f k s b3.2.2 999).bind fun b4 =>
    spec_l20Cel.j k s n (if s.length = 0 then ⟨⟨#[]⟩, 1, 1, ⟨0, 0⟩, ⟨0, 0⟩, ⟨0, 0⟩, ⟨0, 0⟩⟩ else ⟨t.1, ppOf6a.getD c.1.toNat 0, ppOf6b.getD r.1.toNat 0, ⟨b1.1, b1.2.1⟩, ⟨b2.1, b2.2.1⟩, ⟨b3.1, b3.2.1⟩, ⟨b4.1, b4.2.1⟩⟩) b4.2.2 else none
theorem spec_l20Cel.mono_j (k : Nat) (s : List Int) (n : Int) (x : S30) (p : Int) : LeO (spec_l20Cel.j k s n x p) (spec_l20Cel.j (k + 1) s n x p) := by
  unfold spec_l20Cel.j
  exact LeO.bind (spec_l20Rd_pick.mono _ _ _ _) fun c => LeO.ite (LeO.refl _) (LeO.bind (spec_l20Rd_pick.mono _ _ _ _) fun d => LeO.ite (LeO.bind (spec_l20AnyText.mono _ _ _ _) fun t => LeO.refl _) (LeO.ite (LeO.bind (spec_l20Rd_pick.mono _ _ _ _) fun e => LeO.refl _) (LeO.ite (LeO.bind (spec_l20Rd_pick.mono _ _ _ _) fun e => LeO.refl _) (LeO.bind (spec_l20Brd.mono _ _ _ _) fun b => LeO.refl _))))
theorem spec_l20Cel.mono : ∀ a0 a1 a2 k, LeO (spec_l20Cel.f k a0 a1 a2) (spec_l20Cel.f (k + 1) a0 a1 a2) := fun _ _ _ k => by
  unfold spec_l20Cel.f
  exact LeO.bind (spec_l20Text.mono _ _ _) fun t => LeO.bind (spec_l20Rd_pick.mono _ _ _ _) fun c => LeO.bind (spec_l20Rd_pick.mono _ _ _ _) fun r => LeO.ite (LeO.bind (spec_l20Brd.mono _ _ _ _) fun b1 => LeO.bind (spec_l20Brd.mono _ _ _ _) fun b2 => LeO.bind (spec_l20Brd.mono _ _ _ _) fun b3 => LeO.bind (spec_l20Brd.mono _ _ _ _) fun b4 => spec_l20Cel.mono_j _ _ _ _ _) (LeO.none _)
def spec_l20Cel.F1 (c r : Nat) : Nat → Option (Nat → Value)
  | 2 => some (fun C => .slice (some ⟨C, 0, none⟩) 6 6)
  | 5 => some (fun C => .pointer (some ⟨C, c, none⟩))
  | 7 => some (fun C => .slice (some ⟨C, 0, none⟩) 6 6)
  | 10 => some (fun C => .pointer (some ⟨C, r, none⟩))
  | 13 => some (fun C => .pointer (some ⟨C, 0, none⟩))
  | _ => none
def spec_l20Cel.W1 : Nat → Obj
  | 2 | 5 => .cells (ppOf6a.map (Value.int .i64)).toArray 3 (0, 0)
  | 7 | 10 => .cells (ppOf6b.map (Value.int .i64)).toArray 3 (0, 0)
  | _ => .cells (cellA z30) 30 (0, 0)
def spec_l20Cel.V1 (t : ByteArray) (c r g : Nat) (x y : Int) : Nat → Value
  | 0 | 3 | 8 => .pointer (some ⟨g, 0, none⟩)
  | 1 => .string t
  | 4 => .int .i64 c
  | 6 => .int .i64 x
  | 9 => .int .i64 r
  | 11 => .int .i64 y
  | _ => .agg #[.string t, .int .i64 x, .int .i64 y, .int .i64 0, .int .i64 0, .int .i64 0, .int .i64 0, .int .i64 0, .int .i64 0, .int .i64 0, .int .i64 0]
set_option maxHeartbeats 4000000 in
set_option maxRecDepth 100000 in
theorem spec_l20Cel.calls (k : Nat) (g : Nat) (s0_0 : List Int) (s0_1 : Int) (a1 : Int) (x : S30) (r2 : Int) (w0 w : World) (hI : IsS68 w0 w g s0_0 s0_1) (hB : Below w0.heap.size w0 w) (h : spec_l20Cel.f k s0_0 s0_1 a1 = some (x, r2)) :
    Calls Tryd.prog 16 #[.pointer (some ⟨g, 0, none⟩), .int .i64 a1] w fun e w' => e = .returned (.agg (cellA x)) ∧ IsS68 w0 w' g s0_0 r2 ∧ Below w0.heap.size w0 w' ∧ KeepBut w w' g none := by
  have HR := Aside0.mk (Rds.new hI hB)
  clear hI hB
  unfold spec_l20Cel.f at h
  rw [Option.bind_eq_some_iff] at h
  obtain ⟨⟨t, p1⟩, ht, h⟩ := h
  have AT := Aside0.mk ht
  clear ht
  rw [Option.bind_eq_some_iff] at h
  obtain ⟨⟨c, p2⟩, hc, h⟩ := h
  have AC := Aside0.mk hc
  clear hc
  rw [Option.bind_eq_some_iff] at h
  obtain ⟨⟨r, p3⟩, hr, h⟩ := h
  have AR := Aside0.mk hr
  clear hr
  simp only at h AC AR
  split at h
  · rename_i hh
    obtain ⟨hc0, hc6, hr0, hr6⟩ := hh
    obtain ⟨c, rfl⟩ : ∃ n : Nat, c = n := ⟨c.toNat, by omega⟩
    obtain ⟨r, rfl⟩ : ∃ n : Nat, r = n := ⟨r.toNat, by omega⟩
    have HC6 := Aside0.mk (show c < 6 by omega)
    have HR6 := Aside0.mk (show r < 6 by omega)
    rw [Int.toNat_natCast, Int.toNat_natCast] at h
    rw [Option.bind_eq_some_iff] at h
    obtain ⟨⟨b1, b1', p4⟩, hb1, h⟩ := h
    have AB1 := Aside0.mk hb1
    clear hb1
    rw [Option.bind_eq_some_iff] at h
    obtain ⟨⟨b2, b2', p5⟩, hb2, h⟩ := h
    have AB2 := Aside0.mk hb2
    clear hb2
    rw [Option.bind_eq_some_iff] at h
    obtain ⟨⟨b3, b3', p6⟩, hb3, h⟩ := h
    have AB3 := Aside0.mk hb3
    clear hb3
    rw [Option.bind_eq_some_iff] at h
    obtain ⟨⟨b4, b4', p7⟩, hb4, h⟩ := h
    have AB4 := Aside0.mk hb4
    clear hb4
    simp only at h AB1 AB2 AB3 AB4
    obtain ⟨x1, hx1⟩ : ∃ x1, ppOf6a.getD c 0 = x1 := ⟨_, rfl⟩
    obtain ⟨y1, hy1⟩ : ∃ y1, ppOf6b.getD r 0 = y1 := ⟨_, rfl⟩
    rw [hx1, hy1] at h
    have HH := Aside0.mk h
    have HX1 := Aside0.mk hx1
    have HY1 := Aside0.mk hy1
    clear h hx1 hy1 hc0 hr0
    go_enter Tryd.func16, Tryd.ntmps16
    go_wp2
    have HR1 := Aside0.mk (HR.out.alloc (.cells (cellA z30) 30))
    have RB := Aside0.mk (blk_new w (.cells (cellA z30) 30))
    obtain ⟨W1, hW1⟩ : ∃ W1, w.alloc (.cells (cellA z30) 30) = W1 := ⟨_, rfl⟩
    show Code.wp Tryd.prog _ _ _ (w.alloc (.cells (cellA z30) 30))
    rw [hW1] at HR1 RB ⊢
    clear hW1
    have hlt : g < w.heap.size + 1 := Nat.lt_succ_of_lt HR.out.lt
    have hk0 := fun W => KeepBut.refl W g none
    have hc6z : (c : Int) < ((6 : Nat) : Int) := hc6
    have hr6z : (r : Int) < ((6 : Nat) : Int) := hr6
    refine region_envL (T := spec_l20Cel.T1) (B := spec_l20Cel.B1) spec_l20Cel.O1 spec_l20Cel.L1 14 (PhiB (spec_l20Cel.F1 c r) spec_l20Cel.W1 (spec_l20Cel.V1 t c r g x1 y1) (w.heap.size + 1))
      (fun b W => Rds w0 w g s0_0 (if b 9 = true then p3 else if b 4 = true then p2 else if b 1 = true then p1 else s0_1) W ∧ W.heap[w.heap.size]? = some (.cells (cellA z30) 30 (0, 0))) (fun W W' => KeepBut W W' g none)
      (fun e W => Rds w0 w g s0_0 p3 W ∧ W.heap[w.heap.size]? = some (.cells (cellA z30) 30 (0, 0)) ∧ ∃ C, e 13 = .pointer (some ⟨C, 0, none⟩) ∧ w.heap.size + 1 ≤ C ∧ W.heap[C]? = some (.cells (cellA ⟨t, x1, y1, ⟨0, 0⟩, ⟨0, 0⟩, ⟨0, 0⟩, ⟨0, 0⟩⟩) 30 (0, 0)))
      rfl spec_l20Cel.tab1 spec_l20Cel.bits1 spec_l20Cel.base1 spec_l20Cel.lof1 spec_l20Cel.ents1 spec_l20Cel.last1 (PhiB.keep hlt) ⟨HR1.out.drew, RB.out⟩ ?_ ?_ ?_
    · skip
      refine alln_cons (EStep.pure hk0 fun b E a' W ha hG hP => ?_) ?_
      · have s0 : a'.tmps[0]? = some (.pointer (some ⟨g, 0, none⟩)) := (slot_off ha rfl).trans rfl
        exact ⟨_, .pointer (some ⟨g, 0, none⟩), rfl, rfl, by clear ha hG hP; go_simp; try first | rfl | exact i64_w _, rfl, hG⟩
      refine alln_cons (EStep.call Tryd.func39 (by kernel_rfl) rfl ⟨_, rfl, rfl, rfl⟩ fun b E a' W ha hG hP hoff hb => ⟨#[.pointer (some ⟨g, 0, none⟩)], ?_, ?_⟩) ?_
      · have s6 : a'.tmps[6]? = some (.pointer (some ⟨g, 0, none⟩)) := slotv ha (hP 0 rfl).1 rfl (hP 0 rfl).2
        clear ha hG hP hoff hb
        simp [Act.eval, Array.getD_eq_getD_getElem?, s6]
      · obtain ⟨hG1, hG2⟩ := hG
        rw [if_neg (by rw [hoff 9 rfl]; decide), if_neg (by rw [hoff 4 rfl]; decide), if_neg (by rw [hb]; decide)] at hG1
        refine (spec_l20Text.calls k g s0_0 s0_1 t p1 w0 W hG1.st hG1.bl AT.out).mono ?_
        rintro _ W2 ⟨rfl, hi, hb2, hk⟩
        refine ⟨_, rfl, rfl, hk, ?_, hG1.blk hk hG2 (Nat.le_refl _)⟩
        rw [if_neg (show ¬ up b 1 9 = true by rw [up_ne (by decide), hoff 9 rfl]; decide), if_neg (show ¬ up b 1 4 = true by rw [up_ne (by decide), hoff 4 rfl]; decide)]
        exact hG1.call hi hb2 hk
      refine alln_cons (EStep.step fun b E a' W ha hG hP hoff hb => ?_) ?_
      · exact ⟨_, .slice (some ⟨W.heap.size, 0, none⟩) 6 6, W.alloc (.cells (ppOf6a.map (Value.int .i64)).toArray 3), rfl, rfl, by clear ha hP hoff hb hG; go_simp; rfl, ⟨_, rfl, Nat.succ_le_of_lt (blk_lt hG.2), blk_new _ _⟩, keep_alloc (hk0 W) _, hG.1.alloc _, blk_alloc hG.2 _⟩
      refine alln_cons (EStep.pure hk0 fun b E a' W ha hG hP => ?_) ?_
      · have s0 : a'.tmps[0]? = some (.pointer (some ⟨g, 0, none⟩)) := (slot_off ha rfl).trans rfl
        exact ⟨_, .pointer (some ⟨g, 0, none⟩), rfl, rfl, by clear ha hG hP; go_simp; try first | rfl | exact i64_w _, rfl, hG⟩
      refine alln_cons (EStep.call Tryd.func15 (by kernel_rfl) rfl ⟨_, rfl, rfl, rfl⟩ fun b E a' W ha hG hP hoff hb => ⟨#[.pointer (some ⟨g, 0, none⟩), .int .i64 6], ?_, ?_⟩) ?_
      · have s9 : a'.tmps[9]? = some (.pointer (some ⟨g, 0, none⟩)) := slotv ha (hP 3 rfl).1 rfl (hP 3 rfl).2
        clear ha hG hP hoff hb
        simp [Act.eval, Array.getD_eq_getD_getElem?, s9]
      · obtain ⟨hG1, hG2⟩ := hG
        rw [if_neg (by rw [hoff 9 rfl]; decide), if_neg (by rw [hb]; decide), if_pos (hP 1 rfl).1] at hG1
        refine (spec_l20Rd_pick.calls k g s0_0 p1 6 c p2 w0 W hG1.st hG1.bl AC.out).mono ?_
        rintro _ W2 ⟨rfl, hi, hb2, hk⟩
        refine ⟨_, rfl, rfl, hk, ?_, hG1.blk hk hG2 (Nat.le_refl _)⟩
        rw [if_neg (show ¬ up b 4 9 = true by rw [up_ne (by decide), hoff 9 rfl]; decide)]
        exact hG1.call hi hb2 hk
      refine alln_cons (EStep.pure hk0 fun b E a' W ha hG hP => ?_) ?_
      · obtain ⟨C, hC1, hC2, hC3⟩ := (hP 2 rfl).2
        have s8 : a'.tmps[8]? = some (.slice (some ⟨C, 0, none⟩) 6 6) := slotv ha (hP 2 rfl).1 rfl hC1
        have s10 : a'.tmps[10]? = some (.int .i64 c) := slotv ha (hP 4 rfl).1 rfl (hP 4 rfl).2
        exact ⟨_, .pointer (some ⟨C, c, none⟩), rfl, rfl, by clear ha hG hP hC1 hC2 hC3; go_simp, ⟨C, rfl, hC2, hC3⟩, hG⟩
      refine alln_cons (EStep.pure hk0 fun b E a' W ha hG hP => ?_) ?_
      · obtain ⟨C, hC1, hC2, hC3⟩ := (hP 5 rfl).2
        have s11 : a'.tmps[11]? = some (.pointer (some ⟨C, c, none⟩)) := slotv ha (hP 5 rfl).1 rfl hC1
        have hc : W.cell? ⟨C, c, none⟩ = some (.int .i64 x1) := (blk_cell hC3 c).trans ((ppInts_at (l := ppOf6a) HC6.out).trans (by rw [HX1.out]))
        exact ⟨_, .int .i64 x1, rfl, rfl, by clear ha hG hP hC1 hC2 hC3; go_simp, rfl, hG⟩
      refine alln_cons (EStep.step fun b E a' W ha hG hP hoff hb => ?_) ?_
      · exact ⟨_, .slice (some ⟨W.heap.size, 0, none⟩) 6 6, W.alloc (.cells (ppOf6b.map (Value.int .i64)).toArray 3), rfl, rfl, by clear ha hP hoff hb hG; go_simp; rfl, ⟨_, rfl, Nat.succ_le_of_lt (blk_lt hG.2), blk_new _ _⟩, keep_alloc (hk0 W) _, hG.1.alloc _, blk_alloc hG.2 _⟩
      refine alln_cons (EStep.pure hk0 fun b E a' W ha hG hP => ?_) ?_
      · have s0 : a'.tmps[0]? = some (.pointer (some ⟨g, 0, none⟩)) := (slot_off ha rfl).trans rfl
        exact ⟨_, .pointer (some ⟨g, 0, none⟩), rfl, rfl, by clear ha hG hP; go_simp; try first | rfl | exact i64_w _, rfl, hG⟩
      refine alln_cons (EStep.call Tryd.func15 (by kernel_rfl) rfl ⟨_, rfl, rfl, rfl⟩ fun b E a' W ha hG hP hoff hb => ⟨#[.pointer (some ⟨g, 0, none⟩), .int .i64 6], ?_, ?_⟩) ?_
      · have s14 : a'.tmps[14]? = some (.pointer (some ⟨g, 0, none⟩)) := slotv ha (hP 8 rfl).1 rfl (hP 8 rfl).2
        clear ha hG hP hoff hb
        simp [Act.eval, Array.getD_eq_getD_getElem?, s14]
      · obtain ⟨hG1, hG2⟩ := hG
        rw [if_neg (by rw [hb]; decide), if_pos (hP 4 rfl).1] at hG1
        refine (spec_l20Rd_pick.calls k g s0_0 p2 6 r p3 w0 W hG1.st hG1.bl AR.out).mono ?_
        rintro _ W2 ⟨rfl, hi, hb2, hk⟩
        exact ⟨_, rfl, rfl, hk, hG1.call hi hb2 hk, hG1.blk hk hG2 (Nat.le_refl _)⟩
      refine alln_cons (EStep.pure hk0 fun b E a' W ha hG hP => ?_) ?_
      · obtain ⟨C, hC1, hC2, hC3⟩ := (hP 7 rfl).2
        have s13 : a'.tmps[13]? = some (.slice (some ⟨C, 0, none⟩) 6 6) := slotv ha (hP 7 rfl).1 rfl hC1
        have s15 : a'.tmps[15]? = some (.int .i64 r) := slotv ha (hP 9 rfl).1 rfl (hP 9 rfl).2
        exact ⟨_, .pointer (some ⟨C, r, none⟩), rfl, rfl, by clear ha hG hP hC1 hC2 hC3; go_simp, ⟨C, rfl, hC2, hC3⟩, hG⟩
      refine alln_cons (EStep.pure hk0 fun b E a' W ha hG hP => ?_) ?_
      · obtain ⟨C, hC1, hC2, hC3⟩ := (hP 10 rfl).2
        have s16 : a'.tmps[16]? = some (.pointer (some ⟨C, r, none⟩)) := slotv ha (hP 10 rfl).1 rfl hC1
        have hc : W.cell? ⟨C, r, none⟩ = some (.int .i64 y1) := (blk_cell hC3 r).trans ((ppInts_at (l := ppOf6b) HR6.out).trans (by rw [HY1.out]))
        exact ⟨_, .int .i64 y1, rfl, rfl, by clear ha hG hP hC1 hC2 hC3; go_simp, rfl, hG⟩
      refine alln_cons (EStep.pure hk0 fun b E a' W ha hG hP => ?_) ?_
      · have s7 : a'.tmps[7]? = some (.string t) := slotv ha (hP 1 rfl).1 rfl (hP 1 rfl).2
        have s12 : a'.tmps[12]? = some (.int .i64 x1) := slotv ha (hP 6 rfl).1 rfl (hP 6 rfl).2
        have s17 : a'.tmps[17]? = some (.int .i64 y1) := slotv ha (hP 11 rfl).1 rfl (hP 11 rfl).2
        exact ⟨_, .agg #[.string t, .int .i64 x1, .int .i64 y1, .int .i64 0, .int .i64 0, .int .i64 0, .int .i64 0, .int .i64 0, .int .i64 0, .int .i64 0, .int .i64 0], rfl, rfl, by clear ha hG hP; go_simp; try rfl, rfl, hG⟩
      refine alln_cons (EStep.step fun b E a' W ha hG hP hoff hb => ?_) alln_last
      exact ⟨_, .pointer (some ⟨W.heap.size, 0, none⟩), W.alloc (.cells (cellA z30) 30), rfl, rfl, by clear ha hP hoff hb hG; go_simp; rfl, ⟨_, rfl, Nat.succ_le_of_lt (blk_lt hG.2), blk_new _ _⟩, keep_alloc (hk0 W) _, hG.1.alloc _, blk_alloc hG.2 _⟩
    · intro b E a' W ha hG hP hb
      obtain ⟨C, hC1, hC2, hC3⟩ := (hP 13 rfl (by decide)).2
      have s5 : a'.tmps[5]? = some (.pointer (some ⟨C, 0, none⟩)) := slotv ha (hP 13 rfl (by decide)).1 rfl hC1
      have s18 : a'.tmps[18]? = some (.agg #[.string t, .int .i64 x1, .int .i64 y1, .int .i64 0, .int .i64 0, .int .i64 0, .int .i64 0, .int .i64 0, .int .i64 0, .int .i64 0, .int .i64 0]) := slotv ha (hP 12 rfl (by decide)).1 rfl (hP 12 rfl (by decide)).2
      obtain ⟨hG1, hG2⟩ := hG
      rw [if_pos (hP 9 rfl (by decide)).1] at hG1
      have hp := Put.setRow (cs := cellA ⟨t, x1, y1, ⟨0, 0⟩, ⟨0, 0⟩, ⟨0, 0⟩, ⟨0, 0⟩⟩) hC3
      exact ⟨_, rfl, fun K hK => skip_ rfl rfl (exec_put 30 _ _ rfl C 0 (by simp [Act.eval, Array.getD_eq_getD_getElem?, s5]) (.agg (cellA ⟨t, x1, y1, ⟨0, 0⟩, ⟨0, 0⟩, ⟨0, 0⟩, ⟨0, 0⟩⟩)) (by simp only [Act.eval, Array.getD_eq_getD_getElem?, s18]; rfl) 30 _ (cellA ⟨t, x1, y1, ⟨0, 0⟩, ⟨0, 0⟩, ⟨0, 0⟩, ⟨0, 0⟩⟩) hC3 (by kernel_rfl) rfl rfl rfl) (hK.out undef _ ⟨hG1.put hp (by omega), hp.keep hG2 (by omega), C, hC1, hC2, hp.blk⟩)⟩
    · intro E b W hall hF
      obtain ⟨hR, hRB, C, hC1, hC2, hBK⟩ := hF
      rw [putSel_all (fun x hx => hall x.1 (by revert x; decide))]
      simp only [spec_l20Cel.L1, List.foldl, hC1, Act.put, List.setIfInBounds_toArray, List.set_cons_zero, List.set_cons_succ]
      clear hall hC1 HR1 RB
      have HC := Aside0.mk (show w.heap.size ≤ C ∧ w.heap.size ≠ C by omega)
      have HQ0 := Aside0.mk hR
      have HK0 := Aside0.mk hBK
      have HZ0 := Aside0.mk hRB
      clear hR hBK hRB hC2 hk0 hc6z hr6z hc6 hr6
      go_upto_region 6 with (first | (go_at_call 40; (with_reducible refine (spec_l20Brd.calls k g s0_0 p3 999 b1 b1' p4 w0 _ HQ0.out.st HQ0.out.bl AB1.out).mono ?_); rintro e_ Wc1 ⟨rfl, hi, hb, hk⟩; have HP1 := Aside0.mk (HQ0.out.call hi hb hk); have HJ1 := Aside0.mk (HQ0.out.blk hk HK0.out HC.out.1); have HY1 := Aside0.mk (HQ0.out.blk hk HZ0.out (Nat.le_refl _)); clear hi hb hk) | (refine wpList_put 28 _ _ rfl rfl C 3 rfl (.agg #[.int .i64 b1, .int .i64 b1']) rfl 30 (cellA ⟨t, x1, y1, ⟨0, 0⟩, ⟨0, 0⟩, ⟨0, 0⟩, ⟨0, 0⟩⟩) (cellA ⟨t, x1, y1, ⟨b1, b1'⟩, ⟨0, 0⟩, ⟨0, 0⟩, ⟨0, 0⟩⟩) HJ1.out (by kernel_rfl) rfl rfl rfl (fun Wd1 hp => ?_); have HQ1 := Aside0.mk (HP1.out.put hp HC.out.1); have HK1 := Aside0.mk hp.blk; have HZ1 := Aside0.mk (hp.keep HY1.out HC.out.2); clear hp) | (go_at_call 40; (with_reducible refine (spec_l20Brd.calls k g s0_0 p4 999 b2 b2' p5 w0 _ HQ1.out.st HQ1.out.bl AB2.out).mono ?_); rintro e_ Wc2 ⟨rfl, hi, hb, hk⟩; have HP2 := Aside0.mk (HQ1.out.call hi hb hk); have HJ2 := Aside0.mk (HQ1.out.blk hk HK1.out HC.out.1); have HY2 := Aside0.mk (HQ1.out.blk hk HZ1.out (Nat.le_refl _)); clear hi hb hk) | (refine wpList_put 28 _ _ rfl rfl C 5 rfl (.agg #[.int .i64 b2, .int .i64 b2']) rfl 30 (cellA ⟨t, x1, y1, ⟨b1, b1'⟩, ⟨0, 0⟩, ⟨0, 0⟩, ⟨0, 0⟩⟩) (cellA ⟨t, x1, y1, ⟨b1, b1'⟩, ⟨b2, b2'⟩, ⟨0, 0⟩, ⟨0, 0⟩⟩) HJ2.out (by kernel_rfl) rfl rfl rfl (fun Wd2 hp => ?_); have HQ2 := Aside0.mk (HP2.out.put hp HC.out.1); have HK2 := Aside0.mk hp.blk; have HZ2 := Aside0.mk (hp.keep HY2.out HC.out.2); clear hp) | (go_at_call 40; (with_reducible refine (spec_l20Brd.calls k g s0_0 p5 999 b3 b3' p6 w0 _ HQ2.out.st HQ2.out.bl AB3.out).mono ?_); rintro e_ Wc3 ⟨rfl, hi, hb, hk⟩; have HP3 := Aside0.mk (HQ2.out.call hi hb hk); have HJ3 := Aside0.mk (HQ2.out.blk hk HK2.out HC.out.1); have HY3 := Aside0.mk (HQ2.out.blk hk HZ2.out (Nat.le_refl _)); clear hi hb hk) | (refine wpList_put 28 _ _ rfl rfl C 7 rfl (.agg #[.int .i64 b3, .int .i64 b3']) rfl 30 (cellA ⟨t, x1, y1, ⟨b1, b1'⟩, ⟨b2, b2'⟩, ⟨0, 0⟩, ⟨0, 0⟩⟩) (cellA ⟨t, x1, y1, ⟨b1, b1'⟩, ⟨b2, b2'⟩, ⟨b3, b3'⟩, ⟨0, 0⟩⟩) HJ3.out (by kernel_rfl) rfl rfl rfl (fun Wd3 hp => ?_); have HQ3 := Aside0.mk (HP3.out.put hp HC.out.1); have HK3 := Aside0.mk hp.blk; have HZ3 := Aside0.mk (hp.keep HY3.out HC.out.2); clear hp) | (go_at_call 40; (with_reducible refine (spec_l20Brd.calls k g s0_0 p6 999 b4 b4' p7 w0 _ HQ3.out.st HQ3.out.bl AB4.out).mono ?_); rintro e_ Wc4 ⟨rfl, hi, hb, hk⟩; have HP4 := Aside0.mk (HQ3.out.call hi hb hk); have HJ4 := Aside0.mk (HQ3.out.blk hk HK3.out HC.out.1); have HY4 := Aside0.mk (HQ3.out.blk hk HZ3.out (Nat.le_refl _)); clear hi hb hk) | (refine wpList_put 28 _ _ rfl rfl C 9 rfl (.agg #[.int .i64 b4, .int .i64 b4']) rfl 30 (cellA ⟨t, x1, y1, ⟨b1, b1'⟩, ⟨b2, b2'⟩, ⟨b3, b3'⟩, ⟨0, 0⟩⟩) (cellA ⟨t, x1, y1, ⟨b1, b1'⟩, ⟨b2, b2'⟩, ⟨b3, b3'⟩, ⟨b4, b4'⟩⟩) HJ4.out (by kernel_rfl) rfl rfl rfl (fun Wd4 hp => ?_); have HQ4 := Aside0.mk (HP4.out.put hp HC.out.1); have HK4 := Aside0.mk hp.blk; have HZ4 := Aside0.mk (hp.keep HY4.out HC.out.2); clear hp))
      obtain ⟨A9, c9, hb9, _, _⟩ := HQ4.out.st
      have hcg := cellS68_0 hb9
      clear hb9
      rcases Nat.eq_zero_or_pos s0_0.length with hs | hs
      case' inl =>
        have hs0 : ((s0_0.length : Int) == 0) = true := by rw [hs]; rfl
        have HH5 := HH.out
        rw [if_pos hs] at HH5
        obtain ⟨X, hX⟩ : ∃ X : S30, X = ⟨⟨#[]⟩, 1, 1, ⟨0, 0⟩, ⟨0, 0⟩, ⟨0, 0⟩, ⟨0, 0⟩⟩ := ⟨_, rfl⟩
        rw [← hX] at HH5
        have HX := Aside0.mk hX
        have HJ5 := Aside0.mk HH5
        clear hs hX HH5
        go_upto_region 8 with (refine wpList_put 30 _ _ rfl rfl C 0 rfl (.agg (cellA ⟨⟨#[]⟩, 1, 1, ⟨0, 0⟩, ⟨0, 0⟩, ⟨0, 0⟩, ⟨0, 0⟩⟩)) rfl 30 (cellA ⟨t, x1, y1, ⟨b1, b1'⟩, ⟨b2, b2'⟩, ⟨b3, b3'⟩, ⟨b4, b4'⟩⟩) (cellA ⟨⟨#[]⟩, 1, 1, ⟨0, 0⟩, ⟨0, 0⟩, ⟨0, 0⟩, ⟨0, 0⟩⟩) HK4.out (by kernel_rfl) rfl rfl rfl (fun Wd5 hp => ?_); have HQ5 := Aside0.mk (HQ4.out.put hp HC.out.1); have HK5 := Aside0.mk hp.blk; have HZ5 := Aside0.mk (hp.keep HZ4.out HC.out.2); clear hp)
        rw [← HX.out] at HK5
        clear HX
      case' inr =>
        have hs0 : ((s0_0.length : Int) == 0) = false := by simp; intro h; rw [h] at hs; exact absurd hs (by decide)
        have HH5 := HH.out
        rw [if_neg (by omega)] at HH5
        obtain ⟨X, hX⟩ : ∃ X : S30, X = ⟨t, x1, y1, ⟨b1, b1'⟩, ⟨b2, b2'⟩, ⟨b3, b3'⟩, ⟨b4, b4'⟩⟩ := ⟨_, rfl⟩
        rw [← hX] at HH5
        have HX := Aside0.mk hX
        have HJ5 := Aside0.mk HH5
        clear hs hX HH5
        go_upto_region 8 with fail
        have HQ5 := HQ4
        have HK5 := HK4
        have HZ5 := HZ4
        rw [← HX.out] at HK5
        clear HX
      all_goals
        have hj := HJ5.out
        unfold spec_l20Cel.j at hj
        rw [Option.bind_eq_some_iff] at hj
        obtain ⟨⟨c1, q1⟩, h1, hj⟩ := hj
        have AJ1 := Aside0.mk h1
        clear h1 HJ5 HH hs0 hcg
        simp only at hj AJ1
        by_cases hc1 : c1 > 0
        · rw [if_pos hc1] at hj
          injection Option.some.inj hj with hx hr
          subst hx hr
          clear hj
          go_wp2_with (first | (go_at_call 15; (with_reducible refine (spec_l20Rd_pick.calls k g s0_0 p7 a1 c1 q1 w0 _ HQ5.out.st HQ5.out.bl AJ1.out).mono ?_); rintro e_ We1 ⟨rfl, hi, hb, hk⟩; have HQ6 := Aside0.mk (HQ5.out.call hi hb hk); have HK6 := Aside0.mk (HQ5.out.blk hk HK5.out HC.out.1); have HZ6 := Aside0.mk (HQ5.out.blk hk HZ5.out (Nat.le_refl _)); clear hi hb hk) | (refine wpList_load_row rfl 30 _ rfl C rfl 30 (cellA X) (0, 0) _ HK6.out Tryd.underlying30 rfl (by kernel_rfl) ?_) | (refine wpList_put 30 _ _ rfl rfl w.heap.size 0 rfl (.agg (cellA X)) rfl 30 (cellA z30) (cellA X) HZ6.out (by kernel_rfl) rfl rfl rfl (fun Wf hp => ?_); have HF := Aside0.mk (HQ6.out.put hp (Nat.le_refl _)); have HFB := Aside0.mk hp.blk; clear hp))
          exact bodyPost_ret (results_cell_row rfl _ _ w.heap.size 30 (cellA X) (0, 0) _ rfl HFB.out Tryd.underlying30 rfl (by kernel_rfl)) rfl ⟨rfl, HF.out.st, HF.out.bl, HF.out.kp⟩
        · rw [if_neg hc1] at hj
          rw [Option.bind_eq_some_iff] at hj
          obtain ⟨⟨c2, q2⟩, h2, hj⟩ := hj
          have AJ2 := Aside0.mk h2
          clear h2
          simp only at hj AJ2
          have hc1n : ¬ (0 : Int) < c1 := hc1
          clear hc1
          by_cases hd0 : c2 = 0
          · rw [if_pos hd0] at hj
            rw [Option.bind_eq_some_iff] at hj
            obtain ⟨⟨t3, q3⟩, h3, hj⟩ := hj
            have AJ3 := Aside0.mk h3
            clear h3
            simp only at hj AJ3
            injection Option.some.inj hj with hx hr
            subst hx hr hd0
            clear hj
            go_wp2_with (first | (go_at_call 15; (with_reducible refine (spec_l20Rd_pick.calls k g s0_0 p7 a1 c1 q1 w0 _ HQ5.out.st HQ5.out.bl AJ1.out).mono ?_); rintro e_ We1 ⟨rfl, hi, hb, hk⟩; have HQ6 := Aside0.mk (HQ5.out.call hi hb hk); have HK6 := Aside0.mk (HQ5.out.blk hk HK5.out HC.out.1); have HZ6 := Aside0.mk (HQ5.out.blk hk HZ5.out (Nat.le_refl _)); clear hi hb hk) | (go_at_call 15; (with_reducible refine (spec_l20Rd_pick.calls k g s0_0 q1 4 0 q2 w0 _ HQ6.out.st HQ6.out.bl AJ2.out).mono ?_); rintro e_ We2 ⟨rfl, hi, hb, hk⟩; have HQ7 := Aside0.mk (HQ6.out.call hi hb hk); have HK7 := Aside0.mk (HQ6.out.blk hk HK6.out HC.out.1); have HZ7 := Aside0.mk (HQ6.out.blk hk HZ6.out (Nat.le_refl _)); clear hi hb hk) | (go_at_call 41; (with_reducible refine (spec_l20AnyText.calls k g s0_0 q2 1 t3 q3 w0 _ HQ7.out.st HQ7.out.bl AJ3.out).mono ?_); rintro e_ We3 ⟨rfl, hi, hb, hk⟩; have HQ8 := Aside0.mk (HQ7.out.call hi hb hk); have HK8 := Aside0.mk (HQ7.out.blk hk HK7.out HC.out.1); have HZ8 := Aside0.mk (HQ7.out.blk hk HZ7.out (Nat.le_refl _)); clear hi hb hk) | (refine wpList_put 9 _ _ rfl rfl C 0 rfl (.string t3) rfl 30 (cellA X) (cellA { X with f0 := t3 }) HK8.out (by kernel_rfl) rfl rfl rfl (fun Wg hp => ?_); have HQ9 := Aside0.mk (HQ8.out.put hp HC.out.1); have HK9 := Aside0.mk hp.blk; have HZ9 := Aside0.mk (hp.keep HZ8.out HC.out.2); clear hp) | (refine wpList_load_row rfl 30 _ rfl C rfl 30 (cellA { X with f0 := t3 }) (0, 0) _ HK9.out Tryd.underlying30 rfl (by kernel_rfl) ?_) | (refine wpList_put 30 _ _ rfl rfl w.heap.size 0 rfl (.agg (cellA { X with f0 := t3 })) rfl 30 (cellA z30) (cellA { X with f0 := t3 }) HZ9.out (by kernel_rfl) rfl rfl rfl (fun Wf hp => ?_); have HF := Aside0.mk (HQ9.out.put hp (Nat.le_refl _)); have HFB := Aside0.mk hp.blk; clear hp))
            exact bodyPost_ret (results_cell_row rfl _ _ w.heap.size 30 (cellA { X with f0 := t3 }) (0, 0) _ rfl HFB.out Tryd.underlying30 rfl (by kernel_rfl)) rfl ⟨rfl, HF.out.st, HF.out.bl, HF.out.kp⟩
          · rw [if_neg hd0] at hj
            have hd0b : (c2 == 0) = false := by simpa using hd0
            by_cases hd1 : c2 = 1
            · rw [if_pos hd1] at hj
              subst hd1
              clear hd0 hd0b
              rw [Option.bind_eq_some_iff] at hj
              obtain ⟨⟨c3, q3⟩, h3, hj⟩ := hj
              have AJ3 := Aside0.mk h3
              clear h3
              simp only at hj AJ3
              split at hj
              · rename_i hh
                obtain ⟨h30, h33⟩ := hh
                obtain ⟨c3, rfl⟩ : ∃ n : Nat, c3 = n := ⟨c3.toNat, by omega⟩
                rw [Int.toNat_natCast] at hj
                obtain ⟨v3, hv3⟩ : ∃ v3, ppOf3.getD c3 0 = v3 := ⟨_, rfl⟩
                rw [hv3] at hj
                have HV3 := Aside0.mk hv3
                have HC3 := Aside0.mk (show c3 < 3 by omega)
                have h33z : (c3 : Int) < ((3 : Nat) : Int) := h33
                injection Option.some.inj hj with hx hr
                subst hx hr
                clear hj hv3 h30 h33
                go_wp2_with (first | (go_at_call 15; (with_reducible refine (spec_l20Rd_pick.calls k g s0_0 p7 a1 c1 q1 w0 _ HQ5.out.st HQ5.out.bl AJ1.out).mono ?_); rintro e_ We1 ⟨rfl, hi, hb, hk⟩; have HQ6 := Aside0.mk (HQ5.out.call hi hb hk); have HK6 := Aside0.mk (HQ5.out.blk hk HK5.out HC.out.1); have HZ6 := Aside0.mk (HQ5.out.blk hk HZ5.out (Nat.le_refl _)); clear hi hb hk) | (go_at_call 15; (with_reducible refine (spec_l20Rd_pick.calls k g s0_0 q1 4 1 q2 w0 _ HQ6.out.st HQ6.out.bl AJ2.out).mono ?_); rintro e_ We2 ⟨rfl, hi, hb, hk⟩; have HQ7 := Aside0.mk (HQ6.out.call hi hb hk); have HK7 := Aside0.mk (HQ6.out.blk hk HK6.out HC.out.1); have HZ7 := Aside0.mk (HQ6.out.blk hk HZ6.out (Nat.le_refl _)); clear hi hb hk) | (go_at_call 15; (with_reducible refine (spec_l20Rd_pick.calls k g s0_0 q2 3 c3 q3 w0 _ (IsS68.alloc HQ7.out.st _) (below_alloc HQ7.out.bl _) AJ3.out).mono ?_); rintro e_ We3 ⟨rfl, hi, hb, hk⟩; have HQ8 := Aside0.mk ((HQ7.out.alloc _).call hi hb hk); have HL8 := Aside0.mk (hk.blk (blk_new We2 _) ((HQ7.out.ne HQ7.out.size)) (by simp)); have HK8 := Aside0.mk ((HQ7.out.alloc _).blk hk (blk_alloc HK7.out _) HC.out.1); have HZ8 := Aside0.mk ((HQ7.out.alloc _).blk hk (blk_alloc HZ7.out _) (Nat.le_refl _)); have hc3 : We3.cell? ⟨We2.heap.size, c3, none⟩ = some (.int .i64 v3) := (blk_cell HL8.out c3).trans ((ppInts_at (l := ppOf3) HC3.out).trans (by rw [HV3.out])); clear hi hb hk) | (refine wpList_put 3 _ _ rfl rfl C 1 rfl (.int .i64 v3) rfl 30 (cellA X) (cellA { X with f1 := v3 }) HK8.out (by kernel_rfl) rfl rfl rfl (fun Wg hp => ?_); have HQ9 := Aside0.mk (HQ8.out.put hp HC.out.1); have HK9 := Aside0.mk hp.blk; have HZ9 := Aside0.mk (hp.keep HZ8.out HC.out.2); clear hp) | (refine wpList_load_row rfl 30 _ rfl C rfl 30 (cellA { X with f1 := v3 }) (0, 0) _ HK9.out Tryd.underlying30 rfl (by kernel_rfl) ?_) | (refine wpList_put 30 _ _ rfl rfl w.heap.size 0 rfl (.agg (cellA { X with f1 := v3 })) rfl 30 (cellA z30) (cellA { X with f1 := v3 }) HZ9.out (by kernel_rfl) rfl rfl rfl (fun Wf hp => ?_); have HF := Aside0.mk (HQ9.out.put hp (Nat.le_refl _)); have HFB := Aside0.mk hp.blk; clear hp))
                exact bodyPost_ret (results_cell_row rfl _ _ w.heap.size 30 (cellA { X with f1 := v3 }) (0, 0) _ rfl HFB.out Tryd.underlying30 rfl (by kernel_rfl)) rfl ⟨rfl, HF.out.st, HF.out.bl, HF.out.kp⟩
              · cases hj
            · rw [if_neg hd1] at hj
              have hd1b : (c2 == 1) = false := by simpa using hd1
              by_cases hd2 : c2 = 2
              · rw [if_pos hd2] at hj
                subst hd2
                clear hd0 hd0b hd1 hd1b
                rw [Option.bind_eq_some_iff] at hj
                obtain ⟨⟨c3, q3⟩, h3, hj⟩ := hj
                have AJ3 := Aside0.mk h3
                clear h3
                simp only at hj AJ3
                split at hj
                · rename_i hh
                  obtain ⟨h30, h33⟩ := hh
                  obtain ⟨c3, rfl⟩ : ∃ n : Nat, c3 = n := ⟨c3.toNat, by omega⟩
                  rw [Int.toNat_natCast] at hj
                  obtain ⟨v3, hv3⟩ : ∃ v3, ppOf3.getD c3 0 = v3 := ⟨_, rfl⟩
                  rw [hv3] at hj
                  have HV3 := Aside0.mk hv3
                  have HC3 := Aside0.mk (show c3 < 3 by omega)
                  have h33z : (c3 : Int) < ((3 : Nat) : Int) := h33
                  injection Option.some.inj hj with hx hr
                  subst hx hr
                  clear hj hv3 h30 h33
                  go_wp2_with (first | (go_at_call 15; (with_reducible refine (spec_l20Rd_pick.calls k g s0_0 p7 a1 c1 q1 w0 _ HQ5.out.st HQ5.out.bl AJ1.out).mono ?_); rintro e_ We1 ⟨rfl, hi, hb, hk⟩; have HQ6 := Aside0.mk (HQ5.out.call hi hb hk); have HK6 := Aside0.mk (HQ5.out.blk hk HK5.out HC.out.1); have HZ6 := Aside0.mk (HQ5.out.blk hk HZ5.out (Nat.le_refl _)); clear hi hb hk) | (go_at_call 15; (with_reducible refine (spec_l20Rd_pick.calls k g s0_0 q1 4 2 q2 w0 _ HQ6.out.st HQ6.out.bl AJ2.out).mono ?_); rintro e_ We2 ⟨rfl, hi, hb, hk⟩; have HQ7 := Aside0.mk (HQ6.out.call hi hb hk); have HK7 := Aside0.mk (HQ6.out.blk hk HK6.out HC.out.1); have HZ7 := Aside0.mk (HQ6.out.blk hk HZ6.out (Nat.le_refl _)); clear hi hb hk) | (go_at_call 15; (with_reducible refine (spec_l20Rd_pick.calls k g s0_0 q2 3 c3 q3 w0 _ (IsS68.alloc HQ7.out.st _) (below_alloc HQ7.out.bl _) AJ3.out).mono ?_); rintro e_ We3 ⟨rfl, hi, hb, hk⟩; have HQ8 := Aside0.mk ((HQ7.out.alloc _).call hi hb hk); have HL8 := Aside0.mk (hk.blk (blk_new We2 _) ((HQ7.out.ne HQ7.out.size)) (by simp)); have HK8 := Aside0.mk ((HQ7.out.alloc _).blk hk (blk_alloc HK7.out _) HC.out.1); have HZ8 := Aside0.mk ((HQ7.out.alloc _).blk hk (blk_alloc HZ7.out _) (Nat.le_refl _)); have hc3 : We3.cell? ⟨We2.heap.size, c3, none⟩ = some (.int .i64 v3) := (blk_cell HL8.out c3).trans ((ppInts_at (l := ppOf3) HC3.out).trans (by rw [HV3.out])); clear hi hb hk) | (refine wpList_put 3 _ _ rfl rfl C 2 rfl (.int .i64 v3) rfl 30 (cellA X) (cellA { X with f2 := v3 }) HK8.out (by kernel_rfl) rfl rfl rfl (fun Wg hp => ?_); have HQ9 := Aside0.mk (HQ8.out.put hp HC.out.1); have HK9 := Aside0.mk hp.blk; have HZ9 := Aside0.mk (hp.keep HZ8.out HC.out.2); clear hp) | (refine wpList_load_row rfl 30 _ rfl C rfl 30 (cellA { X with f2 := v3 }) (0, 0) _ HK9.out Tryd.underlying30 rfl (by kernel_rfl) ?_) | (refine wpList_put 30 _ _ rfl rfl w.heap.size 0 rfl (.agg (cellA { X with f2 := v3 })) rfl 30 (cellA z30) (cellA { X with f2 := v3 }) HZ9.out (by kernel_rfl) rfl rfl rfl (fun Wf hp => ?_); have HF := Aside0.mk (HQ9.out.put hp (Nat.le_refl _)); have HFB := Aside0.mk hp.blk; clear hp))
                  exact bodyPost_ret (results_cell_row rfl _ _ w.heap.size 30 (cellA { X with f2 := v3 }) (0, 0) _ rfl HFB.out Tryd.underlying30 rfl (by kernel_rfl)) rfl ⟨rfl, HF.out.st, HF.out.bl, HF.out.kp⟩
                · cases hj
              · rw [if_neg hd2] at hj
                have hd2b : (c2 == 2) = false := by simpa using hd2
                rw [Option.bind_eq_some_iff] at hj
                obtain ⟨⟨v3, v3', q3⟩, h3, hj⟩ := hj
                have AJ3 := Aside0.mk h3
                clear h3
                simp only at hj AJ3
                injection Option.some.inj hj with hx hr
                subst hx hr
                clear hj hd0 hd1 hd2
                go_wp2_with (first | (go_at_call 15; (with_reducible refine (spec_l20Rd_pick.calls k g s0_0 p7 a1 c1 q1 w0 _ HQ5.out.st HQ5.out.bl AJ1.out).mono ?_); rintro e_ We1 ⟨rfl, hi, hb, hk⟩; have HQ6 := Aside0.mk (HQ5.out.call hi hb hk); have HK6 := Aside0.mk (HQ5.out.blk hk HK5.out HC.out.1); have HZ6 := Aside0.mk (HQ5.out.blk hk HZ5.out (Nat.le_refl _)); clear hi hb hk) | (go_at_call 15; (with_reducible refine (spec_l20Rd_pick.calls k g s0_0 q1 4 c2 q2 w0 _ HQ6.out.st HQ6.out.bl AJ2.out).mono ?_); rintro e_ We2 ⟨rfl, hi, hb, hk⟩; have HQ7 := Aside0.mk (HQ6.out.call hi hb hk); have HK7 := Aside0.mk (HQ6.out.blk hk HK6.out HC.out.1); have HZ7 := Aside0.mk (HQ6.out.blk hk HZ6.out (Nat.le_refl _)); clear hi hb hk) | (go_at_call 40; (with_reducible refine (spec_l20Brd.calls k g s0_0 q2 1 v3 v3' q3 w0 _ HQ7.out.st HQ7.out.bl AJ3.out).mono ?_); rintro e_ We3 ⟨rfl, hi, hb, hk⟩; have HQ8 := Aside0.mk (HQ7.out.call hi hb hk); have HK8 := Aside0.mk (HQ7.out.blk hk HK7.out HC.out.1); have HZ8 := Aside0.mk (HQ7.out.blk hk HZ7.out (Nat.le_refl _)); clear hi hb hk) | (refine wpList_put 28 _ _ rfl rfl C 9 rfl (.agg #[.int .i64 v3, .int .i64 v3']) rfl 30 (cellA X) (cellA { X with f6 := ⟨v3, v3'⟩ }) HK8.out (by kernel_rfl) rfl rfl rfl (fun Wg hp => ?_); have HQ9 := Aside0.mk (HQ8.out.put hp HC.out.1); have HK9 := Aside0.mk hp.blk; have HZ9 := Aside0.mk (hp.keep HZ8.out HC.out.2); clear hp) | (refine wpList_load_row rfl 30 _ rfl C rfl 30 (cellA { X with f6 := ⟨v3, v3'⟩ }) (0, 0) _ HK9.out Tryd.underlying30 rfl (by kernel_rfl) ?_) | (refine wpList_put 30 _ _ rfl rfl w.heap.size 0 rfl (.agg (cellA { X with f6 := ⟨v3, v3'⟩ })) rfl 30 (cellA z30) (cellA { X with f6 := ⟨v3, v3'⟩ }) HZ9.out (by kernel_rfl) rfl rfl rfl (fun Wf hp => ?_); have HF := Aside0.mk (HQ9.out.put hp (Nat.le_refl _)); have HFB := Aside0.mk hp.blk; clear hp))
                exact bodyPost_ret (results_cell_row rfl _ _ w.heap.size 30 (cellA { X with f6 := ⟨v3, v3'⟩ }) (0, 0) _ rfl HFB.out Tryd.underlying30 rfl (by kernel_rfl)) rfl ⟨rfl, HF.out.st, HF.out.bl, HF.out.kp⟩
  · cases h
/-- The cell's parts, one by one. -/
def spec_l20Cell.f (k : Nat) (s0_0 : List Int) (s0_1 : Int) (a1 : Int) : Option (ByteArray × Int × Int × Int × Int × Int × Int × Int × Int × Int × Int × Int) := (spec_l20Cel.f k s0_0 s0_1 a1).bind fun t => some (t.1.f0, t.1.f1, t.1.f2, t.1.f3.f0, t.1.f3.f1, t.1.f4.f0, t.1.f4.f1, t.1.f5.f0, t.1.f5.f1, t.1.f6.f0, t.1.f6.f1, t.2)
theorem spec_l20Cell.mono : ∀ a0 a1 a2 k, LeO (spec_l20Cell.f k a0 a1 a2) (spec_l20Cell.f (k + 1) a0 a1 a2) := fun _ _ _ k => by
  unfold spec_l20Cell.f
  exact LeO.bind (spec_l20Cel.mono _ _ _ _) fun _ => LeO.refl _
theorem spec_l20Cell.calls (k : Nat) (g : Nat) (s0_0 : List Int) (s0_1 : Int) (a1 : Int) (r1 : ByteArray) (r2 : Int) (r3 : Int) (r4 : Int) (r5 : Int) (r6 : Int) (r7 : Int) (r8 : Int) (r9 : Int) (r10 : Int) (r11 : Int) (r12 : Int) (w0 w : World) (hI : IsS68 w0 w g s0_0 s0_1) (hB : Below w0.heap.size w0 w) (h : spec_l20Cell.f k s0_0 s0_1 a1 = some (r1, r2, r3, r4, r5, r6, r7, r8, r9, r10, r11, r12)) :
    Calls Tryd.prog 16 #[.pointer (some ⟨g, 0, none⟩), .int .i64 a1] w fun e w' => e = .returned (.agg #[.string r1, .int .i64 r2, .int .i64 r3, .int .i64 r4, .int .i64 r5, .int .i64 r6, .int .i64 r7, .int .i64 r8, .int .i64 r9, .int .i64 r10, .int .i64 r11]) ∧ IsS68 w0 w' g s0_0 r12 ∧ Below w0.heap.size w0 w' ∧ KeepBut w w' g none := by
  unfold spec_l20Cell.f at h
  obtain ⟨⟨t, q⟩, h1, h⟩ := Option.bind_eq_some_iff.1 h
  simp only [Option.some.injEq, Prod.mk.injEq] at h
  obtain ⟨rfl, rfl, rfl, rfl, rfl, rfl, rfl, rfl, rfl, rfl, rfl, rfl⟩ := h
  exact spec_l20Cel.calls k g s0_0 s0_1 a1 t q w0 w hI hB h1

/-! ### spec_l1In: function 24 -/
def spec_l1In.f (a0 : Int) (a1 : Int) (a2 : Int) : Option (Bool) := if a0 ≥ a1 then (some (decide (a0 ≤ a2))) else (some false)
set_option maxHeartbeats 8000000 in
set_option maxRecDepth 100000 in
theorem spec_l1In.calls (a0 : Int) (a1 : Int) (a2 : Int) (r : Bool) (w : World) (h : spec_l1In.f a0 a1 a2 = some r) :
    Calls Tryd.prog 24 #[.int .i64 a0, .int .i64 a1, .int .i64 a2] w fun e w' => e = .returned (.bool r) ∧ Drawn0 w w' := by
  have H : (if a0 ≥ a1 then (some (decide (a0 ≤ a2))) else (some false)) = some r := h
  clear h
  by_cases c4 : a0 ≥ a1
  · rw [if_pos c4] at H
    have c4b0 : decide (a1 ≤ a0) = true := decide_eq_true c4
    clear c4
    obtain rfl := Option.some.inj H
    go_enter Tryd.func24, Tryd.ntmps24
    go_wp2
    go_ret
    exact ⟨by first | rfl | (simp [IntKind.wrap_i64, wrap64]; done) | (simp; done) | (simp [*]; done), by repeat (first | exact Drawn0.refl _ | apply Drawn0.step)⟩
  · rw [if_neg c4] at H
    have c4b0 : decide (a1 ≤ a0) = false := decide_eq_false c4
    clear c4
    obtain rfl := Option.some.inj H
    go_enter Tryd.func24, Tryd.ntmps24
    go_wp2
    go_ret
    exact ⟨by first | rfl | (simp [IntKind.wrap_i64, wrap64]; done) | (simp; done) | (simp [*]; done), by repeat (first | exact Drawn0.refl _ | apply Drawn0.step)⟩

/-! ### spec_TxtOk: function 46 -/
mutual
def spec_TxtOk.l0 : Nat → ByteArray → Int → Option (Bool)
  | 0, _, _ => none
  | k + 1, x0, x3 => if x3 < (x0.size : Int) then (if 0 ≤ x3 then (if (bt x0 x3) = 32 then (if x3 = 0 then (spec_TxtOk.j1 k x0 x3 true) else (if x3 = (wrap64 ((x0.size : Int) - 1)) then (spec_TxtOk.j1 k x0 x3 true) else (if 0 ≤ (wrap64 (x3 - 1)) then (if (wrap64 (x3 - 1)) < (x0.size : Int) then (spec_TxtOk.j1 k x0 x3 ((bt x0 (wrap64 (x3 - 1))) == 32)) else (none)) else (none)))) else (spec_TxtOk.j1 k x0 x3 false)) else (none)) else (some true)
def spec_TxtOk.j1 : Nat → ByteArray → Int → Bool → Option (Bool)
  | 0, _, _, _ => none
  | k + 1, x0, x3, x34 => if x34 = true then (some false) else (if 0 ≤ x3 then (if x3 < (x0.size : Int) then (if (bt x0 x3) = 32 then (spec_TxtOk.l0 k x0 (wrap64 (x3 + 1))) else ((spec_l1In.f (wrap64 (bt x0 x3)) 97 122).bind fun t202 => (if t202 = true then (spec_TxtOk.l0 k x0 (wrap64 (x3 + 1))) else (some false)))) else (none)) else (none))
end
def spec_TxtOk.f (k : Nat) (a0 : ByteArray) : Option (Bool) := if (a0.size : Int) > 30 then (some false) else (spec_TxtOk.l0 k a0 0)
theorem spec_TxtOk.mono_l : ∀ k, (∀ y0 y1, LeO (spec_TxtOk.l0 k y0 y1) (spec_TxtOk.l0 (k + 1) y0 y1)) ∧ (∀ y0 y1 y2, LeO (spec_TxtOk.j1 k y0 y1 y2) (spec_TxtOk.j1 (k + 1) y0 y1 y2))
  | 0 => ⟨fun _ _ r h => by simp [spec_TxtOk.l0] at h, fun _ _ _ r h => by simp [spec_TxtOk.j1] at h⟩
  | k + 1 => by
    obtain ⟨ih0, ih1⟩ := spec_TxtOk.mono_l k
    refine ⟨?_, ?_⟩
    · intro y0 y1
      unfold spec_TxtOk.l0
      repeat' first
      | (with_reducible exact ih0 _ _)
      | (with_reducible exact ih1 _ _ _)
      | (with_reducible exact LeO.refl _)
      | (with_reducible exact LeO.none _)
      | (with_reducible refine LeO.ite ?_ ?_)
      | (with_reducible refine LeO.bind ?_ (fun _ => ?_))
      | exact ih0 _ _
      | exact ih1 _ _ _
      | exact LeO.none _
      | refine LeO.ite ?_ ?_
      | refine LeO.bind ?_ (fun _ => ?_)
    · intro y0 y1 y2
      unfold spec_TxtOk.j1
      repeat' first
      | (with_reducible exact ih0 _ _)
      | (with_reducible exact ih1 _ _ _)
      | (with_reducible exact LeO.refl _)
      | (with_reducible exact LeO.none _)
      | (with_reducible refine LeO.ite ?_ ?_)
      | (with_reducible refine LeO.bind ?_ (fun _ => ?_))
      | exact ih0 _ _
      | exact ih1 _ _ _
      | exact LeO.none _
      | refine LeO.ite ?_ ?_
      | refine LeO.bind ?_ (fun _ => ?_)
theorem spec_TxtOk.mono : ∀ a0 k, LeO (spec_TxtOk.f k a0) (spec_TxtOk.f (k + 1) a0) := by
  intro a0 k
  obtain ⟨ih0, ih1⟩ := spec_TxtOk.mono_l k
  unfold spec_TxtOk.f
  repeat' first
      | (with_reducible exact ih0 _ _)
      | (with_reducible exact ih1 _ _ _)
      | (with_reducible exact LeO.refl _)
      | (with_reducible exact LeO.none _)
      | (with_reducible refine LeO.ite ?_ ?_)
      | (with_reducible refine LeO.bind ?_ (fun _ => ?_))
      | exact ih0 _ _
      | exact ih1 _ _ _
      | exact LeO.none _
      | refine LeO.ite ?_ ?_
      | refine LeO.bind ?_ (fun _ => ?_)
set_option maxHeartbeats 8000000 in
set_option maxRecDepth 100000 in
theorem spec_TxtOk.calls (k : Nat) (a0 : ByteArray) (r : Bool) (w : World) (h : spec_TxtOk.f k a0 = some r) :
    Calls Tryd.prog 46 #[.string a0] w fun e w' => e = .returned (.bool r) ∧ Drawn0 w w' := by
  have H : (if (a0.size : Int) > 30 then (some false) else (spec_TxtOk.l0 k a0 0)) = some r := h
  clear h
  by_cases c2 : (a0.size : Int) > 30
  · rw [if_pos c2] at H
    have c2b0 : decide (30 < (a0.size : Int)) = true := decide_eq_true c2
    have c2b1 : decide (30 < a0.size) = true := decide_eq_true (by omega)
    clear c2
    obtain rfl := Option.some.inj H
    go_enter Tryd.func46, Tryd.ntmps46
    go_wp2
    go_ret
    exact ⟨by first | rfl | (simp [IntKind.wrap_i64, wrap64]; done) | (simp; done) | (simp [*]; done), by repeat (first | exact Drawn0.refl _ | apply Drawn0.step)⟩
  · rw [if_neg c2] at H
    have c2b0 : decide (30 < (a0.size : Int)) = false := decide_eq_false c2
    have c2b1 : decide (30 < a0.size) = false := decide_eq_false (by omega)
    clear c2
    have H' := Aside0.mk H
    clear H
    go_enter Tryd.func46, Tryd.ntmps46
    go_wp2
    go_loopg [3] k (fun kq v3 w' => ∃ (x3_1 : Int), v3 = .int .i64 x3_1 ∧ Aside0 (spec_TxtOk.l0 kq a0 x3_1 = some r) ∧ Aside0 (kq ≤ k) ∧ Drawn0 w w')
    case atStart => exact ⟨(0), (by first | rfl | (simp; done) | (simp [*]; done)), H', ⟨Nat.le_refl _⟩, by repeat (first | exact Drawn0.refl _ | apply Drawn0.step)⟩
    case round =>
      clear H'
      try clear c2
      try clear c2b0
      try clear c2b1
      try clear p2
      obtain ⟨x3_1, rfl, HA, HK1, ⟨m1, rfl⟩⟩ := hrel
      cases gk with
      | zero => exact absurd HA.out (by simp [spec_TxtOk.l0])
      | succ k1 =>
        have H := HA.out
        clear HA
        simp only [spec_TxtOk.l0] at H
        by_cases c3 : x3_1 < (a0.size : Int)
        · rw [if_pos c3] at H
          have c3b0 : decide (x3_1 < (a0.size : Int)) = true := decide_eq_true c3
          clear c3
          have HC4 := Aside0.mk H
          clear H
          go_upto_region 6 with (fail)
          go_cut [34] (fun v34 wc => ∃ (kq : Nat) (x34_3 : Bool), v34 = .bool x34_3 ∧ Aside0 (spec_TxtOk.j1 kq a0 x3_1 x34_3 = some r) ∧ Aside0 (kq ≤ k1) ∧ Drawn0 w wc)
          case first =>
            have H := HC4.out
            clear HC4
            by_cases c5 : 0 ≤ x3_1
            · rw [if_pos c5] at H
              have c5b0 : decide (0 ≤ x3_1) = true := decide_eq_true c5
              clear c5
              (first | rw [c5b0] | (simp only [i64_w, i32_w]; rw [c5b0]) | skip)
              by_cases c7 : (bt a0 x3_1) = 32
              · rw [if_pos c7] at H
                have c7b0 : ((bt a0 x3_1) == 32) = true := beq_iff_eq.mpr c7
                have c7b1 : ((bt a0 x3_1) != 32) = false := bne_eq_false_iff_eq.mpr c7
                clear c7
                by_cases c8 : x3_1 = 0
                · rw [if_pos c8] at H
                  have c8b0 : (x3_1 == 0) = true := beq_iff_eq.mpr c8
                  have c8b1 : (x3_1 != 0) = false := bne_eq_false_iff_eq.mpr c8
                  clear c8
                  have H' := Aside0.mk H
                  clear H
                  have p6 : 0 ≤ (x3_1 : Int) := of_decide_eq_true (by first | (with_reducible assumption) | assumption)
                  have q6 : x3_1 < (a0.size : Int) := of_decide_eq_true (by first | (with_reducible assumption) | assumption)
                  have hx6 := bt_at a0 x3_1
                  replace p6 := eq_true p6
                  replace q6 := eq_true q6
                  go_wp2
                  go_meet
                  case rel => exact ⟨_, (true), (by first | rfl | (simp; done) | (simp [*]; done)), H', ⟨by have := HK1.out; first | omega | exact Nat.le_refl _⟩, by repeat (first | exact Drawn0.refl _ | apply Drawn0.step)⟩
                · rw [if_neg c8] at H
                  have c8b0 : (x3_1 == 0) = false := beq_eq_false_iff_ne.mpr c8
                  have c8b1 : (x3_1 != 0) = true := bne_iff_ne.mpr c8
                  by_cases c9 : x3_1 = (wrap64 ((a0.size : Int) - 1))
                  · rw [if_pos c9] at H
                    have c9b0 : (x3_1 == (wrap64 ((a0.size : Int) - 1))) = true := beq_iff_eq.mpr c9
                    have c9b1 : (x3_1 != (wrap64 ((a0.size : Int) - 1))) = false := bne_eq_false_iff_eq.mpr c9
                    clear c9
                    have H' := Aside0.mk H
                    clear H
                    have p6 : 0 ≤ (x3_1 : Int) := of_decide_eq_true (by first | (with_reducible assumption) | assumption)
                    have q6 : x3_1 < (a0.size : Int) := of_decide_eq_true (by first | (with_reducible assumption) | assumption)
                    have hx6 := bt_at a0 x3_1
                    replace p6 := eq_true p6
                    replace q6 := eq_true q6
                    go_wp2
                    go_meet
                    case rel => exact ⟨_, (true), (by first | rfl | (simp; done) | (simp [*]; done)), H', ⟨by have := HK1.out; first | omega | exact Nat.le_refl _⟩, by repeat (first | exact Drawn0.refl _ | apply Drawn0.step)⟩
                  · rw [if_neg c9] at H
                    have c9b0 : (x3_1 == (wrap64 ((a0.size : Int) - 1))) = false := beq_eq_false_iff_ne.mpr c9
                    have c9b1 : (x3_1 != (wrap64 ((a0.size : Int) - 1))) = true := bne_iff_ne.mpr c9
                    obtain ⟨ji10, hji10⟩ : ∃ j_ : Int, (wrap64 (x3_1 - 1)) = j_ := ⟨_, rfl⟩
                    replace H : (if 0 ≤ (ji10) then (if (ji10) < (a0.size : Int) then (spec_TxtOk.j1 k1 a0 x3_1 ((bt a0 (ji10)) == 32)) else (none)) else (none)) = some r := by first | (rw [hji10] at H; exact H) | (simp only [hji10] at H ⊢; exact H)
                    have hji10w : (IntKind.i64.wrap (x3_1 - 1)) = ji10 := (i64_w _).trans hji10
                    by_cases c11 : 0 ≤ (ji10)
                    · rw [if_pos c11] at H
                      have c11b0 : decide (0 ≤ (ji10)) = true := decide_eq_true c11
                      clear c11
                      by_cases c12 : (ji10) < (a0.size : Int)
                      · rw [if_pos c12] at H
                        have c12b0 : decide ((ji10) < (a0.size : Int)) = true := decide_eq_true c12
                        clear c12
                        have H' := Aside0.mk H
                        clear H
                        have p6 : 0 ≤ (x3_1 : Int) := of_decide_eq_true (by first | (with_reducible assumption) | assumption)
                        have q6 : x3_1 < (a0.size : Int) := of_decide_eq_true (by first | (with_reducible assumption) | assumption)
                        have hx6 := bt_at a0 x3_1
                        replace p6 := eq_true p6
                        replace q6 := eq_true q6
                        have p13 : 0 ≤ ((ji10) : Int) := of_decide_eq_true (by first | (with_reducible assumption) | assumption)
                        have q13 : (ji10) < (a0.size : Int) := of_decide_eq_true (by first | (with_reducible assumption) | assumption)
                        have hx13 := bt_at a0 (ji10)
                        replace p13 := eq_true p13
                        replace q13 := eq_true q13
                        go_wp2
                        go_meet
                        case rel => exact ⟨_, (((bt a0 (ji10)) == 32)), (by first | rfl | (simp; done) | (simp only [← hji10] <;> (first | rfl | simp)) | (simp [*]; done)), H', ⟨by have := HK1.out; first | omega | exact Nat.le_refl _⟩, by repeat (first | exact Drawn0.refl _ | apply Drawn0.step)⟩
                      · rw [if_neg c12] at H
                        exact absurd H (by simp)
                    · rw [if_neg c11] at H
                      exact absurd H (by simp)
              · rw [if_neg c7] at H
                have c7b0 : ((bt a0 x3_1) == 32) = false := beq_eq_false_iff_ne.mpr c7
                have c7b1 : ((bt a0 x3_1) != 32) = true := bne_iff_ne.mpr c7
                have H' := Aside0.mk H
                clear H
                have p6 : 0 ≤ (x3_1 : Int) := of_decide_eq_true (by first | (with_reducible assumption) | assumption)
                have q6 : x3_1 < (a0.size : Int) := of_decide_eq_true (by first | (with_reducible assumption) | assumption)
                have hx6 := bt_at a0 x3_1
                replace p6 := eq_true p6
                replace q6 := eq_true q6
                go_wp2
                go_meet
                case rel => exact ⟨_, (false), (by first | rfl | (simp; done) | (simp [*]; done)), H', ⟨by have := HK1.out; first | omega | exact Nat.le_refl _⟩, by repeat (first | exact Drawn0.refl _ | apply Drawn0.step)⟩
            · rw [if_neg c5] at H
              exact absurd H (by simp)
          case rest =>
            clear HC4
            try clear c1
            try clear p1
            try clear q1
            try clear hx1
            try clear c2
            try clear c2b0
            try clear c2b1
            try clear p2
            try clear c3
            try clear c3b0
            try clear c4
            try clear c5
            try clear c5b0
            try clear p6
            try clear q6
            try clear hx6
            try clear c7
            try clear c7b0
            try clear c7b1
            try clear c8
            try clear c8b0
            try clear c8b1
            try clear c9
            try clear c9b0
            try clear c9b1
            try clear c11
            try clear c11b0
            try clear c12
            try clear c12b0
            try clear p13
            try clear q13
            try clear hx13
            try clear p13
            try clear p2
            try clear p6
            try clear q13
            try clear q6
            obtain ⟨kq, x34_3, rfl, HA, HJ3, ⟨mc3, rfl⟩⟩ := hcut
            cases kq with
            | zero => exact absurd HA.out (by simp [spec_TxtOk.j1])
            | succ kj3 =>
              have H := HA.out
              clear HA
              simp only [spec_TxtOk.j1] at H
              by_cases c14 : x34_3 = true
              · subst c14
                have H1 : (some false) = some r := by rw [if_pos rfl] at H; exact H
                clear H
                have H := H1
                clear H1
                obtain rfl := Option.some.inj H
                go_wp2
                go_ret
                exact ⟨by first | rfl | (simp [IntKind.wrap_i64, wrap64]; done) | (simp; done) | (simp [*]; done), by repeat (first | exact Drawn0.refl _ | apply Drawn0.step)⟩
              · replace c14 := Bool.eq_false_iff.mpr c14
                subst c14
                have H1 : (if 0 ≤ x3_1 then (if x3_1 < (a0.size : Int) then (if (bt a0 x3_1) = 32 then (spec_TxtOk.l0 kj3 a0 (wrap64 (x3_1 + 1))) else ((spec_l1In.f (wrap64 (bt a0 x3_1)) 97 122).bind fun t202 => (if t202 = true then (spec_TxtOk.l0 kj3 a0 (wrap64 (x3_1 + 1))) else (some false)))) else (none)) else (none)) = some r := by rw [if_neg (show ¬ (false = true) by decide)] at H; exact H
                clear H
                have H := H1
                clear H1
                by_cases c15 : 0 ≤ x3_1
                · rw [if_pos c15] at H
                  have c15b0 : decide (0 ≤ x3_1) = true := decide_eq_true c15
                  clear c15
                  by_cases c16 : x3_1 < (a0.size : Int)
                  · rw [if_pos c16] at H
                    have c16b0 : decide (x3_1 < (a0.size : Int)) = true := decide_eq_true c16
                    clear c16
                    by_cases c18 : (bt a0 x3_1) = 32
                    · rw [if_pos c18] at H
                      have c18b0 : ((bt a0 x3_1) == 32) = true := beq_iff_eq.mpr c18
                      have c18b1 : ((bt a0 x3_1) != 32) = false := bne_eq_false_iff_eq.mpr c18
                      clear c18
                      have H' := Aside0.mk H
                      clear H
                      have p17 : 0 ≤ (x3_1 : Int) := of_decide_eq_true (by first | (with_reducible assumption) | assumption)
                      have q17 : x3_1 < (a0.size : Int) := of_decide_eq_true (by first | (with_reducible assumption) | assumption)
                      have hx17 := bt_at a0 x3_1
                      replace p17 := eq_true p17
                      replace q17 := eq_true q17
                      go_wp2
                      go_roundg kj3
                      case measure => have := HK1.out; have := HJ3.out; omega
                      case rel => exact ⟨(wrap64 (x3_1 + 1)), (by first | rfl | (simp; done) | (simp [*]; done)), H', ⟨by have := HK1.out; have := HJ3.out; omega⟩, by repeat (first | exact Drawn0.refl _ | apply Drawn0.step)⟩
                    · rw [if_neg c18] at H
                      have c18b0 : ((bt a0 x3_1) == 32) = false := beq_eq_false_iff_ne.mpr c18
                      have c18b1 : ((bt a0 x3_1) != 32) = true := bne_iff_ne.mpr c18
                      replace H := Option.bind_eq_some_iff.mp H
                      obtain ⟨t202, A200, H⟩ := H
                      replace H : (if t202 = true then (spec_TxtOk.l0 kj3 a0 (wrap64 (x3_1 + 1))) else (some false)) = some r := H
                      have A20 := Aside0.mk A200
                      clear A200
                      by_cases c21 : t202 = true
                      · subst c21
                        have H1 : (spec_TxtOk.l0 kj3 a0 (wrap64 (x3_1 + 1))) = some r := by rw [if_pos rfl] at H; exact H
                        clear H
                        have H := H1
                        clear H1
                        have H' := Aside0.mk H
                        clear H
                        have p17 : 0 ≤ (x3_1 : Int) := of_decide_eq_true (by first | (with_reducible assumption) | assumption)
                        have q17 : x3_1 < (a0.size : Int) := of_decide_eq_true (by first | (with_reducible assumption) | assumption)
                        have hx17 := bt_at a0 x3_1
                        replace p17 := eq_true p17
                        replace q17 := eq_true q17
                        have p19 : 0 ≤ (x3_1 : Int) := of_decide_eq_true (by first | (with_reducible assumption) | assumption)
                        have q19 : x3_1 < (a0.size : Int) := of_decide_eq_true (by first | (with_reducible assumption) | assumption)
                        have hx19 := bt_at a0 x3_1
                        replace p19 := eq_true p19
                        replace q19 := eq_true q19
                        go_wp2_with (first | (go_at_call 24; (with_reducible refine (spec_l1In.calls (wrap64 (bt a0 x3_1)) 97 122 true _ A20.out).mono ?_); rintro e w' ⟨rfl, ⟨nd, rfl⟩⟩))
                        go_roundg kj3
                        case measure => have := HK1.out; have := HJ3.out; omega
                        case rel => exact ⟨(wrap64 (x3_1 + 1)), (by first | rfl | (simp; done) | (simp [*]; done)), H', ⟨by have := HK1.out; have := HJ3.out; omega⟩, by repeat (first | exact Drawn0.refl _ | apply Drawn0.step)⟩
                      · replace c21 := Bool.eq_false_iff.mpr c21
                        subst c21
                        have H1 : (some false) = some r := by rw [if_neg (show ¬ (false = true) by decide)] at H; exact H
                        clear H
                        have H := H1
                        clear H1
                        obtain rfl := Option.some.inj H
                        have p17 : 0 ≤ (x3_1 : Int) := of_decide_eq_true (by first | (with_reducible assumption) | assumption)
                        have q17 : x3_1 < (a0.size : Int) := of_decide_eq_true (by first | (with_reducible assumption) | assumption)
                        have hx17 := bt_at a0 x3_1
                        replace p17 := eq_true p17
                        replace q17 := eq_true q17
                        have p19 : 0 ≤ (x3_1 : Int) := of_decide_eq_true (by first | (with_reducible assumption) | assumption)
                        have q19 : x3_1 < (a0.size : Int) := of_decide_eq_true (by first | (with_reducible assumption) | assumption)
                        have hx19 := bt_at a0 x3_1
                        replace p19 := eq_true p19
                        replace q19 := eq_true q19
                        go_wp2_with (first | (go_at_call 24; (with_reducible refine (spec_l1In.calls (wrap64 (bt a0 x3_1)) 97 122 false _ A20.out).mono ?_); rintro e w' ⟨rfl, ⟨nd, rfl⟩⟩))
                        go_ret
                        exact ⟨by first | rfl | (simp [IntKind.wrap_i64, wrap64]; done) | (simp; done) | (simp [*]; done), by repeat (first | exact Drawn0.refl _ | apply Drawn0.step)⟩
                  · rw [if_neg c16] at H
                    exact absurd H (by simp)
                · rw [if_neg c15] at H
                  exact absurd H (by simp)
        · rw [if_neg c3] at H
          have c3b0 : decide (x3_1 < (a0.size : Int)) = false := decide_eq_false c3
          clear c3
          obtain rfl := Option.some.inj H
          go_wp2
          go_ret
          exact ⟨by first | rfl | (simp [IntKind.wrap_i64, wrap64]; done) | (simp; done) | (simp [*]; done), by repeat (first | exact Drawn0.refl _ | apply Drawn0.step)⟩

/-! ### spec_BrdOk: function 47 -/
def spec_BrdOk.j0 : Nat → Bool → Int → Int → Option (Bool)
  | 0, _, _, _ => none
  | k + 1, x10, x204000, x204001 => if x10 = true then (some (x204001 == 0)) else ((spec_l1In.f x204000 1 3).bind fun t204 => (if t204 = true then ((spec_l1In.f x204001 1 3).bind fun t205 => (some t205)) else (some false)))
def spec_BrdOk.f (k : Nat) (a0_0 : Int) (a0_1 : Int) : Option (Bool) := if a0_0 = 0 then (spec_BrdOk.j0 k true a0_0 a0_1) else (spec_BrdOk.j0 k (a0_0 == 4) a0_0 a0_1)
theorem spec_BrdOk.mono_l : ∀ k, (∀ y0 y1 y2, LeO (spec_BrdOk.j0 k y0 y1 y2) (spec_BrdOk.j0 (k + 1) y0 y1 y2))
  | 0 => fun _ _ _ r h => by simp [spec_BrdOk.j0] at h
  | k + 1 => by
    have ih0 := spec_BrdOk.mono_l k
    · intro y0 y1 y2
      unfold spec_BrdOk.j0
      repeat' first
      | (with_reducible exact ih0 _ _ _)
      | (with_reducible exact LeO.refl _)
      | (with_reducible exact LeO.none _)
      | (with_reducible refine LeO.ite ?_ ?_)
      | (with_reducible refine LeO.bind ?_ (fun _ => ?_))
      | exact ih0 _ _ _
      | exact LeO.none _
      | refine LeO.ite ?_ ?_
      | refine LeO.bind ?_ (fun _ => ?_)
theorem spec_BrdOk.mono : ∀ a0 a1 k, LeO (spec_BrdOk.f k a0 a1) (spec_BrdOk.f (k + 1) a0 a1) := by
  intro a0 a1 k
  have ih0 := spec_BrdOk.mono_l k
  unfold spec_BrdOk.f
  repeat' first
      | (with_reducible exact ih0 _ _ _)
      | (with_reducible exact LeO.refl _)
      | (with_reducible exact LeO.none _)
      | (with_reducible refine LeO.ite ?_ ?_)
      | (with_reducible refine LeO.bind ?_ (fun _ => ?_))
      | exact ih0 _ _ _
      | exact LeO.none _
      | refine LeO.ite ?_ ?_
      | refine LeO.bind ?_ (fun _ => ?_)
set_option maxHeartbeats 8000000 in
set_option maxRecDepth 100000 in
theorem spec_BrdOk.calls (k : Nat) (a0_0 : Int) (a0_1 : Int) (r : Bool) (w : World) (h : spec_BrdOk.f k a0_0 a0_1 = some r) :
    Calls Tryd.prog 47 #[.agg #[.int .i64 a0_0, .int .i64 a0_1]] w fun e w' => e = .returned (.bool r) ∧ Below w.heap.size w w' := by
  have hu28 := Tryd.underlying28
  have HB := Aside0.mk (Below.refl w.heap.size w)
  have H : (if a0_0 = 0 then (spec_BrdOk.j0 k true a0_0 a0_1) else (spec_BrdOk.j0 k (a0_0 == 4) a0_0 a0_1)) = some r := h
  clear h
  have HC2 := Aside0.mk H
  clear H
  go_enter Tryd.func47, Tryd.ntmps47
  go_upto_region 1 with (first | ((with_reducible refine gate_dst (N := 1) rfl ?_); refine box_event ?hg (N := 1) ?hd (cs := #[.int .i64 a0_0, .int .i64 a0_1]) (t := 28) ?hr ?_; (case hd => rfl); (case hg => rfl); (case hr => first | (go_simp; done) | (go_simp; rfl)); intro gb203 hg w3 hbox hb; have n0_ := Aside0.mk (below_step (by repeat (first | (with_reducible first | exact HB.out | apply below_alloc | apply pw_below_drewN | apply below_drew1) | exact HB.out)) hb); have n1_ := Aside0.mk (hbox); have n2_ := Aside0.mk ((by rw [hg]; exact (below_size (by repeat (first | (with_reducible first | exact HB.out | apply below_alloc | apply pw_below_drewN | apply below_drew1) | exact HB.out))) : w.heap.size ≤ gb203)); have n3_ := Aside0.mk ((by rw [hg]; exact (below_size (by repeat (first | (with_reducible first | exact HB.out | apply below_alloc | apply pw_below_drewN | apply below_drew1) | exact HB.out))) : w.heap.size ≤ gb203)); clear HB; have HB := n0_; have BK203 := n1_; have GW203 := n2_; have GE203 := n3_; clear n0_ n1_ n2_ n3_; clear hb hbox hg))
  (try simp only [Act.put, List.setIfInBounds_toArray, List.set_cons_zero, List.set_cons_succ])
  go_cut [10] (fun v10 wc => ∃ (kq : Nat) (x10_1 : Bool), v10 = .bool x10_1 ∧ Aside0 (spec_BrdOk.j0 kq x10_1 a0_0 a0_1 = some r) ∧ Aside0 (kq ≤ k) ∧ Aside0 (wc.heap[gb203]? = some (.cells #[.int .i64 a0_0, .int .i64 a0_1] 28 (0, 0))) ∧ Aside0 (Below w.heap.size w wc))
  case first =>
    have H := HC2.out
    clear HC2
    by_cases c4 : a0_0 = 0
    · rw [if_pos c4] at H
      have c4b0 : (a0_0 == 0) = true := beq_iff_eq.mpr c4
      have c4b1 : (a0_0 != 0) = false := bne_eq_false_iff_eq.mpr c4
      clear c4
      (first | rw [c4b0] | (simp only [i64_w, i32_w]; rw [c4b0]) | skip)
      have H' := Aside0.mk H
      clear H
      have hcz5_0 : w3.cell? ⟨gb203, 0, none⟩ = some (.int .i64 a0_0) := (blk_cell BK203.out 0).trans rfl
      have hcz5_1 : w3.cell? ⟨gb203, 1, none⟩ = some (.int .i64 a0_1) := (blk_cell BK203.out 1).trans rfl
      have hfz5_0 := blk_frozen BK203.out 0
      have hfz5_1 := blk_frozen BK203.out 1
      go_wp2
      go_meet
      case rel => exact ⟨_, (true), (by first | rfl | (simp; done) | (simp [*]; done)), H', ⟨by first | omega | exact Nat.le_refl _⟩, ⟨by (with_reducible repeat (first | refine blk_drewN ?_ _ | refine blk_drew ?_ | refine blk_alloc ?_ _)); exact BK203.out⟩, ⟨by repeat (first | (with_reducible first | exact HB.out | apply below_alloc | apply pw_below_drewN | apply below_drew1 | refine below_set ?_ GE203.out) | exact HB.out)⟩⟩
    · rw [if_neg c4] at H
      have c4b0 : (a0_0 == 0) = false := beq_eq_false_iff_ne.mpr c4
      have c4b1 : (a0_0 != 0) = true := bne_iff_ne.mpr c4
      (first | rw [c4b0] | (simp only [i64_w, i32_w]; rw [c4b0]) | skip)
      have H' := Aside0.mk H
      clear H
      have hcz6_0 : w3.cell? ⟨gb203, 0, none⟩ = some (.int .i64 a0_0) := (blk_cell BK203.out 0).trans rfl
      have hcz6_1 : w3.cell? ⟨gb203, 1, none⟩ = some (.int .i64 a0_1) := (blk_cell BK203.out 1).trans rfl
      have hfz6_0 := blk_frozen BK203.out 0
      have hfz6_1 := blk_frozen BK203.out 1
      go_wp2
      go_meet
      case rel => exact ⟨_, ((a0_0 == 4)), (by first | rfl | (simp; done) | (simp [*]; done)), H', ⟨by first | omega | exact Nat.le_refl _⟩, ⟨by (with_reducible repeat (first | refine blk_drewN ?_ _ | refine blk_drew ?_ | refine blk_alloc ?_ _)); exact BK203.out⟩, ⟨by repeat (first | (with_reducible first | exact HB.out | apply below_alloc | apply pw_below_drewN | apply below_drew1 | refine below_set ?_ GE203.out) | exact HB.out)⟩⟩
  case rest =>
    clear HC2
    try clear p2
    try clear c4
    try clear c4b0
    try clear c4b1
    try clear hcz5_0
    try clear hcz5_1
    try clear hcz6_0
    try clear hcz6_1
    try clear hfz5_0
    try clear hfz5_1
    try clear hfz6_0
    try clear hfz6_1
    obtain ⟨kq, x10_1, rfl, HA, HJ1, BK203, HB⟩ := hcut
    cases kq with
    | zero => exact absurd HA.out (by simp [spec_BrdOk.j0])
    | succ kj1 =>
      have H := HA.out
      clear HA
      simp only [spec_BrdOk.j0] at H
      by_cases c7 : x10_1 = true
      · subst c7
        have H1 : (some (a0_1 == 0)) = some r := by rw [if_pos rfl] at H; exact H
        clear H
        have H := H1
        clear H1
        obtain rfl := Option.some.inj H
        have hcz8_0 : wc.cell? ⟨gb203, 0, none⟩ = some (.int .i64 a0_0) := (blk_cell BK203.out 0).trans rfl
        have hcz8_1 : wc.cell? ⟨gb203, 1, none⟩ = some (.int .i64 a0_1) := (blk_cell BK203.out 1).trans rfl
        have hfz8_0 := blk_frozen BK203.out 0
        have hfz8_1 := blk_frozen BK203.out 1
        go_wp2
        go_ret
        exact ⟨by first | rfl | (simp [IntKind.wrap_i64, wrap64]; done) | (simp [errW_none, errW_some] <;> rfl) | (simp [*, errW_none, errW_some] <;> rfl), by repeat (first | (with_reducible first | exact HB.out | apply below_alloc | apply pw_below_drewN | apply below_drew1 | refine below_set ?_ GE203.out) | exact HB.out)⟩
      · replace c7 := Bool.eq_false_iff.mpr c7
        subst c7
        have H1 : ((spec_l1In.f a0_0 1 3).bind fun t204 => (if t204 = true then ((spec_l1In.f a0_1 1 3).bind fun t205 => (some t205)) else (some false))) = some r := by rw [if_neg (show ¬ (false = true) by decide)] at H; exact H
        clear H
        have H := H1
        clear H1
        replace H := Option.bind_eq_some_iff.mp H
        obtain ⟨t204, A90, H⟩ := H
        replace H : (if t204 = true then ((spec_l1In.f a0_1 1 3).bind fun t205 => (some t205)) else (some false)) = some r := H
        have A9 := Aside0.mk A90
        clear A90
        by_cases c10 : t204 = true
        · subst c10
          have H1 : ((spec_l1In.f a0_1 1 3).bind fun t205 => (some t205)) = some r := by rw [if_pos rfl] at H; exact H
          clear H
          have H := H1
          clear H1
          replace H := Option.bind_eq_some_iff.mp H
          obtain ⟨t205, A110, H⟩ := H
          replace H : (some t205) = some r := H
          have A11 := Aside0.mk A110
          clear A110
          obtain rfl := Option.some.inj H
          have hcz12_0 : wc.cell? ⟨gb203, 0, none⟩ = some (.int .i64 a0_0) := (blk_cell BK203.out 0).trans rfl
          have hcz12_1 : wc.cell? ⟨gb203, 1, none⟩ = some (.int .i64 a0_1) := (blk_cell BK203.out 1).trans rfl
          have hfz12_0 := blk_frozen BK203.out 0
          have hfz12_1 := blk_frozen BK203.out 1
          go_wp2_with (first | ((with_reducible refine gate_callee (f := 24) rfl ?_); refine goesL_ (some 16) rfl rfl Tryd.func24 (by kernel_rfl) rfl #[.int .i64 a0_0, .int .i64 1, .int .i64 3] rfl (by (try simp only [List.map_toArray, List.map_cons, List.map_nil]); first | done | rfl | (simp only [List.length_drop, List.length_take]; rfl)) ?_; (with_reducible refine (spec_l1In.calls a0_0 1 3 true _ A9.out).mono ?_); rintro e w' ⟨rfl, ⟨nd, rfl⟩⟩; refine ⟨_, rfl, ?_⟩) | (go_at_call 24; (with_reducible refine (spec_l1In.calls a0_1 1 3 t205 _ A11.out).mono ?_); rintro e w' ⟨rfl, ⟨nd, rfl⟩⟩))
          go_ret
          exact ⟨by first | rfl | (simp [IntKind.wrap_i64, wrap64]; done) | (simp [errW_none, errW_some] <;> rfl) | (simp [*, errW_none, errW_some] <;> rfl), by repeat (first | (with_reducible first | exact HB.out | apply below_alloc | apply pw_below_drewN | apply below_drew1 | refine below_set ?_ GE203.out) | exact HB.out)⟩
        · replace c10 := Bool.eq_false_iff.mpr c10
          subst c10
          have H1 : (some false) = some r := by rw [if_neg (show ¬ (false = true) by decide)] at H; exact H
          clear H
          have H := H1
          clear H1
          obtain rfl := Option.some.inj H
          have hcz13_0 : wc.cell? ⟨gb203, 0, none⟩ = some (.int .i64 a0_0) := (blk_cell BK203.out 0).trans rfl
          have hcz13_1 : wc.cell? ⟨gb203, 1, none⟩ = some (.int .i64 a0_1) := (blk_cell BK203.out 1).trans rfl
          have hfz13_0 := blk_frozen BK203.out 0
          have hfz13_1 := blk_frozen BK203.out 1
          go_wp2_with (first | ((with_reducible refine gate_callee (f := 24) rfl ?_); refine goesL_ (some 16) rfl rfl Tryd.func24 (by kernel_rfl) rfl #[.int .i64 a0_0, .int .i64 1, .int .i64 3] rfl (by (try simp only [List.map_toArray, List.map_cons, List.map_nil]); first | done | rfl | (simp only [List.length_drop, List.length_take]; rfl)) ?_; (with_reducible refine (spec_l1In.calls a0_0 1 3 false _ A9.out).mono ?_); rintro e w' ⟨rfl, ⟨nd, rfl⟩⟩; refine ⟨_, rfl, ?_⟩))
          go_ret
          exact ⟨by first | rfl | (simp [IntKind.wrap_i64, wrap64]; done) | (simp [errW_none, errW_some] <;> rfl) | (simp [*, errW_none, errW_some] <;> rfl), by repeat (first | (with_reducible first | exact HB.out | apply below_alloc | apply pw_below_drewN | apply below_drew1 | refine below_set ?_ GE203.out) | exact HB.out)⟩

/-! ### spec_CellOk: function 23 (by hand) -/
def spec_CellOk.f (k : Nat) (a0_0 : ByteArray) (a0_1 : Int) (a0_2 : Int) (a0_3 : Int) (a0_4 : Int) (a0_5 : Int) (a0_6 : Int) (a0_7 : Int) (a0_8 : Int) (a0_9 : Int) (a0_10 : Int) : Option (Bool) := (spec_TxtOk.f k a0_0).bind fun t207 => (if t207 = true then ((spec_l1In.f a0_1 1 4).bind fun t208 => (if t208 = true then ((spec_l1In.f a0_2 1 4).bind fun t209 => (if t209 = true then ((spec_BrdOk.f k a0_3 a0_4).bind fun t210 => (if t210 = true then ((spec_BrdOk.f k a0_5 a0_6).bind fun t211 => (if t211 = true then ((spec_BrdOk.f k a0_7 a0_8).bind fun t212 => (if t212 = true then ((spec_BrdOk.f k a0_9 a0_10).bind fun t213 => (some t213)) else (some false))) else (some false))) else (some false))) else (some false))) else (some false))) else (some false))
theorem spec_CellOk.mono : ∀ a0 a1 a2 a3 a4 a5 a6 a7 a8 a9 a10 k, LeO (spec_CellOk.f k a0 a1 a2 a3 a4 a5 a6 a7 a8 a9 a10) (spec_CellOk.f (k + 1) a0 a1 a2 a3 a4 a5 a6 a7 a8 a9 a10) := by
  intro a0 a1 a2 a3 a4 a5 a6 a7 a8 a9 a10 k
  unfold spec_CellOk.f
  repeat' first
      | (with_reducible exact spec_BrdOk.mono _ _ _)
      | (with_reducible exact spec_TxtOk.mono _ _)
      | (with_reducible exact LeO.refl _)
      | (with_reducible exact LeO.none _)
      | (with_reducible refine LeO.ite ?_ ?_)
      | (with_reducible refine LeO.bind ?_ (fun _ => ?_))
      | exact spec_BrdOk.mono _ _ _
      | exact spec_TxtOk.mono _ _
      | exact LeO.none _
      | refine LeO.ite ?_ ?_
      | refine LeO.bind ?_ (fun _ => ?_)
theorem spec_CellOk.part {o f : Option Bool} {r : Bool} (h : (o.bind fun t => if t = true then f else some false) = some r) : ∃ b, Aside0 (o = some b) ∧ ((b = false ∧ r = false) ∨ (b = true ∧ f = some r)) := by
  obtain ⟨b, h1, h⟩ := Option.bind_eq_some_iff.1 h
  refine ⟨b, ⟨h1⟩, ?_⟩
  cases b
  · exact .inl ⟨rfl, (Option.some.inj h).symm⟩
  · exact .inr ⟨rfl, h⟩
set_option maxHeartbeats 4000000 in
set_option maxRecDepth 100000 in
theorem spec_CellOk.calls (k : Nat) (a0_0 : ByteArray) (a0_1 : Int) (a0_2 : Int) (a0_3 : Int) (a0_4 : Int) (a0_5 : Int) (a0_6 : Int) (a0_7 : Int) (a0_8 : Int) (a0_9 : Int) (a0_10 : Int) (r : Bool) (w : World) (h : spec_CellOk.f k a0_0 a0_1 a0_2 a0_3 a0_4 a0_5 a0_6 a0_7 a0_8 a0_9 a0_10 = some r) :
    Calls Tryd.prog 23 #[.agg #[.string a0_0, .int .i64 a0_1, .int .i64 a0_2, .int .i64 a0_3, .int .i64 a0_4, .int .i64 a0_5, .int .i64 a0_6, .int .i64 a0_7, .int .i64 a0_8, .int .i64 a0_9, .int .i64 a0_10]] w fun e w' => e = .returned (.bool r) ∧ Below w.heap.size w w' := by
  have HB := Aside0.mk (Below.refl w.heap.size w)
  have hu1 := Tryd.underlying30
  unfold spec_CellOk.f at h
  obtain ⟨b1, A1, ⟨rfl, rfl⟩ | ⟨rfl, h⟩⟩ := spec_CellOk.part h
  rotate_left
  obtain ⟨b2, A2, ⟨rfl, rfl⟩ | ⟨rfl, h⟩⟩ := spec_CellOk.part h
  rotate_left
  obtain ⟨b3, A3, ⟨rfl, rfl⟩ | ⟨rfl, h⟩⟩ := spec_CellOk.part h
  rotate_left
  obtain ⟨b4, A4, ⟨rfl, rfl⟩ | ⟨rfl, h⟩⟩ := spec_CellOk.part h
  rotate_left
  obtain ⟨b5, A5, ⟨rfl, rfl⟩ | ⟨rfl, h⟩⟩ := spec_CellOk.part h
  rotate_left
  obtain ⟨b6, A6, ⟨rfl, rfl⟩ | ⟨rfl, h⟩⟩ := spec_CellOk.part h
  rotate_left
  obtain ⟨b7, h7, h⟩ := Option.bind_eq_some_iff.1 h
  obtain rfl := Option.some.inj h
  have A7 := Aside0.mk h7
  clear h7
  all_goals
    clear h
    go_enter Tryd.func23, Tryd.ntmps23
    go_wp2_with (first | (go_at_call 46; (with_reducible refine (spec_TxtOk.calls k _ _ _ A1.out).mono ?_); rintro e W' ⟨rfl, ⟨nd, rfl⟩⟩) | (go_at_call 24; (first | (with_reducible refine (spec_l1In.calls _ _ _ _ _ A2.out).mono ?_) | (with_reducible refine (spec_l1In.calls _ _ _ _ _ A3.out).mono ?_)); rintro e W' ⟨rfl, ⟨nd, rfl⟩⟩) | (go_at_call 47; (first | (with_reducible refine (spec_BrdOk.calls k _ _ _ _ A4.out).mono ?_) | (with_reducible refine (spec_BrdOk.calls k _ _ _ _ A5.out).mono ?_) | (with_reducible refine (spec_BrdOk.calls k _ _ _ _ A6.out).mono ?_) | (with_reducible refine (spec_BrdOk.calls k _ _ _ _ A7.out).mono ?_)); rintro e W2 ⟨rfl, hb⟩; (first | (have n1 : Aside0 (W2.heap[w.heap.size]? = some (.cells #[.string a0_0, .int .i64 a0_1, .int .i64 a0_2, .int .i64 a0_3, .int .i64 a0_4, .int .i64 a0_5, .int .i64 a0_6, .int .i64 a0_7, .int .i64 a0_8, .int .i64 a0_9, .int .i64 a0_10] 30 (0, 0))) := ⟨blk_below (by (with_reducible repeat (first | refine blk_drewN ?_ _ | refine blk_drew ?_)); exact HG.out) hb⟩) | (have n1 : Aside0 (W2.heap[w.heap.size]? = some (.cells #[.string a0_0, .int .i64 a0_1, .int .i64 a0_2, .int .i64 a0_3, .int .i64 a0_4, .int .i64 a0_5, .int .i64 a0_6, .int .i64 a0_7, .int .i64 a0_8, .int .i64 a0_9, .int .i64 a0_10] 30 (0, 0))) := ⟨blk_below (by (with_reducible repeat (first | refine blk_drewN ?_ _ | refine blk_drew ?_)); exact blk_new w _) hb⟩)); (first | (have n2 : Aside0 (Below w.heap.size w W2) := ⟨below_step (by repeat (with_reducible first | exact HB.out | apply below_alloc | apply pw_below_drewN | apply below_drew1)) hb⟩)); clear hb; (try clear HG q5 q6 q7 q8 q9 q10); clear HB; have HG := n1; have HB := n2; clear n1 n2; have q5 : W2.cell? ⟨w.heap.size, 5, none⟩ = some (.int .i64 a0_5) := (blk_cell HG.out 5).trans rfl; have q6 : W2.cell? ⟨w.heap.size, 6, none⟩ = some (.int .i64 a0_6) := (blk_cell HG.out 6).trans rfl; have q7 : W2.cell? ⟨w.heap.size, 7, none⟩ = some (.int .i64 a0_7) := (blk_cell HG.out 7).trans rfl; have q8 : W2.cell? ⟨w.heap.size, 8, none⟩ = some (.int .i64 a0_8) := (blk_cell HG.out 8).trans rfl; have q9 : W2.cell? ⟨w.heap.size, 9, none⟩ = some (.int .i64 a0_9) := (blk_cell HG.out 9).trans rfl; have q10 : W2.cell? ⟨w.heap.size, 10, none⟩ = some (.int .i64 a0_10) := (blk_cell HG.out 10).trans rfl))
    go_ret
    exact ⟨rfl, by repeat (with_reducible first | exact HB.out | apply below_alloc | apply pw_below_drewN | apply below_drew1)⟩

/-! ### spec_l2Col: function 26 -/
def spec_l2Col.f (a0_0 : Int) (a0_1 : Int) : Option (Bool) := if a0_0 = 0 then (some (a0_1 == 0)) else (if a0_0 = 1 then ((spec_l1In.f a0_1 0 60).bind fun t215 => (some t215)) else (if a0_0 = 2 then ((spec_l1In.f a0_1 1 100).bind fun t216 => (some t216)) else (some false)))
set_option maxHeartbeats 8000000 in
set_option maxRecDepth 100000 in
theorem spec_l2Col.calls (a0_0 : Int) (a0_1 : Int) (r : Bool) (w : World) (h : spec_l2Col.f a0_0 a0_1 = some r) :
    Calls Tryd.prog 26 #[.agg #[.int .i64 a0_0, .int .i64 a0_1]] w fun e w' => e = .returned (.bool r) ∧ Below w.heap.size w w' := by
  have hu57 := Tryd.underlying57
  have HB := Aside0.mk (Below.refl w.heap.size w)
  have H : (if a0_0 = 0 then (some (a0_1 == 0)) else (if a0_0 = 1 then ((spec_l1In.f a0_1 0 60).bind fun t215 => (some t215)) else (if a0_0 = 2 then ((spec_l1In.f a0_1 1 100).bind fun t216 => (some t216)) else (some false)))) = some r := h
  clear h
  by_cases c2 : a0_0 = 0
  · rw [if_pos c2] at H
    have c2b0 : (a0_0 == 0) = true := beq_iff_eq.mpr c2
    have c2b1 : (a0_0 != 0) = false := bne_eq_false_iff_eq.mpr c2
    clear c2
    obtain rfl := Option.some.inj H
    go_enter Tryd.func26, Tryd.ntmps26
    go_wp2_with (first | ((with_reducible refine gate_dst (N := 1) rfl ?_); refine box_event ?hg (N := 1) ?hd (cs := #[.int .i64 a0_0, .int .i64 a0_1]) (t := 57) ?hr ?_; (case hd => rfl); (case hg => rfl); (case hr => first | (go_simp; done) | (go_simp; rfl)); intro gb214 hg w3 hbox hb; have n0_ := Aside0.mk (below_step (by repeat (first | (with_reducible first | exact HB.out | apply below_alloc | apply pw_below_drewN | apply below_drew1) | exact HB.out)) hb); have n1_ := Aside0.mk (hbox); have n2_ := Aside0.mk ((by rw [hg]; exact (below_size (by repeat (first | (with_reducible first | exact HB.out | apply below_alloc | apply pw_below_drewN | apply below_drew1) | exact HB.out))) : w.heap.size ≤ gb214)); have n3_ := Aside0.mk ((by rw [hg]; exact (below_size (by repeat (first | (with_reducible first | exact HB.out | apply below_alloc | apply pw_below_drewN | apply below_drew1) | exact HB.out))) : w.heap.size ≤ gb214)); clear HB; have HB := n0_; have BK214 := n1_; have GW214 := n2_; have GE214 := n3_; clear n0_ n1_ n2_ n3_; clear hb hbox hg; have hcz4_0 : w3.cell? ⟨gb214, 0, none⟩ = some (.int .i64 a0_0) := (blk_cell BK214.out 0).trans rfl; have hcz4_1 : w3.cell? ⟨gb214, 1, none⟩ = some (.int .i64 a0_1) := (blk_cell BK214.out 1).trans rfl; have hfz4_0 := blk_frozen BK214.out 0; have hfz4_1 := blk_frozen BK214.out 1))
    go_ret
    exact ⟨by first | rfl | (simp [IntKind.wrap_i64, wrap64]; done) | (simp [errW_none, errW_some] <;> rfl) | (simp [*, errW_none, errW_some] <;> rfl), by repeat (first | (with_reducible first | exact HB.out | apply below_alloc | apply pw_below_drewN | apply below_drew1 | refine below_set ?_ GE214.out) | exact HB.out)⟩
  · rw [if_neg c2] at H
    have c2b0 : (a0_0 == 0) = false := beq_eq_false_iff_ne.mpr c2
    have c2b1 : (a0_0 != 0) = true := bne_iff_ne.mpr c2
    by_cases c5 : a0_0 = 1
    · rw [if_pos c5] at H
      have c5b0 : (a0_0 == 1) = true := beq_iff_eq.mpr c5
      have c5b1 : (a0_0 != 1) = false := bne_eq_false_iff_eq.mpr c5
      clear c5
      replace H := Option.bind_eq_some_iff.mp H
      obtain ⟨t215, A60, H⟩ := H
      replace H : (some t215) = some r := H
      have A6 := Aside0.mk A60
      clear A60
      obtain rfl := Option.some.inj H
      go_enter Tryd.func26, Tryd.ntmps26
      go_wp2_with (first | ((with_reducible refine gate_dst (N := 1) rfl ?_); refine box_event ?hg (N := 1) ?hd (cs := #[.int .i64 a0_0, .int .i64 a0_1]) (t := 57) ?hr ?_; (case hd => rfl); (case hg => rfl); (case hr => first | (go_simp; done) | (go_simp; rfl)); intro gb214 hg w7 hbox hb; have n0_ := Aside0.mk (below_step (by repeat (first | (with_reducible first | exact HB.out | apply below_alloc | apply pw_below_drewN | apply below_drew1) | exact HB.out)) hb); have n1_ := Aside0.mk (hbox); have n2_ := Aside0.mk ((by rw [hg]; exact (below_size (by repeat (first | (with_reducible first | exact HB.out | apply below_alloc | apply pw_below_drewN | apply below_drew1) | exact HB.out))) : w.heap.size ≤ gb214)); have n3_ := Aside0.mk ((by rw [hg]; exact (below_size (by repeat (first | (with_reducible first | exact HB.out | apply below_alloc | apply pw_below_drewN | apply below_drew1) | exact HB.out))) : w.heap.size ≤ gb214)); clear HB; have HB := n0_; have BK214 := n1_; have GW214 := n2_; have GE214 := n3_; clear n0_ n1_ n2_ n3_; clear hb hbox hg; have hcz8_0 : w7.cell? ⟨gb214, 0, none⟩ = some (.int .i64 a0_0) := (blk_cell BK214.out 0).trans rfl; have hcz8_1 : w7.cell? ⟨gb214, 1, none⟩ = some (.int .i64 a0_1) := (blk_cell BK214.out 1).trans rfl; have hfz8_0 := blk_frozen BK214.out 0; have hfz8_1 := blk_frozen BK214.out 1) | ((with_reducible refine gate_callee (f := 24) rfl ?_); refine goesL_ (some 14) rfl rfl Tryd.func24 (by kernel_rfl) rfl #[.int .i64 a0_1, .int .i64 0, .int .i64 60] rfl (by (try simp only [List.map_toArray, List.map_cons, List.map_nil]); first | done | rfl | (simp only [List.length_drop, List.length_take]; rfl)) ?_; (with_reducible refine (spec_l1In.calls a0_1 0 60 t215 _ A6.out).mono ?_); rintro e w' ⟨rfl, ⟨nd, rfl⟩⟩; refine ⟨_, rfl, ?_⟩))
      go_ret
      exact ⟨by first | rfl | (simp [IntKind.wrap_i64, wrap64]; done) | (simp [errW_none, errW_some] <;> rfl) | (simp [*, errW_none, errW_some] <;> rfl), by repeat (first | (with_reducible first | exact HB.out | apply below_alloc | apply pw_below_drewN | apply below_drew1 | refine below_set ?_ GE214.out) | exact HB.out)⟩
    · rw [if_neg c5] at H
      have c5b0 : (a0_0 == 1) = false := beq_eq_false_iff_ne.mpr c5
      have c5b1 : (a0_0 != 1) = true := bne_iff_ne.mpr c5
      by_cases c9 : a0_0 = 2
      · rw [if_pos c9] at H
        have c9b0 : (a0_0 == 2) = true := beq_iff_eq.mpr c9
        have c9b1 : (a0_0 != 2) = false := bne_eq_false_iff_eq.mpr c9
        clear c9
        replace H := Option.bind_eq_some_iff.mp H
        obtain ⟨t216, A100, H⟩ := H
        replace H : (some t216) = some r := H
        have A10 := Aside0.mk A100
        clear A100
        obtain rfl := Option.some.inj H
        go_enter Tryd.func26, Tryd.ntmps26
        go_wp2_with (first | ((with_reducible refine gate_dst (N := 1) rfl ?_); refine box_event ?hg (N := 1) ?hd (cs := #[.int .i64 a0_0, .int .i64 a0_1]) (t := 57) ?hr ?_; (case hd => rfl); (case hg => rfl); (case hr => first | (go_simp; done) | (go_simp; rfl)); intro gb214 hg w11 hbox hb; have n0_ := Aside0.mk (below_step (by repeat (first | (with_reducible first | exact HB.out | apply below_alloc | apply pw_below_drewN | apply below_drew1) | exact HB.out)) hb); have n1_ := Aside0.mk (hbox); have n2_ := Aside0.mk ((by rw [hg]; exact (below_size (by repeat (first | (with_reducible first | exact HB.out | apply below_alloc | apply pw_below_drewN | apply below_drew1) | exact HB.out))) : w.heap.size ≤ gb214)); have n3_ := Aside0.mk ((by rw [hg]; exact (below_size (by repeat (first | (with_reducible first | exact HB.out | apply below_alloc | apply pw_below_drewN | apply below_drew1) | exact HB.out))) : w.heap.size ≤ gb214)); clear HB; have HB := n0_; have BK214 := n1_; have GW214 := n2_; have GE214 := n3_; clear n0_ n1_ n2_ n3_; clear hb hbox hg; have hcz12_0 : w11.cell? ⟨gb214, 0, none⟩ = some (.int .i64 a0_0) := (blk_cell BK214.out 0).trans rfl; have hcz12_1 : w11.cell? ⟨gb214, 1, none⟩ = some (.int .i64 a0_1) := (blk_cell BK214.out 1).trans rfl; have hfz12_0 := blk_frozen BK214.out 0; have hfz12_1 := blk_frozen BK214.out 1) | (go_at_call 24; (with_reducible refine (spec_l1In.calls a0_1 1 100 t216 _ A10.out).mono ?_); rintro e w' ⟨rfl, ⟨nd, rfl⟩⟩))
        go_ret
        exact ⟨by first | rfl | (simp [IntKind.wrap_i64, wrap64]; done) | (simp [errW_none, errW_some] <;> rfl) | (simp [*, errW_none, errW_some] <;> rfl), by repeat (first | (with_reducible first | exact HB.out | apply below_alloc | apply pw_below_drewN | apply below_drew1 | refine below_set ?_ GE214.out) | exact HB.out)⟩
      · rw [if_neg c9] at H
        have c9b0 : (a0_0 == 2) = false := beq_eq_false_iff_ne.mpr c9
        have c9b1 : (a0_0 != 2) = true := bne_iff_ne.mpr c9
        obtain rfl := Option.some.inj H
        go_enter Tryd.func26, Tryd.ntmps26
        go_wp2_with (first | ((with_reducible refine gate_dst (N := 1) rfl ?_); refine box_event ?hg (N := 1) ?hd (cs := #[.int .i64 a0_0, .int .i64 a0_1]) (t := 57) ?hr ?_; (case hd => rfl); (case hg => rfl); (case hr => first | (go_simp; done) | (go_simp; rfl)); intro gb214 hg w13 hbox hb; have n0_ := Aside0.mk (below_step (by repeat (first | (with_reducible first | exact HB.out | apply below_alloc | apply pw_below_drewN | apply below_drew1) | exact HB.out)) hb); have n1_ := Aside0.mk (hbox); have n2_ := Aside0.mk ((by rw [hg]; exact (below_size (by repeat (first | (with_reducible first | exact HB.out | apply below_alloc | apply pw_below_drewN | apply below_drew1) | exact HB.out))) : w.heap.size ≤ gb214)); have n3_ := Aside0.mk ((by rw [hg]; exact (below_size (by repeat (first | (with_reducible first | exact HB.out | apply below_alloc | apply pw_below_drewN | apply below_drew1) | exact HB.out))) : w.heap.size ≤ gb214)); clear HB; have HB := n0_; have BK214 := n1_; have GW214 := n2_; have GE214 := n3_; clear n0_ n1_ n2_ n3_; clear hb hbox hg; have hcz14_0 : w13.cell? ⟨gb214, 0, none⟩ = some (.int .i64 a0_0) := (blk_cell BK214.out 0).trans rfl; have hcz14_1 : w13.cell? ⟨gb214, 1, none⟩ = some (.int .i64 a0_1) := (blk_cell BK214.out 1).trans rfl; have hfz14_0 := blk_frozen BK214.out 0; have hfz14_1 := blk_frozen BK214.out 1))
        go_ret
        exact ⟨by first | rfl | (simp [IntKind.wrap_i64, wrap64]; done) | (simp [errW_none, errW_some] <;> rfl) | (simp [*, errW_none, errW_some] <;> rfl), by repeat (first | (with_reducible first | exact HB.out | apply below_alloc | apply pw_below_drewN | apply below_drew1 | refine below_set ?_ GE214.out) | exact HB.out)⟩


end Go.Proofs.YtaihfkjfbjcmhabDoor.Q
