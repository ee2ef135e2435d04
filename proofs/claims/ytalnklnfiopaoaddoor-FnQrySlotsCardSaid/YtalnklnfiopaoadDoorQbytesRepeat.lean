-- Told by a program of this session (uprint.py, ulay.py).
import Derived.Test.YtalnklnfiopaoadDoorQ0
import Derived.Test.YtalnklnfiopaoadDoorReg
import Derived.Test.YtalnklnfiopaoadDoorQspecl1In
import Derived.Test.YtalnklnfiopaoadDoorQspecDrawQrySlots
import Derived.Deep.RegionLaw
import Derived.Laws.CopyOwn
import Derived.Lib.MakeNoZero
import Derived.Lib.SlBytesConst
namespace Go.Proofs.YtalnklnfiopaoadDoor.Q
open Go.RowKit Go.Proofs.YtalnklnfiopaoadDoorW.PrintWords Go.Proofs.YtalnklnfiopaoadDoorW.PrintLast Go.Proofs.YtalnklnfiopaoadDoorW.PrintMore Go.Proofs.YtalnklnfiopaoadDoor.Reg Go.Proofs.YtalnklnfiopaoadDoor.Box
attribute [local go_sem] max2_int min2_int max_two min_two max_three min_three max_four min_four
set_option linter.unusedVariables false
set_option linter.unusedSimpArgs false

/-! ### bytes_Repeat: function 15 (by hand) -/
-- imports: Derived.Laws.CopyOwn Derived.Lib.MakeNoZero Derived.Deep.RegionLaw
def bytes_Repeat.f (l0 : List Int) (a1 : Int) : Option (List Int) := if l0 = [46] ∧ 1 ≤ a1 ∧ a1 ≤ 94 then some (List.replicate a1.toNat 46) else none
theorem bits_Mul.small : ((List.range 95).all fun n => bits_Mul.f 1 (n : Int) == some (0, (n : Int))) = true := by kernel_rfl
/-- Dots. -/
def dotA (n : Nat) : List Value := List.replicate n (.int .u8 46)
theorem dotA_get {n j : Nat} {v : Value} (h : (dotA n)[j]? = some v) : j < n ∧ v = .int .u8 46 := by
  unfold dotA at h
  rw [List.getElem?_replicate] at h
  split at h
  · exact ⟨by assumption, (Option.some.inj h).symm⟩
  · cases h
theorem splice_take {cur : List Value} {b m : Nat} (hb : cur.take b = dotA b) (hl : b + m ≤ cur.length) (hbl : b ≤ cur.length) : (splice cur b (dotA m)).take (b + m) = dotA (b + m) := by
  unfold splice
  rw [hb, ← List.append_assoc, List.take_left' (by simp [dotA])]
  unfold dotA
  rw [List.replicate_append_replicate]
/-- A row of n dots of the call's own. -/
def RepPost (n : Nat) (w : World) (e : Ending) (w' : World) : Prop := ∃ (g : Nat) (cur : List Value), e = .returned (.slice (some ⟨g, 0, none⟩) n n) ∧ w.heap.size ≤ g ∧ w'.heap[g]? = some (.cells cur.toArray 5 (0, 0)) ∧ n ≤ cur.length ∧ cur.take n = dotA n ∧ Below w.heap.size w w'
def bytes_Repeat.T20 : Bool × List (List Nat × List Nat) := (true, [([], []), ([], []), ([], []), ([1, 2], [1, 2]), ([], []), ([], []), ([4, 5], [4, 5]), ([3, 6], [3, 6]), ([0, 7], [0, 7]), ([8, 7, 0, 1, 2, 3, 4, 5, 6, 7, 8], [0, 2, 8])])
def bytes_Repeat.B20 : List Nat := [0, 0, 0, 6, 0, 0, 48, 126, 255, 511]
def bytes_Repeat.L20 : List (Nat × Tmp) := [(0, 67), (1, 68), (2, 69), (3, 70), (4, 71), (5, 72), (6, 73), (7, 74), (8, 75), (9, 10)]
def bytes_Repeat.O20 : List Nat := [0, 1, 2, 3, 4, 5, 6, 7, 8, 9]
theorem bytes_Repeat.tab20 : rtab .any (opsOf Tryd.f15 20) = bytes_Repeat.T20 := by kernel_rfl
theorem bytes_Repeat.bits20 : waitsOk bytes_Repeat.T20.2 bytes_Repeat.B20 = true := by kernel_rfl
theorem bytes_Repeat.base20 : baseOk bytes_Repeat.T20.2 bytes_Repeat.O20 = true := by kernel_rfl
theorem bytes_Repeat.lof20 : (lof bytes_Repeat.T20.2.length bytes_Repeat.O20 (fun _ => false) == List.replicate bytes_Repeat.T20.2.length false && bytes_Repeat.O20.length == bytes_Repeat.T20.2.length) = true := by kernel_rfl
theorem bytes_Repeat.ents20 : chkL (opsOf Tryd.f15 20) bytes_Repeat.O20 bytes_Repeat.L20 = true := by kernel_rfl
theorem bytes_Repeat.last20 : lastOk bytes_Repeat.B20 bytes_Repeat.O20 9 = true := by kernel_rfl
def bytes_Repeat.V (g bp n M : Nat) : Nat → Value
  | 0 | 2 | 5 => .int .i64 bp
  | 1 | 4 => .slice (some ⟨g, 0, none⟩) n n
  | 3 => .slice (some ⟨g, bp, none⟩) (n - bp) (n - bp)
  | 6 => .slice (some ⟨g, 0, none⟩) bp n
  | 7 => .int .i64 M
  | _ => .int .i64 ((bp : Int) + (M : Int))
/-- A slot whose one writer has not come up yet. -/
theorem slot_offj {b : Nat → Bool} {e : Nat → Value} {j : Nat} {t : Tmp} (hb : b j = false) : ∀ {L : List (Nat × Tmp)} {a a' : Act}, a' = putSel a b (ents e L) → (L.all fun x => !(x.2 == t) || x.1 == j) = true → a'.tmps[t]? = a.tmps[t]? := by
  intro L
  induction L with
  | nil => rintro a _ rfl _; rfl
  | cons x r ih =>
    intro a a' ha hc
    rw [List.all_cons, Bool.and_eq_true] at hc
    have h1 := ih (a := if b x.1 = true then a.put (some x.2) (e x.1) else a) (a' := a') ha hc.2
    rw [h1]
    by_cases hx : b x.1 = true
    · rw [if_pos hx]
      have hne : x.2 ≠ t := by
        intro q
        have h2 := hc.1
        rw [q] at h2
        simp only [BEq.rfl, Bool.not_true, Bool.false_or, beq_iff_eq] at h2
        rw [h2, hb] at hx
        cases hx
      simp [Act.put, Array.getElem?_setIfInBounds_ne hne]
    · rw [if_neg hx]
theorem EStep.pureO {P : Program} {ops : Array Oper} {Q : Exit → Act → World → Prop} {B O : List Nat} {L : List (Nat × Tmp)} {a : Act} {Φ : Nat → Value → World → Prop} {G : (Nat → Bool) → World → Prop} {St : World → World → Prop} {i : Nat} (hr : ∀ w, St w w)
    (h : ∀ (b : Nat → Bool) (e : Nat → Value) (a' : Act) (w : World), a' = putSel a b (ents e L) → G b w → (∀ j, (O.contains j && (B.getD i 0).testBit j) = true → b j = true ∧ Φ j (e j) w) → (∀ d, (O.contains d && (B.getD d 0).testBit i) = true → b d = false) →
      ∃ oi v, ops[i]? = some oi ∧ oi.guard = none ∧ (execOp a'.eval oi).run P w = .ok (.value v) w ∧ Φ i v w ∧ G (up b i) w) : EStep P ops Q B O L a Φ G St i := by
  intro b e a' w ha hG hF hb hon hoff
  obtain ⟨oi, v, h1, h2, h3, h4, h5⟩ := h b e a' w ha hG (fun j hj => ⟨hon j hj, hF j (hon j hj) (by rw [Bool.and_eq_true] at hj; exact hj.1)⟩) hoff
  exact ⟨oi, h1, fun K hK => value_ (by unfold Region.wanted; rw [h2]) rfl h3 (hK.out v w h4 (hr w) h5)⟩
/-- What the row holds, before and behind the copy. -/
def bytes_Repeat.G (w : World) (cur : List Value) (bp M : Nat) (b : Nat → Bool) (W : World) : Prop := W.heap[w.heap.size]? = some (.cells (if b 7 = true then splice cur bp (dotA M) else cur).toArray 5 (0, 0)) ∧ Below w.heap.size w W
theorem bytes_Repeat.G_up {w : World} {cur : List Value} {bp M i : Nat} {b : Nat → Bool} {W : World} (h : bytes_Repeat.G w cur bp M b W) (hi : i ≠ 7) : bytes_Repeat.G w cur bp M (up b i) W := by
  unfold bytes_Repeat.G at *
  rw [up_ne (Ne.symm hi)]
  exact h
set_option maxHeartbeats 4000000 in
set_option maxRecDepth 100000 in
theorem bytes_Repeat.calls (A0 : Option Addr) (c0 : Nat) (n : Nat) (w : World) (hr0 : Kd.C (Kd.int .u8) w A0 1 [46]) (hc0 : 1 ≤ c0) (h1 : 1 ≤ n) (h2 : n ≤ 94) :
    Calls Tryd.prog 15 #[.slice A0 1 c0, .int .i64 n] w fun e w' => RepPost n w e w' := by
  obtain ⟨ad, c, e0, _, hK, hc⟩ := Kd.C_get hr0 0 0 (by decide) (by decide)
  obtain rfl := e0
  have hc' : w.cell? ad = some (.int .u8 46) := by
    obtain rfl : c = [.int .u8 46] := hK
    have := hc 0 _ rfl
    simpa [Addr.add] using this
  have hA : ∀ (W : World), Below w.heap.size w W → W.cell? ad = some (.int .u8 46) := fun W hb => keepc hc' hb
  have HA := Aside0.mk hA
  clear hA hc hK hr0
  have hmul : bits_Mul.f 1 (n : Int) = some (0, (n : Int)) := by
    have := List.all_eq_true.1 bits_Mul.small n (List.mem_range.2 (by omega))
    simpa using this
  have AM := Aside0.mk hmul
  clear hmul
  go_enter Tryd.func15, Tryd.ntmps15
  go_wp2_with (first | (go_at_call 29; (with_reducible refine (bits_Mul.calls _ _ _ _ _ AM.out).mono ?_); rintro e W ⟨rfl, ⟨nd, rfl⟩⟩; obtain ⟨cs, hrunM, hle, _⟩ := Lib.run_makeNoZero (P := Tryd.prog) (w.drewN nd) #[3] 22 5 Tryd.underlying22 n (by omega); obtain ⟨cl, rfl⟩ : ∃ cl : List Value, cs = cl.toArray := ⟨cs.toList, (by simp)⟩; rw [List.size_toArray] at hle hrunM; have hcall : (callFunc 30 #[.int .i64 (n : Int)]).run Tryd.prog (w.drewN nd) = .ok (.value (.slice (some ⟨w.heap.size, 0, none⟩) n cl.length)) (((w.drewN nd).alloc (.cells cl.toArray 5)).drewN 2) := (by rw [run_callFunc_extern Tryd.func30 (by kernel_rfl) (by kernel_rfl) (by kernel_rfl) (e := Extern.BytealgMakeNoZero.makeNoZero #[3] #[22]) (by kernel_rfl), hrunM]; rfl); clear hrunM; have hn1 : (n : Int) ≤ (cl.length : Int) := (by omega); have HS := Aside0.mk hle; clear hle) | (refine wpList_copy_splice rfl (.tmp 58) (.tmp 59) 22 22 rfl 5 Tryd.underlying22 (by kernel_rfl) (some ⟨w.heap.size, 0, none⟩) (some ad) n n 1 c0 rfl rfl w.heap.size 0 cl 5 (first_block w _ _ (by rfl)) (dotA 1) ?c1 ?c2 ?c3 ?c4 w.heap.size w ?c5 (Nat.le_refl _) ?_; (case c1 => show 1 = Nat.min 1 n; exact (Nat.min_eq_left h1).symm); (case c2 => exact fun _ => ⟨rfl, ad, rfl, fun j v hj => (by obtain ⟨hj1, rfl⟩ := dotA_get hj; obtain rfl : j = 0 := (by omega); exact HA.out _ (by repeat (with_reducible first | exact Below.refl _ _ | apply below_alloc | apply pw_below_drewN | apply below_drew1)))⟩); (case c3 => have := HS.out; simp [dotA]; omega); (case c4 => exact fun v hv => (by rw [List.eq_of_mem_replicate hv]; rfl)); (case c5 => repeat (with_reducible first | exact Below.refl _ _ | apply below_alloc | apply pw_below_drewN | apply below_drew1)); intro w1 hg1 hb1))
  go_loopg [10] n (fun gg s10 wr => ∃ (bp : Nat) (cur : List Value), 1 ≤ bp ∧ bp ≤ n ∧ n - bp ≤ gg ∧ s10 = .int .i64 bp ∧ Aside0 (wr.heap[w.heap.size]? = some (.cells cur.toArray 5 (0, 0))) ∧ Aside0 (n ≤ cur.length) ∧ Aside0 (cur.take bp = dotA bp) ∧ Aside0 (Below w.heap.size w wr))
  case atStart => exact ⟨1, splice cl 0 (dotA 1), Nat.le_refl _, h1, by omega, rfl, ⟨hg1.out⟩, ⟨by rw [length_splice _ _ _ (by have := HS.out; simp [dotA]; omega)]; exact HS.out⟩, ⟨splice_take (cur := cl) (b := 0) (m := 1) (by simp [dotA]) (by have := HS.out; omega) (Nat.zero_le _)⟩, ⟨hb1⟩⟩
  case round =>
    clear hg1 hb1
    obtain ⟨bp, cur, hb1, hb2, hgg, rfl, HG, HL, HT, HB⟩ := hrel
    by_cases hlt : bp < n
    · have hz : (bp : Int) < (n : Int) := by omega
      have h0 : (0 : Int) ≤ (bp : Int) := by omega
      have h3 : (bp : Int) ≤ (n : Int) := by omega
      obtain ⟨M, hM⟩ : ∃ M, M = Nat.min bp (n - bp) := ⟨_, rfl⟩
      have hMb : M ≤ bp := by rw [hM]; exact Nat.min_le_left _ _
      have hMn : M ≤ n - bp := by rw [hM]; exact Nat.min_le_right _ _
      have hM1 : 1 ≤ M := by rw [hM]; exact Nat.le_min.2 ⟨hb1, by omega⟩
      have HMl : Aside0 ((dotA M).length = Nat.min bp (n - bp)) := ⟨by rw [← hM]; simp [dotA]⟩
      have HFit : Aside0 (bp + (dotA M).length ≤ cur.length) := ⟨by have := HL.out; simp [dotA]; omega⟩
      have HOne : Aside0 (∀ v ∈ dotA M, v.oneCell' = true) := ⟨fun v hv => by rw [List.eq_of_mem_replicate hv]; rfl⟩
      have HSrc : Aside0 (∀ (W : World), W.heap[w.heap.size]? = some (.cells cur.toArray 5 (0, 0)) → ∀ j v, (dotA M)[j]? = some v → W.cell? ((⟨w.heap.size, 0, none⟩ : Addr).add j) = some v) := ⟨fun W hW j v hj => by
        obtain ⟨hj1, rfl⟩ := dotA_get hj
        have e : ((⟨w.heap.size, 0, none⟩ : Addr).add j) = ⟨w.heap.size, j, none⟩ := by unfold Addr.add; simp only [Nat.zero_add]; split <;> simp [*]
        rw [e, blk_cell hW j, List.getElem?_toArray]
        have h5 : (cur.take bp)[j]? = some (.int .u8 46) := by rw [HT.out]; unfold dotA; rw [List.getElem?_replicate, if_pos (by omega)]
        rwa [List.getElem?_take_of_lt (by omega)] at h5⟩
      clear hM
      go_wp2
      have hk0 : ∀ W : World, True := fun _ => trivial
      refine region_envL (T := bytes_Repeat.T20) (B := bytes_Repeat.B20) bytes_Repeat.O20 bytes_Repeat.L20 9 (fun j v _ => v = bytes_Repeat.V w.heap.size bp n M j) (bytes_Repeat.G w cur bp M) (fun _ _ => True)
        (fun e W => e 9 = .int .i64 ((bp : Int) + (M : Int)) ∧ W.heap[w.heap.size]? = some (.cells (splice cur bp (dotA M)).toArray 5 (0, 0)) ∧ Below w.heap.size w W)
        rfl bytes_Repeat.tab20 bytes_Repeat.bits20 bytes_Repeat.base20 bytes_Repeat.lof20 bytes_Repeat.ents20 bytes_Repeat.last20 (fun _ _ _ _ h _ => h) ⟨HG.out, HB.out.drew⟩ ?_ ?_ ?_
      · refine alln_cons (EStep.pureO hk0 fun b E a' W ha hG hP hoff => ?_) ?_
        · have s10 : a'.tmps[10]? = some (.int .i64 bp) := (slot_offj (hoff 9 rfl) ha rfl).trans rfl
          exact ⟨_, .int .i64 bp, rfl, rfl, by clear ha hG hP hoff; go_simp, rfl, bytes_Repeat.G_up hG (by decide)⟩
        refine alln_cons (EStep.pure hk0 fun b E a' W ha hG hP => ?_) ?_
        · have s9 : a'.tmps[9]? = some (.slice (some ⟨w.heap.size, 0, none⟩) n n) := (slot_off ha rfl).trans rfl
          exact ⟨_, .slice (some ⟨w.heap.size, 0, none⟩) n n, rfl, rfl, by clear ha hG hP; go_simp, rfl, bytes_Repeat.G_up hG (by decide)⟩
        refine alln_cons (EStep.pureO hk0 fun b E a' W ha hG hP hoff => ?_) ?_
        · have s10 : a'.tmps[10]? = some (.int .i64 bp) := (slot_offj (hoff 9 rfl) ha rfl).trans rfl
          exact ⟨_, .int .i64 bp, rfl, rfl, by clear ha hG hP hoff; go_simp, rfl, bytes_Repeat.G_up hG (by decide)⟩
        refine alln_cons (EStep.pure hk0 fun b E a' W ha hG hP => ?_) ?_
        · have s68 : a'.tmps[68]? = some (.slice (some ⟨w.heap.size, 0, none⟩) n n) := slotv ha (hP 1 rfl).1 rfl (hP 1 rfl).2
          have s69 : a'.tmps[69]? = some (.int .i64 bp) := slotv ha (hP 2 rfl).1 rfl (hP 2 rfl).2
          exact ⟨_, .slice (some ⟨w.heap.size, bp, none⟩) (n - bp) (n - bp), rfl, rfl, by clear ha hG hP; go_simp; omega, rfl, bytes_Repeat.G_up hG (by decide)⟩
        refine alln_cons (EStep.pure hk0 fun b E a' W ha hG hP => ?_) ?_
        · have s9 : a'.tmps[9]? = some (.slice (some ⟨w.heap.size, 0, none⟩) n n) := (slot_off ha rfl).trans rfl
          exact ⟨_, .slice (some ⟨w.heap.size, 0, none⟩) n n, rfl, rfl, by clear ha hG hP; go_simp, rfl, bytes_Repeat.G_up hG (by decide)⟩
        refine alln_cons (EStep.pure hk0 fun b E a' W ha hG hP => ?_) ?_
        · have s11 : a'.tmps[11]? = some (.int .i64 bp) := (slot_off ha rfl).trans rfl
          exact ⟨_, .int .i64 bp, rfl, rfl, by clear ha hG hP; go_simp, rfl, bytes_Repeat.G_up hG (by decide)⟩
        refine alln_cons (EStep.pure hk0 fun b E a' W ha hG hP => ?_) ?_
        · have s71 : a'.tmps[71]? = some (.slice (some ⟨w.heap.size, 0, none⟩) n n) := slotv ha (hP 4 rfl).1 rfl (hP 4 rfl).2
          have s72 : a'.tmps[72]? = some (.int .i64 bp) := slotv ha (hP 5 rfl).1 rfl (hP 5 rfl).2
          exact ⟨_, .slice (some ⟨w.heap.size, 0, none⟩) bp n, rfl, rfl, by clear ha hG hP; go_simp, rfl, bytes_Repeat.G_up hG (by decide)⟩
        refine alln_cons (fun b E a' W ha hG hF hb hon hoff => ?_) ?_
        · have s70 : a'.tmps[70]? = some (.slice (some ⟨w.heap.size, bp, none⟩) (n - bp) (n - bp)) := slotv ha (hon 3 rfl) rfl (hF 3 (hon 3 rfl) rfl)
          have s73 : a'.tmps[73]? = some (.slice (some ⟨w.heap.size, 0, none⟩) bp n) := slotv ha (hon 6 rfl) rfl (hF 6 (hon 6 rfl) rfl)
          have hG1 := hG.1
          rw [if_neg (by rw [hb]; decide)] at hG1
          exact ⟨_, rfl, fun K hK => step_copy_splice rfl (.tmp 70) (.tmp 73) 22 22 rfl 5 Tryd.underlying22 (by kernel_rfl) (some ⟨w.heap.size, bp, none⟩) (some ⟨w.heap.size, 0, none⟩) (n - bp) (n - bp) bp n (by simp [Act.eval, Array.getD_eq_getD_getElem?, s70]) (by simp [Act.eval, Array.getD_eq_getD_getElem?, s73]) w.heap.size bp cur 5 hG1 (dotA M) HMl.out (fun _ => ⟨rfl, _, rfl, HSrc.out W hG1⟩) HFit.out HOne.out w.heap.size w hG.2 (Nat.le_refl _) (fun w2 hg2 hb2 => hK.out _ w2 (by simp [bytes_Repeat.V, dotA, goInt]) trivial ⟨by rw [if_pos (up_self _ _)]; exact hg2.out, hb2⟩)⟩
        refine alln_cons (EStep.pure hk0 fun b E a' W ha hG hP => ?_) alln_last
        · have s67 : a'.tmps[67]? = some (.int .i64 bp) := slotv ha (hP 0 rfl).1 rfl (hP 0 rfl).2
          have s74 : a'.tmps[74]? = some (.int .i64 M) := slotv ha (hP 7 rfl).1 rfl (hP 7 rfl).2
          exact ⟨_, .int .i64 ((bp : Int) + (M : Int)), rfl, rfl, by clear ha hG hP; go_simp; exact IntWalk.i64_in _ (by omega), rfl, bytes_Repeat.G_up hG (by decide)⟩
      · intro b E a' W ha hG hP hb
        have s75 : a'.tmps[75]? = some (.int .i64 ((bp : Int) + (M : Int))) := slotv ha (hP 8 rfl (by decide)).1 rfl (hP 8 rfl (by decide)).2
        have hG1 := hG.1
        rw [if_pos (hP 7 rfl (by decide)).1] at hG1
        exact ⟨_, rfl, fun K hK => value_ (v := .int .i64 ((bp : Int) + (M : Int))) rfl rfl (by clear ha hG hP; go_simp) (hK.out _ W ⟨upv_self _ _ _, hG1, hG.2⟩)⟩
      · intro E b W hall hF
        rw [putSel_all (fun x hx => hall x.1 (by revert x; decide))]
        simp only [bytes_Repeat.L20, List.foldl, Act.put, List.setIfInBounds_toArray, List.set_cons_zero, List.set_cons_succ, hF.1]
        clear hall
        have H2 := Aside0.mk hF.2.1
        have H3 := Aside0.mk hF.2.2
        clear hF
        go_wp2
        go_roundg (n - (bp + M))
        case measure => omega
        case rel => exact ⟨bp + M, _, by omega, by omega, Nat.le_refl _, by go_num, H2, ⟨by rw [length_splice _ _ _ HFit.out]; exact HL.out⟩, ⟨splice_take HT.out (by have := HFit.out; simpa [dotA] using this) (by have := HL.out; omega)⟩, H3⟩
    · obtain rfl : bp = n := by omega
      have hz : ¬ (bp : Int) < (bp : Int) := by omega
      go_wp2
      exact bodyPost_ret (v := .slice (some ⟨w.heap.size, 0, none⟩) bp bp) (by simp [results, Tryd.results15, go_sem]) rfl ⟨w.heap.size, cur, rfl, Nat.le_refl _, HG.out, HL.out, HT.out, HB.out⟩

/-! ### impl_QrySlots: function 5 (by hand) -/
-- imports: Derived.Lib.SlBytesConst
mutual
def impl_QrySlots.l0 : Nat → List ByteArray → Int → Int → Int → Int → List (S41) → Option (List ByteArray)
  | 0, _, _, _, _, _, _ => none
  | k + 1, x3, x12, x13, x320000, x320001, x320002 => if x13 < x12 then ((bytes_Repeat.f (([46] : List Int)) x320001).bind fun t324 => (impl_QrySlots.l1 k x3 x13 t324 x12 x13 (t324.length : Int) 0 x320000 x320001 x320002)) else (some x3)
def impl_QrySlots.l1 : Nat → List ByteArray → Int → List Int → Int → Int → Int → Int → Int → Int → List (S41) → Option (List ByteArray)
  | 0, _, _, _, _, _, _, _, _, _, _ => none
  | k + 1, x3, x4, x5, x12, x13, x22, x23, x320000, x320001, x320002 => if x23 < x22 then ((impl_GrdAt.f k x320000 x320001 x320002 x4 x23).bind fun t327 => (if t327 ≥ 0 then (if 0 ≤ x23 then (if x23 < (x5.length : Int) then (impl_QrySlots.l1 k x3 x4 (x5.set (x23 : Int).toNat ((wrap64 (97 + (Int.tmod t327 26))) % 256)) x12 x13 x22 (wrap64 (x23 + 1)) x320000 x320001 x320002) else (none)) else (none)) else (impl_QrySlots.l1 k x3 x4 x5 x12 x13 x22 (wrap64 (x23 + 1)) x320000 x320001 x320002))) else (if x3.length < 8796093022208 then (impl_QrySlots.l0 k (x3 ++ [strOfNums x5]) x12 (wrap64 (x13 + 1)) x320000 x320001 x320002) else (none))
end
def impl_QrySlots.f (k : Nat) (a0_0 : Int) (a0_1 : Int) (l0_2 : List (S41)) : Option (List ByteArray) := (impl_GrdOk.f k a0_0 a0_1 l0_2).bind fun t320 => (if t320 = true then (impl_QrySlots.l0 k ([] : List ByteArray) a0_0 0 a0_0 a0_1 l0_2) else (some ([] : List ByteArray)))
theorem impl_QrySlots.mono_l : ∀ k, (∀ y0 y1 y2 y3 y4 y5, LeO (impl_QrySlots.l0 k y0 y1 y2 y3 y4 y5) (impl_QrySlots.l0 (k + 1) y0 y1 y2 y3 y4 y5)) ∧ (∀ y0 y1 y2 y3 y4 y5 y6 y7 y8 y9, LeO (impl_QrySlots.l1 k y0 y1 y2 y3 y4 y5 y6 y7 y8 y9) (impl_QrySlots.l1 (k + 1) y0 y1 y2 y3 y4 y5 y6 y7 y8 y9))
  | 0 => ⟨fun _ _ _ _ _ _ r h => by simp [impl_QrySlots.l0] at h, fun _ _ _ _ _ _ _ _ _ _ r h => by simp [impl_QrySlots.l1] at h⟩
  | k + 1 => by
    obtain ⟨ih0, ih1⟩ := impl_QrySlots.mono_l k
    refine ⟨?_, ?_⟩
    · intro y0 y1 y2 y3 y4 y5
      unfold impl_QrySlots.l0
      repeat' first
      | (with_reducible exact ih0 _ _ _ _ _ _)
      | (with_reducible exact ih1 _ _ _ _ _ _ _ _ _ _)
      | (with_reducible exact impl_GrdAt.mono _ _ _ _ _ _)
      | (with_reducible exact impl_GrdOk.mono _ _ _ _)
      | (with_reducible exact LeO.refl _)
      | (with_reducible exact LeO.none _)
      | (with_reducible refine LeO.ite ?_ ?_)
      | (with_reducible refine LeO.bind ?_ (fun _ => ?_))
      | exact ih0 _ _ _ _ _ _
      | exact ih1 _ _ _ _ _ _ _ _ _ _
      | exact impl_GrdAt.mono _ _ _ _ _ _
      | exact impl_GrdOk.mono _ _ _ _
      | exact LeO.none _
      | refine LeO.ite ?_ ?_
      | refine LeO.bind ?_ (fun _ => ?_)
    · intro y0 y1 y2 y3 y4 y5 y6 y7 y8 y9
      unfold impl_QrySlots.l1
      repeat' first
      | (with_reducible exact ih0 _ _ _ _ _ _)
      | (with_reducible exact ih1 _ _ _ _ _ _ _ _ _ _)
      | (with_reducible exact impl_GrdAt.mono _ _ _ _ _ _)
      | (with_reducible exact impl_GrdOk.mono _ _ _ _)
      | (with_reducible exact LeO.refl _)
      | (with_reducible exact LeO.none _)
      | (with_reducible refine LeO.ite ?_ ?_)
      | (with_reducible refine LeO.bind ?_ (fun _ => ?_))
      | exact ih0 _ _ _ _ _ _
      | exact ih1 _ _ _ _ _ _ _ _ _ _
      | exact impl_GrdAt.mono _ _ _ _ _ _
      | exact impl_GrdOk.mono _ _ _ _
      | exact LeO.none _
      | refine LeO.ite ?_ ?_
      | refine LeO.bind ?_ (fun _ => ?_)
theorem impl_QrySlots.mono : ∀ a0 a1 a2 k, LeO (impl_QrySlots.f k a0 a1 a2) (impl_QrySlots.f (k + 1) a0 a1 a2) := by
  intro a0 a1 a2 k
  obtain ⟨ih0, ih1⟩ := impl_QrySlots.mono_l k
  unfold impl_QrySlots.f
  repeat' first
      | (with_reducible exact ih0 _ _ _ _ _ _)
      | (with_reducible exact ih1 _ _ _ _ _ _ _ _ _ _)
      | (with_reducible exact impl_GrdAt.mono _ _ _ _ _ _)
      | (with_reducible exact impl_GrdOk.mono _ _ _ _)
      | (with_reducible exact LeO.refl _)
      | (with_reducible exact LeO.none _)
      | (with_reducible refine LeO.ite ?_ ?_)
      | (with_reducible refine LeO.bind ?_ (fun _ => ?_))
      | exact ih0 _ _ _ _ _ _
      | exact ih1 _ _ _ _ _ _ _ _ _ _
      | exact impl_GrdAt.mono _ _ _ _ _ _
      | exact impl_GrdOk.mono _ _ _ _
      | exact LeO.none _
      | refine LeO.ite ?_ ?_
      | refine LeO.bind ?_ (fun _ => ?_)
theorem dot_lit {W : World} {g : Nat} (h : W.cell? ⟨g, 0, none⟩ = some (.int .u8 46)) : Kd.C (Kd.int .u8) W (some ⟨g, 0, none⟩) 1 [46] :=
  ⟨rfl, by decide, fun _ => ⟨⟨g, 0, none⟩, rfl, fun j p hj => by
    match j, hj with
    | 0, hj =>
      obtain rfl := Option.some.inj hj
      refine ⟨[.int .u8 46], rfl, rfl, fun i u hi => ?_⟩
      match i, hi with
      | 0, hi =>
        obtain rfl := Option.some.inj hi
        exact h⟩⟩
/-- A row of bytes of the call's own reads as its numbers. -/
theorem bytes_row {W : World} {g n : Nat} {cur : List Value} {x : List Int} (h : W.heap[g]? = some (.cells cur.toArray 5 (0, 0))) (hx : cur.take n = x.map (Value.int .u8)) (hn : x.length = n) (hl : n ≤ cur.length) (h9 : n ≤ 9223372036854775807) : Kd.C (Kd.int .u8) W (some ⟨g, 0, none⟩) n x := by
  refine ⟨hn, h9, fun _ => ⟨⟨g, 0, none⟩, rfl, fun j p hj => ⟨[.int .u8 p], rfl, rfl, fun i u hi => ?_⟩⟩⟩
  match i, hi with
  | 0, hi =>
    obtain rfl := Option.some.inj hi
    obtain ⟨hjl, rfl⟩ := List.getElem?_eq_some_iff.1 hj
    have e : ((⟨g, 0, none⟩ : Addr).add (j * (Kd.int .u8).sz + 0)) = ⟨g, j, none⟩ := by
      show ((⟨g, 0, none⟩ : Addr).add (j * 1 + 0)) = _
      unfold Addr.add
      simp only [Nat.mul_one, Nat.add_zero, Nat.zero_add]
      split <;> simp [*]
    rw [e, blk_cell h j, List.getElem?_toArray]
    have h5 : (cur.take n)[j]? = some (.int .u8 x[j]) := by rw [hx, List.getElem?_map, List.getElem?_eq_getElem hjl]; rfl
    rwa [List.getElem?_take_of_lt (by omega)] at h5
theorem spl_one (cur : List Value) (j : Nat) (v : Value) (hj : j < cur.length) (hv : v.cells = #[v]) : spl cur.toArray j v.cells = (cur.set j v).toArray := by
  unfold spl
  rw [hv]
  simp only [List.toList_toArray, List.size_toArray, List.length_singleton]
  rw [List.set_eq_take_append_cons_drop, if_pos hj]
  simp
theorem R_putT {α : Type} {d : Kd α} {e g t : Nat} {w W : World} {base : Nat} {ok : Nat → Prop} {v : Value} {xs : List α} {cs old : Array Value} (h : d.R e w base ok v xs) (hp : Put g cs t w W) (hg : w.heap[g]? = some (.cells old t (0, 0))) (ht : ∀ q, q ∈ e :: d.E → q ≠ t) : d.R e W base ok v xs := by
  refine Kd.R_mono (Kd.R_move (Kd.R_bound h) (fun k hk => hp.oth k (fun he => ?_))) (fun _ hk => hk.1)
  obtain ⟨_, _, _, q, hq, cells, hc⟩ := hk
  rw [he, hg] at hc
  injection hc with hc
  injection hc with _ hc _
  exact ht q hq hc.symm
set_option maxHeartbeats 4000000 in
set_option maxRecDepth 100000 in
theorem impl_QrySlots.calls (k : Nat) (a0_0 : Int) (a0_1 : Int) (A0_2 : Option Addr) (c0_2 : Nat) (l0_2 : List (S41)) (r : List ByteArray) (w : World) (hr0_2 : Kd.C k41 w A0_2 l0_2.length l0_2) (hc0_2 : l0_2.length ≤ c0_2) (h : impl_QrySlots.f k a0_0 a0_1 l0_2 = some r) :
    Calls Tryd.prog 5 #[.agg #[.int .i64 a0_0, .int .i64 a0_1, .slice A0_2 l0_2.length c0_2]] w fun e w' => ∃ v0_ : Value, e = .returned (v0_) ∧ Kd.R Kd.string 9 w' w.heap.size (fun _ => True) v0_ r ∧ Below w.heap.size w w' := by
  have HR := Aside0.mk hr0_2
  have HC := Aside0.mk hc0_2
  have hbig := hr0_2.2.1
  clear hr0_2 hc0_2
  have hu1 := Tryd.underlying25
  unfold impl_QrySlots.f at h
  rw [Option.bind_eq_some_iff] at h
  obtain ⟨t1, h1, h⟩ := h
  have A1 := Aside0.mk h1
  clear h1
  cases t1
  · rw [if_neg (by decide)] at h
    obtain rfl := Option.some.inj h
    clear h
    go_enter Tryd.func5, Tryd.ntmps5
    go_wp2_with (go_at_call 14; (with_reducible refine (impl_GrdOk.calls k a0_0 a0_1 A0_2 c0_2 l0_2 _ _ (Kd.C_below HR.out (below_alloc (Below.refl _ _) _)) HC.out A1.out).mono ?_); rintro e W ⟨rfl, hb⟩)
    exact bodyPost_ret (v := .slice none 0 0) (by simp [results, Tryd.results5, go_sem]) rfl ⟨_, rfl, Kd.R_nil _ _ _ _ _, below_step (below_alloc (Below.refl _ w) _) hb⟩
  · rw [if_pos rfl] at h
    have A2 := Aside0.mk h
    clear h
    go_enter Tryd.func5, Tryd.ntmps5
    go_wp2_with (go_at_call 14; (with_reducible refine (impl_GrdOk.calls k a0_0 a0_1 A0_2 c0_2 l0_2 _ _ (Kd.C_below HR.out (below_alloc (Below.refl _ _) _)) HC.out A1.out).mono ?_); rintro e W ⟨rfl, hb⟩; have HG := Aside0.mk (blk_below (blk_new w (.cells #[.int .i64 a0_0, .int .i64 a0_1, .slice A0_2 l0_2.length c0_2] 25)) hb); have HB := Aside0.mk (below_step (below_alloc (Below.refl _ w) _) hb); clear hb; have q0 : W.cell? ⟨w.heap.size, 0, none⟩ = some (.int .i64 a0_0) := (blk_cell HG.out 0).trans rfl)
    go_loopg [3, 13] k (fun gg s3 s13 wr => ∃ (q : Nat) (i : Int) (out : List ByteArray), q ≤ gg ∧ s13 = .int .i64 i ∧ Aside0 (impl_QrySlots.l0 q out a0_0 i a0_0 a0_1 l0_2 = some r) ∧ Aside0 (Kd.R Kd.string 9 wr w.heap.size (fun _ => True) s3 out) ∧ Aside0 (wr.heap[w.heap.size]? = some (.cells #[.int .i64 a0_0, .int .i64 a0_1, .slice A0_2 l0_2.length c0_2] 25 (0, 0))) ∧ Aside0 (Below w.heap.size w wr))
    case atStart => exact ⟨k, 0, [], Nat.le_refl _, rfl, A2, ⟨Kd.R_nil _ _ _ _ _⟩, HG, HB⟩
    case round =>
      clear HG HB A2 q0
      obtain ⟨q, i, out, hq, rfl, HL, HO, HG, HB⟩ := hrel
      cases q with
      | zero => exact absurd HL.out (by simp [impl_QrySlots.l0])
      | succ q =>
        have hl := HL.out
        clear HL
        simp only [impl_QrySlots.l0] at hl
        by_cases hlt : i < a0_0
        · rw [if_pos hlt, Option.bind_eq_some_iff] at hl
          obtain ⟨y, hy, hl⟩ := hl
          have AL := Aside0.mk hl
          clear hl
          unfold bytes_Repeat.f at hy
          split at hy
          · rename_i hc
            obtain rfl := Option.some.inj hy
            obtain ⟨_, h1, h2⟩ := hc
            obtain ⟨n, rfl⟩ : ∃ n : Nat, a0_1 = n := ⟨a0_1.toNat, by omega⟩
            have HG0 := HG
            have q1 : wr.cell? ⟨w.heap.size, 1, none⟩ = some (.int .i64 n) := (blk_cell HG.out 1).trans rfl
            have n0 := alloc_cell HG.out
            have kc := fun (w : World) (C : Array Value) (n c : Nat) => Lib.run_convert_bytes_const (P := Tryd.prog) w 22 5 C n c Tryd.underlying22 Tryd.underlying5
            go_wp2_with (go_at_call 15; (with_reducible refine (bytes_Repeat.calls _ 1 n _ (dot_lit (World.cell?_alloc_mark wr _ _ _ 0)) (Nat.le_refl 1) (by omega) (by omega)).mono ?_); rintro e W1 ⟨g, cur, rfl, hg, hG1, hL, hT, hb⟩)
            replace HG := Aside0.mk (blk_below (blk_alloc HG.out _) hb)
            replace HB := Aside0.mk (below_step (below_alloc HB.out _) hb)
            replace HO := Aside0.mk (Kd.R_below (Kd.R_alloc HO.out _) hb)
            have hgt : w.heap.size < g := Nat.lt_of_lt_of_le (blk_lt (blk_alloc HG0.out (.cells #[.int .u8 46] 5 (1, 2)))) hg
            clear q1 n0 kc hb hg HG0
            simp only [Int.toNat_natCast, List.length_replicate] at AL
            have HX := Aside0.mk hG1
            have HL := Aside0.mk hL
            have HT : Aside0 (cur.take n = (List.replicate n (46 : Int)).map (Value.int .u8)) := ⟨by rw [hT]; simp [dotA]⟩
            clear hG1 hL hT
            go_loopg [23] q (fun gg s23 wr => ∃ (q2 : Nat) (j : Int) (x : List Int) (cur : List Value), q2 ≤ gg ∧ q2 ≤ q ∧ s23 = .int .i64 j ∧ Aside0 (impl_QrySlots.l1 q2 out i x a0_0 i (n : Int) j a0_0 (n : Int) l0_2 = some r) ∧ Aside0 (x.length = n ∧ n ≤ cur.length ∧ cur.take n = x.map (Value.int .u8)) ∧ Aside0 (wr.heap[g]? = some (.cells cur.toArray 5 (0, 0))) ∧ Aside0 (Kd.R Kd.string 9 wr w.heap.size (fun _ => True) u3 out) ∧ Aside0 (wr.heap[w.heap.size]? = some (.cells #[.int .i64 a0_0, .int .i64 n, .slice A0_2 l0_2.length c0_2] 25 (0, 0))) ∧ Aside0 (Below w.heap.size w wr))
            case atStart => exact ⟨q, 0, _, cur, Nat.le_refl _, Nat.le_refl _, rfl, AL, ⟨List.length_replicate, HL.out, HT.out⟩, HX, HO, HG, HB⟩
            case round =>
              rename_i wr0 _ _ _ _
              clear HX HL HT HO HG HB AL
              obtain ⟨q2, j, x, cur, hq2, hq3, rfl, HL, HD, HX, HO, HG, HB⟩ := hrel
              cases q2 with
              | zero => exact absurd HL.out (by simp [impl_QrySlots.l1])
              | succ q2 =>
                have hl := HL.out
                clear HL
                simp only [impl_QrySlots.l1] at hl
                by_cases hj : j < (n : Int)
                · rw [if_pos hj, Option.bind_eq_some_iff] at hl
                  obtain ⟨t, ht, hl⟩ := hl
                  have AT := Aside0.mk ht
                  clear ht
                  have g0 : wr.cell? ⟨w.heap.size, 0, none⟩ = some (.int .i64 a0_0) := (blk_cell HG.out 0).trans rfl
                  have g1 : wr.cell? ⟨w.heap.size, 1, none⟩ = some (.int .i64 n) := (blk_cell HG.out 1).trans rfl
                  have g2 : wr.cell? ⟨w.heap.size, 2, none⟩ = some (.slice A0_2 l0_2.length c0_2) := (blk_cell HG.out 2).trans rfl
                  by_cases h0 : t ≥ 0
                  · rw [if_pos h0] at hl
                    split at hl
                    · rename_i hj0
                      split at hl
                      · have hv : (wrap64 (97 + Int.tmod t 26)) % 256 = 97 + t % 26 := by
                          rw [Int.tmod_eq_emod_of_nonneg (by omega)]
                          unfold wrap64
                          omega
                        rw [hv, show wrap64 (j + 1) = j + 1 by unfold wrap64; omega] at hl
                        have AL := Aside0.mk hl
                        have HJ : Aside0 (j.toNat < n ∧ j.toNat < cur.length) := ⟨by omega, by have := HD.out.2.1; omega⟩
                        clear hl hv
                        go_wp2_with (first | (go_at_call 10; (with_reducible refine (impl_GrdAt.calls _ _ _ _ _ _ _ _ _ _ (Kd.C_below HR.out HB.out) HC.out AT.out).mono ?_); rintro e W2 ⟨rfl, hb⟩; replace HG := Aside0.mk (blk_below HG.out hb); replace HB := Aside0.mk (below_step HB.out hb); replace HX := Aside0.mk (blk_below HX.out hb); replace HO := Aside0.mk (Kd.R_below HO.out hb); clear hb) | (show wpList _ _ _ _ _ W2; refine wpList_put 5 _ _ rfl rfl g j.toNat rfl (.int .u8 (97 + t % 26)) rfl 5 cur.toArray (cur.set j.toNat (.int .u8 (97 + t % 26))).toArray HX.out (by kernel_rfl) (Nat.ble_eq_true_of_le (Nat.succ_le_of_lt (by simpa using HJ.out.2))) rfl (spl_one _ _ _ HJ.out.2 rfl) (fun W9 hp => ?_); replace HO := Aside0.mk (R_putT HO.out hp HX.out (by decide)); replace HG := Aside0.mk (hp.keep HG.out (by omega)); replace HB := Aside0.mk (hp.below HB.out (by omega)); replace HX := Aside0.mk hp.blk; clear hp))
                        go_roundg q2
                        case measure => omega
                        case rel => exact ⟨q2, j + 1, _, _, Nat.le_refl _, by omega, rfl, AL, ⟨by rw [List.length_set]; exact HD.out.1, by rw [List.length_set]; exact HD.out.2.1, by rw [List.take_set, HD.out.2.2, List.map_set]⟩, HX, HO, HG, HB⟩
                      · cases hl
                    · cases hl
                  · rw [if_neg h0] at hl
                    have AL := Aside0.mk hl
                    clear hl
                    go_wp2_with (go_at_call 10; (with_reducible refine (impl_GrdAt.calls _ _ _ _ _ _ _ _ _ _ (Kd.C_below HR.out HB.out) HC.out AT.out).mono ?_); rintro e W2 ⟨rfl, hb⟩; replace HG := Aside0.mk (blk_below HG.out hb); replace HB := Aside0.mk (below_step HB.out hb); replace HX := Aside0.mk (blk_below HX.out hb); replace HO := Aside0.mk (Kd.R_below HO.out hb); clear hb)
                    go_roundg q2
                    case measure => omega
                    case rel => exact ⟨q2, wrap64 (j + 1), x, cur, Nat.le_refl _, by omega, rfl, AL, HD, HX, HO, HG, HB⟩
                · rw [if_neg hj] at hl
                  split at hl
                  · rename_i hlen
                    have AL := Aside0.mk hl
                    have HLen := Aside0.mk hlen
                    clear hl hlen
                    have hcv := Kd.C_string (P := Tryd.prog) (c := n) Tryd.underlying22 Tryd.underlying5 Tryd.underlying9 (bytes_row HX.out HD.out.2.2 HD.out.1 HD.out.2.1 (by omega))
                    go_wp2_with ((with_reducible refine gate_builtin (b := .append) (xs := #[.tmp 40, .tmp 43]) rfl ?_); at_builtin; refine Kd.R_append Kd.string (w0 := w) w.heap.size rfl (.tmp 40) (.tmp 43) 27 9 (.string ⟨#[]⟩) 16 rfl Tryd.underlying27 info9 rfl (by decide) (by omega) u3 out (strOfNums x) [.string (strOfNums x)] (fun _ => True) (fun _ => False) rfl rfl ?aP (fun _ hk => hk.elim) ?aF ?aO ?aB ?aS ?aL ?_; (case aP => exact rfl); (case aB => exact HB.out); (case aF => exact (fun _ _ => trivial)); (case aO => exact HO.out); (case aS => exact (below_size HB.out)); (case aL => have := HLen.out; omega); intro v1 W5 ho hb hg hat; replace HG := Aside0.mk (blk_grown (by first | exact HG.out | exact blk_alloc HG.out _) hg (Kd.R_ne HO.out HG.out (by decide))); replace HB := Aside0.mk hb; replace HO := Aside0.mk ho; clear ho hb hg hat)
                    go_roundg q2
                    case measure => omega
                    case rel => exact ⟨q2, wrap64 (i + 1), _, Nat.le_refl _, rfl, AL, HO, HG, HB⟩
                  · cases hl
          · cases hy
        · rw [if_neg hlt] at hl
          obtain rfl := Option.some.inj hl
          go_wp2
          refine bodyPost_ret ?_ rfl ⟨_, rfl, HO.out, HB.out⟩
          simp [results, Tryd.results5, go_sem]

/-! ### laws_pwTexts: function 6 -/
def laws_pwTexts.l0 : Nat → List ByteArray → List ByteArray → Int → Option (Bool)
  | 0, _, _, _ => none
  | k + 1, x0, x1, x5 => if x5 < (x0.length : Int) then (if 0 ≤ x5 then (if x5 < (x1.length : Int) then (if (rdOf ByteArray.empty x0 x5).toList = (rdOf ByteArray.empty x1 x5).toList then (laws_pwTexts.l0 k x0 x1 (wrap64 (x5 + 1))) else (some false)) else (none)) else (none)) else (some true)
def laws_pwTexts.f (k : Nat) (l0 : List ByteArray) (l1 : List ByteArray) : Option (Bool) := if (l0.length : Int) = (l1.length : Int) then (laws_pwTexts.l0 k l0 l1 0) else (some false)
theorem laws_pwTexts.mono_l : ∀ k, (∀ y0 y1 y2, LeO (laws_pwTexts.l0 k y0 y1 y2) (laws_pwTexts.l0 (k + 1) y0 y1 y2))
  | 0 => fun _ _ _ r h => by simp [laws_pwTexts.l0] at h
  | k + 1 => by
    have ih0 := laws_pwTexts.mono_l k
    · intro y0 y1 y2
      unfold laws_pwTexts.l0
      repeat' first
      | (with_reducible exact ih0 _ _ _)
      | (with_reducible exact LeO.refl _)
      | (with_reducible exact LeO.none _)
      | (with_reducible refine LeO.ite ?_ ?_)
      | (with_reducible refine LeO.bind ?_ (fun _ => ?_))
      | exact ih0 _ _ _
      | exact LeO.none _
      | refine LeO.ite ?_ ?_
      | refine LeO.bind ?_ (fun _ => ?_)
theorem laws_pwTexts.mono : ∀ a0 a1 k, LeO (laws_pwTexts.f k a0 a1) (laws_pwTexts.f (k + 1) a0 a1) := by
  intro a0 a1 k
  have ih0 := laws_pwTexts.mono_l k
  unfold laws_pwTexts.f
  repeat' first
      | (with_reducible exact ih0 _ _ _)
      | (with_reducible exact LeO.refl _)
      | (with_reducible exact LeO.none _)
      | (with_reducible refine LeO.ite ?_ ?_)
      | (with_reducible refine LeO.bind ?_ (fun _ => ?_))
      | exact ih0 _ _ _
      | exact LeO.none _
      | refine LeO.ite ?_ ?_
      | refine LeO.bind ?_ (fun _ => ?_)
set_option maxHeartbeats 8000000 in
set_option maxRecDepth 100000 in
theorem laws_pwTexts.calls (k : Nat) (A0 : Option Addr) (c0 : Nat) (l0 : List ByteArray) (A1 : Option Addr) (c1 : Nat) (l1 : List ByteArray) (r : Bool) (w : World) (hr0 : Kd.C Kd.string w A0 l0.length l0) (hc0 : l0.length ≤ c0) (hr1 : Kd.C Kd.string w A1 l1.length l1) (hc1 : l1.length ≤ c1) (h : laws_pwTexts.f k l0 l1 = some r) :
    Calls Tryd.prog 6 #[.slice A0 l0.length c0, .slice A1 l1.length c1] w fun e w' => e = .returned (.bool r) ∧ Drawn0 w w' := by
  have HR0 := Aside0.mk hr0
  have HC0 := Aside0.mk hc0
  clear hr0 hc0
  have HR1 := Aside0.mk hr1
  have HC1 := Aside0.mk hc1
  clear hr1 hc1
  have H : (if (l0.length : Int) = (l1.length : Int) then (laws_pwTexts.l0 k l0 l1 0) else (some false)) = some r := h
  clear h
  by_cases c3 : (l0.length : Int) = (l1.length : Int)
  · rw [if_pos c3] at H
    have c3b0 : ((l0.length : Int) == (l1.length : Int)) = true := beq_iff_eq.mpr c3
    have c3b1 : ((l0.length : Int) != (l1.length : Int)) = false := bne_eq_false_iff_eq.mpr c3
    have c3b2 : (l0.length == l1.length) = true := by first | simpa using c3 | (simp at c3 ⊢; omega)
    clear c3
    have H' := Aside0.mk H
    clear H
    go_enter Tryd.func6, Tryd.ntmps6
    go_wp2
    repeat (go_quiet (fail); try go_wp2)
    go_loopg [5] k (fun kq v5 w' => ∃ (x5_1 : Int), v5 = .int .i64 x5_1 ∧ Aside0 (laws_pwTexts.l0 kq l0 l1 x5_1 = some r) ∧ Aside0 (kq ≤ k) ∧ Drawn0 w w')
    case atStart => exact ⟨(0), (by first | rfl | (simp; done) | (simp [*]; done)), H', ⟨Nat.le_refl _⟩, by repeat (first | exact Drawn0.refl _ | apply Drawn0.step)⟩
    case round =>
      clear H'
      try clear c1
      try clear p2
      try clear c3
      try clear c3b0
      try clear c3b1
      try clear c3b2
      obtain ⟨x5_1, rfl, HA, HK1, ⟨m1, rfl⟩⟩ := hrel
      cases gk with
      | zero => exact absurd HA.out (by simp [laws_pwTexts.l0])
      | succ k1 =>
        have H := HA.out
        clear HA
        simp only [laws_pwTexts.l0] at H
        by_cases c4 : x5_1 < (l0.length : Int)
        · rw [if_pos c4] at H
          have c4b0 : decide (x5_1 < (l0.length : Int)) = true := decide_eq_true c4
          clear c4
          by_cases c5 : 0 ≤ x5_1
          · rw [if_pos c5] at H
            have c5b0 : decide (0 ≤ x5_1) = true := decide_eq_true c5
            clear c5
            by_cases c6 : x5_1 < (l1.length : Int)
            · rw [if_pos c6] at H
              have c6b0 : decide (x5_1 < (l1.length : Int)) = true := decide_eq_true c6
              clear c6
              by_cases c7 : (rdOf ByteArray.empty l0 x5_1).toList = (rdOf ByteArray.empty l1 x5_1).toList
              · rw [if_pos c7] at H
                have c7b0 : ((rdOf ByteArray.empty l0 x5_1).toList == (rdOf ByteArray.empty l1 x5_1).toList) = true := beq_iff_eq.mpr c7
                have c7b1 : ((rdOf ByteArray.empty l0 x5_1).toList != (rdOf ByteArray.empty l1 x5_1).toList) = false := bne_eq_false_iff_eq.mpr c7
                clear c7
                have H' := Aside0.mk H
                clear H
                have p332 : 0 ≤ (x5_1 : Int) := of_decide_eq_true (by first | (with_reducible assumption) | assumption)
                have q332 : x5_1 < (l0.length : Int) := of_decide_eq_true (by first | (with_reducible assumption) | assumption)
                obtain ⟨ad332, e332, hx332_0⟩ := Kd.at_string HR0.out x5_1 p332 q332
                cases e332
                replace p332 := eq_true p332
                replace q332 := eq_true q332
                have p333 : 0 ≤ (x5_1 : Int) := of_decide_eq_true (by first | (with_reducible assumption) | assumption)
                have q333 : x5_1 < (l1.length : Int) := of_decide_eq_true (by first | (with_reducible assumption) | assumption)
                obtain ⟨ad333, e333, hx333_0⟩ := Kd.at_string HR1.out x5_1 p333 q333
                cases e333
                replace p333 := eq_true p333
                replace q333 := eq_true q333
                go_wp2
                repeat (go_quiet (fail); try go_wp2)
                go_roundg k1
                case measure => have := HK1.out; omega
                case rel => exact ⟨(wrap64 (x5_1 + 1)), (by first | rfl | (simp; done) | (simp [*]; done)), H', ⟨by have := HK1.out; omega⟩, by repeat (first | exact Drawn0.refl _ | apply Drawn0.step)⟩
              · rw [if_neg c7] at H
                have c7b0 : ((rdOf ByteArray.empty l0 x5_1).toList == (rdOf ByteArray.empty l1 x5_1).toList) = false := beq_eq_false_iff_ne.mpr c7
                have c7b1 : ((rdOf ByteArray.empty l0 x5_1).toList != (rdOf ByteArray.empty l1 x5_1).toList) = true := bne_iff_ne.mpr c7
                obtain rfl := Option.some.inj H
                have p332 : 0 ≤ (x5_1 : Int) := of_decide_eq_true (by first | (with_reducible assumption) | assumption)
                have q332 : x5_1 < (l0.length : Int) := of_decide_eq_true (by first | (with_reducible assumption) | assumption)
                obtain ⟨ad332, e332, hx332_0⟩ := Kd.at_string HR0.out x5_1 p332 q332
                cases e332
                replace p332 := eq_true p332
                replace q332 := eq_true q332
                have p333 : 0 ≤ (x5_1 : Int) := of_decide_eq_true (by first | (with_reducible assumption) | assumption)
                have q333 : x5_1 < (l1.length : Int) := of_decide_eq_true (by first | (with_reducible assumption) | assumption)
                obtain ⟨ad333, e333, hx333_0⟩ := Kd.at_string HR1.out x5_1 p333 q333
                cases e333
                replace p333 := eq_true p333
                replace q333 := eq_true q333
                go_wp2
                repeat (go_quiet (fail); try go_wp2)
                go_ret
                exact ⟨by first | rfl | (simp [IntKind.wrap_i64, wrap64]; done) | (simp; done) | (simp [*]; done), by repeat (first | exact Drawn0.refl _ | apply Drawn0.step)⟩
            · rw [if_neg c6] at H
              exact absurd H (by simp)
          · rw [if_neg c5] at H
            exact absurd H (by simp)
        · rw [if_neg c4] at H
          have c4b0 : decide (x5_1 < (l0.length : Int)) = false := decide_eq_false c4
          clear c4
          obtain rfl := Option.some.inj H
          go_wp2
          repeat (go_quiet (fail); try go_wp2)
          go_ret
          exact ⟨by first | rfl | (simp [IntKind.wrap_i64, wrap64]; done) | (simp; done) | (simp [*]; done), by repeat (first | exact Drawn0.refl _ | apply Drawn0.step)⟩
  · rw [if_neg c3] at H
    have c3b0 : ((l0.length : Int) == (l1.length : Int)) = false := beq_eq_false_iff_ne.mpr c3
    have c3b1 : ((l0.length : Int) != (l1.length : Int)) = true := bne_iff_ne.mpr c3
    have c3b2 : (l0.length == l1.length) = false := by first | simpa using c3 | (simp at c3 ⊢; omega)
    obtain rfl := Option.some.inj H
    go_enter Tryd.func6, Tryd.ntmps6
    go_wp2
    repeat (go_quiet (fail); try go_wp2)
    go_ret
    exact ⟨by first | rfl | (simp [IntKind.wrap_i64, wrap64]; done) | (simp; done) | (simp [*]; done), by repeat (first | exact Drawn0.refl _ | apply Drawn0.step)⟩

/-! ### spec_l1Among: function 41 -/
def spec_l1Among.j0 : Nat → Int → Int → Int → Bool → Option (Bool)
  | 0, _, _, _, _ => none
  | k + 1, x0, x1, x2, x13 => if x13 = true then (some false) else (if x1 < 0 then (if x0 ≥ 0 then (some (decide (x0 < (wrap64 (x2 + x1))))) else (some (decide ((wrap64 (x0 - x1)) < x2)))) else (some (decide ((wrap64 (x0 - x1)) < x2))))
def spec_l1Among.f (k : Nat) (a0 : Int) (a1 : Int) (a2 : Int) : Option (Bool) := if a0 < a1 then (spec_l1Among.j0 k a0 a1 a2 true) else (spec_l1Among.j0 k a0 a1 a2 (decide (a2 ≤ 0)))
theorem spec_l1Among.mono_l : ∀ k, (∀ y0 y1 y2 y3, LeO (spec_l1Among.j0 k y0 y1 y2 y3) (spec_l1Among.j0 (k + 1) y0 y1 y2 y3))
  | 0 => fun _ _ _ _ r h => by simp [spec_l1Among.j0] at h
  | k + 1 => by
    have ih0 := spec_l1Among.mono_l k
    · intro y0 y1 y2 y3
      unfold spec_l1Among.j0
      repeat' first
      | (with_reducible exact ih0 _ _ _ _)
      | (with_reducible exact LeO.refl _)
      | (with_reducible exact LeO.none _)
      | (with_reducible refine LeO.ite ?_ ?_)
      | (with_reducible refine LeO.bind ?_ (fun _ => ?_))
      | exact ih0 _ _ _ _
      | exact LeO.none _
      | refine LeO.ite ?_ ?_
      | refine LeO.bind ?_ (fun _ => ?_)
theorem spec_l1Among.mono : ∀ a0 a1 a2 k, LeO (spec_l1Among.f k a0 a1 a2) (spec_l1Among.f (k + 1) a0 a1 a2) := by
  intro a0 a1 a2 k
  have ih0 := spec_l1Among.mono_l k
  unfold spec_l1Among.f
  repeat' first
      | (with_reducible exact ih0 _ _ _ _)
      | (with_reducible exact LeO.refl _)
      | (with_reducible exact LeO.none _)
      | (with_reducible refine LeO.ite ?_ ?_)
      | (with_reducible refine LeO.bind ?_ (fun _ => ?_))
      | exact ih0 _ _ _ _
      | exact LeO.none _
      | refine LeO.ite ?_ ?_
      | refine LeO.bind ?_ (fun _ => ?_)
set_option maxHeartbeats 8000000 in
set_option maxRecDepth 100000 in
theorem spec_l1Among.calls (k : Nat) (a0 : Int) (a1 : Int) (a2 : Int) (r : Bool) (w : World) (h : spec_l1Among.f k a0 a1 a2 = some r) :
    Calls Tryd.prog 41 #[.int .i64 a0, .int .i64 a1, .int .i64 a2] w fun e w' => e = .returned (.bool r) ∧ Drawn0 w w' := by
  have H : (if a0 < a1 then (spec_l1Among.j0 k a0 a1 a2 true) else (spec_l1Among.j0 k a0 a1 a2 (decide (a2 ≤ 0)))) = some r := h
  clear h
  have HC4 := Aside0.mk H
  clear H
  go_enter Tryd.func41, Tryd.ntmps41
  go_upto_region 1 with (fail)
  go_cut [13] (fun v13 wc => ∃ (kq : Nat) (x13_3 : Bool), v13 = .bool x13_3 ∧ Aside0 (spec_l1Among.j0 kq a0 a1 a2 x13_3 = some r) ∧ Aside0 (kq ≤ k) ∧ Drawn0 w wc)
  case first =>
    have H := HC4.out
    clear HC4
    by_cases c5 : a0 < a1
    · rw [if_pos c5] at H
      have c5b0 : decide (a0 < a1) = true := decide_eq_true c5
      clear c5
      (first | rw [c5b0] | (simp only [i64_w, i32_w]; rw [c5b0]) | skip)
      have H' := Aside0.mk H
      clear H
      go_wp2
      go_meet
      case rel => exact ⟨_, (true), (by first | rfl | (simp; done) | (simp [*]; done)), H', ⟨by first | omega | exact Nat.le_refl _⟩, by repeat (first | exact Drawn0.refl _ | apply Drawn0.step)⟩
    · rw [if_neg c5] at H
      have c5b0 : decide (a0 < a1) = false := decide_eq_false c5
      clear c5
      (first | rw [c5b0] | (simp only [i64_w, i32_w]; rw [c5b0]) | skip)
      have H' := Aside0.mk H
      clear H
      go_wp2
      go_meet
      case rel => exact ⟨_, (decide (a2 ≤ 0)), (by first | rfl | (simp; done) | (simp [*]; done)), H', ⟨by first | omega | exact Nat.le_refl _⟩, by repeat (first | exact Drawn0.refl _ | apply Drawn0.step)⟩
  case rest =>
    clear HC4
    try clear p2
    try clear c4
    try clear c5
    try clear c5b0
    obtain ⟨kq, x13_3, rfl, HA, HJ3, ⟨mc3, rfl⟩⟩ := hcut
    cases kq with
    | zero => exact absurd HA.out (by simp [spec_l1Among.j0])
    | succ kj3 =>
      have H := HA.out
      clear HA
      simp only [spec_l1Among.j0] at H
      by_cases c6 : x13_3 = true
      · subst c6
        have H1 : (some false) = some r := by rw [if_pos rfl] at H; exact H
        clear H
        have H := H1
        clear H1
        obtain rfl := Option.some.inj H
        go_wp2
        go_ret
        exact ⟨by first | rfl | (simp [IntKind.wrap_i64, wrap64]; done) | (simp; done) | (simp [*]; done), by repeat (first | exact Drawn0.refl _ | apply Drawn0.step)⟩
      · replace c6 := Bool.eq_false_iff.mpr c6
        subst c6
        have H1 : (if a1 < 0 then (if a0 ≥ 0 then (some (decide (a0 < (wrap64 (a2 + a1))))) else (some (decide ((wrap64 (a0 - a1)) < a2)))) else (some (decide ((wrap64 (a0 - a1)) < a2)))) = some r := by rw [if_neg (show ¬ (false = true) by decide)] at H; exact H
        clear H
        have H := H1
        clear H1
        by_cases c7 : a1 < 0
        · rw [if_pos c7] at H
          have c7b0 : decide (a1 < 0) = true := decide_eq_true c7
          clear c7
          by_cases c8 : a0 ≥ 0
          · rw [if_pos c8] at H
            have c8b0 : decide (0 ≤ a0) = true := decide_eq_true c8
            clear c8
            obtain rfl := Option.some.inj H
            go_wp2
            go_ret
            exact ⟨by first | rfl | (simp [IntKind.wrap_i64, wrap64]; done) | (simp; done) | (simp [*]; done), by repeat (first | exact Drawn0.refl _ | apply Drawn0.step)⟩
          · rw [if_neg c8] at H
            have c8b0 : decide (0 ≤ a0) = false := decide_eq_false c8
            clear c8
            obtain rfl := Option.some.inj H
            go_wp2
            go_ret
            exact ⟨by first | rfl | (simp [IntKind.wrap_i64, wrap64]; done) | (simp; done) | (simp [*]; done), by repeat (first | exact Drawn0.refl _ | apply Drawn0.step)⟩
        · rw [if_neg c7] at H
          have c7b0 : decide (a1 < 0) = false := decide_eq_false c7
          clear c7
          obtain rfl := Option.some.inj H
          go_wp2
          go_ret
          exact ⟨by first | rfl | (simp [IntKind.wrap_i64, wrap64]; done) | (simp; done) | (simp [*]; done), by repeat (first | exact Drawn0.refl _ | apply Drawn0.step)⟩

/-! ### spec_l3Holds: function 31 -/
def spec_l3Holds.f (k : Nat) (a0_0 : Int) (a0_1 : Int) (a0_2 : Int) (a0_3 : Int) (a0_4 : Int) (a1 : Int) (a2 : Int) : Option (Bool) := (spec_l1Among.f k a1 a0_0 a0_2).bind fun t335 => (if t335 = true then ((spec_l1Among.f k a2 a0_1 a0_3).bind fun t336 => (some t336)) else (some false))
theorem spec_l3Holds.mono : ∀ a0 a1 a2 a3 a4 a5 a6 k, LeO (spec_l3Holds.f k a0 a1 a2 a3 a4 a5 a6) (spec_l3Holds.f (k + 1) a0 a1 a2 a3 a4 a5 a6) := by
  intro a0 a1 a2 a3 a4 a5 a6 k
  unfold spec_l3Holds.f
  repeat' first
      | (with_reducible exact spec_l1Among.mono _ _ _ _)
      | (with_reducible exact LeO.refl _)
      | (with_reducible exact LeO.none _)
      | (with_reducible refine LeO.ite ?_ ?_)
      | (with_reducible refine LeO.bind ?_ (fun _ => ?_))
      | exact spec_l1Among.mono _ _ _ _
      | exact LeO.none _
      | refine LeO.ite ?_ ?_
      | refine LeO.bind ?_ (fun _ => ?_)
set_option maxHeartbeats 8000000 in
set_option maxRecDepth 100000 in
theorem spec_l3Holds.calls (k : Nat) (a0_0 : Int) (a0_1 : Int) (a0_2 : Int) (a0_3 : Int) (a0_4 : Int) (a1 : Int) (a2 : Int) (r : Bool) (w : World) (h : spec_l3Holds.f k a0_0 a0_1 a0_2 a0_3 a0_4 a1 a2 = some r) :
    Calls Tryd.prog 31 #[.agg #[.int .i64 a0_0, .int .i64 a0_1, .int .i64 a0_2, .int .i64 a0_3, .int .i64 a0_4], .int .i64 a1, .int .i64 a2] w fun e w' => e = .returned (.bool r) ∧ Below w.heap.size w w' := by
  have hu41 := Tryd.underlying41
  have HB := Aside0.mk (Below.refl w.heap.size w)
  have H : ((spec_l1Among.f k a1 a0_0 a0_2).bind fun t335 => (if t335 = true then ((spec_l1Among.f k a2 a0_1 a0_3).bind fun t336 => (some t336)) else (some false))) = some r := h
  clear h
  replace H := Option.bind_eq_some_iff.mp H
  obtain ⟨t335, A40, H⟩ := H
  replace H : (if t335 = true then ((spec_l1Among.f k a2 a0_1 a0_3).bind fun t336 => (some t336)) else (some false)) = some r := H
  have A4 := Aside0.mk A40
  clear A40
  by_cases c5 : t335 = true
  · subst c5
    have H1 : ((spec_l1Among.f k a2 a0_1 a0_3).bind fun t336 => (some t336)) = some r := by rw [if_pos rfl] at H; exact H
    clear H
    have H := H1
    clear H1
    replace H := Option.bind_eq_some_iff.mp H
    obtain ⟨t336, A60, H⟩ := H
    replace H : (some t336) = some r := H
    have A6 := Aside0.mk A60
    clear A60
    obtain rfl := Option.some.inj H
    go_enter Tryd.func31, Tryd.ntmps31
    go_wp2_with (first | ((with_reducible refine gate_dst (N := 3) rfl ?_); refine box_event ?hg (N := 3) ?hd (cs := #[.int .i64 a0_0, .int .i64 a0_1, .int .i64 a0_2, .int .i64 a0_3, .int .i64 a0_4]) (t := 41) ?hr ?_; (case hd => rfl); (case hg => rfl); (case hr => first | (go_simp; done) | (go_simp; rfl)); intro gb334 hg w7 hbox hb; have n0_ := Aside0.mk (below_step (by repeat (first | (with_reducible first | exact HB.out | apply below_alloc | apply pw_below_drewN | apply below_drew1) | exact HB.out)) hb); have n1_ := Aside0.mk (hbox); have n2_ := Aside0.mk ((by rw [hg]; exact (below_size (by repeat (first | (with_reducible first | exact HB.out | apply below_alloc | apply pw_below_drewN | apply below_drew1) | exact HB.out))) : w.heap.size ≤ gb334)); have n3_ := Aside0.mk ((by rw [hg]; exact (below_size (by repeat (first | (with_reducible first | exact HB.out | apply below_alloc | apply pw_below_drewN | apply below_drew1) | exact HB.out))) : w.heap.size ≤ gb334)); clear HB; have HB := n0_; have BK334 := n1_; have GW334 := n2_; have GE334 := n3_; clear n0_ n1_ n2_ n3_; clear hb hbox hg; have hcz8_0 : w7.cell? ⟨gb334, 0, none⟩ = some (.int .i64 a0_0) := (blk_cell BK334.out 0).trans rfl; have hcz8_1 : w7.cell? ⟨gb334, 1, none⟩ = some (.int .i64 a0_1) := (blk_cell BK334.out 1).trans rfl; have hcz8_2 : w7.cell? ⟨gb334, 2, none⟩ = some (.int .i64 a0_2) := (blk_cell BK334.out 2).trans rfl; have hcz8_3 : w7.cell? ⟨gb334, 3, none⟩ = some (.int .i64 a0_3) := (blk_cell BK334.out 3).trans rfl; have hcz8_4 : w7.cell? ⟨gb334, 4, none⟩ = some (.int .i64 a0_4) := (blk_cell BK334.out 4).trans rfl; have hfz8_0 := blk_frozen BK334.out 0; have hfz8_1 := blk_frozen BK334.out 1; have hfz8_2 := blk_frozen BK334.out 2; have hfz8_3 := blk_frozen BK334.out 3; have hfz8_4 := blk_frozen BK334.out 4) | ((with_reducible refine gate_callee (f := 41) rfl ?_); refine goesL_ (some 12) rfl rfl Tryd.func41 (by kernel_rfl) rfl #[.int .i64 a1, .int .i64 a0_0, .int .i64 a0_2] rfl (by (try simp only [List.map_toArray, List.map_cons, List.map_nil]); first | done | rfl | (simp only [List.length_drop, List.length_take]; rfl)) ?_; (with_reducible refine (spec_l1Among.calls k a1 a0_0 a0_2 true _ A4.out).mono ?_); rintro e w' ⟨rfl, ⟨nd, rfl⟩⟩; refine ⟨_, rfl, ?_⟩) | (go_at_call 41; (with_reducible refine (spec_l1Among.calls k a2 a0_1 a0_3 t336 _ A6.out).mono ?_); rintro e w' ⟨rfl, ⟨nd, rfl⟩⟩))
    go_ret
    exact ⟨by first | rfl | (simp [IntKind.wrap_i64, wrap64]; done) | (simp [errW_none, errW_some] <;> rfl) | (simp [*, errW_none, errW_some] <;> rfl), by repeat (first | (with_reducible first | exact HB.out | apply below_alloc | apply pw_below_drewN | apply below_drew1 | refine below_set ?_ GE334.out) | exact HB.out)⟩
  · replace c5 := Bool.eq_false_iff.mpr c5
    subst c5
    have H1 : (some false) = some r := by rw [if_neg (show ¬ (false = true) by decide)] at H; exact H
    clear H
    have H := H1
    clear H1
    obtain rfl := Option.some.inj H
    go_enter Tryd.func31, Tryd.ntmps31
    go_wp2_with (first | ((with_reducible refine gate_dst (N := 3) rfl ?_); refine box_event ?hg (N := 3) ?hd (cs := #[.int .i64 a0_0, .int .i64 a0_1, .int .i64 a0_2, .int .i64 a0_3, .int .i64 a0_4]) (t := 41) ?hr ?_; (case hd => rfl); (case hg => rfl); (case hr => first | (go_simp; done) | (go_simp; rfl)); intro gb334 hg w9 hbox hb; have n0_ := Aside0.mk (below_step (by repeat (first | (with_reducible first | exact HB.out | apply below_alloc | apply pw_below_drewN | apply below_drew1) | exact HB.out)) hb); have n1_ := Aside0.mk (hbox); have n2_ := Aside0.mk ((by rw [hg]; exact (below_size (by repeat (first | (with_reducible first | exact HB.out | apply below_alloc | apply pw_below_drewN | apply below_drew1) | exact HB.out))) : w.heap.size ≤ gb334)); have n3_ := Aside0.mk ((by rw [hg]; exact (below_size (by repeat (first | (with_reducible first | exact HB.out | apply below_alloc | apply pw_below_drewN | apply below_drew1) | exact HB.out))) : w.heap.size ≤ gb334)); clear HB; have HB := n0_; have BK334 := n1_; have GW334 := n2_; have GE334 := n3_; clear n0_ n1_ n2_ n3_; clear hb hbox hg; have hcz10_0 : w9.cell? ⟨gb334, 0, none⟩ = some (.int .i64 a0_0) := (blk_cell BK334.out 0).trans rfl; have hcz10_1 : w9.cell? ⟨gb334, 1, none⟩ = some (.int .i64 a0_1) := (blk_cell BK334.out 1).trans rfl; have hcz10_2 : w9.cell? ⟨gb334, 2, none⟩ = some (.int .i64 a0_2) := (blk_cell BK334.out 2).trans rfl; have hcz10_3 : w9.cell? ⟨gb334, 3, none⟩ = some (.int .i64 a0_3) := (blk_cell BK334.out 3).trans rfl; have hcz10_4 : w9.cell? ⟨gb334, 4, none⟩ = some (.int .i64 a0_4) := (blk_cell BK334.out 4).trans rfl; have hfz10_0 := blk_frozen BK334.out 0; have hfz10_1 := blk_frozen BK334.out 1; have hfz10_2 := blk_frozen BK334.out 2; have hfz10_3 := blk_frozen BK334.out 3; have hfz10_4 := blk_frozen BK334.out 4) | ((with_reducible refine gate_callee (f := 41) rfl ?_); refine goesL_ (some 12) rfl rfl Tryd.func41 (by kernel_rfl) rfl #[.int .i64 a1, .int .i64 a0_0, .int .i64 a0_2] rfl (by (try simp only [List.map_toArray, List.map_cons, List.map_nil]); first | done | rfl | (simp only [List.length_drop, List.length_take]; rfl)) ?_; (with_reducible refine (spec_l1Among.calls k a1 a0_0 a0_2 false _ A4.out).mono ?_); rintro e w' ⟨rfl, ⟨nd, rfl⟩⟩; refine ⟨_, rfl, ?_⟩))
    go_ret
    exact ⟨by first | rfl | (simp [IntKind.wrap_i64, wrap64]; done) | (simp [errW_none, errW_some] <;> rfl) | (simp [*, errW_none, errW_some] <;> rfl), by repeat (first | (with_reducible first | exact HB.out | apply below_alloc | apply pw_below_drewN | apply below_drew1 | refine below_set ?_ GE334.out) | exact HB.out)⟩

/-! ### spec_GrdAt: function 16 -/
def spec_GrdAt.l0 : Nat → Int → Int → Int → Int → Int → List (S41) → Option (Int)
  | 0, _, _, _, _, _, _ => none
  | k + 1, x1, x2, x7, x338000, x338001, x338002 => if x7 < (x338002.length : Int) then (if 0 ≤ x7 then ((spec_l3Holds.f k ((rd_T41 x338002 x7).f0) ((rd_T41 x338002 x7).f1) ((rd_T41 x338002 x7).f2) ((rd_T41 x338002 x7).f3) ((rd_T41 x338002 x7).f4) x1 x2).bind fun t339 => (if t339 = true then (some x7) else (spec_GrdAt.l0 k x1 x2 (wrap64 (x7 + 1)) x338000 x338001 x338002))) else (none)) else (some (-1))
def spec_GrdAt.f (k : Nat) (a0_0 : Int) (a0_1 : Int) (l0_2 : List (S41)) (a1 : Int) (a2 : Int) : Option (Int) := spec_GrdAt.l0 k a1 a2 0 a0_0 a0_1 l0_2
theorem spec_GrdAt.mono_l : ∀ k, (∀ y0 y1 y2 y3 y4 y5, LeO (spec_GrdAt.l0 k y0 y1 y2 y3 y4 y5) (spec_GrdAt.l0 (k + 1) y0 y1 y2 y3 y4 y5))
  | 0 => fun _ _ _ _ _ _ r h => by simp [spec_GrdAt.l0] at h
  | k + 1 => by
    have ih0 := spec_GrdAt.mono_l k
    · intro y0 y1 y2 y3 y4 y5
      unfold spec_GrdAt.l0
      repeat' first
      | (with_reducible exact ih0 _ _ _ _ _ _)
      | (with_reducible exact spec_l3Holds.mono _ _ _ _ _ _ _ _)
      | (with_reducible exact LeO.refl _)
      | (with_reducible exact LeO.none _)
      | (with_reducible refine LeO.ite ?_ ?_)
      | (with_reducible refine LeO.bind ?_ (fun _ => ?_))
      | exact ih0 _ _ _ _ _ _
      | exact spec_l3Holds.mono _ _ _ _ _ _ _ _
      | exact LeO.none _
      | refine LeO.ite ?_ ?_
      | refine LeO.bind ?_ (fun _ => ?_)
theorem spec_GrdAt.mono : ∀ a0 a1 a2 a3 a4 k, LeO (spec_GrdAt.f k a0 a1 a2 a3 a4) (spec_GrdAt.f (k + 1) a0 a1 a2 a3 a4) := by
  intro a0 a1 a2 a3 a4 k
  have ih0 := spec_GrdAt.mono_l k
  unfold spec_GrdAt.f
  repeat' first
      | (with_reducible exact ih0 _ _ _ _ _ _)
      | (with_reducible exact spec_l3Holds.mono _ _ _ _ _ _ _ _)
      | (with_reducible exact LeO.refl _)
      | (with_reducible exact LeO.none _)
      | (with_reducible refine LeO.ite ?_ ?_)
      | (with_reducible refine LeO.bind ?_ (fun _ => ?_))
      | exact ih0 _ _ _ _ _ _
      | exact spec_l3Holds.mono _ _ _ _ _ _ _ _
      | exact LeO.none _
      | refine LeO.ite ?_ ?_
      | refine LeO.bind ?_ (fun _ => ?_)
set_option maxHeartbeats 8000000 in
set_option maxRecDepth 100000 in
theorem spec_GrdAt.calls (k : Nat) (a0_0 : Int) (a0_1 : Int) (A0_2 : Option Addr) (c0_2 : Nat) (l0_2 : List (S41)) (a1 : Int) (a2 : Int) (r : Int) (w : World) (hr0_2 : Kd.C k41 w A0_2 l0_2.length l0_2) (hc0_2 : l0_2.length ≤ c0_2) (h : spec_GrdAt.f k a0_0 a0_1 l0_2 a1 a2 = some r) :
    Calls Tryd.prog 16 #[.agg #[.int .i64 a0_0, .int .i64 a0_1, .slice A0_2 l0_2.length c0_2], .int .i64 a1, .int .i64 a2] w fun e w' => e = .returned (.int .i64 r) ∧ Below w.heap.size w w' := by
  have hu25 := Tryd.underlying25
  have hu41 := Tryd.underlying41
  have HR0_2 := Aside0.mk hr0_2
  have HC0_2 := Aside0.mk hc0_2
  clear hr0_2 hc0_2
  have HB := Aside0.mk (Below.refl w.heap.size w)
  have H : (spec_GrdAt.l0 k a1 a2 0 a0_0 a0_1 l0_2) = some r := h
  clear h
  have H' := Aside0.mk H
  clear H
  go_enter Tryd.func16, Tryd.ntmps16
  go_wp2_with (first | ((with_reducible refine gate_dst (N := 3) rfl ?_); refine box_event ?hg (N := 3) ?hd (cs := #[.int .i64 a0_0, .int .i64 a0_1, .slice A0_2 l0_2.length c0_2]) (t := 25) ?hr ?_; (case hd => rfl); (case hg => rfl); (case hr => first | (go_simp; done) | (go_simp; rfl)); intro gb337 hg w4 hbox hb; have n0_ := Aside0.mk (below_step (by repeat (first | (with_reducible first | exact HB.out | apply below_alloc | apply pw_below_drewN | apply below_drew1) | exact HB.out)) hb); have n1_ := Aside0.mk (hbox); have n2_ := Aside0.mk ((by rw [hg]; exact (below_size (by repeat (first | (with_reducible first | exact HB.out | apply below_alloc | apply pw_below_drewN | apply below_drew1) | exact HB.out))) : w.heap.size ≤ gb337)); have n3_ := Aside0.mk ((by rw [hg]; exact (below_size (by repeat (first | (with_reducible first | exact HB.out | apply below_alloc | apply pw_below_drewN | apply below_drew1) | exact HB.out))) : w.heap.size ≤ gb337)); clear HB; have HB := n0_; have BK337 := n1_; have GW337 := n2_; have GE337 := n3_; clear n0_ n1_ n2_ n3_; clear hb hbox hg))
  go_loopg [7] k (fun kq v7 w' => ∃ (x7_1 : Int), v7 = .int .i64 x7_1 ∧ Aside0 (spec_GrdAt.l0 kq a1 a2 x7_1 a0_0 a0_1 l0_2 = some r) ∧ Aside0 (kq ≤ k) ∧ Aside0 (w'.heap[gb337]? = some (.cells #[.int .i64 a0_0, .int .i64 a0_1, (.slice A0_2 l0_2.length c0_2)] 25 (0, 0))) ∧ Aside0 (Below w.heap.size w w'))
  case atStart => exact ⟨(0), (by first | rfl | (simp; done) | (simp [*]; done)), H', ⟨Nat.le_refl _⟩, ⟨by (with_reducible repeat (first | refine blk_drewN ?_ _ | refine blk_drew ?_ | refine blk_alloc ?_ _)); exact BK337.out⟩, ⟨by repeat (first | (with_reducible first | exact HB.out | apply below_alloc | apply pw_below_drewN | apply below_drew1 | refine below_set ?_ GE337.out) | exact HB.out)⟩⟩
  case round =>
    clear H'
    try clear c1
    try clear p2
    obtain ⟨x7_1, rfl, HA, HK1, BK337, HB⟩ := hrel
    cases gk with
    | zero => exact absurd HA.out (by simp [spec_GrdAt.l0])
    | succ k1 =>
      have H := HA.out
      clear HA
      simp only [spec_GrdAt.l0] at H
      by_cases c5 : x7_1 < (l0_2.length : Int)
      · rw [if_pos c5] at H
        have c5b0 : decide (x7_1 < (l0_2.length : Int)) = true := decide_eq_true c5
        clear c5
        by_cases c6 : 0 ≤ x7_1
        · rw [if_pos c6] at H
          have c6b0 : decide (0 ≤ x7_1) = true := decide_eq_true c6
          clear c6
          replace H := Option.bind_eq_some_iff.mp H
          obtain ⟨t339, A70, H⟩ := H
          replace H : (if t339 = true then (some x7_1) else (spec_GrdAt.l0 k1 a1 a2 (wrap64 (x7_1 + 1)) a0_0 a0_1 l0_2)) = some r := H
          have A7 := Aside0.mk A70
          clear A70
          by_cases c8 : t339 = true
          · subst c8
            have H1 : (some x7_1) = some r := by rw [if_pos rfl] at H; exact H
            clear H
            have H := H1
            clear H1
            obtain rfl := Option.some.inj H
            have hcz9_0 : wr.cell? ⟨gb337, 0, none⟩ = some (.int .i64 a0_0) := (blk_cell BK337.out 0).trans rfl
            have hcz9_1 : wr.cell? ⟨gb337, 1, none⟩ = some (.int .i64 a0_1) := (blk_cell BK337.out 1).trans rfl
            have hcz9_2 : wr.cell? ⟨gb337, 2, none⟩ = some (.slice A0_2 l0_2.length c0_2) := (blk_cell BK337.out 2).trans rfl
            have hfz9_0 := blk_frozen BK337.out 0
            have hfz9_1 := blk_frozen BK337.out 1
            have hfz9_2 := blk_frozen BK337.out 2
            have p338 : 0 ≤ (x7_1 : Int) := of_decide_eq_true (by first | (with_reducible assumption) | assumption)
            have q338 : x7_1 < (l0_2.length : Int) := of_decide_eq_true (by first | (with_reducible assumption) | assumption)
            obtain ⟨ad338, e338, hx338_0, hx338_1, hx338_2, hx338_3, hx338_4⟩ := at_T41 HR0_2.out x7_1 p338 q338
            cases e338
            replace hx338_0 := (HB.out.cell (World.block_lt_of_cell? w _ hx338_0)).trans hx338_0
            replace hx338_1 := (HB.out.cell (World.block_lt_of_cell? w _ hx338_1)).trans hx338_1
            replace hx338_2 := (HB.out.cell (World.block_lt_of_cell? w _ hx338_2)).trans hx338_2
            replace hx338_3 := (HB.out.cell (World.block_lt_of_cell? w _ hx338_3)).trans hx338_3
            replace hx338_4 := (HB.out.cell (World.block_lt_of_cell? w _ hx338_4)).trans hx338_4
            replace p338 := eq_true p338
            replace q338 := eq_true q338
            go_wp2_with (first | ((with_reducible refine gate_callee (f := 31) rfl ?_); refine goesL_ (some 22) rfl rfl Tryd.func31 (by kernel_rfl) rfl #[.agg #[.int .i64 ((rd_T41 l0_2 x7_1).f0), .int .i64 ((rd_T41 l0_2 x7_1).f1), .int .i64 ((rd_T41 l0_2 x7_1).f2), .int .i64 ((rd_T41 l0_2 x7_1).f3), .int .i64 ((rd_T41 l0_2 x7_1).f4)], .int .i64 a1, .int .i64 a2] rfl (by (try simp only [List.map_toArray, List.map_cons, List.map_nil]); first | done | rfl | (simp only [List.length_drop, List.length_take]; rfl)) ?_; (with_reducible refine (spec_l3Holds.calls k1 ((rd_T41 l0_2 x7_1).f0) ((rd_T41 l0_2 x7_1).f1) ((rd_T41 l0_2 x7_1).f2) ((rd_T41 l0_2 x7_1).f3) ((rd_T41 l0_2 x7_1).f4) a1 a2 true _ A7.out).mono ?_); rintro e w10 ⟨rfl, hb⟩; refine ⟨_, rfl, ?_⟩; have n0_ := Aside0.mk (blk_below (g := gb337) (o := .cells #[.int .i64 a0_0, .int .i64 a0_1, .slice (some ad338) l0_2.length c0_2] 25 (0, 0)) (by (with_reducible repeat (first | refine blk_drewN ?_ _ | refine blk_drew ?_ | refine blk_alloc ?_ _)); exact BK337.out) hb); have n1_ := Aside0.mk (below_step (by repeat (first | (with_reducible first | exact HB.out | apply below_alloc | apply pw_below_drewN | apply below_drew1 | refine below_set ?_ GE337.out) | exact HB.out)) hb); clear BK337; clear HB; have BK337 := n0_; have HB := n1_; clear n0_ n1_; (try clear hb); (try clear hb2); (try clear hk); (try clear hi)))
            go_ret
            exact ⟨by first | rfl | (simp [IntKind.wrap_i64, wrap64]; done) | (simp [errW_none, errW_some] <;> rfl) | (simp [*, errW_none, errW_some] <;> rfl), by repeat (first | (with_reducible first | exact HB.out | apply below_alloc | apply pw_below_drewN | apply below_drew1 | refine below_set ?_ GE337.out) | exact HB.out)⟩
          · replace c8 := Bool.eq_false_iff.mpr c8
            subst c8
            have H1 : (spec_GrdAt.l0 k1 a1 a2 (wrap64 (x7_1 + 1)) a0_0 a0_1 l0_2) = some r := by rw [if_neg (show ¬ (false = true) by decide)] at H; exact H
            clear H
            have H := H1
            clear H1
            have H' := Aside0.mk H
            clear H
            have hcz11_0 : wr.cell? ⟨gb337, 0, none⟩ = some (.int .i64 a0_0) := (blk_cell BK337.out 0).trans rfl
            have hcz11_1 : wr.cell? ⟨gb337, 1, none⟩ = some (.int .i64 a0_1) := (blk_cell BK337.out 1).trans rfl
            have hcz11_2 : wr.cell? ⟨gb337, 2, none⟩ = some (.slice A0_2 l0_2.length c0_2) := (blk_cell BK337.out 2).trans rfl
            have hfz11_0 := blk_frozen BK337.out 0
            have hfz11_1 := blk_frozen BK337.out 1
            have hfz11_2 := blk_frozen BK337.out 2
            have p338 : 0 ≤ (x7_1 : Int) := of_decide_eq_true (by first | (with_reducible assumption) | assumption)
            have q338 : x7_1 < (l0_2.length : Int) := of_decide_eq_true (by first | (with_reducible assumption) | assumption)
            obtain ⟨ad338, e338, hx338_0, hx338_1, hx338_2, hx338_3, hx338_4⟩ := at_T41 HR0_2.out x7_1 p338 q338
            cases e338
            replace hx338_0 := (HB.out.cell (World.block_lt_of_cell? w _ hx338_0)).trans hx338_0
            replace hx338_1 := (HB.out.cell (World.block_lt_of_cell? w _ hx338_1)).trans hx338_1
            replace hx338_2 := (HB.out.cell (World.block_lt_of_cell? w _ hx338_2)).trans hx338_2
            replace hx338_3 := (HB.out.cell (World.block_lt_of_cell? w _ hx338_3)).trans hx338_3
            replace hx338_4 := (HB.out.cell (World.block_lt_of_cell? w _ hx338_4)).trans hx338_4
            replace p338 := eq_true p338
            replace q338 := eq_true q338
            go_wp2_with (first | ((with_reducible refine gate_callee (f := 31) rfl ?_); refine goesL_ (some 22) rfl rfl Tryd.func31 (by kernel_rfl) rfl #[.agg #[.int .i64 ((rd_T41 l0_2 x7_1).f0), .int .i64 ((rd_T41 l0_2 x7_1).f1), .int .i64 ((rd_T41 l0_2 x7_1).f2), .int .i64 ((rd_T41 l0_2 x7_1).f3), .int .i64 ((rd_T41 l0_2 x7_1).f4)], .int .i64 a1, .int .i64 a2] rfl (by (try simp only [List.map_toArray, List.map_cons, List.map_nil]); first | done | rfl | (simp only [List.length_drop, List.length_take]; rfl)) ?_; (with_reducible refine (spec_l3Holds.calls k1 ((rd_T41 l0_2 x7_1).f0) ((rd_T41 l0_2 x7_1).f1) ((rd_T41 l0_2 x7_1).f2) ((rd_T41 l0_2 x7_1).f3) ((rd_T41 l0_2 x7_1).f4) a1 a2 false _ A7.out).mono ?_); rintro e w12 ⟨rfl, hb⟩; refine ⟨_, rfl, ?_⟩; have n0_ := Aside0.mk (blk_below (g := gb337) (o := .cells #[.int .i64 a0_0, .int .i64 a0_1, .slice (some ad338) l0_2.length c0_2] 25 (0, 0)) (by (with_reducible repeat (first | refine blk_drewN ?_ _ | refine blk_drew ?_ | refine blk_alloc ?_ _)); exact BK337.out) hb); have n1_ := Aside0.mk (below_step (by repeat (first | (with_reducible first | exact HB.out | apply below_alloc | apply pw_below_drewN | apply below_drew1 | refine below_set ?_ GE337.out) | exact HB.out)) hb); clear BK337; clear HB; have BK337 := n0_; have HB := n1_; clear n0_ n1_; (try clear hb); (try clear hb2); (try clear hk); (try clear hi)))
            go_roundg k1
            case measure => have := HK1.out; omega
            case rel => exact ⟨(wrap64 (x7_1 + 1)), (by first | rfl | (simp; done) | (simp [*]; done)), H', ⟨by have := HK1.out; omega⟩, ⟨by (with_reducible repeat (first | refine blk_drewN ?_ _ | refine blk_drew ?_ | refine blk_alloc ?_ _)); exact BK337.out⟩, ⟨by repeat (first | (with_reducible first | exact HB.out | apply below_alloc | apply pw_below_drewN | apply below_drew1 | refine below_set ?_ GE337.out) | exact HB.out)⟩⟩
        · rw [if_neg c6] at H
          exact absurd H (by simp)
      · rw [if_neg c5] at H
        have c5b0 : decide (x7_1 < (l0_2.length : Int)) = false := decide_eq_false c5
        clear c5
        obtain rfl := Option.some.inj H
        have hcz13_0 : wr.cell? ⟨gb337, 0, none⟩ = some (.int .i64 a0_0) := (blk_cell BK337.out 0).trans rfl
        have hcz13_1 : wr.cell? ⟨gb337, 1, none⟩ = some (.int .i64 a0_1) := (blk_cell BK337.out 1).trans rfl
        have hcz13_2 : wr.cell? ⟨gb337, 2, none⟩ = some (.slice A0_2 l0_2.length c0_2) := (blk_cell BK337.out 2).trans rfl
        have hfz13_0 := blk_frozen BK337.out 0
        have hfz13_1 := blk_frozen BK337.out 1
        have hfz13_2 := blk_frozen BK337.out 2
        go_wp2
        go_ret
        exact ⟨by first | rfl | (simp [IntKind.wrap_i64, wrap64]; done) | (simp [errW_none, errW_some] <;> rfl) | (simp [*, errW_none, errW_some] <;> rfl), by repeat (first | (with_reducible first | exact HB.out | apply below_alloc | apply pw_below_drewN | apply below_drew1 | refine below_set ?_ GE337.out) | exact HB.out)⟩


end Go.Proofs.YtalnklnfiopaoadDoor.Q
