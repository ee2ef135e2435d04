-- Told by a program of this session (uprint.py, ulay.py).
import Derived.Test.YtaihfkjfbjcmhabDoorQ0
import Derived.Test.YtaihfkjfbjcmhabDoorQimplin
import Derived.Test.YtaihfkjfbjcmhabDoorQspecl20AnyTable
import Derived.Deep.RegionLaw
import Derived.Laws.Externs
import Derived.Laws.NewBlocks
import Derived.Lib.AppendZerosOnto
import Derived.Lib.Overlaps
namespace Go.Proofs.YtaihfkjfbjcmhabDoor.Q
open Go.RowKit Go.Proofs.YtaihfkjfbjcmhabDoorW.PrintWords Go.Proofs.YtaihfkjfbjcmhabDoorW.PrintLast Go.Proofs.YtaihfkjfbjcmhabDoorW.PrintMore
attribute [local go_sem] max2_int min2_int max_two min_two max_three min_three max_four min_four
set_option linter.unusedVariables false
set_option linter.unusedSimpArgs false

-- imports: Derived.Lib.Overlaps Derived.Lib.AppendZerosOnto Derived.Laws.Externs Derived.Deep.RegionLaw Derived.Laws.NewBlocks
set_option maxHeartbeats 4000000 in
set_option maxRecDepth 100000 in
/-- slices.Insert of one element, the row as cells. -/
theorem ins_cell (w : World) (base : Nat) (v : Value) (rows : List (List Value)) (x : List Value) (vb i : Nat) (hR : (Kd.raw 11).R 30 w base (fun _ => True) v rows) (hi : i ≤ rows.length) (hx : w.heap[vb]? = some (.cells x.toArray 30 (0, 0))) (hxl : x.length = 11) (hx1 : ∀ u ∈ x, u.oneCell' = true) (hvb : some vb ≠ v.ownBlock) (hbase : base ≤ w.heap.size) (hbig : rows.length < 1000000) :
    Calls Tryd.prog 21 #[v, .int .i64 i, .slice (some ⟨vb, 0, none⟩) 1 1] w fun e_ w' => ∃ v', e_ = .returned v' ∧ (Kd.raw 11).R 30 w' base (fun _ => True) v' (rows.take i ++ x :: rows.drop i) ∧ w.grownBy w' v.ownBlock ∧ (v'.ownBlock = v.ownBlock ∨ ∃ b, v'.ownBlock = some b ∧ w.heap.size ≤ b) := by
  have hu := Tryd.underlying40
  have hsz : (Tryd.prog.info? 30).map (·.size) = some 11 := by kernel_rfl
  obtain ⟨A, c, rfl⟩ := Kd.R_slice hR
  have hxc : ∀ j u, x[j]? = some u → w.cell? ⟨vb, j, none⟩ = some u := fun j u hj => by rw [blk_cell hx j]; simpa using hj
  by_cases hin : i = rows.length
  · subst hin
    have hXC : ReadsRow ((Kd.raw 11).K w) 11 w (some ⟨vb, 0, none⟩) 1 [x] := ⟨rfl, by decide, fun _ => ⟨_, rfl, fun j p hj => by
      cases j with
      | succ j => simp at hj
      | zero =>
        simp only [List.getElem?_cons_zero, Option.some.injEq] at hj
        subst hj
        exact ⟨x, hxl, ⟨rfl, hxl, hx1⟩, fun t u hu => by rw [add_at]; simpa using hxc t u hu⟩⟩⟩
    have hlast : rows.take rows.length ++ x :: rows.drop rows.length = rows ++ [x] := by simp
    rw [hlast]
    have HR := Aside0.mk hR
    have HX := Aside0.mk hXC
    clear hlast hXC hx hxc hxl hx1 hvb hi
    cases A with
    | none =>
      have hz : rows.length = 0 := by
        rcases Nat.eq_zero_or_pos rows.length with h | h
        · exact h
        · obtain ⟨ad, e, _⟩ := (Kd.R_reads' hR).2.2.2.2 h
          cases e
      have hl0 : rows = [] := List.length_eq_zero_iff.1 hz
      subst hl0
      obtain rfl : c = 0 := by
        obtain ⟨_, _, ho, _⟩ := hR
        rcases ho.2 with ⟨hv, _⟩ | ⟨_, _, _, hv, _⟩
        · injection hv
        · cases hv
      clear hR hz hsz
      go_enter Tryd.func21, Tryd.ntmps21
      go_wp2_with (at_builtin; refine wpList_step (Kd.R_append_rows_step (Kd.raw 11) (w0 := w) base (by rfl) (.tmp 23) (.tmp 24) 40 30 (Value.agg #[(.string ⟨#[]⟩), (.int .i64 0), (.int .i64 0), (.int .i64 0), (.int .i64 0), (.int .i64 0), (.int .i64 0), (.int .i64 0), (.int .i64 0), (.int .i64 0), (.int .i64 0)]) 96 rfl hu (by kernel_rfl) rfl (by decide) (by decide) (.slice none 0 0) [] [x] (some ⟨vb, 0, none⟩) 1 1 (fun _ => True) (fun _ => False) rfl rfl HR.out HX.out (fun _ _ h => h) (fun _ h => h.elim) (fun _ _ => trivial) (Below.refl _ _) hbase (by simp) ?_); intro v1 w1 hr1 hb1 hg1 hat1)
      go_ret
      exact ⟨_, rfl, hr1, hg1, hat1⟩
    | some ad =>
      obtain ⟨g, cur, rfl, hB⟩ := raw_block hR
      have hle := hB.le
      have hnb : (rows.length : Int) < 1000000 := by omega
      by_cases hcn : c = rows.length
      · clear hR hB hsz hle
        go_enter Tryd.func21, Tryd.ntmps21
        go_wp2_with (at_builtin; refine wpList_step (Kd.R_append_rows_step (Kd.raw 11) (w0 := w) base (by rfl) (.tmp 23) (.tmp 24) 40 30 (Value.agg #[(.string ⟨#[]⟩), (.int .i64 0), (.int .i64 0), (.int .i64 0), (.int .i64 0), (.int .i64 0), (.int .i64 0), (.int .i64 0), (.int .i64 0), (.int .i64 0), (.int .i64 0)]) 96 rfl hu (by kernel_rfl) rfl (by decide) (by decide) (.slice (some ⟨g, 0, none⟩) rows.length c) rows [x] (some ⟨vb, 0, none⟩) 1 1 (fun _ => True) (fun _ => False) rfl rfl HR.out HX.out (fun _ _ h => h) (fun _ h => h.elim) (fun _ _ => trivial) (Below.refl _ _) hbase (by omega) ?_); intro v1 w1 hr1 hb1 hg1 hat1)
        go_ret
        exact ⟨_, rfl, hr1, hg1, hat1⟩
      · clear hR hB hsz
        go_enter Tryd.func21, Tryd.ntmps21
        go_wp2_with (at_builtin; refine wpList_step (Kd.R_append_rows_step (Kd.raw 11) (w0 := w) base (by rfl) (.tmp 23) (.tmp 24) 40 30 (Value.agg #[(.string ⟨#[]⟩), (.int .i64 0), (.int .i64 0), (.int .i64 0), (.int .i64 0), (.int .i64 0), (.int .i64 0), (.int .i64 0), (.int .i64 0), (.int .i64 0), (.int .i64 0)]) 96 rfl hu (by kernel_rfl) rfl (by decide) (by decide) (.slice (some ⟨g, 0, none⟩) rows.length c) rows [x] (some ⟨vb, 0, none⟩) 1 1 (fun _ => True) (fun _ => False) rfl rfl HR.out HX.out (fun _ _ h => h) (fun _ h => h.elim) (fun _ _ => trivial) (Below.refl _ _) hbase (by omega) ?_); intro v1 w1 hr1 hb1 hg1 hat1)
        go_ret
        exact ⟨_, rfl, hr1, hg1, hat1⟩
  have hlt : i < rows.length := by omega
  have hz2 : ¬ ((i : Int) = (rows.length : Int)) := by omega
  have hin2 : i ≤ rows.length := hi
  have hw1 : IntKind.i64.wrap ((i : Int) + 1) = (i : Int) + 1 := by rw [IntKind.wrap_i64]; omega
  have hw2 : wrap64 ((i : Int) + 1) = (i : Int) + 1 := by unfold wrap64; omega
  have hw3 : wrap64 ((rows.length : Int) + 1) = (rows.length : Int) + 1 := by unfold wrap64; omega
  have hw4 : IntKind.i64.wrap ((rows.length : Int) + 1) = (rows.length : Int) + 1 := by rw [IntKind.wrap_i64]; omega
  have htn : ((i : Int) + 1).toNat = i + 1 := by omega
  have htm : ((rows.length : Int) + 1).toNat = rows.length + 1 := by omega
  have hb0 : (0 : Int) ≤ (i : Int) + 1 := by omega
  have hb1 : (0 : Int) ≤ (rows.length : Int) + 1 := by omega
  obtain ⟨ad, hA⟩ : ∃ ad, A = some ad := by
    obtain ⟨ad, e, _⟩ := (Kd.R_reads' hR).2.2.2.2 (by omega)
    exact ⟨ad, e⟩
  subst hA
  obtain ⟨g, cur, rfl, hB⟩ := raw_block hR
  have hle := hB.le
  have hvg : vb ≠ g := fun e => hvb (by rw [e]; rfl)
  have hfl := flat_len hB.el
  have hcz := hB.sz
  have hmul : (i + 1) * 11 = i * 11 + 11 := Nat.succ_mul _ _
  have hile : i * 11 ≤ rows.length * 11 := Nat.mul_le_mul_right _ hi
  have hi1le : (i + 1) * 11 ≤ rows.length * 11 := Nat.mul_le_mul_right _ hlt
  have hdl : (rows.flatten.drop (i * 11)).length = (rows.length - i) * 11 := by rw [List.length_drop, hfl, Nat.sub_mul]
  have hst : ∀ u ∈ rows.flatten.drop (i * 11), u.oneCell' = true := fun u hu => hB.flat1 u (List.mem_of_mem_drop hu)
  have hins : (rows.take i ++ x :: rows.drop i).flatten = rows.flatten.take (i * 11) ++ (x ++ rows.flatten.drop (i * 11)) := by
    obtain ⟨t1, t2⟩ := flat_take hB.el hi
    rw [List.flatten_append, List.flatten_cons, t1, t2]
  have hnew : (rows.take i ++ x :: rows.drop i).length = rows.length + 1 := by simp; omega
  have hel2 : ∀ r ∈ rows.take i ++ x :: rows.drop i, r.length = 11 := by
    intro r hr
    rcases List.mem_append.1 hr with h | h
    · exact hB.el r (List.mem_of_mem_take h)
    · rcases List.mem_cons.1 h with h | h
      · rw [h]; exact hxl
      · exact hB.el r (List.mem_of_mem_drop h)
  have hone2 : ∀ r ∈ rows.take i ++ x :: rows.drop i, ∀ u ∈ r, u.oneCell' = true := by
    intro r hr
    rcases List.mem_append.1 hr with h | h
    · exact hB.one r (List.mem_of_mem_take h)
    · rcases List.mem_cons.1 h with h | h
      · rw [h]; exact hx1
      · exact hB.one r (List.mem_of_mem_drop h)
  have hci : ¬ (c = i) := by omega
  have hcsz : cur.toList.length = c * 11 := by rw [Array.length_toList]; exact hcz
  have hcle : rows.length * 11 ≤ c * 11 := Nat.mul_le_mul_right _ hle
  have hctk : cur.toList.take (i * 11) = rows.flatten.take (i * 11) := by
    rw [← hB.tk, List.take_take, Nat.min_eq_left hile]
  have hbg := hB.bg
  by_cases hroom : rows.length + 1 ≤ c
  · -- in place
    have hrle : (rows.length + 1) * 11 ≤ c * 11 := Nat.mul_le_mul_right _ hroom
    have hrm : (rows.length + 1) * 11 = rows.length * 11 + 11 := Nat.succ_mul _ _
    have hci1 : ¬ (c = i + 1) := by omega
    have hz3 : ¬ ((c : Int) < (rows.length : Int) + 1) := by omega
    have hb3 : (rows.length : Int) + 1 ≤ (c : Int) := by omega
    have hb4 : (i : Int) + 1 ≤ (rows.length : Int) + 1 := by omega
    have hb5 : (i : Int) ≤ (rows.length : Int) + 1 := by omega
    have hb6 : i + 1 ≤ rows.length + 1 := by omega
    have hb7 : i ≤ rows.length + 1 := by omega
    have hov : ∀ lb cb, (callFunc 44 #[.slice (some ⟨vb, 0, none⟩) 1 1, .slice (some ⟨g, (i + 1) * 11, none⟩) lb cb]).run Tryd.prog w = .ok (.value (.bool false)) w := fun lb cb => by
      have hsv : w.shape? vb = some (30, x.toArray.size) := by simp [World.shape?, hx]
      have hsg : w.shape? g = some (30, cur.size) := by simp [World.shape?, hB.blk]
      rw [run_callFunc_extern Tryd.func44 (by kernel_rfl) (by kernel_rfl) (by kernel_rfl) (e := Extern.SlicesOverlaps.overlaps #[40, 40] #[4]) (by kernel_rfl),
        Lib.run_overlaps_apart w 40 4 30 hu 11 (fun w => by obtain ⟨i0, hi0, hz0⟩ := Option.map_eq_some_iff.1 hsz; simp [Go.sizeOf, typeInfo, hi0, hz0]) ⟨vb, 0, none⟩ ⟨g, (i + 1) * 11, none⟩ 1 1 lb cb hvg 30 30 _ _ hsv hsg (by omega) (blk_frozen hx 0) (by simp [World.frozen?, hx])]
      rfl
    obtain ⟨C1, hC1⟩ : ∃ C1, C1 = (cur.toList.take ((i + 1) * 11) ++ rows.flatten.drop (i * 11) ++ cur.toList.drop ((i + 1) * 11 + (rows.flatten.drop (i * 11)).length)) := ⟨_, rfl⟩
    have hC1l : C1.length = c * 11 := by
      rw [hC1, List.length_append, List.length_append, List.length_take, hdl, List.length_drop, hcsz]
      have : (rows.length - i) * 11 = rows.length * 11 - i * 11 := Nat.sub_mul _ _ _
      omega
    obtain ⟨C2, hC2⟩ : ∃ C2, C2 = (C1.take (i * 11) ++ x ++ C1.drop (i * 11 + x.length)) := ⟨_, rfl⟩
    have hC2l : C2.length = c * 11 := by
      rw [hC2, List.length_append, List.length_append, List.length_take, List.length_drop, hC1l, hxl]
      omega
    have hC2t : C2.take ((rows.length + 1) * 11) = (rows.take i ++ x :: rows.drop i).flatten := by
      rw [hins, hC2, hC1]
      exact splice_in cur.toList rows.flatten x (i * 11) ((i + 1) * 11) _ hctk (by omega) (by omega) (by omega) (by omega) (by omega)
    have hcp1 : ∀ (W : World), W.heap[g]? = some (.cells cur 30 (0, 0)) → ∀ ty dc sc, (Builtin.copy_ #[40, 40] ty #[.slice (some ⟨g, (i + 1) * 11, none⟩) (rows.length - i) dc, .slice (some ⟨g, i * 11, none⟩) (rows.length + 1 - i) sc]).run Tryd.prog W = .ok (goInt ((rows.length - i : Nat) : Int)) (W.setRow g C1.toArray) := fun W hW ty dc sc => by
      rw [hC1]
      refine run_copy_sz W _ _ ty 30 g _ _ dc ⟨g, i * 11, none⟩ _ sc 11 cur 30 (rows.flatten.drop (i * 11)) hu hsz hW (rows.length - i) (by simp only [Nat.min_def]; split <;> omega) hdl (fun j u hj => ?_) (by rw [hdl, hcz]; have : (rows.length - i) * 11 = rows.length * 11 - i * 11 := Nat.sub_mul _ _ _; omega) hst
      rw [add_at, blk_cell hW]
      rw [List.getElem?_drop, ← hB.tk, List.getElem?_take] at hj
      split at hj
      · simpa using hj
      · cases hj
    have hcp2 : ∀ (W : World), W.heap[g]? = some (.cells C1.toArray 30 (0, 0)) → W.heap[vb]? = some (.cells x.toArray 30 (0, 0)) → ∀ ty dc, (Builtin.copy_ #[40, 40] ty #[.slice (some ⟨g, i * 11, none⟩) (rows.length + 1 - i) dc, .slice (some ⟨vb, 0, none⟩) 1 1]).run Tryd.prog W = .ok (goInt ((1 : Nat) : Int)) (W.setRow g C2.toArray) := fun W hW hV ty dc => by
      rw [hC2]
      exact run_copy_sz W _ _ ty 30 g _ _ dc ⟨vb, 0, none⟩ 1 1 11 C1.toArray 30 x hu hsz hW 1 (by simp only [Nat.min_def]; split <;> omega) (by rw [hxl]) (fun j u hj => by rw [add_at, blk_cell hV]; simpa using hj) (by rw [List.size_toArray, hC1l, hxl]; omega) hx1
    have HB := Aside0.mk hB
    have HC1 := Aside0.mk hC2l
    have HC2 := Aside0.mk hC2t
    have HEL := Aside0.mk hel2
    have HON := Aside0.mk hone2
    have HNW := Aside0.mk hnew
    have HX := Aside0.mk hx
    have HP1 := Aside0.mk hcp1
    have HP2 := Aside0.mk hcp2
    have hR0 : w.drew.setRow g C1.toArray = (w.setRow g C1.toArray).drew := rfl
    clear hR hB hC1 hC2 hC1l hC2l hC2t hcp1 hcp2 hel2 hone2 hnew hins hctk hdl hst hfl hcz hcsz hmul hile hi1le hcle hrle hrm hxl hx1 hxc hx
    go_enter Tryd.func21, Tryd.ntmps21
    go_upto_region 15 with (simp only [hov])
    go_region_law (go_loud (refine step_copy_w rfl (.tmp 73) (.tmp 76) 40 40 rfl (.slice (some ⟨g, (i + 1) * 11, none⟩) (rows.length - i) (c - (i + 1))) (.slice (some ⟨g, i * 11, none⟩) (rows.length + 1 - i) (c - i)) (by simp [Act.eval, Act.put]) (by simp [Act.eval, Act.put]) (HP1.out w.drew HB.out.blk _ _ _) ?_))
    go_wp2_with (show wpList _ _ _ (Oper.mk (some 82) _ _ _ _ _ :: _) _ _; refine wpList_copy_w _ rfl _ _ 40 40 rfl _ _ rfl rfl (HP2.out (w.drew.setRow g C1.toArray) (setRow_heap w.drew g _ _ 30 _ HB.out.blk) ((setRow_other w.drew g vb _ hvg).trans HX.out) _ _) ?_)
    go_ret
    have e : (rows.take i ++ x :: rows.drop i).length = rows.length + 1 := HNW.out
    refine ⟨_, rfl, RawB.raw (cur := C2.toArray) ⟨setRow_heap _ g _ _ 30 _ (setRow_heap _ g _ _ 30 _ HB.out.blk), hbg, e.symm, hroom, HB.out.mx, by rw [List.size_toArray]; exact HC1.out, by rw [List.toList_toArray]; exact HC2.out, HEL.out, HON.out⟩, ⟨rfl, rfl, rfl, by simp [World.setRow], fun k hk hne => (setRow_other _ g k _ (fun e => hne (by rw [e]; rfl))).trans (setRow_other _ g k _ (fun e => hne (by rw [e]; rfl)))⟩, .inl rfl⟩
  · -- a new row
    obtain rfl : c = rows.length := by omega
    obtain ⟨i0, hi0, hz0, hzs, hzb⟩ := info_parts (P := Tryd.prog) (e := 30) (z := (Value.agg #[(.string ⟨#[]⟩), (.int .i64 0), (.int .i64 0), (.int .i64 0), (.int .i64 0), (.int .i64 0), (.int .i64 0), (.int .i64 0), (.int .i64 0), (.int .i64 0), (.int .i64 0)])) (size := 11) (bytes := 96) (by kernel_rfl)
    have hti := Tryd.underlying3
    have hgw : g < w.heap.size := blk_lt hB.blk
    have hvw : vb < w.heap.size := blk_lt hx
    have hkk : (rows.length : Int) + 1 - (i : Int) = ((rows.length + 1 - i : Nat) : Int) := by omega
    have hik : i + (rows.length + 1 - i) = rows.length + 1 := by omega
    have hold : (Builtin.firstCells i0.size i (.slice (some ⟨g, 0, none⟩) i rows.length)).run Tryd.prog w.drew = .ok (rows.flatten.take (i * 11)).toArray w.drew := by
      rw [hzs]
      exact run_firstCells_some w.drew 11 i ⟨g, 0, none⟩ i rows.length (rows.flatten.take (i * 11)) (by rw [List.length_take, hfl]; omega) (fun j u hj => by
        rw [add_at, Nat.zero_add]
        rw [List.getElem?_take] at hj
        split at hj
        · exact hB.cells j u hj
        · cases hj)
    obtain ⟨G, hG⟩ : ∃ G, G = grownCap w (rows.length + 1) rows.length 30 := ⟨_, rfl⟩
    obtain ⟨ROW, hROW⟩ : ∃ ROW : Array Value, ROW = (rows.flatten.take (i * 11)).toArray ++ Builtin.zeroCells (Value.agg #[(.string ⟨#[]⟩), (.int .i64 0), (.int .i64 0), (.int .i64 0), (.int .i64 0), (.int .i64 0), (.int .i64 0), (.int .i64 0), (.int .i64 0), (.int .i64 0), (.int .i64 0)]).cells (rows.length + 1 - i) ++ Builtin.zeroCells (Value.agg #[(.string ⟨#[]⟩), (.int .i64 0), (.int .i64 0), (.int .i64 0), (.int .i64 0), (.int .i64 0), (.int .i64 0), (.int .i64 0), (.int .i64 0), (.int .i64 0), (.int .i64 0)]).cells (G - (rows.length + 1)) := ⟨_, rfl⟩
    have hrz : ∀ ty, (Builtin.append_ #[40, 3] ty #[.slice (some ⟨g, 0, none⟩) i rows.length, .int .i64 ((rows.length : Int) + 1 - (i : Int))]).run Tryd.prog w = .ok (.slice (some ⟨w.heap.size, 0, none⟩) (rows.length + 1) G) (w.drew.alloc (.cells ROW 30)) := fun ty => by
      have h := Lib.run_append_grow_zeros w 40 3 ty 30 i0 _ .i64 .i64 hu hti hi0 hz0 (some ⟨g, 0, none⟩) i rows.length _ hold (rows.length + 1 - i) (by omega) (by omega) (by omega) (by omega) (by rw [hzb]; omega) (by rw [hzb, hik]; exact growslice_fits (by omega) (by omega))
      rw [hik, ← hG, ← hROW] at h
      rw [hkk]
      exact h
    have hGn : rows.length + 1 ≤ G := by rw [hG]; exact grownCap_ge w _ _ _
    have hGm : G ≤ maxLen := by rw [hG]; exact grownCap_le_maxLen w _ _ _ (by unfold maxLen; omega)
    have hzl : ∀ m, (Builtin.zeroCells (Value.agg #[(.string ⟨#[]⟩), (.int .i64 0), (.int .i64 0), (.int .i64 0), (.int .i64 0), (.int .i64 0), (.int .i64 0), (.int .i64 0), (.int .i64 0), (.int .i64 0), (.int .i64 0)]).cells m).size = m * 11 := fun m => by have hz_ : (Value.agg #[(.string ⟨#[]⟩), (.int .i64 0), (.int .i64 0), (.int .i64 0), (.int .i64 0), (.int .i64 0), (.int .i64 0), (.int .i64 0), (.int .i64 0), (.int .i64 0), (.int .i64 0)]).cells.size = 11 := rfl; simp [Builtin.zeroCells, hz_]
    have hRs : ROW.toList.length = G * 11 := by
      rw [Array.length_toList, hROW, Array.size_append, Array.size_append, hzl, hzl, List.size_toArray, List.length_take, hfl, Nat.min_eq_left hile, Nat.sub_mul, Nat.sub_mul]
      have h1 := Nat.mul_le_mul_right 11 hGn
      have h2 : i * 11 ≤ (rows.length + 1) * 11 := Nat.mul_le_mul_right _ (by omega)
      omega
    have hRt : ROW.toList.take (i * 11) = rows.flatten.take (i * 11) := by
      have hl : (rows.flatten.take (i * 11)).length = i * 11 := by rw [List.length_take, hfl]; omega
      rw [hROW, Array.toList_append, Array.toList_append, List.append_assoc, List.toList_toArray]
      exact List.take_left' hl
    have hGle : (rows.length + 1) * 11 ≤ G * 11 := Nat.mul_le_mul_right _ hGn
    have hrm : (rows.length + 1) * 11 = rows.length * 11 + 11 := Nat.succ_mul _ _
    have hsub : (rows.length - i) * 11 = rows.length * 11 - i * 11 := Nat.sub_mul _ _ _
    obtain ⟨C1, hC1⟩ : ∃ C1, C1 = (ROW.toList.take (i * 11) ++ x ++ ROW.toList.drop (i * 11 + x.length)) := ⟨_, rfl⟩
    have hC1l : C1.length = G * 11 := by
      rw [hC1, List.length_append, List.length_append, List.length_take, List.length_drop, hRs, hxl]
      omega
    obtain ⟨C2, hC2⟩ : ∃ C2, C2 = (C1.take ((i + 1) * 11) ++ rows.flatten.drop (i * 11) ++ C1.drop ((i + 1) * 11 + (rows.flatten.drop (i * 11)).length)) := ⟨_, rfl⟩
    have hC2l : C2.length = G * 11 := by
      rw [hC2, List.length_append, List.length_append, List.length_take, hdl, List.length_drop, hC1l]
      omega
    have hC2t : C2.take ((rows.length + 1) * 11) = (rows.take i ++ x :: rows.drop i).flatten := by
      rw [hins, hC2, hC1]
      exact splice_in2 ROW.toList rows.flatten x (i * 11) ((i + 1) * 11) _ hRt (by omega) (by omega) (by omega) (by omega)
    have hcp1 : ∀ (W : World), W.heap[w.heap.size]? = some (.cells ROW 30 (0, 0)) → W.heap[vb]? = some (.cells x.toArray 30 (0, 0)) → ∀ ty dc, (Builtin.copy_ #[40, 40] ty #[.slice (some ⟨w.heap.size, i * 11, none⟩) (rows.length + 1 - i) dc, .slice (some ⟨vb, 0, none⟩) 1 1]).run Tryd.prog W = .ok (goInt ((1 : Nat) : Int)) (W.setRow w.heap.size C1.toArray) := fun W hW hV ty dc => by
      rw [hC1]
      exact run_copy_sz W _ _ ty 30 w.heap.size _ _ dc ⟨vb, 0, none⟩ 1 1 11 ROW 30 x hu hsz hW 1 (by simp only [Nat.min_def]; split <;> omega) (by rw [hxl]) (fun j u hj => by rw [add_at, blk_cell hV]; simpa using hj) (by rw [← Array.length_toList, hRs, hxl]; omega) hx1
    have hcp2 : ∀ (W : World), W.heap[w.heap.size]? = some (.cells C1.toArray 30 (0, 0)) → W.heap[g]? = some (.cells cur 30 (0, 0)) → ∀ ty dc sc, (Builtin.copy_ #[40, 40] ty #[.slice (some ⟨w.heap.size, (i + 1) * 11, none⟩) (rows.length - i) dc, .slice (some ⟨g, i * 11, none⟩) (rows.length - i) sc]).run Tryd.prog W = .ok (goInt ((rows.length - i : Nat) : Int)) (W.setRow w.heap.size C2.toArray) := fun W hW hV ty dc sc => by
      rw [hC2]
      refine run_copy_sz W _ _ ty 30 w.heap.size _ _ dc ⟨g, i * 11, none⟩ _ sc 11 C1.toArray 30 (rows.flatten.drop (i * 11)) hu hsz hW (rows.length - i) (by simp only [Nat.min_def]; split <;> omega) hdl (fun j u hj => ?_) (by rw [List.size_toArray, hdl, hC1l]; omega) hst
      rw [add_at, blk_cell hV]
      rw [List.getElem?_drop, ← hB.tk, List.getElem?_take] at hj
      split at hj
      · simpa using hj
      · cases hj
    have hci1 : ¬ (rows.length = i + 1) ∨ True := .inr trivial
    have hGi : ¬ (G = i) := by omega
    have hGi1 : ¬ (G = i + 1) := by omega
    have hb3 : (rows.length : Int) < (rows.length : Int) + 1 := by omega
    have hb4 : (i : Int) + 1 ≤ (rows.length : Int) + 1 := by omega
    have hb5 : (i : Int) ≤ (rows.length : Int) + 1 := by omega
    have hb8 : (i : Int) ≤ (rows.length : Int) := by omega
    have hb6 : i + 1 ≤ rows.length + 1 := by omega
    have hb7 : i ≤ rows.length + 1 := by omega
    have hw5 : wrap64 ((rows.length : Int) + 1 - (i : Int)) = (rows.length : Int) + 1 - (i : Int) := by unfold wrap64; omega
    have hw6 : IntKind.i64.wrap ((rows.length : Int) + 1 - (i : Int)) = (rows.length : Int) + 1 - (i : Int) := by rw [IntKind.wrap_i64]; omega
    have HB := Aside0.mk hB
    have HC1 := Aside0.mk hC2l
    have HC2 := Aside0.mk hC2t
    have HEL := Aside0.mk hel2
    have HON := Aside0.mk hone2
    have HNW := Aside0.mk hnew
    have HX := Aside0.mk hx
    have HP1 := Aside0.mk hcp1
    have HP2 := Aside0.mk hcp2
    have HRZ := Aside0.mk hrz
    have HGM := Aside0.mk hGm
    have HN0 := Aside0.mk (show (w.alloc (.cells ROW 30)).heap[w.heap.size]? = some (.cells ROW 30 (0, 0)) from blk_new w _)
    have HV0 := Aside0.mk (show (w.alloc (.cells ROW 30)).heap[vb]? = some (.cells x.toArray 30 (0, 0)) from blk_alloc hx _)
    have HG0 := Aside0.mk (show (w.alloc (.cells ROW 30)).heap[g]? = some (.cells cur 30 (0, 0)) from blk_alloc hB.blk _)
    have hgn : g ≠ w.heap.size := by omega
    have hszn : w.heap.size ≤ (w.alloc (.cells ROW 30)).heap.size := by simp
    have HOT : Aside0 (∀ k, k < w.heap.size → (w.alloc (.cells ROW 30)).heap[k]? = w.heap[k]?) := ⟨fun k hk => Below.heap_alloc w _ k hk⟩
    clear hR hB hC1 hC2 hC1l hC2l hC2t hcp1 hcp2 hel2 hone2 hnew hins hctk hdl hst hfl hcz hcsz hmul hile hi1le hcle hrm hxl hx1 hxc hx hrz hGm hG hROW hRs hRt hzl hold hGle hsub hkk hik hi0 hz0 hzs hzb
    go_enter Tryd.func21, Tryd.ntmps21
    go_upto_region 11 with (first | (at_builtin; refine Lib.wpList_append_run _ rfl _ _ _ _ rfl _ _ rfl rfl _ _ (HRZ.out _) ?_) | (show wpList _ _ _ (Oper.mk (some 45) _ _ _ _ _ :: _) _ _; refine wpList_copy_w _ rfl _ _ 40 40 rfl _ _ rfl rfl (HP1.out (w.alloc (.cells ROW 30)).drew HN0.out HV0.out _ _) ?_))
    go_region_law (go_loud (refine step_copy_w rfl (.tmp 50) (.tmp 53) 40 40 rfl (.slice (some ⟨w.heap.size, (i + 1) * 11, none⟩) (rows.length - i) (G - (i + 1))) (.slice (some ⟨g, i * 11, none⟩) (rows.length - i) (rows.length - i)) (by simp [Act.eval, Act.put]) (by simp [Act.eval, Act.put]) (HP2.out ((w.alloc (.cells ROW 30)).drew.setRow w.heap.size C1.toArray).drew (setRow_heap (w.alloc (.cells ROW 30)).drew w.heap.size _ _ 30 _ HN0.out) ((setRow_other (w.alloc (.cells ROW 30)).drew w.heap.size g _ hgn).trans HG0.out) _ _ _) ?_))
    go_wp2
    go_ret
    have e : (rows.take i ++ x :: rows.drop i).length = rows.length + 1 := HNW.out
    refine ⟨_, rfl, RawB.raw (cur := C2.toArray) ⟨setRow_heap _ w.heap.size _ _ 30 _ (setRow_heap _ w.heap.size _ _ 30 _ HN0.out), hbase, e.symm, hGn, HGM.out, by rw [List.size_toArray]; exact HC1.out, by rw [List.toList_toArray]; exact HC2.out, HEL.out, HON.out⟩, ⟨rfl, rfl, rfl, by simp [World.setRow], fun k hk hne => (setRow_other _ _ k _ (by omega)).trans ((setRow_other _ _ k _ (by omega)).trans (HOT.out k hk))⟩, .inr ⟨_, rfl, Nat.le_refl _⟩⟩
/-- slices.Insert of a cell into a row of one's own. -/
theorem ins_cellR (w : World) (base : Nat) (v : Value) (xs : List S30) (x : S30) (vb i : Nat) (hR : Kd.R k30 30 w base (fun _ => True) v xs) (hi : i ≤ xs.length) (hx : w.heap[vb]? = some (.cells #[.string x.f0, .int .i64 x.f1, .int .i64 x.f2, .int .i64 x.f3.f0, .int .i64 x.f3.f1, .int .i64 x.f4.f0, .int .i64 x.f4.f1, .int .i64 x.f5.f0, .int .i64 x.f5.f1, .int .i64 x.f6.f0, .int .i64 x.f6.f1] 30 (0, 0))) (hvb : some vb ≠ v.ownBlock) (hbase : base ≤ w.heap.size) (hbig : xs.length < 1000000) :
    Calls Tryd.prog 21 #[v, .int .i64 i, .slice (some ⟨vb, 0, none⟩) 1 1] w fun e_ w' => ∃ v', e_ = .returned v' ∧ Kd.R k30 30 w' base (fun _ => True) v' (xs.take i ++ x :: xs.drop i) ∧ w.grownBy w' v.ownBlock ∧ (v'.ownBlock = v.ownBlock ∨ ∃ b, v'.ownBlock = some b ∧ w.heap.size ≤ b) := by
  obtain ⟨rows, hl, hraw, hback⟩ := R_moved hR
  have hM := k30_mkM w base (fun _ => True) x
  have hK := k30.K_of_M hM
  refine (ins_cell w base v rows _ vb i hraw (by omega) hx (k30.K_len hK) (k30.K_one hK) hvb hbase (by omega)).mono ?_
  rintro e_ w' ⟨v', rfl, hr, hg, hat⟩
  exact ⟨v', rfl, hback (by rw [ins_len _ _ _ hi, ins_len _ _ _ (by omega), hl]) hr hg hat (ins_moved (q := fun y c => ∀ okq, k30.M w' base okq y c) hl hi (fun okq => k30_mkM w' base okq x)), hg, hat⟩

/-- A world in which all that w has stands as it stands in w. -/
structure Ext (w : World) where
  world : World
  below : Below w.heap.size w world
instance (w : World) : Inhabited (Ext w) := ⟨⟨w, Below.refl _ w⟩⟩
theorem Ext.cell {w : World} {p : Addr} {v : Value} (h : w.cell? p = some v) : ∀ u : Ext w, u.world.cell? p = some v := fun u => keepc h u.below
theorem Calls.ext {P : Program} {f : FuncId} {args : Array Value} {w : World} {u : Ext w} {v : Value} (h : Calls P f args u.world fun e w' => e = .returned v ∧ Below u.world.heap.size u.world w') : Calls P f args u.world fun e w'' => e = .returned v ∧ ∃ u' : Ext w, w'' = u'.world :=
  h.mono fun _ w' ⟨he, hb⟩ => ⟨he, ⟨w', below_step u.below hb⟩, rfl⟩
theorem Calls.ext0 {P : Program} {f : FuncId} {args : Array Value} {w : World} {u : Ext w} {v : Value} (h : Calls P f args u.world fun e w' => e = .returned v ∧ Drawn0 u.world w') : Calls P f args u.world fun e w'' => e = .returned v ∧ ∃ u' : Ext w, w'' = u'.world :=
  h.mono fun _ w' ⟨he, hb⟩ => ⟨he, ⟨w', below_step u.below hb.below⟩, rfl⟩
/-- A region of open order whose operations read, or call what makes memory at most: walked once, in the order of the text. -/
theorem region_ext {P : Program} {id : Nat} {Q : Exit → Act → World → Prop} {a : Act} {w : World} {l : List Oper} (hm : P.follows .mixedOrders = true) (hB : Region.lexB .any l.toArray = true)
    (h : wpQuiet P l.toArray (fun w' => ∃ u : Ext w, w' = u.world) (fun a' => ∀ w', (∃ u : Ext w, w' = u.world) → Q .normal a' w') l a) : (Code.region id l.toArray true).wp P Q a w :=
  wp_region_quiet (C := fun w' => ∃ u : Ext w, w' = u.world) hm hB ⟨⟨_, below_drew1 (Below.refl _ w)⟩, rfl⟩ (by simpa using h)
/-- The walk's world, told by what is known of it. -/
theorem wp_letter {P : Program} {c : Code} {Q : Exit → Act → World → Prop} {a : Act} {W : World} (F : World → Prop) (hF : F W) (h : ∀ W0, F W0 → c.wp P Q a W0) : c.wp P Q a W := h W hF

/-! ### impl_TxtOk: function 27 (by hand) -/
def impl_TxtOk.f (a0 : ByteArray) : Option Bool := if a0.size < 4294967281 then some (Txt.ppTxtOk a0) else none
set_option maxHeartbeats 2000000 in
set_option maxRecDepth 100000 in
theorem impl_TxtOk.calls (a0 : ByteArray) (r : Bool) (w : World) (hM : Txt.MLen w) (h : impl_TxtOk.f a0 = some r) :
    Calls Tryd.prog 27 #[.string a0] w fun e w' => e = .returned (.bool r) ∧ Below w.heap.size w w' := by
  unfold impl_TxtOk.f at h
  split at h
  · rename_i hs
    have hr := Option.some.inj h
    have HM := Aside0.mk hM
    have HS := Aside0.mk hs
    clear hM hs h
    by_cases h0 : a0.toList.isEmpty = true
    · have e0 : a0.toList.isEmpty = true := h0
      have er : Txt.ppTxtOk a0 = true := by unfold Txt.ppTxtOk; rw [e0]; rfl
      rw [er] at hr
      subst hr
      clear er h0
      go_enter Tryd.func27, Tryd.ntmps27
      go_wp2
      go_ret
      exact ⟨rfl, Below.refl _ _⟩
    · have e0 : a0.toList.isEmpty = false := Bool.eq_false_iff.2 h0
      have er : Txt.ppTxtOk a0 = ((Txt.ppWords a0).all Txt.ppWordOk && decide ((a0.size : Int) ≤ 30)) := by unfold Txt.ppTxtOk; rw [e0]; rfl
      rw [er] at hr
      clear er h0
      obtain ⟨L, hL⟩ : ∃ L, Txt.ppWords a0 = L := ⟨_, rfl⟩
      have hsp := Txt.split_sp a0 w HM.out HS.out
      have hsz : ∀ x ∈ L, x.size ≤ 9223372036854775807 := fun x hx => by
        have := Txt.ppWords_le a0 x (hL ▸ hx)
        have := HS.out
        omega
      have hln : L.length ≤ 4294967281 := by
        have := Txt.ppWords_len a0
        have := HS.out
        rw [hL] at *
        omega
      have HLN := Aside0.mk hln
      clear hln
      rw [hL] at hsp hr
      have HE := Aside0.mk hr
      clear hr
      have HSP := Aside0.mk hsp
      have HSZ := Aside0.mk hsz
      clear hsp hsz hL
      go_enter Tryd.func27, Tryd.ntmps27
      go_wp2_with (go_at_call 48; (with_reducible refine HSP.out.mono ?_); rintro e w' ⟨rfl, rfl⟩)
      go_loopg [10] L.length (fun gg v10 wr => ∃ kk : Nat, kk ≤ L.length ∧ L.length - kk ≤ gg ∧ v10 = .int .i64 kk ∧ Aside0 (Below w.heap.size w wr) ∧ Aside0 (wr.heap[w.heap.size]? = some (.cells (L.map Value.string).toArray 9 (0, 0))) ∧ Aside0 (∀ j (h : j < L.length), j < kk → Txt.ppWordOk L[j] = true))
      case atStart => exact ⟨0, Nat.zero_le _, by omega, rfl, ⟨below_alloc (Below.refl _ _) _⟩, ⟨blk_new _ _⟩, ⟨fun j _ hj => absurd hj (Nat.not_lt_zero _)⟩⟩
      case round =>
        obtain ⟨kk, hkk, hg, rfl, HB, BK, AA⟩ := hrel
        by_cases hlt : kk < L.length
        · have hltz : (kk : Int) < (L.length : Int) := by omega
          have hcell : wr.cell? ⟨w.heap.size, kk, none⟩ = some (.string L[kk]) := (blk_cell BK.out kk).trans (by simp [hlt])
          have hfz := blk_frozen BK.out kk
          have hsk := HSZ.out L[kk] (List.getElem_mem hlt)
          have htrim := fun W => Txt.trim_az L[kk] W hsk
          have HT := Aside0.mk htrim
          obtain ⟨y, hy⟩ : ∃ y, L[kk] = y := ⟨_, rfl⟩
          have HY := Aside0.mk hy
          rw [hy] at hcell HT
          clear hsk htrim hy
          obtain ⟨z, hz⟩ : ∃ z, Txt.ppRest y = z := ⟨_, rfl⟩
          rw [hz] at HT
          have HZ := Aside0.mk hz
          clear hz
          by_cases h1 : y.toList.isEmpty = true
          · have e1 : y.toList.isEmpty = true := h1
            have hno : (L.all Txt.ppWordOk && decide ((a0.size : Int) ≤ 30)) = false := by
              have : L.all Txt.ppWordOk = false := List.all_eq_false.2 ⟨L[kk], List.getElem_mem hlt, by rw [HY.out]; unfold Txt.ppWordOk; rw [e1]; simp⟩
              rw [this]; rfl
            have HNO := Aside0.mk hno
            clear hno h1
            go_wp2
            go_ret
            exact ⟨by rw [← HE.out, HNO.out]; rfl, HB.out⟩
          · have e1 : y.toList.isEmpty = false := Bool.eq_false_iff.2 h1
            clear h1
            by_cases h2 : z.toList.isEmpty = true
            · have e2 : z.toList.isEmpty = true := h2
              have hyes : Txt.ppWordOk L[kk] = true := by rw [HY.out]; unfold Txt.ppWordOk; rw [HZ.out, e1, e2]; rfl
              have HYES := Aside0.mk hyes
              clear hyes h2
              go_wp2_with (go_at_call 49; (with_reducible refine (HT.out _).mono ?_); rintro e w' ⟨rfl, hb⟩)
              go_roundg (L.length - (kk + 1))
              case measure => omega
              case rel =>
                refine ⟨kk + 1, by omega, by omega, (by have := HLN.out; show Value.int .i64 (wrap64 ((kk : Int) + 1)) = Value.int .i64 ((kk + 1 : Nat) : Int); congr 1; unfold wrap64; omega), ⟨below_step HB.out hb⟩, ⟨blk_below BK.out hb⟩, ⟨fun j h hj => ?_⟩⟩
                by_cases e : j = kk
                · subst e
                  exact HYES.out
                · exact AA.out j h (by omega)
            · have e2 : z.toList.isEmpty = false := Bool.eq_false_iff.2 h2
              have hno : (L.all Txt.ppWordOk && decide ((a0.size : Int) ≤ 30)) = false := by
                have : L.all Txt.ppWordOk = false := List.all_eq_false.2 ⟨L[kk], List.getElem_mem hlt, by rw [HY.out]; unfold Txt.ppWordOk; rw [HZ.out, e1, e2]; simp⟩
                rw [this]; rfl
              have HNO := Aside0.mk hno
              clear hno h2
              go_wp2_with (go_at_call 49; (with_reducible refine (HT.out _).mono ?_); rintro e w' ⟨rfl, hb⟩)
              go_ret
              exact ⟨by rw [← HE.out, HNO.out]; rfl, below_step HB.out hb⟩
        · have hltz : ¬ (kk : Int) < (L.length : Int) := by omega
          have hk : kk = L.length := by omega
          have hall : (L.all Txt.ppWordOk && decide ((a0.size : Int) ≤ 30)) = decide ((a0.size : Int) ≤ 30) := by
            have : L.all Txt.ppWordOk = true := List.all_eq_true.2 (fun x hx => by
              obtain ⟨j, hj, rfl⟩ := List.getElem_of_mem hx
              exact AA.out j hj (by omega))
            rw [this]; rfl
          have HALL := Aside0.mk hall
          clear hall
          go_wp2
          go_ret
          exact ⟨by rw [← HE.out, HALL.out]; rfl, HB.out⟩
  · exact absurd h (by simp)

/-! ### impl_BrdLine_drawn: function 55 -/
def impl_BrdLine_drawn.f (a0_0 : Int) (a0_1 : Int) : Option (Bool) := (impl_in.f a0_0 1 3).bind fun t267 => (some t267)
set_option maxHeartbeats 8000000 in
set_option maxRecDepth 100000 in
theorem impl_BrdLine_drawn.calls (a0_0 : Int) (a0_1 : Int) (r : Bool) (w : World) (h : impl_BrdLine_drawn.f a0_0 a0_1 = some r) :
    Calls Tryd.prog 55 #[.agg #[.int .i64 a0_0, .int .i64 a0_1]] w fun e w' => e = .returned (.bool r) ∧ Below w.heap.size w w' := by
  have hu28 := Tryd.underlying28
  have HB := Aside0.mk (Below.refl w.heap.size w)
  have H : ((impl_in.f a0_0 1 3).bind fun t267 => (some t267)) = some r := h
  clear h
  replace H := Option.bind_eq_some_iff.mp H
  obtain ⟨t267, A20, H⟩ := H
  replace H : (some t267) = some r := H
  have A2 := Aside0.mk A20
  clear A20
  obtain rfl := Option.some.inj H
  go_enter Tryd.func55, Tryd.ntmps55
  go_wp2_with (first | ((with_reducible refine gate_dst (N := 1) rfl ?_); refine box_event ?hg (N := 1) ?hd (cs := #[.int .i64 a0_0, .int .i64 a0_1]) (t := 28) ?hr ?_; (case hd => rfl); (case hg => rfl); (case hr => first | (go_simp; done) | (go_simp; rfl)); intro gb266 hg w3 hbox hb; have n0_ := Aside0.mk (below_step (by repeat (first | (with_reducible first | exact HB.out | apply below_alloc | apply pw_below_drewN | apply below_drew1) | exact HB.out)) hb); have n1_ := Aside0.mk (hbox); have n2_ := Aside0.mk ((by rw [hg]; exact (below_size (by repeat (first | (with_reducible first | exact HB.out | apply below_alloc | apply pw_below_drewN | apply below_drew1) | exact HB.out))) : w.heap.size ≤ gb266)); have n3_ := Aside0.mk ((by rw [hg]; exact (below_size (by repeat (first | (with_reducible first | exact HB.out | apply below_alloc | apply pw_below_drewN | apply below_drew1) | exact HB.out))) : w.heap.size ≤ gb266)); clear HB; have HB := n0_; have BK266 := n1_; have GW266 := n2_; have GE266 := n3_; clear n0_ n1_ n2_ n3_; clear hb hbox hg; have hcz4_0 : w3.cell? ⟨gb266, 0, none⟩ = some (.int .i64 a0_0) := (blk_cell BK266.out 0).trans rfl; have hcz4_1 : w3.cell? ⟨gb266, 1, none⟩ = some (.int .i64 a0_1) := (blk_cell BK266.out 1).trans rfl; have hfz4_0 := blk_frozen BK266.out 0; have hfz4_1 := blk_frozen BK266.out 1) | ((with_reducible refine gate_callee (f := 20) rfl ?_); refine goesL_ (some 5) rfl rfl Tryd.func20 (by kernel_rfl) rfl #[.int .i64 a0_0, .int .i64 1, .int .i64 3] rfl (by (try simp only [List.map_toArray, List.map_cons, List.map_nil]); first | done | rfl | (simp only [List.length_drop, List.length_take]; rfl)) ?_; (with_reducible refine (impl_in.calls a0_0 1 3 t267 _ A2.out).mono ?_); rintro e w' ⟨rfl, ⟨nd, rfl⟩⟩; refine ⟨_, rfl, ?_⟩))
  go_ret
  exact ⟨by first | rfl | (simp [IntKind.wrap_i64, wrap64]; done) | (simp [errW_none, errW_some] <;> rfl) | (simp [*, errW_none, errW_some] <;> rfl), by repeat (first | (with_reducible first | exact HB.out | apply below_alloc | apply pw_below_drewN | apply below_drew1 | refine below_set ?_ GE266.out) | exact HB.out)⟩

/-! ### impl_BrdOk: function 43 -/
def impl_BrdOk.f (a0_0 : Int) (a0_1 : Int) : Option (Bool) := (impl_BrdLine_drawn.f a0_0 a0_1).bind fun t269 => (if t269 = true then ((impl_in.f a0_1 1 3).bind fun t270 => (some t270)) else (if a0_0 = 0 then (some (a0_1 == 0)) else (if a0_0 = 4 then (some (a0_1 == 0)) else (some false))))
set_option maxHeartbeats 8000000 in
set_option maxRecDepth 100000 in
theorem impl_BrdOk.calls (a0_0 : Int) (a0_1 : Int) (r : Bool) (w : World) (h : impl_BrdOk.f a0_0 a0_1 = some r) :
    Calls Tryd.prog 43 #[.agg #[.int .i64 a0_0, .int .i64 a0_1]] w fun e w' => e = .returned (.bool r) ∧ Below w.heap.size w w' := by
  have hu28 := Tryd.underlying28
  have HB := Aside0.mk (Below.refl w.heap.size w)
  have H : ((impl_BrdLine_drawn.f a0_0 a0_1).bind fun t269 => (if t269 = true then ((impl_in.f a0_1 1 3).bind fun t270 => (some t270)) else (if a0_0 = 0 then (some (a0_1 == 0)) else (if a0_0 = 4 then (some (a0_1 == 0)) else (some false))))) = some r := h
  clear h
  replace H := Option.bind_eq_some_iff.mp H
  obtain ⟨t269, A20, H⟩ := H
  replace H : (if t269 = true then ((impl_in.f a0_1 1 3).bind fun t270 => (some t270)) else (if a0_0 = 0 then (some (a0_1 == 0)) else (if a0_0 = 4 then (some (a0_1 == 0)) else (some false)))) = some r := H
  have A2 := Aside0.mk A20
  clear A20
  by_cases c3 : t269 = true
  · subst c3
    have H1 : ((impl_in.f a0_1 1 3).bind fun t270 => (some t270)) = some r := by rw [if_pos rfl] at H; exact H
    clear H
    have H := H1
    clear H1
    replace H := Option.bind_eq_some_iff.mp H
    obtain ⟨t270, A40, H⟩ := H
    replace H : (some t270) = some r := H
    have A4 := Aside0.mk A40
    clear A40
    obtain rfl := Option.some.inj H
    go_enter Tryd.func43, Tryd.ntmps43
    go_wp2_with (first | ((with_reducible refine gate_dst (N := 1) rfl ?_); refine box_event ?hg (N := 1) ?hd (cs := #[.int .i64 a0_0, .int .i64 a0_1]) (t := 28) ?hr ?_; (case hd => rfl); (case hg => rfl); (case hr => first | (go_simp; done) | (go_simp; rfl)); intro gb268 hg w5 hbox hb; have n0_ := Aside0.mk (below_step (by repeat (first | (with_reducible first | exact HB.out | apply below_alloc | apply pw_below_drewN | apply below_drew1) | exact HB.out)) hb); have n1_ := Aside0.mk (hbox); have n2_ := Aside0.mk ((by rw [hg]; exact (below_size (by repeat (first | (with_reducible first | exact HB.out | apply below_alloc | apply pw_below_drewN | apply below_drew1) | exact HB.out))) : w.heap.size ≤ gb268)); have n3_ := Aside0.mk ((by rw [hg]; exact (below_size (by repeat (first | (with_reducible first | exact HB.out | apply below_alloc | apply pw_below_drewN | apply below_drew1) | exact HB.out))) : w.heap.size ≤ gb268)); clear HB; have HB := n0_; have BK268 := n1_; have GW268 := n2_; have GE268 := n3_; clear n0_ n1_ n2_ n3_; clear hb hbox hg; have hcz6_0 : w5.cell? ⟨gb268, 0, none⟩ = some (.int .i64 a0_0) := (blk_cell BK268.out 0).trans rfl; have hcz6_1 : w5.cell? ⟨gb268, 1, none⟩ = some (.int .i64 a0_1) := (blk_cell BK268.out 1).trans rfl; have hfz6_0 := blk_frozen BK268.out 0; have hfz6_1 := blk_frozen BK268.out 1) | ((with_reducible refine gate_callee (f := 55) rfl ?_); refine goesL_ (some 4) rfl rfl Tryd.func55 (by kernel_rfl) rfl #[.agg #[.int .i64 a0_0, .int .i64 a0_1]] rfl (by (try simp only [List.map_toArray, List.map_cons, List.map_nil]); first | done | rfl | (simp only [List.length_drop, List.length_take]; rfl)) ?_; (with_reducible refine (impl_BrdLine_drawn.calls a0_0 a0_1 true _ A2.out).mono ?_); rintro e w7 ⟨rfl, hb⟩; refine ⟨_, rfl, ?_⟩; have n0_ := Aside0.mk (blk_below (g := gb268) (o := .cells #[.int .i64 a0_0, .int .i64 a0_1] 28 (0, 0)) (by (with_reducible repeat (first | refine blk_drewN ?_ _ | refine blk_drew ?_ | refine blk_alloc ?_ _)); exact BK268.out) hb); have n1_ := Aside0.mk (below_step (by repeat (first | (with_reducible first | exact HB.out | apply below_alloc | apply pw_below_drewN | apply below_drew1 | refine below_set ?_ GE268.out) | exact HB.out)) hb); clear BK268; clear HB; have BK268 := n0_; have HB := n1_; clear n0_ n1_; (try clear hb); (try clear hb2); (try clear hk); (try clear hi); have hcz8_0 : w7.cell? ⟨gb268, 0, none⟩ = some (.int .i64 a0_0) := (blk_cell BK268.out 0).trans rfl; have hcz8_1 : w7.cell? ⟨gb268, 1, none⟩ = some (.int .i64 a0_1) := (blk_cell BK268.out 1).trans rfl; have hfz8_0 := blk_frozen BK268.out 0; have hfz8_1 := blk_frozen BK268.out 1) | ((with_reducible refine gate_callee (f := 20) rfl ?_); refine goesL_ (some 7) rfl rfl Tryd.func20 (by kernel_rfl) rfl #[.int .i64 a0_1, .int .i64 1, .int .i64 3] rfl (by (try simp only [List.map_toArray, List.map_cons, List.map_nil]); first | done | rfl | (simp only [List.length_drop, List.length_take]; rfl)) ?_; (with_reducible refine (impl_in.calls a0_1 1 3 t270 _ A4.out).mono ?_); rintro e w' ⟨rfl, ⟨nd, rfl⟩⟩; refine ⟨_, rfl, ?_⟩))
    go_ret
    exact ⟨by first | rfl | (simp [IntKind.wrap_i64, wrap64]; done) | (simp [errW_none, errW_some] <;> rfl) | (simp [*, errW_none, errW_some] <;> rfl), by repeat (first | (with_reducible first | exact HB.out | apply below_alloc | apply pw_below_drewN | apply below_drew1 | refine below_set ?_ GE268.out) | exact HB.out)⟩
  · replace c3 := Bool.eq_false_iff.mpr c3
    subst c3
    have H1 : (if a0_0 = 0 then (some (a0_1 == 0)) else (if a0_0 = 4 then (some (a0_1 == 0)) else (some false))) = some r := by rw [if_neg (show ¬ (false = true) by decide)] at H; exact H
    clear H
    have H := H1
    clear H1
    by_cases c9 : a0_0 = 0
    · rw [if_pos c9] at H
      have c9b0 : (a0_0 == 0) = true := beq_iff_eq.mpr c9
      have c9b1 : (a0_0 != 0) = false := bne_eq_false_iff_eq.mpr c9
      clear c9
      obtain rfl := Option.some.inj H
      go_enter Tryd.func43, Tryd.ntmps43
      go_wp2_with (first | ((with_reducible refine gate_dst (N := 1) rfl ?_); refine box_event ?hg (N := 1) ?hd (cs := #[.int .i64 a0_0, .int .i64 a0_1]) (t := 28) ?hr ?_; (case hd => rfl); (case hg => rfl); (case hr => first | (go_simp; done) | (go_simp; rfl)); intro gb268 hg w10 hbox hb; have n0_ := Aside0.mk (below_step (by repeat (first | (with_reducible first | exact HB.out | apply below_alloc | apply pw_below_drewN | apply below_drew1) | exact HB.out)) hb); have n1_ := Aside0.mk (hbox); have n2_ := Aside0.mk ((by rw [hg]; exact (below_size (by repeat (first | (with_reducible first | exact HB.out | apply below_alloc | apply pw_below_drewN | apply below_drew1) | exact HB.out))) : w.heap.size ≤ gb268)); have n3_ := Aside0.mk ((by rw [hg]; exact (below_size (by repeat (first | (with_reducible first | exact HB.out | apply below_alloc | apply pw_below_drewN | apply below_drew1) | exact HB.out))) : w.heap.size ≤ gb268)); clear HB; have HB := n0_; have BK268 := n1_; have GW268 := n2_; have GE268 := n3_; clear n0_ n1_ n2_ n3_; clear hb hbox hg; have hcz11_0 : w10.cell? ⟨gb268, 0, none⟩ = some (.int .i64 a0_0) := (blk_cell BK268.out 0).trans rfl; have hcz11_1 : w10.cell? ⟨gb268, 1, none⟩ = some (.int .i64 a0_1) := (blk_cell BK268.out 1).trans rfl; have hfz11_0 := blk_frozen BK268.out 0; have hfz11_1 := blk_frozen BK268.out 1) | ((with_reducible refine gate_callee (f := 55) rfl ?_); refine goesL_ (some 4) rfl rfl Tryd.func55 (by kernel_rfl) rfl #[.agg #[.int .i64 a0_0, .int .i64 a0_1]] rfl (by (try simp only [List.map_toArray, List.map_cons, List.map_nil]); first | done | rfl | (simp only [List.length_drop, List.length_take]; rfl)) ?_; (with_reducible refine (impl_BrdLine_drawn.calls a0_0 a0_1 false _ A2.out).mono ?_); rintro e w12 ⟨rfl, hb⟩; refine ⟨_, rfl, ?_⟩; have n0_ := Aside0.mk (blk_below (g := gb268) (o := .cells #[.int .i64 a0_0, .int .i64 a0_1] 28 (0, 0)) (by (with_reducible repeat (first | refine blk_drewN ?_ _ | refine blk_drew ?_ | refine blk_alloc ?_ _)); exact BK268.out) hb); have n1_ := Aside0.mk (below_step (by repeat (first | (with_reducible first | exact HB.out | apply below_alloc | apply pw_below_drewN | apply below_drew1 | refine below_set ?_ GE268.out) | exact HB.out)) hb); clear BK268; clear HB; have BK268 := n0_; have HB := n1_; clear n0_ n1_; (try clear hb); (try clear hb2); (try clear hk); (try clear hi); have hcz13_0 : w12.cell? ⟨gb268, 0, none⟩ = some (.int .i64 a0_0) := (blk_cell BK268.out 0).trans rfl; have hcz13_1 : w12.cell? ⟨gb268, 1, none⟩ = some (.int .i64 a0_1) := (blk_cell BK268.out 1).trans rfl; have hfz13_0 := blk_frozen BK268.out 0; have hfz13_1 := blk_frozen BK268.out 1))
      go_ret
      exact ⟨by first | rfl | (simp [IntKind.wrap_i64, wrap64]; done) | (simp [errW_none, errW_some] <;> rfl) | (simp [*, errW_none, errW_some] <;> rfl), by repeat (first | (with_reducible first | exact HB.out | apply below_alloc | apply pw_below_drewN | apply below_drew1 | refine below_set ?_ GE268.out) | exact HB.out)⟩
    · rw [if_neg c9] at H
      have c9b0 : (a0_0 == 0) = false := beq_eq_false_iff_ne.mpr c9
      have c9b1 : (a0_0 != 0) = true := bne_iff_ne.mpr c9
      by_cases c14 : a0_0 = 4
      · rw [if_pos c14] at H
        have c14b0 : (a0_0 == 4) = true := beq_iff_eq.mpr c14
        have c14b1 : (a0_0 != 4) = false := bne_eq_false_iff_eq.mpr c14
        clear c14
        obtain rfl := Option.some.inj H
        go_enter Tryd.func43, Tryd.ntmps43
        go_wp2_with (first | ((with_reducible refine gate_dst (N := 1) rfl ?_); refine box_event ?hg (N := 1) ?hd (cs := #[.int .i64 a0_0, .int .i64 a0_1]) (t := 28) ?hr ?_; (case hd => rfl); (case hg => rfl); (case hr => first | (go_simp; done) | (go_simp; rfl)); intro gb268 hg w15 hbox hb; have n0_ := Aside0.mk (below_step (by repeat (first | (with_reducible first | exact HB.out | apply below_alloc | apply pw_below_drewN | apply below_drew1) | exact HB.out)) hb); have n1_ := Aside0.mk (hbox); have n2_ := Aside0.mk ((by rw [hg]; exact (below_size (by repeat (first | (with_reducible first | exact HB.out | apply below_alloc | apply pw_below_drewN | apply below_drew1) | exact HB.out))) : w.heap.size ≤ gb268)); have n3_ := Aside0.mk ((by rw [hg]; exact (below_size (by repeat (first | (with_reducible first | exact HB.out | apply below_alloc | apply pw_below_drewN | apply below_drew1) | exact HB.out))) : w.heap.size ≤ gb268)); clear HB; have HB := n0_; have BK268 := n1_; have GW268 := n2_; have GE268 := n3_; clear n0_ n1_ n2_ n3_; clear hb hbox hg; have hcz16_0 : w15.cell? ⟨gb268, 0, none⟩ = some (.int .i64 a0_0) := (blk_cell BK268.out 0).trans rfl; have hcz16_1 : w15.cell? ⟨gb268, 1, none⟩ = some (.int .i64 a0_1) := (blk_cell BK268.out 1).trans rfl; have hfz16_0 := blk_frozen BK268.out 0; have hfz16_1 := blk_frozen BK268.out 1) | ((with_reducible refine gate_callee (f := 55) rfl ?_); refine goesL_ (some 4) rfl rfl Tryd.func55 (by kernel_rfl) rfl #[.agg #[.int .i64 a0_0, .int .i64 a0_1]] rfl (by (try simp only [List.map_toArray, List.map_cons, List.map_nil]); first | done | rfl | (simp only [List.length_drop, List.length_take]; rfl)) ?_; (with_reducible refine (impl_BrdLine_drawn.calls a0_0 a0_1 false _ A2.out).mono ?_); rintro e w17 ⟨rfl, hb⟩; refine ⟨_, rfl, ?_⟩; have n0_ := Aside0.mk (blk_below (g := gb268) (o := .cells #[.int .i64 a0_0, .int .i64 a0_1] 28 (0, 0)) (by (with_reducible repeat (first | refine blk_drewN ?_ _ | refine blk_drew ?_ | refine blk_alloc ?_ _)); exact BK268.out) hb); have n1_ := Aside0.mk (below_step (by repeat (first | (with_reducible first | exact HB.out | apply below_alloc | apply pw_below_drewN | apply below_drew1 | refine below_set ?_ GE268.out) | exact HB.out)) hb); clear BK268; clear HB; have BK268 := n0_; have HB := n1_; clear n0_ n1_; (try clear hb); (try clear hb2); (try clear hk); (try clear hi); have hcz18_0 : w17.cell? ⟨gb268, 0, none⟩ = some (.int .i64 a0_0) := (blk_cell BK268.out 0).trans rfl; have hcz18_1 : w17.cell? ⟨gb268, 1, none⟩ = some (.int .i64 a0_1) := (blk_cell BK268.out 1).trans rfl; have hfz18_0 := blk_frozen BK268.out 0; have hfz18_1 := blk_frozen BK268.out 1))
        go_ret
        exact ⟨by first | rfl | (simp [IntKind.wrap_i64, wrap64]; done) | (simp [errW_none, errW_some] <;> rfl) | (simp [*, errW_none, errW_some] <;> rfl), by repeat (first | (with_reducible first | exact HB.out | apply below_alloc | apply pw_below_drewN | apply below_drew1 | refine below_set ?_ GE268.out) | exact HB.out)⟩
      · rw [if_neg c14] at H
        have c14b0 : (a0_0 == 4) = false := beq_eq_false_iff_ne.mpr c14
        have c14b1 : (a0_0 != 4) = true := bne_iff_ne.mpr c14
        obtain rfl := Option.some.inj H
        go_enter Tryd.func43, Tryd.ntmps43
        go_wp2_with (first | ((with_reducible refine gate_dst (N := 1) rfl ?_); refine box_event ?hg (N := 1) ?hd (cs := #[.int .i64 a0_0, .int .i64 a0_1]) (t := 28) ?hr ?_; (case hd => rfl); (case hg => rfl); (case hr => first | (go_simp; done) | (go_simp; rfl)); intro gb268 hg w19 hbox hb; have n0_ := Aside0.mk (below_step (by repeat (first | (with_reducible first | exact HB.out | apply below_alloc | apply pw_below_drewN | apply below_drew1) | exact HB.out)) hb); have n1_ := Aside0.mk (hbox); have n2_ := Aside0.mk ((by rw [hg]; exact (below_size (by repeat (first | (with_reducible first | exact HB.out | apply below_alloc | apply pw_below_drewN | apply below_drew1) | exact HB.out))) : w.heap.size ≤ gb268)); have n3_ := Aside0.mk ((by rw [hg]; exact (below_size (by repeat (first | (with_reducible first | exact HB.out | apply below_alloc | apply pw_below_drewN | apply below_drew1) | exact HB.out))) : w.heap.size ≤ gb268)); clear HB; have HB := n0_; have BK268 := n1_; have GW268 := n2_; have GE268 := n3_; clear n0_ n1_ n2_ n3_; clear hb hbox hg; have hcz20_0 : w19.cell? ⟨gb268, 0, none⟩ = some (.int .i64 a0_0) := (blk_cell BK268.out 0).trans rfl; have hcz20_1 : w19.cell? ⟨gb268, 1, none⟩ = some (.int .i64 a0_1) := (blk_cell BK268.out 1).trans rfl; have hfz20_0 := blk_frozen BK268.out 0; have hfz20_1 := blk_frozen BK268.out 1) | ((with_reducible refine gate_callee (f := 55) rfl ?_); refine goesL_ (some 4) rfl rfl Tryd.func55 (by kernel_rfl) rfl #[.agg #[.int .i64 a0_0, .int .i64 a0_1]] rfl (by (try simp only [List.map_toArray, List.map_cons, List.map_nil]); first | done | rfl | (simp only [List.length_drop, List.length_take]; rfl)) ?_; (with_reducible refine (impl_BrdLine_drawn.calls a0_0 a0_1 false _ A2.out).mono ?_); rintro e w21 ⟨rfl, hb⟩; refine ⟨_, rfl, ?_⟩; have n0_ := Aside0.mk (blk_below (g := gb268) (o := .cells #[.int .i64 a0_0, .int .i64 a0_1] 28 (0, 0)) (by (with_reducible repeat (first | refine blk_drewN ?_ _ | refine blk_drew ?_ | refine blk_alloc ?_ _)); exact BK268.out) hb); have n1_ := Aside0.mk (below_step (by repeat (first | (with_reducible first | exact HB.out | apply below_alloc | apply pw_below_drewN | apply below_drew1 | refine below_set ?_ GE268.out) | exact HB.out)) hb); clear BK268; clear HB; have BK268 := n0_; have HB := n1_; clear n0_ n1_; (try clear hb); (try clear hb2); (try clear hk); (try clear hi); have hcz22_0 : w21.cell? ⟨gb268, 0, none⟩ = some (.int .i64 a0_0) := (blk_cell BK268.out 0).trans rfl; have hcz22_1 : w21.cell? ⟨gb268, 1, none⟩ = some (.int .i64 a0_1) := (blk_cell BK268.out 1).trans rfl; have hfz22_0 := blk_frozen BK268.out 0; have hfz22_1 := blk_frozen BK268.out 1))
        go_ret
        exact ⟨by first | rfl | (simp [IntKind.wrap_i64, wrap64]; done) | (simp [errW_none, errW_some] <;> rfl) | (simp [*, errW_none, errW_some] <;> rfl), by repeat (first | (with_reducible first | exact HB.out | apply below_alloc | apply pw_below_drewN | apply below_drew1 | refine below_set ?_ GE268.out) | exact HB.out)⟩


end Go.Proofs.YtaihfkjfbjcmhabDoor.Q
