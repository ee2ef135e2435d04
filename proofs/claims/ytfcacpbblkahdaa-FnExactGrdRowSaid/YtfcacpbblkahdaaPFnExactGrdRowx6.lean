-- Told by a program of this session (myprint.py).
import Derived.Test.YtfcacpbblkahdaaPFnExactGrdRowx5
namespace Go.Proofs.Ytfcacpbblkahdaa.PFnExactGrdRow
open Go.RowKit Go.Proofs.YtfcacpbblkahdaaW.PrintWords Go.Proofs.YtfcacpbblkahdaaW.PrintLast Go.Proofs.YtfcacpbblkahdaaW.PrintMore
attribute [local go_sem] max2_int min2_int max_two min_two max_three min_three max_four min_four
set_option linter.unusedVariables false
set_option linter.unusedSimpArgs false

/-! ### impl_GrdRow: function 43 (by hand) -/
theorem clo_GrdRow (a00 a01 : Int) (A : Option Addr) (c : Nat) (l : List S46) (at_ k : Int) (b1 b2 : Nat) (w : World) (h1 : w.heap[b1]? = some (.cells #[.int .i64 a00, .int .i64 a01, .slice A l.length c] 59 (0, 0))) (h2 : w.cell? ⟨b2, 0, none⟩ = some (.int .i64 at_)) (hr : Kd.C k46 w A l.length l) (hc : l.length ≤ c) :
    Calls Try.prog 82 #[.int .i64 k, .pointer (some ⟨b1, 0, none⟩), .pointer (some ⟨b2, 0, none⟩)] w fun e w' => e = .returned (.int .i64 (ppIdx (fun x => ppHasB x at_ k) l)) ∧ Below w.heap.size w w' := by
  have hcz0 : w.cell? ⟨b1, 0, none⟩ = some (.int .i64 a00) := (blk_cell h1 0).trans rfl
  have hcz1 : w.cell? ⟨b1, 1, none⟩ = some (.int .i64 a01) := (blk_cell h1 1).trans rfl
  have hcz2 : w.cell? ⟨b1, 2, none⟩ = some (.slice A l.length c) := (blk_cell h1 2).trans rfl
  have hfz0 := blk_frozen h1 0
  have hfz1 := blk_frozen h1 1
  have hfz2 := blk_frozen h1 2
  have hb1 := blk_lt h1
  have hb2 := World.block_lt_of_cell? w _ h2
  have HR := Aside0.mk hr
  have HC := Aside0.mk hc
  clear hr hc h1
  have hu := Try.underlying59
  go_enter Try.func82, Try.ntmps82
  go_wp2_with (go_at_call 34; (with_reducible refine (impl_GrdAt.calls 0 a00 a01 A c l at_ k _ _ ?hr HC.out rfl).mono ?_); (case hr => repeat (first | exact HR.out | (with_reducible refine Kd.C_alloc ?_ _))); rintro e w' ⟨rfl, hb⟩)
  go_ret
  exact ⟨rfl, hb⟩
def impl_GrdRow.f (k : Nat) (a0_0 : Int) (a0_1 : Int) (l0_2 : List S46) (a1 : Int) : Option (List Int) := impl_changes.f (fun j => ppIdx (fun x => ppHasB x a1 j) l0_2) k (if 94 < (if a0_1 < 0 then 0 else a0_1) then 94 else (if a0_1 < 0 then 0 else a0_1))
theorem impl_GrdRow.mono : ∀ a0_0 a0_1 a0_2 a1 k, LeO (impl_GrdRow.f k a0_0 a0_1 a0_2 a1) (impl_GrdRow.f (k + 1) a0_0 a0_1 a0_2 a1) := fun _ _ _ _ _ => impl_changes.mono _ _ _
set_option maxHeartbeats 2000000 in
set_option maxRecDepth 100000 in
theorem impl_GrdRow.calls (k : Nat) (a0_0 : Int) (a0_1 : Int) (A0_2 : Option Addr) (c0_2 : Nat) (l0_2 : List (S46)) (a1 : Int) (r : List Int) (w : World) (hr0_2 : Kd.C k46 w A0_2 l0_2.length l0_2) (hc0_2 : l0_2.length ≤ c0_2) (h : impl_GrdRow.f k a0_0 a0_1 l0_2 a1 = some r) :
    Calls Try.prog 43 #[.agg #[.int .i64 a0_0, .int .i64 a0_1, .slice A0_2 l0_2.length c0_2], .int .i64 a1] w fun e w' => ∃ v0_ : Value, e = .returned (v0_) ∧ Kd.R (Kd.int .i64) 3 w' w.heap.size (fun _ => True) v0_ r ∧ Below w.heap.size w w' := by
  have HR := Aside0.mk hr0_2
  have HC := Aside0.mk hc0_2
  unfold impl_GrdRow.f at h
  have H := Aside0.mk h
  clear hr0_2 hc0_2 h
  have eg : ∀ args w, (callFunc 82 args).run Try.prog w = .ok (.enter 82 args) w := enters_of Try.func82 (by kernel_rfl) rfl
  have hu := Try.underlying59
  have hp : ∀ (W0 : World), W0.heap[w.heap.size]? = some (.cells #[.int .i64 a0_0, .int .i64 a0_1, .slice A0_2 l0_2.length c0_2] 59 (0, 0)) → W0.cell? ⟨w.heap.size + 1, 0, none⟩ = some (.int .i64 a1) → Kd.C k46 W0 A0_2 l0_2.length l0_2 → ∀ (W : World) (j : Int), Below W0.heap.size W0 W → Calls Try.prog 82 (#[.int .i64 j] ++ #[.pointer (some ⟨w.heap.size, 0, none⟩), .pointer (some ⟨w.heap.size + 1, 0, none⟩)]) W fun e W' => e = .returned (.int .i64 ((fun j => ppIdx (fun x => ppHasB x a1 j) l0_2) j)) ∧ Below W.heap.size W W' := by
    intro W0 h1 h2 h3 W j hb
    exact clo_GrdRow a0_0 a0_1 A0_2 c0_2 l0_2 a1 j _ _ W (blk_below h1 hb) ((hb.cell (World.block_lt_of_cell? W0 _ h2)).trans h2) (Kd.C_below h3 hb) HC.out
  have HP := Aside0.mk hp
  clear hp
  go_enter Try.func43, Try.ntmps43
  go_wp2_with (go_at_call 79; (with_reducible refine (impl_changes.calls (fun j => ppIdx (fun x => ppHasB x a1 j) l0_2) 82 _ eg k _ r _ (HP.out _ ?h1 ?h2 ?h3) H.out).mono ?_); (case h1 => first | exact blk_alloc (blk_new _ _) _ | exact blk_alloc (blk_alloc (blk_new _ _) _) _ | go_simp); (case h2 => go_simp); (case h3 => repeat (first | exact HR.out | (with_reducible refine Kd.C_alloc ?_ _))); rintro e w' ⟨v_, rfl, ho, hb⟩)
  all_goals (go_ret; exact ⟨_, rfl, Kd.R_lower ho (below_alloc (below_alloc (Below.refl w.heap.size w) _) _).size, below_step (below_alloc (below_alloc (Below.refl _ _) _) _) hb⟩)


end Go.Proofs.Ytfcacpbblkahdaa.PFnExactGrdRow
