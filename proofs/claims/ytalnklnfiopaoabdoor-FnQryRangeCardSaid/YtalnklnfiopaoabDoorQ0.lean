-- Told by a program of this session (uprint.py).
import Derived.Test.YtalnklnfiopaoabDoorProg
import Derived.Below
import Derived.Deep.Draws
import Derived.Deep.AppendLies
import Derived.Maps.AppendAt
import Derived.OwnWalk
import Derived.Laws.BytesArg
import Derived.Laws.MakeOwn
import Derived.Laws.OwnMore
import Derived.Deep.OwnRows
import Derived.Tactics
import Derived.Lib.ConvBytes
import Derived.Laws.Slices
import Derived.WalkKit
import Derived.KernelRfl
import Derived.RowKit3
import Derived.Deep.LoopGhost
import Derived.Deep.QuietTactic
import Derived.BigQuiet
import Derived.WideLaws
import Derived.Deep.DeepCutAuto
import Derived.Deep.CutBlock
import Derived.Deep.RegionHeld3
import Derived.Laws.Rows
import Derived.Lib.AppendStr
import Derived.ArgAppend
import Derived.Laws.IdiomCopy
import Derived.OrdersHeld
import Derived.Laws.BitsLemmas
import Derived.RowKit
import Derived.Shelf.Abstract
import Derived.Test.YtalnklnfiopaoabDoorTxtLay
import Derived.Test.YtalnklnfiopaoabDoorWWords
import Derived.Test.YtalnklnfiopaoabDoorWLast
import Derived.Test.YtalnklnfiopaoabDoorWTab
import Derived.Test.YtalnklnfiopaoabDoorWFour
import Derived.Test.YtalnklnfiopaoabDoorWQPut
import Derived.Test.YtalnklnfiopaoabDoorWApart
import Derived.Test.YtalnklnfiopaoabDoorWArr
import Derived.Test.YtalnklnfiopaoabDoorWZeros
import Derived.Test.YtalnklnfiopaoabDoorWFoot
import Derived.Test.YtalnklnfiopaoabDoorWKept
import Derived.Test.YtalnklnfiopaoabDoorWShare
import Derived.Test.YtalnklnfiopaoabDoorWN
import Derived.Test.YtalnklnfiopaoabDoorWFootNe
import Derived.Test.YtalnklnfiopaoabDoorWAt
import Derived.Test.YtalnklnfiopaoabDoorWEqStruct
import Derived.Test.YtalnklnfiopaoabDoorWRepsOne
import Derived.Test.YtalnklnfiopaoabDoorWInv
import Derived.Test.YtalnklnfiopaoabDoorWInvWords
import Derived.Test.YtalnklnfiopaoabDoorWGuard
import Derived.Test.YtalnklnfiopaoabDoorWNEv
import Derived.Test.YtalnklnfiopaoabDoorWMore
namespace Go.Proofs.YtalnklnfiopaoabDoor.Q
open Go.RowKit Go.Proofs.YtalnklnfiopaoabDoorW.PrintWords Go.Proofs.YtalnklnfiopaoabDoorW.PrintLast Go.Proofs.YtalnklnfiopaoabDoorW.PrintMore
attribute [local go_sem] max2_int min2_int max_two min_two max_three min_three max_four min_four   -- for this text's walks alone
set_option linter.unusedVariables false
set_option linter.unusedSimpArgs false



def errW : Option Int → Value
  | none => .nilIface
  | some c => .iface 0 (.int .i64 c)
theorem errW_none : errW none = .nilIface := rfl
theorem errW_some (c : Int) : errW (some c) = .iface 0 (.int .i64 c) := rfl

theorem info3 : (Tryd.prog.info? 3).map (fun i => (i.zero, i.size, i.bytes)) = some (some (.int .i64 0), 1, 8) := by kernel_rfl
theorem info5 : (Tryd.prog.info? 5).map (fun i => (i.zero, i.size, i.bytes)) = some (some (.int .u8 0), 1, 1) := by kernel_rfl
theorem info9 : (Tryd.prog.info? 9).map (fun i => (i.zero, i.size, i.bytes)) = some (some (.string ⟨#[]⟩), 1, 16) := by kernel_rfl
theorem info29 : (Tryd.prog.info? 29).map (fun i => (i.zero, i.size, i.bytes)) = some (some (.agg #[(.int .i64 0), (.int .i64 0), (.int .i64 0), (.int .i64 0), (.int .i64 0)]), 5, 40) := by kernel_rfl
-- the values' own types
/-! #### struct type 61 -/
structure S61 where
  f0 : Int
  f1 : Int
def z61 : S61 := ⟨(0 : Int), (0 : Int)⟩
def k61 : Kd S61 := Kd.iso (Kd.pair (Kd.int .i64) (Kd.int .i64)) (fun x : S61 => (x.f0, x.f1))
theorem k61_open {w : World} {x : S61} {cs : List Value} (h : k61.K w x cs) : cs = [.int .i64 x.f0, .int .i64 x.f1] := by
  obtain ⟨_, _, rfl, rfl, rfl⟩ := h
  exact rfl
theorem k61_openM {w : World} {base : Nat} {ok : Nat → Prop} {x : S61} {cs : List Value} (h : k61.M w base ok x cs) : cs = [.int .i64 x.f0, .int .i64 x.f1] := by
  obtain ⟨_, _, rfl, rfl, rfl⟩ := h
  exact rfl
theorem k61_mk (w : World) (x : S61)  : k61.K w x [.int .i64 x.f0, .int .i64 x.f1] := ⟨[.int .i64 x.f0], [.int .i64 x.f1], rfl, rfl, rfl⟩
theorem k61_mkM (w : World) (base : Nat) (ok : Nat → Prop) (x : S61)  : k61.M w base ok x [.int .i64 x.f0, .int .i64 x.f1] := ⟨[.int .i64 x.f0], [.int .i64 x.f1], rfl, rfl, rfl⟩
def rd_T61 (xs : List S61) (i : Int) : S61 := xs.getD i.toNat z61
theorem at_T61 {w : World} {A : Option Addr} {n : Nat} {xs : List S61} (h : Kd.C k61 w A n xs) (i : Int) (h0 : 0 ≤ i) (h1 : i < n) : ∃ ad , A = some ad ∧ w.cell? (ad.add (i.toNat * 2)) = some (.int .i64 (rd_T61 xs i).f0) ∧ w.cell? ⟨(ad.add (i.toNat * 2)).block, (ad.add (i.toNat * 2)).off + 1, none⟩ = some (.int .i64 (rd_T61 xs i).f1) := by
  obtain ⟨ad, c, e, _, hK, hc0⟩ := Kd.C_get h z61 i h0 h1
  have hc : ∀ j u, c[j]? = some u → w.cell? (ad.add (i.toNat * 2 + j)) = some u := hc0
  obtain rfl := k61_open hK
  exact ⟨ad, e, hc 0 _ rfl, by rw [← add_field _ _ 1 (by omega)]; exact hc 1 _ rfl⟩

/-! #### struct type 66 -/
structure S66 where
  f0 : Int
  f1 : Int
def z66 : S66 := ⟨(0 : Int), (0 : Int)⟩
def k66 : Kd S66 := Kd.iso (Kd.pair (Kd.int .i64) (Kd.int .i64)) (fun x : S66 => (x.f0, x.f1))
theorem k66_open {w : World} {x : S66} {cs : List Value} (h : k66.K w x cs) : cs = [.int .i64 x.f0, .int .i64 x.f1] := by
  obtain ⟨_, _, rfl, rfl, rfl⟩ := h
  exact rfl
theorem k66_openM {w : World} {base : Nat} {ok : Nat → Prop} {x : S66} {cs : List Value} (h : k66.M w base ok x cs) : cs = [.int .i64 x.f0, .int .i64 x.f1] := by
  obtain ⟨_, _, rfl, rfl, rfl⟩ := h
  exact rfl
theorem k66_mk (w : World) (x : S66)  : k66.K w x [.int .i64 x.f0, .int .i64 x.f1] := ⟨[.int .i64 x.f0], [.int .i64 x.f1], rfl, rfl, rfl⟩
theorem k66_mkM (w : World) (base : Nat) (ok : Nat → Prop) (x : S66)  : k66.M w base ok x [.int .i64 x.f0, .int .i64 x.f1] := ⟨[.int .i64 x.f0], [.int .i64 x.f1], rfl, rfl, rfl⟩
def rd_T66 (xs : List S66) (i : Int) : S66 := xs.getD i.toNat z66
theorem at_T66 {w : World} {A : Option Addr} {n : Nat} {xs : List S66} (h : Kd.C k66 w A n xs) (i : Int) (h0 : 0 ≤ i) (h1 : i < n) : ∃ ad , A = some ad ∧ w.cell? (ad.add (i.toNat * 2)) = some (.int .i64 (rd_T66 xs i).f0) ∧ w.cell? ⟨(ad.add (i.toNat * 2)).block, (ad.add (i.toNat * 2)).off + 1, none⟩ = some (.int .i64 (rd_T66 xs i).f1) := by
  obtain ⟨ad, c, e, _, hK, hc0⟩ := Kd.C_get h z66 i h0 h1
  have hc : ∀ j u, c[j]? = some u → w.cell? (ad.add (i.toNat * 2 + j)) = some u := hc0
  obtain rfl := k66_open hK
  exact ⟨ad, e, hc 0 _ rfl, by rw [← add_field _ _ 1 (by omega)]; exact hc 1 _ rfl⟩

/-! #### struct type 68 -/
structure S68 where
  f0 : ByteArray
  f1 : Int
  f2 : Int
  f3 : S66
  f4 : S66
  f5 : S66
  f6 : S66
def z68 : S68 := ⟨(⟨#[]⟩ : ByteArray), (0 : Int), (0 : Int), z66, z66, z66, z66⟩
def k68 : Kd S68 := Kd.iso (Kd.pair Kd.string (Kd.pair (Kd.int .i64) (Kd.pair (Kd.int .i64) (Kd.pair k66 (Kd.pair k66 (Kd.pair k66 k66)))))) (fun x : S68 => (x.f0, x.f1, x.f2, x.f3, x.f4, x.f5, x.f6))
theorem k68_open {w : World} {x : S68} {cs : List Value} (h : k68.K w x cs) : cs = [.string x.f0, .int .i64 x.f1, .int .i64 x.f2, .int .i64 x.f3.f0, .int .i64 x.f3.f1, .int .i64 x.f4.f0, .int .i64 x.f4.f1, .int .i64 x.f5.f0, .int .i64 x.f5.f1, .int .i64 x.f6.f0, .int .i64 x.f6.f1] := by
  obtain ⟨_, _, rfl, rfl, ⟨_, _, rfl, rfl, ⟨_, _, rfl, rfl, ⟨_, _, rfl, s3, ⟨_, _, rfl, s5, ⟨_, _, rfl, s7, s9⟩⟩⟩⟩⟩⟩ := h
  obtain rfl := k66_open s3
  obtain rfl := k66_open s5
  obtain rfl := k66_open s7
  obtain rfl := k66_open s9
  exact rfl
theorem k68_openM {w : World} {base : Nat} {ok : Nat → Prop} {x : S68} {cs : List Value} (h : k68.M w base ok x cs) : cs = [.string x.f0, .int .i64 x.f1, .int .i64 x.f2, .int .i64 x.f3.f0, .int .i64 x.f3.f1, .int .i64 x.f4.f0, .int .i64 x.f4.f1, .int .i64 x.f5.f0, .int .i64 x.f5.f1, .int .i64 x.f6.f0, .int .i64 x.f6.f1] := by
  obtain ⟨_, _, rfl, rfl, ⟨_, _, rfl, rfl, ⟨_, _, rfl, rfl, ⟨_, _, rfl, s3, ⟨_, _, rfl, s5, ⟨_, _, rfl, s7, s9⟩⟩⟩⟩⟩⟩ := h
  obtain rfl := k66_openM s3
  obtain rfl := k66_openM s5
  obtain rfl := k66_openM s7
  obtain rfl := k66_openM s9
  exact rfl
theorem k68_mk (w : World) (x : S68)  : k68.K w x [.string x.f0, .int .i64 x.f1, .int .i64 x.f2, .int .i64 x.f3.f0, .int .i64 x.f3.f1, .int .i64 x.f4.f0, .int .i64 x.f4.f1, .int .i64 x.f5.f0, .int .i64 x.f5.f1, .int .i64 x.f6.f0, .int .i64 x.f6.f1] := ⟨[.string x.f0], [.int .i64 x.f1, .int .i64 x.f2, .int .i64 x.f3.f0, .int .i64 x.f3.f1, .int .i64 x.f4.f0, .int .i64 x.f4.f1, .int .i64 x.f5.f0, .int .i64 x.f5.f1, .int .i64 x.f6.f0, .int .i64 x.f6.f1], rfl, rfl, ⟨[.int .i64 x.f1], [.int .i64 x.f2, .int .i64 x.f3.f0, .int .i64 x.f3.f1, .int .i64 x.f4.f0, .int .i64 x.f4.f1, .int .i64 x.f5.f0, .int .i64 x.f5.f1, .int .i64 x.f6.f0, .int .i64 x.f6.f1], rfl, rfl, ⟨[.int .i64 x.f2], [.int .i64 x.f3.f0, .int .i64 x.f3.f1, .int .i64 x.f4.f0, .int .i64 x.f4.f1, .int .i64 x.f5.f0, .int .i64 x.f5.f1, .int .i64 x.f6.f0, .int .i64 x.f6.f1], rfl, rfl, ⟨[.int .i64 x.f3.f0, .int .i64 x.f3.f1], [.int .i64 x.f4.f0, .int .i64 x.f4.f1, .int .i64 x.f5.f0, .int .i64 x.f5.f1, .int .i64 x.f6.f0, .int .i64 x.f6.f1], rfl, (k66_mk w x.f3 ), ⟨[.int .i64 x.f4.f0, .int .i64 x.f4.f1], [.int .i64 x.f5.f0, .int .i64 x.f5.f1, .int .i64 x.f6.f0, .int .i64 x.f6.f1], rfl, (k66_mk w x.f4 ), ⟨[.int .i64 x.f5.f0, .int .i64 x.f5.f1], [.int .i64 x.f6.f0, .int .i64 x.f6.f1], rfl, (k66_mk w x.f5 ), (k66_mk w x.f6 )⟩⟩⟩⟩⟩⟩
theorem k68_mkM (w : World) (base : Nat) (ok : Nat → Prop) (x : S68)  : k68.M w base ok x [.string x.f0, .int .i64 x.f1, .int .i64 x.f2, .int .i64 x.f3.f0, .int .i64 x.f3.f1, .int .i64 x.f4.f0, .int .i64 x.f4.f1, .int .i64 x.f5.f0, .int .i64 x.f5.f1, .int .i64 x.f6.f0, .int .i64 x.f6.f1] := ⟨[.string x.f0], [.int .i64 x.f1, .int .i64 x.f2, .int .i64 x.f3.f0, .int .i64 x.f3.f1, .int .i64 x.f4.f0, .int .i64 x.f4.f1, .int .i64 x.f5.f0, .int .i64 x.f5.f1, .int .i64 x.f6.f0, .int .i64 x.f6.f1], rfl, rfl, ⟨[.int .i64 x.f1], [.int .i64 x.f2, .int .i64 x.f3.f0, .int .i64 x.f3.f1, .int .i64 x.f4.f0, .int .i64 x.f4.f1, .int .i64 x.f5.f0, .int .i64 x.f5.f1, .int .i64 x.f6.f0, .int .i64 x.f6.f1], rfl, rfl, ⟨[.int .i64 x.f2], [.int .i64 x.f3.f0, .int .i64 x.f3.f1, .int .i64 x.f4.f0, .int .i64 x.f4.f1, .int .i64 x.f5.f0, .int .i64 x.f5.f1, .int .i64 x.f6.f0, .int .i64 x.f6.f1], rfl, rfl, ⟨[.int .i64 x.f3.f0, .int .i64 x.f3.f1], [.int .i64 x.f4.f0, .int .i64 x.f4.f1, .int .i64 x.f5.f0, .int .i64 x.f5.f1, .int .i64 x.f6.f0, .int .i64 x.f6.f1], rfl, (k66_mkM w base ok x.f3 ), ⟨[.int .i64 x.f4.f0, .int .i64 x.f4.f1], [.int .i64 x.f5.f0, .int .i64 x.f5.f1, .int .i64 x.f6.f0, .int .i64 x.f6.f1], rfl, (k66_mkM w base ok x.f4 ), ⟨[.int .i64 x.f5.f0, .int .i64 x.f5.f1], [.int .i64 x.f6.f0, .int .i64 x.f6.f1], rfl, (k66_mkM w base ok x.f5 ), (k66_mkM w base ok x.f6 )⟩⟩⟩⟩⟩⟩
def rd_T68 (xs : List S68) (i : Int) : S68 := xs.getD i.toNat z68
theorem at_T68 {w : World} {A : Option Addr} {n : Nat} {xs : List S68} (h : Kd.C k68 w A n xs) (i : Int) (h0 : 0 ≤ i) (h1 : i < n) : ∃ ad , A = some ad ∧ w.cell? (ad.add (i.toNat * 11)) = some (.string (rd_T68 xs i).f0) ∧ w.cell? ⟨(ad.add (i.toNat * 11)).block, (ad.add (i.toNat * 11)).off + 1, none⟩ = some (.int .i64 (rd_T68 xs i).f1) ∧ w.cell? ⟨(ad.add (i.toNat * 11)).block, (ad.add (i.toNat * 11)).off + 2, none⟩ = some (.int .i64 (rd_T68 xs i).f2) ∧ w.cell? ⟨(ad.add (i.toNat * 11)).block, (ad.add (i.toNat * 11)).off + 3, none⟩ = some (.int .i64 (rd_T68 xs i).f3.f0) ∧ w.cell? ⟨(ad.add (i.toNat * 11)).block, (ad.add (i.toNat * 11)).off + 4, none⟩ = some (.int .i64 (rd_T68 xs i).f3.f1) ∧ w.cell? ⟨(ad.add (i.toNat * 11)).block, (ad.add (i.toNat * 11)).off + 5, none⟩ = some (.int .i64 (rd_T68 xs i).f4.f0) ∧ w.cell? ⟨(ad.add (i.toNat * 11)).block, (ad.add (i.toNat * 11)).off + 6, none⟩ = some (.int .i64 (rd_T68 xs i).f4.f1) ∧ w.cell? ⟨(ad.add (i.toNat * 11)).block, (ad.add (i.toNat * 11)).off + 7, none⟩ = some (.int .i64 (rd_T68 xs i).f5.f0) ∧ w.cell? ⟨(ad.add (i.toNat * 11)).block, (ad.add (i.toNat * 11)).off + 8, none⟩ = some (.int .i64 (rd_T68 xs i).f5.f1) ∧ w.cell? ⟨(ad.add (i.toNat * 11)).block, (ad.add (i.toNat * 11)).off + 9, none⟩ = some (.int .i64 (rd_T68 xs i).f6.f0) ∧ w.cell? ⟨(ad.add (i.toNat * 11)).block, (ad.add (i.toNat * 11)).off + 10, none⟩ = some (.int .i64 (rd_T68 xs i).f6.f1) := by
  obtain ⟨ad, c, e, _, hK, hc0⟩ := Kd.C_get h z68 i h0 h1
  have hc : ∀ j u, c[j]? = some u → w.cell? (ad.add (i.toNat * 11 + j)) = some u := hc0
  obtain rfl := k68_open hK
  exact ⟨ad, e, hc 0 _ rfl, by rw [← add_field _ _ 1 (by omega)]; exact hc 1 _ rfl, by rw [← add_field _ _ 2 (by omega)]; exact hc 2 _ rfl, by rw [← add_field _ _ 3 (by omega)]; exact hc 3 _ rfl, by rw [← add_field _ _ 4 (by omega)]; exact hc 4 _ rfl, by rw [← add_field _ _ 5 (by omega)]; exact hc 5 _ rfl, by rw [← add_field _ _ 6 (by omega)]; exact hc 6 _ rfl, by rw [← add_field _ _ 7 (by omega)]; exact hc 7 _ rfl, by rw [← add_field _ _ 8 (by omega)]; exact hc 8 _ rfl, by rw [← add_field _ _ 9 (by omega)]; exact hc 9 _ rfl, by rw [← add_field _ _ 10 (by omega)]; exact hc 10 _ rfl⟩

def rd_L6 (xs : List (List S68)) (i : Int) : (List S68) := xs.getD i.toNat ([] : List S68)
theorem at_L6 {w : World} {A : Option Addr} {n : Nat} {xs : List (List S68)} (h : Kd.C (Kd.slice 68 k68) w A n xs) (i : Int) (h0 : 0 ≤ i) (h1 : i < n) : ∃ ad A0 c0, A = some ad ∧ w.cell? (ad.add i.toNat) = some (.slice A0 (rd_L6 xs i).length c0) ∧ (rd_L6 xs i).length ≤ c0 ∧ k68.C w A0 (rd_L6 xs i).length (rd_L6 xs i) := by
  obtain ⟨ad, c, e, _, hK, hc0⟩ := Kd.C_get h ([] : List S68) i h0 h1
  have hc : ∀ j u, c[j]? = some u → w.cell? (ad.add (i.toNat * 1 + j)) = some u := hc0
  obtain ⟨A0, c0, rfl, l0, g0⟩ := hK
  exact ⟨ad, A0, c0, e, by have hq := hc 0 _ rfl; rwa [Nat.mul_one, Nat.add_zero] at hq, l0, g0⟩

/-! #### struct type 64 -/
structure S64 where
  f0 : (List S68)
  f1 : Bool
def z64 : S64 := ⟨([] : List S68), false⟩
def k64 : Kd S64 := Kd.iso (Kd.pair (Kd.slice 68 k68) Kd.bool) (fun x : S64 => (x.f0, x.f1))
theorem k64_open {w : World} {x : S64} {cs : List Value} (h : k64.K w x cs) : ∃ A0 c0, cs = [.slice A0 x.f0.length c0, .bool x.f1] ∧ x.f0.length ≤ c0 ∧ k68.C w A0 x.f0.length x.f0 := by
  obtain ⟨_, _, rfl, ⟨A0, c0, rfl, l0, g0⟩, rfl⟩ := h
  exact ⟨A0, c0, rfl, l0, g0⟩
theorem k64_openM {w : World} {base : Nat} {ok : Nat → Prop} {x : S64} {cs : List Value} (h : k64.M w base ok x cs) : ∃ v0, cs = [v0, .bool x.f1] ∧ k68.R 68 w base ok v0 x.f0 := by
  obtain ⟨_, _, rfl, ⟨v0, rfl, g0⟩, rfl⟩ := h
  exact ⟨v0, rfl, g0⟩
theorem k64_mk (w : World) (x : S64) {A0 : Option Addr} {c0 : Nat} (l0 : x.f0.length ≤ c0) (g0 : k68.C w A0 x.f0.length x.f0) : k64.K w x [.slice A0 x.f0.length c0, .bool x.f1] := ⟨[.slice A0 x.f0.length c0], [.bool x.f1], rfl, ⟨A0, c0, rfl, l0, g0⟩, rfl⟩
theorem k64_mkM (w : World) (base : Nat) (ok : Nat → Prop) (x : S64) {v0 : Value} (g0 : k68.R 68 w base ok v0 x.f0) : k64.M w base ok x [v0, .bool x.f1] := ⟨[v0], [.bool x.f1], rfl, ⟨v0, rfl, g0⟩, rfl⟩
def rd_T64 (xs : List S64) (i : Int) : S64 := xs.getD i.toNat z64
theorem at_T64 {w : World} {A : Option Addr} {n : Nat} {xs : List S64} (h : Kd.C k64 w A n xs) (i : Int) (h0 : 0 ≤ i) (h1 : i < n) : ∃ ad A0 c0, A = some ad ∧ w.cell? (ad.add (i.toNat * 2)) = some (.slice A0 (rd_T64 xs i).f0.length c0) ∧ w.cell? ⟨(ad.add (i.toNat * 2)).block, (ad.add (i.toNat * 2)).off + 1, none⟩ = some (.bool (rd_T64 xs i).f1) ∧ (rd_T64 xs i).f0.length ≤ c0 ∧ k68.C w A0 (rd_T64 xs i).f0.length (rd_T64 xs i).f0 := by
  obtain ⟨ad, c, e, _, hK, hc0⟩ := Kd.C_get h z64 i h0 h1
  have hc : ∀ j u, c[j]? = some u → w.cell? (ad.add (i.toNat * 2 + j)) = some u := hc0
  obtain ⟨A0, c0, rfl, l0, g0⟩ := k64_open hK
  exact ⟨ad, A0, c0, e, hc 0 _ rfl, by rw [← add_field _ _ 1 (by omega)]; exact hc 1 _ rfl, l0, g0⟩

/-! #### struct type 29 -/
structure S29 where
  f0 : Int
  f1 : Int
  f2 : Int
  f3 : Int
  f4 : Int
def z29 : S29 := ⟨(0 : Int), (0 : Int), (0 : Int), (0 : Int), (0 : Int)⟩
def k29 : Kd S29 := Kd.iso (Kd.pair (Kd.int .i64) (Kd.pair (Kd.int .i64) (Kd.pair (Kd.int .i64) (Kd.pair (Kd.int .i64) (Kd.int .i64))))) (fun x : S29 => (x.f0, x.f1, x.f2, x.f3, x.f4))
theorem k29_open {w : World} {x : S29} {cs : List Value} (h : k29.K w x cs) : cs = [.int .i64 x.f0, .int .i64 x.f1, .int .i64 x.f2, .int .i64 x.f3, .int .i64 x.f4] := by
  obtain ⟨_, _, rfl, rfl, ⟨_, _, rfl, rfl, ⟨_, _, rfl, rfl, ⟨_, _, rfl, rfl, rfl⟩⟩⟩⟩ := h
  exact rfl
theorem k29_openM {w : World} {base : Nat} {ok : Nat → Prop} {x : S29} {cs : List Value} (h : k29.M w base ok x cs) : cs = [.int .i64 x.f0, .int .i64 x.f1, .int .i64 x.f2, .int .i64 x.f3, .int .i64 x.f4] := by
  obtain ⟨_, _, rfl, rfl, ⟨_, _, rfl, rfl, ⟨_, _, rfl, rfl, ⟨_, _, rfl, rfl, rfl⟩⟩⟩⟩ := h
  exact rfl
theorem k29_mk (w : World) (x : S29)  : k29.K w x [.int .i64 x.f0, .int .i64 x.f1, .int .i64 x.f2, .int .i64 x.f3, .int .i64 x.f4] := ⟨[.int .i64 x.f0], [.int .i64 x.f1, .int .i64 x.f2, .int .i64 x.f3, .int .i64 x.f4], rfl, rfl, ⟨[.int .i64 x.f1], [.int .i64 x.f2, .int .i64 x.f3, .int .i64 x.f4], rfl, rfl, ⟨[.int .i64 x.f2], [.int .i64 x.f3, .int .i64 x.f4], rfl, rfl, ⟨[.int .i64 x.f3], [.int .i64 x.f4], rfl, rfl, rfl⟩⟩⟩⟩
theorem k29_mkM (w : World) (base : Nat) (ok : Nat → Prop) (x : S29)  : k29.M w base ok x [.int .i64 x.f0, .int .i64 x.f1, .int .i64 x.f2, .int .i64 x.f3, .int .i64 x.f4] := ⟨[.int .i64 x.f0], [.int .i64 x.f1, .int .i64 x.f2, .int .i64 x.f3, .int .i64 x.f4], rfl, rfl, ⟨[.int .i64 x.f1], [.int .i64 x.f2, .int .i64 x.f3, .int .i64 x.f4], rfl, rfl, ⟨[.int .i64 x.f2], [.int .i64 x.f3, .int .i64 x.f4], rfl, rfl, ⟨[.int .i64 x.f3], [.int .i64 x.f4], rfl, rfl, rfl⟩⟩⟩⟩
def rd_T29 (xs : List S29) (i : Int) : S29 := xs.getD i.toNat z29
theorem at_T29 {w : World} {A : Option Addr} {n : Nat} {xs : List S29} (h : Kd.C k29 w A n xs) (i : Int) (h0 : 0 ≤ i) (h1 : i < n) : ∃ ad , A = some ad ∧ w.cell? (ad.add (i.toNat * 5)) = some (.int .i64 (rd_T29 xs i).f0) ∧ w.cell? ⟨(ad.add (i.toNat * 5)).block, (ad.add (i.toNat * 5)).off + 1, none⟩ = some (.int .i64 (rd_T29 xs i).f1) ∧ w.cell? ⟨(ad.add (i.toNat * 5)).block, (ad.add (i.toNat * 5)).off + 2, none⟩ = some (.int .i64 (rd_T29 xs i).f2) ∧ w.cell? ⟨(ad.add (i.toNat * 5)).block, (ad.add (i.toNat * 5)).off + 3, none⟩ = some (.int .i64 (rd_T29 xs i).f3) ∧ w.cell? ⟨(ad.add (i.toNat * 5)).block, (ad.add (i.toNat * 5)).off + 4, none⟩ = some (.int .i64 (rd_T29 xs i).f4) := by
  obtain ⟨ad, c, e, _, hK, hc0⟩ := Kd.C_get h z29 i h0 h1
  have hc : ∀ j u, c[j]? = some u → w.cell? (ad.add (i.toNat * 5 + j)) = some u := hc0
  obtain rfl := k29_open hK
  exact ⟨ad, e, hc 0 _ rfl, by rw [← add_field _ _ 1 (by omega)]; exact hc 1 _ rfl, by rw [← add_field _ _ 2 (by omega)]; exact hc 2 _ rfl, by rw [← add_field _ _ 3 (by omega)]; exact hc 3 _ rfl, by rw [← add_field _ _ 4 (by omega)]; exact hc 4 _ rfl⟩

end Go.Proofs.YtalnklnfiopaoabDoor.Q
