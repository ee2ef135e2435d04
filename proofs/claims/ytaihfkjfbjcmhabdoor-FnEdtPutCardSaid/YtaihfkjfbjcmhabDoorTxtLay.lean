/-
  The library's own contracts for strings.Split and strings.Trim, laid at this program; the words of a text.
  Conditions: the cell of internal/bytealg.MaxLen holds an int (MLen); texts below 4 GB.
-/
import Derived.Test.YtaihfkjfbjcmhabDoorProg
import Derived.WalkKit
import Derived.Below
import Derived.Ground.NamesProg
import Derived.Shelf.Lay
import Derived.Shelf.Strings.SplitShaped
import Derived.Shelf.Strings.SlTrimAscii
import Derived.Test.YtaihfkjfbjcmhabDoorWWords
import Derived.Test.YtaihfkjfbjcmhabDoorWLast
import Derived.Test.YtaihfkjfbjcmhabDoorWMore
namespace Go.Proofs
open Go.Shelf
shelf_lay LaysM.n146 Nm 146 at Tryd as Tryd.laysSplit
shelf_lay Lays.n160 Nm 160 at Tryd as Tryd.laysTrim
end Go.Proofs
namespace Go.Proofs.YtaihfkjfbjcmhabDoor.Txt
open Go.RowKit Go.Shelf Go.Proofs.YtaihfkjfbjcmhabDoorW.PrintWords Go.Proofs.YtaihfkjfbjcmhabDoorW.PrintLast Go.Proofs.YtaihfkjfbjcmhabDoorW.PrintMore
set_option linter.unusedVariables false
/-- The cell of the library's variable holds some int. -/
def MLen (w : World) : Prop := ∃ m, w.cell? ⟨Tryd.laysSplit_ren.g 1, 0, none⟩ = some (.int .i64 m)
theorem MLen_below {w w' : World} (h : MLen w) (hb : Below w.heap.size w w') : MLen w' := by
  obtain ⟨m, hm⟩ := h
  exact ⟨m, (hb.cell (World.block_lt_of_cell? w _ hm)).trans hm⟩
theorem MLen_alloc {w : World} (h : MLen w) (o : Obj) : MLen (w.alloc o) := MLen_below h (below_alloc (Below.refl _ _) o)
theorem MLen_drew {w : World} (h : MLen w) : MLen w.drew := MLen_below h (below_drew (Below.refl _ _))
theorem MLen_drewN {w : World} (h : MLen w) (n : Nat) : MLen (w.drewN n) := MLen_below h (pw_below_drewN (Below.refl _ _) n)
def ppAz : List UInt8 := [97, 98, 99, 100, 101, 102, 103, 104, 105, 106, 107, 108, 109, 110, 111, 112, 113, 114, 115, 116, 117, 118, 119, 120, 121, 122]
/-- What is left of a word, without small letters at its ends. -/
def ppRest (x : ByteArray) : ByteArray := ⟨(Lib.trimS x.data.toList ppAz).toArray⟩
def ppWordOk (x : ByteArray) : Bool := !x.toList.isEmpty && (ppRest x).toList.isEmpty
/-- The words of a text. -/
def ppWords (s : ByteArray) : List ByteArray := Lib.splitB ⟨#[32]⟩ 0 (Lib.countB s ⟨#[32]⟩) s
def ppTxtOk (s : ByteArray) : Bool := s.toList.isEmpty || ((ppWords s).all ppWordOk && decide ((s.size : Int) ≤ 30))
theorem trim_az (x : ByteArray) (w : World) (hs : x.size ≤ 9223372036854775807) : Calls Tryd.prog 49 #[.string x, .string ⟨#[97, 98, 99, 100, 101, 102, 103, 104, 105, 106, 107, 108, 109, 110, 111, 112, 113, 114, 115, 116, 117, 118, 119, 120, 121, 122]⟩] w fun e w' => e = .returned (.string (ppRest x)) ∧ Below w.heap.size w w' := by
  have hcon := Any.strings_Trim_laid Tryd.laysTrim (by kernel_rfl) x ⟨#[97, 98, 99, 100, 101, 102, 103, 104, 105, 106, 107, 108, 109, 110, 111, 112, 113, 114, 115, 116, 117, 118, 119, 120, 121, 122]⟩ w hs (by decide) (ascii_of_all (by decide))
  exact hcon
theorem split_sp (s : ByteArray) (w : World) (hM : MLen w) (hs : s.size < 4294967281) : Calls Tryd.prog 48 #[.string s, .string ⟨#[32]⟩] w fun e w' =>
      e = .returned (.slice (some ⟨w.heap.size, 0, none⟩) (ppWords s).length (ppWords s).length) ∧ w' = w.alloc (.cells ((ppWords s).map Value.string).toArray 9) := by
  obtain ⟨m, hm⟩ := hM
  have hcon := Any.strings_Split { Tryd.laysSplit with } Tryd.laysSplit.i9 s ⟨#[32]⟩ m w hs hm (by decide)
  have hlen : (ppWords s).length = Lib.countB s ⟨#[32]⟩ + 1 := Lib.splitB_all ⟨#[32]⟩ (by decide) 0 _ s rfl
  rw [hlen]
  exact hcon
theorem splitB_le (sep : ByteArray) : ∀ (k : Nat) (s x : ByteArray), x ∈ Lib.splitB sep 0 k s → x.size ≤ s.size := by
  intro k
  induction k with
  | zero =>
    intro s x hx
    rw [Lib.splitB_zero] at hx
    rw [List.mem_singleton.1 hx]
    exact Nat.le_refl _
  | succ k ih =>
    intro s x hx
    unfold Lib.splitB at hx
    split at hx
    · rw [List.mem_singleton.1 hx]
      exact Nat.le_refl _
    · rcases List.mem_cons.1 hx with rfl | hx
      · rw [ByteArray.size_extract]; omega
      · have := ih _ _ hx
        rw [ByteArray.size_extract] at this; omega
theorem ppWords_le (s x : ByteArray) (hx : x ∈ ppWords s) : x.size ≤ s.size := splitB_le _ _ _ _ hx
theorem ppWords_len (s : ByteArray) : (ppWords s).length ≤ s.size + 1 := by
  have hlen : (ppWords s).length = Lib.countB s ⟨#[32]⟩ + 1 := Lib.splitB_all ⟨#[32]⟩ (by decide) 0 _ s rfl
  have := Lib.countB_le ⟨#[32]⟩ (by decide) s.size s (Nat.le_refl _)
  omega
theorem MLen_shaped {w : World} (h : w.ShapedOpen Tryd.prog) : MLen w := Tryd.laysSplit.s1_3 w h
end Go.Proofs.YtaihfkjfbjcmhabDoor.Txt
