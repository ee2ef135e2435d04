-- Told by a program of this session (uprint.py, ulay.py).
import Derived.Test.YtkbcmbjoelkgoaaDoorQ0
import Derived.Test.YtkbcmbjoelkgoaaDoorQspecl20Open
import Derived.Test.YtkbcmbjoelkgoaaDoorQspecDrawGrdRow
import Derived.Test.YtkbcmbjoelkgoaaDoorQspecGrdOk
import Derived.Test.YtkbcmbjoelkgoaaDoorQimplGrdOk
namespace Go.Proofs.YtkbcmbjoelkgoaaDoor.Q
open Go.RowKit Go.Proofs.YtkbcmbjoelkgoaaDoorW.PrintWords Go.Proofs.YtkbcmbjoelkgoaaDoorW.PrintLast Go.Proofs.YtkbcmbjoelkgoaaDoorW.PrintMore
attribute [local go_sem] max2_int min2_int max_two min_two max_three min_three max_four min_four
set_option linter.unusedVariables false
set_option linter.unusedSimpArgs false

/-! ### laws_FnGrdRow: function 3 (by hand) -/
mutual
def laws_FnGrdRow.j0 : Nat → List Int → List Int → Bool → Option (Bool)
  | 0, _, _, _ => none
  | k + 1, x0, x1, x24 => if x24 = true then (some true) else ((spec_DrawGrdRow.f k x0).bind fun bt389 => ((spec_DrawGrdCol.f k x1).bind fun bt396 => ((impl_GrdRow.f k bt389.1 bt389.2.1 bt389.2.2.1 bt389.2.2.2).bind fun t403 => ((impl_GrdCol.f k bt396.1 bt396.2.1 bt396.2.2.1 bt396.2.2.2).bind fun t406 => ((spec_GrdRow.f k bt389.1 bt389.2.1 bt389.2.2.1 bt389.2.2.2).bind fun t409 => ((laws_pwInts.f k t403 t409).bind fun t412 => (if t412 = true then ((spec_GrdCol.f k bt396.1 bt396.2.1 bt396.2.2.1 bt396.2.2.2).bind fun t413 => ((laws_pwInts.f k t406 t413).bind fun t416 => (laws_FnGrdRow.j1 k bt389.2.2.2 bt396.2.2.2 t403 t406 (!t416) bt389.1 bt389.2.1 bt389.2.2.1 bt396.1 bt396.2.1 bt396.2.2.1))) else (laws_FnGrdRow.j1 k bt389.2.2.2 bt396.2.2.2 t403 t406 true bt389.1 bt389.2.1 bt389.2.2.1 bt396.1 bt396.2.1 bt396.2.2.1))))))))
def laws_FnGrdRow.j1 : Nat → Int → Int → List Int → List Int → Bool → Int → Int → List (S34) → Int → Int → List (S34) → Option (Bool)
  | 0, _, _, _, _, _, _, _, _, _, _, _ => none
  | k + 1, x6, x8, x9, x10, x54, x396000, x396001, x396002, x403000, x403001, x403002 => if x54 = true then (some false) else ((spec_GrdOk.f k x396000 x396001 x396002).bind fun t417 => (if t417 = true then ((spec_GrdOk.f k x403000 x403001 x403002).bind fun t418 => (laws_FnGrdRow.j2 k x6 x8 x9 x10 (!t418) x396000 x396001 x396002 x403000 x403001 x403002)) else (laws_FnGrdRow.j2 k x6 x8 x9 x10 true x396000 x396001 x396002 x403000 x403001 x403002)))
def laws_FnGrdRow.j2 : Nat → Int → Int → List Int → List Int → Bool → Int → Int → List (S34) → Int → Int → List (S34) → Option (Bool)
  | 0, _, _, _, _, _, _, _, _, _, _, _ => none
  | k + 1, x6, x8, x9, x10, x62, x396000, x396001, x396002, x403000, x403001, x403002 => if x62 = true then ((impl_GrdOk.f k x396000 x396001 x396002).bind fun t419 => ((spec_GrdOk.f k x396000 x396001 x396002).bind fun t420 => (if (t419 == t420) = true then ((laws_pwOk.f).bind fun t421 => (some t421)) else (some false)))) else (laws_FnGrdRow.l0 k x6 x8 x9 x10 0 0 x396000 x396001 x396002 x403000 x403001 x403002)
def laws_FnGrdRow.l0 : Nat → Int → Int → List Int → List Int → Int → Int → Int → Int → List (S34) → Int → Int → List (S34) → Option (Bool)
  | 0, _, _, _, _, _, _, _, _, _, _, _, _ => none
  | k + 1, x6, x8, x9, x10, x11, x12, x396000, x396001, x396002, x403000, x403001, x403002 => if x12 < (x396002.length : Int) then (if 0 ≤ x12 then (if x6 ≥ ((rd_T34 x396002 x12).f0) then (if x6 < (wrap64 (((rd_T34 x396002 x12).f0) + ((rd_T34 x396002 x12).f2))) then (laws_FnGrdRow.l0 k x6 x8 x9 x10 (wrap64 (x11 + 1)) (wrap64 (x12 + 1)) x396000 x396001 x396002 x403000 x403001 x403002) else (laws_FnGrdRow.l0 k x6 x8 x9 x10 x11 (wrap64 (x12 + 1)) x396000 x396001 x396002 x403000 x403001 x403002)) else (laws_FnGrdRow.l0 k x6 x8 x9 x10 x11 (wrap64 (x12 + 1)) x396000 x396001 x396002 x403000 x403001 x403002)) else (none)) else (laws_FnGrdRow.l1 k x8 x9 x10 x11 0 0 x396000 x396001 x396002 x403000 x403001 x403002)
def laws_FnGrdRow.l1 : Nat → Int → List Int → List Int → Int → Int → Int → Int → Int → List (S34) → Int → Int → List (S34) → Option (Bool)
  | 0, _, _, _, _, _, _, _, _, _, _, _, _ => none
  | k + 1, x8, x9, x10, x11, x13, x14, x396000, x396001, x396002, x403000, x403001, x403002 => if x14 < (x403002.length : Int) then (if 0 ≤ x14 then (if x8 ≥ ((rd_T34 x403002 x14).f1) then (if x8 < (wrap64 (((rd_T34 x403002 x14).f1) + ((rd_T34 x403002 x14).f3))) then (laws_FnGrdRow.l1 k x8 x9 x10 x11 (wrap64 (x13 + 1)) (wrap64 (x14 + 1)) x396000 x396001 x396002 x403000 x403001 x403002) else (laws_FnGrdRow.l1 k x8 x9 x10 x11 x13 (wrap64 (x14 + 1)) x396000 x396001 x396002 x403000 x403001 x403002)) else (laws_FnGrdRow.l1 k x8 x9 x10 x11 x13 (wrap64 (x14 + 1)) x396000 x396001 x396002 x403000 x403001 x403002)) else (none)) else (laws_FnGrdRow.l2 k x9 x10 x11 x13 1 x396000 x396001 x396002 x403000 x403001 x403002)
def laws_FnGrdRow.l2 : Nat → List Int → List Int → Int → Int → Int → Int → Int → List (S34) → Int → Int → List (S34) → Option (Bool)
  | 0, _, _, _, _, _, _, _, _, _, _, _ => none
  | k + 1, x9, x10, x11, x13, x15, x396000, x396001, x396002, x403000, x403001, x403002 => if x15 < (x9.length : Int) then (if 0 ≤ (wrap64 (x15 - 1)) then (if (wrap64 (x15 - 1)) < (x9.length : Int) then (if 0 ≤ (rd x9 (wrap64 (x15 - 1))) then (if (rd x9 (wrap64 (x15 - 1))) < (x396002.length : Int) then (if 0 ≤ x15 then (if 0 ≤ (rd x9 x15) then (if (rd x9 x15) < (x396002.length : Int) then (if ((rd_T34 x396002 (rd x9 (wrap64 (x15 - 1)))).f1) ≥ ((rd_T34 x396002 (rd x9 x15)).f1) then (some false) else (laws_FnGrdRow.l2 k x9 x10 x11 x13 (wrap64 (x15 + 1)) x396000 x396001 x396002 x403000 x403001 x403002)) else (none)) else (none)) else (none)) else (none)) else (none)) else (none)) else (none)) else (laws_FnGrdRow.l3 k x9 x10 x11 x13 1 x403000 x403001 x403002)
def laws_FnGrdRow.l3 : Nat → List Int → List Int → Int → Int → Int → Int → Int → List (S34) → Option (Bool)
  | 0, _, _, _, _, _, _, _, _ => none
  | k + 1, x9, x10, x11, x13, x16, x403000, x403001, x403002 => if x16 < (x10.length : Int) then (if 0 ≤ (wrap64 (x16 - 1)) then (if (wrap64 (x16 - 1)) < (x10.length : Int) then (if 0 ≤ (rd x10 (wrap64 (x16 - 1))) then (if (rd x10 (wrap64 (x16 - 1))) < (x403002.length : Int) then (if 0 ≤ x16 then (if 0 ≤ (rd x10 x16) then (if (rd x10 x16) < (x403002.length : Int) then (if ((rd_T34 x403002 (rd x10 (wrap64 (x16 - 1)))).f0) ≥ ((rd_T34 x403002 (rd x10 x16)).f0) then (some false) else (laws_FnGrdRow.l3 k x9 x10 x11 x13 (wrap64 (x16 + 1)) x403000 x403001 x403002)) else (none)) else (none)) else (none)) else (none)) else (none)) else (none)) else (none)) else (if x11 = (x9.length : Int) then (some (x13 == (x10.length : Int))) else (some false))
end
def laws_FnGrdRow.f (k : Nat) (l0 : List Int) (l1 : List Int) : Option (Bool) := if (l0.length : Int) > 1048576 then (laws_FnGrdRow.j0 k l0 l1 true) else (laws_FnGrdRow.j0 k l0 l1 (decide ((l1.length : Int) > 1048576)))
theorem laws_FnGrdRow.mono_l : ∀ k, (∀ y0 y1 y2, LeO (laws_FnGrdRow.j0 k y0 y1 y2) (laws_FnGrdRow.j0 (k + 1) y0 y1 y2)) ∧ (∀ y0 y1 y2 y3 y4 y5 y6 y7 y8 y9 y10, LeO (laws_FnGrdRow.j1 k y0 y1 y2 y3 y4 y5 y6 y7 y8 y9 y10) (laws_FnGrdRow.j1 (k + 1) y0 y1 y2 y3 y4 y5 y6 y7 y8 y9 y10)) ∧ (∀ y0 y1 y2 y3 y4 y5 y6 y7 y8 y9 y10, LeO (laws_FnGrdRow.j2 k y0 y1 y2 y3 y4 y5 y6 y7 y8 y9 y10) (laws_FnGrdRow.j2 (k + 1) y0 y1 y2 y3 y4 y5 y6 y7 y8 y9 y10)) ∧ (∀ y0 y1 y2 y3 y4 y5 y6 y7 y8 y9 y10 y11, LeO (laws_FnGrdRow.l0 k y0 y1 y2 y3 y4 y5 y6 y7 y8 y9 y10 y11) (laws_FnGrdRow.l0 (k + 1) y0 y1 y2 y3 y4 y5 y6 y7 y8 y9 y10 y11)) ∧ (∀ y0 y1 y2 y3 y4 y5 y6 y7 y8 y9 y10 y11, LeO (laws_FnGrdRow.l1 k y0 y1 y2 y3 y4 y5 y6 y7 y8 y9 y10 y11) (laws_FnGrdRow.l1 (k + 1) y0 y1 y2 y3 y4 y5 y6 y7 y8 y9 y10 y11)) ∧ (∀ y0 y1 y2 y3 y4 y5 y6 y7 y8 y9 y10, LeO (laws_FnGrdRow.l2 k y0 y1 y2 y3 y4 y5 y6 y7 y8 y9 y10) (laws_FnGrdRow.l2 (k + 1) y0 y1 y2 y3 y4 y5 y6 y7 y8 y9 y10)) ∧ (∀ y0 y1 y2 y3 y4 y5 y6 y7, LeO (laws_FnGrdRow.l3 k y0 y1 y2 y3 y4 y5 y6 y7) (laws_FnGrdRow.l3 (k + 1) y0 y1 y2 y3 y4 y5 y6 y7))
  | 0 => ⟨fun _ _ _ r h => by simp [laws_FnGrdRow.j0] at h, fun _ _ _ _ _ _ _ _ _ _ _ r h => by simp [laws_FnGrdRow.j1] at h, fun _ _ _ _ _ _ _ _ _ _ _ r h => by simp [laws_FnGrdRow.j2] at h, fun _ _ _ _ _ _ _ _ _ _ _ _ r h => by simp [laws_FnGrdRow.l0] at h, fun _ _ _ _ _ _ _ _ _ _ _ _ r h => by simp [laws_FnGrdRow.l1] at h, fun _ _ _ _ _ _ _ _ _ _ _ r h => by simp [laws_FnGrdRow.l2] at h, fun _ _ _ _ _ _ _ _ r h => by simp [laws_FnGrdRow.l3] at h⟩
  | k + 1 => by
    obtain ⟨ih0, ih1, ih2, ih3, ih4, ih5, ih6⟩ := laws_FnGrdRow.mono_l k
    refine ⟨?_, ?_, ?_, ?_, ?_, ?_, ?_⟩
    · intro y0 y1 y2
      unfold laws_FnGrdRow.j0
      repeat' first
      | (with_reducible exact ih0 _ _ _)
      | (with_reducible exact ih1 _ _ _ _ _ _ _ _ _ _ _)
      | (with_reducible exact ih2 _ _ _ _ _ _ _ _ _ _ _)
      | (with_reducible exact ih3 _ _ _ _ _ _ _ _ _ _ _ _)
      | (with_reducible exact ih4 _ _ _ _ _ _ _ _ _ _ _ _)
      | (with_reducible exact ih5 _ _ _ _ _ _ _ _ _ _ _)
      | (with_reducible exact ih6 _ _ _ _ _ _ _ _)
      | (with_reducible exact impl_GrdCol.mono _ _ _ _ _)
      | (with_reducible exact impl_GrdOk.mono _ _ _ _)
      | (with_reducible exact impl_GrdRow.mono _ _ _ _ _)
      | (with_reducible exact laws_pwInts.mono _ _ _)
      | (with_reducible exact spec_DrawGrdCol.mono _ _)
      | (with_reducible exact spec_DrawGrdRow.mono _ _)
      | (with_reducible exact spec_GrdCol.mono _ _ _ _ _)
      | (with_reducible exact spec_GrdOk.mono _ _ _ _)
      | (with_reducible exact spec_GrdRow.mono _ _ _ _ _)
      | (with_reducible exact LeO.refl _)
      | (with_reducible exact LeO.none _)
      | (with_reducible refine LeO.ite ?_ ?_)
      | (with_reducible refine LeO.bind ?_ (fun _ => ?_))
      | exact ih0 _ _ _
      | exact ih1 _ _ _ _ _ _ _ _ _ _ _
      | exact ih2 _ _ _ _ _ _ _ _ _ _ _
      | exact ih3 _ _ _ _ _ _ _ _ _ _ _ _
      | exact ih4 _ _ _ _ _ _ _ _ _ _ _ _
      | exact ih5 _ _ _ _ _ _ _ _ _ _ _
      | exact ih6 _ _ _ _ _ _ _ _
      | exact impl_GrdCol.mono _ _ _ _ _
      | exact impl_GrdOk.mono _ _ _ _
      | exact impl_GrdRow.mono _ _ _ _ _
      | exact laws_pwInts.mono _ _ _
      | exact spec_DrawGrdCol.mono _ _
      | exact spec_DrawGrdRow.mono _ _
      | exact spec_GrdCol.mono _ _ _ _ _
      | exact spec_GrdOk.mono _ _ _ _
      | exact spec_GrdRow.mono _ _ _ _ _
      | exact LeO.none _
      | refine LeO.ite ?_ ?_
      | refine LeO.bind ?_ (fun _ => ?_)
    · intro y0 y1 y2 y3 y4 y5 y6 y7 y8 y9 y10
      unfold laws_FnGrdRow.j1
      repeat' first
      | (with_reducible exact ih0 _ _ _)
      | (with_reducible exact ih1 _ _ _ _ _ _ _ _ _ _ _)
      | (with_reducible exact ih2 _ _ _ _ _ _ _ _ _ _ _)
      | (with_reducible exact ih3 _ _ _ _ _ _ _ _ _ _ _ _)
      | (with_reducible exact ih4 _ _ _ _ _ _ _ _ _ _ _ _)
      | (with_reducible exact ih5 _ _ _ _ _ _ _ _ _ _ _)
      | (with_reducible exact ih6 _ _ _ _ _ _ _ _)
      | (with_reducible exact impl_GrdCol.mono _ _ _ _ _)
      | (with_reducible exact impl_GrdOk.mono _ _ _ _)
      | (with_reducible exact impl_GrdRow.mono _ _ _ _ _)
      | (with_reducible exact laws_pwInts.mono _ _ _)
      | (with_reducible exact spec_DrawGrdCol.mono _ _)
      | (with_reducible exact spec_DrawGrdRow.mono _ _)
      | (with_reducible exact spec_GrdCol.mono _ _ _ _ _)
      | (with_reducible exact spec_GrdOk.mono _ _ _ _)
      | (with_reducible exact spec_GrdRow.mono _ _ _ _ _)
      | (with_reducible exact LeO.refl _)
      | (with_reducible exact LeO.none _)
      | (with_reducible refine LeO.ite ?_ ?_)
      | (with_reducible refine LeO.bind ?_ (fun _ => ?_))
      | exact ih0 _ _ _
      | exact ih1 _ _ _ _ _ _ _ _ _ _ _
      | exact ih2 _ _ _ _ _ _ _ _ _ _ _
      | exact ih3 _ _ _ _ _ _ _ _ _ _ _ _
      | exact ih4 _ _ _ _ _ _ _ _ _ _ _ _
      | exact ih5 _ _ _ _ _ _ _ _ _ _ _
      | exact ih6 _ _ _ _ _ _ _ _
      | exact impl_GrdCol.mono _ _ _ _ _
      | exact impl_GrdOk.mono _ _ _ _
      | exact impl_GrdRow.mono _ _ _ _ _
      | exact laws_pwInts.mono _ _ _
      | exact spec_DrawGrdCol.mono _ _
      | exact spec_DrawGrdRow.mono _ _
      | exact spec_GrdCol.mono _ _ _ _ _
      | exact spec_GrdOk.mono _ _ _ _
      | exact spec_GrdRow.mono _ _ _ _ _
      | exact LeO.none _
      | refine LeO.ite ?_ ?_
      | refine LeO.bind ?_ (fun _ => ?_)
    · intro y0 y1 y2 y3 y4 y5 y6 y7 y8 y9 y10
      unfold laws_FnGrdRow.j2
      repeat' first
      | (with_reducible exact ih0 _ _ _)
      | (with_reducible exact ih1 _ _ _ _ _ _ _ _ _ _ _)
      | (with_reducible exact ih2 _ _ _ _ _ _ _ _ _ _ _)
      | (with_reducible exact ih3 _ _ _ _ _ _ _ _ _ _ _ _)
      | (with_reducible exact ih4 _ _ _ _ _ _ _ _ _ _ _ _)
      | (with_reducible exact ih5 _ _ _ _ _ _ _ _ _ _ _)
      | (with_reducible exact ih6 _ _ _ _ _ _ _ _)
      | (with_reducible exact impl_GrdCol.mono _ _ _ _ _)
      | (with_reducible exact impl_GrdOk.mono _ _ _ _)
      | (with_reducible exact impl_GrdRow.mono _ _ _ _ _)
      | (with_reducible exact laws_pwInts.mono _ _ _)
      | (with_reducible exact spec_DrawGrdCol.mono _ _)
      | (with_reducible exact spec_DrawGrdRow.mono _ _)
      | (with_reducible exact spec_GrdCol.mono _ _ _ _ _)
      | (with_reducible exact spec_GrdOk.mono _ _ _ _)
      | (with_reducible exact spec_GrdRow.mono _ _ _ _ _)
      | (with_reducible exact LeO.refl _)
      | (with_reducible exact LeO.none _)
      | (with_reducible refine LeO.ite ?_ ?_)
      | (with_reducible refine LeO.bind ?_ (fun _ => ?_))
      | exact ih0 _ _ _
      | exact ih1 _ _ _ _ _ _ _ _ _ _ _
      | exact ih2 _ _ _ _ _ _ _ _ _ _ _
      | exact ih3 _ _ _ _ _ _ _ _ _ _ _ _
      | exact ih4 _ _ _ _ _ _ _ _ _ _ _ _
      | exact ih5 _ _ _ _ _ _ _ _ _ _ _
      | exact ih6 _ _ _ _ _ _ _ _
      | exact impl_GrdCol.mono _ _ _ _ _
      | exact impl_GrdOk.mono _ _ _ _
      | exact impl_GrdRow.mono _ _ _ _ _
      | exact laws_pwInts.mono _ _ _
      | exact spec_DrawGrdCol.mono _ _
      | exact spec_DrawGrdRow.mono _ _
      | exact spec_GrdCol.mono _ _ _ _ _
      | exact spec_GrdOk.mono _ _ _ _
      | exact spec_GrdRow.mono _ _ _ _ _
      | exact LeO.none _
      | refine LeO.ite ?_ ?_
      | refine LeO.bind ?_ (fun _ => ?_)
    · intro y0 y1 y2 y3 y4 y5 y6 y7 y8 y9 y10 y11
      unfold laws_FnGrdRow.l0
      repeat' first
      | (with_reducible exact ih0 _ _ _)
      | (with_reducible exact ih1 _ _ _ _ _ _ _ _ _ _ _)
      | (with_reducible exact ih2 _ _ _ _ _ _ _ _ _ _ _)
      | (with_reducible exact ih3 _ _ _ _ _ _ _ _ _ _ _ _)
      | (with_reducible exact ih4 _ _ _ _ _ _ _ _ _ _ _ _)
      | (with_reducible exact ih5 _ _ _ _ _ _ _ _ _ _ _)
      | (with_reducible exact ih6 _ _ _ _ _ _ _ _)
      | (with_reducible exact impl_GrdCol.mono _ _ _ _ _)
      | (with_reducible exact impl_GrdOk.mono _ _ _ _)
      | (with_reducible exact impl_GrdRow.mono _ _ _ _ _)
      | (with_reducible exact laws_pwInts.mono _ _ _)
      | (with_reducible exact spec_DrawGrdCol.mono _ _)
      | (with_reducible exact spec_DrawGrdRow.mono _ _)
      | (with_reducible exact spec_GrdCol.mono _ _ _ _ _)
      | (with_reducible exact spec_GrdOk.mono _ _ _ _)
      | (with_reducible exact spec_GrdRow.mono _ _ _ _ _)
      | (with_reducible exact LeO.refl _)
      | (with_reducible exact LeO.none _)
      | (with_reducible refine LeO.ite ?_ ?_)
      | (with_reducible refine LeO.bind ?_ (fun _ => ?_))
      | exact ih0 _ _ _
      | exact ih1 _ _ _ _ _ _ _ _ _ _ _
      | exact ih2 _ _ _ _ _ _ _ _ _ _ _
      | exact ih3 _ _ _ _ _ _ _ _ _ _ _ _
      | exact ih4 _ _ _ _ _ _ _ _ _ _ _ _
      | exact ih5 _ _ _ _ _ _ _ _ _ _ _
      | exact ih6 _ _ _ _ _ _ _ _
      | exact impl_GrdCol.mono _ _ _ _ _
      | exact impl_GrdOk.mono _ _ _ _
      | exact impl_GrdRow.mono _ _ _ _ _
      | exact laws_pwInts.mono _ _ _
      | exact spec_DrawGrdCol.mono _ _
      | exact spec_DrawGrdRow.mono _ _
      | exact spec_GrdCol.mono _ _ _ _ _
      | exact spec_GrdOk.mono _ _ _ _
      | exact spec_GrdRow.mono _ _ _ _ _
      | exact LeO.none _
      | refine LeO.ite ?_ ?_
      | refine LeO.bind ?_ (fun _ => ?_)
    · intro y0 y1 y2 y3 y4 y5 y6 y7 y8 y9 y10 y11
      unfold laws_FnGrdRow.l1
      repeat' first
      | (with_reducible exact ih0 _ _ _)
      | (with_reducible exact ih1 _ _ _ _ _ _ _ _ _ _ _)
      | (with_reducible exact ih2 _ _ _ _ _ _ _ _ _ _ _)
      | (with_reducible exact ih3 _ _ _ _ _ _ _ _ _ _ _ _)
      | (with_reducible exact ih4 _ _ _ _ _ _ _ _ _ _ _ _)
      | (with_reducible exact ih5 _ _ _ _ _ _ _ _ _ _ _)
      | (with_reducible exact ih6 _ _ _ _ _ _ _ _)
      | (with_reducible exact impl_GrdCol.mono _ _ _ _ _)
      | (with_reducible exact impl_GrdOk.mono _ _ _ _)
      | (with_reducible exact impl_GrdRow.mono _ _ _ _ _)
      | (with_reducible exact laws_pwInts.mono _ _ _)
      | (with_reducible exact spec_DrawGrdCol.mono _ _)
      | (with_reducible exact spec_DrawGrdRow.mono _ _)
      | (with_reducible exact spec_GrdCol.mono _ _ _ _ _)
      | (with_reducible exact spec_GrdOk.mono _ _ _ _)
      | (with_reducible exact spec_GrdRow.mono _ _ _ _ _)
      | (with_reducible exact LeO.refl _)
      | (with_reducible exact LeO.none _)
      | (with_reducible refine LeO.ite ?_ ?_)
      | (with_reducible refine LeO.bind ?_ (fun _ => ?_))
      | exact ih0 _ _ _
      | exact ih1 _ _ _ _ _ _ _ _ _ _ _
      | exact ih2 _ _ _ _ _ _ _ _ _ _ _
      | exact ih3 _ _ _ _ _ _ _ _ _ _ _ _
      | exact ih4 _ _ _ _ _ _ _ _ _ _ _ _
      | exact ih5 _ _ _ _ _ _ _ _ _ _ _
      | exact ih6 _ _ _ _ _ _ _ _
      | exact impl_GrdCol.mono _ _ _ _ _
      | exact impl_GrdOk.mono _ _ _ _
      | exact impl_GrdRow.mono _ _ _ _ _
      | exact laws_pwInts.mono _ _ _
      | exact spec_DrawGrdCol.mono _ _
      | exact spec_DrawGrdRow.mono _ _
      | exact spec_GrdCol.mono _ _ _ _ _
      | exact spec_GrdOk.mono _ _ _ _
      | exact spec_GrdRow.mono _ _ _ _ _
      | exact LeO.none _
      | refine LeO.ite ?_ ?_
      | refine LeO.bind ?_ (fun _ => ?_)
    · intro y0 y1 y2 y3 y4 y5 y6 y7 y8 y9 y10
      unfold laws_FnGrdRow.l2
      repeat' first
      | (with_reducible exact ih0 _ _ _)
      | (with_reducible exact ih1 _ _ _ _ _ _ _ _ _ _ _)
      | (with_reducible exact ih2 _ _ _ _ _ _ _ _ _ _ _)
      | (with_reducible exact ih3 _ _ _ _ _ _ _ _ _ _ _ _)
      | (with_reducible exact ih4 _ _ _ _ _ _ _ _ _ _ _ _)
      | (with_reducible exact ih5 _ _ _ _ _ _ _ _ _ _ _)
      | (with_reducible exact ih6 _ _ _ _ _ _ _ _)
      | (with_reducible exact impl_GrdCol.mono _ _ _ _ _)
      | (with_reducible exact impl_GrdOk.mono _ _ _ _)
      | (with_reducible exact impl_GrdRow.mono _ _ _ _ _)
      | (with_reducible exact laws_pwInts.mono _ _ _)
      | (with_reducible exact spec_DrawGrdCol.mono _ _)
      | (with_reducible exact spec_DrawGrdRow.mono _ _)
      | (with_reducible exact spec_GrdCol.mono _ _ _ _ _)
      | (with_reducible exact spec_GrdOk.mono _ _ _ _)
      | (with_reducible exact spec_GrdRow.mono _ _ _ _ _)
      | (with_reducible exact LeO.refl _)
      | (with_reducible exact LeO.none _)
      | (with_reducible refine LeO.ite ?_ ?_)
      | (with_reducible refine LeO.bind ?_ (fun _ => ?_))
      | exact ih0 _ _ _
      | exact ih1 _ _ _ _ _ _ _ _ _ _ _
      | exact ih2 _ _ _ _ _ _ _ _ _ _ _
      | exact ih3 _ _ _ _ _ _ _ _ _ _ _ _
      | exact ih4 _ _ _ _ _ _ _ _ _ _ _ _
      | exact ih5 _ _ _ _ _ _ _ _ _ _ _
      | exact ih6 _ _ _ _ _ _ _ _
      | exact impl_GrdCol.mono _ _ _ _ _
      | exact impl_GrdOk.mono _ _ _ _
      | exact impl_GrdRow.mono _ _ _ _ _
      | exact laws_pwInts.mono _ _ _
      | exact spec_DrawGrdCol.mono _ _
      | exact spec_DrawGrdRow.mono _ _
      | exact spec_GrdCol.mono _ _ _ _ _
      | exact spec_GrdOk.mono _ _ _ _
      | exact spec_GrdRow.mono _ _ _ _ _
      | exact LeO.none _
      | refine LeO.ite ?_ ?_
      | refine LeO.bind ?_ (fun _ => ?_)
    · intro y0 y1 y2 y3 y4 y5 y6 y7
      unfold laws_FnGrdRow.l3
      repeat' first
      | (with_reducible exact ih0 _ _ _)
      | (with_reducible exact ih1 _ _ _ _ _ _ _ _ _ _ _)
      | (with_reducible exact ih2 _ _ _ _ _ _ _ _ _ _ _)
      | (with_reducible exact ih3 _ _ _ _ _ _ _ _ _ _ _ _)
      | (with_reducible exact ih4 _ _ _ _ _ _ _ _ _ _ _ _)
      | (with_reducible exact ih5 _ _ _ _ _ _ _ _ _ _ _)
      | (with_reducible exact ih6 _ _ _ _ _ _ _ _)
      | (with_reducible exact impl_GrdCol.mono _ _ _ _ _)
      | (with_reducible exact impl_GrdOk.mono _ _ _ _)
      | (with_reducible exact impl_GrdRow.mono _ _ _ _ _)
      | (with_reducible exact laws_pwInts.mono _ _ _)
      | (with_reducible exact spec_DrawGrdCol.mono _ _)
      | (with_reducible exact spec_DrawGrdRow.mono _ _)
      | (with_reducible exact spec_GrdCol.mono _ _ _ _ _)
      | (with_reducible exact spec_GrdOk.mono _ _ _ _)
      | (with_reducible exact spec_GrdRow.mono _ _ _ _ _)
      | (with_reducible exact LeO.refl _)
      | (with_reducible exact LeO.none _)
      | (with_reducible refine LeO.ite ?_ ?_)
      | (with_reducible refine LeO.bind ?_ (fun _ => ?_))
      | exact ih0 _ _ _
      | exact ih1 _ _ _ _ _ _ _ _ _ _ _
      | exact ih2 _ _ _ _ _ _ _ _ _ _ _
      | exact ih3 _ _ _ _ _ _ _ _ _ _ _ _
      | exact ih4 _ _ _ _ _ _ _ _ _ _ _ _
      | exact ih5 _ _ _ _ _ _ _ _ _ _ _
      | exact ih6 _ _ _ _ _ _ _ _
      | exact impl_GrdCol.mono _ _ _ _ _
      | exact impl_GrdOk.mono _ _ _ _
      | exact impl_GrdRow.mono _ _ _ _ _
      | exact laws_pwInts.mono _ _ _
      | exact spec_DrawGrdCol.mono _ _
      | exact spec_DrawGrdRow.mono _ _
      | exact spec_GrdCol.mono _ _ _ _ _
      | exact spec_GrdOk.mono _ _ _ _
      | exact spec_GrdRow.mono _ _ _ _ _
      | exact LeO.none _
      | refine LeO.ite ?_ ?_
      | refine LeO.bind ?_ (fun _ => ?_)
theorem laws_FnGrdRow.mono : ∀ a0 a1 k, LeO (laws_FnGrdRow.f k a0 a1) (laws_FnGrdRow.f (k + 1) a0 a1) := by
  intro a0 a1 k
  obtain ⟨ih0, ih1, ih2, ih3, ih4, ih5, ih6⟩ := laws_FnGrdRow.mono_l k
  unfold laws_FnGrdRow.f
  repeat' first
      | (with_reducible exact ih0 _ _ _)
      | (with_reducible exact ih1 _ _ _ _ _ _ _ _ _ _ _)
      | (with_reducible exact ih2 _ _ _ _ _ _ _ _ _ _ _)
      | (with_reducible exact ih3 _ _ _ _ _ _ _ _ _ _ _ _)
      | (with_reducible exact ih4 _ _ _ _ _ _ _ _ _ _ _ _)
      | (with_reducible exact ih5 _ _ _ _ _ _ _ _ _ _ _)
      | (with_reducible exact ih6 _ _ _ _ _ _ _ _)
      | (with_reducible exact impl_GrdCol.mono _ _ _ _ _)
      | (with_reducible exact impl_GrdOk.mono _ _ _ _)
      | (with_reducible exact impl_GrdRow.mono _ _ _ _ _)
      | (with_reducible exact laws_pwInts.mono _ _ _)
      | (with_reducible exact spec_DrawGrdCol.mono _ _)
      | (with_reducible exact spec_DrawGrdRow.mono _ _)
      | (with_reducible exact spec_GrdCol.mono _ _ _ _ _)
      | (with_reducible exact spec_GrdOk.mono _ _ _ _)
      | (with_reducible exact spec_GrdRow.mono _ _ _ _ _)
      | (with_reducible exact LeO.refl _)
      | (with_reducible exact LeO.none _)
      | (with_reducible refine LeO.ite ?_ ?_)
      | (with_reducible refine LeO.bind ?_ (fun _ => ?_))
      | exact ih0 _ _ _
      | exact ih1 _ _ _ _ _ _ _ _ _ _ _
      | exact ih2 _ _ _ _ _ _ _ _ _ _ _
      | exact ih3 _ _ _ _ _ _ _ _ _ _ _ _
      | exact ih4 _ _ _ _ _ _ _ _ _ _ _ _
      | exact ih5 _ _ _ _ _ _ _ _ _ _ _
      | exact ih6 _ _ _ _ _ _ _ _
      | exact impl_GrdCol.mono _ _ _ _ _
      | exact impl_GrdOk.mono _ _ _ _
      | exact impl_GrdRow.mono _ _ _ _ _
      | exact laws_pwInts.mono _ _ _
      | exact spec_DrawGrdCol.mono _ _
      | exact spec_DrawGrdRow.mono _ _
      | exact spec_GrdCol.mono _ _ _ _ _
      | exact spec_GrdOk.mono _ _ _ _
      | exact spec_GrdRow.mono _ _ _ _ _
      | exact LeO.none _
      | refine LeO.ite ?_ ?_
      | refine LeO.bind ?_ (fun _ => ?_)
def laws_FnGrdRow.T10 : Bool × List (List Nat × List Nat) := (true, [([], []), ([0], [0]), ([], []), ([2, 1], [2]), ([1, 3], [1, 3]), ([4, 3], [4]), ([5, 5], [5]), ([5, 6], [5, 6]), ([7, 6, 0, 1, 2, 3, 4, 5, 6, 7], [7])])
def laws_FnGrdRow.B10 : List Nat := [0, 1, 0, 7, 15, 31, 63, 127, 255]
theorem laws_FnGrdRow.tab10 : rtab .any (opsOf Tryd.f3 10) = laws_FnGrdRow.T10 := by kernel_rfl
theorem laws_FnGrdRow.bits10 : waitsOk laws_FnGrdRow.T10.2 laws_FnGrdRow.B10 = true := by kernel_rfl
def laws_FnGrdRow.T15 : Bool × List (List Nat × List Nat) := (true, [([], []), ([], []), ([1], [1]), ([], []), ([2, 3], [2, 3]), ([4], [4]), ([5], [5]), ([0, 6], [0, 6]), ([7], [7]), ([8], [8]), ([8], [8]), ([10, 8], [8, 10]), ([8], [8]), ([11, 12, 8], [8, 11, 12]), ([13, 8], [8, 13]), ([14, 8], [8, 14]), ([8], [8]), ([16, 8], [8, 16]), ([8], [8]), ([17, 18, 8], [8, 17, 18]), ([19, 8], [8, 19]), ([20, 8], [8, 20]), ([15, 21, 8], [8, 15, 21]), ([9, 22, 8], [8, 9, 22]), ([8, 23], [8, 23])])
def laws_FnGrdRow.B15 : List Nat := [0, 0, 2, 0, 14, 30, 62, 127, 255, 511, 511, 1535, 511, 7679, 15871, 32255, 511, 66047, 511, 459263, 983551, 2032127, 4193791, 8388607, 16777215]
theorem laws_FnGrdRow.tab15 : rtab .any (opsOf Tryd.f3 15) = laws_FnGrdRow.T15 := by kernel_rfl
theorem laws_FnGrdRow.bits15 : waitsOk laws_FnGrdRow.T15.2 laws_FnGrdRow.B15 = true := by kernel_rfl
def laws_FnGrdRow.T21 : Bool × List (List Nat × List Nat) := (true, [([], []), ([], []), ([1], [1]), ([], []), ([2, 3], [2, 3]), ([4], [4]), ([5], [5]), ([0, 6], [0, 6]), ([7], [7]), ([8], [8]), ([8], [8]), ([10, 8], [8, 10]), ([8], [8]), ([11, 12, 8], [8, 11, 12]), ([13, 8], [8, 13]), ([14, 8], [8, 14]), ([8], [8]), ([16, 8], [8, 16]), ([8], [8]), ([17, 18, 8], [8, 17, 18]), ([19, 8], [8, 19]), ([20, 8], [8, 20]), ([15, 21, 8], [8, 15, 21]), ([9, 22, 8], [8, 9, 22]), ([8, 23], [8, 23])])
def laws_FnGrdRow.B21 : List Nat := [0, 0, 2, 0, 14, 30, 62, 127, 255, 511, 511, 1535, 511, 7679, 15871, 32255, 511, 66047, 511, 459263, 983551, 2032127, 4193791, 8388607, 16777215]
theorem laws_FnGrdRow.tab21 : rtab .any (opsOf Tryd.f3 21) = laws_FnGrdRow.T21 := by kernel_rfl
theorem laws_FnGrdRow.bits21 : waitsOk laws_FnGrdRow.T21.2 laws_FnGrdRow.B21 = true := by kernel_rfl
def laws_FnGrdRow.T26 : Bool × List (List Nat × List Nat) := (true, [([], []), ([0], [0]), ([], []), ([], []), ([3], [3]), ([2, 4], [2, 4]), ([5], [5]), ([1, 6], [1, 6]), ([7], [7]), ([8], [8]), ([], []), ([10], [10]), ([], []), ([], []), ([12, 13], [12, 13]), ([14], [14]), ([11, 15], [11, 15]), ([16], [16]), ([17], [17]), ([9, 18], [9, 18])])
def laws_FnGrdRow.B26 : List Nat := [0, 1, 0, 0, 8, 28, 60, 127, 255, 511, 0, 1024, 0, 0, 12288, 28672, 64512, 130048, 261120, 524287]
theorem laws_FnGrdRow.tab26 : rtab .any (opsOf Tryd.f3 26) = laws_FnGrdRow.T26 := by kernel_rfl
theorem laws_FnGrdRow.bits26 : waitsOk laws_FnGrdRow.T26.2 laws_FnGrdRow.B26 = true := by kernel_rfl
def laws_FnGrdRow.T31 : Bool × List (List Nat × List Nat) := (true, [([], []), ([0], [0]), ([], []), ([], []), ([3], [3]), ([2, 4], [2, 4]), ([5], [5]), ([1, 6], [1, 6]), ([7], [7]), ([8], [8]), ([], []), ([10], [10]), ([], []), ([], []), ([12, 13], [12, 13]), ([14], [14]), ([11, 15], [11, 15]), ([16], [16]), ([17], [17]), ([9, 18], [9, 18])])
def laws_FnGrdRow.B31 : List Nat := [0, 1, 0, 0, 8, 28, 60, 127, 255, 511, 0, 1024, 0, 0, 12288, 28672, 64512, 130048, 261120, 524287]
theorem laws_FnGrdRow.tab31 : rtab .any (opsOf Tryd.f3 31) = laws_FnGrdRow.T31 := by kernel_rfl
theorem laws_FnGrdRow.bits31 : waitsOk laws_FnGrdRow.T31.2 laws_FnGrdRow.B31 = true := by kernel_rfl
/-- What the law asks ahead of its rounds, and how each test falls. -/
theorem laws_FnGrdRow.parts {k : Nat} {l0 l1 : List Int} {r : Bool} (h : laws_FnGrdRow.f k l0 l1 = some r) :
    (r = true ∧ ((l0.length : Int) > 1048576 ∨ (¬ (l0.length : Int) > 1048576 ∧ (l1.length : Int) > 1048576))) ∨
    (¬ (l0.length : Int) > 1048576 ∧ ¬ (l1.length : Int) > 1048576 ∧ ∃ (q : Nat) (a b : Int) (g : List S34) (z c d : Int) (l : List S34) (y : Int) (X Y X' : List Int) (b1 : Bool),
      Aside0 (spec_DrawGrdRow.f q l0 = some (a, b, g, z)) ∧ Aside0 (spec_DrawGrdCol.f q l1 = some (c, d, l, y)) ∧ Aside0 (impl_GrdRow.f q a b g z = some X) ∧ Aside0 (impl_GrdCol.f q c d l y = some Y) ∧ Aside0 (spec_GrdRow.f q a b g z = some X') ∧ Aside0 (laws_pwInts.f q X X' = some b1) ∧
      ((b1 = false ∧ Aside0 (laws_FnGrdRow.j1 q z y X Y true a b g c d l = some r)) ∨ (b1 = true ∧ ∃ (Y' : List Int) (b2 : Bool), Aside0 (spec_GrdCol.f q c d l y = some Y') ∧ Aside0 (laws_pwInts.f q Y Y' = some b2) ∧ Aside0 (laws_FnGrdRow.j1 q z y X Y (!b2) a b g c d l = some r)))) := by
  have J : ∀ v, laws_FnGrdRow.j0 k l0 l1 v = some r → (v = true ∧ r = true) ∨ (v = false ∧ ∃ (q : Nat) (a b : Int) (g : List S34) (z c d : Int) (l : List S34) (y : Int) (X Y X' : List Int) (b1 : Bool),
      Aside0 (spec_DrawGrdRow.f q l0 = some (a, b, g, z)) ∧ Aside0 (spec_DrawGrdCol.f q l1 = some (c, d, l, y)) ∧ Aside0 (impl_GrdRow.f q a b g z = some X) ∧ Aside0 (impl_GrdCol.f q c d l y = some Y) ∧ Aside0 (spec_GrdRow.f q a b g z = some X') ∧ Aside0 (laws_pwInts.f q X X' = some b1) ∧
      ((b1 = false ∧ Aside0 (laws_FnGrdRow.j1 q z y X Y true a b g c d l = some r)) ∨ (b1 = true ∧ ∃ (Y' : List Int) (b2 : Bool), Aside0 (spec_GrdCol.f q c d l y = some Y') ∧ Aside0 (laws_pwInts.f q Y Y' = some b2) ∧ Aside0 (laws_FnGrdRow.j1 q z y X Y (!b2) a b g c d l = some r)))) := by
    intro v h
    cases k with
    | zero => unfold laws_FnGrdRow.j0 at h; cases h
    | succ q =>
      simp only [laws_FnGrdRow.j0] at h
      cases v
      · rw [if_neg (by decide)] at h
        obtain ⟨⟨a, b, g, z⟩, h1, g1⟩ := Option.bind_eq_some_iff.1 h
        obtain ⟨⟨c, d, l, y⟩, h2, g2⟩ := Option.bind_eq_some_iff.1 g1
        obtain ⟨X, h3, g3⟩ := Option.bind_eq_some_iff.1 g2
        obtain ⟨Y, h4, g4⟩ := Option.bind_eq_some_iff.1 g3
        obtain ⟨X', h5, g5⟩ := Option.bind_eq_some_iff.1 g4
        obtain ⟨b1, h6, g6⟩ := Option.bind_eq_some_iff.1 g5
        refine .inr ⟨rfl, q, a, b, g, z, c, d, l, y, X, Y, X', b1, ⟨h1⟩, ⟨h2⟩, ⟨h3⟩, ⟨h4⟩, ⟨h5⟩, ⟨h6⟩, ?_⟩
        cases b1
        · exact .inl ⟨rfl, ⟨g6⟩⟩
        · rw [if_pos rfl] at g6
          obtain ⟨Y', h7, g7⟩ := Option.bind_eq_some_iff.1 g6
          obtain ⟨b2, h8, g8⟩ := Option.bind_eq_some_iff.1 g7
          exact .inr ⟨rfl, Y', b2, ⟨h7⟩, ⟨h8⟩, ⟨g8⟩⟩
      · rw [if_pos rfl] at h
        exact .inl ⟨rfl, (Option.some.inj h).symm⟩
  unfold laws_FnGrdRow.f at h
  split at h
  · rename_i hl
    rcases J _ h with ⟨_, hr⟩ | ⟨hv, _⟩
    · exact .inl ⟨hr, .inl hl⟩
    · cases hv
  · rename_i hl
    rcases J _ h with ⟨hv, hr⟩ | ⟨hv, hp⟩
    · exact .inl ⟨hr, .inr ⟨hl, of_decide_eq_true hv⟩⟩
    · exact .inr ⟨hl, of_decide_eq_false hv, hp⟩

theorem laws_FnGrdRow.parts1 {q : Nat} {z y : Int} {X Y : List Int} {a b : Int} {g : List S34} {c d : Int} {l : List S34} {r v : Bool} (h : laws_FnGrdRow.j1 q z y X Y v a b g c d l = some r) :
    (v = true ∧ r = false) ∨ (v = false ∧ ∃ (q' : Nat) (t1 : Bool), Aside0 (spec_GrdOk.f q' a b g = some t1) ∧ ((t1 = false ∧ Aside0 (laws_FnGrdRow.j2 q' z y X Y true a b g c d l = some r)) ∨ (t1 = true ∧ ∃ t2, Aside0 (spec_GrdOk.f q' c d l = some t2) ∧ Aside0 (laws_FnGrdRow.j2 q' z y X Y (!t2) a b g c d l = some r)))) := by
  cases q with
  | zero => unfold laws_FnGrdRow.j1 at h; cases h
  | succ q =>
    simp only [laws_FnGrdRow.j1] at h
    cases v
    · rw [if_neg (by decide)] at h
      obtain ⟨t1, h1, g1⟩ := Option.bind_eq_some_iff.1 h
      refine .inr ⟨rfl, q, t1, ⟨h1⟩, ?_⟩
      cases t1
      · exact .inl ⟨rfl, ⟨g1⟩⟩
      · rw [if_pos rfl] at g1
        obtain ⟨t2, h2, g2⟩ := Option.bind_eq_some_iff.1 g1
        exact .inr ⟨rfl, t2, ⟨h2⟩, ⟨g2⟩⟩
    · rw [if_pos rfl] at h
      exact .inl ⟨rfl, (Option.some.inj h).symm⟩
theorem laws_FnGrdRow.parts2 {q : Nat} {z y : Int} {X Y : List Int} {a b : Int} {g : List S34} {c d : Int} {l : List S34} {r v : Bool} (h : laws_FnGrdRow.j2 q z y X Y v a b g c d l = some r) :
    (v = true ∧ ∃ (q' : Nat) (t3 t4 : Bool), Aside0 (impl_GrdOk.f q' a b g = some t3) ∧ Aside0 (spec_GrdOk.f q' a b g = some t4) ∧ (((t3 == t4) = true ∧ Aside0 (laws_pwOk.f = some r)) ∨ ((t3 == t4) = false ∧ r = false))) ∨
    (v = false ∧ ∃ q' : Nat, Aside0 (laws_FnGrdRow.l0 q' z y X Y 0 0 a b g c d l = some r)) := by
  cases q with
  | zero => unfold laws_FnGrdRow.j2 at h; cases h
  | succ q =>
    simp only [laws_FnGrdRow.j2] at h
    cases v
    · rw [if_neg (by decide)] at h
      exact .inr ⟨rfl, q, ⟨h⟩⟩
    · rw [if_pos rfl] at h
      obtain ⟨t3, h3, g3⟩ := Option.bind_eq_some_iff.1 h
      obtain ⟨t4, h4, g4⟩ := Option.bind_eq_some_iff.1 g3
      refine .inl ⟨rfl, q, t3, t4, ⟨h3⟩, ⟨h4⟩, ?_⟩
      cases e : (t3 == t4)
      · rw [e, if_neg (by decide)] at g4
        exact .inr ⟨rfl, (Option.some.inj g4).symm⟩
      · rw [e, if_pos rfl] at g4
        obtain ⟨t5, h5, g5⟩ := Option.bind_eq_some_iff.1 g4
        obtain rfl := Option.some.inj g5
        exact .inl ⟨rfl, ⟨h5⟩⟩
/-- What the law's loops find: the two grids as drawn, their cells, and the two rows of cells found. -/
structure laws_FnGrdRow.Wd (w : World) (G L : Nat) (u v : Array Value) (AG AL AX AY : Option Addr) (g l : List S34) (X Y : List Int) (W : World) : Prop where
  bg : W.heap[G]? = some (.cells u 25 (0, 0))
  bl : W.heap[L]? = some (.cells v 25 (0, 0))
  kg : Kd.C k34 W AG g.length g
  kl : Kd.C k34 W AL l.length l
  kx : Kd.C (Kd.int .i64) W AX X.length X
  ky : Kd.C (Kd.int .i64) W AY Y.length Y
  bb : Below w.heap.size w W
theorem laws_FnGrdRow.Wd.below {w W W' : World} {G L : Nat} {u v : Array Value} {AG AL AX AY : Option Addr} {g l : List S34} {X Y : List Int} (h : laws_FnGrdRow.Wd w G L u v AG AL AX AY g l X Y W) (hb : Below W.heap.size W W') : laws_FnGrdRow.Wd w G L u v AG AL AX AY g l X Y W' :=
  ⟨blk_below h.bg hb, blk_below h.bl hb, Kd.C_below h.kg hb, Kd.C_below h.kl hb, Kd.C_below h.kx hb, Kd.C_below h.ky hb, below_step h.bb hb⟩
theorem laws_FnGrdRow.step0 {k : Nat} {z y n i ga gb ca cb : Int} {X Y : List Int} {g l : List S34} {r : Bool} (hi : i < (g.length : Int)) (h : laws_FnGrdRow.l0 (k + 1) z y X Y n i ga gb g ca cb l = some r) :
    0 ≤ i ∧ ∃ c, c = rd_T34 g i ∧ ((c.f0 ≤ z ∧ z < wrap64 (c.f0 + c.f2) ∧ Aside0 (laws_FnGrdRow.l0 k z y X Y (wrap64 (n + 1)) (wrap64 (i + 1)) ga gb g ca cb l = some r)) ∨ (c.f0 ≤ z ∧ ¬ z < wrap64 (c.f0 + c.f2) ∧ Aside0 (laws_FnGrdRow.l0 k z y X Y n (wrap64 (i + 1)) ga gb g ca cb l = some r)) ∨ (¬ c.f0 ≤ z ∧ Aside0 (laws_FnGrdRow.l0 k z y X Y n (wrap64 (i + 1)) ga gb g ca cb l = some r))) := by
  simp only [laws_FnGrdRow.l0] at h
  rw [if_pos hi] at h
  split at h
  · refine ⟨by assumption, _, rfl, ?_⟩
    split at h
    · split at h
      · exact .inl ⟨by assumption, by assumption, ⟨h⟩⟩
      · exact .inr (.inl ⟨by assumption, by assumption, ⟨h⟩⟩)
    · exact .inr (.inr ⟨by assumption, ⟨h⟩⟩)
  · cases h
theorem laws_FnGrdRow.step1 {k : Nat} {y n m i ga gb ca cb : Int} {X Y : List Int} {g l : List S34} {r : Bool} (hi : i < (l.length : Int)) (h : laws_FnGrdRow.l1 (k + 1) y X Y n m i ga gb g ca cb l = some r) :
    0 ≤ i ∧ ∃ c, c = rd_T34 l i ∧ ((c.f1 ≤ y ∧ y < wrap64 (c.f1 + c.f3) ∧ Aside0 (laws_FnGrdRow.l1 k y X Y n (wrap64 (m + 1)) (wrap64 (i + 1)) ga gb g ca cb l = some r)) ∨ (c.f1 ≤ y ∧ ¬ y < wrap64 (c.f1 + c.f3) ∧ Aside0 (laws_FnGrdRow.l1 k y X Y n m (wrap64 (i + 1)) ga gb g ca cb l = some r)) ∨ (¬ c.f1 ≤ y ∧ Aside0 (laws_FnGrdRow.l1 k y X Y n m (wrap64 (i + 1)) ga gb g ca cb l = some r))) := by
  simp only [laws_FnGrdRow.l1] at h
  rw [if_pos hi] at h
  split at h
  · refine ⟨by assumption, _, rfl, ?_⟩
    split at h
    · split at h
      · exact .inl ⟨by assumption, by assumption, ⟨h⟩⟩
      · exact .inr (.inl ⟨by assumption, by assumption, ⟨h⟩⟩)
    · exact .inr (.inr ⟨by assumption, ⟨h⟩⟩)
  · cases h
theorem laws_FnGrdRow.step2 {k : Nat} {n m i ga gb ca cb : Int} {X Y : List Int} {g l : List S34} {r : Bool} (hi : i < (X.length : Int)) (h : laws_FnGrdRow.l2 (k + 1) X Y n m i ga gb g ca cb l = some r) :
    0 ≤ wrap64 (i - 1) ∧ wrap64 (i - 1) < (X.length : Int) ∧ 0 ≤ i ∧ ∃ a b, a = rd X (wrap64 (i - 1)) ∧ b = rd X i ∧ 0 ≤ a ∧ a < (g.length : Int) ∧ 0 ≤ b ∧ b < (g.length : Int) ∧ ∃ c d, c = rd_T34 g a ∧ d = rd_T34 g b ∧ ((d.f1 ≤ c.f1 ∧ r = false) ∨ (¬ d.f1 ≤ c.f1 ∧ Aside0 (laws_FnGrdRow.l2 k X Y n m (wrap64 (i + 1)) ga gb g ca cb l = some r))) := by
  simp only [laws_FnGrdRow.l2] at h
  rw [if_pos hi] at h
  iterate 7 (split at h; rotate_left; · cases h)
  refine ⟨by assumption, by assumption, by assumption, _, _, rfl, rfl, by assumption, by assumption, by assumption, by assumption, _, _, rfl, rfl, ?_⟩
  split at h
  · exact .inl ⟨by assumption, (Option.some.inj h).symm⟩
  · exact .inr ⟨by assumption, ⟨h⟩⟩
theorem laws_FnGrdRow.step3 {k : Nat} {n m i ca cb : Int} {X Y : List Int} {l : List S34} {r : Bool} (hi : i < (Y.length : Int)) (h : laws_FnGrdRow.l3 (k + 1) X Y n m i ca cb l = some r) :
    0 ≤ wrap64 (i - 1) ∧ wrap64 (i - 1) < (Y.length : Int) ∧ 0 ≤ i ∧ ∃ a b, a = rd Y (wrap64 (i - 1)) ∧ b = rd Y i ∧ 0 ≤ a ∧ a < (l.length : Int) ∧ 0 ≤ b ∧ b < (l.length : Int) ∧ ∃ c d, c = rd_T34 l a ∧ d = rd_T34 l b ∧ ((d.f0 ≤ c.f0 ∧ r = false) ∨ (¬ d.f0 ≤ c.f0 ∧ Aside0 (laws_FnGrdRow.l3 k X Y n m (wrap64 (i + 1)) ca cb l = some r))) := by
  simp only [laws_FnGrdRow.l3] at h
  rw [if_pos hi] at h
  iterate 7 (split at h; rotate_left; · cases h)
  refine ⟨by assumption, by assumption, by assumption, _, _, rfl, rfl, by assumption, by assumption, by assumption, by assumption, _, _, rfl, rfl, ?_⟩
  split at h
  · exact .inl ⟨by assumption, (Option.some.inj h).symm⟩
  · exact .inr ⟨by assumption, ⟨h⟩⟩
theorem laws_FnGrdRow.last3 {k : Nat} {n m i ca cb : Int} {X Y : List Int} {l : List S34} {r : Bool} (hi : ¬ i < (Y.length : Int)) (h : laws_FnGrdRow.l3 (k + 1) X Y n m i ca cb l = some r) :
    (n = (X.length : Int) ∧ r = (m == (Y.length : Int))) ∨ (¬ n = (X.length : Int) ∧ r = false) := by
  simp only [laws_FnGrdRow.l3] at h
  rw [if_neg hi] at h
  split at h
  · exact .inl ⟨by assumption, (Option.some.inj h).symm⟩
  · exact .inr ⟨by assumption, (Option.some.inj h).symm⟩
set_option maxHeartbeats 4000000 in
set_option maxRecDepth 100000 in
theorem laws_FnGrdRow.calls (k : Nat) (A0 : Option Addr) (c0 : Nat) (l0 : List Int) (A1 : Option Addr) (c1 : Nat) (l1 : List Int) (r : Bool) (w : World) (hr0 : Kd.C (Kd.int .u8) w A0 l0.length l0) (hc0 : l0.length ≤ c0) (hr1 : Kd.C (Kd.int .u8) w A1 l1.length l1) (hc1 : l1.length ≤ c1) (hM : Txt.MLen w) (h : laws_FnGrdRow.f k l0 l1 = some r) :
    Calls Tryd.prog 3 #[.slice A0 l0.length c0, .slice A1 l1.length c1] w fun e w' => e = .returned (.bool r) ∧ Below w.heap.size w w' := by
  have HM := Aside0.mk hM
  have HR0 := Aside0.mk hr0
  have HC0 := Aside0.mk hc0
  have HR1 := Aside0.mk hr1
  have HC1 := Aside0.mk hc1
  clear hM hr0 hc0 hr1 hc1
  have HB := Aside0.mk (Below.refl w.heap.size w)
  have hu1 := Tryd.underlying25
  have hu2 := Tryd.underlying34
  rcases laws_FnGrdRow.parts h with ⟨rfl, hl | ⟨hl0, hl⟩⟩ | ⟨hl0, hl, q, ga, gb, g, z, ca, cb, l, y, X, Y, X', b1, A1_, A2_, A3_, A4_, A5_, A6_, hs⟩
  · clear h
    have b0 : decide (1048576 < (l0.length : Int)) = true := decide_eq_true hl
    have b1 : decide (1048576 < l0.length) = true := decide_eq_true (by omega)
    clear hl
    go_enter Tryd.func3, Tryd.ntmps3
    go_wp2
    go_ret
    exact ⟨rfl, by (repeat (with_reducible first | exact Below.refl _ _ | apply below_alloc | apply pw_below_drewN | apply below_drew1))⟩
  · clear h
    have b0 : decide (1048576 < (l0.length : Int)) = false := decide_eq_false hl0
    have b1 : decide (1048576 < l0.length) = false := decide_eq_false (by omega)
    have b2 : decide (1048576 < (l1.length : Int)) = true := decide_eq_true hl
    have b3 : decide (1048576 < l1.length) = true := decide_eq_true (by omega)
    clear hl hl0
    go_enter Tryd.func3, Tryd.ntmps3
    go_wp2
    go_ret
    exact ⟨rfl, by (repeat (with_reducible first | exact Below.refl _ _ | apply below_alloc | apply pw_below_drewN | apply below_drew1))⟩
  clear h
  have b0 : decide (1048576 < (l0.length : Int)) = false := decide_eq_false hl0
  have b1' : decide (1048576 < l0.length) = false := decide_eq_false (by omega)
  have b2 : decide (1048576 < (l1.length : Int)) = false := decide_eq_false hl
  have b3 : decide (1048576 < l1.length) = false := decide_eq_false (by omega)
  clear hl hl0
  have HS := Aside0.mk hs
  clear hs
  go_enter Tryd.func3, Tryd.ntmps3
  go_upto_region 4 with (go_at_call 4; (with_reducible refine (spec_DrawGrdRow.calls q _ _ l0 ga gb g z _ HR0.out HC0.out A1_.out).mono ?_); rintro e W1 ⟨v, rfl, hv, hb⟩; obtain ⟨AG, cg, rfl⟩ := Kd.R_slice hv; have HKg := Aside0.mk (Kd.R_reads' hv).2.2; have HLg := Aside0.mk (Kd.R_reads' hv).2.1; have n1 : Aside0 (Below w.heap.size w W1) := ⟨below_step HB.out hb⟩; clear HB; have HB := n1; clear n1 hb hv)
  refine wp_letter (fun W0 => W0.heap[W1.heap.size]? = some (.cells #[.int .i64 ga, .int .i64 gb, .slice AG g.length cg] 25 (0, 0)) ∧ Kd.C k34 W0 AG g.length g ∧ Below w.heap.size w W0) ⟨blk_new W1 _, Kd.C_alloc HKg.out _, below_alloc HB.out _⟩ ?_
  rintro W2 ⟨hG, hK, hB⟩
  generalize W1.heap.size = G at hG ⊢
  clear HKg HB
  have HG := Aside0.mk hG
  have HKg := Aside0.mk hK
  have HB := Aside0.mk hB
  clear hG hK hB
  go_upto_region 5 with (go_at_call 5; (with_reducible refine (spec_DrawGrdCol.calls q _ _ l1 ca cb l y _ (Kd.C_below HR1.out HB.out) HC1.out A2_.out).mono ?_); rintro e W3 ⟨v, rfl, hv, hb⟩; obtain ⟨AL, cl, rfl⟩ := Kd.R_slice hv; have HKl := Aside0.mk (Kd.R_reads' hv).2.2; have HLl := Aside0.mk (Kd.R_reads' hv).2.1; replace HG := Aside0.mk (blk_below HG.out hb); replace HKg := Aside0.mk (Kd.C_below HKg.out hb); have n1 : Aside0 (Below w.heap.size w W3) := ⟨below_step HB.out hb⟩; clear HB; have HB := n1; clear n1 hb hv)
  refine wp_letter (fun W0 => W0.heap[W3.heap.size]? = some (.cells #[.int .i64 ca, .int .i64 cb, .slice AL l.length cl] 25 (0, 0)) ∧ W0.heap[G]? = some (.cells #[.int .i64 ga, .int .i64 gb, .slice AG g.length cg] 25 (0, 0)) ∧ Kd.C k34 W0 AG g.length g ∧ Kd.C k34 W0 AL l.length l ∧ Below w.heap.size w W0) ⟨blk_new W3 _, blk_alloc HG.out _, Kd.C_alloc HKg.out _, Kd.C_alloc HKl.out _, below_alloc HB.out _⟩ ?_
  rintro W4 ⟨hL, hG, hKg, hKl, hB⟩
  generalize W3.heap.size = L at hL ⊢
  clear HG HKg HKl HB
  have HG := Aside0.mk hG
  have HLb := Aside0.mk hL
  have HKg := Aside0.mk hKg
  have HKl := Aside0.mk hKl
  have HB := Aside0.mk hB
  clear hG hL hKg hKl hB
  have g0 : W4.cell? ⟨G, 0, none⟩ = some (.int .i64 ga) := (blk_cell HG.out 0).trans rfl
  have g1 : W4.cell? ⟨G, 1, none⟩ = some (.int .i64 gb) := (blk_cell HG.out 1).trans rfl
  have g2 : W4.cell? ⟨G, 2, none⟩ = some (.slice AG g.length cg) := (blk_cell HG.out 2).trans rfl
  go_upto_region 6 with (go_at_call 6; (with_reducible refine (impl_GrdRow.calls q ga gb _ _ g z X _ HKg.out HLg.out A3_.out).mono ?_); rintro e W5 ⟨v, rfl, hv, hb⟩; obtain ⟨AX, cX, rfl⟩ := Kd.R_slice hv; have HKX := Aside0.mk (Kd.R_reads' hv).2.2; have HLX := Aside0.mk (Kd.R_reads' hv).2.1; clear g0 g1 g2; replace HG := Aside0.mk (blk_below HG.out hb); replace HLb := Aside0.mk (blk_below HLb.out hb); replace HKg := Aside0.mk (Kd.C_below HKg.out hb); replace HKl := Aside0.mk (Kd.C_below HKl.out hb); replace HB := Aside0.mk (below_step HB.out hb); clear hb hv; have g0 : W5.cell? ⟨L, 0, none⟩ = some (.int .i64 ca) := (blk_cell HLb.out 0).trans rfl; have g1 : W5.cell? ⟨L, 1, none⟩ = some (.int .i64 cb) := (blk_cell HLb.out 1).trans rfl; have g2 : W5.cell? ⟨L, 2, none⟩ = some (.slice AL l.length cl) := (blk_cell HLb.out 2).trans rfl)
  go_upto_region 7 with (go_at_call 7; (with_reducible refine (impl_GrdCol.calls q ca cb _ _ l y Y _ HKl.out HLl.out A4_.out).mono ?_); rintro e W6 ⟨v, rfl, hv, hb⟩; obtain ⟨AY, cY, rfl⟩ := Kd.R_slice hv; have HKY := Aside0.mk (Kd.R_reads' hv).2.2; have HLY := Aside0.mk (Kd.R_reads' hv).2.1; clear g0 g1 g2; replace HG := Aside0.mk (blk_below HG.out hb); replace HLb := Aside0.mk (blk_below HLb.out hb); replace HKg := Aside0.mk (Kd.C_below HKg.out hb); replace HKl := Aside0.mk (Kd.C_below HKl.out hb); replace HKX := Aside0.mk (Kd.C_below HKX.out hb); replace HB := Aside0.mk (below_step HB.out hb); clear hb hv; have g0 : W6.cell? ⟨G, 0, none⟩ = some (.int .i64 ga) := (blk_cell HG.out 0).trans rfl; have g1 : W6.cell? ⟨G, 1, none⟩ = some (.int .i64 gb) := (blk_cell HG.out 1).trans rfl; have g2 : W6.cell? ⟨G, 2, none⟩ = some (.slice AG g.length cg) := (blk_cell HG.out 2).trans rfl)
  rcases HS.out with ⟨rfl, AJ⟩ | ⟨rfl, Y', b2', A7_, A8_, AJ⟩
  · have hr : r = false := by
      have hj := AJ.out
      cases q with
      | zero => unfold laws_FnGrdRow.j1 at hj; cases hj
      | succ q =>
        simp only [laws_FnGrdRow.j1, if_true] at hj
        exact (Option.some.inj hj).symm
    subst hr
    clear AJ HS
    go_wp2_with (first | (go_at_call 9; (with_reducible refine (spec_GrdRow.calls q ga gb _ _ g z X' _ HKg.out HLg.out A5_.out).mono ?_); rintro e W7 ⟨v, rfl, hv, hb⟩; obtain ⟨AZ, cZ, rfl⟩ := Kd.R_slice hv; have HKZ := Aside0.mk (Kd.R_reads' hv).2.2; have HLZ := Aside0.mk (Kd.R_reads' hv).2.1; replace HKX := Aside0.mk (Kd.C_below HKX.out hb); replace HB := Aside0.mk (below_step HB.out hb); clear hb hv) | (go_at_call 8; (with_reducible refine (laws_pwInts.calls q _ _ X _ _ X' _ _ HKX.out HLX.out HKZ.out HLZ.out A6_.out).mono ?_); rintro e W8 ⟨rfl, ⟨nd, rfl⟩⟩))
    go_ret
    exact ⟨rfl, by (repeat (with_reducible first | exact HB.out | apply below_alloc | apply pw_below_drewN | apply below_drew1))⟩
  rcases laws_FnGrdRow.parts1 AJ.out with ⟨hv, rfl⟩ | ⟨hv, q1, t1, B1_, hs2⟩
  · obtain rfl : b2' = false := by simpa using hv
    clear AJ HS hv
    go_wp2_with (first | (go_at_call 9; (with_reducible refine (spec_GrdRow.calls q ga gb _ _ g z X' _ HKg.out HLg.out A5_.out).mono ?_); rintro e W7 ⟨v, rfl, hv, hb⟩; obtain ⟨AZ, cZ, rfl⟩ := Kd.R_slice hv; have HKZ := Aside0.mk (Kd.R_reads' hv).2.2; have HLZ := Aside0.mk (Kd.R_reads' hv).2.1; clear g0 g1 g2; replace HG := Aside0.mk (blk_below HG.out hb); replace HLb := Aside0.mk (blk_below HLb.out hb); replace HKg := Aside0.mk (Kd.C_below HKg.out hb); replace HKl := Aside0.mk (Kd.C_below HKl.out hb); replace HKX := Aside0.mk (Kd.C_below HKX.out hb); replace HKY := Aside0.mk (Kd.C_below HKY.out hb); replace HB := Aside0.mk (below_step HB.out hb); clear hb hv; have g0 : W7.cell? ⟨L, 0, none⟩ = some (.int .i64 ca) := (blk_cell HLb.out 0).trans rfl; have g1 : W7.cell? ⟨L, 1, none⟩ = some (.int .i64 cb) := (blk_cell HLb.out 1).trans rfl; have g2 : W7.cell? ⟨L, 2, none⟩ = some (.slice AL l.length cl) := (blk_cell HLb.out 2).trans rfl) | (go_at_call 10; (with_reducible refine (spec_GrdCol.calls q ca cb _ _ l y Y' _ (Kd.C_drewN HKl.out _) HLl.out A7_.out).mono ?_); rintro e W9 ⟨v, rfl, hv, hb⟩; obtain ⟨AU, cU, rfl⟩ := Kd.R_slice hv; have HKU := Aside0.mk (Kd.R_reads' hv).2.2; have HLU := Aside0.mk (Kd.R_reads' hv).2.1; clear g0 g1 g2; replace HG := Aside0.mk (blk_below (blk_drewN HG.out _) hb); replace HLb := Aside0.mk (blk_below (blk_drewN HLb.out _) hb); replace HKg := Aside0.mk (Kd.C_below (Kd.C_drewN HKg.out _) hb); replace HKl := Aside0.mk (Kd.C_below (Kd.C_drewN HKl.out _) hb); replace HKX := Aside0.mk (Kd.C_below (Kd.C_drewN HKX.out _) hb); replace HKY := Aside0.mk (Kd.C_below (Kd.C_drewN HKY.out _) hb); replace HB := Aside0.mk (below_step (pw_below_drewN HB.out _) hb); clear hb hv) | (go_at_call 8; (first | (with_reducible refine (laws_pwInts.calls q _ _ X _ _ X' _ _ HKX.out HLX.out HKZ.out HLZ.out A6_.out).mono ?_) | (with_reducible refine (laws_pwInts.calls q _ _ Y _ _ Y' _ _ HKY.out HLY.out HKU.out HLU.out A8_.out).mono ?_)); rintro e W8 ⟨rfl, ⟨nd, rfl⟩⟩))
    go_ret
    exact ⟨rfl, by (repeat (with_reducible first | exact HB.out | apply below_alloc | apply pw_below_drewN | apply below_drew1))⟩
  obtain rfl : b2' = true := by simpa using hv
  have HS2 := Aside0.mk hs2
  clear AJ HS hv hs2
  go_upto_region 9 with (first | (go_at_call 9; (with_reducible refine (spec_GrdRow.calls q ga gb _ _ g z X' _ HKg.out HLg.out A5_.out).mono ?_); rintro e W7 ⟨v, rfl, hv, hb⟩; obtain ⟨AZ, cZ, rfl⟩ := Kd.R_slice hv; have HKZ := Aside0.mk (Kd.R_reads' hv).2.2; have HLZ := Aside0.mk (Kd.R_reads' hv).2.1; clear g0 g1 g2; replace HG := Aside0.mk (blk_below HG.out hb); replace HLb := Aside0.mk (blk_below HLb.out hb); replace HKg := Aside0.mk (Kd.C_below HKg.out hb); replace HKl := Aside0.mk (Kd.C_below HKl.out hb); replace HKX := Aside0.mk (Kd.C_below HKX.out hb); replace HKY := Aside0.mk (Kd.C_below HKY.out hb); replace HB := Aside0.mk (below_step HB.out hb); clear hb hv; have g0 : W7.cell? ⟨L, 0, none⟩ = some (.int .i64 ca) := (blk_cell HLb.out 0).trans rfl; have g1 : W7.cell? ⟨L, 1, none⟩ = some (.int .i64 cb) := (blk_cell HLb.out 1).trans rfl; have g2 : W7.cell? ⟨L, 2, none⟩ = some (.slice AL l.length cl) := (blk_cell HLb.out 2).trans rfl) | (go_at_call 10; (with_reducible refine (spec_GrdCol.calls q ca cb _ _ l y Y' _ (Kd.C_drewN HKl.out _) HLl.out A7_.out).mono ?_); rintro e W9 ⟨v, rfl, hv, hb⟩; obtain ⟨AU, cU, rfl⟩ := Kd.R_slice hv; have HKU := Aside0.mk (Kd.R_reads' hv).2.2; have HLU := Aside0.mk (Kd.R_reads' hv).2.1; clear g0 g1 g2; replace HG := Aside0.mk (blk_below (blk_drewN HG.out _) hb); replace HLb := Aside0.mk (blk_below (blk_drewN HLb.out _) hb); replace HKg := Aside0.mk (Kd.C_below (Kd.C_drewN HKg.out _) hb); replace HKl := Aside0.mk (Kd.C_below (Kd.C_drewN HKl.out _) hb); replace HKX := Aside0.mk (Kd.C_below (Kd.C_drewN HKX.out _) hb); replace HKY := Aside0.mk (Kd.C_below (Kd.C_drewN HKY.out _) hb); replace HB := Aside0.mk (below_step (pw_below_drewN HB.out _) hb); clear hb hv) | (go_at_call 8; (first | (with_reducible refine (laws_pwInts.calls q _ _ X _ _ X' _ _ HKX.out HLX.out HKZ.out HLZ.out A6_.out).mono ?_) | (with_reducible refine (laws_pwInts.calls q _ _ Y _ _ Y' _ _ HKY.out HLY.out HKU.out HLU.out A8_.out).mono ?_)); rintro e W8 ⟨rfl, ⟨nd, rfl⟩⟩))
  rcases HS2.out with ⟨rfl, AJ⟩ | ⟨rfl, t2, B2_, AJ⟩
  · clear HS2
    rcases laws_FnGrdRow.parts2 AJ.out with ⟨_, q2, t3, t4, C3_, C4_, hs3⟩ | ⟨hv, _⟩
    rotate_left
    · cases hv
    clear AJ
    have g0 : _ = some (Value.int .i64 ga) := (blk_cell HG.out 0).trans rfl
    have g1 : _ = some (Value.int .i64 gb) := (blk_cell HG.out 1).trans rfl
    have g2 : _ = some (Value.slice AG g.length cg) := (blk_cell HG.out 2).trans rfl
    go_upto_region 10 with (go_at_call 11; (with_reducible refine (spec_GrdOk.calls q1 ga gb AG cg g _ _ (Kd.C_drewN HKg.out _) HLg.out B1_.out).mono ?_); rintro e W10 ⟨rfl, hb⟩; clear g0 g1 g2; replace HG := Aside0.mk (blk_below (blk_drewN HG.out _) hb); replace HLb := Aside0.mk (blk_below (blk_drewN HLb.out _) hb); replace HKg := Aside0.mk (Kd.C_below (Kd.C_drewN HKg.out _) hb); replace HKl := Aside0.mk (Kd.C_below (Kd.C_drewN HKl.out _) hb); replace HKX := Aside0.mk (Kd.C_below (Kd.C_drewN HKX.out _) hb); replace HKY := Aside0.mk (Kd.C_below (Kd.C_drewN HKY.out _) hb); replace HB := Aside0.mk (below_step (pw_below_drewN HB.out _) hb); clear hb; have g0 : W10.cell? ⟨L, 0, none⟩ = some (.int .i64 ca) := (blk_cell HLb.out 0).trans rfl; have g1 : W10.cell? ⟨L, 1, none⟩ = some (.int .i64 cb) := (blk_cell HLb.out 1).trans rfl; have g2 : W10.cell? ⟨L, 2, none⟩ = some (.slice AL l.length cl) := (blk_cell HLb.out 2).trans rfl)
    refine wp_letter (fun W0 => W0.heap[G]? = some (.cells #[.int .i64 ga, .int .i64 gb, .slice AG g.length cg] 25 (0, 0)) ∧ Kd.C k34 W0 AG g.length g ∧ Below w.heap.size w W0) ⟨HG.out, HKg.out, HB.out⟩ ?_
    rintro W0 ⟨hG, hK, hB⟩
    clear HG HLb HKg HKl HKX HKY HKZ HKU HB g0 g1 g2
    have HB := Aside0.mk hB
    have FK := Aside0.mk (fun (v : Ext W0) => Kd.C_below hK v.below)
    have FM := Aside0.mk (fun (v : Ext W0) => Txt.MLen_below (Txt.MLen_below HM.out hB) v.below)
    have xg0 := Ext.cell (w := W0) (p := ⟨G, 0, none⟩) ((blk_cell hG 0).trans rfl)
    have xg1 := Ext.cell (w := W0) (p := ⟨G, 1, none⟩) ((blk_cell hG 1).trans rfl)
    have xg2 := Ext.cell (w := W0) (p := ⟨G, 2, none⟩) ((blk_cell hG 2).trans rfl)
    clear hG hK hB
    rcases hs3 with ⟨he, CP⟩ | ⟨he, rfl⟩
    all_goals
      refine region_ext (by kernel_rfl) (by kernel_rfl) ?_
      repeat (go_big_quiet_step (first | (go_at_call 12; exact Calls.ext (impl_GrdOk.calls q2 ga gb AG cg g t3 _ (FK.out _) HLg.out C3_.out)) | (go_at_call 11; exact Calls.ext (spec_GrdOk.calls q2 ga gb AG cg g t4 _ (FK.out _) HLg.out C4_.out)) | (go_at_call 13; exact Calls.ext (laws_pwOk.calls _ _ (FM.out _) CP.out))))
      refine wpQuiet_nil ?_
      rintro W12 ⟨⟨W13, hb3⟩, rfl⟩
      go_wp2
      go_ret
      exact ⟨rfl, below_step HB.out hb3⟩
  have g0 : _ = some (Value.int .i64 ga) := (blk_cell HG.out 0).trans rfl
  have g1 : _ = some (Value.int .i64 gb) := (blk_cell HG.out 1).trans rfl
  have g2 : _ = some (Value.slice AG g.length cg) := (blk_cell HG.out 2).trans rfl
  cases t2
  · clear HS2
    rcases laws_FnGrdRow.parts2 AJ.out with ⟨_, q2, t3, t4, C3_, C4_, hs3⟩ | ⟨hv, _⟩
    rotate_left
    · cases hv
    clear AJ
    go_upto_region 10 with (first | (go_at_call 11; (with_reducible refine (spec_GrdOk.calls q1 ga gb AG cg g _ _ (Kd.C_drewN HKg.out _) HLg.out B1_.out).mono ?_); rintro e W10 ⟨rfl, hb⟩; clear g0 g1 g2; replace HG := Aside0.mk (blk_below (blk_drewN HG.out _) hb); replace HLb := Aside0.mk (blk_below (blk_drewN HLb.out _) hb); replace HKg := Aside0.mk (Kd.C_below (Kd.C_drewN HKg.out _) hb); replace HKl := Aside0.mk (Kd.C_below (Kd.C_drewN HKl.out _) hb); replace HKX := Aside0.mk (Kd.C_below (Kd.C_drewN HKX.out _) hb); replace HKY := Aside0.mk (Kd.C_below (Kd.C_drewN HKY.out _) hb); replace HB := Aside0.mk (below_step (pw_below_drewN HB.out _) hb); clear hb; have g0 : W10.cell? ⟨L, 0, none⟩ = some (.int .i64 ca) := (blk_cell HLb.out 0).trans rfl; have g1 : W10.cell? ⟨L, 1, none⟩ = some (.int .i64 cb) := (blk_cell HLb.out 1).trans rfl; have g2 : W10.cell? ⟨L, 2, none⟩ = some (.slice AL l.length cl) := (blk_cell HLb.out 2).trans rfl) | (go_at_call 11; (with_reducible refine (spec_GrdOk.calls q1 ca cb AL cl l _ _ HKl.out HLl.out B2_.out).mono ?_); rintro e W11 ⟨rfl, hb⟩; clear g0 g1 g2; replace HG := Aside0.mk (blk_below HG.out hb); replace HLb := Aside0.mk (blk_below HLb.out hb); replace HKg := Aside0.mk (Kd.C_below HKg.out hb); replace HKl := Aside0.mk (Kd.C_below HKl.out hb); replace HKX := Aside0.mk (Kd.C_below HKX.out hb); replace HKY := Aside0.mk (Kd.C_below HKY.out hb); replace HB := Aside0.mk (below_step HB.out hb); clear hb; have g0 : W11.cell? ⟨L, 0, none⟩ = some (.int .i64 ca) := (blk_cell HLb.out 0).trans rfl; have g1 : W11.cell? ⟨L, 1, none⟩ = some (.int .i64 cb) := (blk_cell HLb.out 1).trans rfl; have g2 : W11.cell? ⟨L, 2, none⟩ = some (.slice AL l.length cl) := (blk_cell HLb.out 2).trans rfl))
    refine wp_letter (fun W0 => W0.heap[G]? = some (.cells #[.int .i64 ga, .int .i64 gb, .slice AG g.length cg] 25 (0, 0)) ∧ Kd.C k34 W0 AG g.length g ∧ Below w.heap.size w W0) ⟨HG.out, HKg.out, HB.out⟩ ?_
    rintro W0 ⟨hG, hK, hB⟩
    clear HG HLb HKg HKl HKX HKY HKZ HKU HB g0 g1 g2
    have HB := Aside0.mk hB
    have FK := Aside0.mk (fun (v : Ext W0) => Kd.C_below hK v.below)
    have FM := Aside0.mk (fun (v : Ext W0) => Txt.MLen_below (Txt.MLen_below HM.out hB) v.below)
    have xg0 := Ext.cell (w := W0) (p := ⟨G, 0, none⟩) ((blk_cell hG 0).trans rfl)
    have xg1 := Ext.cell (w := W0) (p := ⟨G, 1, none⟩) ((blk_cell hG 1).trans rfl)
    have xg2 := Ext.cell (w := W0) (p := ⟨G, 2, none⟩) ((blk_cell hG 2).trans rfl)
    clear hG hK hB
    rcases hs3 with ⟨he, CP⟩ | ⟨he, rfl⟩
    all_goals
      refine region_ext (by kernel_rfl) (by kernel_rfl) ?_
      repeat (go_big_quiet_step (first | (go_at_call 12; exact Calls.ext (impl_GrdOk.calls q2 ga gb AG cg g t3 _ (FK.out _) HLg.out C3_.out)) | (go_at_call 11; exact Calls.ext (spec_GrdOk.calls q2 ga gb AG cg g t4 _ (FK.out _) HLg.out C4_.out)) | (go_at_call 13; exact Calls.ext (laws_pwOk.calls _ _ (FM.out _) CP.out))))
      refine wpQuiet_nil ?_
      rintro W12 ⟨⟨W13, hb3⟩, rfl⟩
      go_wp2
      go_ret
      exact ⟨rfl, below_step HB.out hb3⟩
  rcases laws_FnGrdRow.parts2 AJ.out with ⟨hv, _⟩ | ⟨_, q2, AL0⟩
  · cases hv
  clear HS2 AJ
  go_upto_region 12 with (first | (go_at_call 11; (with_reducible refine (spec_GrdOk.calls q1 ga gb AG cg g _ _ (Kd.C_drewN HKg.out _) HLg.out B1_.out).mono ?_); rintro e W10 ⟨rfl, hb⟩; clear g0 g1 g2; replace HG := Aside0.mk (blk_below (blk_drewN HG.out _) hb); replace HLb := Aside0.mk (blk_below (blk_drewN HLb.out _) hb); replace HKg := Aside0.mk (Kd.C_below (Kd.C_drewN HKg.out _) hb); replace HKl := Aside0.mk (Kd.C_below (Kd.C_drewN HKl.out _) hb); replace HKX := Aside0.mk (Kd.C_below (Kd.C_drewN HKX.out _) hb); replace HKY := Aside0.mk (Kd.C_below (Kd.C_drewN HKY.out _) hb); replace HB := Aside0.mk (below_step (pw_below_drewN HB.out _) hb); clear hb; have g0 : W10.cell? ⟨L, 0, none⟩ = some (.int .i64 ca) := (blk_cell HLb.out 0).trans rfl; have g1 : W10.cell? ⟨L, 1, none⟩ = some (.int .i64 cb) := (blk_cell HLb.out 1).trans rfl; have g2 : W10.cell? ⟨L, 2, none⟩ = some (.slice AL l.length cl) := (blk_cell HLb.out 2).trans rfl) | (go_at_call 11; (with_reducible refine (spec_GrdOk.calls q1 ca cb AL cl l _ _ HKl.out HLl.out B2_.out).mono ?_); rintro e W11 ⟨rfl, hb⟩; clear g0 g1 g2; replace HG := Aside0.mk (blk_below HG.out hb); replace HLb := Aside0.mk (blk_below HLb.out hb); replace HKg := Aside0.mk (Kd.C_below HKg.out hb); replace HKl := Aside0.mk (Kd.C_below HKl.out hb); replace HKX := Aside0.mk (Kd.C_below HKX.out hb); replace HKY := Aside0.mk (Kd.C_below HKY.out hb); replace HB := Aside0.mk (below_step HB.out hb); clear hb; have g0 : W11.cell? ⟨L, 0, none⟩ = some (.int .i64 ca) := (blk_cell HLb.out 0).trans rfl; have g1 : W11.cell? ⟨L, 1, none⟩ = some (.int .i64 cb) := (blk_cell HLb.out 1).trans rfl; have g2 : W11.cell? ⟨L, 2, none⟩ = some (.slice AL l.length cl) := (blk_cell HLb.out 2).trans rfl))
  have HW0 := Aside0.mk (laws_FnGrdRow.Wd.mk HG.out HLb.out HKg.out HKl.out HKX.out HKY.out HB.out)
  clear HG HLb HKg HKl HKX HKY HKZ HKU HB g0 g1 g2
  go_wp2
  go_loopg [11, 12] q2 (fun gg s11 s12 wr => ∃ (q' : Nat) (n i : Int), q' ≤ gg ∧ s11 = .int .i64 n ∧ s12 = .int .i64 i ∧ Aside0 (laws_FnGrdRow.l0 q' z y X Y n i ga gb g ca cb l = some r) ∧ Aside0 (laws_FnGrdRow.Wd w G L #[.int .i64 ga, .int .i64 gb, .slice AG g.length cg] #[.int .i64 ca, .int .i64 cb, .slice AL l.length cl] AG AL AX AY g l X Y wr))
  case atStart => exact ⟨q2, 0, 0, Nat.le_refl _, rfl, rfl, AL0, HW0⟩
  case round =>
    clear HW0 AL0
    obtain ⟨q', n, i, hq, rfl, rfl, HL2, HW⟩ := hrel
    have c2 : wr.cell? ⟨G, 2, none⟩ = some (.slice AG g.length cg) := (blk_cell HW.out.bg 2).trans rfl
    cases q' with
    | zero => exact absurd HL2.out (by simp [laws_FnGrdRow.l0])
    | succ q' =>
      by_cases hlt : i < (g.length : Int)
      · obtain ⟨h0, c, hc, hs⟩ := laws_FnGrdRow.step0 hlt HL2.out
        clear HL2
        obtain ⟨ad, rfl, p0, p1, p2, p3, p4⟩ := at_T34 HW.out.kg i h0 hlt
        rw [← hc] at p0 p1 p2 p3 p4
        clear hc
        have hl1 : (g.length : Int) ≤ 9223372036854775807 := by have := HW.out.kg.2.1; omega
        have ew : wrap64 (i + 1) = i + 1 := by unfold wrap64; omega
        rw [ew] at hs
        clear ew
        go_upto_region 15 with fail
        have xg2 := Ext.cell c2
        have xp0 := Ext.cell p0
        have xp2 := Ext.cell p2
        clear p1 p3 p4
        rcases hs with ⟨t1, t2, AL⟩ | ⟨t1, t2, AL⟩ | ⟨t1, AL⟩
        · have d1 : decide (c.f0 ≤ z) = true := decide_eq_true t1
          have d2 : decide (z < wrap64 (c.f0 + c.f2)) = true := decide_eq_true t2
          clear t1 t2
          refine region_ext (by kernel_rfl) (by kernel_rfl) ?_
          repeat (go_big_quiet_step (fail))
          refine wpQuiet_nil ?_
          rintro W12 ⟨⟨W13, hb3⟩, rfl⟩
          go_wp2
          go_roundg q'
          case measure => omega
          case rel => exact ⟨q', _, _, Nat.le_refl _, rfl, rfl, AL, ⟨HW.out.below hb3⟩⟩
        · have d1 : decide (c.f0 ≤ z) = true := decide_eq_true t1
          have d2 : decide (z < wrap64 (c.f0 + c.f2)) = false := decide_eq_false t2
          clear t1 t2
          refine region_ext (by kernel_rfl) (by kernel_rfl) ?_
          repeat (go_big_quiet_step (fail))
          refine wpQuiet_nil ?_
          rintro W12 ⟨⟨W13, hb3⟩, rfl⟩
          go_wp2
          go_roundg q'
          case measure => omega
          case rel => exact ⟨q', _, _, Nat.le_refl _, rfl, rfl, AL, ⟨HW.out.below hb3⟩⟩
        · have d1 : decide (c.f0 ≤ z) = false := decide_eq_false t1
          clear t1
          refine region_ext (by kernel_rfl) (by kernel_rfl) ?_
          repeat (go_big_quiet_step (fail))
          refine wpQuiet_nil ?_
          rintro W12 ⟨⟨W13, hb3⟩, rfl⟩
          go_wp2
          go_roundg q'
          case measure => omega
          case rel => exact ⟨q', _, _, Nat.le_refl _, rfl, rfl, AL, ⟨HW.out.below hb3⟩⟩
      · have AL1 : Aside0 (laws_FnGrdRow.l1 q' y X Y n 0 0 ga gb g ca cb l = some r) := ⟨by have h := HL2.out; simp only [laws_FnGrdRow.l0] at h; rw [if_neg hlt] at h; exact h⟩
        clear HL2 hq
        go_wp2
        clear hlt c2
        go_loopg [13, 14] q' (fun gg s13 s14 wr => ∃ (q' : Nat) (m i : Int), q' ≤ gg ∧ s13 = .int .i64 m ∧ s14 = .int .i64 i ∧ Aside0 (laws_FnGrdRow.l1 q' y X Y n m i ga gb g ca cb l = some r) ∧ Aside0 (laws_FnGrdRow.Wd w G L #[.int .i64 ga, .int .i64 gb, .slice AG g.length cg] #[.int .i64 ca, .int .i64 cb, .slice AL l.length cl] AG AL AX AY g l X Y wr))
        case atStart => exact ⟨q', 0, 0, Nat.le_refl _, rfl, rfl, AL1, HW⟩
        case round =>
          clear HW AL1
          obtain ⟨q', m, i, hq, rfl, rfl, HL2, HW⟩ := hrel
          have c2 : _ = some (Value.slice AL l.length cl) := (blk_cell HW.out.bl 2).trans rfl
          cases q' with
          | zero => exact absurd HL2.out (by simp [laws_FnGrdRow.l1])
          | succ q' =>
            by_cases hlt : i < (l.length : Int)
            · obtain ⟨h0, c, hc, hs⟩ := laws_FnGrdRow.step1 hlt HL2.out
              clear HL2
              obtain ⟨ad, rfl, p0, p1, p2, p3, p4⟩ := at_T34 HW.out.kl i h0 hlt
              rw [← hc] at p0 p1 p2 p3 p4
              clear hc
              have hl1 : (l.length : Int) ≤ 9223372036854775807 := by have := HW.out.kl.2.1; omega
              have ew : wrap64 (i + 1) = i + 1 := by unfold wrap64; omega
              rw [ew] at hs
              clear ew
              go_upto_region 21 with fail
              have xg2 := Ext.cell c2
              have xp1 := Ext.cell p1
              have xp3 := Ext.cell p3
              clear p0 p2 p4
              rcases hs with ⟨t1, t2, AL⟩ | ⟨t1, t2, AL⟩ | ⟨t1, AL⟩
              · have d1 : decide (c.f1 ≤ y) = true := decide_eq_true t1
                have d2 : decide (y < wrap64 (c.f1 + c.f3)) = true := decide_eq_true t2
                clear t1 t2
                refine region_ext (by kernel_rfl) (by kernel_rfl) ?_
                repeat (go_big_quiet_step (fail))
                refine wpQuiet_nil ?_
                rintro W12 ⟨⟨W13, hb3⟩, rfl⟩
                go_wp2
                go_roundg q'
                case measure => omega
                case rel => exact ⟨q', _, _, Nat.le_refl _, rfl, rfl, AL, ⟨HW.out.below hb3⟩⟩
              · have d1 : decide (c.f1 ≤ y) = true := decide_eq_true t1
                have d2 : decide (y < wrap64 (c.f1 + c.f3)) = false := decide_eq_false t2
                clear t1 t2
                refine region_ext (by kernel_rfl) (by kernel_rfl) ?_
                repeat (go_big_quiet_step (fail))
                refine wpQuiet_nil ?_
                rintro W12 ⟨⟨W13, hb3⟩, rfl⟩
                go_wp2
                go_roundg q'
                case measure => omega
                case rel => exact ⟨q', _, _, Nat.le_refl _, rfl, rfl, AL, ⟨HW.out.below hb3⟩⟩
              · have d1 : decide (c.f1 ≤ y) = false := decide_eq_false t1
                clear t1
                refine region_ext (by kernel_rfl) (by kernel_rfl) ?_
                repeat (go_big_quiet_step (fail))
                refine wpQuiet_nil ?_
                rintro W12 ⟨⟨W13, hb3⟩, rfl⟩
                go_wp2
                go_roundg q'
                case measure => omega
                case rel => exact ⟨q', _, _, Nat.le_refl _, rfl, rfl, AL, ⟨HW.out.below hb3⟩⟩
            · have AL1 : Aside0 (laws_FnGrdRow.l2 q' X Y n m 1 ga gb g ca cb l = some r) := ⟨by have h := HL2.out; simp only [laws_FnGrdRow.l1] at h; rw [if_neg hlt] at h; exact h⟩
              clear HL2 hq
              go_wp2
              clear hlt c2
              go_loopg [15] q' (fun gg s15 wr => ∃ (q' : Nat) (i : Int), q' ≤ gg ∧ s15 = .int .i64 i ∧ Aside0 (laws_FnGrdRow.l2 q' X Y n m i ga gb g ca cb l = some r) ∧ Aside0 (laws_FnGrdRow.Wd w G L #[.int .i64 ga, .int .i64 gb, .slice AG g.length cg] #[.int .i64 ca, .int .i64 cb, .slice AL l.length cl] AG AL AX AY g l X Y wr))
              case atStart => exact ⟨q', 1, Nat.le_refl _, rfl, AL1, HW⟩
              case round =>
                clear HW AL1
                obtain ⟨q', i, hq, rfl, HL2, HW⟩ := hrel
                have c2 : _ = some (Value.slice AG g.length cg) := (blk_cell HW.out.bg 2).trans rfl
                cases q' with
                | zero => exact absurd HL2.out (by simp [laws_FnGrdRow.l2])
                | succ q' =>
                  by_cases hlt : i < (X.length : Int)
                  · obtain ⟨i0, i1, i2, a, b, ha, hb, a0, a1, b0, b1, c, d, hc, hd, hs⟩ := laws_FnGrdRow.step2 hlt HL2.out
                    clear HL2
                    have hl1 : (X.length : Int) ≤ 9223372036854775807 := by have := HW.out.kx.2.1; omega
                    have ew : wrap64 (i + 1) = i + 1 := by unfold wrap64; omega
                    obtain ⟨j, ev⟩ : ∃ j, wrap64 (i - 1) = j := ⟨_, rfl⟩
                    have ej : j = i - 1 := by rw [← ev]; unfold wrap64; omega
                    have ei : IntKind.i64.wrap (i - 1) = j := by rw [IntKind.wrap_i64, ej]; omega
                    rw [ew] at hs
                    rw [ev] at i0 i1 ha
                    clear ew ev ej
                    obtain ⟨ax, ex, u1⟩ := Kd.at_int HW.out.kx j i0 i1
                    subst ex
                    obtain ⟨ax2, ex, u2⟩ := Kd.at_int HW.out.kx i i2 hlt
                    cases ex
                    rw [← ha] at u1
                    rw [← hb] at u2
                    clear ha hb
                    obtain ⟨ad, ex, p0, p1, p2, p3, p4⟩ := at_T34 HW.out.kg a a0 a1
                    subst ex
                    obtain ⟨ad2, ex, r0, r1, r2, r3, r4⟩ := at_T34 HW.out.kg b b0 b1
                    cases ex
                    rw [← hc] at p0 p1 p2 p3 p4
                    rw [← hd] at r0 r1 r2 r3 r4
                    clear hc hd
                    go_upto_region 26 with fail
                    have xg2 := Ext.cell c2
                    have xp1 := Ext.cell p1
                    have xr1 := Ext.cell r1
                    have xu1 := Ext.cell u1
                    have xu2 := Ext.cell u2
                    clear p0 p1 p2 p3 p4 r0 r1 r2 r3 r4 u1 u2
                    rcases hs with ⟨t1, hr⟩ | ⟨t1, AL⟩
                    · subst hr
                      have d1 : decide (d.f1 ≤ c.f1) = true := decide_eq_true t1
                      clear t1
                      refine region_ext (by kernel_rfl) (by kernel_rfl) ?_
                      repeat (go_big_quiet_step (fail))
                      refine wpQuiet_nil ?_
                      rintro W12 ⟨⟨W13, hb3⟩, rfl⟩
                      go_wp2
                      go_ret
                      exact ⟨rfl, below_step HW.out.bb hb3⟩
                    · have d1 : decide (d.f1 ≤ c.f1) = false := decide_eq_false t1
                      clear t1
                      refine region_ext (by kernel_rfl) (by kernel_rfl) ?_
                      repeat (go_big_quiet_step (fail))
                      refine wpQuiet_nil ?_
                      rintro W12 ⟨⟨W13, hb3⟩, rfl⟩
                      go_wp2
                      go_roundg q'
                      case measure => omega
                      case rel => exact ⟨q', _, Nat.le_refl _, rfl, AL, ⟨HW.out.below hb3⟩⟩
                  · have AL1 : Aside0 (laws_FnGrdRow.l3 q' X Y n m 1 ca cb l = some r) := ⟨by have h := HL2.out; simp only [laws_FnGrdRow.l2] at h; rw [if_neg hlt] at h; exact h⟩
                    clear HL2 hq
                    go_wp2
                    clear hlt c2
                    go_loopg [16] q' (fun gg s16 wr => ∃ (q' : Nat) (i : Int), q' ≤ gg ∧ s16 = .int .i64 i ∧ Aside0 (laws_FnGrdRow.l3 q' X Y n m i ca cb l = some r) ∧ Aside0 (laws_FnGrdRow.Wd w G L #[.int .i64 ga, .int .i64 gb, .slice AG g.length cg] #[.int .i64 ca, .int .i64 cb, .slice AL l.length cl] AG AL AX AY g l X Y wr))
                    case atStart => exact ⟨q', 1, Nat.le_refl _, rfl, AL1, HW⟩
                    case round =>
                      clear HW AL1
                      obtain ⟨q', i, hq, rfl, HL2, HW⟩ := hrel
                      have c2 : _ = some (Value.slice AL l.length cl) := (blk_cell HW.out.bl 2).trans rfl
                      cases q' with
                      | zero => exact absurd HL2.out (by simp [laws_FnGrdRow.l3])
                      | succ q' =>
                        by_cases hlt : i < (Y.length : Int)
                        · obtain ⟨i0, i1, i2, a, b, ha, hb, a0, a1, b0, b1, c, d, hc, hd, hs⟩ := laws_FnGrdRow.step3 hlt HL2.out
                          clear HL2
                          have hl1 : (Y.length : Int) ≤ 9223372036854775807 := by have := HW.out.ky.2.1; omega
                          have ew : wrap64 (i + 1) = i + 1 := by unfold wrap64; omega
                          obtain ⟨j, ev⟩ : ∃ j, wrap64 (i - 1) = j := ⟨_, rfl⟩
                          have ej : j = i - 1 := by rw [← ev]; unfold wrap64; omega
                          have ei : IntKind.i64.wrap (i - 1) = j := by rw [IntKind.wrap_i64, ej]; omega
                          rw [ew] at hs
                          rw [ev] at i0 i1 ha
                          clear ew ev ej
                          obtain ⟨ax, ex, u1⟩ := Kd.at_int HW.out.ky j i0 i1
                          subst ex
                          obtain ⟨ax2, ex, u2⟩ := Kd.at_int HW.out.ky i i2 hlt
                          cases ex
                          rw [← ha] at u1
                          rw [← hb] at u2
                          clear ha hb
                          obtain ⟨ad, ex, p0, p1, p2, p3, p4⟩ := at_T34 HW.out.kl a a0 a1
                          subst ex
                          obtain ⟨ad2, ex, r0, r1, r2, r3, r4⟩ := at_T34 HW.out.kl b b0 b1
                          cases ex
                          rw [← hc] at p0 p1 p2 p3 p4
                          rw [← hd] at r0 r1 r2 r3 r4
                          clear hc hd
                          go_upto_region 31 with fail
                          have xg2 := Ext.cell c2
                          have xp0 := Ext.cell p0
                          have xr0 := Ext.cell r0
                          have xu1 := Ext.cell u1
                          have xu2 := Ext.cell u2
                          clear p0 p1 p2 p3 p4 r0 r1 r2 r3 r4 u1 u2
                          rcases hs with ⟨t1, hr⟩ | ⟨t1, AL⟩
                          · subst hr
                            have d1 : decide (d.f0 ≤ c.f0) = true := decide_eq_true t1
                            clear t1
                            refine region_ext (by kernel_rfl) (by kernel_rfl) ?_
                            repeat (go_big_quiet_step (fail))
                            refine wpQuiet_nil ?_
                            rintro W12 ⟨⟨W13, hb3⟩, rfl⟩
                            go_wp2
                            go_ret
                            exact ⟨rfl, below_step HW.out.bb hb3⟩
                          · have d1 : decide (d.f0 ≤ c.f0) = false := decide_eq_false t1
                            clear t1
                            refine region_ext (by kernel_rfl) (by kernel_rfl) ?_
                            repeat (go_big_quiet_step (fail))
                            refine wpQuiet_nil ?_
                            rintro W12 ⟨⟨W13, hb3⟩, rfl⟩
                            go_wp2
                            go_roundg q'
                            case measure => omega
                            case rel => exact ⟨q', _, Nat.le_refl _, rfl, AL, ⟨HW.out.below hb3⟩⟩
                        · rcases laws_FnGrdRow.last3 hlt HL2.out with ⟨e1, rfl⟩ | ⟨e1, rfl⟩
                          · have d1 : decide (n = (X.length : Int)) = true := decide_eq_true e1
                            have d2 : (n == (X.length : Int)) = true := by simpa using e1
                            clear e1
                            go_wp2
                            go_ret
                            exact ⟨rfl, HW.out.bb⟩
                          · have d1 : decide (n = (X.length : Int)) = false := decide_eq_false e1
                            have d2 : (n == (X.length : Int)) = false := by simpa using e1
                            clear e1
                            go_wp2
                            go_ret
                            exact ⟨rfl, HW.out.bb⟩
def laws_FnGrdRow.Pure : Prop := ∀ (l0 : List Int) (l1 : List Int), l0.length ≤ maxLen → l0.length * 1 ≤ 140737488351232 → (∀ x ∈ l0, (Lit.int .u8 x).wf = true) → l1.length ≤ maxLen → l1.length * 1 ≤ 140737488351232 → (∀ x ∈ l1, (Lit.int .u8 x).wf = true) → ∃ k, laws_FnGrdRow.f k l0 l1 = some true


end Go.Proofs.YtkbcmbjoelkgoaaDoor.Q
