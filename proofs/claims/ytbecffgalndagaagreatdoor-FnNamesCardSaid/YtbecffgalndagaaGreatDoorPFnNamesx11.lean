/- Walks of the functions that a law of seat YtbecffgalndagaaGreatDoor reaches, each against a Lean function, printed by this session's wip/myprint.py; no condition of their own. -/
import Derived.Test.YtbecffgalndagaaGreatDoorPFnNamesx0
import Derived.Test.YtbecffgalndagaaGreatDoorPFnNamesx1
import Derived.Test.YtbecffgalndagaaGreatDoorPFnNamesx2
import Derived.Test.YtbecffgalndagaaGreatDoorPFnNamesx4
import Derived.Test.YtbecffgalndagaaGreatDoorPFnNamesx5
import Derived.Test.YtbecffgalndagaaGreatDoorPFnNamesx7
import Derived.Test.YtbecffgalndagaaGreatDoorPFnNamesx8
import Derived.Test.YtbecffgalndagaaGreatDoorPFnNamesx9
import Derived.Test.YtbecffgalndagaaGreatDoorPFnNamesx10
namespace Go.Proofs.YtbecffgalndagaaGreatDoor.PFnNames
open Go.RowKit Go.Proofs.YtbecffgalndagaaGreatDoorW.PrintWords Go.Proofs.YtbecffgalndagaaGreatDoorW.PrintLast Go.Proofs.YtbecffgalndagaaGreatDoorW.PrintMore
attribute [local go_sem] max2_int min2_int max_two min_two max_three min_three max_four min_four   -- for this text's walks alone
set_option maxHeartbeats 8000000
set_option maxRecDepth 100000
set_option linter.unusedVariables false
set_option linter.unusedSimpArgs false

/-! ### laws_FnNames: function 3 -/
mutual
def laws_FnNames.j0 : Nat → ByteArray → List (S41) → Bool → ByteArray → ByteArray → ByteArray → ByteArray → ByteArray → Int → ByteArray → Bool → Option (Bool)
 | 0, _, _, _, _, _, _, _, _, _, _, _ => none
 | k + 1, x3, x4, x5, x8, x9, x10, x11, x12, x13, x15, x123 => if x123 = true then (some false) else (if x15.toList = ([] : List UInt8) then (laws_FnNames.j1 k x3 x4 x5 x8 x9 x10 x11 false) else ((impl_UpOf.f k x15).bind fun t565 => (if t565.toList = x12.toList then ((impl_ViewOf.f k x15).bind fun t566 => (if t566 = x13 then ((impl_Height.f k x15).bind fun t567 => ((impl_Height.f k x12).bind fun t568 => (if t567 = (wrap64 (t568 + 1)) then ((impl_Extends.f k x15 x12).bind fun t569 => (laws_FnNames.j1 k x3 x4 x5 x8 x9 x10 x11 (!t569))) else (none)))) else (none))) else (none))))
def laws_FnNames.j1 : Nat → ByteArray → List (S41) → Bool → ByteArray → ByteArray → ByteArray → ByteArray → Bool → Option (Bool)
 | 0, _, _, _, _, _, _, _, _ => none
 | k + 1, x3, x4, x5, x8, x9, x10, x11, x151 => if x151 = true then (some false) else ((impl_Extends.f k x8 x9).bind fun t570 => (if t570 = true then ((impl_Height.f k x8).bind fun t571 => ((impl_Height.f k x9).bind fun t572 => (if t571 < t572 then (none) else ((impl_ViewOf.f k x8).bind fun t573 => ((impl_ViewOf.f k x9).bind fun t574 => (laws_FnNames.j2 k x3 x4 x5 x10 x11 (decide (t573 < t574)))))))) else (laws_FnNames.j2 k x3 x4 x5 x10 x11 false)))
def laws_FnNames.j2 : Nat → ByteArray → List (S41) → Bool → ByteArray → ByteArray → Bool → Option (Bool)
 | 0, _, _, _, _, _, _ => none
 | k + 1, x3, x4, x5, x10, x11, x168 => if x168 = true then (some false) else (if x5 = true then (laws_FnNames.l0 k x3 x4 x10 x11 (⟨#[]⟩ : ByteArray) 0) else (if (x4.length : Int) = 0 then ((impl_Height.f k x3).bind fun t575 => (some (t575 == (-1)))) else (some false)))
def laws_FnNames.l0 : Nat → ByteArray → List (S41) → ByteArray → ByteArray → ByteArray → Int → Option (Bool)
 | 0, _, _, _, _, _, _ => none
 | k + 1, x3, x4, x10, x11, x16, x17 => if x17 < (x4.length : Int) then (if 0 ≤ x17 then ((impl_NameOf.f k x16 ((rd_T41 x4 x17).f0) ((rd_T41 x4 x17).f1)).bind fun t578 => (laws_FnNames.l0 k x3 x4 x10 x11 t578 (wrap64 (x17 + 1)))) else (none)) else (if x16.toList = x3.toList then ((impl_Meets.f k x10 x11).bind fun t579 => ((impl_Meets.f k x11 x10).bind fun t580 => (if (t579 == t580) = true then ((impl_UpOf.f k x3).bind fun t581 => ((impl_Extends.f k x3 t581).bind fun t582 => (some t582))) else (some false)))) else (some false))
end
def laws_FnNames.f (k : Nat) (l0 : List Int) : Option (Bool) := (laws_big.f l0).bind fun t525 => (if t525 = true then (some true) else ((spec_DrawSteps.f k l0).bind fun t526 => ((impl_Steps.f k t526).bind fun bt527 => ((spec_Steps.f k t526).bind fun bt531 => ((spec_DrawExtends.f k l0).bind fun bt535 => ((spec_DrawMeets.f k l0).bind fun bt537 => ((spec_DrawNameOf.f k l0).bind fun bt539 => ((impl_NameOf.f k bt539.1 bt539.2.1 bt539.2.2).bind fun t544 => (if (bt527.2 != bt531.2) = true then (none) else (if (bt527.1.length : Int) = (bt531.1.length : Int) then ((impl_NameOk.f k t526).bind fun t545 => (if (t545 != bt527.2) = true then (none) else ((impl_Extends.f k bt535.1 bt535.2).bind fun t546 => ((spec_Extends.f k bt535.1 bt535.2).bind fun t547 => (if (t546 != t547) = true then (none) else ((impl_Meets.f k bt537.1 bt537.2).bind fun t548 => ((spec_Meets.f k bt537.1 bt537.2).bind fun t549 => (if (t548 != t549) = true then (none) else ((spec_NameOf.f k bt539.1 bt539.2.1 bt539.2.2).bind fun t550 => (if t544.toList = t550.toList then ((impl_Height.f k t526).bind fun t551 => ((spec_Height.f k t526).bind fun t552 => (if t551 = t552 then ((impl_UpOf.f k t526).bind fun t553 => ((spec_UpOf.f k t526).bind fun t554 => (if t553.toList = t554.toList then ((impl_ViewOf.f k t526).bind fun t555 => ((spec_ViewOf.f k t526).bind fun t556 => (if t555 = t556 then ((impl_TxsIn.f k t526).bind fun t557 => ((impl_TxsText.f k t557).bind fun t560 => ((spec_TxsIn.f k t526).bind fun t561 => ((spec_TxsText.f k t561).bind fun t564 => (laws_FnNames.j0 k t526 bt527.1 bt527.2 bt535.1 bt535.2 bt537.1 bt537.2 bt539.1 bt539.2.1 t544 (t560.toList != t564.toList)))))) else (none)))) else (none)))) else (none)))) else (none))))))))))) else (none)))))))))))
theorem laws_FnNames.mono_l : ∀ k, (∀ y0 y1 y2 y3 y4 y5 y6 y7 y8 y9 y10, LeO (laws_FnNames.j0 k y0 y1 y2 y3 y4 y5 y6 y7 y8 y9 y10) (laws_FnNames.j0 (k + 1) y0 y1 y2 y3 y4 y5 y6 y7 y8 y9 y10)) ∧ (∀ y0 y1 y2 y3 y4 y5 y6 y7, LeO (laws_FnNames.j1 k y0 y1 y2 y3 y4 y5 y6 y7) (laws_FnNames.j1 (k + 1) y0 y1 y2 y3 y4 y5 y6 y7)) ∧ (∀ y0 y1 y2 y3 y4 y5, LeO (laws_FnNames.j2 k y0 y1 y2 y3 y4 y5) (laws_FnNames.j2 (k + 1) y0 y1 y2 y3 y4 y5)) ∧ (∀ y0 y1 y2 y3 y4 y5, LeO (laws_FnNames.l0 k y0 y1 y2 y3 y4 y5) (laws_FnNames.l0 (k + 1) y0 y1 y2 y3 y4 y5))
 | 0 => ⟨fun _ _ _ _ _ _ _ _ _ _ _ r h => by simp [laws_FnNames.j0] at h, fun _ _ _ _ _ _ _ _ r h => by simp [laws_FnNames.j1] at h, fun _ _ _ _ _ _ r h => by simp [laws_FnNames.j2] at h, fun _ _ _ _ _ _ r h => by simp [laws_FnNames.l0] at h⟩
 | k + 1 => by
  obtain ⟨ih0, ih1, ih2, ih3⟩ := laws_FnNames.mono_l k
  refine ⟨?_, ?_, ?_, ?_⟩
  ·intro y0 y1 y2 y3 y4 y5 y6 y7 y8 y9 y10
   unfold laws_FnNames.j0
   repeat' first
   | (with_reducible exact ih0 _ _ _ _ _ _ _ _ _ _ _)
   | (with_reducible exact ih1 _ _ _ _ _ _ _ _)
   | (with_reducible exact ih2 _ _ _ _ _ _)
   | (with_reducible exact ih3 _ _ _ _ _ _)
   | (with_reducible exact impl_Extends.mono _ _ _)
   | (with_reducible exact impl_Height.mono _ _)
   | (with_reducible exact impl_Meets.mono _ _ _)
   | (with_reducible exact impl_NameOf.mono _ _ _ _)
   | (with_reducible exact impl_NameOk.mono _ _)
   | (with_reducible exact impl_Steps.mono _ _)
   | (with_reducible exact impl_TxsIn.mono _ _)
   | (with_reducible exact impl_TxsText.mono _ _)
   | (with_reducible exact impl_UpOf.mono _ _)
   | (with_reducible exact impl_ViewOf.mono _ _)
   | (with_reducible exact spec_DrawExtends.mono _ _)
   | (with_reducible exact spec_DrawMeets.mono _ _)
   | (with_reducible exact spec_DrawNameOf.mono _ _)
   | (with_reducible exact spec_DrawSteps.mono _ _)
   | (with_reducible exact spec_Extends.mono _ _ _)
   | (with_reducible exact spec_Height.mono _ _)
   | (with_reducible exact spec_Meets.mono _ _ _)
   | (with_reducible exact spec_NameOf.mono _ _ _ _)
   | (with_reducible exact spec_Steps.mono _ _)
   | (with_reducible exact spec_TxsIn.mono _ _)
   | (with_reducible exact spec_TxsText.mono _ _)
   | (with_reducible exact spec_UpOf.mono _ _)
   | (with_reducible exact spec_ViewOf.mono _ _)
   | (with_reducible exact LeO.refl _)
   | (with_reducible exact LeO.none _)
   | (with_reducible refine LeO.ite ?_ ?_)
   | (with_reducible refine LeO.bind ?_ (fun _ => ?_))
   | exact ih0 _ _ _ _ _ _ _ _ _ _ _
   | exact ih1 _ _ _ _ _ _ _ _
   | exact ih2 _ _ _ _ _ _
   | exact ih3 _ _ _ _ _ _
   | exact impl_Extends.mono _ _ _
   | exact impl_Height.mono _ _
   | exact impl_Meets.mono _ _ _
   | exact impl_NameOf.mono _ _ _ _
   | exact impl_NameOk.mono _ _
   | exact impl_Steps.mono _ _
   | exact impl_TxsIn.mono _ _
   | exact impl_TxsText.mono _ _
   | exact impl_UpOf.mono _ _
   | exact impl_ViewOf.mono _ _
   | exact spec_DrawExtends.mono _ _
   | exact spec_DrawMeets.mono _ _
   | exact spec_DrawNameOf.mono _ _
   | exact spec_DrawSteps.mono _ _
   | exact spec_Extends.mono _ _ _
   | exact spec_Height.mono _ _
   | exact spec_Meets.mono _ _ _
   | exact spec_NameOf.mono _ _ _ _
   | exact spec_Steps.mono _ _
   | exact spec_TxsIn.mono _ _
   | exact spec_TxsText.mono _ _
   | exact spec_UpOf.mono _ _
   | exact spec_ViewOf.mono _ _
   | exact LeO.none _
   | refine LeO.ite ?_ ?_
   | refine LeO.bind ?_ (fun _ => ?_)
  ·intro y0 y1 y2 y3 y4 y5 y6 y7
   unfold laws_FnNames.j1
   repeat' first
   | (with_reducible exact ih0 _ _ _ _ _ _ _ _ _ _ _)
   | (with_reducible exact ih1 _ _ _ _ _ _ _ _)
   | (with_reducible exact ih2 _ _ _ _ _ _)
   | (with_reducible exact ih3 _ _ _ _ _ _)
   | (with_reducible exact impl_Extends.mono _ _ _)
   | (with_reducible exact impl_Height.mono _ _)
   | (with_reducible exact impl_Meets.mono _ _ _)
   | (with_reducible exact impl_NameOf.mono _ _ _ _)
   | (with_reducible exact impl_NameOk.mono _ _)
   | (with_reducible exact impl_Steps.mono _ _)
   | (with_reducible exact impl_TxsIn.mono _ _)
   | (with_reducible exact impl_TxsText.mono _ _)
   | (with_reducible exact impl_UpOf.mono _ _)
   | (with_reducible exact impl_ViewOf.mono _ _)
   | (with_reducible exact spec_DrawExtends.mono _ _)
   | (with_reducible exact spec_DrawMeets.mono _ _)
   | (with_reducible exact spec_DrawNameOf.mono _ _)
   | (with_reducible exact spec_DrawSteps.mono _ _)
   | (with_reducible exact spec_Extends.mono _ _ _)
   | (with_reducible exact spec_Height.mono _ _)
   | (with_reducible exact spec_Meets.mono _ _ _)
   | (with_reducible exact spec_NameOf.mono _ _ _ _)
   | (with_reducible exact spec_Steps.mono _ _)
   | (with_reducible exact spec_TxsIn.mono _ _)
   | (with_reducible exact spec_TxsText.mono _ _)
   | (with_reducible exact spec_UpOf.mono _ _)
   | (with_reducible exact spec_ViewOf.mono _ _)
   | (with_reducible exact LeO.refl _)
   | (with_reducible exact LeO.none _)
   | (with_reducible refine LeO.ite ?_ ?_)
   | (with_reducible refine LeO.bind ?_ (fun _ => ?_))
   | exact ih0 _ _ _ _ _ _ _ _ _ _ _
   | exact ih1 _ _ _ _ _ _ _ _
   | exact ih2 _ _ _ _ _ _
   | exact ih3 _ _ _ _ _ _
   | exact impl_Extends.mono _ _ _
   | exact impl_Height.mono _ _
   | exact impl_Meets.mono _ _ _
   | exact impl_NameOf.mono _ _ _ _
   | exact impl_NameOk.mono _ _
   | exact impl_Steps.mono _ _
   | exact impl_TxsIn.mono _ _
   | exact impl_TxsText.mono _ _
   | exact impl_UpOf.mono _ _
   | exact impl_ViewOf.mono _ _
   | exact spec_DrawExtends.mono _ _
   | exact spec_DrawMeets.mono _ _
   | exact spec_DrawNameOf.mono _ _
   | exact spec_DrawSteps.mono _ _
   | exact spec_Extends.mono _ _ _
   | exact spec_Height.mono _ _
   | exact spec_Meets.mono _ _ _
   | exact spec_NameOf.mono _ _ _ _
   | exact spec_Steps.mono _ _
   | exact spec_TxsIn.mono _ _
   | exact spec_TxsText.mono _ _
   | exact spec_UpOf.mono _ _
   | exact spec_ViewOf.mono _ _
   | exact LeO.none _
   | refine LeO.ite ?_ ?_
   | refine LeO.bind ?_ (fun _ => ?_)
  ·intro y0 y1 y2 y3 y4 y5
   unfold laws_FnNames.j2
   repeat' first
   | (with_reducible exact ih0 _ _ _ _ _ _ _ _ _ _ _)
   | (with_reducible exact ih1 _ _ _ _ _ _ _ _)
   | (with_reducible exact ih2 _ _ _ _ _ _)
   | (with_reducible exact ih3 _ _ _ _ _ _)
   | (with_reducible exact impl_Extends.mono _ _ _)
   | (with_reducible exact impl_Height.mono _ _)
   | (with_reducible exact impl_Meets.mono _ _ _)
   | (with_reducible exact impl_NameOf.mono _ _ _ _)
   | (with_reducible exact impl_NameOk.mono _ _)
   | (with_reducible exact impl_Steps.mono _ _)
   | (with_reducible exact impl_TxsIn.mono _ _)
   | (with_reducible exact impl_TxsText.mono _ _)
   | (with_reducible exact impl_UpOf.mono _ _)
   | (with_reducible exact impl_ViewOf.mono _ _)
   | (with_reducible exact spec_DrawExtends.mono _ _)
   | (with_reducible exact spec_DrawMeets.mono _ _)
   | (with_reducible exact spec_DrawNameOf.mono _ _)
   | (with_reducible exact spec_DrawSteps.mono _ _)
   | (with_reducible exact spec_Extends.mono _ _ _)
   | (with_reducible exact spec_Height.mono _ _)
   | (with_reducible exact spec_Meets.mono _ _ _)
   | (with_reducible exact spec_NameOf.mono _ _ _ _)
   | (with_reducible exact spec_Steps.mono _ _)
   | (with_reducible exact spec_TxsIn.mono _ _)
   | (with_reducible exact spec_TxsText.mono _ _)
   | (with_reducible exact spec_UpOf.mono _ _)
   | (with_reducible exact spec_ViewOf.mono _ _)
   | (with_reducible exact LeO.refl _)
   | (with_reducible exact LeO.none _)
   | (with_reducible refine LeO.ite ?_ ?_)
   | (with_reducible refine LeO.bind ?_ (fun _ => ?_))
   | exact ih0 _ _ _ _ _ _ _ _ _ _ _
   | exact ih1 _ _ _ _ _ _ _ _
   | exact ih2 _ _ _ _ _ _
   | exact ih3 _ _ _ _ _ _
   | exact impl_Extends.mono _ _ _
   | exact impl_Height.mono _ _
   | exact impl_Meets.mono _ _ _
   | exact impl_NameOf.mono _ _ _ _
   | exact impl_NameOk.mono _ _
   | exact impl_Steps.mono _ _
   | exact impl_TxsIn.mono _ _
   | exact impl_TxsText.mono _ _
   | exact impl_UpOf.mono _ _
   | exact impl_ViewOf.mono _ _
   | exact spec_DrawExtends.mono _ _
   | exact spec_DrawMeets.mono _ _
   | exact spec_DrawNameOf.mono _ _
   | exact spec_DrawSteps.mono _ _
   | exact spec_Extends.mono _ _ _
   | exact spec_Height.mono _ _
   | exact spec_Meets.mono _ _ _
   | exact spec_NameOf.mono _ _ _ _
   | exact spec_Steps.mono _ _
   | exact spec_TxsIn.mono _ _
   | exact spec_TxsText.mono _ _
   | exact spec_UpOf.mono _ _
   | exact spec_ViewOf.mono _ _
   | exact LeO.none _
   | refine LeO.ite ?_ ?_
   | refine LeO.bind ?_ (fun _ => ?_)
  ·intro y0 y1 y2 y3 y4 y5
   unfold laws_FnNames.l0
   repeat' first
   | (with_reducible exact ih0 _ _ _ _ _ _ _ _ _ _ _)
   | (with_reducible exact ih1 _ _ _ _ _ _ _ _)
   | (with_reducible exact ih2 _ _ _ _ _ _)
   | (with_reducible exact ih3 _ _ _ _ _ _)
   | (with_reducible exact impl_Extends.mono _ _ _)
   | (with_reducible exact impl_Height.mono _ _)
   | (with_reducible exact impl_Meets.mono _ _ _)
   | (with_reducible exact impl_NameOf.mono _ _ _ _)
   | (with_reducible exact impl_NameOk.mono _ _)
   | (with_reducible exact impl_Steps.mono _ _)
   | (with_reducible exact impl_TxsIn.mono _ _)
   | (with_reducible exact impl_TxsText.mono _ _)
   | (with_reducible exact impl_UpOf.mono _ _)
   | (with_reducible exact impl_ViewOf.mono _ _)
   | (with_reducible exact spec_DrawExtends.mono _ _)
   | (with_reducible exact spec_DrawMeets.mono _ _)
   | (with_reducible exact spec_DrawNameOf.mono _ _)
   | (with_reducible exact spec_DrawSteps.mono _ _)
   | (with_reducible exact spec_Extends.mono _ _ _)
   | (with_reducible exact spec_Height.mono _ _)
   | (with_reducible exact spec_Meets.mono _ _ _)
   | (with_reducible exact spec_NameOf.mono _ _ _ _)
   | (with_reducible exact spec_Steps.mono _ _)
   | (with_reducible exact spec_TxsIn.mono _ _)
   | (with_reducible exact spec_TxsText.mono _ _)
   | (with_reducible exact spec_UpOf.mono _ _)
   | (with_reducible exact spec_ViewOf.mono _ _)
   | (with_reducible exact LeO.refl _)
   | (with_reducible exact LeO.none _)
   | (with_reducible refine LeO.ite ?_ ?_)
   | (with_reducible refine LeO.bind ?_ (fun _ => ?_))
   | exact ih0 _ _ _ _ _ _ _ _ _ _ _
   | exact ih1 _ _ _ _ _ _ _ _
   | exact ih2 _ _ _ _ _ _
   | exact ih3 _ _ _ _ _ _
   | exact impl_Extends.mono _ _ _
   | exact impl_Height.mono _ _
   | exact impl_Meets.mono _ _ _
   | exact impl_NameOf.mono _ _ _ _
   | exact impl_NameOk.mono _ _
   | exact impl_Steps.mono _ _
   | exact impl_TxsIn.mono _ _
   | exact impl_TxsText.mono _ _
   | exact impl_UpOf.mono _ _
   | exact impl_ViewOf.mono _ _
   | exact spec_DrawExtends.mono _ _
   | exact spec_DrawMeets.mono _ _
   | exact spec_DrawNameOf.mono _ _
   | exact spec_DrawSteps.mono _ _
   | exact spec_Extends.mono _ _ _
   | exact spec_Height.mono _ _
   | exact spec_Meets.mono _ _ _
   | exact spec_NameOf.mono _ _ _ _
   | exact spec_Steps.mono _ _
   | exact spec_TxsIn.mono _ _
   | exact spec_TxsText.mono _ _
   | exact spec_UpOf.mono _ _
   | exact spec_ViewOf.mono _ _
   | exact LeO.none _
   | refine LeO.ite ?_ ?_
   | refine LeO.bind ?_ (fun _ => ?_)
theorem laws_FnNames.mono : ∀ a0 k, LeO (laws_FnNames.f k a0) (laws_FnNames.f (k + 1) a0) := by
 intro a0 k
 obtain ⟨ih0, ih1, ih2, ih3⟩ := laws_FnNames.mono_l k
 unfold laws_FnNames.f
 repeat' first
   | (with_reducible exact ih0 _ _ _ _ _ _ _ _ _ _ _)
   | (with_reducible exact ih1 _ _ _ _ _ _ _ _)
   | (with_reducible exact ih2 _ _ _ _ _ _)
   | (with_reducible exact ih3 _ _ _ _ _ _)
   | (with_reducible exact impl_Extends.mono _ _ _)
   | (with_reducible exact impl_Height.mono _ _)
   | (with_reducible exact impl_Meets.mono _ _ _)
   | (with_reducible exact impl_NameOf.mono _ _ _ _)
   | (with_reducible exact impl_NameOk.mono _ _)
   | (with_reducible exact impl_Steps.mono _ _)
   | (with_reducible exact impl_TxsIn.mono _ _)
   | (with_reducible exact impl_TxsText.mono _ _)
   | (with_reducible exact impl_UpOf.mono _ _)
   | (with_reducible exact impl_ViewOf.mono _ _)
   | (with_reducible exact spec_DrawExtends.mono _ _)
   | (with_reducible exact spec_DrawMeets.mono _ _)
   | (with_reducible exact spec_DrawNameOf.mono _ _)
   | (with_reducible exact spec_DrawSteps.mono _ _)
   | (with_reducible exact spec_Extends.mono _ _ _)
   | (with_reducible exact spec_Height.mono _ _)
   | (with_reducible exact spec_Meets.mono _ _ _)
   | (with_reducible exact spec_NameOf.mono _ _ _ _)
   | (with_reducible exact spec_Steps.mono _ _)
   | (with_reducible exact spec_TxsIn.mono _ _)
   | (with_reducible exact spec_TxsText.mono _ _)
   | (with_reducible exact spec_UpOf.mono _ _)
   | (with_reducible exact spec_ViewOf.mono _ _)
   | (with_reducible exact LeO.refl _)
   | (with_reducible exact LeO.none _)
   | (with_reducible refine LeO.ite ?_ ?_)
   | (with_reducible refine LeO.bind ?_ (fun _ => ?_))
   | exact ih0 _ _ _ _ _ _ _ _ _ _ _
   | exact ih1 _ _ _ _ _ _ _ _
   | exact ih2 _ _ _ _ _ _
   | exact ih3 _ _ _ _ _ _
   | exact impl_Extends.mono _ _ _
   | exact impl_Height.mono _ _
   | exact impl_Meets.mono _ _ _
   | exact impl_NameOf.mono _ _ _ _
   | exact impl_NameOk.mono _ _
   | exact impl_Steps.mono _ _
   | exact impl_TxsIn.mono _ _
   | exact impl_TxsText.mono _ _
   | exact impl_UpOf.mono _ _
   | exact impl_ViewOf.mono _ _
   | exact spec_DrawExtends.mono _ _
   | exact spec_DrawMeets.mono _ _
   | exact spec_DrawNameOf.mono _ _
   | exact spec_DrawSteps.mono _ _
   | exact spec_Extends.mono _ _ _
   | exact spec_Height.mono _ _
   | exact spec_Meets.mono _ _ _
   | exact spec_NameOf.mono _ _ _ _
   | exact spec_Steps.mono _ _
   | exact spec_TxsIn.mono _ _
   | exact spec_TxsText.mono _ _
   | exact spec_UpOf.mono _ _
   | exact spec_ViewOf.mono _ _
   | exact LeO.none _
   | refine LeO.ite ?_ ?_
   | refine LeO.bind ?_ (fun _ => ?_)
def laws_FnNames.T22 : Bool × List (List Nat × List Nat) := (true, [([], []), ([], []), ([], []), ([1, 2], [1, 2]), ([3], [3]), ([4], [4]), ([], []), ([], []), ([6, 7], [6, 7]), ([8], [8]), ([9], [9]), ([0, 5, 10], [0, 5, 10]), ([11, 11, 0, 1, 2, 3, 4, 5, 6, 7, 8, 9, 10, 11], [0, 11])])
def laws_FnNames.B22 : List Nat := [0, 0, 0, 6, 14, 30, 0, 0, 192, 448, 960, 2047, 4095]
theorem laws_FnNames.tab22 : rtab .any (opsOf Tryz.f3 22) = laws_FnNames.T22 := by kernel_rfl
theorem laws_FnNames.bits22 : waitsOk laws_FnNames.T22.2 laws_FnNames.B22 = true := by kernel_rfl
theorem laws_FnNames.calls (k : Nat) (A0 : Option Addr) (c0 : Nat) (l0 : List Int) (r : Bool) (w : World) (hr0 : Kd.C (Kd.int .u8) w A0 l0.length l0) (hc0 : l0.length ≤ c0) (hL : LaidW w) (hT : r = true) (h : laws_FnNames.f k l0 = some r) :
  Calls Tryz.prog 3 #[.slice A0 l0.length c0] w fun e w' => e = .returned (.bool r) ∧ Below w.heap.size w w' := by
 have HR0 := Aside0.mk hr0
 have HC0 := Aside0.mk hc0
 clear hr0 hc0
 have HRT := Aside0.mk hT
 clear hT
 have HL0 := Aside0.mk hL
 clear hL
 have HB := Aside0.mk (Below.refl w.heap.size w)
 have H : ((laws_big.f l0).bind fun t525 => (if t525 = true then (some true) else ((spec_DrawSteps.f k l0).bind fun t526 => ((impl_Steps.f k t526).bind fun bt527 => ((spec_Steps.f k t526).bind fun bt531 => ((spec_DrawExtends.f k l0).bind fun bt535 => ((spec_DrawMeets.f k l0).bind fun bt537 => ((spec_DrawNameOf.f k l0).bind fun bt539 => ((impl_NameOf.f k bt539.1 bt539.2.1 bt539.2.2).bind fun t544 => (if (bt527.2 != bt531.2) = true then (none) else (if (bt527.1.length : Int) = (bt531.1.length : Int) then ((impl_NameOk.f k t526).bind fun t545 => (if (t545 != bt527.2) = true then (none) else ((impl_Extends.f k bt535.1 bt535.2).bind fun t546 => ((spec_Extends.f k bt535.1 bt535.2).bind fun t547 => (if (t546 != t547) = true then (none) else ((impl_Meets.f k bt537.1 bt537.2).bind fun t548 => ((spec_Meets.f k bt537.1 bt537.2).bind fun t549 => (if (t548 != t549) = true then (none) else ((spec_NameOf.f k bt539.1 bt539.2.1 bt539.2.2).bind fun t550 => (if t544.toList = t550.toList then ((impl_Height.f k t526).bind fun t551 => ((spec_Height.f k t526).bind fun t552 => (if t551 = t552 then ((impl_UpOf.f k t526).bind fun t553 => ((spec_UpOf.f k t526).bind fun t554 => (if t553.toList = t554.toList then ((impl_ViewOf.f k t526).bind fun t555 => ((spec_ViewOf.f k t526).bind fun t556 => (if t555 = t556 then ((impl_TxsIn.f k t526).bind fun t557 => ((impl_TxsText.f k t557).bind fun t560 => ((spec_TxsIn.f k t526).bind fun t561 => ((spec_TxsText.f k t561).bind fun t564 => (laws_FnNames.j0 k t526 bt527.1 bt527.2 bt535.1 bt535.2 bt537.1 bt537.2 bt539.1 bt539.2.1 t544 (t560.toList != t564.toList)))))) else (none)))) else (none)))) else (none)))) else (none))))))))))) else (none)))))))))))) = some r := h
 clear h
 replace H := Option.bind_eq_some_iff.mp H
 obtain ⟨t525, A20, H⟩ := H
 replace H : (if t525 = true then (some true) else ((spec_DrawSteps.f k l0).bind fun t526 => ((impl_Steps.f k t526).bind fun bt527 => ((spec_Steps.f k t526).bind fun bt531 => ((spec_DrawExtends.f k l0).bind fun bt535 => ((spec_DrawMeets.f k l0).bind fun bt537 => ((spec_DrawNameOf.f k l0).bind fun bt539 => ((impl_NameOf.f k bt539.1 bt539.2.1 bt539.2.2).bind fun t544 => (if (bt527.2 != bt531.2) = true then (none) else (if (bt527.1.length : Int) = (bt531.1.length : Int) then ((impl_NameOk.f k t526).bind fun t545 => (if (t545 != bt527.2) = true then (none) else ((impl_Extends.f k bt535.1 bt535.2).bind fun t546 => ((spec_Extends.f k bt535.1 bt535.2).bind fun t547 => (if (t546 != t547) = true then (none) else ((impl_Meets.f k bt537.1 bt537.2).bind fun t548 => ((spec_Meets.f k bt537.1 bt537.2).bind fun t549 => (if (t548 != t549) = true then (none) else ((spec_NameOf.f k bt539.1 bt539.2.1 bt539.2.2).bind fun t550 => (if t544.toList = t550.toList then ((impl_Height.f k t526).bind fun t551 => ((spec_Height.f k t526).bind fun t552 => (if t551 = t552 then ((impl_UpOf.f k t526).bind fun t553 => ((spec_UpOf.f k t526).bind fun t554 => (if t553.toList = t554.toList then ((impl_ViewOf.f k t526).bind fun t555 => ((spec_ViewOf.f k t526).bind fun t556 => (if t555 = t556 then ((impl_TxsIn.f k t526).bind fun t557 => ((impl_TxsText.f k t557).bind fun t560 => ((spec_TxsIn.f k t526).bind fun t561 => ((spec_TxsText.f k t561).bind fun t564 => (laws_FnNames.j0 k t526 bt527.1 bt527.2 bt535.1 bt535.2 bt537.1 bt537.2 bt539.1 bt539.2.1 t544 (t560.toList != t564.toList)))))) else (none)))) else (none)))) else (none)))) else (none))))))))))) else (none))))))))))) = some r := H
 have A2 := Aside0.mk A20
 clear A20
 by_cases c3 : t525 = true
 ·subst c3
  have H1 : (some true) = some r := by rw [if_pos rfl] at H; exact H
  clear H
  have H := H1
  clear H1
  obtain rfl := Option.some.inj H
  go_enter Tryz.func3, Tryz.ntmps3
  go_wp2_with (first | ((with_reducible refine gate_callee (f := 4) rfl ?_); refine goesL_ (some 19) rfl rfl Tryz.func4 (by kernel_rfl) rfl #[.slice A0 l0.length c0] rfl (by (try simp only [List.map_toArray, List.map_cons, List.map_nil]); first | done | rfl) ?_; (with_reducible refine (laws_big.calls _ _ l0 true _ ?side1 ?side2 A2.out).mono ?_); (case side1 => repeat (first | exact HR0.out | (with_reducible refine Kd.C_alloc ?_ _) | (with_reducible refine Kd.C_drewN ?_ _) | (with_reducible refine Kd.C_drew ?_))); (case side2 => exact HC0.out); rintro e w' ⟨rfl, ⟨nd, rfl⟩⟩; refine ⟨_, rfl, ?_⟩))
  go_ret
  exact ⟨by first | rfl | (simp [*] <;> rfl), by repeat (first | exact HB.out | apply below_alloc | apply pw_below_drewN | apply below_drew1)⟩
 ·replace c3 := Bool.eq_false_iff.mpr c3
  subst c3
  have H1 : ((spec_DrawSteps.f k l0).bind fun t526 => ((impl_Steps.f k t526).bind fun bt527 => ((spec_Steps.f k t526).bind fun bt531 => ((spec_DrawExtends.f k l0).bind fun bt535 => ((spec_DrawMeets.f k l0).bind fun bt537 => ((spec_DrawNameOf.f k l0).bind fun bt539 => ((impl_NameOf.f k bt539.1 bt539.2.1 bt539.2.2).bind fun t544 => (if (bt527.2 != bt531.2) = true then (none) else (if (bt527.1.length : Int) = (bt531.1.length : Int) then ((impl_NameOk.f k t526).bind fun t545 => (if (t545 != bt527.2) = true then (none) else ((impl_Extends.f k bt535.1 bt535.2).bind fun t546 => ((spec_Extends.f k bt535.1 bt535.2).bind fun t547 => (if (t546 != t547) = true then (none) else ((impl_Meets.f k bt537.1 bt537.2).bind fun t548 => ((spec_Meets.f k bt537.1 bt537.2).bind fun t549 => (if (t548 != t549) = true then (none) else ((spec_NameOf.f k bt539.1 bt539.2.1 bt539.2.2).bind fun t550 => (if t544.toList = t550.toList then ((impl_Height.f k t526).bind fun t551 => ((spec_Height.f k t526).bind fun t552 => (if t551 = t552 then ((impl_UpOf.f k t526).bind fun t553 => ((spec_UpOf.f k t526).bind fun t554 => (if t553.toList = t554.toList then ((impl_ViewOf.f k t526).bind fun t555 => ((spec_ViewOf.f k t526).bind fun t556 => (if t555 = t556 then ((impl_TxsIn.f k t526).bind fun t557 => ((impl_TxsText.f k t557).bind fun t560 => ((spec_TxsIn.f k t526).bind fun t561 => ((spec_TxsText.f k t561).bind fun t564 => (laws_FnNames.j0 k t526 bt527.1 bt527.2 bt535.1 bt535.2 bt537.1 bt537.2 bt539.1 bt539.2.1 t544 (t560.toList != t564.toList)))))) else (none)))) else (none)))) else (none)))) else (none))))))))))) else (none)))))))))) = some r := by rw [if_neg (show ¬ (false = true) by decide)] at H; exact H
  clear H
  have H := H1
  clear H1
  replace H := Option.bind_eq_some_iff.mp H
  obtain ⟨t526, A40, H⟩ := H
  replace H : ((impl_Steps.f k t526).bind fun bt527 => ((spec_Steps.f k t526).bind fun bt531 => ((spec_DrawExtends.f k l0).bind fun bt535 => ((spec_DrawMeets.f k l0).bind fun bt537 => ((spec_DrawNameOf.f k l0).bind fun bt539 => ((impl_NameOf.f k bt539.1 bt539.2.1 bt539.2.2).bind fun t544 => (if (bt527.2 != bt531.2) = true then (none) else (if (bt527.1.length : Int) = (bt531.1.length : Int) then ((impl_NameOk.f k t526).bind fun t545 => (if (t545 != bt527.2) = true then (none) else ((impl_Extends.f k bt535.1 bt535.2).bind fun t546 => ((spec_Extends.f k bt535.1 bt535.2).bind fun t547 => (if (t546 != t547) = true then (none) else ((impl_Meets.f k bt537.1 bt537.2).bind fun t548 => ((spec_Meets.f k bt537.1 bt537.2).bind fun t549 => (if (t548 != t549) = true then (none) else ((spec_NameOf.f k bt539.1 bt539.2.1 bt539.2.2).bind fun t550 => (if t544.toList = t550.toList then ((impl_Height.f k t526).bind fun t551 => ((spec_Height.f k t526).bind fun t552 => (if t551 = t552 then ((impl_UpOf.f k t526).bind fun t553 => ((spec_UpOf.f k t526).bind fun t554 => (if t553.toList = t554.toList then ((impl_ViewOf.f k t526).bind fun t555 => ((spec_ViewOf.f k t526).bind fun t556 => (if t555 = t556 then ((impl_TxsIn.f k t526).bind fun t557 => ((impl_TxsText.f k t557).bind fun t560 => ((spec_TxsIn.f k t526).bind fun t561 => ((spec_TxsText.f k t561).bind fun t564 => (laws_FnNames.j0 k t526 bt527.1 bt527.2 bt535.1 bt535.2 bt537.1 bt537.2 bt539.1 bt539.2.1 t544 (t560.toList != t564.toList)))))) else (none)))) else (none)))) else (none)))) else (none))))))))))) else (none))))))))) = some r := H
  have A4 := Aside0.mk A40
  clear A40
  replace H := Option.bind_eq_some_iff.mp H
  obtain ⟨⟨t527, t528⟩, A50, H⟩ := H
  replace H : ((spec_Steps.f k t526).bind fun bt531 => ((spec_DrawExtends.f k l0).bind fun bt535 => ((spec_DrawMeets.f k l0).bind fun bt537 => ((spec_DrawNameOf.f k l0).bind fun bt539 => ((impl_NameOf.f k bt539.1 bt539.2.1 bt539.2.2).bind fun t544 => (if (t528 != bt531.2) = true then (none) else (if (t527.length : Int) = (bt531.1.length : Int) then ((impl_NameOk.f k t526).bind fun t545 => (if (t545 != t528) = true then (none) else ((impl_Extends.f k bt535.1 bt535.2).bind fun t546 => ((spec_Extends.f k bt535.1 bt535.2).bind fun t547 => (if (t546 != t547) = true then (none) else ((impl_Meets.f k bt537.1 bt537.2).bind fun t548 => ((spec_Meets.f k bt537.1 bt537.2).bind fun t549 => (if (t548 != t549) = true then (none) else ((spec_NameOf.f k bt539.1 bt539.2.1 bt539.2.2).bind fun t550 => (if t544.toList = t550.toList then ((impl_Height.f k t526).bind fun t551 => ((spec_Height.f k t526).bind fun t552 => (if t551 = t552 then ((impl_UpOf.f k t526).bind fun t553 => ((spec_UpOf.f k t526).bind fun t554 => (if t553.toList = t554.toList then ((impl_ViewOf.f k t526).bind fun t555 => ((spec_ViewOf.f k t526).bind fun t556 => (if t555 = t556 then ((impl_TxsIn.f k t526).bind fun t557 => ((impl_TxsText.f k t557).bind fun t560 => ((spec_TxsIn.f k t526).bind fun t561 => ((spec_TxsText.f k t561).bind fun t564 => (laws_FnNames.j0 k t526 t527 t528 bt535.1 bt535.2 bt537.1 bt537.2 bt539.1 bt539.2.1 t544 (t560.toList != t564.toList)))))) else (none)))) else (none)))) else (none)))) else (none))))))))))) else (none)))))))) = some r := H
  have A5 := Aside0.mk A50
  clear A50
  replace H := Option.bind_eq_some_iff.mp H
  obtain ⟨⟨t531, t532⟩, A60, H⟩ := H
  replace H : ((spec_DrawExtends.f k l0).bind fun bt535 => ((spec_DrawMeets.f k l0).bind fun bt537 => ((spec_DrawNameOf.f k l0).bind fun bt539 => ((impl_NameOf.f k bt539.1 bt539.2.1 bt539.2.2).bind fun t544 => (if (t528 != t532) = true then (none) else (if (t527.length : Int) = (t531.length : Int) then ((impl_NameOk.f k t526).bind fun t545 => (if (t545 != t528) = true then (none) else ((impl_Extends.f k bt535.1 bt535.2).bind fun t546 => ((spec_Extends.f k bt535.1 bt535.2).bind fun t547 => (if (t546 != t547) = true then (none) else ((impl_Meets.f k bt537.1 bt537.2).bind fun t548 => ((spec_Meets.f k bt537.1 bt537.2).bind fun t549 => (if (t548 != t549) = true then (none) else ((spec_NameOf.f k bt539.1 bt539.2.1 bt539.2.2).bind fun t550 => (if t544.toList = t550.toList then ((impl_Height.f k t526).bind fun t551 => ((spec_Height.f k t526).bind fun t552 => (if t551 = t552 then ((impl_UpOf.f k t526).bind fun t553 => ((spec_UpOf.f k t526).bind fun t554 => (if t553.toList = t554.toList then ((impl_ViewOf.f k t526).bind fun t555 => ((spec_ViewOf.f k t526).bind fun t556 => (if t555 = t556 then ((impl_TxsIn.f k t526).bind fun t557 => ((impl_TxsText.f k t557).bind fun t560 => ((spec_TxsIn.f k t526).bind fun t561 => ((spec_TxsText.f k t561).bind fun t564 => (laws_FnNames.j0 k t526 t527 t528 bt535.1 bt535.2 bt537.1 bt537.2 bt539.1 bt539.2.1 t544 (t560.toList != t564.toList)))))) else (none)))) else (none)))) else (none)))) else (none))))))))))) else (none))))))) = some r := H
  have A6 := Aside0.mk A60
  clear A60
  replace H := Option.bind_eq_some_iff.mp H
  obtain ⟨⟨t535, t536⟩, A70, H⟩ := H
  replace H : ((spec_DrawMeets.f k l0).bind fun bt537 => ((spec_DrawNameOf.f k l0).bind fun bt539 => ((impl_NameOf.f k bt539.1 bt539.2.1 bt539.2.2).bind fun t544 => (if (t528 != t532) = true then (none) else (if (t527.length : Int) = (t531.length : Int) then ((impl_NameOk.f k t526).bind fun t545 => (if (t545 != t528) = true then (none) else ((impl_Extends.f k t535 t536).bind fun t546 => ((spec_Extends.f k t535 t536).bind fun t547 => (if (t546 != t547) = true then (none) else ((impl_Meets.f k bt537.1 bt537.2).bind fun t548 => ((spec_Meets.f k bt537.1 bt537.2).bind fun t549 => (if (t548 != t549) = true then (none) else ((spec_NameOf.f k bt539.1 bt539.2.1 bt539.2.2).bind fun t550 => (if t544.toList = t550.toList then ((impl_Height.f k t526).bind fun t551 => ((spec_Height.f k t526).bind fun t552 => (if t551 = t552 then ((impl_UpOf.f k t526).bind fun t553 => ((spec_UpOf.f k t526).bind fun t554 => (if t553.toList = t554.toList then ((impl_ViewOf.f k t526).bind fun t555 => ((spec_ViewOf.f k t526).bind fun t556 => (if t555 = t556 then ((impl_TxsIn.f k t526).bind fun t557 => ((impl_TxsText.f k t557).bind fun t560 => ((spec_TxsIn.f k t526).bind fun t561 => ((spec_TxsText.f k t561).bind fun t564 => (laws_FnNames.j0 k t526 t527 t528 t535 t536 bt537.1 bt537.2 bt539.1 bt539.2.1 t544 (t560.toList != t564.toList)))))) else (none)))) else (none)))) else (none)))) else (none))))))))))) else (none)))))) = some r := H
  have A7 := Aside0.mk A70
  clear A70
  replace H := Option.bind_eq_some_iff.mp H
  obtain ⟨⟨t537, t538⟩, A80, H⟩ := H
  replace H : ((spec_DrawNameOf.f k l0).bind fun bt539 => ((impl_NameOf.f k bt539.1 bt539.2.1 bt539.2.2).bind fun t544 => (if (t528 != t532) = true then (none) else (if (t527.length : Int) = (t531.length : Int) then ((impl_NameOk.f k t526).bind fun t545 => (if (t545 != t528) = true then (none) else ((impl_Extends.f k t535 t536).bind fun t546 => ((spec_Extends.f k t535 t536).bind fun t547 => (if (t546 != t547) = true then (none) else ((impl_Meets.f k t537 t538).bind fun t548 => ((spec_Meets.f k t537 t538).bind fun t549 => (if (t548 != t549) = true then (none) else ((spec_NameOf.f k bt539.1 bt539.2.1 bt539.2.2).bind fun t550 => (if t544.toList = t550.toList then ((impl_Height.f k t526).bind fun t551 => ((spec_Height.f k t526).bind fun t552 => (if t551 = t552 then ((impl_UpOf.f k t526).bind fun t553 => ((spec_UpOf.f k t526).bind fun t554 => (if t553.toList = t554.toList then ((impl_ViewOf.f k t526).bind fun t555 => ((spec_ViewOf.f k t526).bind fun t556 => (if t555 = t556 then ((impl_TxsIn.f k t526).bind fun t557 => ((impl_TxsText.f k t557).bind fun t560 => ((spec_TxsIn.f k t526).bind fun t561 => ((spec_TxsText.f k t561).bind fun t564 => (laws_FnNames.j0 k t526 t527 t528 t535 t536 t537 t538 bt539.1 bt539.2.1 t544 (t560.toList != t564.toList)))))) else (none)))) else (none)))) else (none)))) else (none))))))))))) else (none))))) = some r := H
  have A8 := Aside0.mk A80
  clear A80
  replace H := Option.bind_eq_some_iff.mp H
  obtain ⟨⟨t539, t540, t541⟩, A90, H⟩ := H
  replace H : ((impl_NameOf.f k t539 t540 t541).bind fun t544 => (if (t528 != t532) = true then (none) else (if (t527.length : Int) = (t531.length : Int) then ((impl_NameOk.f k t526).bind fun t545 => (if (t545 != t528) = true then (none) else ((impl_Extends.f k t535 t536).bind fun t546 => ((spec_Extends.f k t535 t536).bind fun t547 => (if (t546 != t547) = true then (none) else ((impl_Meets.f k t537 t538).bind fun t548 => ((spec_Meets.f k t537 t538).bind fun t549 => (if (t548 != t549) = true then (none) else ((spec_NameOf.f k t539 t540 t541).bind fun t550 => (if t544.toList = t550.toList then ((impl_Height.f k t526).bind fun t551 => ((spec_Height.f k t526).bind fun t552 => (if t551 = t552 then ((impl_UpOf.f k t526).bind fun t553 => ((spec_UpOf.f k t526).bind fun t554 => (if t553.toList = t554.toList then ((impl_ViewOf.f k t526).bind fun t555 => ((spec_ViewOf.f k t526).bind fun t556 => (if t555 = t556 then ((impl_TxsIn.f k t526).bind fun t557 => ((impl_TxsText.f k t557).bind fun t560 => ((spec_TxsIn.f k t526).bind fun t561 => ((spec_TxsText.f k t561).bind fun t564 => (laws_FnNames.j0 k t526 t527 t528 t535 t536 t537 t538 t539 t540 t544 (t560.toList != t564.toList)))))) else (none)))) else (none)))) else (none)))) else (none))))))))))) else (none)))) = some r := H
  have A9 := Aside0.mk A90
  clear A90
  replace H := Option.bind_eq_some_iff.mp H
  obtain ⟨t544, A100, H⟩ := H
  replace H : (if (t528 != t532) = true then (none) else (if (t527.length : Int) = (t531.length : Int) then ((impl_NameOk.f k t526).bind fun t545 => (if (t545 != t528) = true then (none) else ((impl_Extends.f k t535 t536).bind fun t546 => ((spec_Extends.f k t535 t536).bind fun t547 => (if (t546 != t547) = true then (none) else ((impl_Meets.f k t537 t538).bind fun t548 => ((spec_Meets.f k t537 t538).bind fun t549 => (if (t548 != t549) = true then (none) else ((spec_NameOf.f k t539 t540 t541).bind fun t550 => (if t544.toList = t550.toList then ((impl_Height.f k t526).bind fun t551 => ((spec_Height.f k t526).bind fun t552 => (if t551 = t552 then ((impl_UpOf.f k t526).bind fun t553 => ((spec_UpOf.f k t526).bind fun t554 => (if t553.toList = t554.toList then ((impl_ViewOf.f k t526).bind fun t555 => ((spec_ViewOf.f k t526).bind fun t556 => (if t555 = t556 then ((impl_TxsIn.f k t526).bind fun t557 => ((impl_TxsText.f k t557).bind fun t560 => ((spec_TxsIn.f k t526).bind fun t561 => ((spec_TxsText.f k t561).bind fun t564 => (laws_FnNames.j0 k t526 t527 t528 t535 t536 t537 t538 t539 t540 t544 (t560.toList != t564.toList)))))) else (none)))) else (none)))) else (none)))) else (none))))))))))) else (none))) = some r := H
  have A10 := Aside0.mk A100
  clear A100
  have HC11 := Aside0.mk H
  clear H
  go_enter Tryz.func3, Tryz.ntmps3
  go_upto_region 10 with (first | ((with_reducible refine gate_callee (f := 4) rfl ?_); refine goesL_ (some 19) rfl rfl Tryz.func4 (by kernel_rfl) rfl #[.slice A0 l0.length c0] rfl (by (try simp only [List.map_toArray, List.map_cons, List.map_nil]); first | done | rfl) ?_; (with_reducible refine (laws_big.calls _ _ l0 false _ ?side1 ?side2 A2.out).mono ?_); (case side1 => repeat (first | exact HR0.out | (with_reducible refine Kd.C_alloc ?_ _) | (with_reducible refine Kd.C_drewN ?_ _) | (with_reducible refine Kd.C_drew ?_))); (case side2 => exact HC0.out); rintro e w' ⟨rfl, ⟨nd, rfl⟩⟩; refine ⟨_, rfl, ?_⟩) | ((with_reducible refine gate_callee (f := 5) rfl ?_); refine goesL_ (some 21) rfl rfl Tryz.func5 (by kernel_rfl) rfl #[.slice A0 l0.length c0] rfl (by (try simp only [List.map_toArray, List.map_cons, List.map_nil]); first | done | rfl) ?_; (with_reducible refine (spec_DrawSteps.calls k _ _ l0 t526 _ ?side1 ?side2 A4.out).mono ?_); (case side1 => repeat (first | exact HR0.out | (with_reducible refine Kd.C_alloc ?_ _) | (with_reducible refine Kd.C_drewN ?_ _) | (with_reducible refine Kd.C_drew ?_))); (case side2 => exact HC0.out); rintro e w12 ⟨rfl, hb⟩; refine ⟨_, rfl, ?_⟩; have n0_ := Aside0.mk (below_step (by repeat (first | exact HB.out | apply below_alloc | apply pw_below_drewN | apply below_drew1)) hb); clear HB; have HB := n0_; clear n0_; (try clear hb)) | ((with_reducible refine gate_callee (f := 6) rfl ?_); refine goesL_ (some 24) rfl rfl Tryz.func6 (by kernel_rfl) rfl #[.string t526] rfl (by (try simp only [List.map_toArray, List.map_cons, List.map_nil]); first | done | rfl) ?_; (with_reducible refine (impl_Steps.calls k t526 t527 t528 _ ?side1 A5.out).mono ?_); (case side1 => exact LaidW.below HL0.out (by repeat (first | exact HB.out | apply below_alloc | apply pw_below_drewN | apply below_drew1))); rintro e w13 ⟨v529, rfl, ho0, hb⟩; refine ⟨_, rfl, ?_⟩; have n0_ := Aside0.mk (Kd.S_lower ho0 (below_size (by repeat (first | exact HB.out | apply below_alloc | apply pw_below_drewN | apply below_drew1)))); have n1_ := Aside0.mk (below_step (by repeat (first | exact HB.out | apply below_alloc | apply pw_below_drewN | apply below_drew1)) hb); clear HB; have HO530 := n0_; have HB := n1_; clear n0_ n1_; (try clear hb); (try clear ho0)) | ((with_reducible refine gate_callee (f := 7) rfl ?_); refine goesL_ (some 29) rfl rfl Tryz.func7 (by kernel_rfl) rfl #[.string t526] rfl (by (try simp only [List.map_toArray, List.map_cons, List.map_nil]); first | done | rfl) ?_; (with_reducible refine (spec_Steps.calls k t526 t531 t532 _ A6.out).mono ?_); rintro e w14 ⟨v533, rfl, ho0, hb⟩; refine ⟨_, rfl, ?_⟩; have n0_ := Aside0.mk (Kd.S_elder' (by (with_reducible repeat (first | apply Kd.S_alloc | apply Kd.S_drewN | apply Kd.S_drew)); exact HO530.out) (Kd.S_base ho0) hb); have n1_ := Aside0.mk (Kd.S_lower (Kd.S_new' ho0 (Kd.S_lt (by (with_reducible repeat (first | apply Kd.S_alloc | apply Kd.S_drewN | apply Kd.S_drew)); exact HO530.out))) (below_size (by repeat (first | exact HB.out | apply below_alloc | apply pw_below_drewN | apply below_drew1)))); have n2_ := Aside0.mk (below_step (by repeat (first | exact HB.out | apply below_alloc | apply pw_below_drewN | apply below_drew1)) hb); clear HO530; clear HB; have HO530 := n0_; have HO534 := n1_; have HB := n2_; clear n0_ n1_ n2_; (try clear hb); (try clear ho0)) | ((with_reducible refine gate_callee (f := 8) rfl ?_); refine goesL_ (some 34) rfl rfl Tryz.func8 (by kernel_rfl) rfl #[.slice A0 l0.length c0] rfl (by (try simp only [List.map_toArray, List.map_cons, List.map_nil]); first | done | rfl) ?_; (with_reducible refine (spec_DrawExtends.calls k _ _ l0 t535 t536 _ ?side1 ?side2 A7.out).mono ?_); (case side1 => repeat (first | exact (Kd.C_below HR0.out HB.out) | (with_reducible refine Kd.C_alloc ?_ _) | (with_reducible refine Kd.C_drewN ?_ _) | (with_reducible refine Kd.C_drew ?_))); (case side2 => exact HC0.out); rintro e w15 ⟨rfl, hb⟩; refine ⟨_, rfl, ?_⟩; have n0_ := Aside0.mk (Kd.S_below (by (with_reducible repeat (first | apply Kd.S_alloc | apply Kd.S_drewN | apply Kd.S_drew)); exact HO530.out) hb); have n1_ := Aside0.mk (Kd.S_below (by (with_reducible repeat (first | apply Kd.S_alloc | apply Kd.S_drewN | apply Kd.S_drew)); exact HO534.out) hb); have n2_ := Aside0.mk (below_step (by repeat (first | exact HB.out | apply below_alloc | apply pw_below_drewN | apply below_drew1)) hb); clear HO530; clear HO534; clear HB; have HO530 := n0_; have HO534 := n1_; have HB := n2_; clear n0_ n1_ n2_; (try clear hb)) | ((with_reducible refine gate_callee (f := 9) rfl ?_); refine goesL_ (some 39) rfl rfl Tryz.func9 (by kernel_rfl) rfl #[.slice A0 l0.length c0] rfl (by (try simp only [List.map_toArray, List.map_cons, List.map_nil]); first | done | rfl) ?_; (with_reducible refine (spec_DrawMeets.calls k _ _ l0 t537 t538 _ ?side1 ?side2 A8.out).mono ?_); (case side1 => repeat (first | exact (Kd.C_below HR0.out HB.out) | (with_reducible refine Kd.C_alloc ?_ _) | (with_reducible refine Kd.C_drewN ?_ _) | (with_reducible refine Kd.C_drew ?_))); (case side2 => exact HC0.out); rintro e w16 ⟨rfl, hb⟩; refine ⟨_, rfl, ?_⟩; have n0_ := Aside0.mk (Kd.S_below (by (with_reducible repeat (first | apply Kd.S_alloc | apply Kd.S_drewN | apply Kd.S_drew)); exact HO530.out) hb); have n1_ := Aside0.mk (Kd.S_below (by (with_reducible repeat (first | apply Kd.S_alloc | apply Kd.S_drewN | apply Kd.S_drew)); exact HO534.out) hb); have n2_ := Aside0.mk (below_step (by repeat (first | exact HB.out | apply below_alloc | apply pw_below_drewN | apply below_drew1)) hb); clear HO530; clear HO534; clear HB; have HO530 := n0_; have HO534 := n1_; have HB := n2_; clear n0_ n1_ n2_; (try clear hb)) | ((with_reducible refine gate_callee (f := 10) rfl ?_); refine goesL_ (some 44) rfl rfl Tryz.func10 (by kernel_rfl) rfl #[.slice A0 l0.length c0] rfl (by (try simp only [List.map_toArray, List.map_cons, List.map_nil]); first | done | rfl) ?_; (with_reducible refine (spec_DrawNameOf.calls k _ _ l0 t539 t540 t541 _ ?side1 ?side2 A9.out).mono ?_); (case side1 => repeat (first | exact (Kd.C_below HR0.out HB.out) | (with_reducible refine Kd.C_alloc ?_ _) | (with_reducible refine Kd.C_drewN ?_ _) | (with_reducible refine Kd.C_drew ?_))); (case side2 => exact HC0.out); rintro e w17 ⟨v542, rfl, ho0, hb⟩; refine ⟨_, rfl, ?_⟩; have n0_ := Aside0.mk (Kd.S_elder' (by (with_reducible repeat (first | apply Kd.S_alloc | apply Kd.S_drewN | apply Kd.S_drew)); exact HO530.out) (Kd.R_base ho0) hb); have n1_ := Aside0.mk (Kd.S_elder' (by (with_reducible repeat (first | apply Kd.S_alloc | apply Kd.S_drewN | apply Kd.S_drew)); exact HO534.out) (Kd.R_base ho0) hb); have n2_ := Aside0.mk (Kd.R_lower ho0 (below_size (by repeat (first | exact HB.out | apply below_alloc | apply pw_below_drewN | apply below_drew1)))); have n3_ := Aside0.mk (below_step (by repeat (first | exact HB.out | apply below_alloc | apply pw_below_drewN | apply below_drew1)) hb); clear HO530; clear HO534; clear HB; have HO530 := n0_; have HO534 := n1_; have HO543 := n2_; have HB := n3_; clear n0_ n1_ n2_ n3_; (try clear hb); (try clear ho0); obtain ⟨Ao18, co18, eo18⟩ := Kd.R_slice HO543.out; subst eo18) | ((with_reducible refine gate_callee (f := 11) rfl ?_); refine goesL_ (some 51) rfl rfl Tryz.func11 (by kernel_rfl) rfl #[.string t539, .int .i64 t540, .slice Ao18 t541.length co18] rfl (by (try simp only [List.map_toArray, List.map_cons, List.map_nil]); first | done | rfl) ?_; (with_reducible refine (impl_NameOf.calls k t539 t540 _ _ t541 t544 _ ?side1 ?side2 ?side3 A10.out).mono ?_); (case side1 => repeat (first | exact (Kd.R_reads' HO543.out).2.2 | (with_reducible refine Kd.C_alloc ?_ _) | (with_reducible refine Kd.C_drewN ?_ _) | (with_reducible refine Kd.C_drew ?_))); (case side2 => exact (Kd.R_reads' HO543.out).2.1); (case side3 => exact LaidW.below HL0.out (by repeat (first | exact HB.out | apply below_alloc | apply pw_below_drewN | apply below_drew1))); rintro e w19 ⟨rfl, hb⟩; refine ⟨_, rfl, ?_⟩; have n0_ := Aside0.mk (Kd.S_below (by (with_reducible repeat (first | apply Kd.S_alloc | apply Kd.S_drewN | apply Kd.S_drew)); exact HO530.out) hb); have n1_ := Aside0.mk (Kd.S_below (by (with_reducible repeat (first | apply Kd.S_alloc | apply Kd.S_drewN | apply Kd.S_drew)); exact HO534.out) hb); have n2_ := Aside0.mk (Kd.R_below (by (with_reducible repeat (first | apply Kd.R_alloc | apply Kd.R_drewN | apply Kd.R_drew)); exact HO543.out) hb); have n3_ := Aside0.mk (below_step (by repeat (first | exact HB.out | apply below_alloc | apply pw_below_drewN | apply below_drew1)) hb); clear HO530; clear HO534; clear HO543; clear HB; have HO530 := n0_; have HO534 := n1_; have HO543 := n2_; have HB := n3_; clear n0_ n1_ n2_ n3_; (try clear hb)))
  (try simp only [Act.put, List.setIfInBounds_toArray, List.set_cons_zero, List.set_cons_succ])
  go_cut [123] (fun v123 wc => ∃ (kq : Nat) (x123_10 : Bool), v123 = .bool x123_10 ∧ Aside0 (laws_FnNames.j0 kq t526 t527 t528 t535 t536 t537 t538 t539 t540 t544 x123_10 = some r) ∧ Aside0 (kq ≤ k) ∧ Aside0 (Kd.S k41 41 wc w.heap.size (fun _ => True) v529 t527) ∧ Aside0 (Below w.heap.size w wc))
  case first =>
   have H := HC11.out
   clear HC11
   by_cases c20 : (t528 != t532) = true
   ·rw [if_pos c20] at H
    exact absurd H (by simp)
   ·rw [if_neg c20] at H
    have c20b0 : (t528 != t532) = false := by simpa using c20
    (try (have c20b1 : decide (t528 = t532) = true := by simpa using c20))
    (try (have c20b2 : (t528 == t532) = true := by simpa using c20))
    clear c20
    (first | rw [c20b0] | (simp only [i64_w, i32_w]; rw [c20b0]) | skip)
    by_cases c21 : (t527.length : Int) = (t531.length : Int)
    ·rw [if_pos c21] at H
     have c21b0 : ((t527.length : Int) == (t531.length : Int)) = true := beq_iff_eq.mpr c21
     have c21b1 : ((t527.length : Int) != (t531.length : Int)) = false := bne_eq_false_iff_eq.mpr c21
     have c21b2 : (t527.length == t531.length) = true := by first | simpa using c21 | (simp at c21 ⊢; omega)
     clear c21
     replace H := Option.bind_eq_some_iff.mp H
     obtain ⟨t545, A220, H⟩ := H
     replace H : (if (t545 != t528) = true then (none) else ((impl_Extends.f k t535 t536).bind fun t546 => ((spec_Extends.f k t535 t536).bind fun t547 => (if (t546 != t547) = true then (none) else ((impl_Meets.f k t537 t538).bind fun t548 => ((spec_Meets.f k t537 t538).bind fun t549 => (if (t548 != t549) = true then (none) else ((spec_NameOf.f k t539 t540 t541).bind fun t550 => (if t544.toList = t550.toList then ((impl_Height.f k t526).bind fun t551 => ((spec_Height.f k t526).bind fun t552 => (if t551 = t552 then ((impl_UpOf.f k t526).bind fun t553 => ((spec_UpOf.f k t526).bind fun t554 => (if t553.toList = t554.toList then ((impl_ViewOf.f k t526).bind fun t555 => ((spec_ViewOf.f k t526).bind fun t556 => (if t555 = t556 then ((impl_TxsIn.f k t526).bind fun t557 => ((impl_TxsText.f k t557).bind fun t560 => ((spec_TxsIn.f k t526).bind fun t561 => ((spec_TxsText.f k t561).bind fun t564 => (laws_FnNames.j0 k t526 t527 t528 t535 t536 t537 t538 t539 t540 t544 (t560.toList != t564.toList)))))) else (none)))) else (none)))) else (none)))) else (none)))))))))) = some r := H
     have A22 := Aside0.mk A220
     clear A220
     by_cases c23 : (t545 != t528) = true
     ·rw [if_pos c23] at H
      exact absurd H (by simp)
     ·rw [if_neg c23] at H
      have c23b0 : (t545 != t528) = false := by simpa using c23
      (try (have c23b1 : decide (t545 = t528) = true := by simpa using c23))
      (try (have c23b2 : (t545 == t528) = true := by simpa using c23))
      clear c23
      replace H := Option.bind_eq_some_iff.mp H
      obtain ⟨t546, A240, H⟩ := H
      replace H : ((spec_Extends.f k t535 t536).bind fun t547 => (if (t546 != t547) = true then (none) else ((impl_Meets.f k t537 t538).bind fun t548 => ((spec_Meets.f k t537 t538).bind fun t549 => (if (t548 != t549) = true then (none) else ((spec_NameOf.f k t539 t540 t541).bind fun t550 => (if t544.toList = t550.toList then ((impl_Height.f k t526).bind fun t551 => ((spec_Height.f k t526).bind fun t552 => (if t551 = t552 then ((impl_UpOf.f k t526).bind fun t553 => ((spec_UpOf.f k t526).bind fun t554 => (if t553.toList = t554.toList then ((impl_ViewOf.f k t526).bind fun t555 => ((spec_ViewOf.f k t526).bind fun t556 => (if t555 = t556 then ((impl_TxsIn.f k t526).bind fun t557 => ((impl_TxsText.f k t557).bind fun t560 => ((spec_TxsIn.f k t526).bind fun t561 => ((spec_TxsText.f k t561).bind fun t564 => (laws_FnNames.j0 k t526 t527 t528 t535 t536 t537 t538 t539 t540 t544 (t560.toList != t564.toList)))))) else (none)))) else (none)))) else (none)))) else (none)))))))) = some r := H
      have A24 := Aside0.mk A240
      clear A240
      replace H := Option.bind_eq_some_iff.mp H
      obtain ⟨t547, A250, H⟩ := H
      replace H : (if (t546 != t547) = true then (none) else ((impl_Meets.f k t537 t538).bind fun t548 => ((spec_Meets.f k t537 t538).bind fun t549 => (if (t548 != t549) = true then (none) else ((spec_NameOf.f k t539 t540 t541).bind fun t550 => (if t544.toList = t550.toList then ((impl_Height.f k t526).bind fun t551 => ((spec_Height.f k t526).bind fun t552 => (if t551 = t552 then ((impl_UpOf.f k t526).bind fun t553 => ((spec_UpOf.f k t526).bind fun t554 => (if t553.toList = t554.toList then ((impl_ViewOf.f k t526).bind fun t555 => ((spec_ViewOf.f k t526).bind fun t556 => (if t555 = t556 then ((impl_TxsIn.f k t526).bind fun t557 => ((impl_TxsText.f k t557).bind fun t560 => ((spec_TxsIn.f k t526).bind fun t561 => ((spec_TxsText.f k t561).bind fun t564 => (laws_FnNames.j0 k t526 t527 t528 t535 t536 t537 t538 t539 t540 t544 (t560.toList != t564.toList)))))) else (none)))) else (none)))) else (none)))) else (none))))))) = some r := H
      have A25 := Aside0.mk A250
      clear A250
      by_cases c26 : (t546 != t547) = true
      ·rw [if_pos c26] at H
       exact absurd H (by simp)
      ·rw [if_neg c26] at H
       have c26b0 : (t546 != t547) = false := by simpa using c26
       (try (have c26b1 : decide (t546 = t547) = true := by simpa using c26))
       (try (have c26b2 : (t546 == t547) = true := by simpa using c26))
       clear c26
       replace H := Option.bind_eq_some_iff.mp H
       obtain ⟨t548, A270, H⟩ := H
       replace H : ((spec_Meets.f k t537 t538).bind fun t549 => (if (t548 != t549) = true then (none) else ((spec_NameOf.f k t539 t540 t541).bind fun t550 => (if t544.toList = t550.toList then ((impl_Height.f k t526).bind fun t551 => ((spec_Height.f k t526).bind fun t552 => (if t551 = t552 then ((impl_UpOf.f k t526).bind fun t553 => ((spec_UpOf.f k t526).bind fun t554 => (if t553.toList = t554.toList then ((impl_ViewOf.f k t526).bind fun t555 => ((spec_ViewOf.f k t526).bind fun t556 => (if t555 = t556 then ((impl_TxsIn.f k t526).bind fun t557 => ((impl_TxsText.f k t557).bind fun t560 => ((spec_TxsIn.f k t526).bind fun t561 => ((spec_TxsText.f k t561).bind fun t564 => (laws_FnNames.j0 k t526 t527 t528 t535 t536 t537 t538 t539 t540 t544 (t560.toList != t564.toList)))))) else (none)))) else (none)))) else (none)))) else (none))))) = some r := H
       have A27 := Aside0.mk A270
       clear A270
       replace H := Option.bind_eq_some_iff.mp H
       obtain ⟨t549, A280, H⟩ := H
       replace H : (if (t548 != t549) = true then (none) else ((spec_NameOf.f k t539 t540 t541).bind fun t550 => (if t544.toList = t550.toList then ((impl_Height.f k t526).bind fun t551 => ((spec_Height.f k t526).bind fun t552 => (if t551 = t552 then ((impl_UpOf.f k t526).bind fun t553 => ((spec_UpOf.f k t526).bind fun t554 => (if t553.toList = t554.toList then ((impl_ViewOf.f k t526).bind fun t555 => ((spec_ViewOf.f k t526).bind fun t556 => (if t555 = t556 then ((impl_TxsIn.f k t526).bind fun t557 => ((impl_TxsText.f k t557).bind fun t560 => ((spec_TxsIn.f k t526).bind fun t561 => ((spec_TxsText.f k t561).bind fun t564 => (laws_FnNames.j0 k t526 t527 t528 t535 t536 t537 t538 t539 t540 t544 (t560.toList != t564.toList)))))) else (none)))) else (none)))) else (none)))) else (none)))) = some r := H
       have A28 := Aside0.mk A280
       clear A280
       by_cases c29 : (t548 != t549) = true
       ·rw [if_pos c29] at H
        exact absurd H (by simp)
       ·rw [if_neg c29] at H
        have c29b0 : (t548 != t549) = false := by simpa using c29
        (try (have c29b1 : decide (t548 = t549) = true := by simpa using c29))
        (try (have c29b2 : (t548 == t549) = true := by simpa using c29))
        clear c29
        replace H := Option.bind_eq_some_iff.mp H
        obtain ⟨t550, A300, H⟩ := H
        replace H : (if t544.toList = t550.toList then ((impl_Height.f k t526).bind fun t551 => ((spec_Height.f k t526).bind fun t552 => (if t551 = t552 then ((impl_UpOf.f k t526).bind fun t553 => ((spec_UpOf.f k t526).bind fun t554 => (if t553.toList = t554.toList then ((impl_ViewOf.f k t526).bind fun t555 => ((spec_ViewOf.f k t526).bind fun t556 => (if t555 = t556 then ((impl_TxsIn.f k t526).bind fun t557 => ((impl_TxsText.f k t557).bind fun t560 => ((spec_TxsIn.f k t526).bind fun t561 => ((spec_TxsText.f k t561).bind fun t564 => (laws_FnNames.j0 k t526 t527 t528 t535 t536 t537 t538 t539 t540 t544 (t560.toList != t564.toList)))))) else (none)))) else (none)))) else (none)))) else (none)) = some r := H
        have A30 := Aside0.mk A300
        clear A300
        by_cases c31 : t544.toList = t550.toList
        ·rw [if_pos c31] at H
         have c31b0 : (t544.toList == t550.toList) = true := beq_iff_eq.mpr c31
         have c31b1 : (t544.toList != t550.toList) = false := bne_eq_false_iff_eq.mpr c31
         clear c31
         replace H := Option.bind_eq_some_iff.mp H
         obtain ⟨t551, A320, H⟩ := H
         replace H : ((spec_Height.f k t526).bind fun t552 => (if t551 = t552 then ((impl_UpOf.f k t526).bind fun t553 => ((spec_UpOf.f k t526).bind fun t554 => (if t553.toList = t554.toList then ((impl_ViewOf.f k t526).bind fun t555 => ((spec_ViewOf.f k t526).bind fun t556 => (if t555 = t556 then ((impl_TxsIn.f k t526).bind fun t557 => ((impl_TxsText.f k t557).bind fun t560 => ((spec_TxsIn.f k t526).bind fun t561 => ((spec_TxsText.f k t561).bind fun t564 => (laws_FnNames.j0 k t526 t527 t528 t535 t536 t537 t538 t539 t540 t544 (t560.toList != t564.toList)))))) else (none)))) else (none)))) else (none))) = some r := H
         have A32 := Aside0.mk A320
         clear A320
         replace H := Option.bind_eq_some_iff.mp H
         obtain ⟨t552, A330, H⟩ := H
         replace H : (if t551 = t552 then ((impl_UpOf.f k t526).bind fun t553 => ((spec_UpOf.f k t526).bind fun t554 => (if t553.toList = t554.toList then ((impl_ViewOf.f k t526).bind fun t555 => ((spec_ViewOf.f k t526).bind fun t556 => (if t555 = t556 then ((impl_TxsIn.f k t526).bind fun t557 => ((impl_TxsText.f k t557).bind fun t560 => ((spec_TxsIn.f k t526).bind fun t561 => ((spec_TxsText.f k t561).bind fun t564 => (laws_FnNames.j0 k t526 t527 t528 t535 t536 t537 t538 t539 t540 t544 (t560.toList != t564.toList)))))) else (none)))) else (none)))) else (none)) = some r := H
         have A33 := Aside0.mk A330
         clear A330
         by_cases c34 : t551 = t552
         ·rw [if_pos c34] at H
          have c34b0 : (t551 == t552) = true := beq_iff_eq.mpr c34
          have c34b1 : (t551 != t552) = false := bne_eq_false_iff_eq.mpr c34
          clear c34
          replace H := Option.bind_eq_some_iff.mp H
          obtain ⟨t553, A350, H⟩ := H
          replace H : ((spec_UpOf.f k t526).bind fun t554 => (if t553.toList = t554.toList then ((impl_ViewOf.f k t526).bind fun t555 => ((spec_ViewOf.f k t526).bind fun t556 => (if t555 = t556 then ((impl_TxsIn.f k t526).bind fun t557 => ((impl_TxsText.f k t557).bind fun t560 => ((spec_TxsIn.f k t526).bind fun t561 => ((spec_TxsText.f k t561).bind fun t564 => (laws_FnNames.j0 k t526 t527 t528 t535 t536 t537 t538 t539 t540 t544 (t560.toList != t564.toList)))))) else (none)))) else (none))) = some r := H
          have A35 := Aside0.mk A350
          clear A350
          replace H := Option.bind_eq_some_iff.mp H
          obtain ⟨t554, A360, H⟩ := H
          replace H : (if t553.toList = t554.toList then ((impl_ViewOf.f k t526).bind fun t555 => ((spec_ViewOf.f k t526).bind fun t556 => (if t555 = t556 then ((impl_TxsIn.f k t526).bind fun t557 => ((impl_TxsText.f k t557).bind fun t560 => ((spec_TxsIn.f k t526).bind fun t561 => ((spec_TxsText.f k t561).bind fun t564 => (laws_FnNames.j0 k t526 t527 t528 t535 t536 t537 t538 t539 t540 t544 (t560.toList != t564.toList)))))) else (none)))) else (none)) = some r := H
          have A36 := Aside0.mk A360
          clear A360
          by_cases c37 : t553.toList = t554.toList
          ·rw [if_pos c37] at H
           have c37b0 : (t553.toList == t554.toList) = true := beq_iff_eq.mpr c37
           have c37b1 : (t553.toList != t554.toList) = false := bne_eq_false_iff_eq.mpr c37
           clear c37
           replace H := Option.bind_eq_some_iff.mp H
           obtain ⟨t555, A380, H⟩ := H
           replace H : ((spec_ViewOf.f k t526).bind fun t556 => (if t555 = t556 then ((impl_TxsIn.f k t526).bind fun t557 => ((impl_TxsText.f k t557).bind fun t560 => ((spec_TxsIn.f k t526).bind fun t561 => ((spec_TxsText.f k t561).bind fun t564 => (laws_FnNames.j0 k t526 t527 t528 t535 t536 t537 t538 t539 t540 t544 (t560.toList != t564.toList)))))) else (none))) = some r := H
           have A38 := Aside0.mk A380
           clear A380
           replace H := Option.bind_eq_some_iff.mp H
           obtain ⟨t556, A390, H⟩ := H
           replace H : (if t555 = t556 then ((impl_TxsIn.f k t526).bind fun t557 => ((impl_TxsText.f k t557).bind fun t560 => ((spec_TxsIn.f k t526).bind fun t561 => ((spec_TxsText.f k t561).bind fun t564 => (laws_FnNames.j0 k t526 t527 t528 t535 t536 t537 t538 t539 t540 t544 (t560.toList != t564.toList)))))) else (none)) = some r := H
           have A39 := Aside0.mk A390
           clear A390
           by_cases c40 : t555 = t556
           ·rw [if_pos c40] at H
            have c40b0 : (t555 == t556) = true := beq_iff_eq.mpr c40
            have c40b1 : (t555 != t556) = false := bne_eq_false_iff_eq.mpr c40
            clear c40
            replace H := Option.bind_eq_some_iff.mp H
            obtain ⟨t557, A410, H⟩ := H
            replace H : ((impl_TxsText.f k t557).bind fun t560 => ((spec_TxsIn.f k t526).bind fun t561 => ((spec_TxsText.f k t561).bind fun t564 => (laws_FnNames.j0 k t526 t527 t528 t535 t536 t537 t538 t539 t540 t544 (t560.toList != t564.toList))))) = some r := H
            have A41 := Aside0.mk A410
            clear A410
            replace H := Option.bind_eq_some_iff.mp H
            obtain ⟨t560, A420, H⟩ := H
            replace H : ((spec_TxsIn.f k t526).bind fun t561 => ((spec_TxsText.f k t561).bind fun t564 => (laws_FnNames.j0 k t526 t527 t528 t535 t536 t537 t538 t539 t540 t544 (t560.toList != t564.toList)))) = some r := H
            have A42 := Aside0.mk A420
            clear A420
            replace H := Option.bind_eq_some_iff.mp H
            obtain ⟨t561, A430, H⟩ := H
            replace H : ((spec_TxsText.f k t561).bind fun t564 => (laws_FnNames.j0 k t526 t527 t528 t535 t536 t537 t538 t539 t540 t544 (t560.toList != t564.toList))) = some r := H
            have A43 := Aside0.mk A430
            clear A430
            replace H := Option.bind_eq_some_iff.mp H
            obtain ⟨t564, A440, H⟩ := H
            replace H : (laws_FnNames.j0 k t526 t527 t528 t535 t536 t537 t538 t539 t540 t544 (t560.toList != t564.toList)) = some r := H
            have A44 := Aside0.mk A440
            clear A440
            have H' := Aside0.mk H
            clear H
            obtain ⟨Ao45, co45, eo45⟩ := Kd.S_slice HO530.out
            subst eo45
            obtain ⟨Ao46, co46, eo46⟩ := Kd.S_slice HO534.out
            subst eo46
            go_wp2_with (first | (go_at_call 12; (with_reducible refine (impl_NameOk.calls k t526 t545 _ ?side1 A22.out).mono ?_); (case side1 => exact LaidW.below HL0.out (by repeat (first | exact HB.out | apply below_alloc | apply pw_below_drewN | apply below_drew1))); rintro e w47 ⟨rfl, hb⟩; have n0_ := Aside0.mk (Kd.S_below (by (with_reducible repeat (first | apply Kd.S_alloc | apply Kd.S_drewN | apply Kd.S_drew)); exact HO530.out) hb); have n1_ := Aside0.mk (Kd.S_below (by (with_reducible repeat (first | apply Kd.S_alloc | apply Kd.S_drewN | apply Kd.S_drew)); exact HO534.out) hb); have n2_ := Aside0.mk (Kd.R_below (by (with_reducible repeat (first | apply Kd.R_alloc | apply Kd.R_drewN | apply Kd.R_drew)); exact HO543.out) hb); have n3_ := Aside0.mk (below_step (by repeat (first | exact HB.out | apply below_alloc | apply pw_below_drewN | apply below_drew1)) hb); clear HO530; clear HO534; clear HO543; clear HB; have HO530 := n0_; have HO534 := n1_; have HO543 := n2_; have HB := n3_; clear n0_ n1_ n2_ n3_; (try clear hb)) | (go_at_call 13; (with_reducible refine (impl_Extends.calls k t535 t536 t546 _ ?side1 A24.out).mono ?_); (case side1 => exact LaidW.below HL0.out (by repeat (first | exact HB.out | apply below_alloc | apply pw_below_drewN | apply below_drew1))); rintro e w48 ⟨rfl, hb⟩; have n0_ := Aside0.mk (Kd.S_below (by (with_reducible repeat (first | apply Kd.S_alloc | apply Kd.S_drewN | apply Kd.S_drew)); exact HO530.out) hb); have n1_ := Aside0.mk (Kd.S_below (by (with_reducible repeat (first | apply Kd.S_alloc | apply Kd.S_drewN | apply Kd.S_drew)); exact HO534.out) hb); have n2_ := Aside0.mk (Kd.R_below (by (with_reducible repeat (first | apply Kd.R_alloc | apply Kd.R_drewN | apply Kd.R_drew)); exact HO543.out) hb); have n3_ := Aside0.mk (below_step (by repeat (first | exact HB.out | apply below_alloc | apply pw_below_drewN | apply below_drew1)) hb); clear HO530; clear HO534; clear HO543; clear HB; have HO530 := n0_; have HO534 := n1_; have HO543 := n2_; have HB := n3_; clear n0_ n1_ n2_ n3_; (try clear hb)) | (go_at_call 14; (with_reducible refine (spec_Extends.calls k t535 t536 t547 _ A25.out).mono ?_); rintro e w49 ⟨rfl, hb⟩; have n0_ := Aside0.mk (Kd.S_below (by (with_reducible repeat (first | apply Kd.S_alloc | apply Kd.S_drewN | apply Kd.S_drew)); exact HO530.out) hb); have n1_ := Aside0.mk (Kd.S_below (by (with_reducible repeat (first | apply Kd.S_alloc | apply Kd.S_drewN | apply Kd.S_drew)); exact HO534.out) hb); have n2_ := Aside0.mk (Kd.R_below (by (with_reducible repeat (first | apply Kd.R_alloc | apply Kd.R_drewN | apply Kd.R_drew)); exact HO543.out) hb); have n3_ := Aside0.mk (below_step (by repeat (first | exact HB.out | apply below_alloc | apply pw_below_drewN | apply below_drew1)) hb); clear HO530; clear HO534; clear HO543; clear HB; have HO530 := n0_; have HO534 := n1_; have HO543 := n2_; have HB := n3_; clear n0_ n1_ n2_ n3_; (try clear hb)) | (go_at_call 15; (with_reducible refine (impl_Meets.calls k t537 t538 t548 _ ?side1 A27.out).mono ?_); (case side1 => exact LaidW.below HL0.out (by repeat (first | exact HB.out | apply below_alloc | apply pw_below_drewN | apply below_drew1))); rintro e w50 ⟨rfl, hb⟩; have n0_ := Aside0.mk (Kd.S_below (by (with_reducible repeat (first | apply Kd.S_alloc | apply Kd.S_drewN | apply Kd.S_drew)); exact HO530.out) hb); have n1_ := Aside0.mk (Kd.S_below (by (with_reducible repeat (first | apply Kd.S_alloc | apply Kd.S_drewN | apply Kd.S_drew)); exact HO534.out) hb); have n2_ := Aside0.mk (Kd.R_below (by (with_reducible repeat (first | apply Kd.R_alloc | apply Kd.R_drewN | apply Kd.R_drew)); exact HO543.out) hb); have n3_ := Aside0.mk (below_step (by repeat (first | exact HB.out | apply below_alloc | apply pw_below_drewN | apply below_drew1)) hb); clear HO530; clear HO534; clear HO543; clear HB; have HO530 := n0_; have HO534 := n1_; have HO543 := n2_; have HB := n3_; clear n0_ n1_ n2_ n3_; (try clear hb)) | (go_at_call 16; (with_reducible refine (spec_Meets.calls k t537 t538 t549 _ A28.out).mono ?_); rintro e w51 ⟨rfl, hb⟩; have n0_ := Aside0.mk (Kd.S_below (by (with_reducible repeat (first | apply Kd.S_alloc | apply Kd.S_drewN | apply Kd.S_drew)); exact HO530.out) hb); have n1_ := Aside0.mk (Kd.S_below (by (with_reducible repeat (first | apply Kd.S_alloc | apply Kd.S_drewN | apply Kd.S_drew)); exact HO534.out) hb); have n2_ := Aside0.mk (Kd.R_below (by (with_reducible repeat (first | apply Kd.R_alloc | apply Kd.R_drewN | apply Kd.R_drew)); exact HO543.out) hb); have n3_ := Aside0.mk (below_step (by repeat (first | exact HB.out | apply below_alloc | apply pw_below_drewN | apply below_drew1)) hb); clear HO530; clear HO534; clear HO543; clear HB; have HO530 := n0_; have HO534 := n1_; have HO543 := n2_; have HB := n3_; clear n0_ n1_ n2_ n3_; (try clear hb)) | (go_at_call 17; (with_reducible refine (spec_NameOf.calls k t539 t540 _ _ t541 t550 _ ?side1 ?side2 A30.out).mono ?_); (case side1 => repeat (first | exact (Kd.R_reads' HO543.out).2.2 | (with_reducible refine Kd.C_alloc ?_ _) | (with_reducible refine Kd.C_drewN ?_ _) | (with_reducible refine Kd.C_drew ?_))); (case side2 => exact (Kd.R_reads' HO543.out).2.1); rintro e w52 ⟨rfl, hb⟩; have n0_ := Aside0.mk (Kd.S_below (by (with_reducible repeat (first | apply Kd.S_alloc | apply Kd.S_drewN | apply Kd.S_drew)); exact HO530.out) hb); have n1_ := Aside0.mk (Kd.S_below (by (with_reducible repeat (first | apply Kd.S_alloc | apply Kd.S_drewN | apply Kd.S_drew)); exact HO534.out) hb); have n2_ := Aside0.mk (Kd.R_below (by (with_reducible repeat (first | apply Kd.R_alloc | apply Kd.R_drewN | apply Kd.R_drew)); exact HO543.out) hb); have n3_ := Aside0.mk (below_step (by repeat (first | exact HB.out | apply below_alloc | apply pw_below_drewN | apply below_drew1)) hb); clear HO530; clear HO534; clear HO543; clear HB; have HO530 := n0_; have HO534 := n1_; have HO543 := n2_; have HB := n3_; clear n0_ n1_ n2_ n3_; (try clear hb)) | (go_at_call 18; (with_reducible refine (impl_Height.calls k t526 t551 _ ?side1 A32.out).mono ?_); (case side1 => exact LaidW.below HL0.out (by repeat (first | exact HB.out | apply below_alloc | apply pw_below_drewN | apply below_drew1))); rintro e w53 ⟨rfl, hb⟩; have n0_ := Aside0.mk (Kd.S_below (by (with_reducible repeat (first | apply Kd.S_alloc | apply Kd.S_drewN | apply Kd.S_drew)); exact HO530.out) hb); have n1_ := Aside0.mk (Kd.S_below (by (with_reducible repeat (first | apply Kd.S_alloc | apply Kd.S_drewN | apply Kd.S_drew)); exact HO534.out) hb); have n2_ := Aside0.mk (Kd.R_below (by (with_reducible repeat (first | apply Kd.R_alloc | apply Kd.R_drewN | apply Kd.R_drew)); exact HO543.out) hb); have n3_ := Aside0.mk (below_step (by repeat (first | exact HB.out | apply below_alloc | apply pw_below_drewN | apply below_drew1)) hb); clear HO530; clear HO534; clear HO543; clear HB; have HO530 := n0_; have HO534 := n1_; have HO543 := n2_; have HB := n3_; clear n0_ n1_ n2_ n3_; (try clear hb)) | (go_at_call 19; (with_reducible refine (spec_Height.calls k t526 t552 _ A33.out).mono ?_); rintro e w54 ⟨rfl, hb⟩; have n0_ := Aside0.mk (Kd.S_below (by (with_reducible repeat (first | apply Kd.S_alloc | apply Kd.S_drewN | apply Kd.S_drew)); exact HO530.out) hb); have n1_ := Aside0.mk (Kd.S_below (by (with_reducible repeat (first | apply Kd.S_alloc | apply Kd.S_drewN | apply Kd.S_drew)); exact HO534.out) hb); have n2_ := Aside0.mk (Kd.R_below (by (with_reducible repeat (first | apply Kd.R_alloc | apply Kd.R_drewN | apply Kd.R_drew)); exact HO543.out) hb); have n3_ := Aside0.mk (below_step (by repeat (first | exact HB.out | apply below_alloc | apply pw_below_drewN | apply below_drew1)) hb); clear HO530; clear HO534; clear HO543; clear HB; have HO530 := n0_; have HO534 := n1_; have HO543 := n2_; have HB := n3_; clear n0_ n1_ n2_ n3_; (try clear hb)) | (go_at_call 20; (with_reducible refine (impl_UpOf.calls k t526 t553 _ ?side1 A35.out).mono ?_); (case side1 => exact LaidW.below HL0.out (by repeat (first | exact HB.out | apply below_alloc | apply pw_below_drewN | apply below_drew1))); rintro e w55 ⟨rfl, hb⟩; have n0_ := Aside0.mk (Kd.S_below (by (with_reducible repeat (first | apply Kd.S_alloc | apply Kd.S_drewN | apply Kd.S_drew)); exact HO530.out) hb); have n1_ := Aside0.mk (Kd.S_below (by (with_reducible repeat (first | apply Kd.S_alloc | apply Kd.S_drewN | apply Kd.S_drew)); exact HO534.out) hb); have n2_ := Aside0.mk (Kd.R_below (by (with_reducible repeat (first | apply Kd.R_alloc | apply Kd.R_drewN | apply Kd.R_drew)); exact HO543.out) hb); have n3_ := Aside0.mk (below_step (by repeat (first | exact HB.out | apply below_alloc | apply pw_below_drewN | apply below_drew1)) hb); clear HO530; clear HO534; clear HO543; clear HB; have HO530 := n0_; have HO534 := n1_; have HO543 := n2_; have HB := n3_; clear n0_ n1_ n2_ n3_; (try clear hb)) | (go_at_call 21; (with_reducible refine (spec_UpOf.calls k t526 t554 _ A36.out).mono ?_); rintro e w56 ⟨rfl, hb⟩; have n0_ := Aside0.mk (Kd.S_below (by (with_reducible repeat (first | apply Kd.S_alloc | apply Kd.S_drewN | apply Kd.S_drew)); exact HO530.out) hb); have n1_ := Aside0.mk (Kd.S_below (by (with_reducible repeat (first | apply Kd.S_alloc | apply Kd.S_drewN | apply Kd.S_drew)); exact HO534.out) hb); have n2_ := Aside0.mk (Kd.R_below (by (with_reducible repeat (first | apply Kd.R_alloc | apply Kd.R_drewN | apply Kd.R_drew)); exact HO543.out) hb); have n3_ := Aside0.mk (below_step (by repeat (first | exact HB.out | apply below_alloc | apply pw_below_drewN | apply below_drew1)) hb); clear HO530; clear HO534; clear HO543; clear HB; have HO530 := n0_; have HO534 := n1_; have HO543 := n2_; have HB := n3_; clear n0_ n1_ n2_ n3_; (try clear hb)) | (go_at_call 22; (with_reducible refine (impl_ViewOf.calls k t526 t555 _ ?side1 A38.out).mono ?_); (case side1 => exact LaidW.below HL0.out (by repeat (first | exact HB.out | apply below_alloc | apply pw_below_drewN | apply below_drew1))); rintro e w57 ⟨rfl, hb⟩; have n0_ := Aside0.mk (Kd.S_below (by (with_reducible repeat (first | apply Kd.S_alloc | apply Kd.S_drewN | apply Kd.S_drew)); exact HO530.out) hb); have n1_ := Aside0.mk (Kd.S_below (by (with_reducible repeat (first | apply Kd.S_alloc | apply Kd.S_drewN | apply Kd.S_drew)); exact HO534.out) hb); have n2_ := Aside0.mk (Kd.R_below (by (with_reducible repeat (first | apply Kd.R_alloc | apply Kd.R_drewN | apply Kd.R_drew)); exact HO543.out) hb); have n3_ := Aside0.mk (below_step (by repeat (first | exact HB.out | apply below_alloc | apply pw_below_drewN | apply below_drew1)) hb); clear HO530; clear HO534; clear HO543; clear HB; have HO530 := n0_; have HO534 := n1_; have HO543 := n2_; have HB := n3_; clear n0_ n1_ n2_ n3_; (try clear hb)) | (go_at_call 23; (with_reducible refine (spec_ViewOf.calls k t526 t556 _ A39.out).mono ?_); rintro e w58 ⟨rfl, hb⟩; have n0_ := Aside0.mk (Kd.S_below (by (with_reducible repeat (first | apply Kd.S_alloc | apply Kd.S_drewN | apply Kd.S_drew)); exact HO530.out) hb); have n1_ := Aside0.mk (Kd.S_below (by (with_reducible repeat (first | apply Kd.S_alloc | apply Kd.S_drewN | apply Kd.S_drew)); exact HO534.out) hb); have n2_ := Aside0.mk (Kd.R_below (by (with_reducible repeat (first | apply Kd.R_alloc | apply Kd.R_drewN | apply Kd.R_drew)); exact HO543.out) hb); have n3_ := Aside0.mk (below_step (by repeat (first | exact HB.out | apply below_alloc | apply pw_below_drewN | apply below_drew1)) hb); clear HO530; clear HO534; clear HO543; clear HB; have HO530 := n0_; have HO534 := n1_; have HO543 := n2_; have HB := n3_; clear n0_ n1_ n2_ n3_; (try clear hb)) | (go_at_call 25; (with_reducible refine (impl_TxsIn.calls k t526 t557 _ ?side1 A41.out).mono ?_); (case side1 => exact LaidW.below HL0.out (by repeat (first | exact HB.out | apply below_alloc | apply pw_below_drewN | apply below_drew1))); rintro e w59 ⟨v558, rfl, ho0, hb⟩; have n0_ := Aside0.mk (Kd.S_elder' (by (with_reducible repeat (first | apply Kd.S_alloc | apply Kd.S_drewN | apply Kd.S_drew)); exact HO530.out) (Kd.R_base ho0) hb); have n1_ := Aside0.mk (Kd.S_elder' (by (with_reducible repeat (first | apply Kd.S_alloc | apply Kd.S_drewN | apply Kd.S_drew)); exact HO534.out) (Kd.R_base ho0) hb); have n2_ := Aside0.mk (Kd.R_elder' (by (with_reducible repeat (first | apply Kd.R_alloc | apply Kd.R_drewN | apply Kd.R_drew)); exact HO543.out) (Kd.R_base ho0) hb); have n3_ := Aside0.mk (Kd.R_lower (Kd.R_new' ho0 (Kd.R_lt (by (with_reducible repeat (first | apply Kd.R_alloc | apply Kd.R_drewN | apply Kd.R_drew)); exact HO543.out))) (below_size (by repeat (first | exact HB.out | apply below_alloc | apply pw_below_drewN | apply below_drew1)))); have n4_ := Aside0.mk (below_step (by repeat (first | exact HB.out | apply below_alloc | apply pw_below_drewN | apply below_drew1)) hb); clear HO530; clear HO534; clear HO543; clear HB; have HO530 := n0_; have HO534 := n1_; have HO543 := n2_; have HO559 := n3_; have HB := n4_; clear n0_ n1_ n2_ n3_ n4_; (try clear hb); (try clear ho0); obtain ⟨Ao60, co60, eo60⟩ := Kd.R_slice HO559.out; subst eo60) | (go_at_call 24; (with_reducible refine (impl_TxsText.calls k _ _ t557 t560 _ ?side1 ?side2 ?side3 A42.out).mono ?_); (case side1 => repeat (first | exact (Kd.R_reads' HO559.out).2.2 | (with_reducible refine Kd.C_alloc ?_ _) | (with_reducible refine Kd.C_drewN ?_ _) | (with_reducible refine Kd.C_drew ?_))); (case side2 => exact (Kd.R_reads' HO559.out).2.1); (case side3 => exact LaidW.below HL0.out (by repeat (first | exact HB.out | apply below_alloc | apply pw_below_drewN | apply below_drew1))); rintro e w61 ⟨rfl, hb⟩; have n0_ := Aside0.mk (Kd.S_below (by (with_reducible repeat (first | apply Kd.S_alloc | apply Kd.S_drewN | apply Kd.S_drew)); exact HO530.out) hb); have n1_ := Aside0.mk (Kd.S_below (by (with_reducible repeat (first | apply Kd.S_alloc | apply Kd.S_drewN | apply Kd.S_drew)); exact HO534.out) hb); have n2_ := Aside0.mk (Kd.R_below (by (with_reducible repeat (first | apply Kd.R_alloc | apply Kd.R_drewN | apply Kd.R_drew)); exact HO543.out) hb); have n3_ := Aside0.mk (Kd.R_below (by (with_reducible repeat (first | apply Kd.R_alloc | apply Kd.R_drewN | apply Kd.R_drew)); exact HO559.out) hb); have n4_ := Aside0.mk (below_step (by repeat (first | exact HB.out | apply below_alloc | apply pw_below_drewN | apply below_drew1)) hb); clear HO530; clear HO534; clear HO543; clear HO559; clear HB; have HO530 := n0_; have HO534 := n1_; have HO543 := n2_; have HO559 := n3_; have HB := n4_; clear n0_ n1_ n2_ n3_ n4_; (try clear hb)) | (go_at_call 27; (with_reducible refine (spec_TxsIn.calls k t526 t561 _ A43.out).mono ?_); rintro e w62 ⟨v562, rfl, ho0, hb⟩; have n0_ := Aside0.mk (Kd.S_elder' (by (with_reducible repeat (first | apply Kd.S_alloc | apply Kd.S_drewN | apply Kd.S_drew)); exact HO530.out) (Kd.R_base ho0) hb); have n1_ := Aside0.mk (Kd.S_elder' (by (with_reducible repeat (first | apply Kd.S_alloc | apply Kd.S_drewN | apply Kd.S_drew)); exact HO534.out) (Kd.R_base ho0) hb); have n2_ := Aside0.mk (Kd.R_elder' (by (with_reducible repeat (first | apply Kd.R_alloc | apply Kd.R_drewN | apply Kd.R_drew)); exact HO543.out) (Kd.R_base ho0) hb); have n3_ := Aside0.mk (Kd.R_elder' (by (with_reducible repeat (first | apply Kd.R_alloc | apply Kd.R_drewN | apply Kd.R_drew)); exact HO559.out) (Kd.R_base ho0) hb); have n4_ := Aside0.mk (Kd.R_lower (Kd.R_new' (Kd.R_new' ho0 (Kd.R_lt (by (with_reducible repeat (first | apply Kd.R_alloc | apply Kd.R_drewN | apply Kd.R_drew)); exact HO543.out))) (Kd.R_lt (by (with_reducible repeat (first | apply Kd.R_alloc | apply Kd.R_drewN | apply Kd.R_drew)); exact HO559.out))) (below_size (by repeat (first | exact HB.out | apply below_alloc | apply pw_below_drewN | apply below_drew1)))); have n5_ := Aside0.mk (below_step (by repeat (first | exact HB.out | apply below_alloc | apply pw_below_drewN | apply below_drew1)) hb); clear HO530; clear HO534; clear HO543; clear HO559; clear HB; have HO530 := n0_; have HO534 := n1_; have HO543 := n2_; have HO559 := n3_; have HO563 := n4_; have HB := n5_; clear n0_ n1_ n2_ n3_ n4_ n5_; (try clear hb); (try clear ho0); obtain ⟨Ao63, co63, eo63⟩ := Kd.R_slice HO563.out; subst eo63) | (go_at_call 26; (with_reducible refine (spec_TxsText.calls k _ _ t561 t564 _ ?side1 ?side2 A44.out).mono ?_); (case side1 => repeat (first | exact (Kd.R_reads' HO563.out).2.2 | (with_reducible refine Kd.C_alloc ?_ _) | (with_reducible refine Kd.C_drewN ?_ _) | (with_reducible refine Kd.C_drew ?_))); (case side2 => exact (Kd.R_reads' HO563.out).2.1); rintro e w64 ⟨rfl, hb⟩; have n0_ := Aside0.mk (Kd.S_below (by (with_reducible repeat (first | apply Kd.S_alloc | apply Kd.S_drewN | apply Kd.S_drew)); exact HO530.out) hb); have n1_ := Aside0.mk (Kd.S_below (by (with_reducible repeat (first | apply Kd.S_alloc | apply Kd.S_drewN | apply Kd.S_drew)); exact HO534.out) hb); have n2_ := Aside0.mk (Kd.R_below (by (with_reducible repeat (first | apply Kd.R_alloc | apply Kd.R_drewN | apply Kd.R_drew)); exact HO543.out) hb); have n3_ := Aside0.mk (Kd.R_below (by (with_reducible repeat (first | apply Kd.R_alloc | apply Kd.R_drewN | apply Kd.R_drew)); exact HO559.out) hb); have n4_ := Aside0.mk (Kd.R_below (by (with_reducible repeat (first | apply Kd.R_alloc | apply Kd.R_drewN | apply Kd.R_drew)); exact HO563.out) hb); have n5_ := Aside0.mk (below_step (by repeat (first | exact HB.out | apply below_alloc | apply pw_below_drewN | apply below_drew1)) hb); clear HO530; clear HO534; clear HO543; clear HO559; clear HO563; clear HB; have HO530 := n0_; have HO534 := n1_; have HO543 := n2_; have HO559 := n3_; have HO563 := n4_; have HB := n5_; clear n0_ n1_ n2_ n3_ n4_ n5_; (try clear hb)))
            go_meet
            case rel => exact ⟨_, ((t560.toList != t564.toList)), (by first | rfl | (simp; done) | (simp [*]; done)), H', ⟨by first | omega | exact Nat.le_refl _⟩, ⟨by (with_reducible repeat (first | apply Kd.S_alloc | apply Kd.S_drewN | apply Kd.S_drew)); exact Kd.S_mono HO530.out (fun _ hk => trivial)⟩, ⟨by repeat (first | exact HB.out | apply below_alloc | apply pw_below_drewN | apply below_drew1)⟩⟩
           ·rw [if_neg c40] at H
            exact absurd H (by simp)
          ·rw [if_neg c37] at H
           exact absurd H (by simp)
         ·rw [if_neg c34] at H
          exact absurd H (by simp)
        ·rw [if_neg c31] at H
         exact absurd H (by simp)
    ·rw [if_neg c21] at H
     exact absurd H (by simp)
  case rest =>
   clear HC11
   try clear c1
   try clear c2
   try clear p2
   try clear c3
   try clear c4
   try clear c5
   try clear c6
   try clear c7
   try clear c8
   try clear c9
   try clear c10
   try clear c11
   try clear c20
   try clear c20b0
   try clear c20b1
   try clear c20b2
   try clear c21
   try clear c21b0
   try clear c21b1
   try clear c21b2
   try clear c23
   try clear c23b0
   try clear c23b1
   try clear c23b2
   try clear c26
   try clear c26b0
   try clear c26b1
   try clear c26b2
   try clear c29
   try clear c29b0
   try clear c29b1
   try clear c29b2
   try clear c31
   try clear c31b0
   try clear c31b1
   try clear c34
   try clear c34b0
   try clear c34b1
   try clear c37
   try clear c37b0
   try clear c37b1
   try clear c40
   try clear c40b0
   try clear c40b1
   obtain ⟨kq, x123_10, rfl, HA, HJ10, HO_4, HB⟩ := hcut
   cases kq with
   | zero => exact absurd HA.out (by simp [laws_FnNames.j0])
   | succ kj10 =>
    have H := HA.out
    clear HA
    simp only [laws_FnNames.j0] at H
    by_cases c65 : x123_10 = true
    ·subst c65
     have H1 : (some false) = some r := by rw [if_pos rfl] at H; exact H
     clear H
     have H := H1
     clear H1
     exact absurd ((Option.some.inj H).trans HRT.out) (by decide)
    ·replace c65 := Bool.eq_false_iff.mpr c65
     subst c65
     have H1 : (if t544.toList = ([] : List UInt8) then (laws_FnNames.j1 kj10 t526 t527 t528 t535 t536 t537 t538 false) else ((impl_UpOf.f kj10 t544).bind fun t565 => (if t565.toList = t539.toList then ((impl_ViewOf.f kj10 t544).bind fun t566 => (if t566 = t540 then ((impl_Height.f kj10 t544).bind fun t567 => ((impl_Height.f kj10 t539).bind fun t568 => (if t567 = (wrap64 (t568 + 1)) then ((impl_Extends.f kj10 t544 t539).bind fun t569 => (laws_FnNames.j1 kj10 t526 t527 t528 t535 t536 t537 t538 (!t569))) else (none)))) else (none))) else (none)))) = some r := by rw [if_neg (show ¬ (false = true) by decide)] at H; exact H
     clear H
     have H := H1
     clear H1
     have HC66 := Aside0.mk H
     clear H
     go_upto_region 12 with (fail)
     go_cut [151] (fun v151 wc => ∃ (kq : Nat) (x151_65 : Bool), v151 = .bool x151_65 ∧ Aside0 (laws_FnNames.j1 kq t526 t527 t528 t535 t536 t537 t538 x151_65 = some r) ∧ Aside0 (kq ≤ kj10) ∧ Aside0 (Kd.S k41 41 wc w.heap.size (fun _ => True) v529 t527) ∧ Aside0 (Below w.heap.size w wc))
     case first =>
      have H := HC66.out
      clear HC66
      by_cases c67 : t544.toList = ([] : List UInt8)
      ·rw [if_pos c67] at H
       have c67b0 : (t544.toList == ([] : List UInt8)) = true := beq_iff_eq.mpr c67
       have c67b8 : (t544.toList).isEmpty = true := List.isEmpty_iff.2 c67
       have c67b1 : (t544.toList != ([] : List UInt8)) = false := bne_eq_false_iff_eq.mpr c67
       clear c67
       (first | rw [c67b8] | rw [c67b0] | (simp only [i64_w, i32_w]; rw [c67b0]) | skip)
       have H' := Aside0.mk H
       clear H
       go_wp2
       go_meet
       case rel => exact ⟨_, (false), (by first | rfl | (simp; done) | (simp [*]; done)), H', ⟨by have := HJ10.out; first | omega | exact Nat.le_refl _⟩, ⟨by (with_reducible repeat (first | apply Kd.S_alloc | apply Kd.S_drewN | apply Kd.S_drew)); exact HO_4.out⟩, ⟨by repeat (first | exact HB.out | apply below_alloc | apply pw_below_drewN | apply below_drew1)⟩⟩
      ·rw [if_neg c67] at H
       have c67b0 : (t544.toList == ([] : List UInt8)) = false := beq_eq_false_iff_ne.mpr c67
       have c67b8 : (t544.toList).isEmpty = false := Bool.eq_false_iff.2 (fun h_ => c67 (List.isEmpty_iff.1 h_))
       have c67b1 : (t544.toList != ([] : List UInt8)) = true := bne_iff_ne.mpr c67
       (first | rw [c67b8] | rw [c67b0] | (simp only [i64_w, i32_w]; rw [c67b0]) | skip)
       replace H := Option.bind_eq_some_iff.mp H
       obtain ⟨t565, A680, H⟩ := H
       replace H : (if t565.toList = t539.toList then ((impl_ViewOf.f kj10 t544).bind fun t566 => (if t566 = t540 then ((impl_Height.f kj10 t544).bind fun t567 => ((impl_Height.f kj10 t539).bind fun t568 => (if t567 = (wrap64 (t568 + 1)) then ((impl_Extends.f kj10 t544 t539).bind fun t569 => (laws_FnNames.j1 kj10 t526 t527 t528 t535 t536 t537 t538 (!t569))) else (none)))) else (none))) else (none)) = some r := H
       have A68 := Aside0.mk A680
       clear A680
       by_cases c69 : t565.toList = t539.toList
       ·rw [if_pos c69] at H
        have c69b0 : (t565.toList == t539.toList) = true := beq_iff_eq.mpr c69
        have c69b1 : (t565.toList != t539.toList) = false := bne_eq_false_iff_eq.mpr c69
        clear c69
        replace H := Option.bind_eq_some_iff.mp H
        obtain ⟨t566, A700, H⟩ := H
        replace H : (if t566 = t540 then ((impl_Height.f kj10 t544).bind fun t567 => ((impl_Height.f kj10 t539).bind fun t568 => (if t567 = (wrap64 (t568 + 1)) then ((impl_Extends.f kj10 t544 t539).bind fun t569 => (laws_FnNames.j1 kj10 t526 t527 t528 t535 t536 t537 t538 (!t569))) else (none)))) else (none)) = some r := H
        have A70 := Aside0.mk A700
        clear A700
        by_cases c71 : t566 = t540
        ·rw [if_pos c71] at H
         have c71b0 : (t566 == t540) = true := beq_iff_eq.mpr c71
         have c71b1 : (t566 != t540) = false := bne_eq_false_iff_eq.mpr c71
         clear c71
         replace H := Option.bind_eq_some_iff.mp H
         obtain ⟨t567, A720, H⟩ := H
         replace H : ((impl_Height.f kj10 t539).bind fun t568 => (if t567 = (wrap64 (t568 + 1)) then ((impl_Extends.f kj10 t544 t539).bind fun t569 => (laws_FnNames.j1 kj10 t526 t527 t528 t535 t536 t537 t538 (!t569))) else (none))) = some r := H
         have A72 := Aside0.mk A720
         clear A720
         replace H := Option.bind_eq_some_iff.mp H
         obtain ⟨t568, A730, H⟩ := H
         replace H : (if t567 = (wrap64 (t568 + 1)) then ((impl_Extends.f kj10 t544 t539).bind fun t569 => (laws_FnNames.j1 kj10 t526 t527 t528 t535 t536 t537 t538 (!t569))) else (none)) = some r := H
         have A73 := Aside0.mk A730
         clear A730
         by_cases c74 : t567 = (wrap64 (t568 + 1))
         ·rw [if_pos c74] at H
          have c74b0 : (t567 == (wrap64 (t568 + 1))) = true := beq_iff_eq.mpr c74
          have c74b1 : (t567 != (wrap64 (t568 + 1))) = false := bne_eq_false_iff_eq.mpr c74
          clear c74
          replace H := Option.bind_eq_some_iff.mp H
          obtain ⟨t569, A750, H⟩ := H
          replace H : (laws_FnNames.j1 kj10 t526 t527 t528 t535 t536 t537 t538 (!t569)) = some r := H
          have A75 := Aside0.mk A750
          clear A750
          have H' := Aside0.mk H
          clear H
          go_wp2_with (first | (go_at_call 20; (with_reducible refine (impl_UpOf.calls kj10 t544 t565 _ ?side1 A68.out).mono ?_); (case side1 => exact LaidW.below HL0.out (by repeat (first | exact HB.out | apply below_alloc | apply pw_below_drewN | apply below_drew1))); rintro e w76 ⟨rfl, hb⟩; have n0_ := Aside0.mk (Kd.S_below (by (with_reducible repeat (first | apply Kd.S_alloc | apply Kd.S_drewN | apply Kd.S_drew)); exact HO_4.out) hb); have n1_ := Aside0.mk (below_step (by repeat (first | exact HB.out | apply below_alloc | apply pw_below_drewN | apply below_drew1)) hb); clear HO_4; clear HB; have HO_4 := n0_; have HB := n1_; clear n0_ n1_; (try clear hb)) | (go_at_call 22; (with_reducible refine (impl_ViewOf.calls kj10 t544 t566 _ ?side1 A70.out).mono ?_); (case side1 => exact LaidW.below HL0.out (by repeat (first | exact HB.out | apply below_alloc | apply pw_below_drewN | apply below_drew1))); rintro e w77 ⟨rfl, hb⟩; have n0_ := Aside0.mk (Kd.S_below (by (with_reducible repeat (first | apply Kd.S_alloc | apply Kd.S_drewN | apply Kd.S_drew)); exact HO_4.out) hb); have n1_ := Aside0.mk (below_step (by repeat (first | exact HB.out | apply below_alloc | apply pw_below_drewN | apply below_drew1)) hb); clear HO_4; clear HB; have HO_4 := n0_; have HB := n1_; clear n0_ n1_; (try clear hb)) | (go_at_call 18; (with_reducible refine (impl_Height.calls kj10 t544 t567 _ ?side1 A72.out).mono ?_); (case side1 => exact LaidW.below HL0.out (by repeat (first | exact HB.out | apply below_alloc | apply pw_below_drewN | apply below_drew1))); rintro e w78 ⟨rfl, hb⟩; have n0_ := Aside0.mk (Kd.S_below (by (with_reducible repeat (first | apply Kd.S_alloc | apply Kd.S_drewN | apply Kd.S_drew)); exact HO_4.out) hb); have n1_ := Aside0.mk (below_step (by repeat (first | exact HB.out | apply below_alloc | apply pw_below_drewN | apply below_drew1)) hb); clear HO_4; clear HB; have HO_4 := n0_; have HB := n1_; clear n0_ n1_; (try clear hb)) | (go_at_call 18; (with_reducible refine (impl_Height.calls kj10 t539 t568 _ ?side1 A73.out).mono ?_); (case side1 => exact LaidW.below HL0.out (by repeat (first | exact HB.out | apply below_alloc | apply pw_below_drewN | apply below_drew1))); rintro e w79 ⟨rfl, hb⟩; have n0_ := Aside0.mk (Kd.S_below (by (with_reducible repeat (first | apply Kd.S_alloc | apply Kd.S_drewN | apply Kd.S_drew)); exact HO_4.out) hb); have n1_ := Aside0.mk (below_step (by repeat (first | exact HB.out | apply below_alloc | apply pw_below_drewN | apply below_drew1)) hb); clear HO_4; clear HB; have HO_4 := n0_; have HB := n1_; clear n0_ n1_; (try clear hb)) | (go_at_call 13; (with_reducible refine (impl_Extends.calls kj10 t544 t539 t569 _ ?side1 A75.out).mono ?_); (case side1 => exact LaidW.below HL0.out (by repeat (first | exact HB.out | apply below_alloc | apply pw_below_drewN | apply below_drew1))); rintro e w80 ⟨rfl, hb⟩; have n0_ := Aside0.mk (Kd.S_below (by (with_reducible repeat (first | apply Kd.S_alloc | apply Kd.S_drewN | apply Kd.S_drew)); exact HO_4.out) hb); have n1_ := Aside0.mk (below_step (by repeat (first | exact HB.out | apply below_alloc | apply pw_below_drewN | apply below_drew1)) hb); clear HO_4; clear HB; have HO_4 := n0_; have HB := n1_; clear n0_ n1_; (try clear hb)))
          go_meet
          case rel => exact ⟨_, (!t569), (by first | rfl | (simp; done) | (simp [*]; done)), H', ⟨by have := HJ10.out; first | omega | exact Nat.le_refl _⟩, ⟨by (with_reducible repeat (first | apply Kd.S_alloc | apply Kd.S_drewN | apply Kd.S_drew)); exact HO_4.out⟩, ⟨by repeat (first | exact HB.out | apply below_alloc | apply pw_below_drewN | apply below_drew1)⟩⟩
         ·rw [if_neg c74] at H
          exact absurd H (by simp)
        ·rw [if_neg c71] at H
         exact absurd H (by simp)
       ·rw [if_neg c69] at H
        exact absurd H (by simp)
     case rest =>
      clear HC66
      try clear c1
      try clear c2
      try clear p2
      try clear c3
      try clear c4
      try clear c5
      try clear c6
      try clear p6
      try clear c7
      try clear c8
      try clear c9
      try clear c10
      try clear c11
      try clear c20
      try clear c20b0
      try clear c20b1
      try clear c20b2
      try clear c21
      try clear c21b0
      try clear c21b1
      try clear c21b2
      try clear c23
      try clear c23b0
      try clear c23b1
      try clear c23b2
      try clear c26
      try clear c26b0
      try clear c26b1
      try clear c26b2
      try clear c29
      try clear c29b0
      try clear c29b1
      try clear c29b2
      try clear c31
      try clear c31b0
      try clear c31b1
      try clear c34
      try clear c34b0
      try clear c34b1
      try clear c37
      try clear c37b0
      try clear c37b1
      try clear c40
      try clear c40b0
      try clear c40b1
      try clear p64
      try clear c65
      try clear c67
      try clear c67b0
      try clear c67b1
      try clear c69
      try clear c69b0
      try clear c69b1
      try clear c71
      try clear c71b0
      try clear c71b1
      try clear c74
      try clear c74b0
      try clear c74b1
      try clear p2
      obtain ⟨kq, x151_65, rfl, HA, HJ65, HO_4, HB⟩ := hcut
      cases kq with
      | zero => exact absurd HA.out (by simp [laws_FnNames.j1])
      | succ kj65 =>
       have H := HA.out
       clear HA
       simp only [laws_FnNames.j1] at H
       by_cases c81 : x151_65 = true
       ·subst c81
        have H1 : (some false) = some r := by rw [if_pos rfl] at H; exact H
        clear H
        have H := H1
        clear H1
        exact absurd ((Option.some.inj H).trans HRT.out) (by decide)
       ·replace c81 := Bool.eq_false_iff.mpr c81
        subst c81
        have H1 : ((impl_Extends.f kj65 t535 t536).bind fun t570 => (if t570 = true then ((impl_Height.f kj65 t535).bind fun t571 => ((impl_Height.f kj65 t536).bind fun t572 => (if t571 < t572 then (none) else ((impl_ViewOf.f kj65 t535).bind fun t573 => ((impl_ViewOf.f kj65 t536).bind fun t574 => (laws_FnNames.j2 kj65 t526 t527 t528 t537 t538 (decide (t573 < t574)))))))) else (laws_FnNames.j2 kj65 t526 t527 t528 t537 t538 false))) = some r := by rw [if_neg (show ¬ (false = true) by decide)] at H; exact H
        clear H
        have H := H1
        clear H1
        have HC82 := Aside0.mk H
        clear H
        go_upto_region 14 with (fail)
        go_cut [168] (fun v168 wc => ∃ (kq : Nat) (x168_81 : Bool), v168 = .bool x168_81 ∧ Aside0 (laws_FnNames.j2 kq t526 t527 t528 t537 t538 x168_81 = some r) ∧ Aside0 (kq ≤ kj65) ∧ Aside0 (Kd.S k41 41 wc w.heap.size (fun _ => True) v529 t527) ∧ Aside0 (Below w.heap.size w wc))
        case first =>
         have H := HC82.out
         clear HC82
         replace H := Option.bind_eq_some_iff.mp H
         obtain ⟨t570, A830, H⟩ := H
         replace H : (if t570 = true then ((impl_Height.f kj65 t535).bind fun t571 => ((impl_Height.f kj65 t536).bind fun t572 => (if t571 < t572 then (none) else ((impl_ViewOf.f kj65 t535).bind fun t573 => ((impl_ViewOf.f kj65 t536).bind fun t574 => (laws_FnNames.j2 kj65 t526 t527 t528 t537 t538 (decide (t573 < t574)))))))) else (laws_FnNames.j2 kj65 t526 t527 t528 t537 t538 false)) = some r := H
         have A83 := Aside0.mk A830
         clear A830
         by_cases c84 : t570 = true
         ·subst c84
          have H1 : ((impl_Height.f kj65 t535).bind fun t571 => ((impl_Height.f kj65 t536).bind fun t572 => (if t571 < t572 then (none) else ((impl_ViewOf.f kj65 t535).bind fun t573 => ((impl_ViewOf.f kj65 t536).bind fun t574 => (laws_FnNames.j2 kj65 t526 t527 t528 t537 t538 (decide (t573 < t574)))))))) = some r := by rw [if_pos rfl] at H; exact H
          clear H
          have H := H1
          clear H1
          replace H := Option.bind_eq_some_iff.mp H
          obtain ⟨t571, A850, H⟩ := H
          replace H : ((impl_Height.f kj65 t536).bind fun t572 => (if t571 < t572 then (none) else ((impl_ViewOf.f kj65 t535).bind fun t573 => ((impl_ViewOf.f kj65 t536).bind fun t574 => (laws_FnNames.j2 kj65 t526 t527 t528 t537 t538 (decide (t573 < t574))))))) = some r := H
          have A85 := Aside0.mk A850
          clear A850
          replace H := Option.bind_eq_some_iff.mp H
          obtain ⟨t572, A860, H⟩ := H
          replace H : (if t571 < t572 then (none) else ((impl_ViewOf.f kj65 t535).bind fun t573 => ((impl_ViewOf.f kj65 t536).bind fun t574 => (laws_FnNames.j2 kj65 t526 t527 t528 t537 t538 (decide (t573 < t574)))))) = some r := H
          have A86 := Aside0.mk A860
          clear A860
          by_cases c87 : t571 < t572
          ·rw [if_pos c87] at H
           exact absurd H (by simp)
          ·rw [if_neg c87] at H
           have c87b0 : decide (t571 < t572) = false := decide_eq_false c87
           clear c87
           (first | rw [c87b0] | (simp only [i64_w, i32_w]; rw [c87b0]) | skip)
           replace H := Option.bind_eq_some_iff.mp H
           obtain ⟨t573, A880, H⟩ := H
           replace H : ((impl_ViewOf.f kj65 t536).bind fun t574 => (laws_FnNames.j2 kj65 t526 t527 t528 t537 t538 (decide (t573 < t574)))) = some r := H
           have A88 := Aside0.mk A880
           clear A880
           replace H := Option.bind_eq_some_iff.mp H
           obtain ⟨t574, A890, H⟩ := H
           replace H : (laws_FnNames.j2 kj65 t526 t527 t528 t537 t538 (decide (t573 < t574))) = some r := H
           have A89 := Aside0.mk A890
           clear A890
           have H' := Aside0.mk H
           clear H
           go_wp2_with (first | ((with_reducible refine gate_callee (f := 13) rfl ?_); refine goesL_ (some 154) rfl rfl Tryz.func13 (by kernel_rfl) rfl #[.string t535, .string t536] rfl (by (try simp only [List.map_toArray, List.map_cons, List.map_nil]); first | done | rfl) ?_; (with_reducible refine (impl_Extends.calls kj65 t535 t536 true _ ?side1 A83.out).mono ?_); (case side1 => exact LaidW.below HL0.out (by repeat (first | exact HB.out | apply below_alloc | apply pw_below_drewN | apply below_drew1))); rintro e w90 ⟨rfl, hb⟩; refine ⟨_, rfl, ?_⟩; have n0_ := Aside0.mk (Kd.S_below (by (with_reducible repeat (first | apply Kd.S_alloc | apply Kd.S_drewN | apply Kd.S_drew)); exact HO_4.out) hb); have n1_ := Aside0.mk (below_step (by repeat (first | exact HB.out | apply below_alloc | apply pw_below_drewN | apply below_drew1)) hb); clear HO_4; clear HB; have HO_4 := n0_; have HB := n1_; clear n0_ n1_; (try clear hb)) | (go_at_call 18; (with_reducible refine (impl_Height.calls kj65 t535 t571 _ ?side1 A85.out).mono ?_); (case side1 => exact LaidW.below HL0.out (by repeat (first | exact HB.out | apply below_alloc | apply pw_below_drewN | apply below_drew1))); rintro e w91 ⟨rfl, hb⟩; have n0_ := Aside0.mk (Kd.S_below (by (with_reducible repeat (first | apply Kd.S_alloc | apply Kd.S_drewN | apply Kd.S_drew)); exact HO_4.out) hb); have n1_ := Aside0.mk (below_step (by repeat (first | exact HB.out | apply below_alloc | apply pw_below_drewN | apply below_drew1)) hb); clear HO_4; clear HB; have HO_4 := n0_; have HB := n1_; clear n0_ n1_; (try clear hb)) | (go_at_call 18; (with_reducible refine (impl_Height.calls kj65 t536 t572 _ ?side1 A86.out).mono ?_); (case side1 => exact LaidW.below HL0.out (by repeat (first | exact HB.out | apply below_alloc | apply pw_below_drewN | apply below_drew1))); rintro e w92 ⟨rfl, hb⟩; have n0_ := Aside0.mk (Kd.S_below (by (with_reducible repeat (first | apply Kd.S_alloc | apply Kd.S_drewN | apply Kd.S_drew)); exact HO_4.out) hb); have n1_ := Aside0.mk (below_step (by repeat (first | exact HB.out | apply below_alloc | apply pw_below_drewN | apply below_drew1)) hb); clear HO_4; clear HB; have HO_4 := n0_; have HB := n1_; clear n0_ n1_; (try clear hb)) | (go_at_call 22; (with_reducible refine (impl_ViewOf.calls kj65 t535 t573 _ ?side1 A88.out).mono ?_); (case side1 => exact LaidW.below HL0.out (by repeat (first | exact HB.out | apply below_alloc | apply pw_below_drewN | apply below_drew1))); rintro e w93 ⟨rfl, hb⟩; have n0_ := Aside0.mk (Kd.S_below (by (with_reducible repeat (first | apply Kd.S_alloc | apply Kd.S_drewN | apply Kd.S_drew)); exact HO_4.out) hb); have n1_ := Aside0.mk (below_step (by repeat (first | exact HB.out | apply below_alloc | apply pw_below_drewN | apply below_drew1)) hb); clear HO_4; clear HB; have HO_4 := n0_; have HB := n1_; clear n0_ n1_; (try clear hb)) | (go_at_call 22; (with_reducible refine (impl_ViewOf.calls kj65 t536 t574 _ ?side1 A89.out).mono ?_); (case side1 => exact LaidW.below HL0.out (by repeat (first | exact HB.out | apply below_alloc | apply pw_below_drewN | apply below_drew1))); rintro e w94 ⟨rfl, hb⟩; have n0_ := Aside0.mk (Kd.S_below (by (with_reducible repeat (first | apply Kd.S_alloc | apply Kd.S_drewN | apply Kd.S_drew)); exact HO_4.out) hb); have n1_ := Aside0.mk (below_step (by repeat (first | exact HB.out | apply below_alloc | apply pw_below_drewN | apply below_drew1)) hb); clear HO_4; clear HB; have HO_4 := n0_; have HB := n1_; clear n0_ n1_; (try clear hb)))
           go_meet
           case rel => exact ⟨_, (decide (t573 < t574)), (by first | rfl | (simp; done) | (simp [*]; done)), H', ⟨by have := HJ10.out; have := HJ65.out; first | omega | exact Nat.le_refl _⟩, ⟨by (with_reducible repeat (first | apply Kd.S_alloc | apply Kd.S_drewN | apply Kd.S_drew)); exact HO_4.out⟩, ⟨by repeat (first | exact HB.out | apply below_alloc | apply pw_below_drewN | apply below_drew1)⟩⟩
         ·replace c84 := Bool.eq_false_iff.mpr c84
          subst c84
          have H1 : (laws_FnNames.j2 kj65 t526 t527 t528 t537 t538 false) = some r := by rw [if_neg (show ¬ (false = true) by decide)] at H; exact H
          clear H
          have H := H1
          clear H1
          have H' := Aside0.mk H
          clear H
          go_wp2_with (first | ((with_reducible refine gate_callee (f := 13) rfl ?_); refine goesL_ (some 154) rfl rfl Tryz.func13 (by kernel_rfl) rfl #[.string t535, .string t536] rfl (by (try simp only [List.map_toArray, List.map_cons, List.map_nil]); first | done | rfl) ?_; (with_reducible refine (impl_Extends.calls kj65 t535 t536 false _ ?side1 A83.out).mono ?_); (case side1 => exact LaidW.below HL0.out (by repeat (first | exact HB.out | apply below_alloc | apply pw_below_drewN | apply below_drew1))); rintro e w95 ⟨rfl, hb⟩; refine ⟨_, rfl, ?_⟩; have n0_ := Aside0.mk (Kd.S_below (by (with_reducible repeat (first | apply Kd.S_alloc | apply Kd.S_drewN | apply Kd.S_drew)); exact HO_4.out) hb); have n1_ := Aside0.mk (below_step (by repeat (first | exact HB.out | apply below_alloc | apply pw_below_drewN | apply below_drew1)) hb); clear HO_4; clear HB; have HO_4 := n0_; have HB := n1_; clear n0_ n1_; (try clear hb)))
          go_meet
          case rel => exact ⟨_, (false), (by first | rfl | (simp; done) | (simp [*]; done)), H', ⟨by have := HJ10.out; have := HJ65.out; first | omega | exact Nat.le_refl _⟩, ⟨by (with_reducible repeat (first | apply Kd.S_alloc | apply Kd.S_drewN | apply Kd.S_drew)); exact HO_4.out⟩, ⟨by repeat (first | exact HB.out | apply below_alloc | apply pw_below_drewN | apply below_drew1)⟩⟩
        case rest =>
         clear HC82
         try clear c1
         try clear c2
         try clear p2
         try clear c3
         try clear c4
         try clear c5
         try clear c6
         try clear p6
         try clear c7
         try clear c8
         try clear c9
         try clear c10
         try clear c11
         try clear c13
         try clear c20
         try clear c20b0
         try clear c20b1
         try clear c20b2
         try clear c21
         try clear c21b0
         try clear c21b1
         try clear c21b2
         try clear c23
         try clear c23b0
         try clear c23b1
         try clear c23b2
         try clear c26
         try clear c26b0
         try clear c26b1
         try clear c26b2
         try clear c29
         try clear c29b0
         try clear c29b1
         try clear c29b2
         try clear c31
         try clear c31b0
         try clear c31b1
         try clear c34
         try clear c34b0
         try clear c34b1
         try clear c37
         try clear c37b0
         try clear c37b1
         try clear c40
         try clear c40b0
         try clear c40b1
         try clear p64
         try clear c65
         try clear c67
         try clear c67b0
         try clear c67b1
         try clear c69
         try clear c69b0
         try clear c69b1
         try clear c71
         try clear c71b0
         try clear c71b1
         try clear c74
         try clear c74b0
         try clear c74b1
         try clear c81
         try clear c84
         try clear c87
         try clear c87b0
         try clear p2
         try clear p6
         try clear p64
         obtain ⟨kq, x168_81, rfl, HA, HJ81, HO_4, HB⟩ := hcut
         cases kq with
         | zero => exact absurd HA.out (by simp [laws_FnNames.j2])
         | succ kj81 =>
          have H := HA.out
          clear HA
          simp only [laws_FnNames.j2] at H
          by_cases c96 : x168_81 = true
          ·subst c96
           have H1 : (some false) = some r := by rw [if_pos rfl] at H; exact H
           clear H
           have H := H1
           clear H1
           exact absurd ((Option.some.inj H).trans HRT.out) (by decide)
          ·replace c96 := Bool.eq_false_iff.mpr c96
           subst c96
           have H1 : (if t528 = true then (laws_FnNames.l0 kj81 t526 t527 t537 t538 (⟨#[]⟩ : ByteArray) 0) else (if (t527.length : Int) = 0 then ((impl_Height.f kj81 t526).bind fun t575 => (some (t575 == (-1)))) else (some false))) = some r := by rw [if_neg (show ¬ (false = true) by decide)] at H; exact H
           clear H
           have H := H1
           clear H1
           by_cases c97 : t528 = true
           ·subst c97
            have H1 : (laws_FnNames.l0 kj81 t526 t527 t537 t538 (⟨#[]⟩ : ByteArray) 0) = some r := by rw [if_pos rfl] at H; exact H
            clear H
            have H := H1
            clear H1
            have H' := Aside0.mk H
            clear H
            go_wp2
            go_loopg [16, 17] kj81 (fun kq v16 v17 w' => ∃ (x16_4 : ByteArray) (x17_4 : Int), v16 = .string x16_4 ∧ v17 = .int .i64 x17_4 ∧ Aside0 (laws_FnNames.l0 kq t526 t527 t537 t538 x16_4 x17_4 = some r) ∧ Aside0 (kq ≤ kj81) ∧ Aside0 (Kd.S k41 41 w' w.heap.size (fun _ => True) v529 t527) ∧ Aside0 (Below w.heap.size w w'))
            case atStart => exact ⟨((⟨#[]⟩ : ByteArray)), (0), (by first | rfl | (simp; done) | (simp [*]; done)), (by first | rfl | (simp; done) | (simp [*]; done)), H', ⟨Nat.le_refl _⟩, ⟨by (with_reducible repeat (first | apply Kd.S_alloc | apply Kd.S_drewN | apply Kd.S_drew)); exact HO_4.out⟩, ⟨by repeat (first | exact HB.out | apply below_alloc | apply pw_below_drewN | apply below_drew1)⟩⟩
            case round =>
             clear H'
             try clear c1
             try clear c2
             try clear p2
             try clear c3
             try clear c4
             try clear c5
             try clear c6
             try clear p6
             try clear c7
             try clear c8
             try clear c9
             try clear c10
             try clear c11
             try clear c13
             try clear c20
             try clear c20b0
             try clear c20b1
             try clear c20b2
             try clear c21
             try clear c21b0
             try clear c21b1
             try clear c21b2
             try clear c23
             try clear c23b0
             try clear c23b1
             try clear c23b2
             try clear c26
             try clear c26b0
             try clear c26b1
             try clear c26b2
             try clear c29
             try clear c29b0
             try clear c29b1
             try clear c29b2
             try clear c31
             try clear c31b0
             try clear c31b1
             try clear c34
             try clear c34b0
             try clear c34b1
             try clear c37
             try clear c37b0
             try clear c37b1
             try clear c40
             try clear c40b0
             try clear c40b1
             try clear p64
             try clear c65
             try clear c67
             try clear c67b0
             try clear c67b1
             try clear c69
             try clear c69b0
             try clear c69b1
             try clear c71
             try clear c71b0
             try clear c71b1
             try clear c74
             try clear c74b0
             try clear c74b1
             try clear c81
             try clear c84
             try clear c87
             try clear c87b0
             try clear c96
             try clear c97
             try clear p2
             try clear p6
             try clear p64
             obtain ⟨x16_4, x17_4, rfl, rfl, HA, HK4, HO_4, HB⟩ := hrel
             cases gk with
             | zero => exact absurd HA.out (by simp [laws_FnNames.l0])
             | succ k4 =>
              have H := HA.out
              clear HA
              simp only [laws_FnNames.l0] at H
              by_cases c98 : x17_4 < (t527.length : Int)
              ·rw [if_pos c98] at H
               have c98b0 : decide (x17_4 < (t527.length : Int)) = true := decide_eq_true c98
               clear c98
               by_cases c99 : 0 ≤ x17_4
               ·rw [if_pos c99] at H
                have c99b0 : decide (0 ≤ x17_4) = true := decide_eq_true c99
                clear c99
                replace H := Option.bind_eq_some_iff.mp H
                obtain ⟨t578, A1000, H⟩ := H
                replace H : (laws_FnNames.l0 k4 t526 t527 t537 t538 t578 (wrap64 (x17_4 + 1))) = some r := H
                have A100 := Aside0.mk A1000
                clear A1000
                have H' := Aside0.mk H
                clear H
                obtain ⟨Ao101, co101, eo101⟩ := Kd.S_slice HO_4.out
                subst eo101
                try go_wp2
                have n0_ := Aside0.mk (Kd.S_drew HO_4.out)
                have n1_ := Aside0.mk (below_drew1 HB.out)
                clear HO_4
                clear HB
                have HO_4 := n0_
                have HB := n1_
                clear n0_ n1_
                have p576 : 0 ≤ (x17_4 : Int) := of_decide_eq_true (by first | (with_reducible assumption) | assumption)
                have q576 : x17_4 < (t527.length : Int) := of_decide_eq_true (by first | (with_reducible assumption) | assumption)
                obtain ⟨ad576, A576_1, c576_1, e576, hx576_0, hx576_1, hl576_1, hi576_1⟩ := at_T41 (Kd.S_reads' HO_4.out).2.2 x17_4 p576 q576
                cases e576
                obtain ⟨ce576, hce576, hMe576, hcc576⟩ := Kd.S_get HO_4.out z41 x17_4 p576 (by first | exact q576 | exact of_decide_eq_true (by first | (with_reducible assumption) | assumption) | (have e_ := (Kd.S_reads' HO_4.out).1; omega))
                obtain ⟨ve576_1, rfl, ge576_1⟩ := k41_openM hMe576
                have hv576_1 := hcc576 1 _ rfl
                rw [add_field _ _ 1 (by omega)] at hv576_1
                replace hv576_1 := Option.some.inj (hv576_1.symm.trans hx576_1)
                rw [hv576_1] at ge576_1
                have HL576_1 := Aside0.mk (show Kd.R k60 60 _ _ _ _ ((rd_T41 t527 x17_4).f1) from ge576_1)
                clear hv576_1 ge576_1
                clear hcc576 hce576
                have HR576_1 := Aside0.mk hi576_1
                have HC576_1 := Aside0.mk hl576_1
                clear hi576_1 hl576_1
                replace p576 := eq_true p576
                replace q576 := eq_true q576
                have p577 : 0 ≤ (x17_4 : Int) := of_decide_eq_true (by first | (with_reducible assumption) | assumption)
                have q577 : x17_4 < (t527.length : Int) := of_decide_eq_true (by first | (with_reducible assumption) | assumption)
                obtain ⟨ad577, A577_1, c577_1, e577, hx577_0, hx577_1, hl577_1, hi577_1⟩ := at_T41 (Kd.S_reads' HO_4.out).2.2 x17_4 p577 q577
                obtain rfl : ad576 = ad577 := (by injection e577)
                obtain ⟨ce577, hce577, hMe577, hcc577⟩ := Kd.S_get HO_4.out z41 x17_4 p577 (by first | exact q577 | exact of_decide_eq_true (by first | (with_reducible assumption) | assumption) | (have e_ := (Kd.S_reads' HO_4.out).1; omega))
                obtain ⟨ve577_1, rfl, ge577_1⟩ := k41_openM hMe577
                have hv577_1 := hcc577 1 _ rfl
                rw [add_field _ _ 1 (by omega)] at hv577_1
                replace hv577_1 := Option.some.inj (hv577_1.symm.trans hx577_1)
                rw [hv577_1] at ge577_1
                have HL577_1 := Aside0.mk (show Kd.R k60 60 _ _ _ _ ((rd_T41 t527 x17_4).f1) from ge577_1)
                clear hv577_1 ge577_1
                clear hcc577 hce577
                have HR577_1 := Aside0.mk hi577_1
                have HC577_1 := Aside0.mk hl577_1
                clear hi577_1 hl577_1
                replace p577 := eq_true p577
                replace q577 := eq_true q577
                have ea_ := Option.some.inj (hx576_1.symm.trans hx577_1)
                injection ea_ with ea_ en_ ec_
                subst ea_
                subst ec_
                clear en_
                refine start_ (n := 13) (S := fun w' => w'.cell? (ad576.add ((x17_4).toNat * 2)) = some (.int .i64 ((rd_T41 t527 x17_4).f0)) ∧ w'.cell? ⟨(ad576.add ((x17_4).toNat * 2)).block, (ad576.add ((x17_4).toNat * 2)).off + 1, none⟩ = some (.slice A576_1 ((rd_T41 t527 x17_4).f1).length c576_1) ∧ w'.cell? (ad576.add ((x17_4).toNat * 2)) = some (.int .i64 ((rd_T41 t527 x17_4).f0)) ∧ w'.cell? ⟨(ad576.add ((x17_4).toNat * 2)).block, (ad576.add ((x17_4).toNat * 2)).off + 1, none⟩ = some (.slice A576_1 ((rd_T41 t527 x17_4).f1).length c576_1)) (ds := []) #[false, false, false, false, false, false, false, false, false, false, false, false, false] (by kernel_rfl) rfl rfl ⟨hx576_0, hx576_1, hx577_0, hx577_1⟩ (fun hHeld => ?_); refine with_tabW laws_FnNames.tab22 laws_FnNames.bits22 (fun HT_ HW_ => ?_)
                generalize wr.drew = w102 at HO_4 HB HL576_1 HL577_1 HR576_1 HR577_1 hx576_0 hx576_1 hx577_0 hx577_1 hHeld ⊢
                refine pure_ (i := 0) (N := some 185) (v := ?_) (a' := ?_) #[true, false, false, false, false, false, false, false, false, false, false, false, false] rfl rfl (any_of HT_.out (by kernel_rfl)) (fun _ _ _ h => h) (Or.inl ⟨by rfl, ?_⟩) ?_ ?_
                rotate_left
                ·intro w'
                 go_simp
                 with_reducible rfl
                rotate_left
                ·simp only [Act.put, List.setIfInBounds_toArray, List.set_cons_zero, List.set_cons_succ, i64_w, i32_w]
                 rfl
                refine pure_ (i := 1) (N := some 186) (v := ?_) (a' := ?_) #[true, true, false, false, false, false, false, false, false, false, false, false, false] rfl rfl (any_of HT_.out (by kernel_rfl)) (fun _ _ _ h => h) (Or.inl ⟨by rfl, ?_⟩) ?_ ?_
                rotate_left
                ·intro w'
                 go_simp
                 with_reducible rfl
                rotate_left
                ·simp only [Act.put, List.setIfInBounds_toArray, List.set_cons_zero, List.set_cons_succ, i64_w, i32_w]
                 rfl
                refine pure_ (i := 2) (N := some 187) (v := ?_) (a' := ?_) #[true, true, true, false, false, false, false, false, false, false, false, false, false] rfl rfl (any_of HT_.out (by kernel_rfl)) (fun _ _ _ h => h) (Or.inl ⟨by rfl, ?_⟩) ?_ ?_
                rotate_left
                ·intro w'
                 go_simp
                 with_reducible rfl
                rotate_left
                ·simp only [Act.put, List.setIfInBounds_toArray, List.set_cons_zero, List.set_cons_succ, i64_w, i32_w]
                 rfl
                refine pure_ (i := 3) (N := some 188) (v := ?_) (a' := ?_) #[true, true, true, true, false, false, false, false, false, false, false, false, false] rfl rfl (any_of HT_.out (by kernel_rfl)) (fun _ _ _ h => h) (Or.inl ⟨by rfl, ?_⟩) ?_ ?_
                rotate_left
                ·intro w'
                 go_simp
                 with_reducible rfl
                rotate_left
                ·simp only [Act.put, List.setIfInBounds_toArray, List.set_cons_zero, List.set_cons_succ, i64_w, i32_w]
                 rfl
                refine pure_ (i := 4) (N := some 189) (v := ?_) (a' := ?_) #[true, true, true, true, true, false, false, false, false, false, false, false, false] rfl rfl (any_of HT_.out (by kernel_rfl)) (fun _ _ _ h => h) (Or.inl ⟨by rfl, ?_⟩) ?_ ?_
                rotate_left
                ·intro w'
                 go_simp
                 with_reducible rfl
                rotate_left
                ·simp only [Act.put, List.setIfInBounds_toArray, List.set_cons_zero, List.set_cons_succ, i64_w, i32_w]
                 rfl
                refine pure_ (i := 6) (N := some 191) (v := ?_) (a' := ?_) #[true, true, true, true, true, false, true, false, false, false, false, false, false] rfl rfl (any_of HT_.out (by kernel_rfl)) (fun _ _ _ h => h) (Or.inl ⟨by rfl, ?_⟩) ?_ ?_
                rotate_left
                ·intro w'
                 go_simp
                 with_reducible rfl
                rotate_left
                ·simp only [Act.put, List.setIfInBounds_toArray, List.set_cons_zero, List.set_cons_succ, i64_w, i32_w]
                 rfl
                refine pure_ (i := 7) (N := some 192) (v := ?_) (a' := ?_) #[true, true, true, true, true, false, true, true, false, false, false, false, false] rfl rfl (any_of HT_.out (by kernel_rfl)) (fun _ _ _ h => h) (Or.inl ⟨by rfl, ?_⟩) ?_ ?_
                rotate_left
                ·intro w'
                 go_simp
                 with_reducible rfl
                rotate_left
                ·simp only [Act.put, List.setIfInBounds_toArray, List.set_cons_zero, List.set_cons_succ, i64_w, i32_w]
                 rfl
                refine pure_ (i := 8) (N := some 193) (v := ?_) (a' := ?_) #[true, true, true, true, true, false, true, true, true, false, false, false, false] rfl rfl (any_of HT_.out (by kernel_rfl)) (fun _ _ _ h => h) (Or.inl ⟨by rfl, ?_⟩) ?_ ?_
                rotate_left
                ·intro w'
                 go_simp
                 with_reducible rfl
                rotate_left
                ·simp only [Act.put, List.setIfInBounds_toArray, List.set_cons_zero, List.set_cons_succ, i64_w, i32_w]
                 rfl
                refine pure_ (i := 9) (N := some 194) (v := ?_) (a' := ?_) #[true, true, true, true, true, false, true, true, true, true, false, false, false] rfl rfl (any_of HT_.out (by kernel_rfl)) (fun _ _ _ h => h) (Or.inl ⟨by rfl, ?_⟩) ?_ ?_
                rotate_left
                ·intro w'
                 go_simp
                 with_reducible rfl
                rotate_left
                ·simp only [Act.put, List.setIfInBounds_toArray, List.set_cons_zero, List.set_cons_succ, i64_w, i32_w]
                 rfl
                refine take_ (i := 5) (N := some 190) (v := ?_) (a' := ?_) #[true, true, true, true, true, true, true, true, true, true, false, false, false] rfl rfl (take_ofW HT_.out HW_.out (by kernel_rfl)) (fun _ _ _ h => h) (Or.inl ⟨by rfl, ?_⟩) hHeld ?_ ?_
                rotate_left
                ·rintro w' ⟨s0, s1, s2, s3⟩
                 go_simp
                 with_reducible rfl
                rotate_left
                ·simp only [Act.put, List.setIfInBounds_toArray, List.set_cons_zero, List.set_cons_succ, i64_w, i32_w]
                 rfl
                refine take_ (i := 10) (N := some 195) (v := ?_) (a' := ?_) #[true, true, true, true, true, true, true, true, true, true, true, false, false] rfl rfl (take_ofW HT_.out HW_.out (by kernel_rfl)) (fun _ _ _ h => h) (Or.inl ⟨by rfl, ?_⟩) hHeld ?_ ?_
                rotate_left
                ·rintro w' ⟨s0, s1, s2, s3⟩
                 go_simp
                 with_reducible rfl
                rotate_left
                ·simp only [Act.put, List.setIfInBounds_toArray, List.set_cons_zero, List.set_cons_succ, i64_w, i32_w]
                 rfl
                refine one_ (i := 11) (N := some 196) #[true, true, true, true, true, true, true, true, true, true, true, true, false] rfl rfl (one_of HT_.out (by kernel_rfl)) (by decide) (fun K hK => ?_)
                refine goes_ Tryz.func11 (by kernel_rfl) rfl #[.string x16_4, .int .i64 ((rd_T41 t527 x17_4).f0), .slice A576_1 ((rd_T41 t527 x17_4).f1).length c576_1] (by rfl) rfl rfl (by (try simp only [List.map_toArray, List.map_cons, List.map_nil]); first | done | rfl) ?_
                with_reducible refine (impl_NameOf.calls k4 x16_4 ((rd_T41 t527 x17_4).f0) _ _ ((rd_T41 t527 x17_4).f1) t578 _ ?side1 ?side2 ?side3 A100.out).mono ?_
                (case side1 => repeat (first | exact (by repeat (first | (with_reducible exact HR577_1.out) | (with_reducible refine Kd.C_alloc ?_ _) | (with_reducible refine Kd.C_drewN ?_ _) | (with_reducible refine Kd.C_drew ?_) | exact HR577_1.out)) | (with_reducible refine Kd.C_alloc ?_ _) | (with_reducible refine Kd.C_drewN ?_ _) | (with_reducible refine Kd.C_drew ?_)))
                (case side2 => exact HC577_1.out)
                (case side3 => exact LaidW.below HL0.out (by repeat (first | exact HB.out | apply below_alloc | apply pw_below_drewN | apply below_drew1)))
                rintro e w103 ⟨rfl, hb⟩
                have HS0_ := (hb.cell (World.block_lt_of_cell? _ _ (hHeld.1))).trans (hHeld.1)
                have HS1_ := (hb.cell (World.block_lt_of_cell? _ _ (hHeld.2.1))).trans (hHeld.2.1)
                have HS2_ := (hb.cell (World.block_lt_of_cell? _ _ (hHeld.2.2.1))).trans (hHeld.2.2.1)
                have HS3_ := (hb.cell (World.block_lt_of_cell? _ _ (hHeld.2.2.2))).trans (hHeld.2.2.2)
                refine ⟨_, rfl, ?_⟩
                have n0_ := Aside0.mk (Kd.S_below (by (with_reducible repeat (first | apply Kd.S_alloc | apply Kd.S_drewN | apply Kd.S_drew)); exact HO_4.out) hb)
                have n1_ := Aside0.mk (Kd.R_below (by (with_reducible repeat (first | apply Kd.R_alloc | apply Kd.R_drewN | apply Kd.R_drew)); exact HL576_1.out) hb)
                have n2_ := Aside0.mk (Kd.R_below (by (with_reducible repeat (first | apply Kd.R_alloc | apply Kd.R_drewN | apply Kd.R_drew)); exact HL577_1.out) hb)
                have n3_ := Aside0.mk (Kd.C_below (by repeat (first | (with_reducible exact HR576_1.out) | (with_reducible refine Kd.C_alloc ?_ _) | (with_reducible refine Kd.C_drewN ?_ _) | (with_reducible refine Kd.C_drew ?_) | exact HR576_1.out)) hb)
                have n4_ := Aside0.mk (Kd.C_below (by repeat (first | (with_reducible exact HR577_1.out) | (with_reducible refine Kd.C_alloc ?_ _) | (with_reducible refine Kd.C_drewN ?_ _) | (with_reducible refine Kd.C_drew ?_) | exact HR577_1.out)) hb)
                have n5_ := Aside0.mk (below_step (by repeat (first | exact HB.out | apply below_alloc | apply pw_below_drewN | apply below_drew1)) hb)
                clear HO_4
                clear HL576_1
                clear HL577_1
                clear HR576_1
                clear HR577_1
                clear HB
                have HO_4 := n0_
                have HL576_1 := n1_
                have HL577_1 := n2_
                have HR576_1 := n3_
                have HR577_1 := n4_
                have HB := n5_
                clear n0_ n1_ n2_ n3_ n4_ n5_
                (try clear hb)
                (try clear hb2)
                (try clear hk)
                (try clear hi)
                refine hK.out _ _ ⟨HS0_, HS1_, HS2_, HS3_⟩ (fun hHeld => ?_)
                clear hK K
                refine norm_ (a' := ?_) ?_ ?_
                rotate_left
                ·show Act.put _ (some 196) _ = _
                 simp only [Act.put, List.setIfInBounds_toArray, List.set_cons_zero, List.set_cons_succ, i64_w, i32_w]
                 rfl
                refine pure_ (i := 12) (N := some 16) (v := ?_) (a' := ?_) #[true, true, true, true, true, true, true, true, true, true, true, true, true] rfl rfl (any_of HT_.out (by kernel_rfl)) (fun _ _ _ h => h) (Or.inl ⟨by rfl, ?_⟩) ?_ ?_
                rotate_left
                ·intro w'
                 go_simp
                 with_reducible rfl
                rotate_left
                ·simp only [Act.put, List.setIfInBounds_toArray, List.set_cons_zero, List.set_cons_succ, i64_w, i32_w]
                 rfl
                refine done_ (done_of HT_.out (by kernel_rfl)) ?_
                try go_wp2
                go_roundg k4
                case measure => have := HJ10.out; have := HJ65.out; have := HJ81.out; have := HK4.out; omega
                case rel => exact ⟨(t578), (wrap64 (x17_4 + 1)), (by first | rfl | (simp; done) | (simp [*]; done)), (by first | rfl | (simp; done) | (simp [*]; done)), H', ⟨by have := HJ10.out; have := HJ65.out; have := HJ81.out; have := HK4.out; omega⟩, ⟨by (with_reducible repeat (first | apply Kd.S_alloc | apply Kd.S_drewN | apply Kd.S_drew)); exact HO_4.out⟩, ⟨by repeat (first | exact HB.out | apply below_alloc | apply pw_below_drewN | apply below_drew1)⟩⟩
               ·rw [if_neg c99] at H
                exact absurd H (by simp)
              ·rw [if_neg c98] at H
               have c98b0 : decide (x17_4 < (t527.length : Int)) = false := decide_eq_false c98
               clear c98
               by_cases c104 : x16_4.toList = t526.toList
               ·rw [if_pos c104] at H
                have c104b0 : (x16_4.toList == t526.toList) = true := beq_iff_eq.mpr c104
                have c104b1 : (x16_4.toList != t526.toList) = false := bne_eq_false_iff_eq.mpr c104
                clear c104
                replace H := Option.bind_eq_some_iff.mp H
                obtain ⟨t579, A1050, H⟩ := H
                replace H : ((impl_Meets.f k4 t538 t537).bind fun t580 => (if (t579 == t580) = true then ((impl_UpOf.f k4 t526).bind fun t581 => ((impl_Extends.f k4 t526 t581).bind fun t582 => (some t582))) else (some false))) = some r := H
                have A105 := Aside0.mk A1050
                clear A1050
                replace H := Option.bind_eq_some_iff.mp H
                obtain ⟨t580, A1060, H⟩ := H
                replace H : (if (t579 == t580) = true then ((impl_UpOf.f k4 t526).bind fun t581 => ((impl_Extends.f k4 t526 t581).bind fun t582 => (some t582))) else (some false)) = some r := H
                have A106 := Aside0.mk A1060
                clear A1060
                by_cases c107 : (t579 == t580) = true
                ·rw [if_pos c107] at H
                 have c107b0 : (t579 == t580) = true := c107
                 (try (have c107b1 : decide (t579 = t580) = true := by simpa using c107))
                 (try (have c107b2 : (t579 == t580) = true := by simpa using c107))
                 clear c107
                 replace H := Option.bind_eq_some_iff.mp H
                 obtain ⟨t581, A1080, H⟩ := H
                 replace H : ((impl_Extends.f k4 t526 t581).bind fun t582 => (some t582)) = some r := H
                 have A108 := Aside0.mk A1080
                 clear A1080
                 replace H := Option.bind_eq_some_iff.mp H
                 obtain ⟨t582, A1090, H⟩ := H
                 replace H : (some t582) = some r := H
                 have A109 := Aside0.mk A1090
                 clear A1090
                 obtain rfl := Option.some.inj H
                 obtain ⟨Ao110, co110, eo110⟩ := Kd.S_slice HO_4.out
                 subst eo110
                 go_wp2_with (first | (go_at_call 15; (with_reducible refine (impl_Meets.calls k4 t537 t538 t579 _ ?side1 A105.out).mono ?_); (case side1 => exact LaidW.below HL0.out (by repeat (first | exact HB.out | apply below_alloc | apply pw_below_drewN | apply below_drew1))); rintro e w111 ⟨rfl, hb⟩; have n0_ := Aside0.mk (Kd.S_below (by (with_reducible repeat (first | apply Kd.S_alloc | apply Kd.S_drewN | apply Kd.S_drew)); exact HO_4.out) hb); have n1_ := Aside0.mk (below_step (by repeat (first | exact HB.out | apply below_alloc | apply pw_below_drewN | apply below_drew1)) hb); clear HO_4; clear HB; have HO_4 := n0_; have HB := n1_; clear n0_ n1_; (try clear hb)) | (go_at_call 15; (with_reducible refine (impl_Meets.calls k4 t538 t537 t580 _ ?side1 A106.out).mono ?_); (case side1 => exact LaidW.below HL0.out (by repeat (first | exact HB.out | apply below_alloc | apply pw_below_drewN | apply below_drew1))); rintro e w112 ⟨rfl, hb⟩; have n0_ := Aside0.mk (Kd.S_below (by (with_reducible repeat (first | apply Kd.S_alloc | apply Kd.S_drewN | apply Kd.S_drew)); exact HO_4.out) hb); have n1_ := Aside0.mk (below_step (by repeat (first | exact HB.out | apply below_alloc | apply pw_below_drewN | apply below_drew1)) hb); clear HO_4; clear HB; have HO_4 := n0_; have HB := n1_; clear n0_ n1_; (try clear hb)) | (go_at_call 20; (with_reducible refine (impl_UpOf.calls k4 t526 t581 _ ?side1 A108.out).mono ?_); (case side1 => exact LaidW.below HL0.out (by repeat (first | exact HB.out | apply below_alloc | apply pw_below_drewN | apply below_drew1))); rintro e w113 ⟨rfl, hb⟩; have n0_ := Aside0.mk (Kd.S_below (by (with_reducible repeat (first | apply Kd.S_alloc | apply Kd.S_drewN | apply Kd.S_drew)); exact HO_4.out) hb); have n1_ := Aside0.mk (below_step (by repeat (first | exact HB.out | apply below_alloc | apply pw_below_drewN | apply below_drew1)) hb); clear HO_4; clear HB; have HO_4 := n0_; have HB := n1_; clear n0_ n1_; (try clear hb)) | (go_at_call 13; (with_reducible refine (impl_Extends.calls k4 t526 t581 t582 _ ?side1 A109.out).mono ?_); (case side1 => exact LaidW.below HL0.out (by repeat (first | exact HB.out | apply below_alloc | apply pw_below_drewN | apply below_drew1))); rintro e w114 ⟨rfl, hb⟩; have n0_ := Aside0.mk (Kd.S_below (by (with_reducible repeat (first | apply Kd.S_alloc | apply Kd.S_drewN | apply Kd.S_drew)); exact HO_4.out) hb); have n1_ := Aside0.mk (below_step (by repeat (first | exact HB.out | apply below_alloc | apply pw_below_drewN | apply below_drew1)) hb); clear HO_4; clear HB; have HO_4 := n0_; have HB := n1_; clear n0_ n1_; (try clear hb)))
                 go_ret
                 exact ⟨by first | rfl | (simp [*] <;> rfl), by repeat (first | exact HB.out | apply below_alloc | apply pw_below_drewN | apply below_drew1)⟩
                ·rw [if_neg c107] at H
                 have c107b0 : (t579 == t580) = false := by simpa using c107
                 (try (have c107b1 : decide (t579 = t580) = false := by simpa using c107))
                 (try (have c107b2 : (t579 == t580) = false := by simpa using c107))
                 (try (have c107b3 : ¬ (t579 = t580) := by simpa using c107))
                 clear c107
                 exact absurd ((Option.some.inj H).trans HRT.out) (by decide)
               ·rw [if_neg c104] at H
                have c104b0 : (x16_4.toList == t526.toList) = false := beq_eq_false_iff_ne.mpr c104
                have c104b1 : (x16_4.toList != t526.toList) = true := bne_iff_ne.mpr c104
                exact absurd ((Option.some.inj H).trans HRT.out) (by decide)
           ·replace c97 := Bool.eq_false_iff.mpr c97
            subst c97
            have H1 : (if (t527.length : Int) = 0 then ((impl_Height.f kj81 t526).bind fun t575 => (some (t575 == (-1)))) else (some false)) = some r := by rw [if_neg (show ¬ (false = true) by decide)] at H; exact H
            clear H
            have H := H1
            clear H1
            by_cases c115 : (t527.length : Int) = 0
            ·rw [if_pos c115] at H
             have c115b0 : ((t527.length : Int) == 0) = true := beq_iff_eq.mpr c115
             have c115b1 : ((t527.length : Int) != 0) = false := bne_eq_false_iff_eq.mpr c115
             clear c115
             replace H := Option.bind_eq_some_iff.mp H
             obtain ⟨t575, A1160, H⟩ := H
             replace H : (some (t575 == (-1))) = some r := H
             have A116 := Aside0.mk A1160
             clear A1160
             obtain rfl := Option.some.inj H
             obtain ⟨Ao117, co117, eo117⟩ := Kd.S_slice HO_4.out
             subst eo117
             go_wp2_with (first | (go_at_call 18; (with_reducible refine (impl_Height.calls kj81 t526 t575 _ ?side1 A116.out).mono ?_); (case side1 => exact LaidW.below HL0.out (by repeat (first | exact HB.out | apply below_alloc | apply pw_below_drewN | apply below_drew1))); rintro e w118 ⟨rfl, hb⟩; have n0_ := Aside0.mk (Kd.S_below (by (with_reducible repeat (first | apply Kd.S_alloc | apply Kd.S_drewN | apply Kd.S_drew)); exact HO_4.out) hb); have n1_ := Aside0.mk (below_step (by repeat (first | exact HB.out | apply below_alloc | apply pw_below_drewN | apply below_drew1)) hb); clear HO_4; clear HB; have HO_4 := n0_; have HB := n1_; clear n0_ n1_; (try clear hb)))
             go_ret
             exact ⟨by first | rfl | (simp [*] <;> rfl), by repeat (first | exact HB.out | apply below_alloc | apply pw_below_drewN | apply below_drew1)⟩
            ·rw [if_neg c115] at H
             have c115b0 : ((t527.length : Int) == 0) = false := beq_eq_false_iff_ne.mpr c115
             have c115b1 : ((t527.length : Int) != 0) = true := bne_iff_ne.mpr c115
             have c115b2 : ¬ (t527 = []) := fun h_ => c115 (by rw [h_]; rfl)
             exact absurd ((Option.some.inj H).trans HRT.out) (by decide)

end Go.Proofs.YtbecffgalndagaaGreatDoor.PFnNames
