/- Walks of the functions that a law of seat YtbecffgalndagaaDoor reaches, each against a Lean function, printed by this session's wip/myprint.py; no condition of their own. -/
import Derived.Test.YtbecffgalndagaaDoorPFnTxsx0
import Derived.Test.YtbecffgalndagaaDoorPFnTxsx1
import Derived.Test.YtbecffgalndagaaDoorPFnTxsx2
import Derived.Test.YtbecffgalndagaaDoorPFnTxsx3
import Derived.Test.YtbecffgalndagaaDoorPFnTxsx4
import Derived.Test.YtbecffgalndagaaDoorPFnTxsx5
import Derived.Test.YtbecffgalndagaaDoorPFnTxsx6
import Derived.Test.YtbecffgalndagaaDoorPFnTxsx7
namespace Go.Proofs.YtbecffgalndagaaDoor.PFnTxs
open Go.RowKit Go.Proofs.YtbecffgalndagaaDoorW.PrintWords Go.Proofs.YtbecffgalndagaaDoorW.PrintLast Go.Proofs.YtbecffgalndagaaDoorW.PrintMore
attribute [local go_sem] max2_int min2_int max_two min_two max_three min_three max_four min_four   -- for this text's walks alone
set_option linter.unusedVariables false
set_option linter.unusedSimpArgs false

attribute [local go_sem high] eqA44
/-! ### laws_FnTxs: function 13 -/
mutual
def laws_FnTxs.j0 : Nat → ByteArray → ByteArray → Bool → List (S44) → ByteArray → ByteArray → List (S44) → Bool → Bool → Int → Int → Int → Int → Int → Int → Int → Int → Option (Bool)
  | 0, _, _, _, _, _, _, _, _, _, _, _, _, _, _, _, _, _ => none
  | k + 1, x4, x5, x7, x10, x11, x12, x13, x14, x97, x384000, x384001, x384002, x384003, x392000, x392001, x392002, x392003 => if x97 = true then (some false) else (if x7 = true then ((impl_TxText.f x392000 x392001 x392002 x392003).bind fun t421 => (if t421.toList = x5.toList then (if x14 = true then ((impl_TxsText.f k x13).bind fun t422 => (laws_FnTxs.j1 k x4 x10 x11 (t422.toList != x12.toList) x384000 x384001 x384002 x384003)) else (laws_FnTxs.j1 k x4 x10 x11 false x384000 x384001 x384002 x384003)) else (none))) else (if x14 = true then ((impl_TxsText.f k x13).bind fun t423 => (laws_FnTxs.j1 k x4 x10 x11 (t423.toList != x12.toList) x384000 x384001 x384002 x384003)) else (laws_FnTxs.j1 k x4 x10 x11 false x384000 x384001 x384002 x384003)))
def laws_FnTxs.j1 : Nat → ByteArray → List (S44) → ByteArray → Bool → Int → Int → Int → Int → Option (Bool)
  | 0, _, _, _, _, _, _, _, _ => none
  | k + 1, x4, x10, x11, x113, x384000, x384001, x384002, x384003 => if x113 = true then (some false) else ((impl_TxOk.f x384000 x384001 x384002 x384003).bind fun t424 => (if t424 = true then ((impl_TxOf.f k x4).bind fun bt425 => (if bt425.2.2.2.2 = true then (if (!(bt425.1 == x384000) || (!(bt425.2.1 == x384001) || (!(bt425.2.2.1 == x384002) || (!(bt425.2.2.2.1 == x384003))))) = true then (some false) else (laws_FnTxs.j2 k x10 x11)) else (some false))) else (laws_FnTxs.j2 k x10 x11)))
def laws_FnTxs.j2 : Nat → List (S44) → ByteArray → Option (Bool)
  | 0, _, _ => none
  | k + 1, x10, x11 => laws_FnTxs.l0 k x10 x11 true 0
def laws_FnTxs.l0 : Nat → List (S44) → ByteArray → Bool → Int → Option (Bool)
  | 0, _, _, _, _ => none
  | k + 1, x10, x11, x20, x21 => if x21 < (x10.length : Int) then (if x20 = true then (if 0 ≤ x21 then ((impl_TxOk.f ((rd_T44 x10 x21).f0) ((rd_T44 x10 x21).f1) ((rd_T44 x10 x21).f2) ((rd_T44 x10 x21).f3)).bind fun t432 => (laws_FnTxs.l0 k x10 x11 t432 (wrap64 (x21 + 1)))) else (none)) else (laws_FnTxs.l0 k x10 x11 false (wrap64 (x21 + 1)))) else (if x20 = true then ((impl_TxsOf.f k x11).bind fun bt433 => (if bt433.2 = true then ((laws_sameTxs.f k bt433.1 x10).bind fun t437 => (some t437)) else (some false))) else (some (x11.toList == ([] : List UInt8))))
end
def laws_FnTxs.f (k : Nat) (l0 : List Int) : Option (Bool) := (laws_big.f l0).bind fun t378 => (if t378 = true then (some true) else ((spec_DrawTxText.f k l0).bind fun bt379 => ((impl_TxText.f bt379.1 bt379.2.1 bt379.2.2.1 bt379.2.2.2).bind fun t384 => ((spec_DrawTxOf.f k l0).bind fun t385 => ((impl_TxOf.f k t385).bind fun bt386 => ((spec_TxOf.f k t385).bind fun bt392 => ((spec_DrawTxsText.f k l0).bind fun t398 => ((impl_TxsText.f k t398).bind fun t401 => ((spec_DrawTxsOf.f k l0).bind fun t402 => ((impl_TxsOf.f k t402).bind fun bt403 => ((spec_TxsOf.f k t402).bind fun bt407 => ((spec_DrawTxOk.f k l0).bind fun bt411 => ((spec_TxText.f k bt379.1 bt379.2.1 bt379.2.2.1 bt379.2.2.2).bind fun t416 => (if t384.toList = t416.toList then (if (bt386.2.2.2.2 != bt392.2.2.2.2) = true then (none) else (if (!(bt386.1 == bt392.1) || (!(bt386.2.1 == bt392.2.1) || (!(bt386.2.2.1 == bt392.2.2.1) || (!(bt386.2.2.2.1 == bt392.2.2.2.1))))) = true then (none) else ((spec_TxsText.f k t398).bind fun t417 => (if t401.toList = t417.toList then (if (bt403.2 != bt407.2) = true then (none) else ((laws_sameTxs.f k bt403.1 bt407.1).bind fun t418 => (if t418 = true then ((impl_TxOk.f bt411.1 bt411.2.1 bt411.2.2.1 bt411.2.2.2).bind fun t419 => ((spec_TxOk.f bt411.1 bt411.2.1 bt411.2.2.1 bt411.2.2.2).bind fun t420 => (laws_FnTxs.j0 k t384 t385 bt386.2.2.2.2 t398 t401 t402 bt403.1 bt403.2 (t419 != t420) bt379.1 bt379.2.1 bt379.2.2.1 bt379.2.2.2 bt386.1 bt386.2.1 bt386.2.2.1 bt386.2.2.2.1))) else (none)))) else (none))))) else (none)))))))))))))))
theorem laws_FnTxs.mono_l : ∀ k, (∀ y0 y1 y2 y3 y4 y5 y6 y7 y8 y9 y10 y11 y12 y13 y14 y15 y16, LeO (laws_FnTxs.j0 k y0 y1 y2 y3 y4 y5 y6 y7 y8 y9 y10 y11 y12 y13 y14 y15 y16) (laws_FnTxs.j0 (k + 1) y0 y1 y2 y3 y4 y5 y6 y7 y8 y9 y10 y11 y12 y13 y14 y15 y16)) ∧ (∀ y0 y1 y2 y3 y4 y5 y6 y7, LeO (laws_FnTxs.j1 k y0 y1 y2 y3 y4 y5 y6 y7) (laws_FnTxs.j1 (k + 1) y0 y1 y2 y3 y4 y5 y6 y7)) ∧ (∀ y0 y1, LeO (laws_FnTxs.j2 k y0 y1) (laws_FnTxs.j2 (k + 1) y0 y1)) ∧ (∀ y0 y1 y2 y3, LeO (laws_FnTxs.l0 k y0 y1 y2 y3) (laws_FnTxs.l0 (k + 1) y0 y1 y2 y3))
  | 0 => ⟨fun _ _ _ _ _ _ _ _ _ _ _ _ _ _ _ _ _ r h => by simp [laws_FnTxs.j0] at h, fun _ _ _ _ _ _ _ _ r h => by simp [laws_FnTxs.j1] at h, fun _ _ r h => by simp [laws_FnTxs.j2] at h, fun _ _ _ _ r h => by simp [laws_FnTxs.l0] at h⟩
  | k + 1 => by
    obtain ⟨ih0, ih1, ih2, ih3⟩ := laws_FnTxs.mono_l k
    refine ⟨?_, ?_, ?_, ?_⟩
    · intro y0 y1 y2 y3 y4 y5 y6 y7 y8 y9 y10 y11 y12 y13 y14 y15 y16
      unfold laws_FnTxs.j0
      repeat' first
      | (with_reducible exact ih0 _ _ _ _ _ _ _ _ _ _ _ _ _ _ _ _ _)
      | (with_reducible exact ih1 _ _ _ _ _ _ _ _)
      | (with_reducible exact ih2 _ _)
      | (with_reducible exact ih3 _ _ _ _)
      | (with_reducible exact impl_TxOf.mono _ _)
      | (with_reducible exact impl_TxsOf.mono _ _)
      | (with_reducible exact impl_TxsText.mono _ _)
      | (with_reducible exact laws_sameTxs.mono _ _ _)
      | (with_reducible exact spec_DrawTxOf.mono _ _)
      | (with_reducible exact spec_DrawTxOk.mono _ _)
      | (with_reducible exact spec_DrawTxText.mono _ _)
      | (with_reducible exact spec_DrawTxsOf.mono _ _)
      | (with_reducible exact spec_DrawTxsText.mono _ _)
      | (with_reducible exact spec_TxOf.mono _ _)
      | (with_reducible exact spec_TxText.mono _ _ _ _ _)
      | (with_reducible exact spec_TxsOf.mono _ _)
      | (with_reducible exact spec_TxsText.mono _ _)
      | (with_reducible exact LeO.refl _)
      | (with_reducible exact LeO.none _)
      | (with_reducible refine LeO.ite ?_ ?_)
      | (with_reducible refine LeO.bind ?_ (fun _ => ?_))
      | exact ih0 _ _ _ _ _ _ _ _ _ _ _ _ _ _ _ _ _
      | exact ih1 _ _ _ _ _ _ _ _
      | exact ih2 _ _
      | exact ih3 _ _ _ _
      | exact impl_TxOf.mono _ _
      | exact impl_TxsOf.mono _ _
      | exact impl_TxsText.mono _ _
      | exact laws_sameTxs.mono _ _ _
      | exact spec_DrawTxOf.mono _ _
      | exact spec_DrawTxOk.mono _ _
      | exact spec_DrawTxText.mono _ _
      | exact spec_DrawTxsOf.mono _ _
      | exact spec_DrawTxsText.mono _ _
      | exact spec_TxOf.mono _ _
      | exact spec_TxText.mono _ _ _ _ _
      | exact spec_TxsOf.mono _ _
      | exact spec_TxsText.mono _ _
      | exact LeO.none _
      | refine LeO.ite ?_ ?_
      | refine LeO.bind ?_ (fun _ => ?_)
    · intro y0 y1 y2 y3 y4 y5 y6 y7
      unfold laws_FnTxs.j1
      repeat' first
      | (with_reducible exact ih0 _ _ _ _ _ _ _ _ _ _ _ _ _ _ _ _ _)
      | (with_reducible exact ih1 _ _ _ _ _ _ _ _)
      | (with_reducible exact ih2 _ _)
      | (with_reducible exact ih3 _ _ _ _)
      | (with_reducible exact impl_TxOf.mono _ _)
      | (with_reducible exact impl_TxsOf.mono _ _)
      | (with_reducible exact impl_TxsText.mono _ _)
      | (with_reducible exact laws_sameTxs.mono _ _ _)
      | (with_reducible exact spec_DrawTxOf.mono _ _)
      | (with_reducible exact spec_DrawTxOk.mono _ _)
      | (with_reducible exact spec_DrawTxText.mono _ _)
      | (with_reducible exact spec_DrawTxsOf.mono _ _)
      | (with_reducible exact spec_DrawTxsText.mono _ _)
      | (with_reducible exact spec_TxOf.mono _ _)
      | (with_reducible exact spec_TxText.mono _ _ _ _ _)
      | (with_reducible exact spec_TxsOf.mono _ _)
      | (with_reducible exact spec_TxsText.mono _ _)
      | (with_reducible exact LeO.refl _)
      | (with_reducible exact LeO.none _)
      | (with_reducible refine LeO.ite ?_ ?_)
      | (with_reducible refine LeO.bind ?_ (fun _ => ?_))
      | exact ih0 _ _ _ _ _ _ _ _ _ _ _ _ _ _ _ _ _
      | exact ih1 _ _ _ _ _ _ _ _
      | exact ih2 _ _
      | exact ih3 _ _ _ _
      | exact impl_TxOf.mono _ _
      | exact impl_TxsOf.mono _ _
      | exact impl_TxsText.mono _ _
      | exact laws_sameTxs.mono _ _ _
      | exact spec_DrawTxOf.mono _ _
      | exact spec_DrawTxOk.mono _ _
      | exact spec_DrawTxText.mono _ _
      | exact spec_DrawTxsOf.mono _ _
      | exact spec_DrawTxsText.mono _ _
      | exact spec_TxOf.mono _ _
      | exact spec_TxText.mono _ _ _ _ _
      | exact spec_TxsOf.mono _ _
      | exact spec_TxsText.mono _ _
      | exact LeO.none _
      | refine LeO.ite ?_ ?_
      | refine LeO.bind ?_ (fun _ => ?_)
    · intro y0 y1
      unfold laws_FnTxs.j2
      repeat' first
      | (with_reducible exact ih0 _ _ _ _ _ _ _ _ _ _ _ _ _ _ _ _ _)
      | (with_reducible exact ih1 _ _ _ _ _ _ _ _)
      | (with_reducible exact ih2 _ _)
      | (with_reducible exact ih3 _ _ _ _)
      | (with_reducible exact impl_TxOf.mono _ _)
      | (with_reducible exact impl_TxsOf.mono _ _)
      | (with_reducible exact impl_TxsText.mono _ _)
      | (with_reducible exact laws_sameTxs.mono _ _ _)
      | (with_reducible exact spec_DrawTxOf.mono _ _)
      | (with_reducible exact spec_DrawTxOk.mono _ _)
      | (with_reducible exact spec_DrawTxText.mono _ _)
      | (with_reducible exact spec_DrawTxsOf.mono _ _)
      | (with_reducible exact spec_DrawTxsText.mono _ _)
      | (with_reducible exact spec_TxOf.mono _ _)
      | (with_reducible exact spec_TxText.mono _ _ _ _ _)
      | (with_reducible exact spec_TxsOf.mono _ _)
      | (with_reducible exact spec_TxsText.mono _ _)
      | (with_reducible exact LeO.refl _)
      | (with_reducible exact LeO.none _)
      | (with_reducible refine LeO.ite ?_ ?_)
      | (with_reducible refine LeO.bind ?_ (fun _ => ?_))
      | exact ih0 _ _ _ _ _ _ _ _ _ _ _ _ _ _ _ _ _
      | exact ih1 _ _ _ _ _ _ _ _
      | exact ih2 _ _
      | exact ih3 _ _ _ _
      | exact impl_TxOf.mono _ _
      | exact impl_TxsOf.mono _ _
      | exact impl_TxsText.mono _ _
      | exact laws_sameTxs.mono _ _ _
      | exact spec_DrawTxOf.mono _ _
      | exact spec_DrawTxOk.mono _ _
      | exact spec_DrawTxText.mono _ _
      | exact spec_DrawTxsOf.mono _ _
      | exact spec_DrawTxsText.mono _ _
      | exact spec_TxOf.mono _ _
      | exact spec_TxText.mono _ _ _ _ _
      | exact spec_TxsOf.mono _ _
      | exact spec_TxsText.mono _ _
      | exact LeO.none _
      | refine LeO.ite ?_ ?_
      | refine LeO.bind ?_ (fun _ => ?_)
    · intro y0 y1 y2 y3
      unfold laws_FnTxs.l0
      repeat' first
      | (with_reducible exact ih0 _ _ _ _ _ _ _ _ _ _ _ _ _ _ _ _ _)
      | (with_reducible exact ih1 _ _ _ _ _ _ _ _)
      | (with_reducible exact ih2 _ _)
      | (with_reducible exact ih3 _ _ _ _)
      | (with_reducible exact impl_TxOf.mono _ _)
      | (with_reducible exact impl_TxsOf.mono _ _)
      | (with_reducible exact impl_TxsText.mono _ _)
      | (with_reducible exact laws_sameTxs.mono _ _ _)
      | (with_reducible exact spec_DrawTxOf.mono _ _)
      | (with_reducible exact spec_DrawTxOk.mono _ _)
      | (with_reducible exact spec_DrawTxText.mono _ _)
      | (with_reducible exact spec_DrawTxsOf.mono _ _)
      | (with_reducible exact spec_DrawTxsText.mono _ _)
      | (with_reducible exact spec_TxOf.mono _ _)
      | (with_reducible exact spec_TxText.mono _ _ _ _ _)
      | (with_reducible exact spec_TxsOf.mono _ _)
      | (with_reducible exact spec_TxsText.mono _ _)
      | (with_reducible exact LeO.refl _)
      | (with_reducible exact LeO.none _)
      | (with_reducible refine LeO.ite ?_ ?_)
      | (with_reducible refine LeO.bind ?_ (fun _ => ?_))
      | exact ih0 _ _ _ _ _ _ _ _ _ _ _ _ _ _ _ _ _
      | exact ih1 _ _ _ _ _ _ _ _
      | exact ih2 _ _
      | exact ih3 _ _ _ _
      | exact impl_TxOf.mono _ _
      | exact impl_TxsOf.mono _ _
      | exact impl_TxsText.mono _ _
      | exact laws_sameTxs.mono _ _ _
      | exact spec_DrawTxOf.mono _ _
      | exact spec_DrawTxOk.mono _ _
      | exact spec_DrawTxText.mono _ _
      | exact spec_DrawTxsOf.mono _ _
      | exact spec_DrawTxsText.mono _ _
      | exact spec_TxOf.mono _ _
      | exact spec_TxText.mono _ _ _ _ _
      | exact spec_TxsOf.mono _ _
      | exact spec_TxsText.mono _ _
      | exact LeO.none _
      | refine LeO.ite ?_ ?_
      | refine LeO.bind ?_ (fun _ => ?_)
theorem laws_FnTxs.mono : ∀ a0 k, LeO (laws_FnTxs.f k a0) (laws_FnTxs.f (k + 1) a0) := by
  intro a0 k
  obtain ⟨ih0, ih1, ih2, ih3⟩ := laws_FnTxs.mono_l k
  unfold laws_FnTxs.f
  repeat' first
      | (with_reducible exact ih0 _ _ _ _ _ _ _ _ _ _ _ _ _ _ _ _ _)
      | (with_reducible exact ih1 _ _ _ _ _ _ _ _)
      | (with_reducible exact ih2 _ _)
      | (with_reducible exact ih3 _ _ _ _)
      | (with_reducible exact impl_TxOf.mono _ _)
      | (with_reducible exact impl_TxsOf.mono _ _)
      | (with_reducible exact impl_TxsText.mono _ _)
      | (with_reducible exact laws_sameTxs.mono _ _ _)
      | (with_reducible exact spec_DrawTxOf.mono _ _)
      | (with_reducible exact spec_DrawTxOk.mono _ _)
      | (with_reducible exact spec_DrawTxText.mono _ _)
      | (with_reducible exact spec_DrawTxsOf.mono _ _)
      | (with_reducible exact spec_DrawTxsText.mono _ _)
      | (with_reducible exact spec_TxOf.mono _ _)
      | (with_reducible exact spec_TxText.mono _ _ _ _ _)
      | (with_reducible exact spec_TxsOf.mono _ _)
      | (with_reducible exact spec_TxsText.mono _ _)
      | (with_reducible exact LeO.refl _)
      | (with_reducible exact LeO.none _)
      | (with_reducible refine LeO.ite ?_ ?_)
      | (with_reducible refine LeO.bind ?_ (fun _ => ?_))
      | exact ih0 _ _ _ _ _ _ _ _ _ _ _ _ _ _ _ _ _
      | exact ih1 _ _ _ _ _ _ _ _
      | exact ih2 _ _
      | exact ih3 _ _ _ _
      | exact impl_TxOf.mono _ _
      | exact impl_TxsOf.mono _ _
      | exact impl_TxsText.mono _ _
      | exact laws_sameTxs.mono _ _ _
      | exact spec_DrawTxOf.mono _ _
      | exact spec_DrawTxOk.mono _ _
      | exact spec_DrawTxText.mono _ _
      | exact spec_DrawTxsOf.mono _ _
      | exact spec_DrawTxsText.mono _ _
      | exact spec_TxOf.mono _ _
      | exact spec_TxText.mono _ _ _ _ _
      | exact spec_TxsOf.mono _ _
      | exact spec_TxsText.mono _ _
      | exact LeO.none _
      | refine LeO.ite ?_ ?_
      | refine LeO.bind ?_ (fun _ => ?_)
def laws_FnTxs.T14 : Bool × List (List Nat × List Nat) := (true, [([], []), ([], []), ([1], [1]), ([0, 2], [0, 2]), ([3, 2], [3]), ([4], [4]), ([4], [4]), ([5, 6, 4], [4, 5, 6]), ([4, 7], [4, 7]), ([8, 4], [8]), ([9], [9]), ([9], [9]), ([10, 11, 9], [9, 10, 11]), ([9, 12], [9, 12]), ([13, 9], [13]), ([14], [14]), ([14], [14]), ([16, 14, 14], [14, 16]), ([15, 17, 14], [14, 15, 17]), ([14, 18], [14, 18]), ([19, 17], [19]), ([20], [20]), ([20], [20]), ([21, 22, 20], [20, 21, 22]), ([20, 23], [20, 23]), ([24, 20], [24]), ([25], [25]), ([25], [25]), ([26, 27, 25, 25], [25, 26, 27]), ([28, 25], [25, 28]), ([25, 29], [25, 29]), ([30, 28], [30]), ([31], [31]), ([32, 31, 31], [31, 32]), ([31], [31]), ([34, 33, 31], [31, 34]), ([33, 35, 31], [31, 33, 35]), ([31, 36], [31, 36])])
def laws_FnTxs.B14 : List Nat := [0, 0, 2, 7, 15, 31, 31, 127, 255, 511, 1023, 1023, 4095, 8191, 16383, 32767, 32767, 98303, 262143, 524287, 1048575, 2097151, 2097151, 8388607, 16777215, 33554431, 67108863, 67108863, 268435455, 536870911, 1073741823, 2147483647, 4294967295, 8589934591, 4294967295, 34359738367, 68719476735, 137438953471]
theorem laws_FnTxs.tab14 : rtab .any (opsOf Tryd.f13 14) = laws_FnTxs.T14 := by kernel_rfl
theorem laws_FnTxs.bits14 : waitsOk laws_FnTxs.T14.2 laws_FnTxs.B14 = true := by kernel_rfl
set_option maxHeartbeats 8000000 in
set_option maxRecDepth 100000 in
theorem laws_FnTxs.calls (k : Nat) (A0 : Option Addr) (c0 : Nat) (l0 : List Int) (r : Bool) (w : World) (hr0 : Kd.C (Kd.int .u8) w A0 l0.length l0) (hc0 : l0.length ≤ c0) (hL : LaidW w) (hT : r = true) (h : laws_FnTxs.f k l0 = some r) :
    Calls Tryd.prog 13 #[.slice A0 l0.length c0] w fun e w' => e = .returned (.bool r) ∧ Below w.heap.size w w' := by
  have hu44 := Tryd.underlying44
  have HR0 := Aside0.mk hr0
  have HC0 := Aside0.mk hc0
  clear hr0 hc0
  have HRT := Aside0.mk hT
  clear hT
  have HL0 := Aside0.mk hL
  clear hL
  have HB := Aside0.mk (Below.refl w.heap.size w)
  have H : ((laws_big.f l0).bind fun t378 => (if t378 = true then (some true) else ((spec_DrawTxText.f k l0).bind fun bt379 => ((impl_TxText.f bt379.1 bt379.2.1 bt379.2.2.1 bt379.2.2.2).bind fun t384 => ((spec_DrawTxOf.f k l0).bind fun t385 => ((impl_TxOf.f k t385).bind fun bt386 => ((spec_TxOf.f k t385).bind fun bt392 => ((spec_DrawTxsText.f k l0).bind fun t398 => ((impl_TxsText.f k t398).bind fun t401 => ((spec_DrawTxsOf.f k l0).bind fun t402 => ((impl_TxsOf.f k t402).bind fun bt403 => ((spec_TxsOf.f k t402).bind fun bt407 => ((spec_DrawTxOk.f k l0).bind fun bt411 => ((spec_TxText.f k bt379.1 bt379.2.1 bt379.2.2.1 bt379.2.2.2).bind fun t416 => (if t384.toList = t416.toList then (if (bt386.2.2.2.2 != bt392.2.2.2.2) = true then (none) else (if (!(bt386.1 == bt392.1) || (!(bt386.2.1 == bt392.2.1) || (!(bt386.2.2.1 == bt392.2.2.1) || (!(bt386.2.2.2.1 == bt392.2.2.2.1))))) = true then (none) else ((spec_TxsText.f k t398).bind fun t417 => (if t401.toList = t417.toList then (if (bt403.2 != bt407.2) = true then (none) else ((laws_sameTxs.f k bt403.1 bt407.1).bind fun t418 => (if t418 = true then ((impl_TxOk.f bt411.1 bt411.2.1 bt411.2.2.1 bt411.2.2.2).bind fun t419 => ((spec_TxOk.f bt411.1 bt411.2.1 bt411.2.2.1 bt411.2.2.2).bind fun t420 => (laws_FnTxs.j0 k t384 t385 bt386.2.2.2.2 t398 t401 t402 bt403.1 bt403.2 (t419 != t420) bt379.1 bt379.2.1 bt379.2.2.1 bt379.2.2.2 bt386.1 bt386.2.1 bt386.2.2.1 bt386.2.2.2.1))) else (none)))) else (none))))) else (none)))))))))))))))) = some r := h
  clear h
  replace H := Option.bind_eq_some_iff.mp H
  obtain ⟨t378, A20, H⟩ := H
  replace H : (if t378 = true then (some true) else ((spec_DrawTxText.f k l0).bind fun bt379 => ((impl_TxText.f bt379.1 bt379.2.1 bt379.2.2.1 bt379.2.2.2).bind fun t384 => ((spec_DrawTxOf.f k l0).bind fun t385 => ((impl_TxOf.f k t385).bind fun bt386 => ((spec_TxOf.f k t385).bind fun bt392 => ((spec_DrawTxsText.f k l0).bind fun t398 => ((impl_TxsText.f k t398).bind fun t401 => ((spec_DrawTxsOf.f k l0).bind fun t402 => ((impl_TxsOf.f k t402).bind fun bt403 => ((spec_TxsOf.f k t402).bind fun bt407 => ((spec_DrawTxOk.f k l0).bind fun bt411 => ((spec_TxText.f k bt379.1 bt379.2.1 bt379.2.2.1 bt379.2.2.2).bind fun t416 => (if t384.toList = t416.toList then (if (bt386.2.2.2.2 != bt392.2.2.2.2) = true then (none) else (if (!(bt386.1 == bt392.1) || (!(bt386.2.1 == bt392.2.1) || (!(bt386.2.2.1 == bt392.2.2.1) || (!(bt386.2.2.2.1 == bt392.2.2.2.1))))) = true then (none) else ((spec_TxsText.f k t398).bind fun t417 => (if t401.toList = t417.toList then (if (bt403.2 != bt407.2) = true then (none) else ((laws_sameTxs.f k bt403.1 bt407.1).bind fun t418 => (if t418 = true then ((impl_TxOk.f bt411.1 bt411.2.1 bt411.2.2.1 bt411.2.2.2).bind fun t419 => ((spec_TxOk.f bt411.1 bt411.2.1 bt411.2.2.1 bt411.2.2.2).bind fun t420 => (laws_FnTxs.j0 k t384 t385 bt386.2.2.2.2 t398 t401 t402 bt403.1 bt403.2 (t419 != t420) bt379.1 bt379.2.1 bt379.2.2.1 bt379.2.2.2 bt386.1 bt386.2.1 bt386.2.2.1 bt386.2.2.2.1))) else (none)))) else (none))))) else (none))))))))))))))) = some r := H
  have A2 := Aside0.mk A20
  clear A20
  by_cases c3 : t378 = true
  · subst c3
    have H1 : (some true) = some r := by rw [if_pos rfl] at H; exact H
    clear H
    have H := H1
    clear H1
    obtain rfl := Option.some.inj H
    go_enter Tryd.func13, Tryd.ntmps13
    go_wp2_with (first | ((with_reducible refine gate_callee (f := 40) rfl ?_); refine goesL_ (some 25) rfl rfl Tryd.func40 (by kernel_rfl) rfl #[.slice A0 l0.length c0] rfl (by (try simp only [List.map_toArray, List.map_cons, List.map_nil]); first | done | rfl | (simp only [List.length_drop, List.length_take]; rfl)) ?_; (with_reducible refine (laws_big.calls _ _ l0 true _ ?side1 ?side2 A2.out).mono ?_); (case side1 => repeat (first | exact HR0.out | (with_reducible refine Kd.C_alloc ?_ _) | (with_reducible refine Kd.C_drewN ?_ _) | (with_reducible refine Kd.C_drew ?_))); (case side2 => exact HC0.out); rintro e w' ⟨rfl, ⟨nd, rfl⟩⟩; refine ⟨_, rfl, ?_⟩))
    go_ret
    exact ⟨by first | rfl | (simp [errW_none, errW_some] <;> rfl) | (simp [*, errW_none, errW_some] <;> rfl), by repeat (first | (with_reducible first | exact HB.out | apply below_alloc | apply pw_below_drewN | apply below_drew1) | exact HB.out)⟩
  · replace c3 := Bool.eq_false_iff.mpr c3
    subst c3
    have H1 : ((spec_DrawTxText.f k l0).bind fun bt379 => ((impl_TxText.f bt379.1 bt379.2.1 bt379.2.2.1 bt379.2.2.2).bind fun t384 => ((spec_DrawTxOf.f k l0).bind fun t385 => ((impl_TxOf.f k t385).bind fun bt386 => ((spec_TxOf.f k t385).bind fun bt392 => ((spec_DrawTxsText.f k l0).bind fun t398 => ((impl_TxsText.f k t398).bind fun t401 => ((spec_DrawTxsOf.f k l0).bind fun t402 => ((impl_TxsOf.f k t402).bind fun bt403 => ((spec_TxsOf.f k t402).bind fun bt407 => ((spec_DrawTxOk.f k l0).bind fun bt411 => ((spec_TxText.f k bt379.1 bt379.2.1 bt379.2.2.1 bt379.2.2.2).bind fun t416 => (if t384.toList = t416.toList then (if (bt386.2.2.2.2 != bt392.2.2.2.2) = true then (none) else (if (!(bt386.1 == bt392.1) || (!(bt386.2.1 == bt392.2.1) || (!(bt386.2.2.1 == bt392.2.2.1) || (!(bt386.2.2.2.1 == bt392.2.2.2.1))))) = true then (none) else ((spec_TxsText.f k t398).bind fun t417 => (if t401.toList = t417.toList then (if (bt403.2 != bt407.2) = true then (none) else ((laws_sameTxs.f k bt403.1 bt407.1).bind fun t418 => (if t418 = true then ((impl_TxOk.f bt411.1 bt411.2.1 bt411.2.2.1 bt411.2.2.2).bind fun t419 => ((spec_TxOk.f bt411.1 bt411.2.1 bt411.2.2.1 bt411.2.2.2).bind fun t420 => (laws_FnTxs.j0 k t384 t385 bt386.2.2.2.2 t398 t401 t402 bt403.1 bt403.2 (t419 != t420) bt379.1 bt379.2.1 bt379.2.2.1 bt379.2.2.2 bt386.1 bt386.2.1 bt386.2.2.1 bt386.2.2.2.1))) else (none)))) else (none))))) else (none)))))))))))))) = some r := by rw [if_neg (show ¬ (false = true) by decide)] at H; exact H
    clear H
    have H := H1
    clear H1
    replace H := Option.bind_eq_some_iff.mp H
    obtain ⟨⟨t379, t380, t381, t382⟩, A40, H⟩ := H
    replace H : ((impl_TxText.f t379 t380 t381 t382).bind fun t384 => ((spec_DrawTxOf.f k l0).bind fun t385 => ((impl_TxOf.f k t385).bind fun bt386 => ((spec_TxOf.f k t385).bind fun bt392 => ((spec_DrawTxsText.f k l0).bind fun t398 => ((impl_TxsText.f k t398).bind fun t401 => ((spec_DrawTxsOf.f k l0).bind fun t402 => ((impl_TxsOf.f k t402).bind fun bt403 => ((spec_TxsOf.f k t402).bind fun bt407 => ((spec_DrawTxOk.f k l0).bind fun bt411 => ((spec_TxText.f k t379 t380 t381 t382).bind fun t416 => (if t384.toList = t416.toList then (if (bt386.2.2.2.2 != bt392.2.2.2.2) = true then (none) else (if (!(bt386.1 == bt392.1) || (!(bt386.2.1 == bt392.2.1) || (!(bt386.2.2.1 == bt392.2.2.1) || (!(bt386.2.2.2.1 == bt392.2.2.2.1))))) = true then (none) else ((spec_TxsText.f k t398).bind fun t417 => (if t401.toList = t417.toList then (if (bt403.2 != bt407.2) = true then (none) else ((laws_sameTxs.f k bt403.1 bt407.1).bind fun t418 => (if t418 = true then ((impl_TxOk.f bt411.1 bt411.2.1 bt411.2.2.1 bt411.2.2.2).bind fun t419 => ((spec_TxOk.f bt411.1 bt411.2.1 bt411.2.2.1 bt411.2.2.2).bind fun t420 => (laws_FnTxs.j0 k t384 t385 bt386.2.2.2.2 t398 t401 t402 bt403.1 bt403.2 (t419 != t420) t379 t380 t381 t382 bt386.1 bt386.2.1 bt386.2.2.1 bt386.2.2.2.1))) else (none)))) else (none))))) else (none))))))))))))) = some r := H
    have A4 := Aside0.mk A40
    clear A40
    replace H := Option.bind_eq_some_iff.mp H
    obtain ⟨t384, A50, H⟩ := H
    replace H : ((spec_DrawTxOf.f k l0).bind fun t385 => ((impl_TxOf.f k t385).bind fun bt386 => ((spec_TxOf.f k t385).bind fun bt392 => ((spec_DrawTxsText.f k l0).bind fun t398 => ((impl_TxsText.f k t398).bind fun t401 => ((spec_DrawTxsOf.f k l0).bind fun t402 => ((impl_TxsOf.f k t402).bind fun bt403 => ((spec_TxsOf.f k t402).bind fun bt407 => ((spec_DrawTxOk.f k l0).bind fun bt411 => ((spec_TxText.f k t379 t380 t381 t382).bind fun t416 => (if t384.toList = t416.toList then (if (bt386.2.2.2.2 != bt392.2.2.2.2) = true then (none) else (if (!(bt386.1 == bt392.1) || (!(bt386.2.1 == bt392.2.1) || (!(bt386.2.2.1 == bt392.2.2.1) || (!(bt386.2.2.2.1 == bt392.2.2.2.1))))) = true then (none) else ((spec_TxsText.f k t398).bind fun t417 => (if t401.toList = t417.toList then (if (bt403.2 != bt407.2) = true then (none) else ((laws_sameTxs.f k bt403.1 bt407.1).bind fun t418 => (if t418 = true then ((impl_TxOk.f bt411.1 bt411.2.1 bt411.2.2.1 bt411.2.2.2).bind fun t419 => ((spec_TxOk.f bt411.1 bt411.2.1 bt411.2.2.1 bt411.2.2.2).bind fun t420 => (laws_FnTxs.j0 k t384 t385 bt386.2.2.2.2 t398 t401 t402 bt403.1 bt403.2 (t419 != t420) t379 t380 t381 t382 bt386.1 bt386.2.1 bt386.2.2.1 bt386.2.2.2.1))) else (none)))) else (none))))) else (none)))))))))))) = some r := H
    have A5 := Aside0.mk A50
    clear A50
    replace H := Option.bind_eq_some_iff.mp H
    obtain ⟨t385, A60, H⟩ := H
    replace H : ((impl_TxOf.f k t385).bind fun bt386 => ((spec_TxOf.f k t385).bind fun bt392 => ((spec_DrawTxsText.f k l0).bind fun t398 => ((impl_TxsText.f k t398).bind fun t401 => ((spec_DrawTxsOf.f k l0).bind fun t402 => ((impl_TxsOf.f k t402).bind fun bt403 => ((spec_TxsOf.f k t402).bind fun bt407 => ((spec_DrawTxOk.f k l0).bind fun bt411 => ((spec_TxText.f k t379 t380 t381 t382).bind fun t416 => (if t384.toList = t416.toList then (if (bt386.2.2.2.2 != bt392.2.2.2.2) = true then (none) else (if (!(bt386.1 == bt392.1) || (!(bt386.2.1 == bt392.2.1) || (!(bt386.2.2.1 == bt392.2.2.1) || (!(bt386.2.2.2.1 == bt392.2.2.2.1))))) = true then (none) else ((spec_TxsText.f k t398).bind fun t417 => (if t401.toList = t417.toList then (if (bt403.2 != bt407.2) = true then (none) else ((laws_sameTxs.f k bt403.1 bt407.1).bind fun t418 => (if t418 = true then ((impl_TxOk.f bt411.1 bt411.2.1 bt411.2.2.1 bt411.2.2.2).bind fun t419 => ((spec_TxOk.f bt411.1 bt411.2.1 bt411.2.2.1 bt411.2.2.2).bind fun t420 => (laws_FnTxs.j0 k t384 t385 bt386.2.2.2.2 t398 t401 t402 bt403.1 bt403.2 (t419 != t420) t379 t380 t381 t382 bt386.1 bt386.2.1 bt386.2.2.1 bt386.2.2.2.1))) else (none)))) else (none))))) else (none))))))))))) = some r := H
    have A6 := Aside0.mk A60
    clear A60
    replace H := Option.bind_eq_some_iff.mp H
    obtain ⟨⟨t386, t387, t388, t389, t390⟩, A70, H⟩ := H
    replace H : ((spec_TxOf.f k t385).bind fun bt392 => ((spec_DrawTxsText.f k l0).bind fun t398 => ((impl_TxsText.f k t398).bind fun t401 => ((spec_DrawTxsOf.f k l0).bind fun t402 => ((impl_TxsOf.f k t402).bind fun bt403 => ((spec_TxsOf.f k t402).bind fun bt407 => ((spec_DrawTxOk.f k l0).bind fun bt411 => ((spec_TxText.f k t379 t380 t381 t382).bind fun t416 => (if t384.toList = t416.toList then (if (t390 != bt392.2.2.2.2) = true then (none) else (if (!(t386 == bt392.1) || (!(t387 == bt392.2.1) || (!(t388 == bt392.2.2.1) || (!(t389 == bt392.2.2.2.1))))) = true then (none) else ((spec_TxsText.f k t398).bind fun t417 => (if t401.toList = t417.toList then (if (bt403.2 != bt407.2) = true then (none) else ((laws_sameTxs.f k bt403.1 bt407.1).bind fun t418 => (if t418 = true then ((impl_TxOk.f bt411.1 bt411.2.1 bt411.2.2.1 bt411.2.2.2).bind fun t419 => ((spec_TxOk.f bt411.1 bt411.2.1 bt411.2.2.1 bt411.2.2.2).bind fun t420 => (laws_FnTxs.j0 k t384 t385 t390 t398 t401 t402 bt403.1 bt403.2 (t419 != t420) t379 t380 t381 t382 t386 t387 t388 t389))) else (none)))) else (none))))) else (none)))))))))) = some r := H
    have A7 := Aside0.mk A70
    clear A70
    replace H := Option.bind_eq_some_iff.mp H
    obtain ⟨⟨t392, t393, t394, t395, t396⟩, A80, H⟩ := H
    replace H : ((spec_DrawTxsText.f k l0).bind fun t398 => ((impl_TxsText.f k t398).bind fun t401 => ((spec_DrawTxsOf.f k l0).bind fun t402 => ((impl_TxsOf.f k t402).bind fun bt403 => ((spec_TxsOf.f k t402).bind fun bt407 => ((spec_DrawTxOk.f k l0).bind fun bt411 => ((spec_TxText.f k t379 t380 t381 t382).bind fun t416 => (if t384.toList = t416.toList then (if (t390 != t396) = true then (none) else (if (!(t386 == t392) || (!(t387 == t393) || (!(t388 == t394) || (!(t389 == t395))))) = true then (none) else ((spec_TxsText.f k t398).bind fun t417 => (if t401.toList = t417.toList then (if (bt403.2 != bt407.2) = true then (none) else ((laws_sameTxs.f k bt403.1 bt407.1).bind fun t418 => (if t418 = true then ((impl_TxOk.f bt411.1 bt411.2.1 bt411.2.2.1 bt411.2.2.2).bind fun t419 => ((spec_TxOk.f bt411.1 bt411.2.1 bt411.2.2.1 bt411.2.2.2).bind fun t420 => (laws_FnTxs.j0 k t384 t385 t390 t398 t401 t402 bt403.1 bt403.2 (t419 != t420) t379 t380 t381 t382 t386 t387 t388 t389))) else (none)))) else (none))))) else (none))))))))) = some r := H
    have A8 := Aside0.mk A80
    clear A80
    replace H := Option.bind_eq_some_iff.mp H
    obtain ⟨t398, A90, H⟩ := H
    replace H : ((impl_TxsText.f k t398).bind fun t401 => ((spec_DrawTxsOf.f k l0).bind fun t402 => ((impl_TxsOf.f k t402).bind fun bt403 => ((spec_TxsOf.f k t402).bind fun bt407 => ((spec_DrawTxOk.f k l0).bind fun bt411 => ((spec_TxText.f k t379 t380 t381 t382).bind fun t416 => (if t384.toList = t416.toList then (if (t390 != t396) = true then (none) else (if (!(t386 == t392) || (!(t387 == t393) || (!(t388 == t394) || (!(t389 == t395))))) = true then (none) else ((spec_TxsText.f k t398).bind fun t417 => (if t401.toList = t417.toList then (if (bt403.2 != bt407.2) = true then (none) else ((laws_sameTxs.f k bt403.1 bt407.1).bind fun t418 => (if t418 = true then ((impl_TxOk.f bt411.1 bt411.2.1 bt411.2.2.1 bt411.2.2.2).bind fun t419 => ((spec_TxOk.f bt411.1 bt411.2.1 bt411.2.2.1 bt411.2.2.2).bind fun t420 => (laws_FnTxs.j0 k t384 t385 t390 t398 t401 t402 bt403.1 bt403.2 (t419 != t420) t379 t380 t381 t382 t386 t387 t388 t389))) else (none)))) else (none))))) else (none)))))))) = some r := H
    have A9 := Aside0.mk A90
    clear A90
    replace H := Option.bind_eq_some_iff.mp H
    obtain ⟨t401, A100, H⟩ := H
    replace H : ((spec_DrawTxsOf.f k l0).bind fun t402 => ((impl_TxsOf.f k t402).bind fun bt403 => ((spec_TxsOf.f k t402).bind fun bt407 => ((spec_DrawTxOk.f k l0).bind fun bt411 => ((spec_TxText.f k t379 t380 t381 t382).bind fun t416 => (if t384.toList = t416.toList then (if (t390 != t396) = true then (none) else (if (!(t386 == t392) || (!(t387 == t393) || (!(t388 == t394) || (!(t389 == t395))))) = true then (none) else ((spec_TxsText.f k t398).bind fun t417 => (if t401.toList = t417.toList then (if (bt403.2 != bt407.2) = true then (none) else ((laws_sameTxs.f k bt403.1 bt407.1).bind fun t418 => (if t418 = true then ((impl_TxOk.f bt411.1 bt411.2.1 bt411.2.2.1 bt411.2.2.2).bind fun t419 => ((spec_TxOk.f bt411.1 bt411.2.1 bt411.2.2.1 bt411.2.2.2).bind fun t420 => (laws_FnTxs.j0 k t384 t385 t390 t398 t401 t402 bt403.1 bt403.2 (t419 != t420) t379 t380 t381 t382 t386 t387 t388 t389))) else (none)))) else (none))))) else (none))))))) = some r := H
    have A10 := Aside0.mk A100
    clear A100
    replace H := Option.bind_eq_some_iff.mp H
    obtain ⟨t402, A110, H⟩ := H
    replace H : ((impl_TxsOf.f k t402).bind fun bt403 => ((spec_TxsOf.f k t402).bind fun bt407 => ((spec_DrawTxOk.f k l0).bind fun bt411 => ((spec_TxText.f k t379 t380 t381 t382).bind fun t416 => (if t384.toList = t416.toList then (if (t390 != t396) = true then (none) else (if (!(t386 == t392) || (!(t387 == t393) || (!(t388 == t394) || (!(t389 == t395))))) = true then (none) else ((spec_TxsText.f k t398).bind fun t417 => (if t401.toList = t417.toList then (if (bt403.2 != bt407.2) = true then (none) else ((laws_sameTxs.f k bt403.1 bt407.1).bind fun t418 => (if t418 = true then ((impl_TxOk.f bt411.1 bt411.2.1 bt411.2.2.1 bt411.2.2.2).bind fun t419 => ((spec_TxOk.f bt411.1 bt411.2.1 bt411.2.2.1 bt411.2.2.2).bind fun t420 => (laws_FnTxs.j0 k t384 t385 t390 t398 t401 t402 bt403.1 bt403.2 (t419 != t420) t379 t380 t381 t382 t386 t387 t388 t389))) else (none)))) else (none))))) else (none)))))) = some r := H
    have A11 := Aside0.mk A110
    clear A110
    replace H := Option.bind_eq_some_iff.mp H
    obtain ⟨⟨t403, t404⟩, A120, H⟩ := H
    replace H : ((spec_TxsOf.f k t402).bind fun bt407 => ((spec_DrawTxOk.f k l0).bind fun bt411 => ((spec_TxText.f k t379 t380 t381 t382).bind fun t416 => (if t384.toList = t416.toList then (if (t390 != t396) = true then (none) else (if (!(t386 == t392) || (!(t387 == t393) || (!(t388 == t394) || (!(t389 == t395))))) = true then (none) else ((spec_TxsText.f k t398).bind fun t417 => (if t401.toList = t417.toList then (if (t404 != bt407.2) = true then (none) else ((laws_sameTxs.f k t403 bt407.1).bind fun t418 => (if t418 = true then ((impl_TxOk.f bt411.1 bt411.2.1 bt411.2.2.1 bt411.2.2.2).bind fun t419 => ((spec_TxOk.f bt411.1 bt411.2.1 bt411.2.2.1 bt411.2.2.2).bind fun t420 => (laws_FnTxs.j0 k t384 t385 t390 t398 t401 t402 t403 t404 (t419 != t420) t379 t380 t381 t382 t386 t387 t388 t389))) else (none)))) else (none))))) else (none))))) = some r := H
    have A12 := Aside0.mk A120
    clear A120
    replace H := Option.bind_eq_some_iff.mp H
    obtain ⟨⟨t407, t408⟩, A130, H⟩ := H
    replace H : ((spec_DrawTxOk.f k l0).bind fun bt411 => ((spec_TxText.f k t379 t380 t381 t382).bind fun t416 => (if t384.toList = t416.toList then (if (t390 != t396) = true then (none) else (if (!(t386 == t392) || (!(t387 == t393) || (!(t388 == t394) || (!(t389 == t395))))) = true then (none) else ((spec_TxsText.f k t398).bind fun t417 => (if t401.toList = t417.toList then (if (t404 != t408) = true then (none) else ((laws_sameTxs.f k t403 t407).bind fun t418 => (if t418 = true then ((impl_TxOk.f bt411.1 bt411.2.1 bt411.2.2.1 bt411.2.2.2).bind fun t419 => ((spec_TxOk.f bt411.1 bt411.2.1 bt411.2.2.1 bt411.2.2.2).bind fun t420 => (laws_FnTxs.j0 k t384 t385 t390 t398 t401 t402 t403 t404 (t419 != t420) t379 t380 t381 t382 t386 t387 t388 t389))) else (none)))) else (none))))) else (none)))) = some r := H
    have A13 := Aside0.mk A130
    clear A130
    replace H := Option.bind_eq_some_iff.mp H
    obtain ⟨⟨t411, t412, t413, t414⟩, A140, H⟩ := H
    replace H : ((spec_TxText.f k t379 t380 t381 t382).bind fun t416 => (if t384.toList = t416.toList then (if (t390 != t396) = true then (none) else (if (!(t386 == t392) || (!(t387 == t393) || (!(t388 == t394) || (!(t389 == t395))))) = true then (none) else ((spec_TxsText.f k t398).bind fun t417 => (if t401.toList = t417.toList then (if (t404 != t408) = true then (none) else ((laws_sameTxs.f k t403 t407).bind fun t418 => (if t418 = true then ((impl_TxOk.f t411 t412 t413 t414).bind fun t419 => ((spec_TxOk.f t411 t412 t413 t414).bind fun t420 => (laws_FnTxs.j0 k t384 t385 t390 t398 t401 t402 t403 t404 (t419 != t420) t379 t380 t381 t382 t386 t387 t388 t389))) else (none)))) else (none))))) else (none))) = some r := H
    have A14 := Aside0.mk A140
    clear A140
    have HC15 := Aside0.mk H
    clear H
    go_enter Tryd.func13, Tryd.ntmps13
    go_upto_region 14 with (first | ((with_reducible refine gate_callee (f := 40) rfl ?_); refine goesL_ (some 25) rfl rfl Tryd.func40 (by kernel_rfl) rfl #[.slice A0 l0.length c0] rfl (by (try simp only [List.map_toArray, List.map_cons, List.map_nil]); first | done | rfl | (simp only [List.length_drop, List.length_take]; rfl)) ?_; (with_reducible refine (laws_big.calls _ _ l0 false _ ?side1 ?side2 A2.out).mono ?_); (case side1 => repeat (first | exact HR0.out | (with_reducible refine Kd.C_alloc ?_ _) | (with_reducible refine Kd.C_drewN ?_ _) | (with_reducible refine Kd.C_drew ?_))); (case side2 => exact HC0.out); rintro e w' ⟨rfl, ⟨nd, rfl⟩⟩; refine ⟨_, rfl, ?_⟩) | ((with_reducible refine gate_callee (f := 42) rfl ?_); refine goesL_ (some 27) rfl rfl Tryd.func42 (by kernel_rfl) rfl #[.slice A0 l0.length c0] rfl (by (try simp only [List.map_toArray, List.map_cons, List.map_nil]); first | done | rfl | (simp only [List.length_drop, List.length_take]; rfl)) ?_; (with_reducible refine (spec_DrawTxText.calls k _ _ l0 t379 t380 t381 t382 _ ?side1 ?side2 A4.out).mono ?_); (case side1 => repeat (first | exact HR0.out | (with_reducible refine Kd.C_alloc ?_ _) | (with_reducible refine Kd.C_drewN ?_ _) | (with_reducible refine Kd.C_drew ?_))); (case side2 => exact HC0.out); rintro e w16 ⟨rfl, hb⟩; refine ⟨_, rfl, ?_⟩; have n0_ := Aside0.mk (below_step (by repeat (first | (with_reducible first | exact HB.out | apply below_alloc | apply pw_below_drewN | apply below_drew1) | exact HB.out)) hb); clear HB; have HB := n0_; clear n0_; (try clear hb); (try clear hb2); (try clear hk); (try clear hi)) | ((with_reducible refine gate_dst (N := 3) rfl ?_); refine box_event ?hg (N := 3) ?hd (cs := #[.int .i64 0, .int .i64 0, .int .i64 0, .int .i64 0]) (t := 44) ?hr ?_; (case hd => rfl); (case hg => rfl); (case hr => first | (go_simp; done) | (go_simp; rfl)); intro gb383 hg w17 hbox hb; have n0_ := Aside0.mk (below_step (by repeat (first | (with_reducible first | exact HB.out | apply below_alloc | apply pw_below_drewN | apply below_drew1) | exact HB.out)) hb); have n1_ := Aside0.mk (hbox); have n2_ := Aside0.mk ((by rw [hg]; exact (below_size (by repeat (first | (with_reducible first | exact HB.out | apply below_alloc | apply pw_below_drewN | apply below_drew1) | exact HB.out))) : w.heap.size ≤ gb383)); have n3_ := Aside0.mk ((by rw [hg]; exact (below_size (by repeat (first | (with_reducible first | exact HB.out | apply below_alloc | apply pw_below_drewN | apply below_drew1) | exact HB.out))) : w.heap.size ≤ gb383)); clear HB; have HB := n0_; have BK383 := n1_; have GW383 := n2_; have GE383 := n3_; clear n0_ n1_ n2_ n3_; clear hb hbox hg; have hcz18_0 : w17.cell? ⟨gb383, 0, none⟩ = some (.int .i64 0) := (blk_cell BK383.out 0).trans rfl; have hcz18_1 : w17.cell? ⟨gb383, 1, none⟩ = some (.int .i64 0) := (blk_cell BK383.out 1).trans rfl; have hcz18_2 : w17.cell? ⟨gb383, 2, none⟩ = some (.int .i64 0) := (blk_cell BK383.out 2).trans rfl; have hcz18_3 : w17.cell? ⟨gb383, 3, none⟩ = some (.int .i64 0) := (blk_cell BK383.out 3).trans rfl; have hfz18_0 := blk_frozen BK383.out 0; have hfz18_1 := blk_frozen BK383.out 1; have hfz18_2 := blk_frozen BK383.out 2; have hfz18_3 := blk_frozen BK383.out 3) | ((with_reducible refine gate_callee (f := 43) rfl ?_); refine goesL_ (some 29) rfl rfl Tryd.func43 (by kernel_rfl) rfl #[.agg #[.int .i64 t379, .int .i64 t380, .int .i64 t381, .int .i64 t382]] rfl (by (try simp only [List.map_toArray, List.map_cons, List.map_nil]); first | done | rfl | (simp only [List.length_drop, List.length_take]; rfl)) ?_; (with_reducible refine (impl_TxText.calls t379 t380 t381 t382 t384 _ ?side1 A5.out).mono ?_); (case side1 => exact LaidW.below HL0.out (by repeat (first | (with_reducible first | exact HB.out | apply below_alloc | apply pw_below_drewN | apply below_drew1 | refine below_set ?_ GE383.out) | exact HB.out))); rintro e w19 ⟨rfl, hb⟩; refine ⟨_, rfl, ?_⟩; have n0_ := Aside0.mk (blk_below (g := gb383) (o := .cells #[.int .i64 t379, .int .i64 t380, .int .i64 t381, .int .i64 t382] 44 (0, 0)) (by (with_reducible repeat (first | refine blk_drewN ?_ _ | refine blk_drew ?_ | refine blk_alloc ?_ _)); refine blk_put (cs := #[.int .i64 t379, .int .i64 t380, .int .i64 t381, .int .i64 0]) ?_ 3 _ rfl; (with_reducible repeat (first | refine blk_drewN ?_ _ | refine blk_drew ?_ | refine blk_alloc ?_ _)); refine blk_put (cs := #[.int .i64 t379, .int .i64 t380, .int .i64 0, .int .i64 0]) ?_ 2 _ rfl; (with_reducible repeat (first | refine blk_drewN ?_ _ | refine blk_drew ?_ | refine blk_alloc ?_ _)); refine blk_put (cs := #[.int .i64 t379, .int .i64 0, .int .i64 0, .int .i64 0]) ?_ 1 _ rfl; (with_reducible repeat (first | refine blk_drewN ?_ _ | refine blk_drew ?_ | refine blk_alloc ?_ _)); refine blk_put (cs := #[.int .i64 0, .int .i64 0, .int .i64 0, .int .i64 0]) ?_ 0 _ rfl; (with_reducible repeat (first | refine blk_drewN ?_ _ | refine blk_drew ?_ | refine blk_alloc ?_ _)); exact BK383.out) hb); have n1_ := Aside0.mk (below_step (by repeat (first | (with_reducible first | exact HB.out | apply below_alloc | apply pw_below_drewN | apply below_drew1 | refine below_set ?_ GE383.out) | exact HB.out)) hb); clear BK383; clear HB; have BK383 := n0_; have HB := n1_; clear n0_ n1_; (try clear hb); (try clear hb2); (try clear hk); (try clear hi)) | ((with_reducible refine gate_callee (f := 44) rfl ?_); refine goesL_ (some 31) rfl rfl Tryd.func44 (by kernel_rfl) rfl #[.slice A0 l0.length c0] rfl (by (try simp only [List.map_toArray, List.map_cons, List.map_nil]); first | done | rfl | (simp only [List.length_drop, List.length_take]; rfl)) ?_; (with_reducible refine (spec_DrawTxOf.calls k _ _ l0 t385 _ ?side1 ?side2 A6.out).mono ?_); (case side1 => repeat (first | exact (Kd.C_below HR0.out HB.out) | (with_reducible refine Kd.C_alloc ?_ _) | (with_reducible refine Kd.C_drewN ?_ _) | (with_reducible refine Kd.C_drew ?_))); (case side2 => exact HC0.out); rintro e w20 ⟨rfl, hb⟩; refine ⟨_, rfl, ?_⟩; have n0_ := Aside0.mk (blk_below (g := gb383) (o := .cells #[.int .i64 t379, .int .i64 t380, .int .i64 t381, .int .i64 t382] 44 (0, 0)) (by (with_reducible repeat (first | refine blk_drewN ?_ _ | refine blk_drew ?_ | refine blk_alloc ?_ _)); exact BK383.out) hb); have n1_ := Aside0.mk (below_step (by repeat (first | (with_reducible first | exact HB.out | apply below_alloc | apply pw_below_drewN | apply below_drew1 | refine below_set ?_ GE383.out) | exact HB.out)) hb); clear BK383; clear HB; have BK383 := n0_; have HB := n1_; clear n0_ n1_; (try clear hb); (try clear hb2); (try clear hk); (try clear hi)) | ((with_reducible refine gate_callee (f := 45) rfl ?_); refine goesL_ (some 34) rfl rfl Tryd.func45 (by kernel_rfl) rfl #[.string t385] rfl (by (try simp only [List.map_toArray, List.map_cons, List.map_nil]); first | done | rfl | (simp only [List.length_drop, List.length_take]; rfl)) ?_; (with_reducible refine (impl_TxOf.calls k t385 t386 t387 t388 t389 t390 _ ?side1 A7.out).mono ?_); (case side1 => exact LaidW.below HL0.out (by repeat (first | (with_reducible first | exact HB.out | apply below_alloc | apply pw_below_drewN | apply below_drew1 | refine below_set ?_ GE383.out) | exact HB.out))); rintro e w21 ⟨rfl, hb⟩; refine ⟨_, rfl, ?_⟩; have n0_ := Aside0.mk (blk_below (g := gb383) (o := .cells #[.int .i64 t379, .int .i64 t380, .int .i64 t381, .int .i64 t382] 44 (0, 0)) (by (with_reducible repeat (first | refine blk_drewN ?_ _ | refine blk_drew ?_ | refine blk_alloc ?_ _)); exact BK383.out) hb); have n1_ := Aside0.mk (below_step (by repeat (first | (with_reducible first | exact HB.out | apply below_alloc | apply pw_below_drewN | apply below_drew1 | refine below_set ?_ GE383.out) | exact HB.out)) hb); clear BK383; clear HB; have BK383 := n0_; have HB := n1_; clear n0_ n1_; (try clear hb); (try clear hb2); (try clear hk); (try clear hi)) | ((with_reducible refine gate_dst (N := 6) rfl ?_); refine box_event ?hg (N := 6) ?hd (cs := #[.int .i64 0, .int .i64 0, .int .i64 0, .int .i64 0]) (t := 44) ?hr ?_; (case hd => rfl); (case hg => rfl); (case hr => first | (go_simp; done) | (go_simp; rfl)); intro gb391 hg w22 hbox hb; have n0_ := Aside0.mk (blk_below (g := gb383) (o := .cells #[.int .i64 t379, .int .i64 t380, .int .i64 t381, .int .i64 t382] 44 (0, 0)) (by (with_reducible repeat (first | refine blk_drewN ?_ _ | refine blk_drew ?_ | refine blk_alloc ?_ _)); exact BK383.out) hb); have n1_ := Aside0.mk (below_step (by repeat (first | (with_reducible first | exact HB.out | apply below_alloc | apply pw_below_drewN | apply below_drew1 | refine below_set ?_ GE383.out) | exact HB.out)) hb); have n2_ := Aside0.mk (hbox); have n3_ := Aside0.mk ((by rw [hg]; exact (below_size (by repeat (first | (with_reducible first | exact HB.out | apply below_alloc | apply pw_below_drewN | apply below_drew1 | refine below_set ?_ GE383.out) | exact HB.out))) : w.heap.size ≤ gb391)); have n4_ := Aside0.mk ((by rw [hg]; exact (below_size (by repeat (first | (with_reducible first | exact HB.out | apply below_alloc | apply pw_below_drewN | apply below_drew1 | refine below_set ?_ GE383.out) | exact HB.out))) : w.heap.size ≤ gb391)); have n5_ := Aside0.mk ((by rw [hg]; exact Nat.ne_of_lt (blk_lt (g := gb383) (o := .cells #[.int .i64 t379, .int .i64 t380, .int .i64 t381, .int .i64 t382] 44 (0, 0)) (by (with_reducible repeat (first | refine blk_drewN ?_ _ | refine blk_drew ?_ | refine blk_alloc ?_ _)); exact BK383.out)) : gb383 ≠ gb391)); have n6_ := Aside0.mk ((by rw [hg]; exact Nat.ne_of_gt (blk_lt (g := gb383) (o := .cells #[.int .i64 t379, .int .i64 t380, .int .i64 t381, .int .i64 t382] 44 (0, 0)) (by (with_reducible repeat (first | refine blk_drewN ?_ _ | refine blk_drew ?_ | refine blk_alloc ?_ _)); exact BK383.out)) : gb391 ≠ gb383)); clear BK383; clear HB; have BK383 := n0_; have HB := n1_; have BK391 := n2_; have GW391 := n3_; have GE391 := n4_; have NB383_391 := n5_; have NB391_383 := n6_; clear n0_ n1_ n2_ n3_ n4_ n5_ n6_; clear hb hbox hg; have hnb23 := NB391_383.out; have hnc23 := NB383_391.out; have hcz24_0 : w22.cell? ⟨gb391, 0, none⟩ = some (.int .i64 0) := (blk_cell BK391.out 0).trans rfl; have hcz24_1 : w22.cell? ⟨gb391, 1, none⟩ = some (.int .i64 0) := (blk_cell BK391.out 1).trans rfl; have hcz24_2 : w22.cell? ⟨gb391, 2, none⟩ = some (.int .i64 0) := (blk_cell BK391.out 2).trans rfl; have hcz24_3 : w22.cell? ⟨gb391, 3, none⟩ = some (.int .i64 0) := (blk_cell BK391.out 3).trans rfl; have hfz24_0 := blk_frozen BK391.out 0; have hfz24_1 := blk_frozen BK391.out 1; have hfz24_2 := blk_frozen BK391.out 2; have hfz24_3 := blk_frozen BK391.out 3) | ((with_reducible refine gate_callee (f := 46) rfl ?_); refine goesL_ (some 39) rfl rfl Tryd.func46 (by kernel_rfl) rfl #[.string t385] rfl (by (try simp only [List.map_toArray, List.map_cons, List.map_nil]); first | done | rfl | (simp only [List.length_drop, List.length_take]; rfl)) ?_; (with_reducible refine (spec_TxOf.calls k t385 t392 t393 t394 t395 t396 _ A8.out).mono ?_); rintro e w25 ⟨rfl, hb⟩; refine ⟨_, rfl, ?_⟩; have n0_ := Aside0.mk (blk_below (g := gb383) (o := .cells #[.int .i64 t379, .int .i64 t380, .int .i64 t381, .int .i64 t382] 44 (0, 0)) (by (with_reducible repeat (first | refine blk_drewN ?_ _ | refine blk_drew ?_ | refine blk_alloc ?_ _)); refine blk_far ?_ NB383_391.out _; (with_reducible repeat (first | refine blk_drewN ?_ _ | refine blk_drew ?_ | refine blk_alloc ?_ _)); refine blk_far ?_ NB383_391.out _; (with_reducible repeat (first | refine blk_drewN ?_ _ | refine blk_drew ?_ | refine blk_alloc ?_ _)); refine blk_far ?_ NB383_391.out _; (with_reducible repeat (first | refine blk_drewN ?_ _ | refine blk_drew ?_ | refine blk_alloc ?_ _)); refine blk_far ?_ NB383_391.out _; (with_reducible repeat (first | refine blk_drewN ?_ _ | refine blk_drew ?_ | refine blk_alloc ?_ _)); exact BK383.out) hb); have n1_ := Aside0.mk (blk_below (g := gb391) (o := .cells #[.int .i64 t386, .int .i64 t387, .int .i64 t388, .int .i64 t389] 44 (0, 0)) (by (with_reducible repeat (first | refine blk_drewN ?_ _ | refine blk_drew ?_ | refine blk_alloc ?_ _)); refine blk_put (cs := #[.int .i64 t386, .int .i64 t387, .int .i64 t388, .int .i64 0]) ?_ 3 _ rfl; (with_reducible repeat (first | refine blk_drewN ?_ _ | refine blk_drew ?_ | refine blk_alloc ?_ _)); refine blk_put (cs := #[.int .i64 t386, .int .i64 t387, .int .i64 0, .int .i64 0]) ?_ 2 _ rfl; (with_reducible repeat (first | refine blk_drewN ?_ _ | refine blk_drew ?_ | refine blk_alloc ?_ _)); refine blk_put (cs := #[.int .i64 t386, .int .i64 0, .int .i64 0, .int .i64 0]) ?_ 1 _ rfl; (with_reducible repeat (first | refine blk_drewN ?_ _ | refine blk_drew ?_ | refine blk_alloc ?_ _)); refine blk_put (cs := #[.int .i64 0, .int .i64 0, .int .i64 0, .int .i64 0]) ?_ 0 _ rfl; (with_reducible repeat (first | refine blk_drewN ?_ _ | refine blk_drew ?_ | refine blk_alloc ?_ _)); exact BK391.out) hb); have n2_ := Aside0.mk (below_step (by repeat (first | (with_reducible first | exact HB.out | apply below_alloc | apply pw_below_drewN | apply below_drew1 | refine below_set ?_ GE383.out | refine below_set ?_ GE391.out) | exact HB.out)) hb); clear BK383; clear BK391; clear HB; have BK383 := n0_; have BK391 := n1_; have HB := n2_; clear n0_ n1_ n2_; (try clear hb); (try clear hb2); (try clear hk); (try clear hi)) | ((with_reducible refine gate_dst (N := 8) rfl ?_); refine box_event ?hg (N := 8) ?hd (cs := #[.int .i64 0, .int .i64 0, .int .i64 0, .int .i64 0]) (t := 44) ?hr ?_; (case hd => rfl); (case hg => rfl); (case hr => first | (go_simp; done) | (go_simp; rfl)); intro gb397 hg w26 hbox hb; have n0_ := Aside0.mk (blk_below (g := gb383) (o := .cells #[.int .i64 t379, .int .i64 t380, .int .i64 t381, .int .i64 t382] 44 (0, 0)) (by (with_reducible repeat (first | refine blk_drewN ?_ _ | refine blk_drew ?_ | refine blk_alloc ?_ _)); exact BK383.out) hb); have n1_ := Aside0.mk (blk_below (g := gb391) (o := .cells #[.int .i64 t386, .int .i64 t387, .int .i64 t388, .int .i64 t389] 44 (0, 0)) (by (with_reducible repeat (first | refine blk_drewN ?_ _ | refine blk_drew ?_ | refine blk_alloc ?_ _)); exact BK391.out) hb); have n2_ := Aside0.mk (below_step (by repeat (first | (with_reducible first | exact HB.out | apply below_alloc | apply pw_below_drewN | apply below_drew1 | refine below_set ?_ GE383.out | refine below_set ?_ GE391.out) | exact HB.out)) hb); have n3_ := Aside0.mk (hbox); have n4_ := Aside0.mk ((by rw [hg]; exact (below_size (by repeat (first | (with_reducible first | exact HB.out | apply below_alloc | apply pw_below_drewN | apply below_drew1 | refine below_set ?_ GE383.out | refine below_set ?_ GE391.out) | exact HB.out))) : w.heap.size ≤ gb397)); have n5_ := Aside0.mk ((by rw [hg]; exact (below_size (by repeat (first | (with_reducible first | exact HB.out | apply below_alloc | apply pw_below_drewN | apply below_drew1 | refine below_set ?_ GE383.out | refine below_set ?_ GE391.out) | exact HB.out))) : w.heap.size ≤ gb397)); have n6_ := Aside0.mk ((by rw [hg]; exact Nat.ne_of_lt (blk_lt (g := gb383) (o := .cells #[.int .i64 t379, .int .i64 t380, .int .i64 t381, .int .i64 t382] 44 (0, 0)) (by (with_reducible repeat (first | refine blk_drewN ?_ _ | refine blk_drew ?_ | refine blk_alloc ?_ _)); exact BK383.out)) : gb383 ≠ gb397)); have n7_ := Aside0.mk ((by rw [hg]; exact Nat.ne_of_gt (blk_lt (g := gb383) (o := .cells #[.int .i64 t379, .int .i64 t380, .int .i64 t381, .int .i64 t382] 44 (0, 0)) (by (with_reducible repeat (first | refine blk_drewN ?_ _ | refine blk_drew ?_ | refine blk_alloc ?_ _)); exact BK383.out)) : gb397 ≠ gb383)); have n8_ := Aside0.mk ((by rw [hg]; exact Nat.ne_of_lt (blk_lt (g := gb391) (o := .cells #[.int .i64 t386, .int .i64 t387, .int .i64 t388, .int .i64 t389] 44 (0, 0)) (by (with_reducible repeat (first | refine blk_drewN ?_ _ | refine blk_drew ?_ | refine blk_alloc ?_ _)); exact BK391.out)) : gb391 ≠ gb397)); have n9_ := Aside0.mk ((by rw [hg]; exact Nat.ne_of_gt (blk_lt (g := gb391) (o := .cells #[.int .i64 t386, .int .i64 t387, .int .i64 t388, .int .i64 t389] 44 (0, 0)) (by (with_reducible repeat (first | refine blk_drewN ?_ _ | refine blk_drew ?_ | refine blk_alloc ?_ _)); exact BK391.out)) : gb397 ≠ gb391)); clear BK383; clear BK391; clear HB; have BK383 := n0_; have BK391 := n1_; have HB := n2_; have BK397 := n3_; have GW397 := n4_; have GE397 := n5_; have NB383_397 := n6_; have NB397_383 := n7_; have NB391_397 := n8_; have NB397_391 := n9_; clear n0_ n1_ n2_ n3_ n4_ n5_ n6_ n7_ n8_ n9_; clear hb hbox hg; have hnb27 := NB397_383.out; have hnc27 := NB383_397.out; have hnb28 := NB397_391.out; have hnc28 := NB391_397.out; have hcz29_0 : w26.cell? ⟨gb397, 0, none⟩ = some (.int .i64 0) := (blk_cell BK397.out 0).trans rfl; have hcz29_1 : w26.cell? ⟨gb397, 1, none⟩ = some (.int .i64 0) := (blk_cell BK397.out 1).trans rfl; have hcz29_2 : w26.cell? ⟨gb397, 2, none⟩ = some (.int .i64 0) := (blk_cell BK397.out 2).trans rfl; have hcz29_3 : w26.cell? ⟨gb397, 3, none⟩ = some (.int .i64 0) := (blk_cell BK397.out 3).trans rfl; have hfz29_0 := blk_frozen BK397.out 0; have hfz29_1 := blk_frozen BK397.out 1; have hfz29_2 := blk_frozen BK397.out 2; have hfz29_3 := blk_frozen BK397.out 3) | ((with_reducible refine gate_callee (f := 47) rfl ?_); refine goesL_ (some 43) rfl rfl Tryd.func47 (by kernel_rfl) rfl #[.slice A0 l0.length c0] rfl (by (try simp only [List.map_toArray, List.map_cons, List.map_nil]); first | done | rfl | (simp only [List.length_drop, List.length_take]; rfl)) ?_; (with_reducible refine (spec_DrawTxsText.calls k _ _ l0 t398 _ ?side1 ?side2 A9.out).mono ?_); (case side1 => exact Kd.C_below HR0.out (by repeat (first | (with_reducible first | exact HB.out | apply below_alloc | apply pw_below_drewN | apply below_drew1 | refine below_set ?_ GE383.out | refine below_set ?_ GE391.out | refine below_set ?_ GE397.out) | exact HB.out))); (case side2 => exact HC0.out); rintro e w30 ⟨v399, rfl, ho0, hb⟩; refine ⟨_, rfl, ?_⟩; have n0_ := Aside0.mk (Kd.R_lower (Kd.R_newB (Kd.R_newB (Kd.R_newB ho0 (g := gb383) (o := .cells #[.int .i64 t379, .int .i64 t380, .int .i64 t381, .int .i64 t382] 44 (0, 0)) (by (with_reducible repeat (first | refine blk_drewN ?_ _ | refine blk_drew ?_ | refine blk_alloc ?_ _)); refine blk_far ?_ NB383_397.out _; (with_reducible repeat (first | refine blk_drewN ?_ _ | refine blk_drew ?_ | refine blk_alloc ?_ _)); refine blk_far ?_ NB383_397.out _; (with_reducible repeat (first | refine blk_drewN ?_ _ | refine blk_drew ?_ | refine blk_alloc ?_ _)); refine blk_far ?_ NB383_397.out _; (with_reducible repeat (first | refine blk_drewN ?_ _ | refine blk_drew ?_ | refine blk_alloc ?_ _)); refine blk_far ?_ NB383_397.out _; (with_reducible repeat (first | refine blk_drewN ?_ _ | refine blk_drew ?_ | refine blk_alloc ?_ _)); exact BK383.out)) (g := gb391) (o := .cells #[.int .i64 t386, .int .i64 t387, .int .i64 t388, .int .i64 t389] 44 (0, 0)) (by (with_reducible repeat (first | refine blk_drewN ?_ _ | refine blk_drew ?_ | refine blk_alloc ?_ _)); refine blk_far ?_ NB391_397.out _; (with_reducible repeat (first | refine blk_drewN ?_ _ | refine blk_drew ?_ | refine blk_alloc ?_ _)); refine blk_far ?_ NB391_397.out _; (with_reducible repeat (first | refine blk_drewN ?_ _ | refine blk_drew ?_ | refine blk_alloc ?_ _)); refine blk_far ?_ NB391_397.out _; (with_reducible repeat (first | refine blk_drewN ?_ _ | refine blk_drew ?_ | refine blk_alloc ?_ _)); refine blk_far ?_ NB391_397.out _; (with_reducible repeat (first | refine blk_drewN ?_ _ | refine blk_drew ?_ | refine blk_alloc ?_ _)); exact BK391.out)) (g := gb397) (o := .cells #[.int .i64 t392, .int .i64 t393, .int .i64 t394, .int .i64 t395] 44 (0, 0)) (by (with_reducible repeat (first | refine blk_drewN ?_ _ | refine blk_drew ?_ | refine blk_alloc ?_ _)); refine blk_put (cs := #[.int .i64 t392, .int .i64 t393, .int .i64 t394, .int .i64 0]) ?_ 3 _ rfl; (with_reducible repeat (first | refine blk_drewN ?_ _ | refine blk_drew ?_ | refine blk_alloc ?_ _)); refine blk_put (cs := #[.int .i64 t392, .int .i64 t393, .int .i64 0, .int .i64 0]) ?_ 2 _ rfl; (with_reducible repeat (first | refine blk_drewN ?_ _ | refine blk_drew ?_ | refine blk_alloc ?_ _)); refine blk_put (cs := #[.int .i64 t392, .int .i64 0, .int .i64 0, .int .i64 0]) ?_ 1 _ rfl; (with_reducible repeat (first | refine blk_drewN ?_ _ | refine blk_drew ?_ | refine blk_alloc ?_ _)); refine blk_put (cs := #[.int .i64 0, .int .i64 0, .int .i64 0, .int .i64 0]) ?_ 0 _ rfl; (with_reducible repeat (first | refine blk_drewN ?_ _ | refine blk_drew ?_ | refine blk_alloc ?_ _)); exact BK397.out)) (below_size (by repeat (first | (with_reducible first | exact HB.out | apply below_alloc | apply pw_below_drewN | apply below_drew1 | refine below_set ?_ GE383.out | refine below_set ?_ GE391.out | refine below_set ?_ GE397.out) | exact HB.out)))); have n1_ := Aside0.mk (blk_below (g := gb383) (o := .cells #[.int .i64 t379, .int .i64 t380, .int .i64 t381, .int .i64 t382] 44 (0, 0)) (by (with_reducible repeat (first | refine blk_drewN ?_ _ | refine blk_drew ?_ | refine blk_alloc ?_ _)); refine blk_far ?_ NB383_397.out _; (with_reducible repeat (first | refine blk_drewN ?_ _ | refine blk_drew ?_ | refine blk_alloc ?_ _)); refine blk_far ?_ NB383_397.out _; (with_reducible repeat (first | refine blk_drewN ?_ _ | refine blk_drew ?_ | refine blk_alloc ?_ _)); refine blk_far ?_ NB383_397.out _; (with_reducible repeat (first | refine blk_drewN ?_ _ | refine blk_drew ?_ | refine blk_alloc ?_ _)); refine blk_far ?_ NB383_397.out _; (with_reducible repeat (first | refine blk_drewN ?_ _ | refine blk_drew ?_ | refine blk_alloc ?_ _)); exact BK383.out) hb); have n2_ := Aside0.mk (blk_below (g := gb391) (o := .cells #[.int .i64 t386, .int .i64 t387, .int .i64 t388, .int .i64 t389] 44 (0, 0)) (by (with_reducible repeat (first | refine blk_drewN ?_ _ | refine blk_drew ?_ | refine blk_alloc ?_ _)); refine blk_far ?_ NB391_397.out _; (with_reducible repeat (first | refine blk_drewN ?_ _ | refine blk_drew ?_ | refine blk_alloc ?_ _)); refine blk_far ?_ NB391_397.out _; (with_reducible repeat (first | refine blk_drewN ?_ _ | refine blk_drew ?_ | refine blk_alloc ?_ _)); refine blk_far ?_ NB391_397.out _; (with_reducible repeat (first | refine blk_drewN ?_ _ | refine blk_drew ?_ | refine blk_alloc ?_ _)); refine blk_far ?_ NB391_397.out _; (with_reducible repeat (first | refine blk_drewN ?_ _ | refine blk_drew ?_ | refine blk_alloc ?_ _)); exact BK391.out) hb); have n3_ := Aside0.mk (blk_below (g := gb397) (o := .cells #[.int .i64 t392, .int .i64 t393, .int .i64 t394, .int .i64 t395] 44 (0, 0)) (by (with_reducible repeat (first | refine blk_drewN ?_ _ | refine blk_drew ?_ | refine blk_alloc ?_ _)); refine blk_put (cs := #[.int .i64 t392, .int .i64 t393, .int .i64 t394, .int .i64 0]) ?_ 3 _ rfl; (with_reducible repeat (first | refine blk_drewN ?_ _ | refine blk_drew ?_ | refine blk_alloc ?_ _)); refine blk_put (cs := #[.int .i64 t392, .int .i64 t393, .int .i64 0, .int .i64 0]) ?_ 2 _ rfl; (with_reducible repeat (first | refine blk_drewN ?_ _ | refine blk_drew ?_ | refine blk_alloc ?_ _)); refine blk_put (cs := #[.int .i64 t392, .int .i64 0, .int .i64 0, .int .i64 0]) ?_ 1 _ rfl; (with_reducible repeat (first | refine blk_drewN ?_ _ | refine blk_drew ?_ | refine blk_alloc ?_ _)); refine blk_put (cs := #[.int .i64 0, .int .i64 0, .int .i64 0, .int .i64 0]) ?_ 0 _ rfl; (with_reducible repeat (first | refine blk_drewN ?_ _ | refine blk_drew ?_ | refine blk_alloc ?_ _)); exact BK397.out) hb); have n4_ := Aside0.mk (below_step (by repeat (first | (with_reducible first | exact HB.out | apply below_alloc | apply pw_below_drewN | apply below_drew1 | refine below_set ?_ GE383.out | refine below_set ?_ GE391.out | refine below_set ?_ GE397.out) | exact HB.out)) hb); clear BK383; clear BK391; clear BK397; clear HB; have HO400 := n0_; have BK383 := n1_; have BK391 := n2_; have BK397 := n3_; have HB := n4_; clear n0_ n1_ n2_ n3_ n4_; (try clear hb); (try clear hb2); (try clear hk); (try clear hi); (try clear ho0); obtain ⟨Ao31, co31, eo31⟩ := Kd.R_slice HO400.out; subst eo31) | ((with_reducible refine gate_callee (f := 48) rfl ?_); refine goesL_ (some 45) rfl rfl Tryd.func48 (by kernel_rfl) rfl #[.slice Ao31 t398.length co31] rfl (by (try simp only [List.map_toArray, List.map_cons, List.map_nil]); first | done | rfl | (simp only [List.length_drop, List.length_take]; rfl)) ?_; (with_reducible refine (impl_TxsText.calls k _ _ t398 t401 _ ?side1 ?side2 ?side3 A10.out).mono ?_); (case side1 => repeat (first | exact (Kd.R_reads' HO400.out).2.2 | (with_reducible refine Kd.C_alloc ?_ _) | (with_reducible refine Kd.C_drewN ?_ _) | (with_reducible refine Kd.C_drew ?_))); (case side2 => exact (Kd.R_reads' HO400.out).2.1); (case side3 => exact LaidW.below HL0.out (by repeat (first | (with_reducible first | exact HB.out | apply below_alloc | apply pw_below_drewN | apply below_drew1 | refine below_set ?_ GE383.out | refine below_set ?_ GE391.out | refine below_set ?_ GE397.out) | exact HB.out))); rintro e w32 ⟨rfl, hb⟩; refine ⟨_, rfl, ?_⟩; have n0_ := Aside0.mk (Kd.R_below (by (with_reducible repeat (first | apply Kd.R_alloc | apply Kd.R_drewN | apply Kd.R_drew)); exact HO400.out) hb); have n1_ := Aside0.mk (blk_below (g := gb383) (o := .cells #[.int .i64 t379, .int .i64 t380, .int .i64 t381, .int .i64 t382] 44 (0, 0)) (by (with_reducible repeat (first | refine blk_drewN ?_ _ | refine blk_drew ?_ | refine blk_alloc ?_ _)); exact BK383.out) hb); have n2_ := Aside0.mk (blk_below (g := gb391) (o := .cells #[.int .i64 t386, .int .i64 t387, .int .i64 t388, .int .i64 t389] 44 (0, 0)) (by (with_reducible repeat (first | refine blk_drewN ?_ _ | refine blk_drew ?_ | refine blk_alloc ?_ _)); exact BK391.out) hb); have n3_ := Aside0.mk (blk_below (g := gb397) (o := .cells #[.int .i64 t392, .int .i64 t393, .int .i64 t394, .int .i64 t395] 44 (0, 0)) (by (with_reducible repeat (first | refine blk_drewN ?_ _ | refine blk_drew ?_ | refine blk_alloc ?_ _)); exact BK397.out) hb); have n4_ := Aside0.mk (below_step (by repeat (first | (with_reducible first | exact HB.out | apply below_alloc | apply pw_below_drewN | apply below_drew1 | refine below_set ?_ GE383.out | refine below_set ?_ GE391.out | refine below_set ?_ GE397.out) | exact HB.out)) hb); clear HO400; clear BK383; clear BK391; clear BK397; clear HB; have HO400 := n0_; have BK383 := n1_; have BK391 := n2_; have BK397 := n3_; have HB := n4_; clear n0_ n1_ n2_ n3_ n4_; (try clear hb); (try clear hb2); (try clear hk); (try clear hi)) | ((with_reducible refine gate_callee (f := 49) rfl ?_); refine goesL_ (some 47) rfl rfl Tryd.func49 (by kernel_rfl) rfl #[.slice A0 l0.length c0] rfl (by (try simp only [List.map_toArray, List.map_cons, List.map_nil]); first | done | rfl | (simp only [List.length_drop, List.length_take]; rfl)) ?_; (with_reducible refine (spec_DrawTxsOf.calls k _ _ l0 t402 _ ?side1 ?side2 A11.out).mono ?_); (case side1 => repeat (first | exact (Kd.C_below HR0.out HB.out) | (with_reducible refine Kd.C_alloc ?_ _) | (with_reducible refine Kd.C_drewN ?_ _) | (with_reducible refine Kd.C_drew ?_))); (case side2 => exact HC0.out); rintro e w33 ⟨rfl, hb⟩; refine ⟨_, rfl, ?_⟩; have n0_ := Aside0.mk (Kd.R_below (by (with_reducible repeat (first | apply Kd.R_alloc | apply Kd.R_drewN | apply Kd.R_drew)); exact HO400.out) hb); have n1_ := Aside0.mk (blk_below (g := gb383) (o := .cells #[.int .i64 t379, .int .i64 t380, .int .i64 t381, .int .i64 t382] 44 (0, 0)) (by (with_reducible repeat (first | refine blk_drewN ?_ _ | refine blk_drew ?_ | refine blk_alloc ?_ _)); exact BK383.out) hb); have n2_ := Aside0.mk (blk_below (g := gb391) (o := .cells #[.int .i64 t386, .int .i64 t387, .int .i64 t388, .int .i64 t389] 44 (0, 0)) (by (with_reducible repeat (first | refine blk_drewN ?_ _ | refine blk_drew ?_ | refine blk_alloc ?_ _)); exact BK391.out) hb); have n3_ := Aside0.mk (blk_below (g := gb397) (o := .cells #[.int .i64 t392, .int .i64 t393, .int .i64 t394, .int .i64 t395] 44 (0, 0)) (by (with_reducible repeat (first | refine blk_drewN ?_ _ | refine blk_drew ?_ | refine blk_alloc ?_ _)); exact BK397.out) hb); have n4_ := Aside0.mk (below_step (by repeat (first | (with_reducible first | exact HB.out | apply below_alloc | apply pw_below_drewN | apply below_drew1 | refine below_set ?_ GE383.out | refine below_set ?_ GE391.out | refine below_set ?_ GE397.out) | exact HB.out)) hb); clear HO400; clear BK383; clear BK391; clear BK397; clear HB; have HO400 := n0_; have BK383 := n1_; have BK391 := n2_; have BK397 := n3_; have HB := n4_; clear n0_ n1_ n2_ n3_ n4_; (try clear hb); (try clear hb2); (try clear hk); (try clear hi)) | ((with_reducible refine gate_callee (f := 50) rfl ?_); refine goesL_ (some 50) rfl rfl Tryd.func50 (by kernel_rfl) rfl #[.string t402] rfl (by (try simp only [List.map_toArray, List.map_cons, List.map_nil]); first | done | rfl | (simp only [List.length_drop, List.length_take]; rfl)) ?_; (with_reducible refine (impl_TxsOf.calls k t402 t403 t404 _ ?side1 A12.out).mono ?_); (case side1 => exact LaidW.below HL0.out (by repeat (first | (with_reducible first | exact HB.out | apply below_alloc | apply pw_below_drewN | apply below_drew1 | refine below_set ?_ GE383.out | refine below_set ?_ GE391.out | refine below_set ?_ GE397.out) | exact HB.out))); rintro e w34 ⟨v405, rfl, ho0, hb⟩; refine ⟨_, rfl, ?_⟩; have n0_ := Aside0.mk (Kd.R_elder' (by (with_reducible repeat (first | apply Kd.R_alloc | apply Kd.R_drewN | apply Kd.R_drew)); exact HO400.out) (Kd.R_base ho0) hb); have n1_ := Aside0.mk (Kd.R_lower (Kd.R_newB (Kd.R_newB (Kd.R_newB (Kd.R_new' ho0 (Kd.R_lt (by (with_reducible repeat (first | apply Kd.R_alloc | apply Kd.R_drewN | apply Kd.R_drew)); exact HO400.out))) (g := gb383) (o := .cells #[.int .i64 t379, .int .i64 t380, .int .i64 t381, .int .i64 t382] 44 (0, 0)) (by (with_reducible repeat (first | refine blk_drewN ?_ _ | refine blk_drew ?_ | refine blk_alloc ?_ _)); exact BK383.out)) (g := gb391) (o := .cells #[.int .i64 t386, .int .i64 t387, .int .i64 t388, .int .i64 t389] 44 (0, 0)) (by (with_reducible repeat (first | refine blk_drewN ?_ _ | refine blk_drew ?_ | refine blk_alloc ?_ _)); exact BK391.out)) (g := gb397) (o := .cells #[.int .i64 t392, .int .i64 t393, .int .i64 t394, .int .i64 t395] 44 (0, 0)) (by (with_reducible repeat (first | refine blk_drewN ?_ _ | refine blk_drew ?_ | refine blk_alloc ?_ _)); exact BK397.out)) (below_size (by repeat (first | (with_reducible first | exact HB.out | apply below_alloc | apply pw_below_drewN | apply below_drew1 | refine below_set ?_ GE383.out | refine below_set ?_ GE391.out | refine below_set ?_ GE397.out) | exact HB.out)))); have n2_ := Aside0.mk (blk_below (g := gb383) (o := .cells #[.int .i64 t379, .int .i64 t380, .int .i64 t381, .int .i64 t382] 44 (0, 0)) (by (with_reducible repeat (first | refine blk_drewN ?_ _ | refine blk_drew ?_ | refine blk_alloc ?_ _)); exact BK383.out) hb); have n3_ := Aside0.mk (blk_below (g := gb391) (o := .cells #[.int .i64 t386, .int .i64 t387, .int .i64 t388, .int .i64 t389] 44 (0, 0)) (by (with_reducible repeat (first | refine blk_drewN ?_ _ | refine blk_drew ?_ | refine blk_alloc ?_ _)); exact BK391.out) hb); have n4_ := Aside0.mk (blk_below (g := gb397) (o := .cells #[.int .i64 t392, .int .i64 t393, .int .i64 t394, .int .i64 t395] 44 (0, 0)) (by (with_reducible repeat (first | refine blk_drewN ?_ _ | refine blk_drew ?_ | refine blk_alloc ?_ _)); exact BK397.out) hb); have n5_ := Aside0.mk (below_step (by repeat (first | (with_reducible first | exact HB.out | apply below_alloc | apply pw_below_drewN | apply below_drew1 | refine below_set ?_ GE383.out | refine below_set ?_ GE391.out | refine below_set ?_ GE397.out) | exact HB.out)) hb); clear HO400; clear BK383; clear BK391; clear BK397; clear HB; have HO400 := n0_; have HO406 := n1_; have BK383 := n2_; have BK391 := n3_; have BK397 := n4_; have HB := n5_; clear n0_ n1_ n2_ n3_ n4_ n5_; (try clear hb); (try clear hb2); (try clear hk); (try clear hi); (try clear ho0)) | ((with_reducible refine gate_callee (f := 51) rfl ?_); refine goesL_ (some 55) rfl rfl Tryd.func51 (by kernel_rfl) rfl #[.string t402] rfl (by (try simp only [List.map_toArray, List.map_cons, List.map_nil]); first | done | rfl | (simp only [List.length_drop, List.length_take]; rfl)) ?_; (with_reducible refine (spec_TxsOf.calls k t402 t407 t408 _ A13.out).mono ?_); rintro e w35 ⟨v409, rfl, ho0, hb⟩; refine ⟨_, rfl, ?_⟩; have n0_ := Aside0.mk (Kd.R_elder' (by (with_reducible repeat (first | apply Kd.R_alloc | apply Kd.R_drewN | apply Kd.R_drew)); exact HO400.out) (Kd.R_base ho0) hb); have n1_ := Aside0.mk (Kd.R_elder' (by (with_reducible repeat (first | apply Kd.R_alloc | apply Kd.R_drewN | apply Kd.R_drew)); exact HO406.out) (Kd.R_base ho0) hb); have n2_ := Aside0.mk (Kd.R_lower (Kd.R_newB (Kd.R_newB (Kd.R_newB (Kd.R_new' (Kd.R_new' ho0 (Kd.R_lt (by (with_reducible repeat (first | apply Kd.R_alloc | apply Kd.R_drewN | apply Kd.R_drew)); exact HO400.out))) (Kd.R_lt (by (with_reducible repeat (first | apply Kd.R_alloc | apply Kd.R_drewN | apply Kd.R_drew)); exact HO406.out))) (g := gb383) (o := .cells #[.int .i64 t379, .int .i64 t380, .int .i64 t381, .int .i64 t382] 44 (0, 0)) (by (with_reducible repeat (first | refine blk_drewN ?_ _ | refine blk_drew ?_ | refine blk_alloc ?_ _)); exact BK383.out)) (g := gb391) (o := .cells #[.int .i64 t386, .int .i64 t387, .int .i64 t388, .int .i64 t389] 44 (0, 0)) (by (with_reducible repeat (first | refine blk_drewN ?_ _ | refine blk_drew ?_ | refine blk_alloc ?_ _)); exact BK391.out)) (g := gb397) (o := .cells #[.int .i64 t392, .int .i64 t393, .int .i64 t394, .int .i64 t395] 44 (0, 0)) (by (with_reducible repeat (first | refine blk_drewN ?_ _ | refine blk_drew ?_ | refine blk_alloc ?_ _)); exact BK397.out)) (below_size (by repeat (first | (with_reducible first | exact HB.out | apply below_alloc | apply pw_below_drewN | apply below_drew1 | refine below_set ?_ GE383.out | refine below_set ?_ GE391.out | refine below_set ?_ GE397.out) | exact HB.out)))); have n3_ := Aside0.mk (blk_below (g := gb383) (o := .cells #[.int .i64 t379, .int .i64 t380, .int .i64 t381, .int .i64 t382] 44 (0, 0)) (by (with_reducible repeat (first | refine blk_drewN ?_ _ | refine blk_drew ?_ | refine blk_alloc ?_ _)); exact BK383.out) hb); have n4_ := Aside0.mk (blk_below (g := gb391) (o := .cells #[.int .i64 t386, .int .i64 t387, .int .i64 t388, .int .i64 t389] 44 (0, 0)) (by (with_reducible repeat (first | refine blk_drewN ?_ _ | refine blk_drew ?_ | refine blk_alloc ?_ _)); exact BK391.out) hb); have n5_ := Aside0.mk (blk_below (g := gb397) (o := .cells #[.int .i64 t392, .int .i64 t393, .int .i64 t394, .int .i64 t395] 44 (0, 0)) (by (with_reducible repeat (first | refine blk_drewN ?_ _ | refine blk_drew ?_ | refine blk_alloc ?_ _)); exact BK397.out) hb); have n6_ := Aside0.mk (below_step (by repeat (first | (with_reducible first | exact HB.out | apply below_alloc | apply pw_below_drewN | apply below_drew1 | refine below_set ?_ GE383.out | refine below_set ?_ GE391.out | refine below_set ?_ GE397.out) | exact HB.out)) hb); clear HO400; clear HO406; clear BK383; clear BK391; clear BK397; clear HB; have HO400 := n0_; have HO406 := n1_; have HO410 := n2_; have BK383 := n3_; have BK391 := n4_; have BK397 := n5_; have HB := n6_; clear n0_ n1_ n2_ n3_ n4_ n5_ n6_; (try clear hb); (try clear hb2); (try clear hk); (try clear hi); (try clear ho0)) | ((with_reducible refine gate_callee (f := 52) rfl ?_); refine goesL_ (some 59) rfl rfl Tryd.func52 (by kernel_rfl) rfl #[.slice A0 l0.length c0] rfl (by (try simp only [List.map_toArray, List.map_cons, List.map_nil]); first | done | rfl | (simp only [List.length_drop, List.length_take]; rfl)) ?_; (with_reducible refine (spec_DrawTxOk.calls k _ _ l0 t411 t412 t413 t414 _ ?side1 ?side2 A14.out).mono ?_); (case side1 => repeat (first | exact (Kd.C_below HR0.out HB.out) | (with_reducible refine Kd.C_alloc ?_ _) | (with_reducible refine Kd.C_drewN ?_ _) | (with_reducible refine Kd.C_drew ?_))); (case side2 => exact HC0.out); rintro e w36 ⟨rfl, hb⟩; refine ⟨_, rfl, ?_⟩; have n0_ := Aside0.mk (Kd.R_below (by (with_reducible repeat (first | apply Kd.R_alloc | apply Kd.R_drewN | apply Kd.R_drew)); exact HO400.out) hb); have n1_ := Aside0.mk (Kd.R_below (by (with_reducible repeat (first | apply Kd.R_alloc | apply Kd.R_drewN | apply Kd.R_drew)); exact HO406.out) hb); have n2_ := Aside0.mk (Kd.R_below (by (with_reducible repeat (first | apply Kd.R_alloc | apply Kd.R_drewN | apply Kd.R_drew)); exact HO410.out) hb); have n3_ := Aside0.mk (blk_below (g := gb383) (o := .cells #[.int .i64 t379, .int .i64 t380, .int .i64 t381, .int .i64 t382] 44 (0, 0)) (by (with_reducible repeat (first | refine blk_drewN ?_ _ | refine blk_drew ?_ | refine blk_alloc ?_ _)); exact BK383.out) hb); have n4_ := Aside0.mk (blk_below (g := gb391) (o := .cells #[.int .i64 t386, .int .i64 t387, .int .i64 t388, .int .i64 t389] 44 (0, 0)) (by (with_reducible repeat (first | refine blk_drewN ?_ _ | refine blk_drew ?_ | refine blk_alloc ?_ _)); exact BK391.out) hb); have n5_ := Aside0.mk (blk_below (g := gb397) (o := .cells #[.int .i64 t392, .int .i64 t393, .int .i64 t394, .int .i64 t395] 44 (0, 0)) (by (with_reducible repeat (first | refine blk_drewN ?_ _ | refine blk_drew ?_ | refine blk_alloc ?_ _)); exact BK397.out) hb); have n6_ := Aside0.mk (below_step (by repeat (first | (with_reducible first | exact HB.out | apply below_alloc | apply pw_below_drewN | apply below_drew1 | refine below_set ?_ GE383.out | refine below_set ?_ GE391.out | refine below_set ?_ GE397.out) | exact HB.out)) hb); clear HO400; clear HO406; clear HO410; clear BK383; clear BK391; clear BK397; clear HB; have HO400 := n0_; have HO406 := n1_; have HO410 := n2_; have BK383 := n3_; have BK391 := n4_; have BK397 := n5_; have HB := n6_; clear n0_ n1_ n2_ n3_ n4_ n5_ n6_; (try clear hb); (try clear hb2); (try clear hk); (try clear hi)) | ((with_reducible refine gate_dst (N := 17) rfl ?_); refine box_event ?hg (N := 17) ?hd (cs := #[.int .i64 0, .int .i64 0, .int .i64 0, .int .i64 0]) (t := 44) ?hr ?_; (case hd => rfl); (case hg => rfl); (case hr => first | (go_simp; done) | (go_simp; rfl)); intro gb415 hg w37 hbox hb; have n0_ := Aside0.mk (Kd.R_below (Kd.R_elderB (by (with_reducible repeat (first | apply Kd.R_alloc | apply Kd.R_drewN | apply Kd.R_drew)); exact HO400.out) gb415 (Nat.le_of_eq hg.symm)) hb); have n1_ := Aside0.mk (Kd.R_below (Kd.R_elderB (by (with_reducible repeat (first | apply Kd.R_alloc | apply Kd.R_drewN | apply Kd.R_drew)); exact HO406.out) gb415 (Nat.le_of_eq hg.symm)) hb); have n2_ := Aside0.mk (Kd.R_below (Kd.R_elderB (by (with_reducible repeat (first | apply Kd.R_alloc | apply Kd.R_drewN | apply Kd.R_drew)); exact HO410.out) gb415 (Nat.le_of_eq hg.symm)) hb); have n3_ := Aside0.mk (blk_below (g := gb383) (o := .cells #[.int .i64 t379, .int .i64 t380, .int .i64 t381, .int .i64 t382] 44 (0, 0)) (by (with_reducible repeat (first | refine blk_drewN ?_ _ | refine blk_drew ?_ | refine blk_alloc ?_ _)); exact BK383.out) hb); have n4_ := Aside0.mk (blk_below (g := gb391) (o := .cells #[.int .i64 t386, .int .i64 t387, .int .i64 t388, .int .i64 t389] 44 (0, 0)) (by (with_reducible repeat (first | refine blk_drewN ?_ _ | refine blk_drew ?_ | refine blk_alloc ?_ _)); exact BK391.out) hb); have n5_ := Aside0.mk (blk_below (g := gb397) (o := .cells #[.int .i64 t392, .int .i64 t393, .int .i64 t394, .int .i64 t395] 44 (0, 0)) (by (with_reducible repeat (first | refine blk_drewN ?_ _ | refine blk_drew ?_ | refine blk_alloc ?_ _)); exact BK397.out) hb); have n6_ := Aside0.mk (below_step (by repeat (first | (with_reducible first | exact HB.out | apply below_alloc | apply pw_below_drewN | apply below_drew1 | refine below_set ?_ GE383.out | refine below_set ?_ GE391.out | refine below_set ?_ GE397.out) | exact HB.out)) hb); have n7_ := Aside0.mk (hbox); have n8_ := Aside0.mk ((by rw [hg]; exact (below_size (by repeat (first | (with_reducible first | exact HB.out | apply below_alloc | apply pw_below_drewN | apply below_drew1 | refine below_set ?_ GE383.out | refine below_set ?_ GE391.out | refine below_set ?_ GE397.out) | exact HB.out))) : w.heap.size ≤ gb415)); have n9_ := Aside0.mk ((by rw [hg]; exact (below_size (by repeat (first | (with_reducible first | exact HB.out | apply below_alloc | apply pw_below_drewN | apply below_drew1 | refine below_set ?_ GE383.out | refine below_set ?_ GE391.out | refine below_set ?_ GE397.out) | exact HB.out))) : w.heap.size ≤ gb415)); have n10_ := Aside0.mk ((by rw [hg]; exact Nat.ne_of_lt (blk_lt (g := gb383) (o := .cells #[.int .i64 t379, .int .i64 t380, .int .i64 t381, .int .i64 t382] 44 (0, 0)) (by (with_reducible repeat (first | refine blk_drewN ?_ _ | refine blk_drew ?_ | refine blk_alloc ?_ _)); exact BK383.out)) : gb383 ≠ gb415)); have n11_ := Aside0.mk ((by rw [hg]; exact Nat.ne_of_gt (blk_lt (g := gb383) (o := .cells #[.int .i64 t379, .int .i64 t380, .int .i64 t381, .int .i64 t382] 44 (0, 0)) (by (with_reducible repeat (first | refine blk_drewN ?_ _ | refine blk_drew ?_ | refine blk_alloc ?_ _)); exact BK383.out)) : gb415 ≠ gb383)); have n12_ := Aside0.mk ((by rw [hg]; exact Nat.ne_of_lt (blk_lt (g := gb391) (o := .cells #[.int .i64 t386, .int .i64 t387, .int .i64 t388, .int .i64 t389] 44 (0, 0)) (by (with_reducible repeat (first | refine blk_drewN ?_ _ | refine blk_drew ?_ | refine blk_alloc ?_ _)); exact BK391.out)) : gb391 ≠ gb415)); have n13_ := Aside0.mk ((by rw [hg]; exact Nat.ne_of_gt (blk_lt (g := gb391) (o := .cells #[.int .i64 t386, .int .i64 t387, .int .i64 t388, .int .i64 t389] 44 (0, 0)) (by (with_reducible repeat (first | refine blk_drewN ?_ _ | refine blk_drew ?_ | refine blk_alloc ?_ _)); exact BK391.out)) : gb415 ≠ gb391)); have n14_ := Aside0.mk ((by rw [hg]; exact Nat.ne_of_lt (blk_lt (g := gb397) (o := .cells #[.int .i64 t392, .int .i64 t393, .int .i64 t394, .int .i64 t395] 44 (0, 0)) (by (with_reducible repeat (first | refine blk_drewN ?_ _ | refine blk_drew ?_ | refine blk_alloc ?_ _)); exact BK397.out)) : gb397 ≠ gb415)); have n15_ := Aside0.mk ((by rw [hg]; exact Nat.ne_of_gt (blk_lt (g := gb397) (o := .cells #[.int .i64 t392, .int .i64 t393, .int .i64 t394, .int .i64 t395] 44 (0, 0)) (by (with_reducible repeat (first | refine blk_drewN ?_ _ | refine blk_drew ?_ | refine blk_alloc ?_ _)); exact BK397.out)) : gb415 ≠ gb397)); clear HO400; clear HO406; clear HO410; clear BK383; clear BK391; clear BK397; clear HB; have HO400 := n0_; have HO406 := n1_; have HO410 := n2_; have BK383 := n3_; have BK391 := n4_; have BK397 := n5_; have HB := n6_; have BK415 := n7_; have GW415 := n8_; have GE415 := n9_; have NB383_415 := n10_; have NB415_383 := n11_; have NB391_415 := n12_; have NB415_391 := n13_; have NB397_415 := n14_; have NB415_397 := n15_; clear n0_ n1_ n2_ n3_ n4_ n5_ n6_ n7_ n8_ n9_ n10_ n11_ n12_ n13_ n14_ n15_; clear hb hbox hg; have hnb38 := NB415_383.out; have hnc38 := NB383_415.out; have hnb39 := NB415_391.out; have hnc39 := NB391_415.out; have hnb40 := NB415_397.out; have hnc40 := NB397_415.out; have hcz41_0 : w37.cell? ⟨gb415, 0, none⟩ = some (.int .i64 0) := (blk_cell BK415.out 0).trans rfl; have hcz41_1 : w37.cell? ⟨gb415, 1, none⟩ = some (.int .i64 0) := (blk_cell BK415.out 1).trans rfl; have hcz41_2 : w37.cell? ⟨gb415, 2, none⟩ = some (.int .i64 0) := (blk_cell BK415.out 2).trans rfl; have hcz41_3 : w37.cell? ⟨gb415, 3, none⟩ = some (.int .i64 0) := (blk_cell BK415.out 3).trans rfl; have hfz41_0 := blk_frozen BK415.out 0; have hfz41_1 := blk_frozen BK415.out 1; have hfz41_2 := blk_frozen BK415.out 2; have hfz41_3 := blk_frozen BK415.out 3))
    (try simp only [Act.put, List.setIfInBounds_toArray, List.set_cons_zero, List.set_cons_succ])
    go_cut [97] (fun v97 wc => ∃ (kq : Nat) (x97_14 : Bool), v97 = .bool x97_14 ∧ Aside0 (laws_FnTxs.j0 kq t384 t385 t390 t398 t401 t402 t403 t404 x97_14 t379 t380 t381 t382 t386 t387 t388 t389 = some r) ∧ Aside0 (kq ≤ k) ∧ Aside0 (Kd.R k44 44 wc w.heap.size (fun k_ => some k_ ≠ (v405 : Value).ownBlock ∧ k_ ≠ gb383 ∧ k_ ≠ gb391 ∧ k_ ≠ gb397 ∧ k_ ≠ gb415) (.slice Ao31 t398.length co31) t398) ∧ Aside0 (Kd.R k44 44 wc w.heap.size (fun k_ => some k_ ≠ ((.slice Ao31 t398.length co31) : Value).ownBlock ∧ k_ ≠ gb383 ∧ k_ ≠ gb391 ∧ k_ ≠ gb397 ∧ k_ ≠ gb415) v405 t403) ∧ Aside0 (wc.heap[gb383]? = some (.cells #[.int .i64 t379, .int .i64 t380, .int .i64 t381, .int .i64 t382] 44 (0, 0))) ∧ Aside0 (wc.heap[gb391]? = some (.cells #[.int .i64 t386, .int .i64 t387, .int .i64 t388, .int .i64 t389] 44 (0, 0))) ∧ Aside0 (wc.heap[gb397]? = some (.cells #[.int .i64 t392, .int .i64 t393, .int .i64 t394, .int .i64 t395] 44 (0, 0))) ∧ Aside0 (wc.heap[gb415]? = some (.cells #[.int .i64 t411, .int .i64 t412, .int .i64 t413, .int .i64 t414] 44 (0, 0))) ∧ Aside0 (Below w.heap.size w wc))
    case first =>
      have H := HC15.out
      clear HC15
      replace H := Option.bind_eq_some_iff.mp H
      obtain ⟨t416, A420, H⟩ := H
      replace H : (if t384.toList = t416.toList then (if (t390 != t396) = true then (none) else (if (!(t386 == t392) || (!(t387 == t393) || (!(t388 == t394) || (!(t389 == t395))))) = true then (none) else ((spec_TxsText.f k t398).bind fun t417 => (if t401.toList = t417.toList then (if (t404 != t408) = true then (none) else ((laws_sameTxs.f k t403 t407).bind fun t418 => (if t418 = true then ((impl_TxOk.f t411 t412 t413 t414).bind fun t419 => ((spec_TxOk.f t411 t412 t413 t414).bind fun t420 => (laws_FnTxs.j0 k t384 t385 t390 t398 t401 t402 t403 t404 (t419 != t420) t379 t380 t381 t382 t386 t387 t388 t389))) else (none)))) else (none))))) else (none)) = some r := H
      have A42 := Aside0.mk A420
      clear A420
      by_cases c43 : t384.toList = t416.toList
      · rw [if_pos c43] at H
        have c43b0 : (t384.toList == t416.toList) = true := beq_iff_eq.mpr c43
        have c43b1 : (t384.toList != t416.toList) = false := bne_eq_false_iff_eq.mpr c43
        clear c43
        (first | rw [c43b0] | (simp only [i64_w, i32_w]; rw [c43b0]) | skip)
        by_cases c44 : (t390 != t396) = true
        · rw [if_pos c44] at H
          have c44b0 : (t390 != t396) = true := c44
          (try (have c44b1 : decide (t390 = t396) = false := by simpa using c44))
          (try (have c44b2 : (t390 == t396) = false := by simpa using c44))
          (try (have c44b3 : ¬ (t390 = t396) := by simpa using c44))
          clear c44
          exact absurd H (by simp)
        · rw [if_neg c44] at H
          have c44b0 : (t390 != t396) = false := by simpa using c44
          (try (have c44b1 : decide (t390 = t396) = true := by simpa using c44))
          (try (have c44b2 : (t390 == t396) = true := by simpa using c44))
          clear c44
          by_cases c45 : (!(t386 == t392) || (!(t387 == t393) || (!(t388 == t394) || (!(t389 == t395))))) = true
          · rw [if_pos c45] at H
            have c45b0 : (!(t386 == t392) || (!(t387 == t393) || (!(t388 == t394) || (!(t389 == t395))))) = true := c45
            clear c45
            exact absurd H (by simp)
          · rw [if_neg c45] at H
            have c45b0 : (!(t386 == t392) || (!(t387 == t393) || (!(t388 == t394) || (!(t389 == t395))))) = false := by simpa using c45
            clear c45
            replace H := Option.bind_eq_some_iff.mp H
            obtain ⟨t417, A460, H⟩ := H
            replace H : (if t401.toList = t417.toList then (if (t404 != t408) = true then (none) else ((laws_sameTxs.f k t403 t407).bind fun t418 => (if t418 = true then ((impl_TxOk.f t411 t412 t413 t414).bind fun t419 => ((spec_TxOk.f t411 t412 t413 t414).bind fun t420 => (laws_FnTxs.j0 k t384 t385 t390 t398 t401 t402 t403 t404 (t419 != t420) t379 t380 t381 t382 t386 t387 t388 t389))) else (none)))) else (none)) = some r := H
            have A46 := Aside0.mk A460
            clear A460
            by_cases c47 : t401.toList = t417.toList
            · rw [if_pos c47] at H
              have c47b0 : (t401.toList == t417.toList) = true := beq_iff_eq.mpr c47
              have c47b1 : (t401.toList != t417.toList) = false := bne_eq_false_iff_eq.mpr c47
              clear c47
              by_cases c48 : (t404 != t408) = true
              · rw [if_pos c48] at H
                have c48b0 : (t404 != t408) = true := c48
                (try (have c48b1 : decide (t404 = t408) = false := by simpa using c48))
                (try (have c48b2 : (t404 == t408) = false := by simpa using c48))
                (try (have c48b3 : ¬ (t404 = t408) := by simpa using c48))
                clear c48
                exact absurd H (by simp)
              · rw [if_neg c48] at H
                have c48b0 : (t404 != t408) = false := by simpa using c48
                (try (have c48b1 : decide (t404 = t408) = true := by simpa using c48))
                (try (have c48b2 : (t404 == t408) = true := by simpa using c48))
                clear c48
                replace H := Option.bind_eq_some_iff.mp H
                obtain ⟨t418, A490, H⟩ := H
                replace H : (if t418 = true then ((impl_TxOk.f t411 t412 t413 t414).bind fun t419 => ((spec_TxOk.f t411 t412 t413 t414).bind fun t420 => (laws_FnTxs.j0 k t384 t385 t390 t398 t401 t402 t403 t404 (t419 != t420) t379 t380 t381 t382 t386 t387 t388 t389))) else (none)) = some r := H
                have A49 := Aside0.mk A490
                clear A490
                by_cases c50 : t418 = true
                · subst c50
                  have H1 : ((impl_TxOk.f t411 t412 t413 t414).bind fun t419 => ((spec_TxOk.f t411 t412 t413 t414).bind fun t420 => (laws_FnTxs.j0 k t384 t385 t390 t398 t401 t402 t403 t404 (t419 != t420) t379 t380 t381 t382 t386 t387 t388 t389))) = some r := by rw [if_pos rfl] at H; exact H
                  clear H
                  have H := H1
                  clear H1
                  replace H := Option.bind_eq_some_iff.mp H
                  obtain ⟨t419, A510, H⟩ := H
                  replace H : ((spec_TxOk.f t411 t412 t413 t414).bind fun t420 => (laws_FnTxs.j0 k t384 t385 t390 t398 t401 t402 t403 t404 (t419 != t420) t379 t380 t381 t382 t386 t387 t388 t389)) = some r := H
                  have A51 := Aside0.mk A510
                  clear A510
                  replace H := Option.bind_eq_some_iff.mp H
                  obtain ⟨t420, A520, H⟩ := H
                  replace H : (laws_FnTxs.j0 k t384 t385 t390 t398 t401 t402 t403 t404 (t419 != t420) t379 t380 t381 t382 t386 t387 t388 t389) = some r := H
                  have A52 := Aside0.mk A520
                  clear A520
                  have H' := Aside0.mk H
                  clear H
                  try go_wp2
                  have n0_ : Aside0 (Kd.R k44 44 ((((w37.setCell ⟨gb415, 0, none⟩ (.int .i64 t411)).setCell ⟨gb415, 1, none⟩ (.int .i64 t412)).setCell ⟨gb415, 2, none⟩ (.int .i64 t413)).setCell ⟨gb415, 3, none⟩ (.int .i64 t414)) w.heap.size (fun k_ => some k_ ≠ (v405 : Value).ownBlock ∧ some k_ ≠ (v409 : Value).ownBlock ∧ k_ ≠ gb383 ∧ k_ ≠ gb391 ∧ k_ ≠ gb397 ∧ k_ ≠ gb415) (.slice Ao31 t398.length co31) t398) := ⟨by (with_reducible repeat (first | apply Kd.R_alloc | apply Kd.R_drewN | apply Kd.R_drew)); exact Kd.R_mono (Kd.R_far (p := ⟨gb415, 3, none⟩) (Kd.R_far (p := ⟨gb415, 2, none⟩) (Kd.R_far (p := ⟨gb415, 1, none⟩) (Kd.R_far (p := ⟨gb415, 0, none⟩) (Kd.R_mono HO400.out (fun k_ hk => (⟨hk, hk.2⟩ : _ ∧ k_ ≠ gb415))) (fun _ hk => hk.2) (.int .i64 t411)) (fun _ hk => hk.2) (.int .i64 t412)) (fun _ hk => hk.2) (.int .i64 t413)) (fun _ hk => hk.2) (.int .i64 t414)) (fun _ hk => ⟨hk.1.1.1.2, ⟨hk.1.1.2, ⟨hk.1.1.1.1.1.1.2, ⟨hk.1.1.1.1.1.2, ⟨hk.1.1.1.1.2, hk.1.2⟩⟩⟩⟩⟩)⟩
                  have n1_ : Aside0 (Kd.R k44 44 ((((w37.setCell ⟨gb415, 0, none⟩ (.int .i64 t411)).setCell ⟨gb415, 1, none⟩ (.int .i64 t412)).setCell ⟨gb415, 2, none⟩ (.int .i64 t413)).setCell ⟨gb415, 3, none⟩ (.int .i64 t414)) w.heap.size (fun k_ => some k_ ≠ (.slice Ao31 t398.length co31 : Value).ownBlock ∧ some k_ ≠ (v409 : Value).ownBlock ∧ k_ ≠ gb383 ∧ k_ ≠ gb391 ∧ k_ ≠ gb397 ∧ k_ ≠ gb415) v405 t403) := ⟨by (with_reducible repeat (first | apply Kd.R_alloc | apply Kd.R_drewN | apply Kd.R_drew)); exact Kd.R_mono (Kd.R_far (p := ⟨gb415, 3, none⟩) (Kd.R_far (p := ⟨gb415, 2, none⟩) (Kd.R_far (p := ⟨gb415, 1, none⟩) (Kd.R_far (p := ⟨gb415, 0, none⟩) (Kd.R_mono HO406.out (fun k_ hk => (⟨hk, hk.2⟩ : _ ∧ k_ ≠ gb415))) (fun _ hk => hk.2) (.int .i64 t411)) (fun _ hk => hk.2) (.int .i64 t412)) (fun _ hk => hk.2) (.int .i64 t413)) (fun _ hk => hk.2) (.int .i64 t414)) (fun _ hk => ⟨hk.1.1.1.1.1.1.2, ⟨hk.1.1.2, ⟨hk.1.1.1.1.1.2, ⟨hk.1.1.1.1.2, ⟨hk.1.1.1.2, hk.1.2⟩⟩⟩⟩⟩)⟩
                  have n2_ : Aside0 (Kd.R k44 44 ((((w37.setCell ⟨gb415, 0, none⟩ (.int .i64 t411)).setCell ⟨gb415, 1, none⟩ (.int .i64 t412)).setCell ⟨gb415, 2, none⟩ (.int .i64 t413)).setCell ⟨gb415, 3, none⟩ (.int .i64 t414)) w.heap.size (fun k_ => some k_ ≠ (.slice Ao31 t398.length co31 : Value).ownBlock ∧ some k_ ≠ (v405 : Value).ownBlock ∧ k_ ≠ gb383 ∧ k_ ≠ gb391 ∧ k_ ≠ gb397 ∧ k_ ≠ gb415) v409 t407) := ⟨by (with_reducible repeat (first | apply Kd.R_alloc | apply Kd.R_drewN | apply Kd.R_drew)); exact Kd.R_mono (Kd.R_far (p := ⟨gb415, 3, none⟩) (Kd.R_far (p := ⟨gb415, 2, none⟩) (Kd.R_far (p := ⟨gb415, 1, none⟩) (Kd.R_far (p := ⟨gb415, 0, none⟩) (Kd.R_mono HO410.out (fun k_ hk => (⟨hk, hk.2⟩ : _ ∧ k_ ≠ gb415))) (fun _ hk => hk.2) (.int .i64 t411)) (fun _ hk => hk.2) (.int .i64 t412)) (fun _ hk => hk.2) (.int .i64 t413)) (fun _ hk => hk.2) (.int .i64 t414)) (fun _ hk => ⟨hk.1.1.1.1.1.1.2, ⟨hk.1.1.1.1.1.2, ⟨hk.1.1.1.1.2, ⟨hk.1.1.1.2, ⟨hk.1.1.2, hk.1.2⟩⟩⟩⟩⟩)⟩
                  have n3_ : Aside0 (((((w37.setCell ⟨gb415, 0, none⟩ (.int .i64 t411)).setCell ⟨gb415, 1, none⟩ (.int .i64 t412)).setCell ⟨gb415, 2, none⟩ (.int .i64 t413)).setCell ⟨gb415, 3, none⟩ (.int .i64 t414)).heap[gb383]? = some (.cells #[.int .i64 t379, .int .i64 t380, .int .i64 t381, .int .i64 t382] 44 (0, 0))) := ⟨by (with_reducible repeat (first | refine blk_drewN ?_ _ | refine blk_drew ?_ | refine blk_alloc ?_ _)); refine blk_far ?_ NB383_415.out _; (with_reducible repeat (first | refine blk_drewN ?_ _ | refine blk_drew ?_ | refine blk_alloc ?_ _)); refine blk_far ?_ NB383_415.out _; (with_reducible repeat (first | refine blk_drewN ?_ _ | refine blk_drew ?_ | refine blk_alloc ?_ _)); refine blk_far ?_ NB383_415.out _; (with_reducible repeat (first | refine blk_drewN ?_ _ | refine blk_drew ?_ | refine blk_alloc ?_ _)); refine blk_far ?_ NB383_415.out _; (with_reducible repeat (first | refine blk_drewN ?_ _ | refine blk_drew ?_ | refine blk_alloc ?_ _)); exact BK383.out⟩
                  have n4_ : Aside0 (((((w37.setCell ⟨gb415, 0, none⟩ (.int .i64 t411)).setCell ⟨gb415, 1, none⟩ (.int .i64 t412)).setCell ⟨gb415, 2, none⟩ (.int .i64 t413)).setCell ⟨gb415, 3, none⟩ (.int .i64 t414)).heap[gb391]? = some (.cells #[.int .i64 t386, .int .i64 t387, .int .i64 t388, .int .i64 t389] 44 (0, 0))) := ⟨by (with_reducible repeat (first | refine blk_drewN ?_ _ | refine blk_drew ?_ | refine blk_alloc ?_ _)); refine blk_far ?_ NB391_415.out _; (with_reducible repeat (first | refine blk_drewN ?_ _ | refine blk_drew ?_ | refine blk_alloc ?_ _)); refine blk_far ?_ NB391_415.out _; (with_reducible repeat (first | refine blk_drewN ?_ _ | refine blk_drew ?_ | refine blk_alloc ?_ _)); refine blk_far ?_ NB391_415.out _; (with_reducible repeat (first | refine blk_drewN ?_ _ | refine blk_drew ?_ | refine blk_alloc ?_ _)); refine blk_far ?_ NB391_415.out _; (with_reducible repeat (first | refine blk_drewN ?_ _ | refine blk_drew ?_ | refine blk_alloc ?_ _)); exact BK391.out⟩
                  have n5_ : Aside0 (((((w37.setCell ⟨gb415, 0, none⟩ (.int .i64 t411)).setCell ⟨gb415, 1, none⟩ (.int .i64 t412)).setCell ⟨gb415, 2, none⟩ (.int .i64 t413)).setCell ⟨gb415, 3, none⟩ (.int .i64 t414)).heap[gb397]? = some (.cells #[.int .i64 t392, .int .i64 t393, .int .i64 t394, .int .i64 t395] 44 (0, 0))) := ⟨by (with_reducible repeat (first | refine blk_drewN ?_ _ | refine blk_drew ?_ | refine blk_alloc ?_ _)); refine blk_far ?_ NB397_415.out _; (with_reducible repeat (first | refine blk_drewN ?_ _ | refine blk_drew ?_ | refine blk_alloc ?_ _)); refine blk_far ?_ NB397_415.out _; (with_reducible repeat (first | refine blk_drewN ?_ _ | refine blk_drew ?_ | refine blk_alloc ?_ _)); refine blk_far ?_ NB397_415.out _; (with_reducible repeat (first | refine blk_drewN ?_ _ | refine blk_drew ?_ | refine blk_alloc ?_ _)); refine blk_far ?_ NB397_415.out _; (with_reducible repeat (first | refine blk_drewN ?_ _ | refine blk_drew ?_ | refine blk_alloc ?_ _)); exact BK397.out⟩
                  have n6_ : Aside0 (((((w37.setCell ⟨gb415, 0, none⟩ (.int .i64 t411)).setCell ⟨gb415, 1, none⟩ (.int .i64 t412)).setCell ⟨gb415, 2, none⟩ (.int .i64 t413)).setCell ⟨gb415, 3, none⟩ (.int .i64 t414)).heap[gb415]? = some (.cells #[.int .i64 t411, .int .i64 t412, .int .i64 t413, .int .i64 t414] 44 (0, 0))) := ⟨by (with_reducible repeat (first | refine blk_drewN ?_ _ | refine blk_drew ?_ | refine blk_alloc ?_ _)); refine blk_put (cs := #[.int .i64 t411, .int .i64 t412, .int .i64 t413, .int .i64 0]) ?_ 3 _ rfl; (with_reducible repeat (first | refine blk_drewN ?_ _ | refine blk_drew ?_ | refine blk_alloc ?_ _)); refine blk_put (cs := #[.int .i64 t411, .int .i64 t412, .int .i64 0, .int .i64 0]) ?_ 2 _ rfl; (with_reducible repeat (first | refine blk_drewN ?_ _ | refine blk_drew ?_ | refine blk_alloc ?_ _)); refine blk_put (cs := #[.int .i64 t411, .int .i64 0, .int .i64 0, .int .i64 0]) ?_ 1 _ rfl; (with_reducible repeat (first | refine blk_drewN ?_ _ | refine blk_drew ?_ | refine blk_alloc ?_ _)); refine blk_put (cs := #[.int .i64 0, .int .i64 0, .int .i64 0, .int .i64 0]) ?_ 0 _ rfl; (with_reducible repeat (first | refine blk_drewN ?_ _ | refine blk_drew ?_ | refine blk_alloc ?_ _)); exact BK415.out⟩
                  have n7_ : Aside0 (Below w.heap.size w ((((w37.setCell ⟨gb415, 0, none⟩ (.int .i64 t411)).setCell ⟨gb415, 1, none⟩ (.int .i64 t412)).setCell ⟨gb415, 2, none⟩ (.int .i64 t413)).setCell ⟨gb415, 3, none⟩ (.int .i64 t414))) := ⟨by repeat (first | (with_reducible first | exact HB.out | apply below_alloc | apply pw_below_drewN | apply below_drew1 | refine below_set ?_ GE383.out | refine below_set ?_ GE391.out | refine below_set ?_ GE397.out | refine below_set ?_ GE415.out) | exact HB.out)⟩
                  (try clear HO400)
                  (try clear HO406)
                  (try clear HO410)
                  (try clear BK383)
                  (try clear BK391)
                  (try clear BK397)
                  (try clear BK415)
                  (try clear HB)
                  generalize ((((w37.setCell ⟨gb415, 0, none⟩ (.int .i64 t411)).setCell ⟨gb415, 1, none⟩ (.int .i64 t412)).setCell ⟨gb415, 2, none⟩ (.int .i64 t413)).setCell ⟨gb415, 3, none⟩ (.int .i64 t414)) = w53 at n0_ n1_ n2_ n3_ n4_ n5_ n6_ n7_ ⊢
                  have HO400 := n0_
                  have HO406 := n1_
                  have HO410 := n2_
                  have BK383 := n3_
                  have BK391 := n4_
                  have BK397 := n5_
                  have BK415 := n6_
                  have HB := n7_
                  clear n0_ n1_ n2_ n3_ n4_ n5_ n6_ n7_
                  have n0_ := Aside0.mk (Kd.R_drew HO400.out)
                  have n1_ := Aside0.mk (Kd.R_drew HO406.out)
                  have n2_ := Aside0.mk (Kd.R_drew HO410.out)
                  have n3_ := Aside0.mk (blk_drew BK383.out)
                  have n4_ := Aside0.mk (blk_drew BK391.out)
                  have n5_ := Aside0.mk (blk_drew BK397.out)
                  have n6_ := Aside0.mk (blk_drew BK415.out)
                  have n7_ := Aside0.mk (below_drew1 HB.out)
                  clear HO400
                  clear HO406
                  clear HO410
                  clear BK383
                  clear BK391
                  clear BK397
                  clear BK415
                  clear HB
                  have HO400 := n0_
                  have HO406 := n1_
                  have HO410 := n2_
                  have BK383 := n3_
                  have BK391 := n4_
                  have BK397 := n5_
                  have BK415 := n6_
                  have HB := n7_
                  clear n0_ n1_ n2_ n3_ n4_ n5_ n6_ n7_
                  refine start_ (n := 38) (S := fun w' => w'.cell? ⟨gb383, 0, none⟩ = some (.int .i64 t379) ∧ w'.cell? ⟨gb383, 1, none⟩ = some (.int .i64 t380) ∧ w'.cell? ⟨gb383, 2, none⟩ = some (.int .i64 t381) ∧ w'.cell? ⟨gb383, 3, none⟩ = some (.int .i64 t382) ∧ w'.cell? ⟨gb391, 0, none⟩ = some (.int .i64 t386) ∧ w'.cell? ⟨gb391, 1, none⟩ = some (.int .i64 t387) ∧ w'.cell? ⟨gb391, 2, none⟩ = some (.int .i64 t388) ∧ w'.cell? ⟨gb391, 3, none⟩ = some (.int .i64 t389) ∧ w'.cell? ⟨gb397, 0, none⟩ = some (.int .i64 t392) ∧ w'.cell? ⟨gb397, 1, none⟩ = some (.int .i64 t393) ∧ w'.cell? ⟨gb397, 2, none⟩ = some (.int .i64 t394) ∧ w'.cell? ⟨gb397, 3, none⟩ = some (.int .i64 t395) ∧ w'.cell? ⟨gb415, 0, none⟩ = some (.int .i64 t411) ∧ w'.cell? ⟨gb415, 1, none⟩ = some (.int .i64 t412) ∧ w'.cell? ⟨gb415, 2, none⟩ = some (.int .i64 t413) ∧ w'.cell? ⟨gb415, 3, none⟩ = some (.int .i64 t414)) (ds := []) #[false, false, false, false, false, false, false, false, false, false, false, false, false, false, false, false, false, false, false, false, false, false, false, false, false, false, false, false, false, false, false, false, false, false, false, false, false, false] (by kernel_rfl) rfl rfl ⟨(blk_cell BK383.out 0).trans rfl, (blk_cell BK383.out 1).trans rfl, (blk_cell BK383.out 2).trans rfl, (blk_cell BK383.out 3).trans rfl, (blk_cell BK391.out 0).trans rfl, (blk_cell BK391.out 1).trans rfl, (blk_cell BK391.out 2).trans rfl, (blk_cell BK391.out 3).trans rfl, (blk_cell BK397.out 0).trans rfl, (blk_cell BK397.out 1).trans rfl, (blk_cell BK397.out 2).trans rfl, (blk_cell BK397.out 3).trans rfl, (blk_cell BK415.out 0).trans rfl, (blk_cell BK415.out 1).trans rfl, (blk_cell BK415.out 2).trans rfl, (blk_cell BK415.out 3).trans rfl⟩ (fun hHeld => ?_); refine with_tabW laws_FnTxs.tab14 laws_FnTxs.bits14 (fun HT_ HW_ => ?_)
                  generalize w53.drew = w54 at HO400 HO406 HO410 BK383 BK391 BK397 BK415 HB hHeld ⊢
                  refine pure_ (i := 0) (N := some 60) (v := ?_) (a' := ?_) #[true, false, false, false, false, false, false, false, false, false, false, false, false, false, false, false, false, false, false, false, false, false, false, false, false, false, false, false, false, false, false, false, false, false, false, false, false, false] rfl rfl (any_of HT_.out (by kernel_rfl)) (fun _ _ _ h => h) (Or.inl ⟨by rfl, ?_⟩) ?_ ?_
                  rotate_left
                  · intro w'
                    go_simp
                    with_reducible rfl
                  rotate_left
                  · simp only [Act.put, List.setIfInBounds_toArray, List.set_cons_zero, List.set_cons_succ, i64_w, i32_w]
                    rfl
                  refine take_ (i := 1) (N := some 61) (v := ?_) (a' := ?_) #[true, true, false, false, false, false, false, false, false, false, false, false, false, false, false, false, false, false, false, false, false, false, false, false, false, false, false, false, false, false, false, false, false, false, false, false, false, false] rfl rfl (take_ofW HT_.out HW_.out (by kernel_rfl)) (fun _ _ _ h => h) (Or.inl ⟨by rfl, ?_⟩) hHeld ?_ ?_
                  rotate_left
                  · rintro w' ⟨s0, s1, s2, s3, s4, s5, s6, s7, s8, s9, s10, s11, s12, s13, s14, s15⟩
                    go_simp
                    with_reducible rfl
                  rotate_left
                  · simp only [Act.put, List.setIfInBounds_toArray, List.set_cons_zero, List.set_cons_succ, i64_w, i32_w]
                    rfl
                  refine one_ (i := 2) (N := some 62) #[true, true, true, false, false, false, false, false, false, false, false, false, false, false, false, false, false, false, false, false, false, false, false, false, false, false, false, false, false, false, false, false, false, false, false, false, false, false] rfl rfl (one_of HT_.out (by kernel_rfl)) (by decide) (fun K hK => ?_)
                  refine goes_ Tryd.func53 (by kernel_rfl) rfl #[.agg #[.int .i64 t379, .int .i64 t380, .int .i64 t381, .int .i64 t382]] (by rfl) rfl rfl (by (try simp only [List.map_toArray, List.map_cons, List.map_nil]); first | done | rfl | (simp only [List.length_drop, List.length_take]; rfl)) ?_
                  with_reducible refine (spec_TxText.calls k t379 t380 t381 t382 t416 _ A42.out).mono ?_
                  rintro e w55 ⟨rfl, hb⟩
                  refine ⟨_, rfl, ?_⟩
                  have n0_ := Aside0.mk (Kd.R_below (by (with_reducible repeat (first | apply Kd.R_alloc | apply Kd.R_drewN | apply Kd.R_drew)); exact HO400.out) hb)
                  have n1_ := Aside0.mk (Kd.R_below (by (with_reducible repeat (first | apply Kd.R_alloc | apply Kd.R_drewN | apply Kd.R_drew)); exact HO406.out) hb)
                  have n2_ := Aside0.mk (Kd.R_below (by (with_reducible repeat (first | apply Kd.R_alloc | apply Kd.R_drewN | apply Kd.R_drew)); exact HO410.out) hb)
                  have n3_ := Aside0.mk (blk_below (g := gb383) (o := .cells #[.int .i64 t379, .int .i64 t380, .int .i64 t381, .int .i64 t382] 44 (0, 0)) (by (with_reducible repeat (first | refine blk_drewN ?_ _ | refine blk_drew ?_ | refine blk_alloc ?_ _)); exact BK383.out) hb)
                  have n4_ := Aside0.mk (blk_below (g := gb391) (o := .cells #[.int .i64 t386, .int .i64 t387, .int .i64 t388, .int .i64 t389] 44 (0, 0)) (by (with_reducible repeat (first | refine blk_drewN ?_ _ | refine blk_drew ?_ | refine blk_alloc ?_ _)); exact BK391.out) hb)
                  have n5_ := Aside0.mk (blk_below (g := gb397) (o := .cells #[.int .i64 t392, .int .i64 t393, .int .i64 t394, .int .i64 t395] 44 (0, 0)) (by (with_reducible repeat (first | refine blk_drewN ?_ _ | refine blk_drew ?_ | refine blk_alloc ?_ _)); exact BK397.out) hb)
                  have n6_ := Aside0.mk (blk_below (g := gb415) (o := .cells #[.int .i64 t411, .int .i64 t412, .int .i64 t413, .int .i64 t414] 44 (0, 0)) (by (with_reducible repeat (first | refine blk_drewN ?_ _ | refine blk_drew ?_ | refine blk_alloc ?_ _)); exact BK415.out) hb)
                  have n7_ := Aside0.mk (below_step (by repeat (first | (with_reducible first | exact HB.out | apply below_alloc | apply pw_below_drewN | apply below_drew1 | refine below_set ?_ GE383.out | refine below_set ?_ GE391.out | refine below_set ?_ GE397.out | refine below_set ?_ GE415.out) | exact HB.out)) hb)
                  clear HO400
                  clear HO406
                  clear HO410
                  clear BK383
                  clear BK391
                  clear BK397
                  clear BK415
                  clear HB
                  have HO400 := n0_
                  have HO406 := n1_
                  have HO410 := n2_
                  have BK383 := n3_
                  have BK391 := n4_
                  have BK397 := n5_
                  have BK415 := n6_
                  have HB := n7_
                  clear n0_ n1_ n2_ n3_ n4_ n5_ n6_ n7_
                  (try clear hb)
                  (try clear hb2)
                  (try clear hk)
                  (try clear hi)
                  refine hK.out _ _ ⟨(blk_cell BK383.out 0).trans rfl, (blk_cell BK383.out 1).trans rfl, (blk_cell BK383.out 2).trans rfl, (blk_cell BK383.out 3).trans rfl, (blk_cell BK391.out 0).trans rfl, (blk_cell BK391.out 1).trans rfl, (blk_cell BK391.out 2).trans rfl, (blk_cell BK391.out 3).trans rfl, (blk_cell BK397.out 0).trans rfl, (blk_cell BK397.out 1).trans rfl, (blk_cell BK397.out 2).trans rfl, (blk_cell BK397.out 3).trans rfl, (blk_cell BK415.out 0).trans rfl, (blk_cell BK415.out 1).trans rfl, (blk_cell BK415.out 2).trans rfl, (blk_cell BK415.out 3).trans rfl⟩ (fun hHeld => ?_)
                  clear hK K
                  refine norm_ (a' := ?_) ?_ ?_
                  rotate_left
                  · show Act.put _ (some 62) _ = _
                    simp only [Act.put, List.setIfInBounds_toArray, List.set_cons_zero, List.set_cons_succ, i64_w, i32_w]
                    rfl
                  refine pure_ (i := 3) (N := some 63) (v := ?_) (a' := ?_) #[true, true, true, true, false, false, false, false, false, false, false, false, false, false, false, false, false, false, false, false, false, false, false, false, false, false, false, false, false, false, false, false, false, false, false, false, false, false] rfl rfl (any_of HT_.out (by kernel_rfl)) (fun _ _ _ h => h) (Or.inl ⟨by rfl, ?_⟩) ?_ ?_
                  rotate_left
                  · intro w'
                    go_simp
                    with_reducible rfl
                  rotate_left
                  · simp only [Act.put, List.setIfInBounds_toArray, List.set_cons_zero, List.set_cons_succ, i64_w, i32_w]
                    rfl
                  refine pure_ (i := 4) (N := some 64) (v := ?_) (a' := ?_) #[true, true, true, true, true, false, false, false, false, false, false, false, false, false, false, false, false, false, false, false, false, false, false, false, false, false, false, false, false, false, false, false, false, false, false, false, false, false] rfl rfl (any_of HT_.out (by kernel_rfl)) (fun _ _ _ h => h) (Or.inl ⟨by rfl, ?_⟩) ?_ ?_
                  rotate_left
                  · intro w'
                    go_simp
                    with_reducible rfl
                  rotate_left
                  · simp only [Act.put, List.setIfInBounds_toArray, List.set_cons_zero, List.set_cons_succ, i64_w, i32_w]
                    rfl
                  refine pure_ (i := 5) (N := some 65) (v := ?_) (a' := ?_) #[true, true, true, true, true, true, false, false, false, false, false, false, false, false, false, false, false, false, false, false, false, false, false, false, false, false, false, false, false, false, false, false, false, false, false, false, false, false] rfl rfl (any_of HT_.out (by kernel_rfl)) (fun _ _ _ h => h) (Or.inl ⟨by rfl, ?_⟩) ?_ ?_
                  rotate_left
                  · intro w'
                    go_simp
                    with_reducible rfl
                  rotate_left
                  · simp only [Act.put, List.setIfInBounds_toArray, List.set_cons_zero, List.set_cons_succ, i64_w, i32_w]
                    rfl
                  refine pure_ (i := 6) (N := some 66) (v := ?_) (a' := ?_) #[true, true, true, true, true, true, true, false, false, false, false, false, false, false, false, false, false, false, false, false, false, false, false, false, false, false, false, false, false, false, false, false, false, false, false, false, false, false] rfl rfl (any_of HT_.out (by kernel_rfl)) (fun _ _ _ h => h) (Or.inl ⟨by rfl, ?_⟩) ?_ ?_
                  rotate_left
                  · intro w'
                    go_simp
                    with_reducible rfl
                  rotate_left
                  · simp only [Act.put, List.setIfInBounds_toArray, List.set_cons_zero, List.set_cons_succ, i64_w, i32_w]
                    rfl
                  refine pure_ (i := 7) (N := some 67) (v := ?_) (a' := ?_) #[true, true, true, true, true, true, true, true, false, false, false, false, false, false, false, false, false, false, false, false, false, false, false, false, false, false, false, false, false, false, false, false, false, false, false, false, false, false] rfl rfl (any_of HT_.out (by kernel_rfl)) (fun _ _ _ h => h) (Or.inl ⟨by rfl, ?_⟩) ?_ ?_
                  rotate_left
                  · intro w'
                    go_simp
                    with_reducible rfl
                  rotate_left
                  · simp only [Act.put, List.setIfInBounds_toArray, List.set_cons_zero, List.set_cons_succ, i64_w, i32_w]
                    rfl
                  refine pure_ (i := 8) (N := some 68) (v := ?_) (a' := ?_) #[true, true, true, true, true, true, true, true, true, false, false, false, false, false, false, false, false, false, false, false, false, false, false, false, false, false, false, false, false, false, false, false, false, false, false, false, false, false] rfl rfl (any_of HT_.out (by kernel_rfl)) (fun _ _ _ h => h) (Or.inl ⟨by rfl, ?_⟩) ?_ ?_
                  rotate_left
                  · intro w'
                    go_simp
                    with_reducible rfl
                  rotate_left
                  · simp only [Act.put, List.setIfInBounds_toArray, List.set_cons_zero, List.set_cons_succ, i64_w, i32_w]
                    rfl
                  refine pure_ (i := 9) (N := some 69) (v := ?_) (a' := ?_) #[true, true, true, true, true, true, true, true, true, true, false, false, false, false, false, false, false, false, false, false, false, false, false, false, false, false, false, false, false, false, false, false, false, false, false, false, false, false] rfl rfl (any_of HT_.out (by kernel_rfl)) (fun _ _ _ h => h) (Or.inl ⟨by rfl, ?_⟩) ?_ ?_
                  rotate_left
                  · intro w'
                    go_simp
                    with_reducible rfl
                  rotate_left
                  · simp only [Act.put, List.setIfInBounds_toArray, List.set_cons_zero, List.set_cons_succ, i64_w, i32_w]
                    rfl
                  refine take_ (i := 10) (N := some 70) (v := ?_) (a' := ?_) #[true, true, true, true, true, true, true, true, true, true, true, false, false, false, false, false, false, false, false, false, false, false, false, false, false, false, false, false, false, false, false, false, false, false, false, false, false, false] rfl rfl (take_ofW HT_.out HW_.out (by kernel_rfl)) (fun _ _ _ h => h) (Or.inl ⟨by rfl, ?_⟩) hHeld ?_ ?_
                  rotate_left
                  · rintro w' ⟨s0, s1, s2, s3, s4, s5, s6, s7, s8, s9, s10, s11, s12, s13, s14, s15⟩
                    go_simp
                    with_reducible rfl
                  rotate_left
                  · simp only [Act.put, List.setIfInBounds_toArray, List.set_cons_zero, List.set_cons_succ, i64_w, i32_w]
                    rfl
                  refine take_ (i := 11) (N := some 71) (v := ?_) (a' := ?_) #[true, true, true, true, true, true, true, true, true, true, true, true, false, false, false, false, false, false, false, false, false, false, false, false, false, false, false, false, false, false, false, false, false, false, false, false, false, false] rfl rfl (take_ofW HT_.out HW_.out (by kernel_rfl)) (fun _ _ _ h => h) (Or.inl ⟨by rfl, ?_⟩) hHeld ?_ ?_
                  rotate_left
                  · rintro w' ⟨s0, s1, s2, s3, s4, s5, s6, s7, s8, s9, s10, s11, s12, s13, s14, s15⟩
                    go_simp
                    with_reducible rfl
                  rotate_left
                  · simp only [Act.put, List.setIfInBounds_toArray, List.set_cons_zero, List.set_cons_succ, i64_w, i32_w]
                    rfl
                  refine pure_ (i := 12) (N := some 72) (v := ?_) (a' := ?_) #[true, true, true, true, true, true, true, true, true, true, true, true, true, false, false, false, false, false, false, false, false, false, false, false, false, false, false, false, false, false, false, false, false, false, false, false, false, false] rfl rfl (any_of HT_.out (by kernel_rfl)) (fun _ _ _ h => h) (Or.inl ⟨by rfl, ?_⟩) ?_ ?_
                  rotate_left
                  · intro w'
                    go_simp
                    with_reducible rfl
                  rotate_left
                  · simp only [Act.put, List.setIfInBounds_toArray, List.set_cons_zero, List.set_cons_succ, i64_w, i32_w]
                    rfl
                  refine pure_ (i := 13) (N := some 73) (v := ?_) (a' := ?_) #[true, true, true, true, true, true, true, true, true, true, true, true, true, true, false, false, false, false, false, false, false, false, false, false, false, false, false, false, false, false, false, false, false, false, false, false, false, false] rfl rfl (any_of HT_.out (by kernel_rfl)) (fun _ _ _ h => h) (Or.inl ⟨by rfl, ?_⟩) ?_ ?_
                  rotate_left
                  · intro w'
                    go_simp
                    with_reducible rfl
                  rotate_left
                  · simp only [Act.put, List.setIfInBounds_toArray, List.set_cons_zero, List.set_cons_succ, i64_w, i32_w]
                    rfl
                  refine pure_ (i := 14) (N := some 74) (v := ?_) (a' := ?_) #[true, true, true, true, true, true, true, true, true, true, true, true, true, true, true, false, false, false, false, false, false, false, false, false, false, false, false, false, false, false, false, false, false, false, false, false, false, false] rfl rfl (any_of HT_.out (by kernel_rfl)) (fun _ _ _ h => h) (Or.inl ⟨by rfl, ?_⟩) ?_ ?_
                  rotate_left
                  · intro w'
                    go_simp
                    with_reducible rfl
                  rotate_left
                  · simp only [Act.put, List.setIfInBounds_toArray, List.set_cons_zero, List.set_cons_succ, i64_w, i32_w]
                    rfl
                  refine pure_ (i := 15) (N := some 75) (v := ?_) (a' := ?_) #[true, true, true, true, true, true, true, true, true, true, true, true, true, true, true, true, false, false, false, false, false, false, false, false, false, false, false, false, false, false, false, false, false, false, false, false, false, false] rfl rfl (any_of HT_.out (by kernel_rfl)) (fun _ _ _ h => h) (Or.inl ⟨by rfl, ?_⟩) ?_ ?_
                  rotate_left
                  · intro w'
                    go_simp
                    with_reducible rfl
                  rotate_left
                  · simp only [Act.put, List.setIfInBounds_toArray, List.set_cons_zero, List.set_cons_succ, i64_w, i32_w]
                    rfl
                  refine pure_ (i := 16) (N := some 76) (v := ?_) (a' := ?_) #[true, true, true, true, true, true, true, true, true, true, true, true, true, true, true, true, true, false, false, false, false, false, false, false, false, false, false, false, false, false, false, false, false, false, false, false, false, false] rfl rfl (any_of HT_.out (by kernel_rfl)) (fun _ _ _ h => h) (Or.inl ⟨by rfl, ?_⟩) ?_ ?_
                  rotate_left
                  · intro w'
                    go_simp
                    with_reducible rfl
                  rotate_left
                  · simp only [Act.put, List.setIfInBounds_toArray, List.set_cons_zero, List.set_cons_succ, i64_w, i32_w]
                    rfl
                  refine one_ (i := 17) (N := some 77) #[true, true, true, true, true, true, true, true, true, true, true, true, true, true, true, true, true, true, false, false, false, false, false, false, false, false, false, false, false, false, false, false, false, false, false, false, false, false] rfl rfl (one_of HT_.out (by kernel_rfl)) (by decide) (fun K hK => ?_)
                  refine goes_ Tryd.func54 (by kernel_rfl) rfl #[.slice Ao31 t398.length co31] (by rfl) rfl rfl (by (try simp only [List.map_toArray, List.map_cons, List.map_nil]); first | done | rfl | (simp only [List.length_drop, List.length_take]; rfl)) ?_
                  with_reducible refine (spec_TxsText.calls k _ _ t398 t417 _ ?side1 ?side2 A46.out).mono ?_
                  (case side1 => repeat (first | exact (Kd.R_reads' HO400.out).2.2 | (with_reducible refine Kd.C_alloc ?_ _) | (with_reducible refine Kd.C_drewN ?_ _) | (with_reducible refine Kd.C_drew ?_)))
                  (case side2 => exact (Kd.R_reads' HO400.out).2.1)
                  rintro e w56 ⟨rfl, hb⟩
                  refine ⟨_, rfl, ?_⟩
                  have n0_ := Aside0.mk (Kd.R_below (by (with_reducible repeat (first | apply Kd.R_alloc | apply Kd.R_drewN | apply Kd.R_drew)); exact HO400.out) hb)
                  have n1_ := Aside0.mk (Kd.R_below (by (with_reducible repeat (first | apply Kd.R_alloc | apply Kd.R_drewN | apply Kd.R_drew)); exact HO406.out) hb)
                  have n2_ := Aside0.mk (Kd.R_below (by (with_reducible repeat (first | apply Kd.R_alloc | apply Kd.R_drewN | apply Kd.R_drew)); exact HO410.out) hb)
                  have n3_ := Aside0.mk (blk_below (g := gb383) (o := .cells #[.int .i64 t379, .int .i64 t380, .int .i64 t381, .int .i64 t382] 44 (0, 0)) (by (with_reducible repeat (first | refine blk_drewN ?_ _ | refine blk_drew ?_ | refine blk_alloc ?_ _)); exact BK383.out) hb)
                  have n4_ := Aside0.mk (blk_below (g := gb391) (o := .cells #[.int .i64 t386, .int .i64 t387, .int .i64 t388, .int .i64 t389] 44 (0, 0)) (by (with_reducible repeat (first | refine blk_drewN ?_ _ | refine blk_drew ?_ | refine blk_alloc ?_ _)); exact BK391.out) hb)
                  have n5_ := Aside0.mk (blk_below (g := gb397) (o := .cells #[.int .i64 t392, .int .i64 t393, .int .i64 t394, .int .i64 t395] 44 (0, 0)) (by (with_reducible repeat (first | refine blk_drewN ?_ _ | refine blk_drew ?_ | refine blk_alloc ?_ _)); exact BK397.out) hb)
                  have n6_ := Aside0.mk (blk_below (g := gb415) (o := .cells #[.int .i64 t411, .int .i64 t412, .int .i64 t413, .int .i64 t414] 44 (0, 0)) (by (with_reducible repeat (first | refine blk_drewN ?_ _ | refine blk_drew ?_ | refine blk_alloc ?_ _)); exact BK415.out) hb)
                  have n7_ := Aside0.mk (below_step (by repeat (first | (with_reducible first | exact HB.out | apply below_alloc | apply pw_below_drewN | apply below_drew1 | refine below_set ?_ GE383.out | refine below_set ?_ GE391.out | refine below_set ?_ GE397.out | refine below_set ?_ GE415.out) | exact HB.out)) hb)
                  clear HO400
                  clear HO406
                  clear HO410
                  clear BK383
                  clear BK391
                  clear BK397
                  clear BK415
                  clear HB
                  have HO400 := n0_
                  have HO406 := n1_
                  have HO410 := n2_
                  have BK383 := n3_
                  have BK391 := n4_
                  have BK397 := n5_
                  have BK415 := n6_
                  have HB := n7_
                  clear n0_ n1_ n2_ n3_ n4_ n5_ n6_ n7_
                  (try clear hb)
                  (try clear hb2)
                  (try clear hk)
                  (try clear hi)
                  obtain ⟨Ao57, co57, eo57⟩ := Kd.R_slice HO406.out
                  (first | subst eo57 | (injection eo57 with f1_ f2_ f3_; have f4_ := f1_.symm; have f5_ := f3_.symm; clear f1_ f2_ f3_; subst f4_; subst f5_))
                  obtain ⟨Ao58, co58, eo58⟩ := Kd.R_slice HO410.out
                  (first | subst eo58 | (injection eo58 with f1_ f2_ f3_; have f4_ := f1_.symm; have f5_ := f3_.symm; clear f1_ f2_ f3_; subst f4_; subst f5_))
                  refine hK.out _ _ ⟨(blk_cell BK383.out 0).trans rfl, (blk_cell BK383.out 1).trans rfl, (blk_cell BK383.out 2).trans rfl, (blk_cell BK383.out 3).trans rfl, (blk_cell BK391.out 0).trans rfl, (blk_cell BK391.out 1).trans rfl, (blk_cell BK391.out 2).trans rfl, (blk_cell BK391.out 3).trans rfl, (blk_cell BK397.out 0).trans rfl, (blk_cell BK397.out 1).trans rfl, (blk_cell BK397.out 2).trans rfl, (blk_cell BK397.out 3).trans rfl, (blk_cell BK415.out 0).trans rfl, (blk_cell BK415.out 1).trans rfl, (blk_cell BK415.out 2).trans rfl, (blk_cell BK415.out 3).trans rfl⟩ (fun hHeld => ?_)
                  clear hK K
                  refine norm_ (a' := ?_) ?_ ?_
                  rotate_left
                  · show Act.put _ (some 77) _ = _
                    simp only [Act.put, List.setIfInBounds_toArray, List.set_cons_zero, List.set_cons_succ, i64_w, i32_w]
                    rfl
                  refine pure_ (i := 18) (N := some 78) (v := ?_) (a' := ?_) #[true, true, true, true, true, true, true, true, true, true, true, true, true, true, true, true, true, true, true, false, false, false, false, false, false, false, false, false, false, false, false, false, false, false, false, false, false, false] rfl rfl (any_of HT_.out (by kernel_rfl)) (fun _ _ _ h => h) (Or.inl ⟨by rfl, ?_⟩) ?_ ?_
                  rotate_left
                  · intro w'
                    go_simp
                    with_reducible rfl
                  rotate_left
                  · simp only [Act.put, List.setIfInBounds_toArray, List.set_cons_zero, List.set_cons_succ, i64_w, i32_w]
                    rfl
                  refine pure_ (i := 19) (N := some 79) (v := ?_) (a' := ?_) #[true, true, true, true, true, true, true, true, true, true, true, true, true, true, true, true, true, true, true, true, false, false, false, false, false, false, false, false, false, false, false, false, false, false, false, false, false, false] rfl rfl (any_of HT_.out (by kernel_rfl)) (fun _ _ _ h => h) (Or.inl ⟨by rfl, ?_⟩) ?_ ?_
                  rotate_left
                  · intro w'
                    go_simp
                    with_reducible rfl
                  rotate_left
                  · simp only [Act.put, List.setIfInBounds_toArray, List.set_cons_zero, List.set_cons_succ, i64_w, i32_w]
                    rfl
                  refine pure_ (i := 20) (N := some 80) (v := ?_) (a' := ?_) #[true, true, true, true, true, true, true, true, true, true, true, true, true, true, true, true, true, true, true, true, true, false, false, false, false, false, false, false, false, false, false, false, false, false, false, false, false, false] rfl rfl (any_of HT_.out (by kernel_rfl)) (fun _ _ _ h => h) (Or.inl ⟨by rfl, ?_⟩) ?_ ?_
                  rotate_left
                  · intro w'
                    go_simp
                    with_reducible rfl
                  rotate_left
                  · simp only [Act.put, List.setIfInBounds_toArray, List.set_cons_zero, List.set_cons_succ, i64_w, i32_w]
                    rfl
                  refine pure_ (i := 21) (N := some 81) (v := ?_) (a' := ?_) #[true, true, true, true, true, true, true, true, true, true, true, true, true, true, true, true, true, true, true, true, true, true, false, false, false, false, false, false, false, false, false, false, false, false, false, false, false, false] rfl rfl (any_of HT_.out (by kernel_rfl)) (fun _ _ _ h => h) (Or.inl ⟨by rfl, ?_⟩) ?_ ?_
                  rotate_left
                  · intro w'
                    go_simp
                    with_reducible rfl
                  rotate_left
                  · simp only [Act.put, List.setIfInBounds_toArray, List.set_cons_zero, List.set_cons_succ, i64_w, i32_w]
                    rfl
                  refine pure_ (i := 22) (N := some 82) (v := ?_) (a' := ?_) #[true, true, true, true, true, true, true, true, true, true, true, true, true, true, true, true, true, true, true, true, true, true, true, false, false, false, false, false, false, false, false, false, false, false, false, false, false, false] rfl rfl (any_of HT_.out (by kernel_rfl)) (fun _ _ _ h => h) (Or.inl ⟨by rfl, ?_⟩) ?_ ?_
                  rotate_left
                  · intro w'
                    go_simp
                    with_reducible rfl
                  rotate_left
                  · simp only [Act.put, List.setIfInBounds_toArray, List.set_cons_zero, List.set_cons_succ, i64_w, i32_w]
                    rfl
                  refine pure_ (i := 23) (N := some 83) (v := ?_) (a' := ?_) #[true, true, true, true, true, true, true, true, true, true, true, true, true, true, true, true, true, true, true, true, true, true, true, true, false, false, false, false, false, false, false, false, false, false, false, false, false, false] rfl rfl (any_of HT_.out (by kernel_rfl)) (fun _ _ _ h => h) (Or.inl ⟨by rfl, ?_⟩) ?_ ?_
                  rotate_left
                  · intro w'
                    go_simp
                    with_reducible rfl
                  rotate_left
                  · simp only [Act.put, List.setIfInBounds_toArray, List.set_cons_zero, List.set_cons_succ, i64_w, i32_w]
                    rfl
                  refine pure_ (i := 24) (N := some 84) (v := ?_) (a' := ?_) #[true, true, true, true, true, true, true, true, true, true, true, true, true, true, true, true, true, true, true, true, true, true, true, true, true, false, false, false, false, false, false, false, false, false, false, false, false, false] rfl rfl (any_of HT_.out (by kernel_rfl)) (fun _ _ _ h => h) (Or.inl ⟨by rfl, ?_⟩) ?_ ?_
                  rotate_left
                  · intro w'
                    go_simp
                    with_reducible rfl
                  rotate_left
                  · simp only [Act.put, List.setIfInBounds_toArray, List.set_cons_zero, List.set_cons_succ, i64_w, i32_w]
                    rfl
                  refine pure_ (i := 25) (N := some 85) (v := ?_) (a' := ?_) #[true, true, true, true, true, true, true, true, true, true, true, true, true, true, true, true, true, true, true, true, true, true, true, true, true, true, false, false, false, false, false, false, false, false, false, false, false, false] rfl rfl (any_of HT_.out (by kernel_rfl)) (fun _ _ _ h => h) (Or.inl ⟨by rfl, ?_⟩) ?_ ?_
                  rotate_left
                  · intro w'
                    go_simp
                    with_reducible rfl
                  rotate_left
                  · simp only [Act.put, List.setIfInBounds_toArray, List.set_cons_zero, List.set_cons_succ, i64_w, i32_w]
                    rfl
                  refine pure_ (i := 26) (N := some 86) (v := ?_) (a' := ?_) #[true, true, true, true, true, true, true, true, true, true, true, true, true, true, true, true, true, true, true, true, true, true, true, true, true, true, true, false, false, false, false, false, false, false, false, false, false, false] rfl rfl (any_of HT_.out (by kernel_rfl)) (fun _ _ _ h => h) (Or.inl ⟨by rfl, ?_⟩) ?_ ?_
                  rotate_left
                  · intro w'
                    go_simp
                    with_reducible rfl
                  rotate_left
                  · simp only [Act.put, List.setIfInBounds_toArray, List.set_cons_zero, List.set_cons_succ, i64_w, i32_w]
                    rfl
                  refine pure_ (i := 27) (N := some 87) (v := ?_) (a' := ?_) #[true, true, true, true, true, true, true, true, true, true, true, true, true, true, true, true, true, true, true, true, true, true, true, true, true, true, true, true, false, false, false, false, false, false, false, false, false, false] rfl rfl (any_of HT_.out (by kernel_rfl)) (fun _ _ _ h => h) (Or.inl ⟨by rfl, ?_⟩) ?_ ?_
                  rotate_left
                  · intro w'
                    go_simp
                    with_reducible rfl
                  rotate_left
                  · simp only [Act.put, List.setIfInBounds_toArray, List.set_cons_zero, List.set_cons_succ, i64_w, i32_w]
                    rfl
                  refine one_ (i := 28) (N := some 88) #[true, true, true, true, true, true, true, true, true, true, true, true, true, true, true, true, true, true, true, true, true, true, true, true, true, true, true, true, true, false, false, false, false, false, false, false, false, false] rfl rfl (one_of HT_.out (by kernel_rfl)) (by decide) (fun K hK => ?_)
                  refine goes_ Tryd.func55 (by kernel_rfl) rfl #[.slice Ao57 t403.length co57, .slice Ao58 t407.length co58] (by rfl) rfl rfl (by (try simp only [List.map_toArray, List.map_cons, List.map_nil]); first | done | rfl | (simp only [List.length_drop, List.length_take]; rfl)) ?_
                  with_reducible refine (laws_sameTxs.calls k _ _ t403 _ _ t407 true _ ?side1 ?side2 ?side3 ?side4 A49.out).mono ?_
                  (case side1 => repeat (first | exact (Kd.R_reads' HO406.out).2.2 | (with_reducible refine Kd.C_alloc ?_ _) | (with_reducible refine Kd.C_drewN ?_ _) | (with_reducible refine Kd.C_drew ?_)))
                  (case side2 => exact (Kd.R_reads' HO406.out).2.1)
                  (case side3 => repeat (first | exact (Kd.R_reads' HO410.out).2.2 | (with_reducible refine Kd.C_alloc ?_ _) | (with_reducible refine Kd.C_drewN ?_ _) | (with_reducible refine Kd.C_drew ?_)))
                  (case side4 => exact (Kd.R_reads' HO410.out).2.1)
                  rintro e w' ⟨rfl, ⟨nd, rfl⟩⟩
                  refine ⟨_, rfl, ?_⟩
                  refine hK.out _ _ ⟨(blk_cell BK383.out 0).trans rfl, (blk_cell BK383.out 1).trans rfl, (blk_cell BK383.out 2).trans rfl, (blk_cell BK383.out 3).trans rfl, (blk_cell BK391.out 0).trans rfl, (blk_cell BK391.out 1).trans rfl, (blk_cell BK391.out 2).trans rfl, (blk_cell BK391.out 3).trans rfl, (blk_cell BK397.out 0).trans rfl, (blk_cell BK397.out 1).trans rfl, (blk_cell BK397.out 2).trans rfl, (blk_cell BK397.out 3).trans rfl, (blk_cell BK415.out 0).trans rfl, (blk_cell BK415.out 1).trans rfl, (blk_cell BK415.out 2).trans rfl, (blk_cell BK415.out 3).trans rfl⟩ (fun hHeld => ?_)
                  clear hK K
                  refine norm_ (a' := ?_) ?_ ?_
                  rotate_left
                  · show Act.put _ (some 88) _ = _
                    simp only [Act.put, List.setIfInBounds_toArray, List.set_cons_zero, List.set_cons_succ, i64_w, i32_w]
                    rfl
                  refine pure_ (i := 29) (N := some 89) (v := ?_) (a' := ?_) #[true, true, true, true, true, true, true, true, true, true, true, true, true, true, true, true, true, true, true, true, true, true, true, true, true, true, true, true, true, true, false, false, false, false, false, false, false, false] rfl rfl (any_of HT_.out (by kernel_rfl)) (fun _ _ _ h => h) (Or.inl ⟨by rfl, ?_⟩) ?_ ?_
                  rotate_left
                  · intro w'
                    go_simp
                    with_reducible rfl
                  rotate_left
                  · simp only [Act.put, List.setIfInBounds_toArray, List.set_cons_zero, List.set_cons_succ, i64_w, i32_w]
                    rfl
                  refine pure_ (i := 30) (N := some 90) (v := ?_) (a' := ?_) #[true, true, true, true, true, true, true, true, true, true, true, true, true, true, true, true, true, true, true, true, true, true, true, true, true, true, true, true, true, true, true, false, false, false, false, false, false, false] rfl rfl (any_of HT_.out (by kernel_rfl)) (fun _ _ _ h => h) (Or.inl ⟨by rfl, ?_⟩) ?_ ?_
                  rotate_left
                  · intro w'
                    go_simp
                    with_reducible rfl
                  rotate_left
                  · simp only [Act.put, List.setIfInBounds_toArray, List.set_cons_zero, List.set_cons_succ, i64_w, i32_w]
                    rfl
                  refine pure_ (i := 31) (N := some 91) (v := ?_) (a' := ?_) #[true, true, true, true, true, true, true, true, true, true, true, true, true, true, true, true, true, true, true, true, true, true, true, true, true, true, true, true, true, true, true, true, false, false, false, false, false, false] rfl rfl (any_of HT_.out (by kernel_rfl)) (fun _ _ _ h => h) (Or.inl ⟨by rfl, ?_⟩) ?_ ?_
                  rotate_left
                  · intro w'
                    go_simp
                    with_reducible rfl
                  rotate_left
                  · simp only [Act.put, List.setIfInBounds_toArray, List.set_cons_zero, List.set_cons_succ, i64_w, i32_w]
                    rfl
                  refine take_ (i := 32) (N := some 92) (v := ?_) (a' := ?_) #[true, true, true, true, true, true, true, true, true, true, true, true, true, true, true, true, true, true, true, true, true, true, true, true, true, true, true, true, true, true, true, true, true, false, false, false, false, false] rfl rfl (take_ofW HT_.out HW_.out (by kernel_rfl)) (fun _ _ _ h => h) (Or.inl ⟨by rfl, ?_⟩) hHeld ?_ ?_
                  rotate_left
                  · rintro w' ⟨s0, s1, s2, s3, s4, s5, s6, s7, s8, s9, s10, s11, s12, s13, s14, s15⟩
                    go_simp
                    with_reducible rfl
                  rotate_left
                  · simp only [Act.put, List.setIfInBounds_toArray, List.set_cons_zero, List.set_cons_succ, i64_w, i32_w]
                    rfl
                  refine take_ (i := 34) (N := some 94) (v := ?_) (a' := ?_) #[true, true, true, true, true, true, true, true, true, true, true, true, true, true, true, true, true, true, true, true, true, true, true, true, true, true, true, true, true, true, true, true, true, false, true, false, false, false] rfl rfl (take_ofW HT_.out HW_.out (by kernel_rfl)) (fun _ _ _ h => h) (Or.inl ⟨by rfl, ?_⟩) hHeld ?_ ?_
                  rotate_left
                  · rintro w' ⟨s0, s1, s2, s3, s4, s5, s6, s7, s8, s9, s10, s11, s12, s13, s14, s15⟩
                    go_simp
                    with_reducible rfl
                  rotate_left
                  · simp only [Act.put, List.setIfInBounds_toArray, List.set_cons_zero, List.set_cons_succ, i64_w, i32_w]
                    rfl
                  refine one_ (i := 33) (N := some 93) #[true, true, true, true, true, true, true, true, true, true, true, true, true, true, true, true, true, true, true, true, true, true, true, true, true, true, true, true, true, true, true, true, true, true, true, false, false, false] rfl rfl (one_of HT_.out (by kernel_rfl)) (by decide) (fun K hK => ?_)
                  refine goes_ Tryd.func56 (by kernel_rfl) rfl #[.agg #[.int .i64 t411, .int .i64 t412, .int .i64 t413, .int .i64 t414]] (by rfl) rfl rfl (by (try simp only [List.map_toArray, List.map_cons, List.map_nil]); first | done | rfl | (simp only [List.length_drop, List.length_take]; rfl)) ?_
                  with_reducible refine (impl_TxOk.calls t411 t412 t413 t414 t419 _ A51.out).mono ?_
                  rintro e w59 ⟨rfl, hb⟩
                  refine ⟨_, rfl, ?_⟩
                  have n0_ := Aside0.mk (Kd.R_below (by (with_reducible repeat (first | apply Kd.R_alloc | apply Kd.R_drewN | apply Kd.R_drew)); exact HO400.out) hb)
                  have n1_ := Aside0.mk (Kd.R_below (by (with_reducible repeat (first | apply Kd.R_alloc | apply Kd.R_drewN | apply Kd.R_drew)); exact HO406.out) hb)
                  have n2_ := Aside0.mk (Kd.R_below (by (with_reducible repeat (first | apply Kd.R_alloc | apply Kd.R_drewN | apply Kd.R_drew)); exact HO410.out) hb)
                  have n3_ := Aside0.mk (blk_below (g := gb383) (o := .cells #[.int .i64 t379, .int .i64 t380, .int .i64 t381, .int .i64 t382] 44 (0, 0)) (by (with_reducible repeat (first | refine blk_drewN ?_ _ | refine blk_drew ?_ | refine blk_alloc ?_ _)); exact BK383.out) hb)
                  have n4_ := Aside0.mk (blk_below (g := gb391) (o := .cells #[.int .i64 t386, .int .i64 t387, .int .i64 t388, .int .i64 t389] 44 (0, 0)) (by (with_reducible repeat (first | refine blk_drewN ?_ _ | refine blk_drew ?_ | refine blk_alloc ?_ _)); exact BK391.out) hb)
                  have n5_ := Aside0.mk (blk_below (g := gb397) (o := .cells #[.int .i64 t392, .int .i64 t393, .int .i64 t394, .int .i64 t395] 44 (0, 0)) (by (with_reducible repeat (first | refine blk_drewN ?_ _ | refine blk_drew ?_ | refine blk_alloc ?_ _)); exact BK397.out) hb)
                  have n6_ := Aside0.mk (blk_below (g := gb415) (o := .cells #[.int .i64 t411, .int .i64 t412, .int .i64 t413, .int .i64 t414] 44 (0, 0)) (by (with_reducible repeat (first | refine blk_drewN ?_ _ | refine blk_drew ?_ | refine blk_alloc ?_ _)); exact BK415.out) hb)
                  have n7_ := Aside0.mk (below_step (by repeat (first | (with_reducible first | exact HB.out | apply below_alloc | apply pw_below_drewN | apply below_drew1 | refine below_set ?_ GE383.out | refine below_set ?_ GE391.out | refine below_set ?_ GE397.out | refine below_set ?_ GE415.out) | exact HB.out)) hb)
                  clear HO400
                  clear HO406
                  clear HO410
                  clear BK383
                  clear BK391
                  clear BK397
                  clear BK415
                  clear HB
                  have HO400 := n0_
                  have HO406 := n1_
                  have HO410 := n2_
                  have BK383 := n3_
                  have BK391 := n4_
                  have BK397 := n5_
                  have BK415 := n6_
                  have HB := n7_
                  clear n0_ n1_ n2_ n3_ n4_ n5_ n6_ n7_
                  (try clear hb)
                  (try clear hb2)
                  (try clear hk)
                  (try clear hi)
                  refine hK.out _ _ ⟨(blk_cell BK383.out 0).trans rfl, (blk_cell BK383.out 1).trans rfl, (blk_cell BK383.out 2).trans rfl, (blk_cell BK383.out 3).trans rfl, (blk_cell BK391.out 0).trans rfl, (blk_cell BK391.out 1).trans rfl, (blk_cell BK391.out 2).trans rfl, (blk_cell BK391.out 3).trans rfl, (blk_cell BK397.out 0).trans rfl, (blk_cell BK397.out 1).trans rfl, (blk_cell BK397.out 2).trans rfl, (blk_cell BK397.out 3).trans rfl, (blk_cell BK415.out 0).trans rfl, (blk_cell BK415.out 1).trans rfl, (blk_cell BK415.out 2).trans rfl, (blk_cell BK415.out 3).trans rfl⟩ (fun hHeld => ?_)
                  clear hK K
                  refine norm_ (a' := ?_) ?_ ?_
                  rotate_left
                  · show Act.put _ (some 93) _ = _
                    simp only [Act.put, List.setIfInBounds_toArray, List.set_cons_zero, List.set_cons_succ, i64_w, i32_w]
                    rfl
                  refine one_ (i := 35) (N := some 95) #[true, true, true, true, true, true, true, true, true, true, true, true, true, true, true, true, true, true, true, true, true, true, true, true, true, true, true, true, true, true, true, true, true, true, true, true, false, false] rfl rfl (one_of HT_.out (by kernel_rfl)) (by decide) (fun K hK => ?_)
                  refine goes_ Tryd.func57 (by kernel_rfl) rfl #[.agg #[.int .i64 t411, .int .i64 t412, .int .i64 t413, .int .i64 t414]] (by rfl) rfl rfl (by (try simp only [List.map_toArray, List.map_cons, List.map_nil]); first | done | rfl | (simp only [List.length_drop, List.length_take]; rfl)) ?_
                  with_reducible refine (spec_TxOk.calls t411 t412 t413 t414 t420 _ A52.out).mono ?_
                  rintro e w60 ⟨rfl, hb⟩
                  refine ⟨_, rfl, ?_⟩
                  have n0_ := Aside0.mk (Kd.R_below (by (with_reducible repeat (first | apply Kd.R_alloc | apply Kd.R_drewN | apply Kd.R_drew)); exact HO400.out) hb)
                  have n1_ := Aside0.mk (Kd.R_below (by (with_reducible repeat (first | apply Kd.R_alloc | apply Kd.R_drewN | apply Kd.R_drew)); exact HO406.out) hb)
                  have n2_ := Aside0.mk (Kd.R_below (by (with_reducible repeat (first | apply Kd.R_alloc | apply Kd.R_drewN | apply Kd.R_drew)); exact HO410.out) hb)
                  have n3_ := Aside0.mk (blk_below (g := gb383) (o := .cells #[.int .i64 t379, .int .i64 t380, .int .i64 t381, .int .i64 t382] 44 (0, 0)) (by (with_reducible repeat (first | refine blk_drewN ?_ _ | refine blk_drew ?_ | refine blk_alloc ?_ _)); exact BK383.out) hb)
                  have n4_ := Aside0.mk (blk_below (g := gb391) (o := .cells #[.int .i64 t386, .int .i64 t387, .int .i64 t388, .int .i64 t389] 44 (0, 0)) (by (with_reducible repeat (first | refine blk_drewN ?_ _ | refine blk_drew ?_ | refine blk_alloc ?_ _)); exact BK391.out) hb)
                  have n5_ := Aside0.mk (blk_below (g := gb397) (o := .cells #[.int .i64 t392, .int .i64 t393, .int .i64 t394, .int .i64 t395] 44 (0, 0)) (by (with_reducible repeat (first | refine blk_drewN ?_ _ | refine blk_drew ?_ | refine blk_alloc ?_ _)); exact BK397.out) hb)
                  have n6_ := Aside0.mk (blk_below (g := gb415) (o := .cells #[.int .i64 t411, .int .i64 t412, .int .i64 t413, .int .i64 t414] 44 (0, 0)) (by (with_reducible repeat (first | refine blk_drewN ?_ _ | refine blk_drew ?_ | refine blk_alloc ?_ _)); exact BK415.out) hb)
                  have n7_ := Aside0.mk (below_step (by repeat (first | (with_reducible first | exact HB.out | apply below_alloc | apply pw_below_drewN | apply below_drew1 | refine below_set ?_ GE383.out | refine below_set ?_ GE391.out | refine below_set ?_ GE397.out | refine below_set ?_ GE415.out) | exact HB.out)) hb)
                  clear HO400
                  clear HO406
                  clear HO410
                  clear BK383
                  clear BK391
                  clear BK397
                  clear BK415
                  clear HB
                  have HO400 := n0_
                  have HO406 := n1_
                  have HO410 := n2_
                  have BK383 := n3_
                  have BK391 := n4_
                  have BK397 := n5_
                  have BK415 := n6_
                  have HB := n7_
                  clear n0_ n1_ n2_ n3_ n4_ n5_ n6_ n7_
                  (try clear hb)
                  (try clear hb2)
                  (try clear hk)
                  (try clear hi)
                  refine hK.out _ _ ⟨(blk_cell BK383.out 0).trans rfl, (blk_cell BK383.out 1).trans rfl, (blk_cell BK383.out 2).trans rfl, (blk_cell BK383.out 3).trans rfl, (blk_cell BK391.out 0).trans rfl, (blk_cell BK391.out 1).trans rfl, (blk_cell BK391.out 2).trans rfl, (blk_cell BK391.out 3).trans rfl, (blk_cell BK397.out 0).trans rfl, (blk_cell BK397.out 1).trans rfl, (blk_cell BK397.out 2).trans rfl, (blk_cell BK397.out 3).trans rfl, (blk_cell BK415.out 0).trans rfl, (blk_cell BK415.out 1).trans rfl, (blk_cell BK415.out 2).trans rfl, (blk_cell BK415.out 3).trans rfl⟩ (fun hHeld => ?_)
                  clear hK K
                  refine norm_ (a' := ?_) ?_ ?_
                  rotate_left
                  · show Act.put _ (some 95) _ = _
                    simp only [Act.put, List.setIfInBounds_toArray, List.set_cons_zero, List.set_cons_succ, i64_w, i32_w]
                    rfl
                  refine pure_ (i := 36) (N := some 96) (v := ?_) (a' := ?_) #[true, true, true, true, true, true, true, true, true, true, true, true, true, true, true, true, true, true, true, true, true, true, true, true, true, true, true, true, true, true, true, true, true, true, true, true, true, false] rfl rfl (any_of HT_.out (by kernel_rfl)) (fun _ _ _ h => h) (Or.inl ⟨by rfl, ?_⟩) ?_ ?_
                  rotate_left
                  · intro w'
                    go_simp
                    with_reducible rfl
                  rotate_left
                  · simp only [Act.put, List.setIfInBounds_toArray, List.set_cons_zero, List.set_cons_succ, i64_w, i32_w]
                    rfl
                  refine pure_ (i := 37) (N := some 97) (v := ?_) (a' := ?_) #[true, true, true, true, true, true, true, true, true, true, true, true, true, true, true, true, true, true, true, true, true, true, true, true, true, true, true, true, true, true, true, true, true, true, true, true, true, true] rfl rfl (any_of HT_.out (by kernel_rfl)) (fun _ _ _ h => h) (Or.inl ⟨by rfl, ?_⟩) ?_ ?_
                  rotate_left
                  · intro w'
                    go_simp
                    with_reducible rfl
                  rotate_left
                  · simp only [Act.put, List.setIfInBounds_toArray, List.set_cons_zero, List.set_cons_succ, i64_w, i32_w]
                    rfl
                  refine done_ (done_of HT_.out (by kernel_rfl)) ?_
                  try go_wp2
                  go_meet
                  case rel => exact ⟨_, ((t419 != t420)), (by first | rfl | (simp; done) | (simp [*]; done)), H', ⟨by first | omega | exact Nat.le_refl _⟩, ⟨by (with_reducible repeat (first | apply Kd.R_alloc | apply Kd.R_drewN | apply Kd.R_drew)); exact Kd.R_mono HO400.out (fun _ hk => ⟨hk.1, ⟨hk.2.2.1, ⟨hk.2.2.2.1, ⟨hk.2.2.2.2.1, hk.2.2.2.2.2⟩⟩⟩⟩)⟩, ⟨by (with_reducible repeat (first | apply Kd.R_alloc | apply Kd.R_drewN | apply Kd.R_drew)); exact Kd.R_mono HO406.out (fun _ hk => ⟨hk.1, ⟨hk.2.2.1, ⟨hk.2.2.2.1, ⟨hk.2.2.2.2.1, hk.2.2.2.2.2⟩⟩⟩⟩)⟩, ⟨by (with_reducible repeat (first | refine blk_drewN ?_ _ | refine blk_drew ?_ | refine blk_alloc ?_ _)); exact BK383.out⟩, ⟨by (with_reducible repeat (first | refine blk_drewN ?_ _ | refine blk_drew ?_ | refine blk_alloc ?_ _)); exact BK391.out⟩, ⟨by (with_reducible repeat (first | refine blk_drewN ?_ _ | refine blk_drew ?_ | refine blk_alloc ?_ _)); exact BK397.out⟩, ⟨by (with_reducible repeat (first | refine blk_drewN ?_ _ | refine blk_drew ?_ | refine blk_alloc ?_ _)); exact BK415.out⟩, ⟨by repeat (first | (with_reducible first | exact HB.out | apply below_alloc | apply pw_below_drewN | apply below_drew1 | refine below_set ?_ GE383.out | refine below_set ?_ GE391.out | refine below_set ?_ GE397.out | refine below_set ?_ GE415.out) | exact HB.out)⟩⟩
                · replace c50 := Bool.eq_false_iff.mpr c50
                  subst c50
                  have H1 : (none) = some r := by rw [if_neg (show ¬ (false = true) by decide)] at H; exact H
                  clear H
                  have H := H1
                  clear H1
                  exact absurd H (by simp)
            · rw [if_neg c47] at H
              have c47b0 : (t401.toList == t417.toList) = false := beq_eq_false_iff_ne.mpr c47
              have c47b1 : (t401.toList != t417.toList) = true := bne_iff_ne.mpr c47
              exact absurd H (by simp)
      · rw [if_neg c43] at H
        have c43b0 : (t384.toList == t416.toList) = false := beq_eq_false_iff_ne.mpr c43
        have c43b1 : (t384.toList != t416.toList) = true := bne_iff_ne.mpr c43
        (first | rw [c43b0] | (simp only [i64_w, i32_w]; rw [c43b0]) | skip)
        exact absurd H (by simp)
    case rest =>
      clear HC15
      try clear p2
      try clear c4
      try clear c5
      try clear c43
      try clear c43b0
      try clear c43b1
      try clear c44
      try clear c44b0
      try clear c44b1
      try clear c44b2
      try clear c45
      try clear c45b0
      try clear c47
      try clear c47b0
      try clear c47b1
      try clear c48
      try clear c48b0
      try clear c48b1
      try clear c48b2
      try clear c50
      try clear c53
      try clear c54
      try clear c55
      try clear c56
      try clear c57
      obtain ⟨kq, x97_14, rfl, HA, HJ14, HO_10, HO_13, BK383, BK391, BK397, BK415, HB⟩ := hcut
      cases kq with
      | zero => exact absurd HA.out (by simp [laws_FnTxs.j0])
      | succ kj14 =>
        have H := HA.out
        clear HA
        simp only [laws_FnTxs.j0] at H
        by_cases c61 : x97_14 = true
        · subst c61
          have H1 : (some false) = some r := by rw [if_pos rfl] at H; exact H
          clear H
          have H := H1
          clear H1
          exact absurd ((Option.some.inj H).trans HRT.out) (by decide)
        · replace c61 := Bool.eq_false_iff.mpr c61
          subst c61
          have H1 : (if t390 = true then ((impl_TxText.f t386 t387 t388 t389).bind fun t421 => (if t421.toList = t385.toList then (if t404 = true then ((impl_TxsText.f kj14 t403).bind fun t422 => (laws_FnTxs.j1 kj14 t384 t398 t401 (t422.toList != t402.toList) t379 t380 t381 t382)) else (laws_FnTxs.j1 kj14 t384 t398 t401 false t379 t380 t381 t382)) else (none))) else (if t404 = true then ((impl_TxsText.f kj14 t403).bind fun t423 => (laws_FnTxs.j1 kj14 t384 t398 t401 (t423.toList != t402.toList) t379 t380 t381 t382)) else (laws_FnTxs.j1 kj14 t384 t398 t401 false t379 t380 t381 t382))) = some r := by rw [if_neg (show ¬ (false = true) by decide)] at H; exact H
          clear H
          have H := H1
          clear H1
          have HC62 := Aside0.mk H
          clear H
          go_upto_region 16 with (fail)
          go_cut [113] (fun v113 wc => ∃ (kq : Nat) (x113_61 : Bool), v113 = .bool x113_61 ∧ Aside0 (laws_FnTxs.j1 kq t384 t398 t401 x113_61 t379 t380 t381 t382 = some r) ∧ Aside0 (kq ≤ kj14) ∧ Aside0 (Kd.R k44 44 wc w.heap.size (fun k_ => k_ ≠ gb383 ∧ k_ ≠ gb391 ∧ k_ ≠ gb397 ∧ k_ ≠ gb415) (.slice Ao31 t398.length co31) t398) ∧ Aside0 (wc.heap[gb383]? = some (.cells #[.int .i64 t379, .int .i64 t380, .int .i64 t381, .int .i64 t382] 44 (0, 0))) ∧ Aside0 (wc.heap[gb391]? = some (.cells #[.int .i64 t386, .int .i64 t387, .int .i64 t388, .int .i64 t389] 44 (0, 0))) ∧ Aside0 (wc.heap[gb397]? = some (.cells #[.int .i64 t392, .int .i64 t393, .int .i64 t394, .int .i64 t395] 44 (0, 0))) ∧ Aside0 (wc.heap[gb415]? = some (.cells #[.int .i64 t411, .int .i64 t412, .int .i64 t413, .int .i64 t414] 44 (0, 0))) ∧ Aside0 (Below w.heap.size w wc))
          case first =>
            have H := HC62.out
            clear HC62
            by_cases c63 : t390 = true
            · subst c63
              have H1 : ((impl_TxText.f t386 t387 t388 t389).bind fun t421 => (if t421.toList = t385.toList then (if t404 = true then ((impl_TxsText.f kj14 t403).bind fun t422 => (laws_FnTxs.j1 kj14 t384 t398 t401 (t422.toList != t402.toList) t379 t380 t381 t382)) else (laws_FnTxs.j1 kj14 t384 t398 t401 false t379 t380 t381 t382)) else (none))) = some r := by rw [if_pos rfl] at H; exact H
              clear H
              have H := H1
              clear H1
              replace H := Option.bind_eq_some_iff.mp H
              obtain ⟨t421, A640, H⟩ := H
              replace H : (if t421.toList = t385.toList then (if t404 = true then ((impl_TxsText.f kj14 t403).bind fun t422 => (laws_FnTxs.j1 kj14 t384 t398 t401 (t422.toList != t402.toList) t379 t380 t381 t382)) else (laws_FnTxs.j1 kj14 t384 t398 t401 false t379 t380 t381 t382)) else (none)) = some r := H
              have A64 := Aside0.mk A640
              clear A640
              by_cases c65 : t421.toList = t385.toList
              · rw [if_pos c65] at H
                have c65b0 : (t421.toList == t385.toList) = true := beq_iff_eq.mpr c65
                have c65b1 : (t421.toList != t385.toList) = false := bne_eq_false_iff_eq.mpr c65
                clear c65
                (first | rw [c65b0] | (simp only [i64_w, i32_w]; rw [c65b0]) | skip)
                by_cases c66 : t404 = true
                · subst c66
                  have H1 : ((impl_TxsText.f kj14 t403).bind fun t422 => (laws_FnTxs.j1 kj14 t384 t398 t401 (t422.toList != t402.toList) t379 t380 t381 t382)) = some r := by rw [if_pos rfl] at H; exact H
                  clear H
                  have H := H1
                  clear H1
                  replace H := Option.bind_eq_some_iff.mp H
                  obtain ⟨t422, A670, H⟩ := H
                  replace H : (laws_FnTxs.j1 kj14 t384 t398 t401 (t422.toList != t402.toList) t379 t380 t381 t382) = some r := H
                  have A67 := Aside0.mk A670
                  clear A670
                  have H' := Aside0.mk H
                  clear H
                  have hnb68 := NB391_383.out
                  have hnc68 := NB383_391.out
                  have hnb69 := NB391_397.out
                  have hnc69 := NB397_391.out
                  have hnb70 := NB391_415.out
                  have hnc70 := NB415_391.out
                  have hcz71_0 : wc.cell? ⟨gb391, 0, none⟩ = some (.int .i64 t386) := (blk_cell BK391.out 0).trans rfl
                  have hcz71_1 : wc.cell? ⟨gb391, 1, none⟩ = some (.int .i64 t387) := (blk_cell BK391.out 1).trans rfl
                  have hcz71_2 : wc.cell? ⟨gb391, 2, none⟩ = some (.int .i64 t388) := (blk_cell BK391.out 2).trans rfl
                  have hcz71_3 : wc.cell? ⟨gb391, 3, none⟩ = some (.int .i64 t389) := (blk_cell BK391.out 3).trans rfl
                  have hfz71_0 := blk_frozen BK391.out 0
                  have hfz71_1 := blk_frozen BK391.out 1
                  have hfz71_2 := blk_frozen BK391.out 2
                  have hfz71_3 := blk_frozen BK391.out 3
                  go_wp2_with (first | (go_at_call 43; (with_reducible refine (impl_TxText.calls t386 t387 t388 t389 t421 _ ?side1 A64.out).mono ?_); (case side1 => exact LaidW.below HL0.out (by repeat (first | (with_reducible first | exact HB.out | apply below_alloc | apply pw_below_drewN | apply below_drew1 | refine below_set ?_ GE383.out | refine below_set ?_ GE391.out | refine below_set ?_ GE397.out | refine below_set ?_ GE415.out) | exact HB.out))); rintro e w72 ⟨rfl, hb⟩; have n0_ := Aside0.mk (Kd.R_below (by (with_reducible repeat (first | apply Kd.R_alloc | apply Kd.R_drewN | apply Kd.R_drew)); exact HO_10.out) hb); have n1_ := Aside0.mk (Kd.R_below (by (with_reducible repeat (first | apply Kd.R_alloc | apply Kd.R_drewN | apply Kd.R_drew)); exact HO_13.out) hb); have n2_ := Aside0.mk (blk_below (g := gb383) (o := .cells #[.int .i64 t379, .int .i64 t380, .int .i64 t381, .int .i64 t382] 44 (0, 0)) (by (with_reducible repeat (first | refine blk_drewN ?_ _ | refine blk_drew ?_ | refine blk_alloc ?_ _)); exact BK383.out) hb); have n3_ := Aside0.mk (blk_below (g := gb391) (o := .cells #[.int .i64 t386, .int .i64 t387, .int .i64 t388, .int .i64 t389] 44 (0, 0)) (by (with_reducible repeat (first | refine blk_drewN ?_ _ | refine blk_drew ?_ | refine blk_alloc ?_ _)); exact BK391.out) hb); have n4_ := Aside0.mk (blk_below (g := gb397) (o := .cells #[.int .i64 t392, .int .i64 t393, .int .i64 t394, .int .i64 t395] 44 (0, 0)) (by (with_reducible repeat (first | refine blk_drewN ?_ _ | refine blk_drew ?_ | refine blk_alloc ?_ _)); exact BK397.out) hb); have n5_ := Aside0.mk (blk_below (g := gb415) (o := .cells #[.int .i64 t411, .int .i64 t412, .int .i64 t413, .int .i64 t414] 44 (0, 0)) (by (with_reducible repeat (first | refine blk_drewN ?_ _ | refine blk_drew ?_ | refine blk_alloc ?_ _)); exact BK415.out) hb); have n6_ := Aside0.mk (below_step (by repeat (first | (with_reducible first | exact HB.out | apply below_alloc | apply pw_below_drewN | apply below_drew1 | refine below_set ?_ GE383.out | refine below_set ?_ GE391.out | refine below_set ?_ GE397.out | refine below_set ?_ GE415.out) | exact HB.out)) hb); clear HO_10; clear HO_13; clear BK383; clear BK391; clear BK397; clear BK415; clear HB; have HO_10 := n0_; have HO_13 := n1_; have BK383 := n2_; have BK391 := n3_; have BK397 := n4_; have BK415 := n5_; have HB := n6_; clear n0_ n1_ n2_ n3_ n4_ n5_ n6_; (try clear hb); (try clear hb2); (try clear hk); (try clear hi); obtain ⟨Ao73, co73, eo73⟩ := Kd.R_slice HO_13.out; subst eo73) | (go_at_call 48; (with_reducible refine (impl_TxsText.calls kj14 _ _ t403 t422 _ ?side1 ?side2 ?side3 A67.out).mono ?_); (case side1 => repeat (first | exact (Kd.R_reads' HO_13.out).2.2 | (with_reducible refine Kd.C_alloc ?_ _) | (with_reducible refine Kd.C_drewN ?_ _) | (with_reducible refine Kd.C_drew ?_))); (case side2 => exact (Kd.R_reads' HO_13.out).2.1); (case side3 => exact LaidW.below HL0.out (by repeat (first | (with_reducible first | exact HB.out | apply below_alloc | apply pw_below_drewN | apply below_drew1 | refine below_set ?_ GE383.out | refine below_set ?_ GE391.out | refine below_set ?_ GE397.out | refine below_set ?_ GE415.out) | exact HB.out))); rintro e w74 ⟨rfl, hb⟩; have n0_ := Aside0.mk (Kd.R_below (by (with_reducible repeat (first | apply Kd.R_alloc | apply Kd.R_drewN | apply Kd.R_drew)); exact HO_10.out) hb); have n1_ := Aside0.mk (Kd.R_below (by (with_reducible repeat (first | apply Kd.R_alloc | apply Kd.R_drewN | apply Kd.R_drew)); exact HO_13.out) hb); have n2_ := Aside0.mk (blk_below (g := gb383) (o := .cells #[.int .i64 t379, .int .i64 t380, .int .i64 t381, .int .i64 t382] 44 (0, 0)) (by (with_reducible repeat (first | refine blk_drewN ?_ _ | refine blk_drew ?_ | refine blk_alloc ?_ _)); exact BK383.out) hb); have n3_ := Aside0.mk (blk_below (g := gb391) (o := .cells #[.int .i64 t386, .int .i64 t387, .int .i64 t388, .int .i64 t389] 44 (0, 0)) (by (with_reducible repeat (first | refine blk_drewN ?_ _ | refine blk_drew ?_ | refine blk_alloc ?_ _)); exact BK391.out) hb); have n4_ := Aside0.mk (blk_below (g := gb397) (o := .cells #[.int .i64 t392, .int .i64 t393, .int .i64 t394, .int .i64 t395] 44 (0, 0)) (by (with_reducible repeat (first | refine blk_drewN ?_ _ | refine blk_drew ?_ | refine blk_alloc ?_ _)); exact BK397.out) hb); have n5_ := Aside0.mk (blk_below (g := gb415) (o := .cells #[.int .i64 t411, .int .i64 t412, .int .i64 t413, .int .i64 t414] 44 (0, 0)) (by (with_reducible repeat (first | refine blk_drewN ?_ _ | refine blk_drew ?_ | refine blk_alloc ?_ _)); exact BK415.out) hb); have n6_ := Aside0.mk (below_step (by repeat (first | (with_reducible first | exact HB.out | apply below_alloc | apply pw_below_drewN | apply below_drew1 | refine below_set ?_ GE383.out | refine below_set ?_ GE391.out | refine below_set ?_ GE397.out | refine below_set ?_ GE415.out) | exact HB.out)) hb); clear HO_10; clear HO_13; clear BK383; clear BK391; clear BK397; clear BK415; clear HB; have HO_10 := n0_; have HO_13 := n1_; have BK383 := n2_; have BK391 := n3_; have BK397 := n4_; have BK415 := n5_; have HB := n6_; clear n0_ n1_ n2_ n3_ n4_ n5_ n6_; (try clear hb); (try clear hb2); (try clear hk); (try clear hi)))
                  go_meet
                  case rel => exact ⟨_, ((t422.toList != t402.toList)), (by first | rfl | (simp; done) | (simp [*]; done)), H', ⟨by have := HJ14.out; first | omega | exact Nat.le_refl _⟩, ⟨by (with_reducible repeat (first | apply Kd.R_alloc | apply Kd.R_drewN | apply Kd.R_drew)); exact Kd.R_mono HO_10.out (fun _ hk => ⟨hk.2.1, ⟨hk.2.2.1, ⟨hk.2.2.2.1, hk.2.2.2.2⟩⟩⟩)⟩, ⟨by (with_reducible repeat (first | refine blk_drewN ?_ _ | refine blk_drew ?_ | refine blk_alloc ?_ _)); exact BK383.out⟩, ⟨by (with_reducible repeat (first | refine blk_drewN ?_ _ | refine blk_drew ?_ | refine blk_alloc ?_ _)); exact BK391.out⟩, ⟨by (with_reducible repeat (first | refine blk_drewN ?_ _ | refine blk_drew ?_ | refine blk_alloc ?_ _)); exact BK397.out⟩, ⟨by (with_reducible repeat (first | refine blk_drewN ?_ _ | refine blk_drew ?_ | refine blk_alloc ?_ _)); exact BK415.out⟩, ⟨by repeat (first | (with_reducible first | exact HB.out | apply below_alloc | apply pw_below_drewN | apply below_drew1 | refine below_set ?_ GE383.out | refine below_set ?_ GE391.out | refine below_set ?_ GE397.out | refine below_set ?_ GE415.out) | exact HB.out)⟩⟩
                · replace c66 := Bool.eq_false_iff.mpr c66
                  subst c66
                  have H1 : (laws_FnTxs.j1 kj14 t384 t398 t401 false t379 t380 t381 t382) = some r := by rw [if_neg (show ¬ (false = true) by decide)] at H; exact H
                  clear H
                  have H := H1
                  clear H1
                  have H' := Aside0.mk H
                  clear H
                  have hnb75 := NB391_383.out
                  have hnc75 := NB383_391.out
                  have hnb76 := NB391_397.out
                  have hnc76 := NB397_391.out
                  have hnb77 := NB391_415.out
                  have hnc77 := NB415_391.out
                  have hcz78_0 : wc.cell? ⟨gb391, 0, none⟩ = some (.int .i64 t386) := (blk_cell BK391.out 0).trans rfl
                  have hcz78_1 : wc.cell? ⟨gb391, 1, none⟩ = some (.int .i64 t387) := (blk_cell BK391.out 1).trans rfl
                  have hcz78_2 : wc.cell? ⟨gb391, 2, none⟩ = some (.int .i64 t388) := (blk_cell BK391.out 2).trans rfl
                  have hcz78_3 : wc.cell? ⟨gb391, 3, none⟩ = some (.int .i64 t389) := (blk_cell BK391.out 3).trans rfl
                  have hfz78_0 := blk_frozen BK391.out 0
                  have hfz78_1 := blk_frozen BK391.out 1
                  have hfz78_2 := blk_frozen BK391.out 2
                  have hfz78_3 := blk_frozen BK391.out 3
                  go_wp2_with (first | (go_at_call 43; (with_reducible refine (impl_TxText.calls t386 t387 t388 t389 t421 _ ?side1 A64.out).mono ?_); (case side1 => exact LaidW.below HL0.out (by repeat (first | (with_reducible first | exact HB.out | apply below_alloc | apply pw_below_drewN | apply below_drew1 | refine below_set ?_ GE383.out | refine below_set ?_ GE391.out | refine below_set ?_ GE397.out | refine below_set ?_ GE415.out) | exact HB.out))); rintro e w79 ⟨rfl, hb⟩; have n0_ := Aside0.mk (Kd.R_below (by (with_reducible repeat (first | apply Kd.R_alloc | apply Kd.R_drewN | apply Kd.R_drew)); exact HO_10.out) hb); have n1_ := Aside0.mk (Kd.R_below (by (with_reducible repeat (first | apply Kd.R_alloc | apply Kd.R_drewN | apply Kd.R_drew)); exact HO_13.out) hb); have n2_ := Aside0.mk (blk_below (g := gb383) (o := .cells #[.int .i64 t379, .int .i64 t380, .int .i64 t381, .int .i64 t382] 44 (0, 0)) (by (with_reducible repeat (first | refine blk_drewN ?_ _ | refine blk_drew ?_ | refine blk_alloc ?_ _)); exact BK383.out) hb); have n3_ := Aside0.mk (blk_below (g := gb391) (o := .cells #[.int .i64 t386, .int .i64 t387, .int .i64 t388, .int .i64 t389] 44 (0, 0)) (by (with_reducible repeat (first | refine blk_drewN ?_ _ | refine blk_drew ?_ | refine blk_alloc ?_ _)); exact BK391.out) hb); have n4_ := Aside0.mk (blk_below (g := gb397) (o := .cells #[.int .i64 t392, .int .i64 t393, .int .i64 t394, .int .i64 t395] 44 (0, 0)) (by (with_reducible repeat (first | refine blk_drewN ?_ _ | refine blk_drew ?_ | refine blk_alloc ?_ _)); exact BK397.out) hb); have n5_ := Aside0.mk (blk_below (g := gb415) (o := .cells #[.int .i64 t411, .int .i64 t412, .int .i64 t413, .int .i64 t414] 44 (0, 0)) (by (with_reducible repeat (first | refine blk_drewN ?_ _ | refine blk_drew ?_ | refine blk_alloc ?_ _)); exact BK415.out) hb); have n6_ := Aside0.mk (below_step (by repeat (first | (with_reducible first | exact HB.out | apply below_alloc | apply pw_below_drewN | apply below_drew1 | refine below_set ?_ GE383.out | refine below_set ?_ GE391.out | refine below_set ?_ GE397.out | refine below_set ?_ GE415.out) | exact HB.out)) hb); clear HO_10; clear HO_13; clear BK383; clear BK391; clear BK397; clear BK415; clear HB; have HO_10 := n0_; have HO_13 := n1_; have BK383 := n2_; have BK391 := n3_; have BK397 := n4_; have BK415 := n5_; have HB := n6_; clear n0_ n1_ n2_ n3_ n4_ n5_ n6_; (try clear hb); (try clear hb2); (try clear hk); (try clear hi)))
                  go_meet
                  case rel => exact ⟨_, (false), (by first | rfl | (simp; done) | (simp [*]; done)), H', ⟨by have := HJ14.out; first | omega | exact Nat.le_refl _⟩, ⟨by (with_reducible repeat (first | apply Kd.R_alloc | apply Kd.R_drewN | apply Kd.R_drew)); exact Kd.R_mono HO_10.out (fun _ hk => ⟨hk.2.1, ⟨hk.2.2.1, ⟨hk.2.2.2.1, hk.2.2.2.2⟩⟩⟩)⟩, ⟨by (with_reducible repeat (first | refine blk_drewN ?_ _ | refine blk_drew ?_ | refine blk_alloc ?_ _)); exact BK383.out⟩, ⟨by (with_reducible repeat (first | refine blk_drewN ?_ _ | refine blk_drew ?_ | refine blk_alloc ?_ _)); exact BK391.out⟩, ⟨by (with_reducible repeat (first | refine blk_drewN ?_ _ | refine blk_drew ?_ | refine blk_alloc ?_ _)); exact BK397.out⟩, ⟨by (with_reducible repeat (first | refine blk_drewN ?_ _ | refine blk_drew ?_ | refine blk_alloc ?_ _)); exact BK415.out⟩, ⟨by repeat (first | (with_reducible first | exact HB.out | apply below_alloc | apply pw_below_drewN | apply below_drew1 | refine below_set ?_ GE383.out | refine below_set ?_ GE391.out | refine below_set ?_ GE397.out | refine below_set ?_ GE415.out) | exact HB.out)⟩⟩
              · rw [if_neg c65] at H
                exact absurd H (by simp)
            · replace c63 := Bool.eq_false_iff.mpr c63
              subst c63
              have H1 : (if t404 = true then ((impl_TxsText.f kj14 t403).bind fun t423 => (laws_FnTxs.j1 kj14 t384 t398 t401 (t423.toList != t402.toList) t379 t380 t381 t382)) else (laws_FnTxs.j1 kj14 t384 t398 t401 false t379 t380 t381 t382)) = some r := by rw [if_neg (show ¬ (false = true) by decide)] at H; exact H
              clear H
              have H := H1
              clear H1
              by_cases c80 : t404 = true
              · subst c80
                have H1 : ((impl_TxsText.f kj14 t403).bind fun t423 => (laws_FnTxs.j1 kj14 t384 t398 t401 (t423.toList != t402.toList) t379 t380 t381 t382)) = some r := by rw [if_pos rfl] at H; exact H
                clear H
                have H := H1
                clear H1
                replace H := Option.bind_eq_some_iff.mp H
                obtain ⟨t423, A810, H⟩ := H
                replace H : (laws_FnTxs.j1 kj14 t384 t398 t401 (t423.toList != t402.toList) t379 t380 t381 t382) = some r := H
                have A81 := Aside0.mk A810
                clear A810
                have H' := Aside0.mk H
                clear H
                obtain ⟨Ao82, co82, eo82⟩ := Kd.R_slice HO_13.out
                subst eo82
                go_wp2_with (first | (go_at_call 48; (with_reducible refine (impl_TxsText.calls kj14 _ _ t403 t423 _ ?side1 ?side2 ?side3 A81.out).mono ?_); (case side1 => repeat (first | exact (Kd.R_reads' HO_13.out).2.2 | (with_reducible refine Kd.C_alloc ?_ _) | (with_reducible refine Kd.C_drewN ?_ _) | (with_reducible refine Kd.C_drew ?_))); (case side2 => exact (Kd.R_reads' HO_13.out).2.1); (case side3 => exact LaidW.below HL0.out (by repeat (first | (with_reducible first | exact HB.out | apply below_alloc | apply pw_below_drewN | apply below_drew1 | refine below_set ?_ GE383.out | refine below_set ?_ GE391.out | refine below_set ?_ GE397.out | refine below_set ?_ GE415.out) | exact HB.out))); rintro e w83 ⟨rfl, hb⟩; have n0_ := Aside0.mk (Kd.R_below (by (with_reducible repeat (first | apply Kd.R_alloc | apply Kd.R_drewN | apply Kd.R_drew)); exact HO_10.out) hb); have n1_ := Aside0.mk (Kd.R_below (by (with_reducible repeat (first | apply Kd.R_alloc | apply Kd.R_drewN | apply Kd.R_drew)); exact HO_13.out) hb); have n2_ := Aside0.mk (blk_below (g := gb383) (o := .cells #[.int .i64 t379, .int .i64 t380, .int .i64 t381, .int .i64 t382] 44 (0, 0)) (by (with_reducible repeat (first | refine blk_drewN ?_ _ | refine blk_drew ?_ | refine blk_alloc ?_ _)); exact BK383.out) hb); have n3_ := Aside0.mk (blk_below (g := gb391) (o := .cells #[.int .i64 t386, .int .i64 t387, .int .i64 t388, .int .i64 t389] 44 (0, 0)) (by (with_reducible repeat (first | refine blk_drewN ?_ _ | refine blk_drew ?_ | refine blk_alloc ?_ _)); exact BK391.out) hb); have n4_ := Aside0.mk (blk_below (g := gb397) (o := .cells #[.int .i64 t392, .int .i64 t393, .int .i64 t394, .int .i64 t395] 44 (0, 0)) (by (with_reducible repeat (first | refine blk_drewN ?_ _ | refine blk_drew ?_ | refine blk_alloc ?_ _)); exact BK397.out) hb); have n5_ := Aside0.mk (blk_below (g := gb415) (o := .cells #[.int .i64 t411, .int .i64 t412, .int .i64 t413, .int .i64 t414] 44 (0, 0)) (by (with_reducible repeat (first | refine blk_drewN ?_ _ | refine blk_drew ?_ | refine blk_alloc ?_ _)); exact BK415.out) hb); have n6_ := Aside0.mk (below_step (by repeat (first | (with_reducible first | exact HB.out | apply below_alloc | apply pw_below_drewN | apply below_drew1 | refine below_set ?_ GE383.out | refine below_set ?_ GE391.out | refine below_set ?_ GE397.out | refine below_set ?_ GE415.out) | exact HB.out)) hb); clear HO_10; clear HO_13; clear BK383; clear BK391; clear BK397; clear BK415; clear HB; have HO_10 := n0_; have HO_13 := n1_; have BK383 := n2_; have BK391 := n3_; have BK397 := n4_; have BK415 := n5_; have HB := n6_; clear n0_ n1_ n2_ n3_ n4_ n5_ n6_; (try clear hb); (try clear hb2); (try clear hk); (try clear hi)))
                go_meet
                case rel => exact ⟨_, ((t423.toList != t402.toList)), (by first | rfl | (simp; done) | (simp [*]; done)), H', ⟨by have := HJ14.out; first | omega | exact Nat.le_refl _⟩, ⟨by (with_reducible repeat (first | apply Kd.R_alloc | apply Kd.R_drewN | apply Kd.R_drew)); exact Kd.R_mono HO_10.out (fun _ hk => ⟨hk.2.1, ⟨hk.2.2.1, ⟨hk.2.2.2.1, hk.2.2.2.2⟩⟩⟩)⟩, ⟨by (with_reducible repeat (first | refine blk_drewN ?_ _ | refine blk_drew ?_ | refine blk_alloc ?_ _)); exact BK383.out⟩, ⟨by (with_reducible repeat (first | refine blk_drewN ?_ _ | refine blk_drew ?_ | refine blk_alloc ?_ _)); exact BK391.out⟩, ⟨by (with_reducible repeat (first | refine blk_drewN ?_ _ | refine blk_drew ?_ | refine blk_alloc ?_ _)); exact BK397.out⟩, ⟨by (with_reducible repeat (first | refine blk_drewN ?_ _ | refine blk_drew ?_ | refine blk_alloc ?_ _)); exact BK415.out⟩, ⟨by repeat (first | (with_reducible first | exact HB.out | apply below_alloc | apply pw_below_drewN | apply below_drew1 | refine below_set ?_ GE383.out | refine below_set ?_ GE391.out | refine below_set ?_ GE397.out | refine below_set ?_ GE415.out) | exact HB.out)⟩⟩
              · replace c80 := Bool.eq_false_iff.mpr c80
                subst c80
                have H1 : (laws_FnTxs.j1 kj14 t384 t398 t401 false t379 t380 t381 t382) = some r := by rw [if_neg (show ¬ (false = true) by decide)] at H; exact H
                clear H
                have H := H1
                clear H1
                have H' := Aside0.mk H
                clear H
                go_wp2
                go_meet
                case rel => exact ⟨_, (false), (by first | rfl | (simp; done) | (simp [*]; done)), H', ⟨by have := HJ14.out; first | omega | exact Nat.le_refl _⟩, ⟨by (with_reducible repeat (first | apply Kd.R_alloc | apply Kd.R_drewN | apply Kd.R_drew)); exact Kd.R_mono HO_10.out (fun _ hk => ⟨hk.2.1, ⟨hk.2.2.1, ⟨hk.2.2.2.1, hk.2.2.2.2⟩⟩⟩)⟩, ⟨by (with_reducible repeat (first | refine blk_drewN ?_ _ | refine blk_drew ?_ | refine blk_alloc ?_ _)); exact BK383.out⟩, ⟨by (with_reducible repeat (first | refine blk_drewN ?_ _ | refine blk_drew ?_ | refine blk_alloc ?_ _)); exact BK391.out⟩, ⟨by (with_reducible repeat (first | refine blk_drewN ?_ _ | refine blk_drew ?_ | refine blk_alloc ?_ _)); exact BK397.out⟩, ⟨by (with_reducible repeat (first | refine blk_drewN ?_ _ | refine blk_drew ?_ | refine blk_alloc ?_ _)); exact BK415.out⟩, ⟨by repeat (first | (with_reducible first | exact HB.out | apply below_alloc | apply pw_below_drewN | apply below_drew1 | refine below_set ?_ GE383.out | refine below_set ?_ GE391.out | refine below_set ?_ GE397.out | refine below_set ?_ GE415.out) | exact HB.out)⟩⟩
          case rest =>
            clear HC62
            try clear p2
            try clear c4
            try clear c5
            try clear c6
            try clear c7
            try clear c8
            try clear c43
            try clear c43b0
            try clear c43b1
            try clear c44
            try clear c44b0
            try clear c44b1
            try clear c44b2
            try clear c45
            try clear c45b0
            try clear c47
            try clear c47b0
            try clear c47b1
            try clear c48
            try clear c48b0
            try clear c48b1
            try clear c48b2
            try clear c50
            try clear c53
            try clear c54
            try clear c55
            try clear c56
            try clear c57
            try clear c61
            try clear c63
            try clear c65
            try clear c65b0
            try clear c65b1
            try clear c66
            try clear c68
            try clear c69
            try clear c70
            try clear c75
            try clear c76
            try clear c77
            try clear c80
            try clear hcz71_0
            try clear hcz71_1
            try clear hcz71_2
            try clear hcz71_3
            try clear hcz78_0
            try clear hcz78_1
            try clear hcz78_2
            try clear hcz78_3
            try clear hfz71_0
            try clear hfz71_1
            try clear hfz71_2
            try clear hfz71_3
            try clear hfz78_0
            try clear hfz78_1
            try clear hfz78_2
            try clear hfz78_3
            try clear p2
            obtain ⟨kq, x113_61, rfl, HA, HJ61, HO_10, BK383, BK391, BK397, BK415, HB⟩ := hcut
            cases kq with
            | zero => exact absurd HA.out (by simp [laws_FnTxs.j1])
            | succ kj61 =>
              have H := HA.out
              clear HA
              simp only [laws_FnTxs.j1] at H
              by_cases c84 : x113_61 = true
              · subst c84
                have H1 : (some false) = some r := by rw [if_pos rfl] at H; exact H
                clear H
                have H := H1
                clear H1
                exact absurd ((Option.some.inj H).trans HRT.out) (by decide)
              · replace c84 := Bool.eq_false_iff.mpr c84
                subst c84
                have H1 : ((impl_TxOk.f t379 t380 t381 t382).bind fun t424 => (if t424 = true then ((impl_TxOf.f kj61 t384).bind fun bt425 => (if bt425.2.2.2.2 = true then (if (!(bt425.1 == t379) || (!(bt425.2.1 == t380) || (!(bt425.2.2.1 == t381) || (!(bt425.2.2.2.1 == t382))))) = true then (some false) else (laws_FnTxs.j2 kj61 t398 t401)) else (some false))) else (laws_FnTxs.j2 kj61 t398 t401))) = some r := by rw [if_neg (show ¬ (false = true) by decide)] at H; exact H
                clear H
                have H := H1
                clear H1
                replace H := Option.bind_eq_some_iff.mp H
                obtain ⟨t424, A850, H⟩ := H
                replace H : (if t424 = true then ((impl_TxOf.f kj61 t384).bind fun bt425 => (if bt425.2.2.2.2 = true then (if (!(bt425.1 == t379) || (!(bt425.2.1 == t380) || (!(bt425.2.2.1 == t381) || (!(bt425.2.2.2.1 == t382))))) = true then (some false) else (laws_FnTxs.j2 kj61 t398 t401)) else (some false))) else (laws_FnTxs.j2 kj61 t398 t401)) = some r := H
                have A85 := Aside0.mk A850
                clear A850
                have HC86 := Aside0.mk H
                clear H
                have hnb87 := NB383_391.out
                have hnc87 := NB391_383.out
                have hnb88 := NB383_397.out
                have hnc88 := NB397_383.out
                have hnb89 := NB383_415.out
                have hnc89 := NB415_383.out
                have hcz90_0 : wc.cell? ⟨gb383, 0, none⟩ = some (.int .i64 t379) := (blk_cell BK383.out 0).trans rfl
                have hcz90_1 : wc.cell? ⟨gb383, 1, none⟩ = some (.int .i64 t380) := (blk_cell BK383.out 1).trans rfl
                have hcz90_2 : wc.cell? ⟨gb383, 2, none⟩ = some (.int .i64 t381) := (blk_cell BK383.out 2).trans rfl
                have hcz90_3 : wc.cell? ⟨gb383, 3, none⟩ = some (.int .i64 t382) := (blk_cell BK383.out 3).trans rfl
                have hfz90_0 := blk_frozen BK383.out 0
                have hfz90_1 := blk_frozen BK383.out 1
                have hfz90_2 := blk_frozen BK383.out 2
                have hfz90_3 := blk_frozen BK383.out 3
                go_upto_if 115 with (first | ((with_reducible refine gate_callee (f := 56) rfl ?_); refine goesL_ (some 115) rfl rfl Tryd.func56 (by kernel_rfl) rfl #[.agg #[.int .i64 t379, .int .i64 t380, .int .i64 t381, .int .i64 t382]] rfl (by (try simp only [List.map_toArray, List.map_cons, List.map_nil]); first | done | rfl | (simp only [List.length_drop, List.length_take]; rfl)) ?_; (with_reducible refine (impl_TxOk.calls t379 t380 t381 t382 t424 _ A85.out).mono ?_); rintro e w91 ⟨rfl, hb⟩; refine ⟨_, rfl, ?_⟩; have n0_ := Aside0.mk (Kd.R_below (by (with_reducible repeat (first | apply Kd.R_alloc | apply Kd.R_drewN | apply Kd.R_drew)); exact HO_10.out) hb); have n1_ := Aside0.mk (blk_below (g := gb383) (o := .cells #[.int .i64 t379, .int .i64 t380, .int .i64 t381, .int .i64 t382] 44 (0, 0)) (by (with_reducible repeat (first | refine blk_drewN ?_ _ | refine blk_drew ?_ | refine blk_alloc ?_ _)); exact BK383.out) hb); have n2_ := Aside0.mk (blk_below (g := gb391) (o := .cells #[.int .i64 t386, .int .i64 t387, .int .i64 t388, .int .i64 t389] 44 (0, 0)) (by (with_reducible repeat (first | refine blk_drewN ?_ _ | refine blk_drew ?_ | refine blk_alloc ?_ _)); exact BK391.out) hb); have n3_ := Aside0.mk (blk_below (g := gb397) (o := .cells #[.int .i64 t392, .int .i64 t393, .int .i64 t394, .int .i64 t395] 44 (0, 0)) (by (with_reducible repeat (first | refine blk_drewN ?_ _ | refine blk_drew ?_ | refine blk_alloc ?_ _)); exact BK397.out) hb); have n4_ := Aside0.mk (blk_below (g := gb415) (o := .cells #[.int .i64 t411, .int .i64 t412, .int .i64 t413, .int .i64 t414] 44 (0, 0)) (by (with_reducible repeat (first | refine blk_drewN ?_ _ | refine blk_drew ?_ | refine blk_alloc ?_ _)); exact BK415.out) hb); have n5_ := Aside0.mk (below_step (by repeat (first | (with_reducible first | exact HB.out | apply below_alloc | apply pw_below_drewN | apply below_drew1 | refine below_set ?_ GE383.out | refine below_set ?_ GE391.out | refine below_set ?_ GE397.out | refine below_set ?_ GE415.out) | exact HB.out)) hb); clear HO_10; clear BK383; clear BK391; clear BK397; clear BK415; clear HB; have HO_10 := n0_; have BK383 := n1_; have BK391 := n2_; have BK397 := n3_; have BK415 := n4_; have HB := n5_; clear n0_ n1_ n2_ n3_ n4_ n5_; (try clear hb); (try clear hb2); (try clear hk); (try clear hi)))
                (try simp only [Act.put, List.setIfInBounds_toArray, List.set_cons_zero, List.set_cons_succ])
                go_cut [] (fun wc => ∃ (kq : Nat), Aside0 (laws_FnTxs.j2 kq t398 t401 = some r) ∧ Aside0 (kq ≤ kj61) ∧ Aside0 (Kd.R k44 44 wc w.heap.size (fun k_ => k_ ≠ gb383 ∧ k_ ≠ gb391 ∧ k_ ≠ gb397 ∧ k_ ≠ gb415) (.slice Ao31 t398.length co31) t398) ∧ Aside0 (wc.heap[gb383]? = some (.cells #[.int .i64 t379, .int .i64 t380, .int .i64 t381, .int .i64 t382] 44 (0, 0))) ∧ Aside0 (wc.heap[gb391]? = some (.cells #[.int .i64 t386, .int .i64 t387, .int .i64 t388, .int .i64 t389] 44 (0, 0))) ∧ Aside0 (wc.heap[gb397]? = some (.cells #[.int .i64 t392, .int .i64 t393, .int .i64 t394, .int .i64 t395] 44 (0, 0))) ∧ Aside0 (wc.heap[gb415]? = some (.cells #[.int .i64 t411, .int .i64 t412, .int .i64 t413, .int .i64 t414] 44 (0, 0))) ∧ Aside0 (Below w.heap.size w wc))
                case first =>
                  have H := HC86.out
                  clear HC86
                  by_cases c92 : t424 = true
                  · subst c92
                    have H1 : ((impl_TxOf.f kj61 t384).bind fun bt425 => (if bt425.2.2.2.2 = true then (if (!(bt425.1 == t379) || (!(bt425.2.1 == t380) || (!(bt425.2.2.1 == t381) || (!(bt425.2.2.2.1 == t382))))) = true then (some false) else (laws_FnTxs.j2 kj61 t398 t401)) else (some false))) = some r := by rw [if_pos rfl] at H; exact H
                    clear H
                    have H := H1
                    clear H1
                    replace H := Option.bind_eq_some_iff.mp H
                    obtain ⟨⟨t425, t426, t427, t428, t429⟩, A930, H⟩ := H
                    replace H : (if t429 = true then (if (!(t425 == t379) || (!(t426 == t380) || (!(t427 == t381) || (!(t428 == t382))))) = true then (some false) else (laws_FnTxs.j2 kj61 t398 t401)) else (some false)) = some r := H
                    have A93 := Aside0.mk A930
                    clear A930
                    by_cases c94 : t429 = true
                    · subst c94
                      have H1 : (if (!(t425 == t379) || (!(t426 == t380) || (!(t427 == t381) || (!(t428 == t382))))) = true then (some false) else (laws_FnTxs.j2 kj61 t398 t401)) = some r := by rw [if_pos rfl] at H; exact H
                      clear H
                      have H := H1
                      clear H1
                      by_cases c95 : (!(t425 == t379) || (!(t426 == t380) || (!(t427 == t381) || (!(t428 == t382))))) = true
                      · rw [if_pos c95] at H
                        have c95b0 : (!(t425 == t379) || (!(t426 == t380) || (!(t427 == t381) || (!(t428 == t382))))) = true := c95
                        clear c95
                        (first | rw [c95b0] | (simp only [i64_w, i32_w]; rw [c95b0]) | skip)
                        exact absurd ((Option.some.inj H).trans HRT.out) (by decide)
                      · rw [if_neg c95] at H
                        have c95b0 : (!(t425 == t379) || (!(t426 == t380) || (!(t427 == t381) || (!(t428 == t382))))) = false := by simpa using c95
                        clear c95
                        (first | rw [c95b0] | (simp only [i64_w, i32_w]; rw [c95b0]) | skip)
                        have H' := Aside0.mk H
                        clear H
                        go_wp2_with (first | ((with_reducible refine gate_callee (f := 45) rfl ?_); refine goesL_ (some 118) rfl rfl Tryd.func45 (by kernel_rfl) rfl #[.string t384] rfl (by (try simp only [List.map_toArray, List.map_cons, List.map_nil]); first | done | rfl | (simp only [List.length_drop, List.length_take]; rfl)) ?_; (with_reducible refine (impl_TxOf.calls kj61 t384 t425 t426 t427 t428 true _ ?side1 A93.out).mono ?_); (case side1 => exact LaidW.below HL0.out (by repeat (first | (with_reducible first | exact HB.out | apply below_alloc | apply pw_below_drewN | apply below_drew1 | refine below_set ?_ GE383.out | refine below_set ?_ GE391.out | refine below_set ?_ GE397.out | refine below_set ?_ GE415.out) | exact HB.out))); rintro e w96 ⟨rfl, hb⟩; refine ⟨_, rfl, ?_⟩; have n0_ := Aside0.mk (Kd.R_below (by (with_reducible repeat (first | apply Kd.R_alloc | apply Kd.R_drewN | apply Kd.R_drew)); exact HO_10.out) hb); have n1_ := Aside0.mk (blk_below (g := gb383) (o := .cells #[.int .i64 t379, .int .i64 t380, .int .i64 t381, .int .i64 t382] 44 (0, 0)) (by (with_reducible repeat (first | refine blk_drewN ?_ _ | refine blk_drew ?_ | refine blk_alloc ?_ _)); exact BK383.out) hb); have n2_ := Aside0.mk (blk_below (g := gb391) (o := .cells #[.int .i64 t386, .int .i64 t387, .int .i64 t388, .int .i64 t389] 44 (0, 0)) (by (with_reducible repeat (first | refine blk_drewN ?_ _ | refine blk_drew ?_ | refine blk_alloc ?_ _)); exact BK391.out) hb); have n3_ := Aside0.mk (blk_below (g := gb397) (o := .cells #[.int .i64 t392, .int .i64 t393, .int .i64 t394, .int .i64 t395] 44 (0, 0)) (by (with_reducible repeat (first | refine blk_drewN ?_ _ | refine blk_drew ?_ | refine blk_alloc ?_ _)); exact BK397.out) hb); have n4_ := Aside0.mk (blk_below (g := gb415) (o := .cells #[.int .i64 t411, .int .i64 t412, .int .i64 t413, .int .i64 t414] 44 (0, 0)) (by (with_reducible repeat (first | refine blk_drewN ?_ _ | refine blk_drew ?_ | refine blk_alloc ?_ _)); exact BK415.out) hb); have n5_ := Aside0.mk (below_step (by repeat (first | (with_reducible first | exact HB.out | apply below_alloc | apply pw_below_drewN | apply below_drew1 | refine below_set ?_ GE383.out | refine below_set ?_ GE391.out | refine below_set ?_ GE397.out | refine below_set ?_ GE415.out) | exact HB.out)) hb); clear HO_10; clear BK383; clear BK391; clear BK397; clear BK415; clear HB; have HO_10 := n0_; have BK383 := n1_; have BK391 := n2_; have BK397 := n3_; have BK415 := n4_; have HB := n5_; clear n0_ n1_ n2_ n3_ n4_ n5_; (try clear hb); (try clear hb2); (try clear hk); (try clear hi)) | ((with_reducible refine gate_dst (N := 18) rfl ?_); refine box_event ?hg (N := 18) ?hd (cs := #[.int .i64 0, .int .i64 0, .int .i64 0, .int .i64 0]) (t := 44) ?hr ?_; (case hd => rfl); (case hg => rfl); (case hr => first | (go_simp; done) | (go_simp; rfl)); intro gb430 hg w97 hbox hb; have n0_ := Aside0.mk (Kd.R_below (Kd.R_elderB (by (with_reducible repeat (first | apply Kd.R_alloc | apply Kd.R_drewN | apply Kd.R_drew)); exact HO_10.out) gb430 (Nat.le_of_eq hg.symm)) hb); have n1_ := Aside0.mk (blk_below (g := gb383) (o := .cells #[.int .i64 t379, .int .i64 t380, .int .i64 t381, .int .i64 t382] 44 (0, 0)) (by (with_reducible repeat (first | refine blk_drewN ?_ _ | refine blk_drew ?_ | refine blk_alloc ?_ _)); exact BK383.out) hb); have n2_ := Aside0.mk (blk_below (g := gb391) (o := .cells #[.int .i64 t386, .int .i64 t387, .int .i64 t388, .int .i64 t389] 44 (0, 0)) (by (with_reducible repeat (first | refine blk_drewN ?_ _ | refine blk_drew ?_ | refine blk_alloc ?_ _)); exact BK391.out) hb); have n3_ := Aside0.mk (blk_below (g := gb397) (o := .cells #[.int .i64 t392, .int .i64 t393, .int .i64 t394, .int .i64 t395] 44 (0, 0)) (by (with_reducible repeat (first | refine blk_drewN ?_ _ | refine blk_drew ?_ | refine blk_alloc ?_ _)); exact BK397.out) hb); have n4_ := Aside0.mk (blk_below (g := gb415) (o := .cells #[.int .i64 t411, .int .i64 t412, .int .i64 t413, .int .i64 t414] 44 (0, 0)) (by (with_reducible repeat (first | refine blk_drewN ?_ _ | refine blk_drew ?_ | refine blk_alloc ?_ _)); exact BK415.out) hb); have n5_ := Aside0.mk (below_step (by repeat (first | (with_reducible first | exact HB.out | apply below_alloc | apply pw_below_drewN | apply below_drew1 | refine below_set ?_ GE383.out | refine below_set ?_ GE391.out | refine below_set ?_ GE397.out | refine below_set ?_ GE415.out) | exact HB.out)) hb); have n6_ := Aside0.mk (hbox); have n7_ := Aside0.mk ((by rw [hg]; exact (below_size (by repeat (first | (with_reducible first | exact HB.out | apply below_alloc | apply pw_below_drewN | apply below_drew1 | refine below_set ?_ GE383.out | refine below_set ?_ GE391.out | refine below_set ?_ GE397.out | refine below_set ?_ GE415.out) | exact HB.out))) : w.heap.size ≤ gb430)); have n8_ := Aside0.mk ((by rw [hg]; exact (below_size (by repeat (first | (with_reducible first | exact HB.out | apply below_alloc | apply pw_below_drewN | apply below_drew1 | refine below_set ?_ GE383.out | refine below_set ?_ GE391.out | refine below_set ?_ GE397.out | refine below_set ?_ GE415.out) | exact HB.out))) : w.heap.size ≤ gb430)); have n9_ := Aside0.mk ((by rw [hg]; exact Nat.ne_of_lt (blk_lt (g := gb383) (o := .cells #[.int .i64 t379, .int .i64 t380, .int .i64 t381, .int .i64 t382] 44 (0, 0)) (by (with_reducible repeat (first | refine blk_drewN ?_ _ | refine blk_drew ?_ | refine blk_alloc ?_ _)); exact BK383.out)) : gb383 ≠ gb430)); have n10_ := Aside0.mk ((by rw [hg]; exact Nat.ne_of_gt (blk_lt (g := gb383) (o := .cells #[.int .i64 t379, .int .i64 t380, .int .i64 t381, .int .i64 t382] 44 (0, 0)) (by (with_reducible repeat (first | refine blk_drewN ?_ _ | refine blk_drew ?_ | refine blk_alloc ?_ _)); exact BK383.out)) : gb430 ≠ gb383)); have n11_ := Aside0.mk ((by rw [hg]; exact Nat.ne_of_lt (blk_lt (g := gb391) (o := .cells #[.int .i64 t386, .int .i64 t387, .int .i64 t388, .int .i64 t389] 44 (0, 0)) (by (with_reducible repeat (first | refine blk_drewN ?_ _ | refine blk_drew ?_ | refine blk_alloc ?_ _)); exact BK391.out)) : gb391 ≠ gb430)); have n12_ := Aside0.mk ((by rw [hg]; exact Nat.ne_of_gt (blk_lt (g := gb391) (o := .cells #[.int .i64 t386, .int .i64 t387, .int .i64 t388, .int .i64 t389] 44 (0, 0)) (by (with_reducible repeat (first | refine blk_drewN ?_ _ | refine blk_drew ?_ | refine blk_alloc ?_ _)); exact BK391.out)) : gb430 ≠ gb391)); have n13_ := Aside0.mk ((by rw [hg]; exact Nat.ne_of_lt (blk_lt (g := gb397) (o := .cells #[.int .i64 t392, .int .i64 t393, .int .i64 t394, .int .i64 t395] 44 (0, 0)) (by (with_reducible repeat (first | refine blk_drewN ?_ _ | refine blk_drew ?_ | refine blk_alloc ?_ _)); exact BK397.out)) : gb397 ≠ gb430)); have n14_ := Aside0.mk ((by rw [hg]; exact Nat.ne_of_gt (blk_lt (g := gb397) (o := .cells #[.int .i64 t392, .int .i64 t393, .int .i64 t394, .int .i64 t395] 44 (0, 0)) (by (with_reducible repeat (first | refine blk_drewN ?_ _ | refine blk_drew ?_ | refine blk_alloc ?_ _)); exact BK397.out)) : gb430 ≠ gb397)); have n15_ := Aside0.mk ((by rw [hg]; exact Nat.ne_of_lt (blk_lt (g := gb415) (o := .cells #[.int .i64 t411, .int .i64 t412, .int .i64 t413, .int .i64 t414] 44 (0, 0)) (by (with_reducible repeat (first | refine blk_drewN ?_ _ | refine blk_drew ?_ | refine blk_alloc ?_ _)); exact BK415.out)) : gb415 ≠ gb430)); have n16_ := Aside0.mk ((by rw [hg]; exact Nat.ne_of_gt (blk_lt (g := gb415) (o := .cells #[.int .i64 t411, .int .i64 t412, .int .i64 t413, .int .i64 t414] 44 (0, 0)) (by (with_reducible repeat (first | refine blk_drewN ?_ _ | refine blk_drew ?_ | refine blk_alloc ?_ _)); exact BK415.out)) : gb430 ≠ gb415)); clear HO_10; clear BK383; clear BK391; clear BK397; clear BK415; clear HB; have HO_10 := n0_; have BK383 := n1_; have BK391 := n2_; have BK397 := n3_; have BK415 := n4_; have HB := n5_; have BK430 := n6_; have GW430 := n7_; have GE430 := n8_; have NB383_430 := n9_; have NB430_383 := n10_; have NB391_430 := n11_; have NB430_391 := n12_; have NB397_430 := n13_; have NB430_397 := n14_; have NB415_430 := n15_; have NB430_415 := n16_; clear n0_ n1_ n2_ n3_ n4_ n5_ n6_ n7_ n8_ n9_ n10_ n11_ n12_ n13_ n14_ n15_ n16_; clear hb hbox hg; have hnb98 := NB430_383.out; have hnc98 := NB383_430.out; have hnb99 := NB430_391.out; have hnc99 := NB391_430.out; have hnb100 := NB430_397.out; have hnc100 := NB397_430.out; have hnb101 := NB430_415.out; have hnc101 := NB415_430.out; have hcz102_0 : w97.cell? ⟨gb430, 0, none⟩ = some (.int .i64 0) := (blk_cell BK430.out 0).trans rfl; have hcz102_1 : w97.cell? ⟨gb430, 1, none⟩ = some (.int .i64 0) := (blk_cell BK430.out 1).trans rfl; have hcz102_2 : w97.cell? ⟨gb430, 2, none⟩ = some (.int .i64 0) := (blk_cell BK430.out 2).trans rfl; have hcz102_3 : w97.cell? ⟨gb430, 3, none⟩ = some (.int .i64 0) := (blk_cell BK430.out 3).trans rfl; have hfz102_0 := blk_frozen BK430.out 0; have hfz102_1 := blk_frozen BK430.out 1; have hfz102_2 := blk_frozen BK430.out 2; have hfz102_3 := blk_frozen BK430.out 3; have hnb103 := NB383_391.out; have hnc103 := NB391_383.out; have hnb104 := NB383_397.out; have hnc104 := NB397_383.out; have hnb105 := NB383_415.out; have hnc105 := NB415_383.out; have hcz106_0 : w97.cell? ⟨gb383, 0, none⟩ = some (.int .i64 t379) := (blk_cell BK383.out 0).trans rfl; have hcz106_1 : w97.cell? ⟨gb383, 1, none⟩ = some (.int .i64 t380) := (blk_cell BK383.out 1).trans rfl; have hcz106_2 : w97.cell? ⟨gb383, 2, none⟩ = some (.int .i64 t381) := (blk_cell BK383.out 2).trans rfl; have hcz106_3 : w97.cell? ⟨gb383, 3, none⟩ = some (.int .i64 t382) := (blk_cell BK383.out 3).trans rfl; have hfz106_0 := blk_frozen BK383.out 0; have hfz106_1 := blk_frozen BK383.out 1; have hfz106_2 := blk_frozen BK383.out 2; have hfz106_3 := blk_frozen BK383.out 3))
                        go_meet
                        case rel => exact ⟨_, H', ⟨by have := HJ14.out; have := HJ61.out; first | omega | exact Nat.le_refl _⟩, ⟨by (with_reducible repeat (first | apply Kd.R_alloc | apply Kd.R_drewN | apply Kd.R_drew)); exact Kd.R_mono (Kd.R_far (p := ⟨gb430, 3, none⟩) (Kd.R_far (p := ⟨gb430, 2, none⟩) (Kd.R_far (p := ⟨gb430, 1, none⟩) (Kd.R_far (p := ⟨gb430, 0, none⟩) (Kd.R_mono HO_10.out (fun k_ hk => (⟨hk, hk.2⟩ : _ ∧ k_ ≠ gb430))) (fun _ hk => hk.2) (.int .i64 t425)) (fun _ hk => hk.2) (.int .i64 t426)) (fun _ hk => hk.2) (.int .i64 t427)) (fun _ hk => hk.2) (.int .i64 t428)) (fun _ hk => ⟨hk.1.1.1, ⟨hk.1.1.2.1, ⟨hk.1.1.2.2.1, hk.1.1.2.2.2⟩⟩⟩)⟩, ⟨by (with_reducible repeat (first | refine blk_drewN ?_ _ | refine blk_drew ?_ | refine blk_alloc ?_ _)); refine blk_far ?_ NB383_430.out _; (with_reducible repeat (first | refine blk_drewN ?_ _ | refine blk_drew ?_ | refine blk_alloc ?_ _)); refine blk_far ?_ NB383_430.out _; (with_reducible repeat (first | refine blk_drewN ?_ _ | refine blk_drew ?_ | refine blk_alloc ?_ _)); refine blk_far ?_ NB383_430.out _; (with_reducible repeat (first | refine blk_drewN ?_ _ | refine blk_drew ?_ | refine blk_alloc ?_ _)); refine blk_far ?_ NB383_430.out _; (with_reducible repeat (first | refine blk_drewN ?_ _ | refine blk_drew ?_ | refine blk_alloc ?_ _)); exact BK383.out⟩, ⟨by (with_reducible repeat (first | refine blk_drewN ?_ _ | refine blk_drew ?_ | refine blk_alloc ?_ _)); refine blk_far ?_ NB391_430.out _; (with_reducible repeat (first | refine blk_drewN ?_ _ | refine blk_drew ?_ | refine blk_alloc ?_ _)); refine blk_far ?_ NB391_430.out _; (with_reducible repeat (first | refine blk_drewN ?_ _ | refine blk_drew ?_ | refine blk_alloc ?_ _)); refine blk_far ?_ NB391_430.out _; (with_reducible repeat (first | refine blk_drewN ?_ _ | refine blk_drew ?_ | refine blk_alloc ?_ _)); refine blk_far ?_ NB391_430.out _; (with_reducible repeat (first | refine blk_drewN ?_ _ | refine blk_drew ?_ | refine blk_alloc ?_ _)); exact BK391.out⟩, ⟨by (with_reducible repeat (first | refine blk_drewN ?_ _ | refine blk_drew ?_ | refine blk_alloc ?_ _)); refine blk_far ?_ NB397_430.out _; (with_reducible repeat (first | refine blk_drewN ?_ _ | refine blk_drew ?_ | refine blk_alloc ?_ _)); refine blk_far ?_ NB397_430.out _; (with_reducible repeat (first | refine blk_drewN ?_ _ | refine blk_drew ?_ | refine blk_alloc ?_ _)); refine blk_far ?_ NB397_430.out _; (with_reducible repeat (first | refine blk_drewN ?_ _ | refine blk_drew ?_ | refine blk_alloc ?_ _)); refine blk_far ?_ NB397_430.out _; (with_reducible repeat (first | refine blk_drewN ?_ _ | refine blk_drew ?_ | refine blk_alloc ?_ _)); exact BK397.out⟩, ⟨by (with_reducible repeat (first | refine blk_drewN ?_ _ | refine blk_drew ?_ | refine blk_alloc ?_ _)); refine blk_far ?_ NB415_430.out _; (with_reducible repeat (first | refine blk_drewN ?_ _ | refine blk_drew ?_ | refine blk_alloc ?_ _)); refine blk_far ?_ NB415_430.out _; (with_reducible repeat (first | refine blk_drewN ?_ _ | refine blk_drew ?_ | refine blk_alloc ?_ _)); refine blk_far ?_ NB415_430.out _; (with_reducible repeat (first | refine blk_drewN ?_ _ | refine blk_drew ?_ | refine blk_alloc ?_ _)); refine blk_far ?_ NB415_430.out _; (with_reducible repeat (first | refine blk_drewN ?_ _ | refine blk_drew ?_ | refine blk_alloc ?_ _)); exact BK415.out⟩, ⟨by repeat (first | (with_reducible first | exact HB.out | apply below_alloc | apply pw_below_drewN | apply below_drew1 | refine below_set ?_ GE383.out | refine below_set ?_ GE391.out | refine below_set ?_ GE397.out | refine below_set ?_ GE415.out | refine below_set ?_ GE430.out) | exact HB.out)⟩⟩
                    · replace c94 := Bool.eq_false_iff.mpr c94
                      subst c94
                      have H1 : (some false) = some r := by rw [if_neg (show ¬ (false = true) by decide)] at H; exact H
                      clear H
                      have H := H1
                      clear H1
                      exact absurd ((Option.some.inj H).trans HRT.out) (by decide)
                  · replace c92 := Bool.eq_false_iff.mpr c92
                    subst c92
                    have H1 : (laws_FnTxs.j2 kj61 t398 t401) = some r := by rw [if_neg (show ¬ (false = true) by decide)] at H; exact H
                    clear H
                    have H := H1
                    clear H1
                    have H' := Aside0.mk H
                    clear H
                    go_wp2
                    go_meet
                    case rel => exact ⟨_, H', ⟨by have := HJ14.out; have := HJ61.out; first | omega | exact Nat.le_refl _⟩, ⟨by (with_reducible repeat (first | apply Kd.R_alloc | apply Kd.R_drewN | apply Kd.R_drew)); exact HO_10.out⟩, ⟨by (with_reducible repeat (first | refine blk_drewN ?_ _ | refine blk_drew ?_ | refine blk_alloc ?_ _)); exact BK383.out⟩, ⟨by (with_reducible repeat (first | refine blk_drewN ?_ _ | refine blk_drew ?_ | refine blk_alloc ?_ _)); exact BK391.out⟩, ⟨by (with_reducible repeat (first | refine blk_drewN ?_ _ | refine blk_drew ?_ | refine blk_alloc ?_ _)); exact BK397.out⟩, ⟨by (with_reducible repeat (first | refine blk_drewN ?_ _ | refine blk_drew ?_ | refine blk_alloc ?_ _)); exact BK415.out⟩, ⟨by repeat (first | (with_reducible first | exact HB.out | apply below_alloc | apply pw_below_drewN | apply below_drew1 | refine below_set ?_ GE383.out | refine below_set ?_ GE391.out | refine below_set ?_ GE397.out | refine below_set ?_ GE415.out) | exact HB.out)⟩⟩
                case rest =>
                  clear HC86
                  try clear c1
                  try clear p2
                  try clear c4
                  try clear c5
                  try clear c6
                  try clear c7
                  try clear c8
                  try clear c9
                  try clear c10
                  try clear c43
                  try clear c43b0
                  try clear c43b1
                  try clear c44
                  try clear c44b0
                  try clear c44b1
                  try clear c44b2
                  try clear c45
                  try clear c45b0
                  try clear c47
                  try clear c47b0
                  try clear c47b1
                  try clear c48
                  try clear c48b0
                  try clear c48b1
                  try clear c48b2
                  try clear c50
                  try clear c53
                  try clear c54
                  try clear c55
                  try clear c56
                  try clear c57
                  try clear c61
                  try clear c63
                  try clear c65
                  try clear c65b0
                  try clear c65b1
                  try clear c66
                  try clear c68
                  try clear c69
                  try clear c70
                  try clear c75
                  try clear c76
                  try clear c77
                  try clear c80
                  try clear c84
                  try clear c87
                  try clear c88
                  try clear c89
                  try clear c92
                  try clear c94
                  try clear c95
                  try clear c95b0
                  try clear c98
                  try clear c99
                  try clear c100
                  try clear c101
                  try clear c103
                  try clear c104
                  try clear c105
                  try clear hcz102_0
                  try clear hcz102_1
                  try clear hcz102_2
                  try clear hcz102_3
                  try clear hcz106_0
                  try clear hcz106_1
                  try clear hcz106_2
                  try clear hcz106_3
                  try clear hcz71_0
                  try clear hcz71_1
                  try clear hcz71_2
                  try clear hcz71_3
                  try clear hcz78_0
                  try clear hcz78_1
                  try clear hcz78_2
                  try clear hcz78_3
                  try clear hcz90_0
                  try clear hcz90_1
                  try clear hcz90_2
                  try clear hcz90_3
                  try clear hfz102_0
                  try clear hfz102_1
                  try clear hfz102_2
                  try clear hfz102_3
                  try clear hfz106_0
                  try clear hfz106_1
                  try clear hfz106_2
                  try clear hfz106_3
                  try clear hfz71_0
                  try clear hfz71_1
                  try clear hfz71_2
                  try clear hfz71_3
                  try clear hfz78_0
                  try clear hfz78_1
                  try clear hfz78_2
                  try clear hfz78_3
                  try clear hfz90_0
                  try clear hfz90_1
                  try clear hfz90_2
                  try clear hfz90_3
                  try clear p2
                  obtain ⟨kq, HA, HJ85, HO_10, BK383, BK391, BK397, BK415, HB⟩ := hcut
                  cases kq with
                  | zero => exact absurd HA.out (by simp [laws_FnTxs.j2])
                  | succ kj85 =>
                    have H := HA.out
                    clear HA
                    simp only [laws_FnTxs.j2] at H
                    have H' := Aside0.mk H
                    clear H
                    go_wp2
                    go_loopg [20, 21] kj85 (fun kq v20 v21 w' => ∃ (x20_4 : Bool) (x21_4 : Int), v20 = .bool x20_4 ∧ v21 = .int .i64 x21_4 ∧ Aside0 (laws_FnTxs.l0 kq t398 t401 x20_4 x21_4 = some r) ∧ Aside0 (kq ≤ kj85) ∧ Aside0 (Kd.R k44 44 w' w.heap.size (fun k_ => k_ ≠ gb383 ∧ k_ ≠ gb391 ∧ k_ ≠ gb397 ∧ k_ ≠ gb415) (.slice Ao31 t398.length co31) t398) ∧ Aside0 (w'.heap[gb383]? = some (.cells #[.int .i64 t379, .int .i64 t380, .int .i64 t381, .int .i64 t382] 44 (0, 0))) ∧ Aside0 (w'.heap[gb391]? = some (.cells #[.int .i64 t386, .int .i64 t387, .int .i64 t388, .int .i64 t389] 44 (0, 0))) ∧ Aside0 (w'.heap[gb397]? = some (.cells #[.int .i64 t392, .int .i64 t393, .int .i64 t394, .int .i64 t395] 44 (0, 0))) ∧ Aside0 (w'.heap[gb415]? = some (.cells #[.int .i64 t411, .int .i64 t412, .int .i64 t413, .int .i64 t414] 44 (0, 0))) ∧ Aside0 (Below w.heap.size w w'))
                    case atStart => exact ⟨(true), (0), (by first | rfl | (simp; done) | (simp [*]; done)), (by first | rfl | (simp; done) | (simp [*]; done)), H', ⟨Nat.le_refl _⟩, ⟨by (with_reducible repeat (first | apply Kd.R_alloc | apply Kd.R_drewN | apply Kd.R_drew)); exact HO_10.out⟩, ⟨by (with_reducible repeat (first | refine blk_drewN ?_ _ | refine blk_drew ?_ | refine blk_alloc ?_ _)); exact BK383.out⟩, ⟨by (with_reducible repeat (first | refine blk_drewN ?_ _ | refine blk_drew ?_ | refine blk_alloc ?_ _)); exact BK391.out⟩, ⟨by (with_reducible repeat (first | refine blk_drewN ?_ _ | refine blk_drew ?_ | refine blk_alloc ?_ _)); exact BK397.out⟩, ⟨by (with_reducible repeat (first | refine blk_drewN ?_ _ | refine blk_drew ?_ | refine blk_alloc ?_ _)); exact BK415.out⟩, ⟨by repeat (first | (with_reducible first | exact HB.out | apply below_alloc | apply pw_below_drewN | apply below_drew1 | refine below_set ?_ GE383.out | refine below_set ?_ GE391.out | refine below_set ?_ GE397.out | refine below_set ?_ GE415.out) | exact HB.out)⟩⟩
                    case round =>
                      clear H'
                      try clear c1
                      try clear p2
                      try clear c4
                      try clear c5
                      try clear c6
                      try clear c7
                      try clear c8
                      try clear c9
                      try clear c10
                      try clear c43
                      try clear c43b0
                      try clear c43b1
                      try clear c44
                      try clear c44b0
                      try clear c44b1
                      try clear c44b2
                      try clear c45
                      try clear c45b0
                      try clear c47
                      try clear c47b0
                      try clear c47b1
                      try clear c48
                      try clear c48b0
                      try clear c48b1
                      try clear c48b2
                      try clear c50
                      try clear c53
                      try clear c54
                      try clear c55
                      try clear c56
                      try clear c57
                      try clear c61
                      try clear c63
                      try clear c65
                      try clear c65b0
                      try clear c65b1
                      try clear c66
                      try clear c68
                      try clear c69
                      try clear c70
                      try clear c75
                      try clear c76
                      try clear c77
                      try clear c80
                      try clear c84
                      try clear c87
                      try clear c88
                      try clear c89
                      try clear c92
                      try clear c94
                      try clear c95
                      try clear c95b0
                      try clear c98
                      try clear c99
                      try clear c100
                      try clear c101
                      try clear c103
                      try clear c104
                      try clear c105
                      try clear hcz102_0
                      try clear hcz102_1
                      try clear hcz102_2
                      try clear hcz102_3
                      try clear hcz106_0
                      try clear hcz106_1
                      try clear hcz106_2
                      try clear hcz106_3
                      try clear hcz71_0
                      try clear hcz71_1
                      try clear hcz71_2
                      try clear hcz71_3
                      try clear hcz78_0
                      try clear hcz78_1
                      try clear hcz78_2
                      try clear hcz78_3
                      try clear hcz90_0
                      try clear hcz90_1
                      try clear hcz90_2
                      try clear hcz90_3
                      try clear hfz102_0
                      try clear hfz102_1
                      try clear hfz102_2
                      try clear hfz102_3
                      try clear hfz106_0
                      try clear hfz106_1
                      try clear hfz106_2
                      try clear hfz106_3
                      try clear hfz71_0
                      try clear hfz71_1
                      try clear hfz71_2
                      try clear hfz71_3
                      try clear hfz78_0
                      try clear hfz78_1
                      try clear hfz78_2
                      try clear hfz78_3
                      try clear hfz90_0
                      try clear hfz90_1
                      try clear hfz90_2
                      try clear hfz90_3
                      try clear p2
                      obtain ⟨x20_4, x21_4, rfl, rfl, HA, HK4, HO_10, BK383, BK391, BK397, BK415, HB⟩ := hrel
                      cases gk with
                      | zero => exact absurd HA.out (by simp [laws_FnTxs.l0])
                      | succ k4 =>
                        have H := HA.out
                        clear HA
                        simp only [laws_FnTxs.l0] at H
                        by_cases c107 : x21_4 < (t398.length : Int)
                        · rw [if_pos c107] at H
                          have c107b0 : decide (x21_4 < (t398.length : Int)) = true := decide_eq_true c107
                          clear c107
                          by_cases c108 : x20_4 = true
                          · subst c108
                            have H1 : (if 0 ≤ x21_4 then ((impl_TxOk.f ((rd_T44 t398 x21_4).f0) ((rd_T44 t398 x21_4).f1) ((rd_T44 t398 x21_4).f2) ((rd_T44 t398 x21_4).f3)).bind fun t432 => (laws_FnTxs.l0 k4 t398 t401 t432 (wrap64 (x21_4 + 1)))) else (none)) = some r := by rw [if_pos rfl] at H; exact H
                            clear H
                            have H := H1
                            clear H1
                            by_cases c109 : 0 ≤ x21_4
                            · rw [if_pos c109] at H
                              have c109b0 : decide (0 ≤ x21_4) = true := decide_eq_true c109
                              clear c109
                              replace H := Option.bind_eq_some_iff.mp H
                              obtain ⟨t432, A1100, H⟩ := H
                              replace H : (laws_FnTxs.l0 k4 t398 t401 t432 (wrap64 (x21_4 + 1))) = some r := H
                              have A110 := Aside0.mk A1100
                              clear A1100
                              have H' := Aside0.mk H
                              clear H
                              have p431 : 0 ≤ (x21_4 : Int) := of_decide_eq_true (by first | (with_reducible assumption) | assumption)
                              have q431 : x21_4 < (t398.length : Int) := of_decide_eq_true (by first | (with_reducible assumption) | assumption)
                              obtain ⟨ad431, e431, hx431_0, hx431_1, hx431_2, hx431_3⟩ := at_T44 (Kd.R_reads' HO_10.out).2.2 x21_4 p431 q431
                              cases e431
                              replace p431 := eq_true p431
                              replace q431 := eq_true q431
                              go_wp2_with (first | (go_at_call 56; (with_reducible refine (impl_TxOk.calls ((rd_T44 t398 x21_4).f0) ((rd_T44 t398 x21_4).f1) ((rd_T44 t398 x21_4).f2) ((rd_T44 t398 x21_4).f3) t432 _ A110.out).mono ?_); rintro e w111 ⟨rfl, hb⟩; have n0_ := Aside0.mk (Kd.R_below (by (with_reducible repeat (first | apply Kd.R_alloc | apply Kd.R_drewN | apply Kd.R_drew)); exact HO_10.out) hb); have n1_ := Aside0.mk (blk_below (g := gb383) (o := .cells #[.int .i64 t379, .int .i64 t380, .int .i64 t381, .int .i64 t382] 44 (0, 0)) (by (with_reducible repeat (first | refine blk_drewN ?_ _ | refine blk_drew ?_ | refine blk_alloc ?_ _)); exact BK383.out) hb); have n2_ := Aside0.mk (blk_below (g := gb391) (o := .cells #[.int .i64 t386, .int .i64 t387, .int .i64 t388, .int .i64 t389] 44 (0, 0)) (by (with_reducible repeat (first | refine blk_drewN ?_ _ | refine blk_drew ?_ | refine blk_alloc ?_ _)); exact BK391.out) hb); have n3_ := Aside0.mk (blk_below (g := gb397) (o := .cells #[.int .i64 t392, .int .i64 t393, .int .i64 t394, .int .i64 t395] 44 (0, 0)) (by (with_reducible repeat (first | refine blk_drewN ?_ _ | refine blk_drew ?_ | refine blk_alloc ?_ _)); exact BK397.out) hb); have n4_ := Aside0.mk (blk_below (g := gb415) (o := .cells #[.int .i64 t411, .int .i64 t412, .int .i64 t413, .int .i64 t414] 44 (0, 0)) (by (with_reducible repeat (first | refine blk_drewN ?_ _ | refine blk_drew ?_ | refine blk_alloc ?_ _)); exact BK415.out) hb); have n5_ := Aside0.mk (below_step (by repeat (first | (with_reducible first | exact HB.out | apply below_alloc | apply pw_below_drewN | apply below_drew1 | refine below_set ?_ GE383.out | refine below_set ?_ GE391.out | refine below_set ?_ GE397.out | refine below_set ?_ GE415.out) | exact HB.out)) hb); clear HO_10; clear BK383; clear BK391; clear BK397; clear BK415; clear HB; have HO_10 := n0_; have BK383 := n1_; have BK391 := n2_; have BK397 := n3_; have BK415 := n4_; have HB := n5_; clear n0_ n1_ n2_ n3_ n4_ n5_; (try clear hb); (try clear hb2); (try clear hk); (try clear hi)))
                              go_roundg k4
                              case measure => have := HJ14.out; have := HJ61.out; have := HJ85.out; have := HK4.out; omega
                              case rel => exact ⟨(t432), (wrap64 (x21_4 + 1)), (by first | rfl | (simp; done) | (simp [*]; done)), (by first | rfl | (simp; done) | (simp [*]; done)), H', ⟨by have := HJ14.out; have := HJ61.out; have := HJ85.out; have := HK4.out; omega⟩, ⟨by (with_reducible repeat (first | apply Kd.R_alloc | apply Kd.R_drewN | apply Kd.R_drew)); exact HO_10.out⟩, ⟨by (with_reducible repeat (first | refine blk_drewN ?_ _ | refine blk_drew ?_ | refine blk_alloc ?_ _)); exact BK383.out⟩, ⟨by (with_reducible repeat (first | refine blk_drewN ?_ _ | refine blk_drew ?_ | refine blk_alloc ?_ _)); exact BK391.out⟩, ⟨by (with_reducible repeat (first | refine blk_drewN ?_ _ | refine blk_drew ?_ | refine blk_alloc ?_ _)); exact BK397.out⟩, ⟨by (with_reducible repeat (first | refine blk_drewN ?_ _ | refine blk_drew ?_ | refine blk_alloc ?_ _)); exact BK415.out⟩, ⟨by repeat (first | (with_reducible first | exact HB.out | apply below_alloc | apply pw_below_drewN | apply below_drew1 | refine below_set ?_ GE383.out | refine below_set ?_ GE391.out | refine below_set ?_ GE397.out | refine below_set ?_ GE415.out) | exact HB.out)⟩⟩
                            · rw [if_neg c109] at H
                              exact absurd H (by simp)
                          · replace c108 := Bool.eq_false_iff.mpr c108
                            subst c108
                            have H1 : (laws_FnTxs.l0 k4 t398 t401 false (wrap64 (x21_4 + 1))) = some r := by rw [if_neg (show ¬ (false = true) by decide)] at H; exact H
                            clear H
                            have H := H1
                            clear H1
                            have H' := Aside0.mk H
                            clear H
                            go_wp2
                            go_roundg k4
                            case measure => have := HJ14.out; have := HJ61.out; have := HJ85.out; have := HK4.out; omega
                            case rel => exact ⟨(false), (wrap64 (x21_4 + 1)), (by first | rfl | (simp; done) | (simp [*]; done)), (by first | rfl | (simp; done) | (simp [*]; done)), H', ⟨by have := HJ14.out; have := HJ61.out; have := HJ85.out; have := HK4.out; omega⟩, ⟨by (with_reducible repeat (first | apply Kd.R_alloc | apply Kd.R_drewN | apply Kd.R_drew)); exact HO_10.out⟩, ⟨by (with_reducible repeat (first | refine blk_drewN ?_ _ | refine blk_drew ?_ | refine blk_alloc ?_ _)); exact BK383.out⟩, ⟨by (with_reducible repeat (first | refine blk_drewN ?_ _ | refine blk_drew ?_ | refine blk_alloc ?_ _)); exact BK391.out⟩, ⟨by (with_reducible repeat (first | refine blk_drewN ?_ _ | refine blk_drew ?_ | refine blk_alloc ?_ _)); exact BK397.out⟩, ⟨by (with_reducible repeat (first | refine blk_drewN ?_ _ | refine blk_drew ?_ | refine blk_alloc ?_ _)); exact BK415.out⟩, ⟨by repeat (first | (with_reducible first | exact HB.out | apply below_alloc | apply pw_below_drewN | apply below_drew1 | refine below_set ?_ GE383.out | refine below_set ?_ GE391.out | refine below_set ?_ GE397.out | refine below_set ?_ GE415.out) | exact HB.out)⟩⟩
                        · rw [if_neg c107] at H
                          have c107b0 : decide (x21_4 < (t398.length : Int)) = false := decide_eq_false c107
                          clear c107
                          by_cases c112 : x20_4 = true
                          · subst c112
                            have H1 : ((impl_TxsOf.f k4 t401).bind fun bt433 => (if bt433.2 = true then ((laws_sameTxs.f k4 bt433.1 t398).bind fun t437 => (some t437)) else (some false))) = some r := by rw [if_pos rfl] at H; exact H
                            clear H
                            have H := H1
                            clear H1
                            replace H := Option.bind_eq_some_iff.mp H
                            obtain ⟨⟨t433, t434⟩, A1130, H⟩ := H
                            replace H : (if t434 = true then ((laws_sameTxs.f k4 t433 t398).bind fun t437 => (some t437)) else (some false)) = some r := H
                            have A113 := Aside0.mk A1130
                            clear A1130
                            by_cases c114 : t434 = true
                            · subst c114
                              have H1 : ((laws_sameTxs.f k4 t433 t398).bind fun t437 => (some t437)) = some r := by rw [if_pos rfl] at H; exact H
                              clear H
                              have H := H1
                              clear H1
                              replace H := Option.bind_eq_some_iff.mp H
                              obtain ⟨t437, A1150, H⟩ := H
                              replace H : (some t437) = some r := H
                              have A115 := Aside0.mk A1150
                              clear A1150
                              obtain rfl := Option.some.inj H
                              go_wp2_with (first | ((with_reducible refine gate_callee (f := 50) rfl ?_); refine goesL_ (some 148) rfl rfl Tryd.func50 (by kernel_rfl) rfl #[.string t401] rfl (by (try simp only [List.map_toArray, List.map_cons, List.map_nil]); first | done | rfl | (simp only [List.length_drop, List.length_take]; rfl)) ?_; (with_reducible refine (impl_TxsOf.calls k4 t401 t433 true _ ?side1 A113.out).mono ?_); (case side1 => exact LaidW.below HL0.out (by repeat (first | (with_reducible first | exact HB.out | apply below_alloc | apply pw_below_drewN | apply below_drew1 | refine below_set ?_ GE383.out | refine below_set ?_ GE391.out | refine below_set ?_ GE397.out | refine below_set ?_ GE415.out) | exact HB.out))); rintro e w116 ⟨v435, rfl, ho0, hb⟩; refine ⟨_, rfl, ?_⟩; have n0_ := Aside0.mk (Kd.R_elder' (by (with_reducible repeat (first | apply Kd.R_alloc | apply Kd.R_drewN | apply Kd.R_drew)); exact HO_10.out) (Kd.R_base ho0) hb); have n1_ := Aside0.mk (Kd.R_lower (Kd.R_newB (Kd.R_newB (Kd.R_newB (Kd.R_newB (Kd.R_new' ho0 (Kd.R_lt (by (with_reducible repeat (first | apply Kd.R_alloc | apply Kd.R_drewN | apply Kd.R_drew)); exact HO_10.out))) (g := gb383) (o := .cells #[.int .i64 t379, .int .i64 t380, .int .i64 t381, .int .i64 t382] 44 (0, 0)) (by (with_reducible repeat (first | refine blk_drewN ?_ _ | refine blk_drew ?_ | refine blk_alloc ?_ _)); exact BK383.out)) (g := gb391) (o := .cells #[.int .i64 t386, .int .i64 t387, .int .i64 t388, .int .i64 t389] 44 (0, 0)) (by (with_reducible repeat (first | refine blk_drewN ?_ _ | refine blk_drew ?_ | refine blk_alloc ?_ _)); exact BK391.out)) (g := gb397) (o := .cells #[.int .i64 t392, .int .i64 t393, .int .i64 t394, .int .i64 t395] 44 (0, 0)) (by (with_reducible repeat (first | refine blk_drewN ?_ _ | refine blk_drew ?_ | refine blk_alloc ?_ _)); exact BK397.out)) (g := gb415) (o := .cells #[.int .i64 t411, .int .i64 t412, .int .i64 t413, .int .i64 t414] 44 (0, 0)) (by (with_reducible repeat (first | refine blk_drewN ?_ _ | refine blk_drew ?_ | refine blk_alloc ?_ _)); exact BK415.out)) (below_size (by repeat (first | (with_reducible first | exact HB.out | apply below_alloc | apply pw_below_drewN | apply below_drew1 | refine below_set ?_ GE383.out | refine below_set ?_ GE391.out | refine below_set ?_ GE397.out | refine below_set ?_ GE415.out) | exact HB.out)))); have n2_ := Aside0.mk (blk_below (g := gb383) (o := .cells #[.int .i64 t379, .int .i64 t380, .int .i64 t381, .int .i64 t382] 44 (0, 0)) (by (with_reducible repeat (first | refine blk_drewN ?_ _ | refine blk_drew ?_ | refine blk_alloc ?_ _)); exact BK383.out) hb); have n3_ := Aside0.mk (blk_below (g := gb391) (o := .cells #[.int .i64 t386, .int .i64 t387, .int .i64 t388, .int .i64 t389] 44 (0, 0)) (by (with_reducible repeat (first | refine blk_drewN ?_ _ | refine blk_drew ?_ | refine blk_alloc ?_ _)); exact BK391.out) hb); have n4_ := Aside0.mk (blk_below (g := gb397) (o := .cells #[.int .i64 t392, .int .i64 t393, .int .i64 t394, .int .i64 t395] 44 (0, 0)) (by (with_reducible repeat (first | refine blk_drewN ?_ _ | refine blk_drew ?_ | refine blk_alloc ?_ _)); exact BK397.out) hb); have n5_ := Aside0.mk (blk_below (g := gb415) (o := .cells #[.int .i64 t411, .int .i64 t412, .int .i64 t413, .int .i64 t414] 44 (0, 0)) (by (with_reducible repeat (first | refine blk_drewN ?_ _ | refine blk_drew ?_ | refine blk_alloc ?_ _)); exact BK415.out) hb); have n6_ := Aside0.mk (below_step (by repeat (first | (with_reducible first | exact HB.out | apply below_alloc | apply pw_below_drewN | apply below_drew1 | refine below_set ?_ GE383.out | refine below_set ?_ GE391.out | refine below_set ?_ GE397.out | refine below_set ?_ GE415.out) | exact HB.out)) hb); clear HO_10; clear BK383; clear BK391; clear BK397; clear BK415; clear HB; have HO_10 := n0_; have HO436 := n1_; have BK383 := n2_; have BK391 := n3_; have BK397 := n4_; have BK415 := n5_; have HB := n6_; clear n0_ n1_ n2_ n3_ n4_ n5_ n6_; (try clear hb); (try clear hb2); (try clear hk); (try clear hi); (try clear ho0); obtain ⟨Ao117, co117, eo117⟩ := Kd.R_slice HO436.out; subst eo117) | (go_at_call 55; (with_reducible refine (laws_sameTxs.calls k4 _ _ t433 _ _ t398 t437 _ ?side1 ?side2 ?side3 ?side4 A115.out).mono ?_); (case side1 => repeat (first | exact (Kd.R_reads' HO436.out).2.2 | (with_reducible refine Kd.C_alloc ?_ _) | (with_reducible refine Kd.C_drewN ?_ _) | (with_reducible refine Kd.C_drew ?_))); (case side2 => exact (Kd.R_reads' HO436.out).2.1); (case side3 => repeat (first | exact (Kd.R_reads' HO_10.out).2.2 | (with_reducible refine Kd.C_alloc ?_ _) | (with_reducible refine Kd.C_drewN ?_ _) | (with_reducible refine Kd.C_drew ?_))); (case side4 => exact (Kd.R_reads' HO_10.out).2.1); rintro e w' ⟨rfl, ⟨nd, rfl⟩⟩))
                              go_ret
                              exact ⟨by first | rfl | (simp [errW_none, errW_some] <;> rfl) | (simp [*, errW_none, errW_some] <;> rfl), by repeat (first | (with_reducible first | exact HB.out | apply below_alloc | apply pw_below_drewN | apply below_drew1 | refine below_set ?_ GE383.out | refine below_set ?_ GE391.out | refine below_set ?_ GE397.out | refine below_set ?_ GE415.out) | exact HB.out)⟩
                            · replace c114 := Bool.eq_false_iff.mpr c114
                              subst c114
                              have H1 : (some false) = some r := by rw [if_neg (show ¬ (false = true) by decide)] at H; exact H
                              clear H
                              have H := H1
                              clear H1
                              exact absurd ((Option.some.inj H).trans HRT.out) (by decide)
                          · replace c112 := Bool.eq_false_iff.mpr c112
                            subst c112
                            have H1 : (some (t401.toList == ([] : List UInt8))) = some r := by rw [if_neg (show ¬ (false = true) by decide)] at H; exact H
                            clear H
                            have H := H1
                            clear H1
                            obtain rfl := Option.some.inj H
                            go_wp2
                            go_ret
                            exact ⟨by first | rfl | (simp [errW_none, errW_some] <;> rfl) | (simp [*, errW_none, errW_some] <;> rfl), by repeat (first | (with_reducible first | exact HB.out | apply below_alloc | apply pw_below_drewN | apply below_drew1 | refine below_set ?_ GE383.out | refine below_set ?_ GE391.out | refine below_set ?_ GE397.out | refine below_set ?_ GE415.out) | exact HB.out)⟩

end Go.Proofs.YtbecffgalndagaaDoor.PFnTxs
