/- Walks of the functions that a law of seat YtcnciodmhbejiaaDoor reaches, each against a Lean function, printed by this session's wip/myprint.py; no condition of their own. -/
import Derived.Test.YtcnciodmhbejiaaDoorPFnNumbersx0
import Derived.Test.YtcnciodmhbejiaaDoorPFnNumbersx1
import Derived.Test.YtcnciodmhbejiaaDoorPFnNumbersx2
import Derived.Test.YtcnciodmhbejiaaDoorPFnNumbersx3
namespace Go.Proofs.YtcnciodmhbejiaaDoor.PFnNumbers
open Go.RowKit Go.Proofs.YtcnciodmhbejiaaDoorW.PrintWords Go.Proofs.YtcnciodmhbejiaaDoorW.PrintLast Go.Proofs.YtcnciodmhbejiaaDoorW.PrintMore
attribute [local go_sem] max2_int min2_int max_two min_two max_three min_three max_four min_four   -- for this text's walks alone
set_option linter.unusedVariables false
set_option linter.unusedSimpArgs false

/-! ### spec_GetNum: function 20 -/
mutual
def spec_GetNum.l0 : Nat → List Int → Int → Int → Int → Option (Int × Int × Bool)
  | 0, _, _, _, _ => none
  | k + 1, x0, x1, x7, x8 => if x8 < 5 then (if x1 < 0 then (spec_GetNum.j1 k x0 x1 x7 x8 true) else (spec_GetNum.j1 k x0 x1 x7 x8 (decide (x1 ≥ (wrap64 ((x0.length : Int) - x8)))))) else (some (0, 0, false))
def spec_GetNum.j1 : Nat → List Int → Int → Int → Int → Bool → Option (Int × Int × Bool)
  | 0, _, _, _, _, _ => none
  | k + 1, x0, x1, x7, x8, x23 => if x23 = true then (some (0, 0, false)) else (if 0 ≤ (wrap64 (x1 + x8)) then (if (wrap64 (x1 + x8)) < (x0.length : Int) then (if 0 ≤ (wrap64 (7 * x8)) then (if (wrap64 (rd x0 (wrap64 (x1 + x8)))) < 128 then (if x8 > 0 then (if (wrap64 (rd x0 (wrap64 (x1 + x8)))) = 0 then (some (0, 0, false)) else (if (Go.bits .or .i64 x7 (shl .i64 (Int.tmod (wrap64 (rd x0 (wrap64 (x1 + x8)))) 128) (wrap64 (7 * x8)))) > 2147483647 then (some (0, 0, false)) else (some (Go.bits .or .i64 x7 (shl .i64 (Int.tmod (wrap64 (rd x0 (wrap64 (x1 + x8)))) 128) (wrap64 (7 * x8))), wrap64 ((wrap64 (x1 + x8)) + 1), true)))) else (if (Go.bits .or .i64 x7 (shl .i64 (Int.tmod (wrap64 (rd x0 (wrap64 (x1 + x8)))) 128) (wrap64 (7 * x8)))) > 2147483647 then (some (0, 0, false)) else (some (Go.bits .or .i64 x7 (shl .i64 (Int.tmod (wrap64 (rd x0 (wrap64 (x1 + x8)))) 128) (wrap64 (7 * x8))), wrap64 ((wrap64 (x1 + x8)) + 1), true)))) else (spec_GetNum.l0 k x0 x1 (Go.bits .or .i64 x7 (shl .i64 (Int.tmod (wrap64 (rd x0 (wrap64 (x1 + x8)))) 128) (wrap64 (7 * x8)))) (wrap64 (x8 + 1)))) else (none)) else (none)) else (none))
end
def spec_GetNum.f (k : Nat) (l0 : List Int) (a1 : Int) : Option (Int × Int × Bool) := spec_GetNum.l0 k l0 a1 0 0
theorem spec_GetNum.mono_l : ∀ k, (∀ y0 y1 y2 y3, LeO (spec_GetNum.l0 k y0 y1 y2 y3) (spec_GetNum.l0 (k + 1) y0 y1 y2 y3)) ∧ (∀ y0 y1 y2 y3 y4, LeO (spec_GetNum.j1 k y0 y1 y2 y3 y4) (spec_GetNum.j1 (k + 1) y0 y1 y2 y3 y4))
  | 0 => ⟨fun _ _ _ _ r h => by simp [spec_GetNum.l0] at h, fun _ _ _ _ _ r h => by simp [spec_GetNum.j1] at h⟩
  | k + 1 => by
    obtain ⟨ih0, ih1⟩ := spec_GetNum.mono_l k
    refine ⟨?_, ?_⟩
    · intro y0 y1 y2 y3
      unfold spec_GetNum.l0
      repeat' first
      | (with_reducible exact ih0 _ _ _ _)
      | (with_reducible exact ih1 _ _ _ _ _)
      | (with_reducible exact LeO.refl _)
      | (with_reducible exact LeO.none _)
      | (with_reducible refine LeO.ite ?_ ?_)
      | (with_reducible refine LeO.bind ?_ (fun _ => ?_))
      | exact ih0 _ _ _ _
      | exact ih1 _ _ _ _ _
      | exact LeO.none _
      | refine LeO.ite ?_ ?_
      | refine LeO.bind ?_ (fun _ => ?_)
    · intro y0 y1 y2 y3 y4
      unfold spec_GetNum.j1
      repeat' first
      | (with_reducible exact ih0 _ _ _ _)
      | (with_reducible exact ih1 _ _ _ _ _)
      | (with_reducible exact LeO.refl _)
      | (with_reducible exact LeO.none _)
      | (with_reducible refine LeO.ite ?_ ?_)
      | (with_reducible refine LeO.bind ?_ (fun _ => ?_))
      | exact ih0 _ _ _ _
      | exact ih1 _ _ _ _ _
      | exact LeO.none _
      | refine LeO.ite ?_ ?_
      | refine LeO.bind ?_ (fun _ => ?_)
theorem spec_GetNum.mono : ∀ a0 a1 k, LeO (spec_GetNum.f k a0 a1) (spec_GetNum.f (k + 1) a0 a1) := by
  intro a0 a1 k
  obtain ⟨ih0, ih1⟩ := spec_GetNum.mono_l k
  unfold spec_GetNum.f
  repeat' first
      | (with_reducible exact ih0 _ _ _ _)
      | (with_reducible exact ih1 _ _ _ _ _)
      | (with_reducible exact LeO.refl _)
      | (with_reducible exact LeO.none _)
      | (with_reducible refine LeO.ite ?_ ?_)
      | (with_reducible refine LeO.bind ?_ (fun _ => ?_))
      | exact ih0 _ _ _ _
      | exact ih1 _ _ _ _ _
      | exact LeO.none _
      | refine LeO.ite ?_ ?_
      | refine LeO.bind ?_ (fun _ => ?_)
set_option maxHeartbeats 8000000 in
set_option maxRecDepth 100000 in
theorem spec_GetNum.calls (k : Nat) (A0 : Option Addr) (c0 : Nat) (l0 : List Int) (a1 : Int) (r1 : Int) (r2 : Int) (r3 : Bool) (w : World) (hr0 : Kd.C (Kd.int .u8) w A0 l0.length l0) (hc0 : l0.length ≤ c0) (h : spec_GetNum.f k l0 a1 = some (r1, r2, r3)) :
    Calls Tryd.prog 20 #[.slice A0 l0.length c0, .int .i64 a1] w fun e w' => e = .returned (.tuple #[.int .i64 r1, .int .i64 r2, .bool r3]) ∧ Drawn0 w w' := by
  have HR0 := Aside0.mk hr0
  have HC0 := Aside0.mk hc0
  clear hr0 hc0
  have H : (spec_GetNum.l0 k l0 a1 0 0) = some (r1, r2, r3) := h
  clear h
  have H' := Aside0.mk H
  clear H
  go_enter Tryd.func20, Tryd.ntmps20
  go_wp2
  go_loopg [7, 8] k (fun kq v7 v8 w' => ∃ (x7_1 : Int) (x8_1 : Int), v7 = .int .i64 x7_1 ∧ v8 = .int .i64 x8_1 ∧ Aside0 (spec_GetNum.l0 kq l0 a1 x7_1 x8_1 = some (r1, r2, r3)) ∧ Aside0 (kq ≤ k) ∧ Drawn0 w w')
  case atStart => exact ⟨(0), (0), (by first | rfl | (simp; done) | (simp [*]; done)), (by first | rfl | (simp; done) | (simp [*]; done)), H', ⟨Nat.le_refl _⟩, by repeat (first | exact Drawn0.refl _ | apply Drawn0.step)⟩
  case round =>
    clear H'
    try clear c2
    try clear p2
    obtain ⟨x7_1, x8_1, rfl, rfl, HA, HK1, ⟨m1, rfl⟩⟩ := hrel
    cases gk with
    | zero => exact absurd HA.out (by simp [spec_GetNum.l0])
    | succ k1 =>
      have H := HA.out
      clear HA
      simp only [spec_GetNum.l0] at H
      have HF := Aside0.mk H
      clear H
      go_upto_if 11 with (fail)
      have H := HF.out
      clear HF
      by_cases c3 : x8_1 < 5
      · rw [if_pos c3] at H
        have c3b0 : decide (x8_1 < 5) = true := decide_eq_true c3
        clear c3
        (first | rw [c3b0] | (simp only [i64_w, i32_w]; rw [c3b0]) | skip)
        have HC4 := Aside0.mk H
        clear H
        go_upto_region 5 with (fail)
        go_cut [23] (fun v23 wc => ∃ (kq : Nat) (x23_3 : Bool), v23 = .bool x23_3 ∧ Aside0 (spec_GetNum.j1 kq l0 a1 x7_1 x8_1 x23_3 = some (r1, r2, r3)) ∧ Aside0 (kq ≤ k1) ∧ Drawn0 w wc)
        case first =>
          have H := HC4.out
          clear HC4
          by_cases c5 : a1 < 0
          · rw [if_pos c5] at H
            have c5b0 : decide (a1 < 0) = true := decide_eq_true c5
            clear c5
            (first | rw [c5b0] | (simp only [i64_w, i32_w]; rw [c5b0]) | skip)
            have H' := Aside0.mk H
            clear H
            go_wp2
            go_meet
            case rel => exact ⟨_, (true), (by first | rfl | (simp; done) | (simp [*]; done)), H', ⟨by have := HK1.out; first | omega | exact Nat.le_refl _⟩, by repeat (first | exact Drawn0.refl _ | apply Drawn0.step)⟩
          · rw [if_neg c5] at H
            have c5b0 : decide (a1 < 0) = false := decide_eq_false c5
            clear c5
            (first | rw [c5b0] | (simp only [i64_w, i32_w]; rw [c5b0]) | skip)
            have H' := Aside0.mk H
            clear H
            go_wp2
            go_meet
            case rel => exact ⟨_, (decide (a1 ≥ (wrap64 ((l0.length : Int) - x8_1)))), (by first | rfl | (simp; done) | (simp [*]; done)), H', ⟨by have := HK1.out; first | omega | exact Nat.le_refl _⟩, by repeat (first | exact Drawn0.refl _ | apply Drawn0.step)⟩
        case rest =>
          clear HC4
          try clear c2
          try clear p2
          try clear c3
          try clear c3b0
          try clear c5
          try clear c5b0
          try clear p2
          obtain ⟨kq, x23_3, rfl, HA, HJ3, ⟨mc3, rfl⟩⟩ := hcut
          cases kq with
          | zero => exact absurd HA.out (by simp [spec_GetNum.j1])
          | succ kj3 =>
            have H := HA.out
            clear HA
            simp only [spec_GetNum.j1] at H
            have HF := Aside0.mk H
            clear H
            go_upto_if 23 with (fail)
            have H := HF.out
            clear HF
            by_cases c6 : x23_3 = true
            · subst c6
              have H1 : (some (0, 0, false)) = some (r1, r2, r3) := by rw [if_pos rfl] at H; exact H
              clear H
              have H := H1
              clear H1
              simp only [Option.some.injEq, Prod.mk.injEq] at H
              obtain ⟨rfl, rfl, rfl⟩ := H
              go_wp2
              go_ret3
              exact ⟨by first | rfl | (simp; done) | (simp [*]; done), by repeat (first | exact Drawn0.refl _ | apply Drawn0.step)⟩
            · replace c6 := Bool.eq_false_iff.mpr c6
              subst c6
              have H1 : (if 0 ≤ (wrap64 (a1 + x8_1)) then (if (wrap64 (a1 + x8_1)) < (l0.length : Int) then (if 0 ≤ (wrap64 (7 * x8_1)) then (if (wrap64 (rd l0 (wrap64 (a1 + x8_1)))) < 128 then (if x8_1 > 0 then (if (wrap64 (rd l0 (wrap64 (a1 + x8_1)))) = 0 then (some (0, 0, false)) else (if (Go.bits .or .i64 x7_1 (shl .i64 (Int.tmod (wrap64 (rd l0 (wrap64 (a1 + x8_1)))) 128) (wrap64 (7 * x8_1)))) > 2147483647 then (some (0, 0, false)) else (some (Go.bits .or .i64 x7_1 (shl .i64 (Int.tmod (wrap64 (rd l0 (wrap64 (a1 + x8_1)))) 128) (wrap64 (7 * x8_1))), wrap64 ((wrap64 (a1 + x8_1)) + 1), true)))) else (if (Go.bits .or .i64 x7_1 (shl .i64 (Int.tmod (wrap64 (rd l0 (wrap64 (a1 + x8_1)))) 128) (wrap64 (7 * x8_1)))) > 2147483647 then (some (0, 0, false)) else (some (Go.bits .or .i64 x7_1 (shl .i64 (Int.tmod (wrap64 (rd l0 (wrap64 (a1 + x8_1)))) 128) (wrap64 (7 * x8_1))), wrap64 ((wrap64 (a1 + x8_1)) + 1), true)))) else (spec_GetNum.l0 kj3 l0 a1 (Go.bits .or .i64 x7_1 (shl .i64 (Int.tmod (wrap64 (rd l0 (wrap64 (a1 + x8_1)))) 128) (wrap64 (7 * x8_1)))) (wrap64 (x8_1 + 1)))) else (none)) else (none)) else (none)) = some (r1, r2, r3) := by rw [if_neg (show ¬ (false = true) by decide)] at H; exact H
              clear H
              have H := H1
              clear H1
              obtain ⟨ji7, hji7⟩ : ∃ j_ : Int, (wrap64 (a1 + x8_1)) = j_ := ⟨_, rfl⟩
              replace H : (if 0 ≤ (ji7) then (if (ji7) < (l0.length : Int) then (if 0 ≤ (wrap64 (7 * x8_1)) then (if (wrap64 (rd l0 (ji7))) < 128 then (if x8_1 > 0 then (if (wrap64 (rd l0 (ji7))) = 0 then (some (0, 0, false)) else (if (Go.bits .or .i64 x7_1 (shl .i64 (Int.tmod (wrap64 (rd l0 (ji7))) 128) (wrap64 (7 * x8_1)))) > 2147483647 then (some (0, 0, false)) else (some (Go.bits .or .i64 x7_1 (shl .i64 (Int.tmod (wrap64 (rd l0 (ji7))) 128) (wrap64 (7 * x8_1))), wrap64 ((ji7) + 1), true)))) else (if (Go.bits .or .i64 x7_1 (shl .i64 (Int.tmod (wrap64 (rd l0 (ji7))) 128) (wrap64 (7 * x8_1)))) > 2147483647 then (some (0, 0, false)) else (some (Go.bits .or .i64 x7_1 (shl .i64 (Int.tmod (wrap64 (rd l0 (ji7))) 128) (wrap64 (7 * x8_1))), wrap64 ((ji7) + 1), true)))) else (spec_GetNum.l0 kj3 l0 a1 (Go.bits .or .i64 x7_1 (shl .i64 (Int.tmod (wrap64 (rd l0 (ji7))) 128) (wrap64 (7 * x8_1)))) (wrap64 (x8_1 + 1)))) else (none)) else (none)) else (none)) = some (r1, r2, r3) := by first | (rw [hji7] at H; exact H) | (simp only [hji7] at H ⊢; exact H)
              have hji7w : (IntKind.i64.wrap (a1 + x8_1)) = ji7 := (i64_w _).trans hji7
              by_cases c8 : 0 ≤ (ji7)
              · rw [if_pos c8] at H
                have c8b0 : decide (0 ≤ (ji7)) = true := decide_eq_true c8
                clear c8
                (first | rw [c8b0] | (simp only [i64_w, i32_w]; rw [c8b0]) | skip)
                by_cases c9 : (ji7) < (l0.length : Int)
                · rw [if_pos c9] at H
                  have c9b0 : decide ((ji7) < (l0.length : Int)) = true := decide_eq_true c9
                  clear c9
                  obtain ⟨ji10, hji10⟩ : ∃ j_ : Int, (wrap64 (7 * x8_1)) = j_ := ⟨_, rfl⟩
                  replace H : (if 0 ≤ (ji10) then (if (wrap64 (rd l0 (ji7))) < 128 then (if x8_1 > 0 then (if (wrap64 (rd l0 (ji7))) = 0 then (some (0, 0, false)) else (if (Go.bits .or .i64 x7_1 (shl .i64 (Int.tmod (wrap64 (rd l0 (ji7))) 128) (ji10))) > 2147483647 then (some (0, 0, false)) else (some (Go.bits .or .i64 x7_1 (shl .i64 (Int.tmod (wrap64 (rd l0 (ji7))) 128) (ji10)), wrap64 ((ji7) + 1), true)))) else (if (Go.bits .or .i64 x7_1 (shl .i64 (Int.tmod (wrap64 (rd l0 (ji7))) 128) (ji10))) > 2147483647 then (some (0, 0, false)) else (some (Go.bits .or .i64 x7_1 (shl .i64 (Int.tmod (wrap64 (rd l0 (ji7))) 128) (ji10)), wrap64 ((ji7) + 1), true)))) else (spec_GetNum.l0 kj3 l0 a1 (Go.bits .or .i64 x7_1 (shl .i64 (Int.tmod (wrap64 (rd l0 (ji7))) 128) (ji10))) (wrap64 (x8_1 + 1)))) else (none)) = some (r1, r2, r3) := by first | (rw [hji10] at H; exact H) | (simp only [hji10] at H ⊢; exact H)
                  have hji10w : (IntKind.i64.wrap (7 * x8_1)) = ji10 := (i64_w _).trans hji10
                  by_cases c11 : 0 ≤ (ji10)
                  · rw [if_pos c11] at H
                    have c11b0 := eq_true c11
                    have c11b1 : decide (0 ≤ (ji10)) = true := decide_eq_true c11
                    clear c11
                    obtain ⟨ji12, hji12⟩ : ∃ j_ : Int, (shl .i64 (Int.tmod (wrap64 (rd l0 (ji7))) 128) (ji10)) = j_ := ⟨_, rfl⟩
                    replace H : (if (wrap64 (rd l0 (ji7))) < 128 then (if x8_1 > 0 then (if (wrap64 (rd l0 (ji7))) = 0 then (some (0, 0, false)) else (if (Go.bits .or .i64 x7_1 (ji12)) > 2147483647 then (some (0, 0, false)) else (some (Go.bits .or .i64 x7_1 (ji12), wrap64 ((ji7) + 1), true)))) else (if (Go.bits .or .i64 x7_1 (ji12)) > 2147483647 then (some (0, 0, false)) else (some (Go.bits .or .i64 x7_1 (ji12), wrap64 ((ji7) + 1), true)))) else (spec_GetNum.l0 kj3 l0 a1 (Go.bits .or .i64 x7_1 (ji12)) (wrap64 (x8_1 + 1)))) = some (r1, r2, r3) := by first | (rw [hji12] at H; exact H) | (simp only [hji12] at H ⊢; exact H)
                    have hji12_ : (IntKind.i64.wrap ((Int.tmod (wrap64 (rd l0 (ji7))) 128) * 2 ^ min (ji10).toNat 64)) = ji12 := hji12
                    have hji12z : (ji10) ≤ 64 → (IntKind.i64.wrap ((Int.tmod (wrap64 (rd l0 (ji7))) 128) * 2 ^ (ji10).toNat)) = ji12 := shl_small hji12
                    have hji12y : (wrap64 ((Int.tmod (wrap64 (rd l0 (ji7))) 128) * 2 ^ min (ji10).toNat 64)) = ji12 := (i64_w _).symm.trans hji12_
                    have hji12x : (ji10) ≤ 64 → (wrap64 ((Int.tmod (wrap64 (rd l0 (ji7))) 128) * 2 ^ (ji10).toNat)) = ji12 := fun h_ => (i64_w _).symm.trans (hji12z h_)
                    have HF := Aside0.mk H
                    clear H
                    have p263 : 0 ≤ ((ji7) : Int) := of_decide_eq_true (by first | (with_reducible assumption) | assumption)
                    have q263 : (ji7) < (l0.length : Int) := of_decide_eq_true (by first | (with_reducible assumption) | assumption)
                    obtain ⟨ad263, e263, hx263_0⟩ := Kd.at_int HR0.out (ji7) p263 q263
                    cases e263
                    replace p263 := eq_true p263
                    replace q263 := eq_true q263
                    go_upto_if 39 with (fail)
                    have H := HF.out
                    clear HF
                    by_cases c13 : (wrap64 (rd l0 (ji7))) < 128
                    · rw [if_pos c13] at H
                      have c13b0 : decide ((wrap64 (rd l0 (ji7))) < 128) = true := decide_eq_true c13
                      clear c13
                      (first | rw [c13b0] | (simp only [i64_w, i32_w]; rw [c13b0]) | skip)
                      by_cases c14 : x8_1 > 0
                      · rw [if_pos c14] at H
                        have c14b0 : decide (0 < x8_1) = true := decide_eq_true c14
                        clear c14
                        by_cases c15 : (wrap64 (rd l0 (ji7))) = 0
                        · rw [if_pos c15] at H
                          have c15b0 : ((wrap64 (rd l0 (ji7))) == 0) = true := beq_iff_eq.mpr c15
                          have c15b1 : ((wrap64 (rd l0 (ji7))) != 0) = false := bne_eq_false_iff_eq.mpr c15
                          clear c15
                          simp only [Option.some.injEq, Prod.mk.injEq] at H
                          obtain ⟨rfl, rfl, rfl⟩ := H
                          go_wp2
                          go_ret3
                          exact ⟨by first | rfl | (simp; done) | (simp only [← hji7, ← hji10, ← hji12] <;> (first | rfl | simp)) | (simp [*]; done), by repeat (first | exact Drawn0.refl _ | apply Drawn0.step)⟩
                        · rw [if_neg c15] at H
                          have c15b0 : ((wrap64 (rd l0 (ji7))) == 0) = false := beq_eq_false_iff_ne.mpr c15
                          have c15b1 : ((wrap64 (rd l0 (ji7))) != 0) = true := bne_iff_ne.mpr c15
                          have HF := Aside0.mk H
                          clear H
                          go_upto_if 49 with (fail)
                          have H := HF.out
                          clear HF
                          by_cases c16 : (Go.bits .or .i64 x7_1 (ji12)) > 2147483647
                          · rw [if_pos c16] at H
                            have c16b0 : decide (2147483647 < (Go.bits .or .i64 x7_1 (ji12))) = true := decide_eq_true c16
                            clear c16
                            (first | rw [c16b0] | (simp only [i64_w, i32_w]; rw [c16b0]) | skip)
                            simp only [Option.some.injEq, Prod.mk.injEq] at H
                            obtain ⟨rfl, rfl, rfl⟩ := H
                            go_wp2
                            go_ret3
                            exact ⟨by first | rfl | (simp; done) | (simp only [← hji7, ← hji10, ← hji12] <;> (first | rfl | simp)) | (simp [*]; done), by repeat (first | exact Drawn0.refl _ | apply Drawn0.step)⟩
                          · rw [if_neg c16] at H
                            have c16b0 : decide (2147483647 < (Go.bits .or .i64 x7_1 (ji12))) = false := decide_eq_false c16
                            clear c16
                            (first | rw [c16b0] | (simp only [i64_w, i32_w]; rw [c16b0]) | skip)
                            simp only [Option.some.injEq, Prod.mk.injEq] at H
                            obtain ⟨rfl, rfl, rfl⟩ := H
                            go_wp2
                            go_ret3
                            exact ⟨by first | rfl | (simp; done) | (simp only [← hji7, ← hji10, ← hji12] <;> (first | rfl | simp)) | (simp [*]; done), by repeat (first | exact Drawn0.refl _ | apply Drawn0.step)⟩
                      · rw [if_neg c14] at H
                        have c14b0 : decide (0 < x8_1) = false := decide_eq_false c14
                        clear c14
                        have HF := Aside0.mk H
                        clear H
                        go_upto_if 49 with (fail)
                        have H := HF.out
                        clear HF
                        by_cases c17 : (Go.bits .or .i64 x7_1 (ji12)) > 2147483647
                        · rw [if_pos c17] at H
                          have c17b0 : decide (2147483647 < (Go.bits .or .i64 x7_1 (ji12))) = true := decide_eq_true c17
                          clear c17
                          (first | rw [c17b0] | (simp only [i64_w, i32_w]; rw [c17b0]) | skip)
                          simp only [Option.some.injEq, Prod.mk.injEq] at H
                          obtain ⟨rfl, rfl, rfl⟩ := H
                          go_wp2
                          go_ret3
                          exact ⟨by first | rfl | (simp; done) | (simp only [← hji7, ← hji10, ← hji12] <;> (first | rfl | simp)) | (simp [*]; done), by repeat (first | exact Drawn0.refl _ | apply Drawn0.step)⟩
                        · rw [if_neg c17] at H
                          have c17b0 : decide (2147483647 < (Go.bits .or .i64 x7_1 (ji12))) = false := decide_eq_false c17
                          clear c17
                          (first | rw [c17b0] | (simp only [i64_w, i32_w]; rw [c17b0]) | skip)
                          simp only [Option.some.injEq, Prod.mk.injEq] at H
                          obtain ⟨rfl, rfl, rfl⟩ := H
                          go_wp2
                          go_ret3
                          exact ⟨by first | rfl | (simp; done) | (simp only [← hji7, ← hji10, ← hji12] <;> (first | rfl | simp)) | (simp [*]; done), by repeat (first | exact Drawn0.refl _ | apply Drawn0.step)⟩
                    · rw [if_neg c13] at H
                      have c13b0 : decide ((wrap64 (rd l0 (ji7))) < 128) = false := decide_eq_false c13
                      clear c13
                      (first | rw [c13b0] | (simp only [i64_w, i32_w]; rw [c13b0]) | skip)
                      have H' := Aside0.mk H
                      clear H
                      go_wp2
                      go_roundg kj3
                      case measure => have := HK1.out; have := HJ3.out; omega
                      case rel => exact ⟨(Go.bits .or .i64 x7_1 (ji12)), (wrap64 (x8_1 + 1)), (by first | rfl | (simp; done) | (simp only [← hji12] <;> (first | rfl | simp)) | (simp [*]; done)), (by first | rfl | (simp; done) | (simp [*]; done)), H', ⟨by have := HK1.out; have := HJ3.out; omega⟩, by repeat (first | exact Drawn0.refl _ | apply Drawn0.step)⟩
                  · rw [if_neg c11] at H
                    exact absurd H (by simp)
                · rw [if_neg c9] at H
                  exact absurd H (by simp)
              · rw [if_neg c8] at H
                exact absurd H (by simp)
      · rw [if_neg c3] at H
        have c3b0 : decide (x8_1 < 5) = false := decide_eq_false c3
        clear c3
        (first | rw [c3b0] | (simp only [i64_w, i32_w]; rw [c3b0]) | skip)
        simp only [Option.some.injEq, Prod.mk.injEq] at H
        obtain ⟨rfl, rfl, rfl⟩ := H
        go_wp2
        go_ret3
        exact ⟨by first | rfl | (simp; done) | (simp [*]; done), by repeat (first | exact Drawn0.refl _ | apply Drawn0.step)⟩

/-! ### spec_DrawGetText: function 21 -/
def spec_DrawGetText.f (k : Nat) (l0 : List Int) : Option (List Int × Int) := (spec_l1New.f k l0).bind fun bt264 => ((spec_l1Pick.f bt264.1 bt264.2.1 bt264.2.2 (([(⟨#[]⟩ : ByteArray), (⟨#[97, 98, 99]⟩ : ByteArray), (⟨#[120]⟩ : ByteArray)] : List ByteArray))).bind fun bt271 => ((spec_PutText.f k bt271.1).bind fun t274 => ((spec_l1DrawNums.f k bt264.1 bt271.2.1 bt271.2.2).bind fun bt277 => (if t274.length + bt277.1.length < 140737488355328 then ((some (t274 ++ bt277.1 : List Int)).bind fun y282 => ((spec_l1Once.f bt264.1 bt277.2.1 bt277.2.2 4).bind fun bt285 => (if bt285.1 = true then ((spec_l1Below.f bt264.1 bt285.2.1 bt285.2.2 (wrap64 ((y282.length : Int) + 1))).bind fun bt288 => (if 0 ≤ bt288.1 then (if bt288.1 ≤ (y282.length : Int) then ((some (y282.take (bt288.1 : Int).toNat : List Int)).bind fun y291 => ((spec_l1PickInt.f bt264.1 bt288.2.1 bt288.2.2 (([0, 0, 0, 1, (y291.length : Int), (-1)] : List Int))).bind fun bt297 => (some (y291, bt297.1)))) else (none)) else (none))) else ((spec_l1PickInt.f bt264.1 bt285.2.1 bt285.2.2 (([0, 0, 0, 1, (y282.length : Int), (-1)] : List Int))).bind fun bt303 => (some (y282, bt303.1)))))) else (none)))))
theorem spec_DrawGetText.mono : ∀ a0 k, LeO (spec_DrawGetText.f k a0) (spec_DrawGetText.f (k + 1) a0) := by
  intro a0 k
  unfold spec_DrawGetText.f
  repeat' first
      | (with_reducible exact spec_PutText.mono _ _)
      | (with_reducible exact spec_l1DrawNums.mono _ _ _ _)
      | (with_reducible exact spec_l1New.mono _ _)
      | (with_reducible exact LeO.refl _)
      | (with_reducible exact LeO.none _)
      | (with_reducible refine LeO.ite ?_ ?_)
      | (with_reducible refine LeO.bind ?_ (fun _ => ?_))
      | exact spec_PutText.mono _ _
      | exact spec_l1DrawNums.mono _ _ _ _
      | exact spec_l1New.mono _ _
      | exact LeO.none _
      | refine LeO.ite ?_ ?_
      | refine LeO.bind ?_ (fun _ => ?_)
set_option maxHeartbeats 8000000 in
set_option maxRecDepth 100000 in
theorem spec_DrawGetText.calls (k : Nat) (A0 : Option Addr) (c0 : Nat) (l0 : List Int) (r1 : List Int) (r2 : Int) (w : World) (hr0 : Kd.C (Kd.int .u8) w A0 l0.length l0) (hc0 : l0.length ≤ c0) (h : spec_DrawGetText.f k l0 = some (r1, r2)) :
    Calls Tryd.prog 21 #[.slice A0 l0.length c0] w fun e w' => ∃ v0_ : Value, e = .returned (.tuple #[v0_, .int .i64 r2]) ∧ Kd.R (Kd.int .u8) 5 w' w.heap.size (fun _ => True) v0_ r1 ∧ Below w.heap.size w w' := by
  have HR0 := Aside0.mk hr0
  have HC0 := Aside0.mk hc0
  clear hr0 hc0
  have HB := Aside0.mk (Below.refl w.heap.size w)
  have H : ((spec_l1New.f k l0).bind fun bt264 => ((spec_l1Pick.f bt264.1 bt264.2.1 bt264.2.2 (([(⟨#[]⟩ : ByteArray), (⟨#[97, 98, 99]⟩ : ByteArray), (⟨#[120]⟩ : ByteArray)] : List ByteArray))).bind fun bt271 => ((spec_PutText.f k bt271.1).bind fun t274 => ((spec_l1DrawNums.f k bt264.1 bt271.2.1 bt271.2.2).bind fun bt277 => (if t274.length + bt277.1.length < 140737488355328 then ((some (t274 ++ bt277.1 : List Int)).bind fun y282 => ((spec_l1Once.f bt264.1 bt277.2.1 bt277.2.2 4).bind fun bt285 => (if bt285.1 = true then ((spec_l1Below.f bt264.1 bt285.2.1 bt285.2.2 (wrap64 ((y282.length : Int) + 1))).bind fun bt288 => (if 0 ≤ bt288.1 then (if bt288.1 ≤ (y282.length : Int) then ((some (y282.take (bt288.1 : Int).toNat : List Int)).bind fun y291 => ((spec_l1PickInt.f bt264.1 bt288.2.1 bt288.2.2 (([0, 0, 0, 1, (y291.length : Int), (-1)] : List Int))).bind fun bt297 => (some (y291, bt297.1)))) else (none)) else (none))) else ((spec_l1PickInt.f bt264.1 bt285.2.1 bt285.2.2 (([0, 0, 0, 1, (y282.length : Int), (-1)] : List Int))).bind fun bt303 => (some (y282, bt303.1)))))) else (none)))))) = some (r1, r2) := h
  clear h
  replace H := Option.bind_eq_some_iff.mp H
  obtain ⟨⟨t264, t265, t266⟩, A20, H⟩ := H
  replace H : ((spec_l1Pick.f t264 t265 t266 (([(⟨#[]⟩ : ByteArray), (⟨#[97, 98, 99]⟩ : ByteArray), (⟨#[120]⟩ : ByteArray)] : List ByteArray))).bind fun bt271 => ((spec_PutText.f k bt271.1).bind fun t274 => ((spec_l1DrawNums.f k t264 bt271.2.1 bt271.2.2).bind fun bt277 => (if t274.length + bt277.1.length < 140737488355328 then ((some (t274 ++ bt277.1 : List Int)).bind fun y282 => ((spec_l1Once.f t264 bt277.2.1 bt277.2.2 4).bind fun bt285 => (if bt285.1 = true then ((spec_l1Below.f t264 bt285.2.1 bt285.2.2 (wrap64 ((y282.length : Int) + 1))).bind fun bt288 => (if 0 ≤ bt288.1 then (if bt288.1 ≤ (y282.length : Int) then ((some (y282.take (bt288.1 : Int).toNat : List Int)).bind fun y291 => ((spec_l1PickInt.f t264 bt288.2.1 bt288.2.2 (([0, 0, 0, 1, (y291.length : Int), (-1)] : List Int))).bind fun bt297 => (some (y291, bt297.1)))) else (none)) else (none))) else ((spec_l1PickInt.f t264 bt285.2.1 bt285.2.2 (([0, 0, 0, 1, (y282.length : Int), (-1)] : List Int))).bind fun bt303 => (some (y282, bt303.1)))))) else (none))))) = some (r1, r2) := H
  have A2 := Aside0.mk A20
  clear A20
  obtain ⟨y268, hy268⟩ : ∃ y_ : List ByteArray, y_ = (([(⟨#[]⟩ : ByteArray), (⟨#[97, 98, 99]⟩ : ByteArray), (⟨#[120]⟩ : ByteArray)] : List ByteArray)) := ⟨_, rfl⟩
  replace H : ((spec_l1Pick.f t264 t265 t266 y268).bind fun bt271 => ((spec_PutText.f k bt271.1).bind fun t274 => ((spec_l1DrawNums.f k t264 bt271.2.1 bt271.2.2).bind fun bt277 => (if t274.length + bt277.1.length < 140737488355328 then ((some (t274 ++ bt277.1 : List Int)).bind fun y282 => ((spec_l1Once.f t264 bt277.2.1 bt277.2.2 4).bind fun bt285 => (if bt285.1 = true then ((spec_l1Below.f t264 bt285.2.1 bt285.2.2 (wrap64 ((y282.length : Int) + 1))).bind fun bt288 => (if 0 ≤ bt288.1 then (if bt288.1 ≤ (y282.length : Int) then ((some (y282.take (bt288.1 : Int).toNat : List Int)).bind fun y291 => ((spec_l1PickInt.f t264 bt288.2.1 bt288.2.2 (([0, 0, 0, 1, (y291.length : Int), (-1)] : List Int))).bind fun bt297 => (some (y291, bt297.1)))) else (none)) else (none))) else ((spec_l1PickInt.f t264 bt285.2.1 bt285.2.2 (([0, 0, 0, 1, (y282.length : Int), (-1)] : List Int))).bind fun bt303 => (some (y282, bt303.1)))))) else (none))))) = some (r1, r2) := by first | (rw [hy268]; with_reducible exact H) | (have H2_ := (Option.bind_some _ _).symm.trans H; rw [hy268]; with_reducible exact H2_) | (have H2_ := (Option.bind_some _ _).symm.trans H; with_reducible exact H2_) | with_reducible exact H | (rw [hy268]; exact H) | exact H
  have Ny268 := Aside0.mk hy268
  clear hy268
  replace H := Option.bind_eq_some_iff.mp H
  obtain ⟨⟨t271, t272, t273⟩, A30, H⟩ := H
  replace H : ((spec_PutText.f k t271).bind fun t274 => ((spec_l1DrawNums.f k t264 t272 t273).bind fun bt277 => (if t274.length + bt277.1.length < 140737488355328 then ((some (t274 ++ bt277.1 : List Int)).bind fun y282 => ((spec_l1Once.f t264 bt277.2.1 bt277.2.2 4).bind fun bt285 => (if bt285.1 = true then ((spec_l1Below.f t264 bt285.2.1 bt285.2.2 (wrap64 ((y282.length : Int) + 1))).bind fun bt288 => (if 0 ≤ bt288.1 then (if bt288.1 ≤ (y282.length : Int) then ((some (y282.take (bt288.1 : Int).toNat : List Int)).bind fun y291 => ((spec_l1PickInt.f t264 bt288.2.1 bt288.2.2 (([0, 0, 0, 1, (y291.length : Int), (-1)] : List Int))).bind fun bt297 => (some (y291, bt297.1)))) else (none)) else (none))) else ((spec_l1PickInt.f t264 bt285.2.1 bt285.2.2 (([0, 0, 0, 1, (y282.length : Int), (-1)] : List Int))).bind fun bt303 => (some (y282, bt303.1)))))) else (none)))) = some (r1, r2) := H
  have A3 := Aside0.mk A30
  clear A30
  replace H := Option.bind_eq_some_iff.mp H
  obtain ⟨t274, A40, H⟩ := H
  replace H : ((spec_l1DrawNums.f k t264 t272 t273).bind fun bt277 => (if t274.length + bt277.1.length < 140737488355328 then ((some (t274 ++ bt277.1 : List Int)).bind fun y282 => ((spec_l1Once.f t264 bt277.2.1 bt277.2.2 4).bind fun bt285 => (if bt285.1 = true then ((spec_l1Below.f t264 bt285.2.1 bt285.2.2 (wrap64 ((y282.length : Int) + 1))).bind fun bt288 => (if 0 ≤ bt288.1 then (if bt288.1 ≤ (y282.length : Int) then ((some (y282.take (bt288.1 : Int).toNat : List Int)).bind fun y291 => ((spec_l1PickInt.f t264 bt288.2.1 bt288.2.2 (([0, 0, 0, 1, (y291.length : Int), (-1)] : List Int))).bind fun bt297 => (some (y291, bt297.1)))) else (none)) else (none))) else ((spec_l1PickInt.f t264 bt285.2.1 bt285.2.2 (([0, 0, 0, 1, (y282.length : Int), (-1)] : List Int))).bind fun bt303 => (some (y282, bt303.1)))))) else (none))) = some (r1, r2) := H
  have A4 := Aside0.mk A40
  clear A40
  replace H := Option.bind_eq_some_iff.mp H
  obtain ⟨⟨t277, t280, t281⟩, A50, H⟩ := H
  replace H : (if t274.length + t277.length < 140737488355328 then ((some (t274 ++ t277 : List Int)).bind fun y282 => ((spec_l1Once.f t264 t280 t281 4).bind fun bt285 => (if bt285.1 = true then ((spec_l1Below.f t264 bt285.2.1 bt285.2.2 (wrap64 ((y282.length : Int) + 1))).bind fun bt288 => (if 0 ≤ bt288.1 then (if bt288.1 ≤ (y282.length : Int) then ((some (y282.take (bt288.1 : Int).toNat : List Int)).bind fun y291 => ((spec_l1PickInt.f t264 bt288.2.1 bt288.2.2 (([0, 0, 0, 1, (y291.length : Int), (-1)] : List Int))).bind fun bt297 => (some (y291, bt297.1)))) else (none)) else (none))) else ((spec_l1PickInt.f t264 bt285.2.1 bt285.2.2 (([0, 0, 0, 1, (y282.length : Int), (-1)] : List Int))).bind fun bt303 => (some (y282, bt303.1)))))) else (none)) = some (r1, r2) := H
  have A5 := Aside0.mk A50
  clear A50
  by_cases c6 : t274.length + t277.length < 140737488355328
  · rw [if_pos c6] at H
    have LMc6 := Aside0.mk c6
    clear c6
    obtain ⟨y282, hy282⟩ : ∃ y_ : List Int, y_ = (t274 ++ t277) := ⟨_, rfl⟩
    replace H : ((spec_l1Once.f t264 t280 t281 4).bind fun bt285 => (if bt285.1 = true then ((spec_l1Below.f t264 bt285.2.1 bt285.2.2 (wrap64 ((y282.length : Int) + 1))).bind fun bt288 => (if 0 ≤ bt288.1 then (if bt288.1 ≤ (y282.length : Int) then ((some (y282.take (bt288.1 : Int).toNat : List Int)).bind fun y291 => ((spec_l1PickInt.f t264 bt288.2.1 bt288.2.2 (([0, 0, 0, 1, (y291.length : Int), (-1)] : List Int))).bind fun bt297 => (some (y291, bt297.1)))) else (none)) else (none))) else ((spec_l1PickInt.f t264 bt285.2.1 bt285.2.2 (([0, 0, 0, 1, (y282.length : Int), (-1)] : List Int))).bind fun bt303 => (some (y282, bt303.1))))) = some (r1, r2) := by first | (rw [hy282]; with_reducible exact H) | (have H2_ := (Option.bind_some _ _).symm.trans H; rw [hy282]; with_reducible exact H2_) | (have H2_ := (Option.bind_some _ _).symm.trans H; with_reducible exact H2_) | with_reducible exact H | (rw [hy282]; exact H) | exact H
    have Ny282 := Aside0.mk hy282
    clear hy282
    replace H := Option.bind_eq_some_iff.mp H
    obtain ⟨⟨t285, t286, t287⟩, A70, H⟩ := H
    replace H : (if t285 = true then ((spec_l1Below.f t264 t286 t287 (wrap64 ((y282.length : Int) + 1))).bind fun bt288 => (if 0 ≤ bt288.1 then (if bt288.1 ≤ (y282.length : Int) then ((some (y282.take (bt288.1 : Int).toNat : List Int)).bind fun y291 => ((spec_l1PickInt.f t264 bt288.2.1 bt288.2.2 (([0, 0, 0, 1, (y291.length : Int), (-1)] : List Int))).bind fun bt297 => (some (y291, bt297.1)))) else (none)) else (none))) else ((spec_l1PickInt.f t264 t286 t287 (([0, 0, 0, 1, (y282.length : Int), (-1)] : List Int))).bind fun bt303 => (some (y282, bt303.1)))) = some (r1, r2) := H
    have A7 := Aside0.mk A70
    clear A70
    have HF := Aside0.mk H
    clear H
    go_enter Tryd.func21, Tryd.ntmps21
    go_upto_if 16 with (go_big_may; first | ((with_reducible refine gate_callee (f := 26) rfl ?_); refine goesL_ (some 7) rfl rfl Tryd.func26 (by kernel_rfl) rfl #[.slice A0 l0.length c0] rfl (by (try simp only [List.map_toArray, List.map_cons, List.map_nil]); first | done | rfl | (simp only [List.length_drop, List.length_take]; rfl)) ?_; (with_reducible refine (spec_l1New.calls k _ _ l0 t264 t265 t266 w _ ?side1 ?side2 ?side3 A2.out).mono ?_); (case side1 => repeat (first | (with_reducible first | exact HB.out | apply below_alloc | apply pw_below_drewN | apply below_drew1) | exact HB.out)); (case side2 => exact HR0.out); (case side3 => exact HC0.out); rintro e w8 ⟨g267, rfl, hi, hb, hb2⟩; refine ⟨_, rfl, ?_⟩; have n0_ := Aside0.mk (hb); have n1_ := Aside0.mk (hi); clear HB; have HB := n0_; have HI267 := n1_; clear n0_ n1_; (try clear hb); (try clear hb2); (try clear hk); (try clear hi)) | ((with_reducible refine gate_dst (N := 9) rfl ?_); refine Kd.R_lit Kd.string _ 9 ?hg (N := 9) ?hd (xs := ([(⟨#[]⟩ : ByteArray), (⟨#[97, 98, 99]⟩ : ByteArray), (⟨#[120]⟩ : ByteArray)] : List ByteArray)) (inner := [.string (⟨#[]⟩ : ByteArray), .string (⟨#[97, 98, 99]⟩ : ByteArray), .string (⟨#[120]⟩ : ByteArray)]) (ok := fun _ => True) (okp := fun _ => True) ?hr ?hp (fun _ hk => hk) trivial (Below.refl _ _) (Nat.le_refl _) (by simp) ?_; (case hd => rfl); (case hg => rfl); (case hr => first | (go_simp; done) | (go_simp; rfl)); (case hp => exact (Reps.one (show Kd.M Kd.string _ _ _ (⟨#[]⟩ : ByteArray) [.string (⟨#[]⟩ : ByteArray)] from rfl) (Reps.one (show Kd.M Kd.string _ _ _ (⟨#[97, 98, 99]⟩ : ByteArray) [.string (⟨#[97, 98, 99]⟩ : ByteArray)] from rfl) (Reps.one (show Kd.M Kd.string _ _ _ (⟨#[120]⟩ : ByteArray) [.string (⟨#[120]⟩ : ByteArray)] from rfl) (Reps.none _ _))))); intro v269 w9 ho10 hb hg_ hnew_; clear hg_ hnew_; (first | rw [← Ny268.out] at ho10 | (simp only [Int.reduceToNat] at ho10; rw [← Ny268.out] at ho10)); have n0_ := Aside0.mk (Kd.R_lower ho10 (below_size (by repeat (first | (with_reducible first | exact HB.out | apply below_alloc | apply pw_below_drewN | apply below_drew1 | refine below_set ?_ (IsS52.ge HI267.out)) | exact HB.out)))); have n1_ := Aside0.mk (IsS52.below (by repeat (first | (with_reducible first | exact HI267.out | apply IsS52.alloc | apply IsS52.drewN | apply IsS52.drew | apply IsS52.set_1 | apply IsS52.set_2) | exact HI267.out)) hb); have n2_ := Aside0.mk (below_step (by repeat (first | (with_reducible first | exact HB.out | apply below_alloc | apply pw_below_drewN | apply below_drew1 | refine below_set ?_ (IsS52.ge HI267.out)) | exact HB.out)) hb); clear HI267; clear HB; have HO270 := n0_; have HI267 := n1_; have HB := n2_; clear n0_ n1_ n2_; clear hb ho10; obtain ⟨Ao11, co11, eo11⟩ := Kd.R_slice HO270.out; subst eo11) | ((with_reducible refine gate_callee (f := 28) rfl ?_); refine goesL_ (some 10) rfl rfl Tryd.func28 (by kernel_rfl) rfl #[.pointer (some ⟨g267, 0, none⟩), .slice Ao11 y268.length co11] rfl (by (try simp only [List.map_toArray, List.map_cons, List.map_nil]); first | done | rfl | (simp only [List.length_drop, List.length_take]; rfl)) ?_; (with_reducible refine (spec_l1Pick.calls g267 t264 t265 t266 _ _ y268 t271 t272 t273 w _ ?side1 ?side2 ?side3 ?side4 ?side5 A3.out).mono ?_); (case side1 => repeat (first | (with_reducible first | exact HI267.out | apply IsS52.alloc | apply IsS52.drewN | apply IsS52.drew | apply IsS52.set_1 | apply IsS52.set_2) | exact HI267.out)); (case side2 => repeat (first | (with_reducible first | exact HB.out | apply below_alloc | apply pw_below_drewN | apply below_drew1 | refine below_set ?_ (IsS52.ge HI267.out)) | exact HB.out)); (case side3 => repeat (first | exact (Kd.R_reads' HO270.out).2.2 | (with_reducible refine Kd.C_alloc ?_ _) | (with_reducible refine Kd.C_drewN ?_ _) | (with_reducible refine Kd.C_drew ?_))); (case side4 => exact (Kd.R_reads' HO270.out).2.1); (case side5 => exact far_slice (IsS52.own_ne HI267.out HO270.out (by decide))); rintro e w12 ⟨rfl, hi, hb, hk⟩; refine ⟨_, rfl, ?_⟩; have n0_ := Aside0.mk (Kd.R_mono (Kd.R_keep (IsS52.apart (show IsS52 w _ g267 t264 t265 t266 from by repeat (first | (with_reducible first | exact HI267.out | apply IsS52.alloc | apply IsS52.drewN | apply IsS52.drew | apply IsS52.set_1 | apply IsS52.set_2) | exact HI267.out)) (by (with_reducible repeat (first | apply Kd.R_alloc | apply Kd.R_drewN | apply Kd.R_drew)); exact HO270.out) (by decide)) hk (fun _ h => h.2)) (fun _ h => h.1)); have n1_ := Aside0.mk (hb); have n2_ := Aside0.mk (hi); clear HO270; clear HB; clear HI267; have HO270 := n0_; have HB := n1_; have HI267 := n2_; clear n0_ n1_ n2_; (try clear hb); (try clear hb2); (try clear hk); (try clear hi)) | ((with_reducible refine gate_callee (f := 14) rfl ?_); refine goesL_ (some 11) rfl rfl Tryd.func14 (by kernel_rfl) rfl #[.string t271] rfl (by (try simp only [List.map_toArray, List.map_cons, List.map_nil]); first | done | rfl | (simp only [List.length_drop, List.length_take]; rfl)) ?_; (with_reducible refine (spec_PutText.calls k t271 t274 _ A4.out).mono ?_); rintro e w13 ⟨v275, rfl, ho0, hb⟩; refine ⟨_, rfl, ?_⟩; have n0_ := Aside0.mk (Kd.R_below (by (with_reducible repeat (first | apply Kd.R_alloc | apply Kd.R_drewN | apply Kd.R_drew)); exact HO270.out) hb); have n1_ := Aside0.mk (Kd.R_lower ho0 (below_size (by repeat (first | (with_reducible first | exact HB.out | apply below_alloc | apply pw_below_drewN | apply below_drew1 | refine below_set ?_ (IsS52.ge HI267.out)) | exact HB.out)))); have n2_ := Aside0.mk (IsS52.below (by repeat (first | (with_reducible first | exact HI267.out | apply IsS52.alloc | apply IsS52.drewN | apply IsS52.drew | apply IsS52.set_1 | apply IsS52.set_2) | exact HI267.out)) hb); have n3_ := Aside0.mk (below_step (by repeat (first | (with_reducible first | exact HB.out | apply below_alloc | apply pw_below_drewN | apply below_drew1 | refine below_set ?_ (IsS52.ge HI267.out)) | exact HB.out)) hb); clear HO270; clear HI267; clear HB; have HO270 := n0_; have HO276 := n1_; have HI267 := n2_; have HB := n3_; clear n0_ n1_ n2_ n3_; (try clear hb); (try clear hb2); (try clear hk); (try clear hi); (try clear ho0)) | ((with_reducible refine gate_callee (f := 31) rfl ?_); refine goesL_ (some 13) rfl rfl Tryd.func31 (by kernel_rfl) rfl #[.pointer (some ⟨g267, 0, none⟩)] rfl (by (try simp only [List.map_toArray, List.map_cons, List.map_nil]); first | done | rfl | (simp only [List.length_drop, List.length_take]; rfl)) ?_; (with_reducible refine (spec_l1DrawNums.calls k g267 t264 t272 t273 t277 t280 t281 w _ ?side1 ?side2 A5.out).mono ?_); (case side1 => repeat (first | (with_reducible first | exact HI267.out | apply IsS52.alloc | apply IsS52.drewN | apply IsS52.drew | apply IsS52.set_1 | apply IsS52.set_2) | exact HI267.out)); (case side2 => repeat (first | (with_reducible first | exact HB.out | apply below_alloc | apply pw_below_drewN | apply below_drew1 | refine below_set ?_ (IsS52.ge HI267.out)) | exact HB.out)); rintro e w14 ⟨v278, rfl, ho0, hi, hb, hk⟩; refine ⟨_, rfl, ?_⟩; have n0_ := Aside0.mk (Kd.R_mono (Kd.R_keep (IsS52.apart (show IsS52 w _ g267 t264 t272 t273 from by repeat (first | (with_reducible first | exact HI267.out | apply IsS52.alloc | apply IsS52.drewN | apply IsS52.drew | apply IsS52.set_1 | apply IsS52.set_2) | exact HI267.out)) (by (with_reducible repeat (first | apply Kd.R_alloc | apply Kd.R_drewN | apply Kd.R_drew)); exact HO270.out) (by decide)) hk (fun _ h => h.2)) (fun _ h => h.1)); have n1_ := Aside0.mk (Kd.R_mono (Kd.R_told (Kd.R_oldK (IsS52.apart (show IsS52 w _ g267 t264 t272 t273 from by repeat (first | (with_reducible first | exact HI267.out | apply IsS52.alloc | apply IsS52.drewN | apply IsS52.drew | apply IsS52.set_1 | apply IsS52.set_2) | exact HI267.out)) (by (with_reducible repeat (first | apply Kd.R_alloc | apply Kd.R_drewN | apply Kd.R_drew)); exact HO276.out) (by decide)) hk) (Kd.R_base ho0)) (fun _ h_ => h_.1)); have n2_ := Aside0.mk (Kd.R_lower (Kd.R_new' ho0 (Kd.R_lt (by (with_reducible repeat (first | apply Kd.R_alloc | apply Kd.R_drewN | apply Kd.R_drew)); exact HO276.out))) (below_size (by repeat (first | (with_reducible first | exact HB.out | apply below_alloc | apply pw_below_drewN | apply below_drew1 | refine below_set ?_ (IsS52.ge HI267.out)) | exact HB.out)))); have n3_ := Aside0.mk (hb); have n4_ := Aside0.mk (hi); clear HO270; clear HO276; clear HB; clear HI267; have HO270 := n0_; have HO276 := n1_; have HO279 := n2_; have HB := n3_; have HI267 := n4_; clear n0_ n1_ n2_ n3_ n4_; (try clear hb); (try clear hb2); (try clear hk); (try clear hi); (try clear ho0); obtain ⟨Ao16, co16, eo16⟩ := Kd.R_slice HO279.out; subst eo16) | ((with_reducible refine gate_builtin (b := .append) (xs := #[.tmp 11, .tmp 13]) rfl ?_); at_builtin; refine Kd.R_append_rows (Kd.int .u8) (w0 := w) w.heap.size rfl (.tmp 11) (.tmp 13) 22 5 (.int .u8 0) 1 rfl Tryd.underlying22 info5 rfl (by decide) (by omega) v275 t274 t277 _ _ _ (fun k_ => some k_ ≠ (.slice Ao16 t277.length co16 : Value).ownBlock) (fun _ => False) rfl rfl ?aO ?aR (fun _ _ h => h) (fun _ h => h.elim) ?aF ?aB ?aS ?aL ?_; (case aR => repeat (first | exact (Kd.R_reads' HO279.out).2.2 | (with_reducible refine Kd.C_alloc ?_ _) | (with_reducible refine Kd.C_drewN ?_ _) | (with_reducible refine Kd.C_drew ?_))); (case aB => exact (by repeat (first | (with_reducible first | exact HB.out | apply below_alloc | apply pw_below_drewN | apply below_drew1 | refine below_set ?_ (IsS52.ge HI267.out)) | exact HB.out))); (case aF => exact (fun k_ hk => Kd.fresh' (Kd.R_lt (by (with_reducible repeat (first | apply Kd.R_alloc | apply Kd.R_drewN | apply Kd.R_drew)); exact HO279.out)) k_ hk)); (case aO => exact (by (with_reducible repeat (first | apply Kd.R_alloc | apply Kd.R_drewN | apply Kd.R_drew)); exact Kd.R_mono HO276.out (fun _ hk => hk.2))); (case aS => exact (below_size (by repeat (first | (with_reducible first | exact HB.out | apply below_alloc | apply pw_below_drewN | apply below_drew1 | refine below_set ?_ (IsS52.ge HI267.out)) | exact HB.out)))); (case aL => have := LMc6.out; omega); intro v283 w15 ho hb hg hat; rw [← Ny282.out] at ho; have n0_ := Aside0.mk (IsS52.grown (by repeat (first | (with_reducible first | exact HI267.out | apply IsS52.alloc | apply IsS52.drewN | apply IsS52.drew | apply IsS52.set_1 | apply IsS52.set_2) | exact HI267.out)) hg (IsS52.own_ne HI267.out HO276.out (by decide))); have n1_ := Aside0.mk (Kd.R_over' (by (with_reducible repeat (first | apply Kd.R_alloc | apply Kd.R_drewN | apply Kd.R_drew)); exact HO270.out) (Kd.R_typed (by (with_reducible repeat (first | apply Kd.R_alloc | apply Kd.R_drewN | apply Kd.R_drew)); exact HO276.out)) (by decide) hg); have n2_ := Aside0.mk (Kd.R_after (ok := (fun _ => True)) (by (with_reducible repeat (first | apply Kd.R_alloc | apply Kd.R_drewN | apply Kd.R_drew)); exact HO279.out) hg hat); have n3_ := Aside0.mk (hb); have n4_ := Aside0.mk (ho); clear HI267; clear HO270; clear HO279; clear HB; clear HO276; have HI267 := n0_; have HO270 := n1_; have HO279 := n2_; have HB := n3_; have HO284 := n4_; clear n0_ n1_ n2_ n3_ n4_; clear ho hb hg hat) | ((with_reducible refine gate_callee (f := 32) rfl ?_); refine goesL_ (some 16) rfl rfl Tryd.func32 (by kernel_rfl) rfl #[.pointer (some ⟨g267, 0, none⟩), .int .i64 4] rfl (by (try simp only [List.map_toArray, List.map_cons, List.map_nil]); first | done | rfl | (simp only [List.length_drop, List.length_take]; rfl)) ?_; (with_reducible refine (spec_l1Once.calls g267 t264 t280 t281 4 t285 t286 t287 w _ ?side1 ?side2 A7.out).mono ?_); (case side1 => repeat (first | (with_reducible first | exact HI267.out | apply IsS52.alloc | apply IsS52.drewN | apply IsS52.drew | apply IsS52.set_1 | apply IsS52.set_2) | exact HI267.out)); (case side2 => repeat (first | (with_reducible first | exact HB.out | apply below_alloc | apply pw_below_drewN | apply below_drew1 | refine below_set ?_ (IsS52.ge HI267.out)) | exact HB.out)); rintro e w17 ⟨rfl, hi, hb, hk⟩; refine ⟨_, rfl, ?_⟩; have n0_ := Aside0.mk (Kd.R_mono (Kd.R_keep (IsS52.apart (show IsS52 w _ g267 t264 t280 t281 from by repeat (first | (with_reducible first | exact HI267.out | apply IsS52.alloc | apply IsS52.drewN | apply IsS52.drew | apply IsS52.set_1 | apply IsS52.set_2) | exact HI267.out)) (by (with_reducible repeat (first | apply Kd.R_alloc | apply Kd.R_drewN | apply Kd.R_drew)); exact HO270.out) (by decide)) hk (fun _ h => h.2)) (fun _ h => h.1)); have n1_ := Aside0.mk (Kd.R_mono (Kd.R_keep (IsS52.apart (show IsS52 w _ g267 t264 t280 t281 from by repeat (first | (with_reducible first | exact HI267.out | apply IsS52.alloc | apply IsS52.drewN | apply IsS52.drew | apply IsS52.set_1 | apply IsS52.set_2) | exact HI267.out)) (by (with_reducible repeat (first | apply Kd.R_alloc | apply Kd.R_drewN | apply Kd.R_drew)); exact HO279.out) (by decide)) hk (fun _ h => h.2)) (fun _ h => h.1)); have n2_ := Aside0.mk (Kd.R_mono (Kd.R_keep (IsS52.apart (show IsS52 w _ g267 t264 t280 t281 from by repeat (first | (with_reducible first | exact HI267.out | apply IsS52.alloc | apply IsS52.drewN | apply IsS52.drew | apply IsS52.set_1 | apply IsS52.set_2) | exact HI267.out)) (by (with_reducible repeat (first | apply Kd.R_alloc | apply Kd.R_drewN | apply Kd.R_drew)); exact HO284.out) (by decide)) hk (fun _ h => h.2)) (fun _ h => h.1)); have n3_ := Aside0.mk (hb); have n4_ := Aside0.mk (hi); clear HO270; clear HO279; clear HO284; clear HB; clear HI267; have HO270 := n0_; have HO279 := n1_; have HO284 := n2_; have HB := n3_; have HI267 := n4_; clear n0_ n1_ n2_ n3_ n4_; (try clear hb); (try clear hb2); (try clear hk); (try clear hi)))
    have H := HF.out
    clear HF
    by_cases c18 : t285 = true
    · subst c18
      have H1 : ((spec_l1Below.f t264 t286 t287 (wrap64 ((y282.length : Int) + 1))).bind fun bt288 => (if 0 ≤ bt288.1 then (if bt288.1 ≤ (y282.length : Int) then ((some (y282.take (bt288.1 : Int).toNat : List Int)).bind fun y291 => ((spec_l1PickInt.f t264 bt288.2.1 bt288.2.2 (([0, 0, 0, 1, (y291.length : Int), (-1)] : List Int))).bind fun bt297 => (some (y291, bt297.1)))) else (none)) else (none))) = some (r1, r2) := by rw [if_pos rfl] at H; exact H
      clear H
      have H := H1
      clear H1
      replace H := Option.bind_eq_some_iff.mp H
      obtain ⟨⟨t288, t289, t290⟩, A190, H⟩ := H
      replace H : (if 0 ≤ t288 then (if t288 ≤ (y282.length : Int) then ((some (y282.take (t288 : Int).toNat : List Int)).bind fun y291 => ((spec_l1PickInt.f t264 t289 t290 (([0, 0, 0, 1, (y291.length : Int), (-1)] : List Int))).bind fun bt297 => (some (y291, bt297.1)))) else (none)) else (none)) = some (r1, r2) := H
      have A19 := Aside0.mk A190
      clear A190
      by_cases c20 : 0 ≤ t288
      · rw [if_pos c20] at H
        have c20b0 := eq_true c20
        have c20b1 : decide (0 ≤ t288) = true := decide_eq_true c20
        clear c20
        by_cases c21 : t288 ≤ (y282.length : Int)
        · rw [if_pos c21] at H
          have c21b0 := eq_true c21
          have c21b1 : decide (t288 ≤ (y282.length : Int)) = true := decide_eq_true c21
          clear c21
          obtain ⟨y291, hy291⟩ : ∃ y_ : List Int, y_ = (y282.take (t288 : Int).toNat) := ⟨_, rfl⟩
          replace H : ((spec_l1PickInt.f t264 t289 t290 (([0, 0, 0, 1, (y291.length : Int), (-1)] : List Int))).bind fun bt297 => (some (y291, bt297.1))) = some (r1, r2) := by first | (rw [hy291]; with_reducible exact H) | (have H2_ := (Option.bind_some _ _).symm.trans H; rw [hy291]; with_reducible exact H2_) | (have H2_ := (Option.bind_some _ _).symm.trans H; with_reducible exact H2_) | with_reducible exact H | (rw [hy291]; exact H) | exact H
          have Ny291 := Aside0.mk hy291
          clear hy291
          obtain ⟨y294, hy294⟩ : ∃ y_ : List Int, y_ = (([0, 0, 0, 1, (y291.length : Int), (-1)] : List Int)) := ⟨_, rfl⟩
          replace H : ((spec_l1PickInt.f t264 t289 t290 y294).bind fun bt297 => (some (y291, bt297.1))) = some (r1, r2) := by first | (rw [hy294]; with_reducible exact H) | (have H2_ := (Option.bind_some _ _).symm.trans H; rw [hy294]; with_reducible exact H2_) | (have H2_ := (Option.bind_some _ _).symm.trans H; with_reducible exact H2_) | with_reducible exact H | (rw [hy294]; exact H) | exact H
          have Ny294 := Aside0.mk hy294
          clear hy294
          replace H := Option.bind_eq_some_iff.mp H
          obtain ⟨⟨t297, t298, t299⟩, A220, H⟩ := H
          replace H : (some (y291, t297)) = some (r1, r2) := H
          have A22 := Aside0.mk A220
          clear A220
          simp only [Option.some.injEq, Prod.mk.injEq] at H
          obtain ⟨rfl, rfl⟩ := H
          obtain ⟨Ao23, co23, eo23⟩ := Kd.R_slice HO284.out
          subst eo23
          go_wp2_with (first | ((with_reducible refine gate_callee (f := 33) rfl ?_); refine goesL_ (some 22) rfl rfl Tryd.func33 (by kernel_rfl) rfl #[.pointer (some ⟨g267, 0, none⟩), .int .i64 (wrap64 ((y282.length : Int) + 1))] rfl (by (try simp only [List.map_toArray, List.map_cons, List.map_nil]); first | done | rfl | (simp only [List.length_drop, List.length_take]; rfl)) ?_; (with_reducible refine (spec_l1Below.calls g267 t264 t286 t287 (wrap64 ((y282.length : Int) + 1)) t288 t289 t290 w _ ?side1 ?side2 A19.out).mono ?_); (case side1 => repeat (first | (with_reducible first | exact HI267.out | apply IsS52.alloc | apply IsS52.drewN | apply IsS52.drew | apply IsS52.set_1 | apply IsS52.set_2) | exact HI267.out)); (case side2 => repeat (first | (with_reducible first | exact HB.out | apply below_alloc | apply pw_below_drewN | apply below_drew1 | refine below_set ?_ (IsS52.ge HI267.out)) | exact HB.out)); rintro e w24 ⟨rfl, hi, hb, hk⟩; refine ⟨_, rfl, ?_⟩; have n0_ := Aside0.mk (Kd.R_mono (Kd.R_keep (IsS52.apart (show IsS52 w _ g267 t264 t286 t287 from by repeat (first | (with_reducible first | exact HI267.out | apply IsS52.alloc | apply IsS52.drewN | apply IsS52.drew | apply IsS52.set_1 | apply IsS52.set_2) | exact HI267.out)) (by (with_reducible repeat (first | apply Kd.R_alloc | apply Kd.R_drewN | apply Kd.R_drew)); exact HO270.out) (by decide)) hk (fun _ h => h.2)) (fun _ h => h.1)); have n1_ := Aside0.mk (Kd.R_mono (Kd.R_keep (IsS52.apart (show IsS52 w _ g267 t264 t286 t287 from by repeat (first | (with_reducible first | exact HI267.out | apply IsS52.alloc | apply IsS52.drewN | apply IsS52.drew | apply IsS52.set_1 | apply IsS52.set_2) | exact HI267.out)) (by (with_reducible repeat (first | apply Kd.R_alloc | apply Kd.R_drewN | apply Kd.R_drew)); exact HO279.out) (by decide)) hk (fun _ h => h.2)) (fun _ h => h.1)); have n2_ := Aside0.mk (Kd.R_mono (Kd.R_keep (IsS52.apart (show IsS52 w _ g267 t264 t286 t287 from by repeat (first | (with_reducible first | exact HI267.out | apply IsS52.alloc | apply IsS52.drewN | apply IsS52.drew | apply IsS52.set_1 | apply IsS52.set_2) | exact HI267.out)) (by (with_reducible repeat (first | apply Kd.R_alloc | apply Kd.R_drewN | apply Kd.R_drew)); exact HO284.out) (by decide)) hk (fun _ h => h.2)) (fun _ h => h.1)); have n3_ := Aside0.mk (hb); have n4_ := Aside0.mk (hi); clear HO270; clear HO279; clear HO284; clear HB; clear HI267; have HO270 := n0_; have HO279 := n1_; have HO284 := n2_; have HB := n3_; have HI267 := n4_; clear n0_ n1_ n2_ n3_ n4_; (try clear hb); (try clear hb2); (try clear hk); (try clear hi); have q25 : (t288 : Int) ≤ ((y282.length : Int) : Int) := of_decide_eq_true (by first | (with_reducible assumption) | assumption); obtain ⟨i025, hi025, _, hsz25, _⟩ := info_parts info5; have hcut25 := cut_to (P := Tryd.prog) 22 5 .i64 Tryd.underlying22 hi025 Ao23 y282.length co23 t288 (of_decide_eq_true (by first | (with_reducible assumption) | assumption)) q25 (Kd.R_reads' HO284.out).2.1; have hr25 := Kd.R_take (m := (t288 : Int).toNat) HO284.out (by omega); have hy25 : y291.length = (t288 : Int).toNat := (by rw [Ny291.out, List.length_take]; omega); rw [← Ny291.out] at hr25; rw [← hy25] at hr25 hcut25; clear hy25 hi025 hsz25 HO284; have HO293 := Aside0.mk hr25; clear hr25; replace q25 := eq_true q25) | ((with_reducible refine gate_dst (N := 28) rfl ?_); refine Kd.R_lit (Kd.int .i64) _ 3 ?hg (N := 28) ?hd (xs := ([0, 0, 0, 1, (y291.length : Int), (-1)] : List Int)) (inner := [.int .i64 0, .int .i64 0, .int .i64 0, .int .i64 1, .int .i64 (y291.length : Int), .int .i64 (-1)]) (ok := fun _ => True) (okp := fun _ => True) ?hr ?hp (fun _ hk => hk) trivial (Below.refl _ _) (Nat.le_refl _) (by simp) ?_; (case hd => rfl); (case hg => rfl); (case hr => first | (go_simp; done) | (go_simp; rfl)); (case hp => exact (Reps.one (show Kd.M (Kd.int .i64) _ _ _ 0 [.int .i64 0] from rfl) (Reps.one (show Kd.M (Kd.int .i64) _ _ _ 0 [.int .i64 0] from rfl) (Reps.one (show Kd.M (Kd.int .i64) _ _ _ 0 [.int .i64 0] from rfl) (Reps.one (show Kd.M (Kd.int .i64) _ _ _ 1 [.int .i64 1] from rfl) (Reps.one (show Kd.M (Kd.int .i64) _ _ _ (y291.length : Int) [.int .i64 (y291.length : Int)] from rfl) (Reps.one (show Kd.M (Kd.int .i64) _ _ _ (-1) [.int .i64 (-1)] from rfl) (Reps.none _ _)))))))); intro v295 w26 ho27 hb hg_ hnew_; clear hg_ hnew_; (first | rw [← Ny294.out] at ho27 | (simp only [Int.reduceToNat] at ho27; rw [← Ny294.out] at ho27)); have n0_ := Aside0.mk (Kd.R_below (by (with_reducible repeat (first | apply Kd.R_alloc | apply Kd.R_drewN | apply Kd.R_drew)); exact HO270.out) hb); have n1_ := Aside0.mk (Kd.R_below (by (with_reducible repeat (first | apply Kd.R_alloc | apply Kd.R_drewN | apply Kd.R_drew)); exact HO279.out) hb); have n2_ := Aside0.mk (Kd.R_below (by (with_reducible repeat (first | apply Kd.R_alloc | apply Kd.R_drewN | apply Kd.R_drew)); exact HO293.out) hb); have n3_ := Aside0.mk (Kd.R_lower ho27 (below_size (by repeat (first | (with_reducible first | exact HB.out | apply below_alloc | apply pw_below_drewN | apply below_drew1 | refine below_set ?_ (IsS52.ge HI267.out)) | exact HB.out)))); have n4_ := Aside0.mk (IsS52.below (by repeat (first | (with_reducible first | exact HI267.out | apply IsS52.alloc | apply IsS52.drewN | apply IsS52.drew | apply IsS52.set_1 | apply IsS52.set_2) | exact HI267.out)) hb); have n5_ := Aside0.mk (below_step (by repeat (first | (with_reducible first | exact HB.out | apply below_alloc | apply pw_below_drewN | apply below_drew1 | refine below_set ?_ (IsS52.ge HI267.out)) | exact HB.out)) hb); clear HO270; clear HO279; clear HO293; clear HI267; clear HB; have HO270 := n0_; have HO279 := n1_; have HO293 := n2_; have HO296 := n3_; have HI267 := n4_; have HB := n5_; clear n0_ n1_ n2_ n3_ n4_ n5_; clear hb ho27; obtain ⟨Ao28, co28, eo28⟩ := Kd.R_slice HO296.out; subst eo28) | ((with_reducible refine gate_callee (f := 25) rfl ?_); refine goesL_ (some 29) rfl rfl Tryd.func25 (by kernel_rfl) rfl #[.pointer (some ⟨g267, 0, none⟩), .slice Ao28 y294.length co28] rfl (by (try simp only [List.map_toArray, List.map_cons, List.map_nil]); first | done | rfl | (simp only [List.length_drop, List.length_take]; rfl)) ?_; (with_reducible refine (spec_l1PickInt.calls g267 t264 t289 t290 _ _ y294 t297 t298 t299 w _ ?side1 ?side2 ?side3 ?side4 ?side5 A22.out).mono ?_); (case side1 => repeat (first | (with_reducible first | exact HI267.out | apply IsS52.alloc | apply IsS52.drewN | apply IsS52.drew | apply IsS52.set_1 | apply IsS52.set_2) | exact HI267.out)); (case side2 => repeat (first | (with_reducible first | exact HB.out | apply below_alloc | apply pw_below_drewN | apply below_drew1 | refine below_set ?_ (IsS52.ge HI267.out)) | exact HB.out)); (case side3 => repeat (first | exact (Kd.R_reads' HO296.out).2.2 | (with_reducible refine Kd.C_alloc ?_ _) | (with_reducible refine Kd.C_drewN ?_ _) | (with_reducible refine Kd.C_drew ?_))); (case side4 => exact (Kd.R_reads' HO296.out).2.1); (case side5 => exact far_slice (IsS52.own_ne HI267.out HO296.out (by decide))); rintro e w29 ⟨rfl, hi, hb, hk⟩; refine ⟨_, rfl, ?_⟩; have n0_ := Aside0.mk (Kd.R_mono (Kd.R_keep (IsS52.apart (show IsS52 w _ g267 t264 t289 t290 from by repeat (first | (with_reducible first | exact HI267.out | apply IsS52.alloc | apply IsS52.drewN | apply IsS52.drew | apply IsS52.set_1 | apply IsS52.set_2) | exact HI267.out)) (by (with_reducible repeat (first | apply Kd.R_alloc | apply Kd.R_drewN | apply Kd.R_drew)); exact HO270.out) (by decide)) hk (fun _ h => h.2)) (fun _ h => h.1)); have n1_ := Aside0.mk (Kd.R_mono (Kd.R_keep (IsS52.apart (show IsS52 w _ g267 t264 t289 t290 from by repeat (first | (with_reducible first | exact HI267.out | apply IsS52.alloc | apply IsS52.drewN | apply IsS52.drew | apply IsS52.set_1 | apply IsS52.set_2) | exact HI267.out)) (by (with_reducible repeat (first | apply Kd.R_alloc | apply Kd.R_drewN | apply Kd.R_drew)); exact HO279.out) (by decide)) hk (fun _ h => h.2)) (fun _ h => h.1)); have n2_ := Aside0.mk (Kd.R_mono (Kd.R_keep (IsS52.apart (show IsS52 w _ g267 t264 t289 t290 from by repeat (first | (with_reducible first | exact HI267.out | apply IsS52.alloc | apply IsS52.drewN | apply IsS52.drew | apply IsS52.set_1 | apply IsS52.set_2) | exact HI267.out)) (by (with_reducible repeat (first | apply Kd.R_alloc | apply Kd.R_drewN | apply Kd.R_drew)); exact HO293.out) (by decide)) hk (fun _ h => h.2)) (fun _ h => h.1)); have n3_ := Aside0.mk (Kd.R_mono (Kd.R_keep (IsS52.apart (show IsS52 w _ g267 t264 t289 t290 from by repeat (first | (with_reducible first | exact HI267.out | apply IsS52.alloc | apply IsS52.drewN | apply IsS52.drew | apply IsS52.set_1 | apply IsS52.set_2) | exact HI267.out)) (by (with_reducible repeat (first | apply Kd.R_alloc | apply Kd.R_drewN | apply Kd.R_drew)); exact HO296.out) (by decide)) hk (fun _ h => h.2)) (fun _ h => h.1)); have n4_ := Aside0.mk (hb); have n5_ := Aside0.mk (hi); clear HO270; clear HO279; clear HO293; clear HO296; clear HB; clear HI267; have HO270 := n0_; have HO279 := n1_; have HO293 := n2_; have HO296 := n3_; have HB := n4_; have HI267 := n5_; clear n0_ n1_ n2_ n3_ n4_ n5_; (try clear hb); (try clear hb2); (try clear hk); (try clear hi)))
          go_ret2
          exact ⟨_, by first | rfl | (simp [errW_none, errW_some] <;> rfl) | (simp [*, errW_none, errW_some] <;> rfl), by (with_reducible repeat (first | apply Kd.R_alloc | apply Kd.R_drewN | apply Kd.R_drew)); exact Kd.R_mono HO293.out (fun _ hk => trivial), by repeat (first | (with_reducible first | exact HB.out | apply below_alloc | apply pw_below_drewN | apply below_drew1 | refine below_set ?_ (IsS52.ge HI267.out)) | exact HB.out)⟩
        · rw [if_neg c21] at H
          exact absurd H (by simp)
      · rw [if_neg c20] at H
        exact absurd H (by simp)
    · replace c18 := Bool.eq_false_iff.mpr c18
      subst c18
      have H1 : ((spec_l1PickInt.f t264 t286 t287 (([0, 0, 0, 1, (y282.length : Int), (-1)] : List Int))).bind fun bt303 => (some (y282, bt303.1))) = some (r1, r2) := by rw [if_neg (show ¬ (false = true) by decide)] at H; exact H
      clear H
      have H := H1
      clear H1
      obtain ⟨y300, hy300⟩ : ∃ y_ : List Int, y_ = (([0, 0, 0, 1, (y282.length : Int), (-1)] : List Int)) := ⟨_, rfl⟩
      replace H : ((spec_l1PickInt.f t264 t286 t287 y300).bind fun bt303 => (some (y282, bt303.1))) = some (r1, r2) := by first | (rw [hy300]; with_reducible exact H) | (have H2_ := (Option.bind_some _ _).symm.trans H; rw [hy300]; with_reducible exact H2_) | (have H2_ := (Option.bind_some _ _).symm.trans H; with_reducible exact H2_) | with_reducible exact H | (rw [hy300]; exact H) | exact H
      have Ny300 := Aside0.mk hy300
      clear hy300
      replace H := Option.bind_eq_some_iff.mp H
      obtain ⟨⟨t303, t304, t305⟩, A300, H⟩ := H
      replace H : (some (y282, t303)) = some (r1, r2) := H
      have A30 := Aside0.mk A300
      clear A300
      simp only [Option.some.injEq, Prod.mk.injEq] at H
      obtain ⟨rfl, rfl⟩ := H
      obtain ⟨Ao31, co31, eo31⟩ := Kd.R_slice HO284.out
      subst eo31
      go_wp2_with (first | ((with_reducible refine gate_dst (N := 28) rfl ?_); refine Kd.R_lit (Kd.int .i64) _ 3 ?hg (N := 28) ?hd (xs := ([0, 0, 0, 1, (y282.length : Int), (-1)] : List Int)) (inner := [.int .i64 0, .int .i64 0, .int .i64 0, .int .i64 1, .int .i64 (y282.length : Int), .int .i64 (-1)]) (ok := fun _ => True) (okp := fun _ => True) ?hr ?hp (fun _ hk => hk) trivial (Below.refl _ _) (Nat.le_refl _) (by simp) ?_; (case hd => rfl); (case hg => rfl); (case hr => first | (go_simp; done) | (go_simp; rfl)); (case hp => exact (Reps.one (show Kd.M (Kd.int .i64) _ _ _ 0 [.int .i64 0] from rfl) (Reps.one (show Kd.M (Kd.int .i64) _ _ _ 0 [.int .i64 0] from rfl) (Reps.one (show Kd.M (Kd.int .i64) _ _ _ 0 [.int .i64 0] from rfl) (Reps.one (show Kd.M (Kd.int .i64) _ _ _ 1 [.int .i64 1] from rfl) (Reps.one (show Kd.M (Kd.int .i64) _ _ _ (y282.length : Int) [.int .i64 (y282.length : Int)] from rfl) (Reps.one (show Kd.M (Kd.int .i64) _ _ _ (-1) [.int .i64 (-1)] from rfl) (Reps.none _ _)))))))); intro v301 w32 ho33 hb hg_ hnew_; clear hg_ hnew_; (first | rw [← Ny300.out] at ho33 | (simp only [Int.reduceToNat] at ho33; rw [← Ny300.out] at ho33)); have n0_ := Aside0.mk (Kd.R_below (by (with_reducible repeat (first | apply Kd.R_alloc | apply Kd.R_drewN | apply Kd.R_drew)); exact HO270.out) hb); have n1_ := Aside0.mk (Kd.R_below (by (with_reducible repeat (first | apply Kd.R_alloc | apply Kd.R_drewN | apply Kd.R_drew)); exact HO279.out) hb); have n2_ := Aside0.mk (Kd.R_below (by (with_reducible repeat (first | apply Kd.R_alloc | apply Kd.R_drewN | apply Kd.R_drew)); exact HO284.out) hb); have n3_ := Aside0.mk (Kd.R_lower ho33 (below_size (by repeat (first | (with_reducible first | exact HB.out | apply below_alloc | apply pw_below_drewN | apply below_drew1 | refine below_set ?_ (IsS52.ge HI267.out)) | exact HB.out)))); have n4_ := Aside0.mk (IsS52.below (by repeat (first | (with_reducible first | exact HI267.out | apply IsS52.alloc | apply IsS52.drewN | apply IsS52.drew | apply IsS52.set_1 | apply IsS52.set_2) | exact HI267.out)) hb); have n5_ := Aside0.mk (below_step (by repeat (first | (with_reducible first | exact HB.out | apply below_alloc | apply pw_below_drewN | apply below_drew1 | refine below_set ?_ (IsS52.ge HI267.out)) | exact HB.out)) hb); clear HO270; clear HO279; clear HO284; clear HI267; clear HB; have HO270 := n0_; have HO279 := n1_; have HO284 := n2_; have HO302 := n3_; have HI267 := n4_; have HB := n5_; clear n0_ n1_ n2_ n3_ n4_ n5_; clear hb ho33; obtain ⟨Ao34, co34, eo34⟩ := Kd.R_slice HO302.out; subst eo34) | ((with_reducible refine gate_callee (f := 25) rfl ?_); refine goesL_ (some 29) rfl rfl Tryd.func25 (by kernel_rfl) rfl #[.pointer (some ⟨g267, 0, none⟩), .slice Ao34 y300.length co34] rfl (by (try simp only [List.map_toArray, List.map_cons, List.map_nil]); first | done | rfl | (simp only [List.length_drop, List.length_take]; rfl)) ?_; (with_reducible refine (spec_l1PickInt.calls g267 t264 t286 t287 _ _ y300 t303 t304 t305 w _ ?side1 ?side2 ?side3 ?side4 ?side5 A30.out).mono ?_); (case side1 => repeat (first | (with_reducible first | exact HI267.out | apply IsS52.alloc | apply IsS52.drewN | apply IsS52.drew | apply IsS52.set_1 | apply IsS52.set_2) | exact HI267.out)); (case side2 => repeat (first | (with_reducible first | exact HB.out | apply below_alloc | apply pw_below_drewN | apply below_drew1 | refine below_set ?_ (IsS52.ge HI267.out)) | exact HB.out)); (case side3 => repeat (first | exact (Kd.R_reads' HO302.out).2.2 | (with_reducible refine Kd.C_alloc ?_ _) | (with_reducible refine Kd.C_drewN ?_ _) | (with_reducible refine Kd.C_drew ?_))); (case side4 => exact (Kd.R_reads' HO302.out).2.1); (case side5 => exact far_slice (IsS52.own_ne HI267.out HO302.out (by decide))); rintro e w35 ⟨rfl, hi, hb, hk⟩; refine ⟨_, rfl, ?_⟩; have n0_ := Aside0.mk (Kd.R_mono (Kd.R_keep (IsS52.apart (show IsS52 w _ g267 t264 t286 t287 from by repeat (first | (with_reducible first | exact HI267.out | apply IsS52.alloc | apply IsS52.drewN | apply IsS52.drew | apply IsS52.set_1 | apply IsS52.set_2) | exact HI267.out)) (by (with_reducible repeat (first | apply Kd.R_alloc | apply Kd.R_drewN | apply Kd.R_drew)); exact HO270.out) (by decide)) hk (fun _ h => h.2)) (fun _ h => h.1)); have n1_ := Aside0.mk (Kd.R_mono (Kd.R_keep (IsS52.apart (show IsS52 w _ g267 t264 t286 t287 from by repeat (first | (with_reducible first | exact HI267.out | apply IsS52.alloc | apply IsS52.drewN | apply IsS52.drew | apply IsS52.set_1 | apply IsS52.set_2) | exact HI267.out)) (by (with_reducible repeat (first | apply Kd.R_alloc | apply Kd.R_drewN | apply Kd.R_drew)); exact HO279.out) (by decide)) hk (fun _ h => h.2)) (fun _ h => h.1)); have n2_ := Aside0.mk (Kd.R_mono (Kd.R_keep (IsS52.apart (show IsS52 w _ g267 t264 t286 t287 from by repeat (first | (with_reducible first | exact HI267.out | apply IsS52.alloc | apply IsS52.drewN | apply IsS52.drew | apply IsS52.set_1 | apply IsS52.set_2) | exact HI267.out)) (by (with_reducible repeat (first | apply Kd.R_alloc | apply Kd.R_drewN | apply Kd.R_drew)); exact HO284.out) (by decide)) hk (fun _ h => h.2)) (fun _ h => h.1)); have n3_ := Aside0.mk (Kd.R_mono (Kd.R_keep (IsS52.apart (show IsS52 w _ g267 t264 t286 t287 from by repeat (first | (with_reducible first | exact HI267.out | apply IsS52.alloc | apply IsS52.drewN | apply IsS52.drew | apply IsS52.set_1 | apply IsS52.set_2) | exact HI267.out)) (by (with_reducible repeat (first | apply Kd.R_alloc | apply Kd.R_drewN | apply Kd.R_drew)); exact HO302.out) (by decide)) hk (fun _ h => h.2)) (fun _ h => h.1)); have n4_ := Aside0.mk (hb); have n5_ := Aside0.mk (hi); clear HO270; clear HO279; clear HO284; clear HO302; clear HB; clear HI267; have HO270 := n0_; have HO279 := n1_; have HO284 := n2_; have HO302 := n3_; have HB := n4_; have HI267 := n5_; clear n0_ n1_ n2_ n3_ n4_ n5_; (try clear hb); (try clear hb2); (try clear hk); (try clear hi)))
      go_ret2
      exact ⟨_, by first | rfl | (simp [errW_none, errW_some] <;> rfl) | (simp [*, errW_none, errW_some] <;> rfl), by (with_reducible repeat (first | apply Kd.R_alloc | apply Kd.R_drewN | apply Kd.R_drew)); exact Kd.R_mono HO284.out (fun _ hk => trivial), by repeat (first | (with_reducible first | exact HB.out | apply below_alloc | apply pw_below_drewN | apply below_drew1 | refine below_set ?_ (IsS52.ge HI267.out)) | exact HB.out)⟩
  · rw [if_neg c6] at H
    exact absurd H (by simp)

/-! ### spec_GetText: function 22 -/
def spec_GetText.f (k : Nat) (l0 : List Int) (a1 : Int) : Option (ByteArray × Int × Bool) := (spec_GetNum.f k l0 a1).bind fun bt306 => (if bt306.2.2 = true then (if bt306.1 > (wrap64 ((l0.length : Int) - bt306.2.1)) then (some ((⟨#[]⟩ : ByteArray), 0, false)) else (if 0 ≤ bt306.2.1 then (if bt306.2.1 ≤ (wrap64 (bt306.2.1 + bt306.1)) then (if (wrap64 (bt306.2.1 + bt306.1)) ≤ (l0.length : Int) then (some (strOfNums ((l0.take ((wrap64 (bt306.2.1 + bt306.1)) : Int).toNat).drop (bt306.2.1 : Int).toNat), wrap64 (bt306.2.1 + bt306.1), true)) else (none)) else (none)) else (none))) else (some ((⟨#[]⟩ : ByteArray), 0, false)))
theorem spec_GetText.mono : ∀ a0 a1 k, LeO (spec_GetText.f k a0 a1) (spec_GetText.f (k + 1) a0 a1) := by
  intro a0 a1 k
  unfold spec_GetText.f
  repeat' first
      | (with_reducible exact spec_GetNum.mono _ _ _)
      | (with_reducible exact LeO.refl _)
      | (with_reducible exact LeO.none _)
      | (with_reducible refine LeO.ite ?_ ?_)
      | (with_reducible refine LeO.bind ?_ (fun _ => ?_))
      | exact spec_GetNum.mono _ _ _
      | exact LeO.none _
      | refine LeO.ite ?_ ?_
      | refine LeO.bind ?_ (fun _ => ?_)
set_option maxHeartbeats 8000000 in
set_option maxRecDepth 100000 in
theorem spec_GetText.calls (k : Nat) (A0 : Option Addr) (c0 : Nat) (l0 : List Int) (a1 : Int) (r1 : ByteArray) (r2 : Int) (r3 : Bool) (w : World) (hr0 : Kd.C (Kd.int .u8) w A0 l0.length l0) (hc0 : l0.length ≤ c0) (h : spec_GetText.f k l0 a1 = some (r1, r2, r3)) :
    Calls Tryd.prog 22 #[.slice A0 l0.length c0, .int .i64 a1] w fun e w' => e = .returned (.tuple #[.string r1, .int .i64 r2, .bool r3]) ∧ Drawn0 w w' := by
  have HR0 := Aside0.mk hr0
  have HC0 := Aside0.mk hc0
  clear hr0 hc0
  have H : ((spec_GetNum.f k l0 a1).bind fun bt306 => (if bt306.2.2 = true then (if bt306.1 > (wrap64 ((l0.length : Int) - bt306.2.1)) then (some ((⟨#[]⟩ : ByteArray), 0, false)) else (if 0 ≤ bt306.2.1 then (if bt306.2.1 ≤ (wrap64 (bt306.2.1 + bt306.1)) then (if (wrap64 (bt306.2.1 + bt306.1)) ≤ (l0.length : Int) then (some (strOfNums ((l0.take ((wrap64 (bt306.2.1 + bt306.1)) : Int).toNat).drop (bt306.2.1 : Int).toNat), wrap64 (bt306.2.1 + bt306.1), true)) else (none)) else (none)) else (none))) else (some ((⟨#[]⟩ : ByteArray), 0, false)))) = some (r1, r2, r3) := h
  clear h
  replace H := Option.bind_eq_some_iff.mp H
  obtain ⟨⟨t306, t307, t308⟩, A30, H⟩ := H
  replace H : (if t308 = true then (if t306 > (wrap64 ((l0.length : Int) - t307)) then (some ((⟨#[]⟩ : ByteArray), 0, false)) else (if 0 ≤ t307 then (if t307 ≤ (wrap64 (t307 + t306)) then (if (wrap64 (t307 + t306)) ≤ (l0.length : Int) then (some (strOfNums ((l0.take ((wrap64 (t307 + t306)) : Int).toNat).drop (t307 : Int).toNat), wrap64 (t307 + t306), true)) else (none)) else (none)) else (none))) else (some ((⟨#[]⟩ : ByteArray), 0, false))) = some (r1, r2, r3) := H
  have A3 := Aside0.mk A30
  clear A30
  by_cases c4 : t308 = true
  · subst c4
    have H1 : (if t306 > (wrap64 ((l0.length : Int) - t307)) then (some ((⟨#[]⟩ : ByteArray), 0, false)) else (if 0 ≤ t307 then (if t307 ≤ (wrap64 (t307 + t306)) then (if (wrap64 (t307 + t306)) ≤ (l0.length : Int) then (some (strOfNums ((l0.take ((wrap64 (t307 + t306)) : Int).toNat).drop (t307 : Int).toNat), wrap64 (t307 + t306), true)) else (none)) else (none)) else (none))) = some (r1, r2, r3) := by rw [if_pos rfl] at H; exact H
    clear H
    have H := H1
    clear H1
    have HF := Aside0.mk H
    clear H
    go_enter Tryd.func22, Tryd.ntmps22
    go_upto_if 26 with (go_big_may; first | ((with_reducible refine gate_callee (f := 20) rfl ?_); refine goesL_ (some 13) rfl rfl Tryd.func20 (by kernel_rfl) rfl #[.slice A0 l0.length c0, .int .i64 a1] rfl (by (try simp only [List.map_toArray, List.map_cons, List.map_nil]); first | done | rfl | (simp only [List.length_drop, List.length_take]; rfl)) ?_; (with_reducible refine (spec_GetNum.calls k _ _ l0 a1 t306 t307 true _ ?side1 ?side2 A3.out).mono ?_); (case side1 => repeat (first | exact HR0.out | (with_reducible refine Kd.C_alloc ?_ _) | (with_reducible refine Kd.C_drewN ?_ _) | (with_reducible refine Kd.C_drew ?_))); (case side2 => exact HC0.out); rintro e w' ⟨rfl, ⟨nd, rfl⟩⟩; refine ⟨_, rfl, ?_⟩))
    have H := HF.out
    clear HF
    by_cases c5 : t306 > (wrap64 ((l0.length : Int) - t307))
    · rw [if_pos c5] at H
      have c5b0 : decide ((wrap64 ((l0.length : Int) - t307)) < t306) = true := decide_eq_true c5
      clear c5
      (first | rw [c5b0] | (simp only [i64_w, i32_w]; rw [c5b0]) | skip)
      simp only [Option.some.injEq, Prod.mk.injEq] at H
      obtain ⟨rfl, rfl, rfl⟩ := H
      go_wp2
      go_ret3
      exact ⟨by first | rfl | (simp; done) | (simp [*]; done), by repeat (first | exact Drawn0.refl _ | apply Drawn0.step)⟩
    · rw [if_neg c5] at H
      have c5b0 : decide ((wrap64 ((l0.length : Int) - t307)) < t306) = false := decide_eq_false c5
      clear c5
      (first | rw [c5b0] | (simp only [i64_w, i32_w]; rw [c5b0]) | skip)
      by_cases c6 : 0 ≤ t307
      · rw [if_pos c6] at H
        have c6b0 := eq_true c6
        have c6b1 : decide (0 ≤ t307) = true := decide_eq_true c6
        clear c6
        by_cases c7 : t307 ≤ (wrap64 (t307 + t306))
        · rw [if_pos c7] at H
          have c7b0 := eq_true c7
          have c7b1 : decide (t307 ≤ (wrap64 (t307 + t306))) = true := decide_eq_true c7
          by_cases c8 : (wrap64 (t307 + t306)) ≤ (l0.length : Int)
          · rw [if_pos c8] at H
            have c8b0 := eq_true c8
            have c8b1 : decide ((wrap64 (t307 + t306)) ≤ (l0.length : Int)) = true := decide_eq_true c8
            simp only [Option.some.injEq, Prod.mk.injEq] at H
            obtain ⟨rfl, rfl, rfl⟩ := H
            obtain ⟨i09, hi09, _, hsz9, _⟩ := info_parts info5
            obtain ⟨A9, hcut9, hA9, hC9⟩ := print_mid_of (P := Tryd.prog) (Value.int .u8) 0 22 5 .i64 .i64 Tryd.underlying22 hi09 hsz9 A0 c0 l0 t307 (wrap64 (t307 + t306)) (of_decide_eq_true (by first | (with_reducible assumption) | assumption)) (by first | omega | exact of_decide_eq_true (by first | (with_reducible assumption) | assumption)) (of_decide_eq_true (by first | (with_reducible assumption) | assumption)) HC0.out
            have HR309 := Aside0.mk (Kd.C_of_reads (h1 := fun _ => rfl) (hA9 _ (Kd.reads_of_C HR0.out)))
            have HC309 := Aside0.mk hC9
            clear hA9 hC9 hi09 hsz9
            have hcv10 := Kd.C_string (P := Tryd.prog) (A := A9) (c := (c0 - t307.toNat)) Tryd.underlying22 Tryd.underlying5 Tryd.underlying9 HR309.out
            (try have hcx10 := fun n_ : Nat => Kd.C_string (P := Tryd.prog) (A := A9) (c := (c0 - t307.toNat)) Tryd.underlying22 Tryd.underlying5 Tryd.underlying9 (Kd.C_drewN (HR309.out) n_))
            (try have hcvw10 := hcv10)
            (try simp only [List.length_drop, List.length_take, Nat.min_eq_left (a := ((wrap64 (t307 + t306)) : Int).toNat) (b := l0.length) (by omega)] at hcvw10)
            (try have hcxw10 := hcx10)
            (try simp only [List.length_drop, List.length_take, Nat.min_eq_left (a := ((wrap64 (t307 + t306)) : Int).toNat) (b := l0.length) (by omega)] at hcxw10)
            go_wp2
            go_ret3
            exact ⟨by first | rfl | (simp; done) | (simp [*]; done), by repeat (first | exact Drawn0.refl _ | apply Drawn0.step)⟩
          · rw [if_neg c8] at H
            exact absurd H (by simp)
        · rw [if_neg c7] at H
          exact absurd H (by simp)
      · rw [if_neg c6] at H
        exact absurd H (by simp)
  · replace c4 := Bool.eq_false_iff.mpr c4
    subst c4
    have H1 : (some ((⟨#[]⟩ : ByteArray), 0, false)) = some (r1, r2, r3) := by rw [if_neg (show ¬ (false = true) by decide)] at H; exact H
    clear H
    have H := H1
    clear H1
    simp only [Option.some.injEq, Prod.mk.injEq] at H
    obtain ⟨rfl, rfl, rfl⟩ := H
    go_enter Tryd.func22, Tryd.ntmps22
    go_wp2_with (first | ((with_reducible refine gate_callee (f := 20) rfl ?_); refine goesL_ (some 13) rfl rfl Tryd.func20 (by kernel_rfl) rfl #[.slice A0 l0.length c0, .int .i64 a1] rfl (by (try simp only [List.map_toArray, List.map_cons, List.map_nil]); first | done | rfl | (simp only [List.length_drop, List.length_take]; rfl)) ?_; (with_reducible refine (spec_GetNum.calls k _ _ l0 a1 t306 t307 false _ ?side1 ?side2 A3.out).mono ?_); (case side1 => repeat (first | exact HR0.out | (with_reducible refine Kd.C_alloc ?_ _) | (with_reducible refine Kd.C_drewN ?_ _) | (with_reducible refine Kd.C_drew ?_))); (case side2 => exact HC0.out); rintro e w' ⟨rfl, ⟨nd, rfl⟩⟩; refine ⟨_, rfl, ?_⟩))
    go_ret3
    exact ⟨by first | rfl | (simp; done) | (simp [*]; done), by repeat (first | exact Drawn0.refl _ | apply Drawn0.step)⟩

/-! ### spec_DrawSplit: function 23 -/
def spec_DrawSplit.f (k : Nat) (l0 : List Int) : Option (ByteArray × Int) := (spec_l1New.f k l0).bind fun bt310 => ((spec_l1Pick.f bt310.1 bt310.2.1 bt310.2.2 (([(⟨#[]⟩ : ByteArray), (⟨#[97]⟩ : ByteArray), (⟨#[97, 44, 98]⟩ : ByteArray), (⟨#[44]⟩ : ByteArray), (⟨#[97, 44, 44, 98, 44]⟩ : ByteArray), (⟨#[97, 47, 98, 44, 99, 47]⟩ : ByteArray)] : List ByteArray))).bind fun bt317 => ((spec_l1PickInt.f bt310.1 bt317.2.1 bt317.2.2 (([44, 47] : List Int))).bind fun bt323 => (some (bt317.1, (bt323.1) % 256))))
theorem spec_DrawSplit.mono : ∀ a0 k, LeO (spec_DrawSplit.f k a0) (spec_DrawSplit.f (k + 1) a0) := by
  intro a0 k
  unfold spec_DrawSplit.f
  repeat' first
      | (with_reducible exact spec_l1New.mono _ _)
      | (with_reducible exact LeO.refl _)
      | (with_reducible exact LeO.none _)
      | (with_reducible refine LeO.ite ?_ ?_)
      | (with_reducible refine LeO.bind ?_ (fun _ => ?_))
      | exact spec_l1New.mono _ _
      | exact LeO.none _
      | refine LeO.ite ?_ ?_
      | refine LeO.bind ?_ (fun _ => ?_)
set_option maxHeartbeats 8000000 in
set_option maxRecDepth 100000 in
theorem spec_DrawSplit.calls (k : Nat) (A0 : Option Addr) (c0 : Nat) (l0 : List Int) (r1 : ByteArray) (r2 : Int) (w : World) (hr0 : Kd.C (Kd.int .u8) w A0 l0.length l0) (hc0 : l0.length ≤ c0) (h : spec_DrawSplit.f k l0 = some (r1, r2)) :
    Calls Tryd.prog 23 #[.slice A0 l0.length c0] w fun e w' => e = .returned (.tuple #[.string r1, .int .u8 r2]) ∧ Below w.heap.size w w' := by
  have HR0 := Aside0.mk hr0
  have HC0 := Aside0.mk hc0
  clear hr0 hc0
  have HB := Aside0.mk (Below.refl w.heap.size w)
  have H : ((spec_l1New.f k l0).bind fun bt310 => ((spec_l1Pick.f bt310.1 bt310.2.1 bt310.2.2 (([(⟨#[]⟩ : ByteArray), (⟨#[97]⟩ : ByteArray), (⟨#[97, 44, 98]⟩ : ByteArray), (⟨#[44]⟩ : ByteArray), (⟨#[97, 44, 44, 98, 44]⟩ : ByteArray), (⟨#[97, 47, 98, 44, 99, 47]⟩ : ByteArray)] : List ByteArray))).bind fun bt317 => ((spec_l1PickInt.f bt310.1 bt317.2.1 bt317.2.2 (([44, 47] : List Int))).bind fun bt323 => (some (bt317.1, (bt323.1) % 256))))) = some (r1, r2) := h
  clear h
  replace H := Option.bind_eq_some_iff.mp H
  obtain ⟨⟨t310, t311, t312⟩, A20, H⟩ := H
  replace H : ((spec_l1Pick.f t310 t311 t312 (([(⟨#[]⟩ : ByteArray), (⟨#[97]⟩ : ByteArray), (⟨#[97, 44, 98]⟩ : ByteArray), (⟨#[44]⟩ : ByteArray), (⟨#[97, 44, 44, 98, 44]⟩ : ByteArray), (⟨#[97, 47, 98, 44, 99, 47]⟩ : ByteArray)] : List ByteArray))).bind fun bt317 => ((spec_l1PickInt.f t310 bt317.2.1 bt317.2.2 (([44, 47] : List Int))).bind fun bt323 => (some (bt317.1, (bt323.1) % 256)))) = some (r1, r2) := H
  have A2 := Aside0.mk A20
  clear A20
  obtain ⟨y314, hy314⟩ : ∃ y_ : List ByteArray, y_ = (([(⟨#[]⟩ : ByteArray), (⟨#[97]⟩ : ByteArray), (⟨#[97, 44, 98]⟩ : ByteArray), (⟨#[44]⟩ : ByteArray), (⟨#[97, 44, 44, 98, 44]⟩ : ByteArray), (⟨#[97, 47, 98, 44, 99, 47]⟩ : ByteArray)] : List ByteArray)) := ⟨_, rfl⟩
  replace H : ((spec_l1Pick.f t310 t311 t312 y314).bind fun bt317 => ((spec_l1PickInt.f t310 bt317.2.1 bt317.2.2 (([44, 47] : List Int))).bind fun bt323 => (some (bt317.1, (bt323.1) % 256)))) = some (r1, r2) := by first | (rw [hy314]; with_reducible exact H) | (have H2_ := (Option.bind_some _ _).symm.trans H; rw [hy314]; with_reducible exact H2_) | (have H2_ := (Option.bind_some _ _).symm.trans H; with_reducible exact H2_) | with_reducible exact H | (rw [hy314]; exact H) | exact H
  have Ny314 := Aside0.mk hy314
  clear hy314
  replace H := Option.bind_eq_some_iff.mp H
  obtain ⟨⟨t317, t318, t319⟩, A30, H⟩ := H
  replace H : ((spec_l1PickInt.f t310 t318 t319 (([44, 47] : List Int))).bind fun bt323 => (some (t317, (bt323.1) % 256))) = some (r1, r2) := H
  have A3 := Aside0.mk A30
  clear A30
  obtain ⟨y320, hy320⟩ : ∃ y_ : List Int, y_ = (([44, 47] : List Int)) := ⟨_, rfl⟩
  replace H : ((spec_l1PickInt.f t310 t318 t319 y320).bind fun bt323 => (some (t317, (bt323.1) % 256))) = some (r1, r2) := by first | (rw [hy320]; with_reducible exact H) | (have H2_ := (Option.bind_some _ _).symm.trans H; rw [hy320]; with_reducible exact H2_) | (have H2_ := (Option.bind_some _ _).symm.trans H; with_reducible exact H2_) | with_reducible exact H | (rw [hy320]; exact H) | exact H
  have Ny320 := Aside0.mk hy320
  clear hy320
  replace H := Option.bind_eq_some_iff.mp H
  obtain ⟨⟨t323, t324, t325⟩, A40, H⟩ := H
  replace H : (some (t317, (t323) % 256)) = some (r1, r2) := H
  have A4 := Aside0.mk A40
  clear A40
  simp only [Option.some.injEq, Prod.mk.injEq] at H
  obtain ⟨rfl, rfl⟩ := H
  go_enter Tryd.func23, Tryd.ntmps23
  go_wp2_with (first | ((with_reducible refine gate_callee (f := 26) rfl ?_); refine goesL_ (some 7) rfl rfl Tryd.func26 (by kernel_rfl) rfl #[.slice A0 l0.length c0] rfl (by (try simp only [List.map_toArray, List.map_cons, List.map_nil]); first | done | rfl | (simp only [List.length_drop, List.length_take]; rfl)) ?_; (with_reducible refine (spec_l1New.calls k _ _ l0 t310 t311 t312 w _ ?side1 ?side2 ?side3 A2.out).mono ?_); (case side1 => repeat (first | (with_reducible first | exact HB.out | apply below_alloc | apply pw_below_drewN | apply below_drew1) | exact HB.out)); (case side2 => exact HR0.out); (case side3 => exact HC0.out); rintro e w5 ⟨g313, rfl, hi, hb, hb2⟩; refine ⟨_, rfl, ?_⟩; have n0_ := Aside0.mk (hb); have n1_ := Aside0.mk (hi); clear HB; have HB := n0_; have HI313 := n1_; clear n0_ n1_; (try clear hb); (try clear hb2); (try clear hk); (try clear hi)) | ((with_reducible refine gate_dst (N := 9) rfl ?_); refine Kd.R_lit Kd.string _ 9 ?hg (N := 9) ?hd (xs := ([(⟨#[]⟩ : ByteArray), (⟨#[97]⟩ : ByteArray), (⟨#[97, 44, 98]⟩ : ByteArray), (⟨#[44]⟩ : ByteArray), (⟨#[97, 44, 44, 98, 44]⟩ : ByteArray), (⟨#[97, 47, 98, 44, 99, 47]⟩ : ByteArray)] : List ByteArray)) (inner := [.string (⟨#[]⟩ : ByteArray), .string (⟨#[97]⟩ : ByteArray), .string (⟨#[97, 44, 98]⟩ : ByteArray), .string (⟨#[44]⟩ : ByteArray), .string (⟨#[97, 44, 44, 98, 44]⟩ : ByteArray), .string (⟨#[97, 47, 98, 44, 99, 47]⟩ : ByteArray)]) (ok := fun _ => True) (okp := fun _ => True) ?hr ?hp (fun _ hk => hk) trivial (Below.refl _ _) (Nat.le_refl _) (by simp) ?_; (case hd => rfl); (case hg => rfl); (case hr => first | (go_simp; done) | (go_simp; rfl)); (case hp => exact (Reps.one (show Kd.M Kd.string _ _ _ (⟨#[]⟩ : ByteArray) [.string (⟨#[]⟩ : ByteArray)] from rfl) (Reps.one (show Kd.M Kd.string _ _ _ (⟨#[97]⟩ : ByteArray) [.string (⟨#[97]⟩ : ByteArray)] from rfl) (Reps.one (show Kd.M Kd.string _ _ _ (⟨#[97, 44, 98]⟩ : ByteArray) [.string (⟨#[97, 44, 98]⟩ : ByteArray)] from rfl) (Reps.one (show Kd.M Kd.string _ _ _ (⟨#[44]⟩ : ByteArray) [.string (⟨#[44]⟩ : ByteArray)] from rfl) (Reps.one (show Kd.M Kd.string _ _ _ (⟨#[97, 44, 44, 98, 44]⟩ : ByteArray) [.string (⟨#[97, 44, 44, 98, 44]⟩ : ByteArray)] from rfl) (Reps.one (show Kd.M Kd.string _ _ _ (⟨#[97, 47, 98, 44, 99, 47]⟩ : ByteArray) [.string (⟨#[97, 47, 98, 44, 99, 47]⟩ : ByteArray)] from rfl) (Reps.none _ _)))))))); intro v315 w6 ho7 hb hg_ hnew_; clear hg_ hnew_; (first | rw [← Ny314.out] at ho7 | (simp only [Int.reduceToNat] at ho7; rw [← Ny314.out] at ho7)); have n0_ := Aside0.mk (Kd.R_lower ho7 (below_size (by repeat (first | (with_reducible first | exact HB.out | apply below_alloc | apply pw_below_drewN | apply below_drew1 | refine below_set ?_ (IsS52.ge HI313.out)) | exact HB.out)))); have n1_ := Aside0.mk (IsS52.below (by repeat (first | (with_reducible first | exact HI313.out | apply IsS52.alloc | apply IsS52.drewN | apply IsS52.drew | apply IsS52.set_1 | apply IsS52.set_2) | exact HI313.out)) hb); have n2_ := Aside0.mk (below_step (by repeat (first | (with_reducible first | exact HB.out | apply below_alloc | apply pw_below_drewN | apply below_drew1 | refine below_set ?_ (IsS52.ge HI313.out)) | exact HB.out)) hb); clear HI313; clear HB; have HO316 := n0_; have HI313 := n1_; have HB := n2_; clear n0_ n1_ n2_; clear hb ho7; obtain ⟨Ao8, co8, eo8⟩ := Kd.R_slice HO316.out; subst eo8) | ((with_reducible refine gate_callee (f := 28) rfl ?_); refine goesL_ (some 10) rfl rfl Tryd.func28 (by kernel_rfl) rfl #[.pointer (some ⟨g313, 0, none⟩), .slice Ao8 y314.length co8] rfl (by (try simp only [List.map_toArray, List.map_cons, List.map_nil]); first | done | rfl | (simp only [List.length_drop, List.length_take]; rfl)) ?_; (with_reducible refine (spec_l1Pick.calls g313 t310 t311 t312 _ _ y314 t317 t318 t319 w _ ?side1 ?side2 ?side3 ?side4 ?side5 A3.out).mono ?_); (case side1 => repeat (first | (with_reducible first | exact HI313.out | apply IsS52.alloc | apply IsS52.drewN | apply IsS52.drew | apply IsS52.set_1 | apply IsS52.set_2) | exact HI313.out)); (case side2 => repeat (first | (with_reducible first | exact HB.out | apply below_alloc | apply pw_below_drewN | apply below_drew1 | refine below_set ?_ (IsS52.ge HI313.out)) | exact HB.out)); (case side3 => repeat (first | exact (Kd.R_reads' HO316.out).2.2 | (with_reducible refine Kd.C_alloc ?_ _) | (with_reducible refine Kd.C_drewN ?_ _) | (with_reducible refine Kd.C_drew ?_))); (case side4 => exact (Kd.R_reads' HO316.out).2.1); (case side5 => exact far_slice (IsS52.own_ne HI313.out HO316.out (by decide))); rintro e w9 ⟨rfl, hi, hb, hk⟩; refine ⟨_, rfl, ?_⟩; have n0_ := Aside0.mk (Kd.R_mono (Kd.R_keep (IsS52.apart (show IsS52 w _ g313 t310 t311 t312 from by repeat (first | (with_reducible first | exact HI313.out | apply IsS52.alloc | apply IsS52.drewN | apply IsS52.drew | apply IsS52.set_1 | apply IsS52.set_2) | exact HI313.out)) (by (with_reducible repeat (first | apply Kd.R_alloc | apply Kd.R_drewN | apply Kd.R_drew)); exact HO316.out) (by decide)) hk (fun _ h => h.2)) (fun _ h => h.1)); have n1_ := Aside0.mk (hb); have n2_ := Aside0.mk (hi); clear HO316; clear HB; clear HI313; have HO316 := n0_; have HB := n1_; have HI313 := n2_; clear n0_ n1_ n2_; (try clear hb); (try clear hb2); (try clear hk); (try clear hi)) | ((with_reducible refine gate_dst (N := 13) rfl ?_); refine Kd.R_lit (Kd.int .i64) _ 3 ?hg (N := 13) ?hd (xs := ([44, 47] : List Int)) (inner := [.int .i64 44, .int .i64 47]) (ok := fun _ => True) (okp := fun _ => True) ?hr ?hp (fun _ hk => hk) trivial (Below.refl _ _) (Nat.le_refl _) (by simp) ?_; (case hd => rfl); (case hg => rfl); (case hr => first | (go_simp; done) | (go_simp; rfl)); (case hp => exact (Reps.one (show Kd.M (Kd.int .i64) _ _ _ 44 [.int .i64 44] from rfl) (Reps.one (show Kd.M (Kd.int .i64) _ _ _ 47 [.int .i64 47] from rfl) (Reps.none _ _)))); intro v321 w10 ho11 hb hg_ hnew_; clear hg_ hnew_; (first | rw [← Ny320.out] at ho11 | (simp only [Int.reduceToNat] at ho11; rw [← Ny320.out] at ho11)); have n0_ := Aside0.mk (Kd.R_below (by (with_reducible repeat (first | apply Kd.R_alloc | apply Kd.R_drewN | apply Kd.R_drew)); exact HO316.out) hb); have n1_ := Aside0.mk (Kd.R_lower ho11 (below_size (by repeat (first | (with_reducible first | exact HB.out | apply below_alloc | apply pw_below_drewN | apply below_drew1 | refine below_set ?_ (IsS52.ge HI313.out)) | exact HB.out)))); have n2_ := Aside0.mk (IsS52.below (by repeat (first | (with_reducible first | exact HI313.out | apply IsS52.alloc | apply IsS52.drewN | apply IsS52.drew | apply IsS52.set_1 | apply IsS52.set_2) | exact HI313.out)) hb); have n3_ := Aside0.mk (below_step (by repeat (first | (with_reducible first | exact HB.out | apply below_alloc | apply pw_below_drewN | apply below_drew1 | refine below_set ?_ (IsS52.ge HI313.out)) | exact HB.out)) hb); clear HO316; clear HI313; clear HB; have HO316 := n0_; have HO322 := n1_; have HI313 := n2_; have HB := n3_; clear n0_ n1_ n2_ n3_; clear hb ho11; obtain ⟨Ao12, co12, eo12⟩ := Kd.R_slice HO322.out; subst eo12) | ((with_reducible refine gate_callee (f := 25) rfl ?_); refine goesL_ (some 14) rfl rfl Tryd.func25 (by kernel_rfl) rfl #[.pointer (some ⟨g313, 0, none⟩), .slice Ao12 y320.length co12] rfl (by (try simp only [List.map_toArray, List.map_cons, List.map_nil]); first | done | rfl | (simp only [List.length_drop, List.length_take]; rfl)) ?_; (with_reducible refine (spec_l1PickInt.calls g313 t310 t318 t319 _ _ y320 t323 t324 t325 w _ ?side1 ?side2 ?side3 ?side4 ?side5 A4.out).mono ?_); (case side1 => repeat (first | (with_reducible first | exact HI313.out | apply IsS52.alloc | apply IsS52.drewN | apply IsS52.drew | apply IsS52.set_1 | apply IsS52.set_2) | exact HI313.out)); (case side2 => repeat (first | (with_reducible first | exact HB.out | apply below_alloc | apply pw_below_drewN | apply below_drew1 | refine below_set ?_ (IsS52.ge HI313.out)) | exact HB.out)); (case side3 => repeat (first | exact (Kd.R_reads' HO322.out).2.2 | (with_reducible refine Kd.C_alloc ?_ _) | (with_reducible refine Kd.C_drewN ?_ _) | (with_reducible refine Kd.C_drew ?_))); (case side4 => exact (Kd.R_reads' HO322.out).2.1); (case side5 => exact far_slice (IsS52.own_ne HI313.out HO322.out (by decide))); rintro e w13 ⟨rfl, hi, hb, hk⟩; refine ⟨_, rfl, ?_⟩; have n0_ := Aside0.mk (Kd.R_mono (Kd.R_keep (IsS52.apart (show IsS52 w _ g313 t310 t318 t319 from by repeat (first | (with_reducible first | exact HI313.out | apply IsS52.alloc | apply IsS52.drewN | apply IsS52.drew | apply IsS52.set_1 | apply IsS52.set_2) | exact HI313.out)) (by (with_reducible repeat (first | apply Kd.R_alloc | apply Kd.R_drewN | apply Kd.R_drew)); exact HO316.out) (by decide)) hk (fun _ h => h.2)) (fun _ h => h.1)); have n1_ := Aside0.mk (Kd.R_mono (Kd.R_keep (IsS52.apart (show IsS52 w _ g313 t310 t318 t319 from by repeat (first | (with_reducible first | exact HI313.out | apply IsS52.alloc | apply IsS52.drewN | apply IsS52.drew | apply IsS52.set_1 | apply IsS52.set_2) | exact HI313.out)) (by (with_reducible repeat (first | apply Kd.R_alloc | apply Kd.R_drewN | apply Kd.R_drew)); exact HO322.out) (by decide)) hk (fun _ h => h.2)) (fun _ h => h.1)); have n2_ := Aside0.mk (hb); have n3_ := Aside0.mk (hi); clear HO316; clear HO322; clear HB; clear HI313; have HO316 := n0_; have HO322 := n1_; have HB := n2_; have HI313 := n3_; clear n0_ n1_ n2_ n3_; (try clear hb); (try clear hb2); (try clear hk); (try clear hi)))
  go_ret2
  exact ⟨by first | rfl | (simp [errW_none, errW_some] <;> rfl) | (simp [*, errW_none, errW_some] <;> rfl), by repeat (first | (with_reducible first | exact HB.out | apply below_alloc | apply pw_below_drewN | apply below_drew1 | refine below_set ?_ (IsS52.ge HI313.out)) | exact HB.out)⟩

/-! ### strings_Split: function 34 -/
theorem row_new {α : Type} {enc : α → Value} {h1 : ∀ x, (enc x).oneCell' = true} (w : World) (e n : Nat) (xs : List α) (hn : xs.length = n) (hm : n ≤ maxLen) :
    Kd.R (Kd.scalar enc h1) e (w.alloc (.cells (xs.map enc).toArray e (0, 0))) w.heap.size (fun _ => True) (.slice (some ⟨w.heap.size, 0, none⟩) n n) xs := by
  subst hn
  refine Kd.R_of_own (ok := fun _ => True) ⟨by simp [encs], .inr ⟨_, xs.length, (xs.map enc).toArray, rfl, Nat.le_refl _, blk_new _ _, Nat.le_refl _, hm, by simp, by simp [encs]; exact List.take_of_length_le (by simp)⟩⟩ (fun _ _ => trivial)
def strings_Split.f (a0 : ByteArray) (a1 : ByteArray) : Option (List ByteArray) := if a0.size < 4294967281 ∧ 1 ≤ a1.size then some (Lib.splitB a1 0 (Lib.countB a0 a1) a0) else none
theorem strings_Split.calls (a0 : ByteArray) (a1 : ByteArray) (r : List ByteArray) (w : World) (hL : LaidW w) (h : strings_Split.f a0 a1 = some r) :
    Calls Tryd.prog 34 #[.string a0, .string a1] w fun e w' => ∃ v0_ : Value, e = .returned (v0_) ∧ Kd.R Kd.string 9 w' w.heap.size (fun _ => True) v0_ r ∧ Below w.heap.size w w' := by
  unfold strings_Split.f at h
  by_cases hb : a0.size < 4294967281 ∧ 1 ≤ a1.size
  · rw [if_pos hb] at h
    obtain rfl := Option.some.inj h
    obtain ⟨m, hm⟩ := hL.2
    refine (Tryd.strings_Split a0 a1 m w hb.1 hm hb.2).mono ?_
    rintro e w' ⟨rfl, rfl⟩
    have hlen := Lib.splitB_all a1 hb.2 0 _ a0 rfl
    have hle := Lib.countB_le a1 hb.2 a0.size a0 (Nat.le_refl _)
    exact ⟨_, rfl, row_new (enc := Value.string) (h1 := fun _ => rfl) w 9 _ _ hlen (by unfold maxLen; omega), below_alloc (Below.refl _ _) _⟩
  · rw [if_neg hb] at h
    cases h

/-! ### impl_Split: function 24 -/
def impl_Split.f (a0 : ByteArray) (a1 : Int) : Option (List ByteArray) := (strings_Split.f a0 (strOfNums (([a1] : List Int)))).bind fun t329 => (some t329)
set_option maxHeartbeats 8000000 in
set_option maxRecDepth 100000 in
theorem impl_Split.calls (a0 : ByteArray) (a1 : Int) (r : List ByteArray) (w : World) (hL : LaidW w) (h : impl_Split.f a0 a1 = some r) :
    Calls Tryd.prog 24 #[.string a0, .int .u8 a1] w fun e w' => ∃ v0_ : Value, e = .returned (v0_) ∧ Kd.R Kd.string 9 w' w.heap.size (fun _ => True) v0_ r ∧ Below w.heap.size w w' := by
  have HL0 := Aside0.mk hL
  clear hL
  have HB := Aside0.mk (Below.refl w.heap.size w)
  have H : ((strings_Split.f a0 (strOfNums (([a1] : List Int)))).bind fun t329 => (some t329)) = some r := h
  clear h
  obtain ⟨y326, hy326⟩ : ∃ y_ : List Int, y_ = (([a1] : List Int)) := ⟨_, rfl⟩
  replace H : ((strings_Split.f a0 (strOfNums y326)).bind fun t329 => (some t329)) = some r := by first | (rw [hy326]; with_reducible exact H) | (have H2_ := (Option.bind_some _ _).symm.trans H; rw [hy326]; with_reducible exact H2_) | (have H2_ := (Option.bind_some _ _).symm.trans H; with_reducible exact H2_) | with_reducible exact H | (rw [hy326]; exact H) | exact H
  have Ny326 := Aside0.mk hy326
  clear hy326
  replace H := Option.bind_eq_some_iff.mp H
  obtain ⟨t329, A30, H⟩ := H
  replace H : (some t329) = some r := H
  have A3 := Aside0.mk A30
  clear A30
  obtain rfl := Option.some.inj H
  go_enter Tryd.func24, Tryd.ntmps24
  go_wp2_with (first | ((with_reducible refine gate_dst (N := 7) rfl ?_); refine Kd.R_lit (Kd.int .u8) _ 5 ?hg (N := 7) ?hd (xs := ([a1] : List Int)) (inner := [.int .u8 a1]) (ok := fun _ => True) (okp := fun _ => True) ?hr ?hp (fun _ hk => hk) trivial (Below.refl _ _) (Nat.le_refl _) (by simp) ?_; (case hd => rfl); (case hg => rfl); (case hr => first | (go_simp; done) | (go_simp; rfl)); (case hp => exact (Reps.one (show Kd.M (Kd.int .u8) _ _ _ a1 [.int .u8 a1] from rfl) (Reps.none _ _))); intro v327 w4 ho5 hb hg_ hnew_; clear hg_ hnew_; (first | rw [← Ny326.out] at ho5 | (simp only [Int.reduceToNat] at ho5; rw [← Ny326.out] at ho5)); have n0_ := Aside0.mk (Kd.R_lower ho5 (below_size (by repeat (first | (with_reducible first | exact HB.out | apply below_alloc | apply pw_below_drewN | apply below_drew1) | exact HB.out)))); have n1_ := Aside0.mk (below_step (by repeat (first | (with_reducible first | exact HB.out | apply below_alloc | apply pw_below_drewN | apply below_drew1) | exact HB.out)) hb); clear HB; have HO328 := n0_; have HB := n1_; clear n0_ n1_; clear hb ho5; have hcv6 := own_string (P := Tryd.prog) Tryd.underlying22 Tryd.underlying5 Tryd.underlying9 (Kd.own_of_R HO328.out)) | ((with_reducible refine gate_callee (f := 34) rfl ?_); refine goesL_ (some 9) rfl rfl Tryd.func34 (by kernel_rfl) rfl #[.string a0, .string (strOfNums y326)] rfl (by (try simp only [List.map_toArray, List.map_cons, List.map_nil]); first | done | rfl | (simp only [List.length_drop, List.length_take]; rfl)) ?_; (with_reducible refine (strings_Split.calls a0 (strOfNums y326) t329 _ ?side1 A3.out).mono ?_); (case side1 => exact LaidW.below HL0.out (by repeat (first | (with_reducible first | exact HB.out | apply below_alloc | apply pw_below_drewN | apply below_drew1) | exact HB.out))); rintro e w7 ⟨v330, rfl, ho0, hb⟩; refine ⟨_, rfl, ?_⟩; have n0_ := Aside0.mk (Kd.R_below (by (with_reducible repeat (first | apply Kd.R_alloc | apply Kd.R_drewN | apply Kd.R_drew)); exact HO328.out) hb); have n1_ := Aside0.mk (Kd.R_lower ho0 (below_size (by repeat (first | (with_reducible first | exact HB.out | apply below_alloc | apply pw_below_drewN | apply below_drew1) | exact HB.out)))); have n2_ := Aside0.mk (below_step (by repeat (first | (with_reducible first | exact HB.out | apply below_alloc | apply pw_below_drewN | apply below_drew1) | exact HB.out)) hb); clear HO328; clear HB; have HO328 := n0_; have HO331 := n1_; have HB := n2_; clear n0_ n1_ n2_; (try clear hb); (try clear hb2); (try clear hk); (try clear hi); (try clear ho0)))
  go_ret
  exact ⟨_, by first | rfl | (simp [errW_none, errW_some] <;> rfl) | (simp [*, errW_none, errW_some] <;> rfl), by (with_reducible repeat (first | apply Kd.R_alloc | apply Kd.R_drewN | apply Kd.R_drew)); exact HO331.out, by repeat (first | (with_reducible first | exact HB.out | apply below_alloc | apply pw_below_drewN | apply below_drew1) | exact HB.out)⟩

end Go.Proofs.YtcnciodmhbejiaaDoor.PFnNumbers
