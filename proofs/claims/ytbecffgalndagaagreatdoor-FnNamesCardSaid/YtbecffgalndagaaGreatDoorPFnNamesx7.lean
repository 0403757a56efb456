/- Walks of the functions that a law of seat YtbecffgalndagaaGreatDoor reaches, each against a Lean function, printed by this session's wip/myprint.py; no condition of their own. -/
import Derived.Test.YtbecffgalndagaaGreatDoorPFnNamesx0
import Derived.Test.YtbecffgalndagaaGreatDoorPFnNamesx4
import Derived.Test.YtbecffgalndagaaGreatDoorPFnNamesx5
import Derived.Test.YtbecffgalndagaaGreatDoorPFnNamesx6
namespace Go.Proofs.YtbecffgalndagaaGreatDoor.PFnNames
open Go.RowKit Go.Proofs.YtbecffgalndagaaGreatDoorW.PrintWords Go.Proofs.YtbecffgalndagaaGreatDoorW.PrintLast Go.Proofs.YtbecffgalndagaaGreatDoorW.PrintMore
attribute [local go_sem] max2_int min2_int max_two min_two max_three min_three max_four min_four   -- for this text's walks alone
set_option maxHeartbeats 8000000
set_option maxRecDepth 100000
set_option linter.unusedVariables false
set_option linter.unusedSimpArgs false

/-! ### impl_Steps: function 6 -/
mutual
def impl_Steps.j0 : Nat → List ByteArray → Bool → Option ((List (S41)) × Bool)
 | 0, _, _ => none
 | k + 1, x4, x29 => if x29 = true then (some (([] : List (S41)), false)) else (if 1 ≤ (x4.length : Int) then ((some (x4.drop 1 : List ByteArray)).bind fun y341 => (impl_Steps.l0 k ([] : List (S41)) 0 y341 (y341.length : Int) 0)) else (none))
def impl_Steps.l0 : Nat → List (S41) → Int → List ByteArray → Int → Int → Option ((List (S41)) × Bool)
 | 0, _, _, _, _, _ => none
 | k + 1, x5, x6, x31, x32, x33 => if x33 < x32 then (if 0 ≤ x33 then (if x33 < (x31.length : Int) then ((strings_Cut.f (rdOf ByteArray.empty x31 x33) (⟨#[124]⟩ : ByteArray)).bind fun bt346 => ((impl_Number.f k bt346.1).bind fun bt349 => ((impl_TxsOf.f k bt346.2.1).bind fun bt351 => (if bt346.2.2 = true then (if bt349.2 = true then (if bt351.2 = true then ((impl_within.f bt349.1 (wrap64 (x6 + 1)) 60).bind fun t355 => (if t355 = true then (if (bt351.1.length : Int) > 2 then (some (([] : List (S41)), false)) else (if x5.length < 4398046511104 then (impl_Steps.l0 k (x5 ++ [(⟨bt349.1, bt351.1⟩ : S41)]) bt349.1 x31 x32 (wrap64 (x33 + 1))) else (none))) else (some (([] : List (S41)), false)))) else (some (([] : List (S41)), false))) else (some (([] : List (S41)), false))) else (some (([] : List (S41)), false)))))) else (none)) else (none)) else (some (x5, true))
end
def impl_Steps.f (k : Nat) (a0 : ByteArray) : Option ((List (S41)) × Bool) := if a0.toList = ([] : List UInt8) then (some (([] : List (S41)), true)) else ((impl_Split.f a0 47).bind fun t337 => (if 0 < (t337.length : Int) then (if (rdOf ByteArray.empty t337 0).toList = ([] : List UInt8) then (impl_Steps.j0 k t337 (decide ((wrap64 ((t337.length : Int) - 1)) > 30))) else (impl_Steps.j0 k t337 true)) else (none)))
theorem impl_Steps.mono_l : ∀ k, (∀ y0 y1, LeO (impl_Steps.j0 k y0 y1) (impl_Steps.j0 (k + 1) y0 y1)) ∧ (∀ y0 y1 y2 y3 y4, LeO (impl_Steps.l0 k y0 y1 y2 y3 y4) (impl_Steps.l0 (k + 1) y0 y1 y2 y3 y4))
 | 0 => ⟨fun _ _ r h => by simp [impl_Steps.j0] at h, fun _ _ _ _ _ r h => by simp [impl_Steps.l0] at h⟩
 | k + 1 => by
  obtain ⟨ih0, ih1⟩ := impl_Steps.mono_l k
  refine ⟨?_, ?_⟩
  ·intro y0 y1
   unfold impl_Steps.j0
   repeat' first
   | (with_reducible exact ih0 _ _)
   | (with_reducible exact ih1 _ _ _ _ _)
   | (with_reducible exact impl_Number.mono _ _)
   | (with_reducible exact impl_TxsOf.mono _ _)
   | (with_reducible exact LeO.refl _)
   | (with_reducible exact LeO.none _)
   | (with_reducible refine LeO.ite ?_ ?_)
   | (with_reducible refine LeO.bind ?_ (fun _ => ?_))
   | exact ih0 _ _
   | exact ih1 _ _ _ _ _
   | exact impl_Number.mono _ _
   | exact impl_TxsOf.mono _ _
   | exact LeO.none _
   | refine LeO.ite ?_ ?_
   | refine LeO.bind ?_ (fun _ => ?_)
  ·intro y0 y1 y2 y3 y4
   unfold impl_Steps.l0
   repeat' first
   | (with_reducible exact ih0 _ _)
   | (with_reducible exact ih1 _ _ _ _ _)
   | (with_reducible exact impl_Number.mono _ _)
   | (with_reducible exact impl_TxsOf.mono _ _)
   | (with_reducible exact LeO.refl _)
   | (with_reducible exact LeO.none _)
   | (with_reducible refine LeO.ite ?_ ?_)
   | (with_reducible refine LeO.bind ?_ (fun _ => ?_))
   | exact ih0 _ _
   | exact ih1 _ _ _ _ _
   | exact impl_Number.mono _ _
   | exact impl_TxsOf.mono _ _
   | exact LeO.none _
   | refine LeO.ite ?_ ?_
   | refine LeO.bind ?_ (fun _ => ?_)
theorem impl_Steps.mono : ∀ a0 k, LeO (impl_Steps.f k a0) (impl_Steps.f (k + 1) a0) := by
 intro a0 k
 obtain ⟨ih0, ih1⟩ := impl_Steps.mono_l k
 unfold impl_Steps.f
 repeat' first
   | (with_reducible exact ih0 _ _)
   | (with_reducible exact ih1 _ _ _ _ _)
   | (with_reducible exact impl_Number.mono _ _)
   | (with_reducible exact impl_TxsOf.mono _ _)
   | (with_reducible exact LeO.refl _)
   | (with_reducible exact LeO.none _)
   | (with_reducible refine LeO.ite ?_ ?_)
   | (with_reducible refine LeO.bind ?_ (fun _ => ?_))
   | exact ih0 _ _
   | exact ih1 _ _ _ _ _
   | exact impl_Number.mono _ _
   | exact impl_TxsOf.mono _ _
   | exact LeO.none _
   | refine LeO.ite ?_ ?_
   | refine LeO.bind ?_ (fun _ => ?_)
theorem impl_Steps.calls (k : Nat) (a0 : ByteArray) (r1 : List (S41)) (r2 : Bool) (w : World) (hL : LaidW w) (h : impl_Steps.f k a0 = some (r1, r2)) :
  Calls Tryz.prog 6 #[.string a0] w fun e w' => ∃ v0_ : Value, e = .returned (.tuple #[v0_, .bool r2]) ∧ Kd.S k41 41 w' w.heap.size (fun _ => True) v0_ r1 ∧ Below w.heap.size w w' := by
 have hu41 := Tryz.underlying41
 have HL0 := Aside0.mk hL
 clear hL
 have HB := Aside0.mk (Below.refl w.heap.size w)
 have H : (if a0.toList = ([] : List UInt8) then (some (([] : List (S41)), true)) else ((impl_Split.f a0 47).bind fun t337 => (if 0 < (t337.length : Int) then (if (rdOf ByteArray.empty t337 0).toList = ([] : List UInt8) then (impl_Steps.j0 k t337 (decide ((wrap64 ((t337.length : Int) - 1)) > 30))) else (impl_Steps.j0 k t337 true)) else (none)))) = some (r1, r2) := h
 clear h
 have HF := Aside0.mk H
 clear H
 go_enter Tryz.func6, Tryz.ntmps6
 go_upto_if 17 with (fail)
 have H := HF.out
 clear HF
 by_cases c2 : a0.toList = ([] : List UInt8)
 ·rw [if_pos c2] at H
  have c2b0 : (a0.toList == ([] : List UInt8)) = true := beq_iff_eq.mpr c2
  have c2b8 : (a0.toList).isEmpty = true := List.isEmpty_iff.2 c2
  have c2b1 : (a0.toList != ([] : List UInt8)) = false := bne_eq_false_iff_eq.mpr c2
  clear c2
  (first | rw [c2b8] | rw [c2b0] | (simp only [i64_w, i32_w]; rw [c2b0]) | skip)
  simp only [Option.some.injEq, Prod.mk.injEq] at H
  obtain ⟨rfl, rfl⟩ := H
  go_wp2
  go_ret2
  exact ⟨_, by first | rfl | (simp [*] <;> rfl), by first | exact Kd.S_nil _ _ _ _ _ | exact Kd.N_nil _ _ _ _ _ | exact Kd.V_nil _ _ _ _ _ | exact Kd.Q_nil _ _ _ _ _ | exact Kd.R_nil _ _ _ _ _, by repeat (first | exact HB.out | apply below_alloc | apply pw_below_drewN | apply below_drew1)⟩
 ·rw [if_neg c2] at H
  have c2b0 : (a0.toList == ([] : List UInt8)) = false := beq_eq_false_iff_ne.mpr c2
  have c2b8 : (a0.toList).isEmpty = false := Bool.eq_false_iff.2 (fun h_ => c2 (List.isEmpty_iff.1 h_))
  have c2b1 : (a0.toList != ([] : List UInt8)) = true := bne_iff_ne.mpr c2
  (first | rw [c2b8] | rw [c2b0] | (simp only [i64_w, i32_w]; rw [c2b0]) | skip)
  replace H := Option.bind_eq_some_iff.mp H
  obtain ⟨t337, A30, H⟩ := H
  replace H : (if 0 < (t337.length : Int) then (if (rdOf ByteArray.empty t337 0).toList = ([] : List UInt8) then (impl_Steps.j0 k t337 (decide ((wrap64 ((t337.length : Int) - 1)) > 30))) else (impl_Steps.j0 k t337 true)) else (none)) = some (r1, r2) := H
  have A3 := Aside0.mk A30
  clear A30
  have HC4 := Aside0.mk H
  clear H
  go_upto_region 4 with (first | ((with_reducible refine gate_callee (f := 30) rfl ?_); refine goesL_ (some 19) rfl rfl Tryz.func30 (by kernel_rfl) rfl #[.string a0, .int .u8 47] rfl (by (try simp only [List.map_toArray, List.map_cons, List.map_nil]); first | done | rfl) ?_; (with_reducible refine (impl_Split.calls a0 47 t337 _ ?side1 A3.out).mono ?_); (case side1 => exact LaidW.below HL0.out (by repeat (first | exact HB.out | apply below_alloc | apply pw_below_drewN | apply below_drew1))); rintro e w5 ⟨v338, rfl, ho0, hb⟩; refine ⟨_, rfl, ?_⟩; have n0_ := Aside0.mk (Kd.R_lower ho0 (below_size (by repeat (first | exact HB.out | apply below_alloc | apply pw_below_drewN | apply below_drew1)))); have n1_ := Aside0.mk (below_step (by repeat (first | exact HB.out | apply below_alloc | apply pw_below_drewN | apply below_drew1)) hb); clear HB; have HO339 := n0_; have HB := n1_; clear n0_ n1_; (try clear hb); (try clear ho0)))
  (try simp only [Act.put, List.setIfInBounds_toArray, List.set_cons_zero, List.set_cons_succ])
  go_cut [29] (fun v29 wc => ∃ (kq : Nat) (x29_3 : Bool), v29 = .bool x29_3 ∧ Aside0 (impl_Steps.j0 kq t337 x29_3 = some (r1, r2)) ∧ Aside0 (kq ≤ k) ∧ Aside0 (Kd.R Kd.string 9 wc w.heap.size (fun _ => True) v338 t337) ∧ Aside0 (Below w.heap.size w wc))
  case first =>
   have H := HC4.out
   clear HC4
   by_cases c6 : 0 < (t337.length : Int)
   ·rw [if_pos c6] at H
    have c6b0 : decide (0 < (t337.length : Int)) = true := decide_eq_true c6
    have c6b1 : decide (0 < t337.length) = true := decide_eq_true (by omega)
    clear c6
    (first | rw [c6b0] | (simp only [i64_w, i32_w]; rw [c6b0]) | skip)
    by_cases c7 : (rdOf ByteArray.empty t337 0).toList = ([] : List UInt8)
    ·rw [if_pos c7] at H
     have c7b0 : ((rdOf ByteArray.empty t337 0).toList == ([] : List UInt8)) = true := beq_iff_eq.mpr c7
     have c7b8 : ((rdOf ByteArray.empty t337 0).toList).isEmpty = true := List.isEmpty_iff.2 c7
     have c7b1 : ((rdOf ByteArray.empty t337 0).toList != ([] : List UInt8)) = false := bne_eq_false_iff_eq.mpr c7
     clear c7
     have H' := Aside0.mk H
     clear H
     obtain ⟨Ao8, co8, eo8⟩ := Kd.R_slice HO339.out
     subst eo8
     have p340 : 0 ≤ (0 : Int) := (by omega)
     have q340 : 0 < (t337.length : Int) := of_decide_eq_true (by first | (with_reducible assumption) | assumption)
     obtain ⟨ad340, e340, hx340_0⟩ := Kd.at_string (Kd.R_reads' HO339.out).2.2 0 p340 q340
     cases e340
     have qi340 : (0 < t337.length) = True := eq_true (by omega)
     (try rw [show ((0 : Int)).toNat = 0 from rfl] at hx340_0)
     (try rw [Addr.add_zero'] at hx340_0)
     replace p340 := eq_true p340
     replace q340 := eq_true q340
     go_wp2
     go_meet
     case rel => exact ⟨_, (decide ((wrap64 ((t337.length : Int) - 1)) > 30)), (by first | rfl | (simp; done) | (simp [*]; done)), H', ⟨by first | omega | exact Nat.le_refl _⟩, ⟨by (with_reducible repeat (first | apply Kd.R_alloc | apply Kd.R_drewN | apply Kd.R_drew)); exact HO339.out⟩, ⟨by repeat (first | exact HB.out | apply below_alloc | apply pw_below_drewN | apply below_drew1)⟩⟩
    ·rw [if_neg c7] at H
     have c7b0 : ((rdOf ByteArray.empty t337 0).toList == ([] : List UInt8)) = false := beq_eq_false_iff_ne.mpr c7
     have c7b8 : ((rdOf ByteArray.empty t337 0).toList).isEmpty = false := Bool.eq_false_iff.2 (fun h_ => c7 (List.isEmpty_iff.1 h_))
     have c7b1 : ((rdOf ByteArray.empty t337 0).toList != ([] : List UInt8)) = true := bne_iff_ne.mpr c7
     have H' := Aside0.mk H
     clear H
     obtain ⟨Ao9, co9, eo9⟩ := Kd.R_slice HO339.out
     subst eo9
     have p340 : 0 ≤ (0 : Int) := (by omega)
     have q340 : 0 < (t337.length : Int) := of_decide_eq_true (by first | (with_reducible assumption) | assumption)
     obtain ⟨ad340, e340, hx340_0⟩ := Kd.at_string (Kd.R_reads' HO339.out).2.2 0 p340 q340
     cases e340
     have qi340 : (0 < t337.length) = True := eq_true (by omega)
     (try rw [show ((0 : Int)).toNat = 0 from rfl] at hx340_0)
     (try rw [Addr.add_zero'] at hx340_0)
     replace p340 := eq_true p340
     replace q340 := eq_true q340
     go_wp2
     go_meet
     case rel => exact ⟨_, (true), (by first | rfl | (simp; done) | (simp [*]; done)), H', ⟨by first | omega | exact Nat.le_refl _⟩, ⟨by (with_reducible repeat (first | apply Kd.R_alloc | apply Kd.R_drewN | apply Kd.R_drew)); exact HO339.out⟩, ⟨by repeat (first | exact HB.out | apply below_alloc | apply pw_below_drewN | apply below_drew1)⟩⟩
   ·rw [if_neg c6] at H
    exact absurd H (by simp)
  case rest =>
   clear HC4
   try clear c2
   try clear c2b0
   try clear c2b1
   try clear p2
   try clear c3
   try clear p3
   try clear q3
   try clear hx3
   try clear qi3
   try clear c6
   try clear c6b0
   try clear c6b1
   try clear p6
   try clear c7
   try clear c7b0
   try clear c7b1
   try clear hx340_0
   try clear p340
   try clear q340
   obtain ⟨kq, x29_3, rfl, HA, HJ3, HO_4, HB⟩ := hcut
   cases kq with
   | zero => exact absurd HA.out (by simp [impl_Steps.j0])
   | succ kj3 =>
    have H := HA.out
    clear HA
    simp only [impl_Steps.j0] at H
    have HF := Aside0.mk H
    clear H
    go_upto_if 29 with (fail)
    have H := HF.out
    clear HF
    by_cases c10 : x29_3 = true
    ·subst c10
     have H1 : (some (([] : List (S41)), false)) = some (r1, r2) := by rw [if_pos rfl] at H; exact H
     clear H
     have H := H1
     clear H1
     simp only [Option.some.injEq, Prod.mk.injEq] at H
     obtain ⟨rfl, rfl⟩ := H
     go_wp2
     go_ret2
     exact ⟨_, by first | rfl | (simp [*] <;> rfl), by first | exact Kd.S_nil _ _ _ _ _ | exact Kd.N_nil _ _ _ _ _ | exact Kd.V_nil _ _ _ _ _ | exact Kd.Q_nil _ _ _ _ _ | exact Kd.R_nil _ _ _ _ _, by repeat (first | exact HB.out | apply below_alloc | apply pw_below_drewN | apply below_drew1)⟩
    ·replace c10 := Bool.eq_false_iff.mpr c10
     subst c10
     have H1 : (if 1 ≤ (t337.length : Int) then ((some (t337.drop 1 : List ByteArray)).bind fun y341 => (impl_Steps.l0 kj3 ([] : List (S41)) 0 y341 (y341.length : Int) 0)) else (none)) = some (r1, r2) := by rw [if_neg (show ¬ (false = true) by decide)] at H; exact H
     clear H
     have H := H1
     clear H1
     by_cases c11 : 1 ≤ (t337.length : Int)
     ·rw [if_pos c11] at H
      have c11b0 := eq_true c11
      have c11b1 : decide (1 ≤ (t337.length : Int)) = true := decide_eq_true c11
      clear c11
      obtain ⟨y341, hy341⟩ : ∃ y_ : List ByteArray, y_ = (t337.drop 1) := ⟨_, rfl⟩
      replace H : (impl_Steps.l0 kj3 ([] : List (S41)) 0 y341 (y341.length : Int) 0) = some (r1, r2) := by first | (rw [hy341]; with_reducible exact H) | (have H2_ := (Option.bind_some _ _).symm.trans H; rw [hy341]; with_reducible exact H2_) | (have H2_ := (Option.bind_some _ _).symm.trans H; with_reducible exact H2_) | with_reducible exact H | (rw [hy341]; exact H) | exact H
      have Ny341 := Aside0.mk hy341
      clear hy341
      have H' := Aside0.mk H
      clear H
      obtain ⟨Ao13, co13, eo13⟩ := Kd.R_slice HO_4.out
      subst eo13
      have q12 : (1 : Int) ≤ ((t337.length : Int) : Int) := of_decide_eq_true (by first | (with_reducible assumption) | assumption)
      obtain ⟨i012, hi012, _, hsz12, _⟩ := info_parts info9
      have hroom12 : t337.length ≤ co13 := (Kd.R_reads' HO_4.out).2.1
      have hC12 : Kd.C Kd.string _ Ao13 t337.length t337 := (Kd.R_reads' HO_4.out).2.2
      have hcut12 := cut_from (P := Tryz.prog) 45 9 .i64 Tryz.underlying45 hi012 1 hsz12 Ao13 t337.length co13 1 (by omega) q12
      have hr12 := Kd.C_drop (m := (1 : Int).toNat) (c := co13) hC12 (by omega) hroom12
      obtain ⟨A12, hA12⟩ : ∃ A1, A1 = (if co13 = (1 : Int).toNat then Ao13 else (Ao13 : Option Addr).map (·.add ((1 : Int).toNat * 1))) := ⟨_, rfl⟩
      obtain ⟨c12, hc12⟩ : ∃ c1, c1 = co13 - (1 : Int).toNat := ⟨_, rfl⟩
      have hy12 : y341.length = t337.length - (1 : Int).toNat := (by rw [Ny341.out, List.length_drop] <;> omega)
      rw [show (t337).drop (1 : Int).toNat = y341 from Ny341.out.symm] at hr12
      replace hr12 : Kd.C Kd.string _ A12 y341.length y341 := (by rw [hA12]; exact hr12)
      rw [← hy12, ← hA12, ← hc12] at hcut12
      have HR344 := Aside0.mk hr12
      have HC344 := Aside0.mk (show y341.length ≤ c12 from by rw [hy12, hc12]; exact Nat.sub_le_sub_right hroom12 _)
      clear hr12 hC12 hroom12 hi012 hsz12 hc12
      have KY12 := Aside0.mk hy12
      have KA12 := Aside0.mk hA12
      clear hy12 hA12
      have KL12 := Aside0.mk (show 1 ≤ t337.length from by omega)
      replace q12 := eq_true q12
      go_wp2
      have HBw := HB
      have HLn := Aside0.mk (LaidW.below HL0.out HB.out)
      clear HL0
      have HL0 := HLn
      go_loopg [5, 6, 33] kj3 (fun kq v5 v6 v33 w' => ∃ (x5_2 : List (S41)) (x6_2 : Int) (x33_2 : Int), v6 = .int .i64 x6_2 ∧ v33 = .int .i64 x33_2 ∧ Aside0 (impl_Steps.l0 kq x5_2 x6_2 y341 (y341.length : Int) x33_2 = some (r1, r2)) ∧ Aside0 (kq ≤ kj3) ∧ Aside0 (Kd.S k41 41 w' wc.heap.size (fun _ => True) v5 x5_2) ∧ Aside0 (Below wc.heap.size wc w'))
      case atStart => exact ⟨(([] : List (S41))), (0), (0), (by first | rfl | (simp; done) | (simp [*]; done)), (by first | rfl | (simp; done) | (simp [*]; done)), H', ⟨Nat.le_refl _⟩, ⟨by first | exact Kd.S_nil _ _ _ _ _ | exact Kd.N_nil _ _ _ _ _ | exact Kd.V_nil _ _ _ _ _ | exact Kd.Q_nil _ _ _ _ _ | exact Kd.R_nil _ _ _ _ _⟩, ⟨Below.refl _ _⟩⟩
      case round =>
       clear H'
       try clear c1
       try clear q1
       try clear c2
       try clear c2b0
       try clear c2b1
       try clear p2
       try clear c3
       try clear p3
       try clear q3
       try clear hx3
       try clear qi3
       try clear c6
       try clear c6b0
       try clear c6b1
       try clear p6
       try clear c7
       try clear c7b0
       try clear c7b1
       try clear c10
       try clear c11
       try clear c11b0
       try clear c11b1
       try clear c12
       try clear q12
       try clear hx340_0
       try clear p2
       try clear p3
       try clear p340
       try clear p6
       try clear q12
       try clear q3
       try clear q340
       obtain ⟨x5_2, x6_2, x33_2, rfl, rfl, HA, HK2, HO_5, HB⟩ := hrel
       cases gk with
       | zero => exact absurd HA.out (by simp [impl_Steps.l0])
       | succ k2 =>
        have H := HA.out
        clear HA
        simp only [impl_Steps.l0] at H
        have HF := Aside0.mk H
        clear H
        go_upto_if 34 with (fail)
        have H := HF.out
        clear HF
        by_cases c14 : x33_2 < (y341.length : Int)
        ·rw [if_pos c14] at H
         have c14b0 : decide (x33_2 < (y341.length : Int)) = true := decide_eq_true c14
         clear c14
         (first | rw [c14b0] | (simp only [i64_w, i32_w]; rw [c14b0]) | skip)
         by_cases c15 : 0 ≤ x33_2
         ·rw [if_pos c15] at H
          have c15b0 : decide (0 ≤ x33_2) = true := decide_eq_true c15
          clear c15
          by_cases c16 : x33_2 < (y341.length : Int)
          ·rw [if_pos c16] at H
           have c16b0 : decide (x33_2 < (y341.length : Int)) = true := decide_eq_true c16
           clear c16
           replace H := Option.bind_eq_some_iff.mp H
           obtain ⟨⟨t346, t347, t348⟩, A170, H⟩ := H
           replace H : ((impl_Number.f k2 t346).bind fun bt349 => ((impl_TxsOf.f k2 t347).bind fun bt351 => (if t348 = true then (if bt349.2 = true then (if bt351.2 = true then ((impl_within.f bt349.1 (wrap64 (x6_2 + 1)) 60).bind fun t355 => (if t355 = true then (if (bt351.1.length : Int) > 2 then (some (([] : List (S41)), false)) else (if x5_2.length < 4398046511104 then (impl_Steps.l0 k2 (x5_2 ++ [(⟨bt349.1, bt351.1⟩ : S41)]) bt349.1 y341 (y341.length : Int) (wrap64 (x33_2 + 1))) else (none))) else (some (([] : List (S41)), false)))) else (some (([] : List (S41)), false))) else (some (([] : List (S41)), false))) else (some (([] : List (S41)), false))))) = some (r1, r2) := H
           have A17 := Aside0.mk A170
           clear A170
           replace H := Option.bind_eq_some_iff.mp H
           obtain ⟨⟨t349, t350⟩, A180, H⟩ := H
           replace H : ((impl_TxsOf.f k2 t347).bind fun bt351 => (if t348 = true then (if t350 = true then (if bt351.2 = true then ((impl_within.f t349 (wrap64 (x6_2 + 1)) 60).bind fun t355 => (if t355 = true then (if (bt351.1.length : Int) > 2 then (some (([] : List (S41)), false)) else (if x5_2.length < 4398046511104 then (impl_Steps.l0 k2 (x5_2 ++ [(⟨t349, bt351.1⟩ : S41)]) t349 y341 (y341.length : Int) (wrap64 (x33_2 + 1))) else (none))) else (some (([] : List (S41)), false)))) else (some (([] : List (S41)), false))) else (some (([] : List (S41)), false))) else (some (([] : List (S41)), false)))) = some (r1, r2) := H
           have A18 := Aside0.mk A180
           clear A180
           replace H := Option.bind_eq_some_iff.mp H
           obtain ⟨⟨t351, t352⟩, A190, H⟩ := H
           replace H : (if t348 = true then (if t350 = true then (if t352 = true then ((impl_within.f t349 (wrap64 (x6_2 + 1)) 60).bind fun t355 => (if t355 = true then (if (t351.length : Int) > 2 then (some (([] : List (S41)), false)) else (if x5_2.length < 4398046511104 then (impl_Steps.l0 k2 (x5_2 ++ [(⟨t349, t351⟩ : S41)]) t349 y341 (y341.length : Int) (wrap64 (x33_2 + 1))) else (none))) else (some (([] : List (S41)), false)))) else (some (([] : List (S41)), false))) else (some (([] : List (S41)), false))) else (some (([] : List (S41)), false))) = some (r1, r2) := H
           have A19 := Aside0.mk A190
           clear A190
           by_cases c20 : t348 = true
           ·subst c20
            have H1 : (if t350 = true then (if t352 = true then ((impl_within.f t349 (wrap64 (x6_2 + 1)) 60).bind fun t355 => (if t355 = true then (if (t351.length : Int) > 2 then (some (([] : List (S41)), false)) else (if x5_2.length < 4398046511104 then (impl_Steps.l0 k2 (x5_2 ++ [(⟨t349, t351⟩ : S41)]) t349 y341 (y341.length : Int) (wrap64 (x33_2 + 1))) else (none))) else (some (([] : List (S41)), false)))) else (some (([] : List (S41)), false))) else (some (([] : List (S41)), false))) = some (r1, r2) := by rw [if_pos rfl] at H; exact H
            clear H
            have H := H1
            clear H1
            by_cases c21 : t350 = true
            ·subst c21
             have H1 : (if t352 = true then ((impl_within.f t349 (wrap64 (x6_2 + 1)) 60).bind fun t355 => (if t355 = true then (if (t351.length : Int) > 2 then (some (([] : List (S41)), false)) else (if x5_2.length < 4398046511104 then (impl_Steps.l0 k2 (x5_2 ++ [(⟨t349, t351⟩ : S41)]) t349 y341 (y341.length : Int) (wrap64 (x33_2 + 1))) else (none))) else (some (([] : List (S41)), false)))) else (some (([] : List (S41)), false))) = some (r1, r2) := by rw [if_pos rfl] at H; exact H
             clear H
             have H := H1
             clear H1
             by_cases c22 : t352 = true
             ·subst c22
              have H1 : ((impl_within.f t349 (wrap64 (x6_2 + 1)) 60).bind fun t355 => (if t355 = true then (if (t351.length : Int) > 2 then (some (([] : List (S41)), false)) else (if x5_2.length < 4398046511104 then (impl_Steps.l0 k2 (x5_2 ++ [(⟨t349, t351⟩ : S41)]) t349 y341 (y341.length : Int) (wrap64 (x33_2 + 1))) else (none))) else (some (([] : List (S41)), false)))) = some (r1, r2) := by rw [if_pos rfl] at H; exact H
              clear H
              have H := H1
              clear H1
              replace H := Option.bind_eq_some_iff.mp H
              obtain ⟨t355, A230, H⟩ := H
              replace H : (if t355 = true then (if (t351.length : Int) > 2 then (some (([] : List (S41)), false)) else (if x5_2.length < 4398046511104 then (impl_Steps.l0 k2 (x5_2 ++ [(⟨t349, t351⟩ : S41)]) t349 y341 (y341.length : Int) (wrap64 (x33_2 + 1))) else (none))) else (some (([] : List (S41)), false))) = some (r1, r2) := H
              have A23 := Aside0.mk A230
              clear A230
              by_cases c24 : t355 = true
              ·subst c24
               have H1 : (if (t351.length : Int) > 2 then (some (([] : List (S41)), false)) else (if x5_2.length < 4398046511104 then (impl_Steps.l0 k2 (x5_2 ++ [(⟨t349, t351⟩ : S41)]) t349 y341 (y341.length : Int) (wrap64 (x33_2 + 1))) else (none))) = some (r1, r2) := by rw [if_pos rfl] at H; exact H
               clear H
               have H := H1
               clear H1
               have HF := Aside0.mk H
               clear H
               have p345 : 0 ≤ (x33_2 : Int) := of_decide_eq_true (by first | (with_reducible assumption) | assumption)
               have q345 : x33_2 < (y341.length : Int) := of_decide_eq_true (by first | (with_reducible assumption) | assumption)
               obtain ⟨ad345, e345, hx345_0⟩ := Kd.at_string HR344.out x33_2 p345 q345
               cases e345
               replace hx345_0 := (HB.out.cell (World.block_lt_of_cell? wc _ hx345_0)).trans hx345_0
               replace p345 := eq_true p345
               replace q345 := eq_true q345
               go_upto_if 74 with (go_big_may; first | ((with_reducible refine gate_callee (f := 31) rfl ?_); refine goesL_ (some 39) rfl rfl Tryz.func31 (by kernel_rfl) rfl #[.string (rdOf ByteArray.empty y341 x33_2), .string (⟨#[124]⟩ : ByteArray)] rfl (by (try simp only [List.map_toArray, List.map_cons, List.map_nil]); first | done | rfl) ?_; (with_reducible refine (strings_Cut.calls (rdOf ByteArray.empty y341 x33_2) (⟨#[124]⟩ : ByteArray) t346 t347 true _ ?side1 A17.out).mono ?_); (case side1 => exact LaidW.below HL0.out (by repeat (first | exact HB.out | apply below_alloc | apply pw_below_drewN | apply below_drew1))); rintro e w' ⟨rfl, ⟨nd, rfl⟩⟩; refine ⟨_, rfl, ?_⟩) | ((with_reducible refine gate_callee (f := 32) rfl ?_); refine goesL_ (some 45) rfl rfl Tryz.func32 (by kernel_rfl) rfl #[.string t346] rfl (by (try simp only [List.map_toArray, List.map_cons, List.map_nil]); first | done | rfl) ?_; (with_reducible refine (impl_Number.calls k2 t346 t349 true _ ?side1 A18.out).mono ?_); (case side1 => exact LaidW.below HL0.out (by repeat (first | exact HB.out | apply below_alloc | apply pw_below_drewN | apply below_drew1))); rintro e w25 ⟨rfl, hb⟩; refine ⟨_, rfl, ?_⟩; have n0_ := Aside0.mk (Kd.S_below (by (with_reducible repeat (first | apply Kd.S_alloc | apply Kd.S_drewN | apply Kd.S_drew)); exact HO_5.out) hb); have n1_ := Aside0.mk (below_step (by repeat (first | exact HB.out | apply below_alloc | apply pw_below_drewN | apply below_drew1)) hb); clear HO_5; clear HB; have HO_5 := n0_; have HB := n1_; clear n0_ n1_; (try clear hb)) | ((with_reducible refine gate_callee (f := 33) rfl ?_); refine goesL_ (some 50) rfl rfl Tryz.func33 (by kernel_rfl) rfl #[.string t347] rfl (by (try simp only [List.map_toArray, List.map_cons, List.map_nil]); first | done | rfl) ?_; (with_reducible refine (impl_TxsOf.calls k2 t347 t351 true _ ?side1 A19.out).mono ?_); (case side1 => exact LaidW.below HL0.out (by repeat (first | exact HB.out | apply below_alloc | apply pw_below_drewN | apply below_drew1))); rintro e w26 ⟨v353, rfl, ho0, hb⟩; refine ⟨_, rfl, ?_⟩; have n0_ := Aside0.mk (Kd.S_elder' (by (with_reducible repeat (first | apply Kd.S_alloc | apply Kd.S_drewN | apply Kd.S_drew)); exact HO_5.out) (Kd.R_base ho0) hb); have n1_ := Aside0.mk (Kd.R_lower ho0 (below_size (by repeat (first | exact HB.out | apply below_alloc | apply pw_below_drewN | apply below_drew1)))); have n2_ := Aside0.mk (below_step (by repeat (first | exact HB.out | apply below_alloc | apply pw_below_drewN | apply below_drew1)) hb); clear HO_5; clear HB; have HO_5 := n0_; have HO354 := n1_; have HB := n2_; clear n0_ n1_ n2_; (try clear hb); (try clear ho0)) | (go_at_call 34; (with_reducible refine (impl_within.calls t349 (wrap64 (x6_2 + 1)) 60 true _ A23.out).mono ?_); rintro e w' ⟨rfl, ⟨nd, rfl⟩⟩; obtain ⟨Ao27, co27, eo27⟩ := Kd.R_slice HO354.out; subst eo27))
               have H := HF.out
               clear HF
               by_cases c28 : (t351.length : Int) > 2
               ·rw [if_pos c28] at H
                have c28b0 : decide (2 < (t351.length : Int)) = true := decide_eq_true c28
                have c28b1 : decide (2 < t351.length) = true := decide_eq_true (by omega)
                clear c28
                (first | rw [c28b0] | (simp only [i64_w, i32_w]; rw [c28b0]) | skip)
                simp only [Option.some.injEq, Prod.mk.injEq] at H
                obtain ⟨rfl, rfl⟩ := H
                go_wp2
                go_ret2
                exact ⟨_, by first | rfl | (simp [*] <;> rfl), by first | exact Kd.S_nil _ _ _ _ _ | exact Kd.N_nil _ _ _ _ _ | exact Kd.V_nil _ _ _ _ _ | exact Kd.Q_nil _ _ _ _ _ | exact Kd.R_nil _ _ _ _ _, below_then HBw.out (below_size HBw.out) (by repeat (first | exact HB.out | apply below_alloc | apply pw_below_drewN | apply below_drew1))⟩
               ·rw [if_neg c28] at H
                have c28b0 : decide (2 < (t351.length : Int)) = false := decide_eq_false c28
                have c28b1 : decide (2 < t351.length) = false := decide_eq_false (by omega)
                clear c28
                (first | rw [c28b0] | (simp only [i64_w, i32_w]; rw [c28b0]) | skip)
                by_cases c29 : x5_2.length < 4398046511104
                ·rw [if_pos c29] at H
                 have LMc29 := Aside0.mk c29
                 clear c29
                 obtain ⟨y356, hy356⟩ : ∃ y_ : List (S41), y_ = (x5_2 ++ [(⟨t349, t351⟩ : S41)]) := ⟨_, rfl⟩
                 replace H : (impl_Steps.l0 k2 y356 t349 y341 (y341.length : Int) (wrap64 (x33_2 + 1))) = some (r1, r2) := by first | (rw [hy356]; with_reducible exact H) | (have H2_ := (Option.bind_some _ _).symm.trans H; rw [hy356]; with_reducible exact H2_) | (have H2_ := (Option.bind_some _ _).symm.trans H; with_reducible exact H2_) | with_reducible exact H | (rw [hy356]; exact H) | exact H
                 have Ny356 := Aside0.mk hy356
                 clear hy356
                 have H' := Aside0.mk H
                 clear H
                 go_wp2_with (first | ((with_reducible refine gate_builtin (b := .append) (xs := #[.tmp 75, .tmp 79]) rfl ?_); (try (refine gate_guard (by rfl) ?_; dsimp only)); at_builtin; refine Kd.S_append k41 (w0 := wc) wc.heap.size rfl (.tmp 75) (.tmp 79) 25 41 (.agg #[(.int .i64 0), (.slice none 0 0)]) 32 rfl Tryz.underlying25 info41 rfl (by decide) (by omega) u5 x5_2 (⟨t349, t351⟩ : S41) [.int .i64 t349, .slice Ao27 t351.length co27] (fun _ => True) (fun k_ => some k_ = (.slice Ao27 t351.length co27 : Value).ownBlock) rfl rfl ?aP (fun k_ hk_ => ((Kd.R_mono (ok' := fun k_ => ((fun _ => True)) k_ ∧ some k_ ≠ (u5 : Value).ownBlock) (Kd.R_apart' (HO354.out) (Kd.S_typed HO_5.out) (by decide)) (fun k_ hk => ⟨trivial, hk.2⟩))).1 k_ hk_.symm) ?aF ?aO ?aB ?aS ?aL ?_; (case aP => exact k41_mkM _ _ _ (⟨t349, t351⟩ : S41) (Kd.R_mono (Kd.R_tight rfl (Kd.R_mono (ok' := fun k_ => ((fun _ => True)) k_ ∧ some k_ ≠ (u5 : Value).ownBlock) (Kd.R_apart' (HO354.out) (Kd.S_typed HO_5.out) (by decide)) (fun k_ hk => ⟨trivial, hk.2⟩))) (fun _ h_ => h_))); (case aB => exact (by repeat (first | exact HB.out | apply below_alloc | apply pw_below_drewN | apply below_drew1))); (case aF => exact (fun _ _ => trivial)); (case aO => exact (by (with_reducible repeat (first | apply Kd.S_alloc | apply Kd.S_drewN | apply Kd.S_drew)); exact Kd.S_mono HO_5.out (fun k_ hk => ⟨trivial, fun e_ => hk.2 e_⟩))); (case aS => exact (below_size (by repeat (first | exact HB.out | apply below_alloc | apply pw_below_drewN | apply below_drew1)))); (case aL => have := LMc29.out; omega); intro v357 w30 ho hb hg hat; rw [← Ny356.out] at ho; have n0_ := Aside0.mk (hb); have n1_ := Aside0.mk (ho); clear HB; clear HO_5; clear HO354; have HB := n0_; have HO358 := n1_; clear n0_ n1_; clear ho hb hg hat))
                 go_roundg k2
                 case measure => have := HJ3.out; have := HK2.out; omega
                 case rel => exact ⟨(y356), (t349), (wrap64 (x33_2 + 1)), (by first | rfl | (simp; done) | (simp [*]; done)), (by first | rfl | (simp; done) | (simp [*]; done)), H', ⟨by have := HJ3.out; have := HK2.out; omega⟩, ⟨by (with_reducible repeat (first | apply Kd.S_alloc | apply Kd.S_drewN | apply Kd.S_drew)); exact HO358.out⟩, ⟨by repeat (first | exact HB.out | apply below_alloc | apply pw_below_drewN | apply below_drew1)⟩⟩
                ·rw [if_neg c29] at H
                 exact absurd H (by simp)
              ·replace c24 := Bool.eq_false_iff.mpr c24
               subst c24
               have H1 : (some (([] : List (S41)), false)) = some (r1, r2) := by rw [if_neg (show ¬ (false = true) by decide)] at H; exact H
               clear H
               have H := H1
               clear H1
               simp only [Option.some.injEq, Prod.mk.injEq] at H
               obtain ⟨rfl, rfl⟩ := H
               have p345 : 0 ≤ (x33_2 : Int) := of_decide_eq_true (by first | (with_reducible assumption) | assumption)
               have q345 : x33_2 < (y341.length : Int) := of_decide_eq_true (by first | (with_reducible assumption) | assumption)
               obtain ⟨ad345, e345, hx345_0⟩ := Kd.at_string HR344.out x33_2 p345 q345
               cases e345
               replace hx345_0 := (HB.out.cell (World.block_lt_of_cell? wc _ hx345_0)).trans hx345_0
               replace p345 := eq_true p345
               replace q345 := eq_true q345
               go_wp2_with (first | ((with_reducible refine gate_callee (f := 31) rfl ?_); refine goesL_ (some 39) rfl rfl Tryz.func31 (by kernel_rfl) rfl #[.string (rdOf ByteArray.empty y341 x33_2), .string (⟨#[124]⟩ : ByteArray)] rfl (by (try simp only [List.map_toArray, List.map_cons, List.map_nil]); first | done | rfl) ?_; (with_reducible refine (strings_Cut.calls (rdOf ByteArray.empty y341 x33_2) (⟨#[124]⟩ : ByteArray) t346 t347 true _ ?side1 A17.out).mono ?_); (case side1 => exact LaidW.below HL0.out (by repeat (first | exact HB.out | apply below_alloc | apply pw_below_drewN | apply below_drew1))); rintro e w' ⟨rfl, ⟨nd, rfl⟩⟩; refine ⟨_, rfl, ?_⟩) | ((with_reducible refine gate_callee (f := 32) rfl ?_); refine goesL_ (some 45) rfl rfl Tryz.func32 (by kernel_rfl) rfl #[.string t346] rfl (by (try simp only [List.map_toArray, List.map_cons, List.map_nil]); first | done | rfl) ?_; (with_reducible refine (impl_Number.calls k2 t346 t349 true _ ?side1 A18.out).mono ?_); (case side1 => exact LaidW.below HL0.out (by repeat (first | exact HB.out | apply below_alloc | apply pw_below_drewN | apply below_drew1))); rintro e w31 ⟨rfl, hb⟩; refine ⟨_, rfl, ?_⟩; have n0_ := Aside0.mk (Kd.S_below (by (with_reducible repeat (first | apply Kd.S_alloc | apply Kd.S_drewN | apply Kd.S_drew)); exact HO_5.out) hb); have n1_ := Aside0.mk (below_step (by repeat (first | exact HB.out | apply below_alloc | apply pw_below_drewN | apply below_drew1)) hb); clear HO_5; clear HB; have HO_5 := n0_; have HB := n1_; clear n0_ n1_; (try clear hb)) | ((with_reducible refine gate_callee (f := 33) rfl ?_); refine goesL_ (some 50) rfl rfl Tryz.func33 (by kernel_rfl) rfl #[.string t347] rfl (by (try simp only [List.map_toArray, List.map_cons, List.map_nil]); first | done | rfl) ?_; (with_reducible refine (impl_TxsOf.calls k2 t347 t351 true _ ?side1 A19.out).mono ?_); (case side1 => exact LaidW.below HL0.out (by repeat (first | exact HB.out | apply below_alloc | apply pw_below_drewN | apply below_drew1))); rintro e w32 ⟨v353, rfl, ho0, hb⟩; refine ⟨_, rfl, ?_⟩; have n0_ := Aside0.mk (Kd.S_elder' (by (with_reducible repeat (first | apply Kd.S_alloc | apply Kd.S_drewN | apply Kd.S_drew)); exact HO_5.out) (Kd.R_base ho0) hb); have n1_ := Aside0.mk (Kd.R_lower ho0 (below_size (by repeat (first | exact HB.out | apply below_alloc | apply pw_below_drewN | apply below_drew1)))); have n2_ := Aside0.mk (below_step (by repeat (first | exact HB.out | apply below_alloc | apply pw_below_drewN | apply below_drew1)) hb); clear HO_5; clear HB; have HO_5 := n0_; have HO354 := n1_; have HB := n2_; clear n0_ n1_ n2_; (try clear hb); (try clear ho0)) | (go_at_call 34; (with_reducible refine (impl_within.calls t349 (wrap64 (x6_2 + 1)) 60 false _ A23.out).mono ?_); rintro e w' ⟨rfl, ⟨nd, rfl⟩⟩))
               go_ret2
               exact ⟨_, by first | rfl | (simp [*] <;> rfl), by first | exact Kd.S_nil _ _ _ _ _ | exact Kd.N_nil _ _ _ _ _ | exact Kd.V_nil _ _ _ _ _ | exact Kd.Q_nil _ _ _ _ _ | exact Kd.R_nil _ _ _ _ _, below_then HBw.out (below_size HBw.out) (by repeat (first | exact HB.out | apply below_alloc | apply pw_below_drewN | apply below_drew1))⟩
             ·replace c22 := Bool.eq_false_iff.mpr c22
              subst c22
              have H1 : (some (([] : List (S41)), false)) = some (r1, r2) := by rw [if_neg (show ¬ (false = true) by decide)] at H; exact H
              clear H
              have H := H1
              clear H1
              simp only [Option.some.injEq, Prod.mk.injEq] at H
              obtain ⟨rfl, rfl⟩ := H
              have p345 : 0 ≤ (x33_2 : Int) := of_decide_eq_true (by first | (with_reducible assumption) | assumption)
              have q345 : x33_2 < (y341.length : Int) := of_decide_eq_true (by first | (with_reducible assumption) | assumption)
              obtain ⟨ad345, e345, hx345_0⟩ := Kd.at_string HR344.out x33_2 p345 q345
              cases e345
              replace hx345_0 := (HB.out.cell (World.block_lt_of_cell? wc _ hx345_0)).trans hx345_0
              replace p345 := eq_true p345
              replace q345 := eq_true q345
              go_wp2_with (first | ((with_reducible refine gate_callee (f := 31) rfl ?_); refine goesL_ (some 39) rfl rfl Tryz.func31 (by kernel_rfl) rfl #[.string (rdOf ByteArray.empty y341 x33_2), .string (⟨#[124]⟩ : ByteArray)] rfl (by (try simp only [List.map_toArray, List.map_cons, List.map_nil]); first | done | rfl) ?_; (with_reducible refine (strings_Cut.calls (rdOf ByteArray.empty y341 x33_2) (⟨#[124]⟩ : ByteArray) t346 t347 true _ ?side1 A17.out).mono ?_); (case side1 => exact LaidW.below HL0.out (by repeat (first | exact HB.out | apply below_alloc | apply pw_below_drewN | apply below_drew1))); rintro e w' ⟨rfl, ⟨nd, rfl⟩⟩; refine ⟨_, rfl, ?_⟩) | ((with_reducible refine gate_callee (f := 32) rfl ?_); refine goesL_ (some 45) rfl rfl Tryz.func32 (by kernel_rfl) rfl #[.string t346] rfl (by (try simp only [List.map_toArray, List.map_cons, List.map_nil]); first | done | rfl) ?_; (with_reducible refine (impl_Number.calls k2 t346 t349 true _ ?side1 A18.out).mono ?_); (case side1 => exact LaidW.below HL0.out (by repeat (first | exact HB.out | apply below_alloc | apply pw_below_drewN | apply below_drew1))); rintro e w33 ⟨rfl, hb⟩; refine ⟨_, rfl, ?_⟩; have n0_ := Aside0.mk (Kd.S_below (by (with_reducible repeat (first | apply Kd.S_alloc | apply Kd.S_drewN | apply Kd.S_drew)); exact HO_5.out) hb); have n1_ := Aside0.mk (below_step (by repeat (first | exact HB.out | apply below_alloc | apply pw_below_drewN | apply below_drew1)) hb); clear HO_5; clear HB; have HO_5 := n0_; have HB := n1_; clear n0_ n1_; (try clear hb)) | ((with_reducible refine gate_callee (f := 33) rfl ?_); refine goesL_ (some 50) rfl rfl Tryz.func33 (by kernel_rfl) rfl #[.string t347] rfl (by (try simp only [List.map_toArray, List.map_cons, List.map_nil]); first | done | rfl) ?_; (with_reducible refine (impl_TxsOf.calls k2 t347 t351 false _ ?side1 A19.out).mono ?_); (case side1 => exact LaidW.below HL0.out (by repeat (first | exact HB.out | apply below_alloc | apply pw_below_drewN | apply below_drew1))); rintro e w34 ⟨v353, rfl, ho0, hb⟩; refine ⟨_, rfl, ?_⟩; have n0_ := Aside0.mk (Kd.S_elder' (by (with_reducible repeat (first | apply Kd.S_alloc | apply Kd.S_drewN | apply Kd.S_drew)); exact HO_5.out) (Kd.R_base ho0) hb); have n1_ := Aside0.mk (Kd.R_lower ho0 (below_size (by repeat (first | exact HB.out | apply below_alloc | apply pw_below_drewN | apply below_drew1)))); have n2_ := Aside0.mk (below_step (by repeat (first | exact HB.out | apply below_alloc | apply pw_below_drewN | apply below_drew1)) hb); clear HO_5; clear HB; have HO_5 := n0_; have HO354 := n1_; have HB := n2_; clear n0_ n1_ n2_; (try clear hb); (try clear ho0)))
              go_ret2
              exact ⟨_, by first | rfl | (simp [*] <;> rfl), by first | exact Kd.S_nil _ _ _ _ _ | exact Kd.N_nil _ _ _ _ _ | exact Kd.V_nil _ _ _ _ _ | exact Kd.Q_nil _ _ _ _ _ | exact Kd.R_nil _ _ _ _ _, below_then HBw.out (below_size HBw.out) (by repeat (first | exact HB.out | apply below_alloc | apply pw_below_drewN | apply below_drew1))⟩
            ·replace c21 := Bool.eq_false_iff.mpr c21
             subst c21
             have H1 : (some (([] : List (S41)), false)) = some (r1, r2) := by rw [if_neg (show ¬ (false = true) by decide)] at H; exact H
             clear H
             have H := H1
             clear H1
             simp only [Option.some.injEq, Prod.mk.injEq] at H
             obtain ⟨rfl, rfl⟩ := H
             have p345 : 0 ≤ (x33_2 : Int) := of_decide_eq_true (by first | (with_reducible assumption) | assumption)
             have q345 : x33_2 < (y341.length : Int) := of_decide_eq_true (by first | (with_reducible assumption) | assumption)
             obtain ⟨ad345, e345, hx345_0⟩ := Kd.at_string HR344.out x33_2 p345 q345
             cases e345
             replace hx345_0 := (HB.out.cell (World.block_lt_of_cell? wc _ hx345_0)).trans hx345_0
             replace p345 := eq_true p345
             replace q345 := eq_true q345
             go_wp2_with (first | ((with_reducible refine gate_callee (f := 31) rfl ?_); refine goesL_ (some 39) rfl rfl Tryz.func31 (by kernel_rfl) rfl #[.string (rdOf ByteArray.empty y341 x33_2), .string (⟨#[124]⟩ : ByteArray)] rfl (by (try simp only [List.map_toArray, List.map_cons, List.map_nil]); first | done | rfl) ?_; (with_reducible refine (strings_Cut.calls (rdOf ByteArray.empty y341 x33_2) (⟨#[124]⟩ : ByteArray) t346 t347 true _ ?side1 A17.out).mono ?_); (case side1 => exact LaidW.below HL0.out (by repeat (first | exact HB.out | apply below_alloc | apply pw_below_drewN | apply below_drew1))); rintro e w' ⟨rfl, ⟨nd, rfl⟩⟩; refine ⟨_, rfl, ?_⟩) | ((with_reducible refine gate_callee (f := 32) rfl ?_); refine goesL_ (some 45) rfl rfl Tryz.func32 (by kernel_rfl) rfl #[.string t346] rfl (by (try simp only [List.map_toArray, List.map_cons, List.map_nil]); first | done | rfl) ?_; (with_reducible refine (impl_Number.calls k2 t346 t349 false _ ?side1 A18.out).mono ?_); (case side1 => exact LaidW.below HL0.out (by repeat (first | exact HB.out | apply below_alloc | apply pw_below_drewN | apply below_drew1))); rintro e w35 ⟨rfl, hb⟩; refine ⟨_, rfl, ?_⟩; have n0_ := Aside0.mk (Kd.S_below (by (with_reducible repeat (first | apply Kd.S_alloc | apply Kd.S_drewN | apply Kd.S_drew)); exact HO_5.out) hb); have n1_ := Aside0.mk (below_step (by repeat (first | exact HB.out | apply below_alloc | apply pw_below_drewN | apply below_drew1)) hb); clear HO_5; clear HB; have HO_5 := n0_; have HB := n1_; clear n0_ n1_; (try clear hb)) | ((with_reducible refine gate_callee (f := 33) rfl ?_); refine goesL_ (some 50) rfl rfl Tryz.func33 (by kernel_rfl) rfl #[.string t347] rfl (by (try simp only [List.map_toArray, List.map_cons, List.map_nil]); first | done | rfl) ?_; (with_reducible refine (impl_TxsOf.calls k2 t347 t351 t352 _ ?side1 A19.out).mono ?_); (case side1 => exact LaidW.below HL0.out (by repeat (first | exact HB.out | apply below_alloc | apply pw_below_drewN | apply below_drew1))); rintro e w36 ⟨v353, rfl, ho0, hb⟩; refine ⟨_, rfl, ?_⟩; have n0_ := Aside0.mk (Kd.S_elder' (by (with_reducible repeat (first | apply Kd.S_alloc | apply Kd.S_drewN | apply Kd.S_drew)); exact HO_5.out) (Kd.R_base ho0) hb); have n1_ := Aside0.mk (Kd.R_lower ho0 (below_size (by repeat (first | exact HB.out | apply below_alloc | apply pw_below_drewN | apply below_drew1)))); have n2_ := Aside0.mk (below_step (by repeat (first | exact HB.out | apply below_alloc | apply pw_below_drewN | apply below_drew1)) hb); clear HO_5; clear HB; have HO_5 := n0_; have HO354 := n1_; have HB := n2_; clear n0_ n1_ n2_; (try clear hb); (try clear ho0)))
             go_ret2
             exact ⟨_, by first | rfl | (simp [*] <;> rfl), by first | exact Kd.S_nil _ _ _ _ _ | exact Kd.N_nil _ _ _ _ _ | exact Kd.V_nil _ _ _ _ _ | exact Kd.Q_nil _ _ _ _ _ | exact Kd.R_nil _ _ _ _ _, below_then HBw.out (below_size HBw.out) (by repeat (first | exact HB.out | apply below_alloc | apply pw_below_drewN | apply below_drew1))⟩
           ·replace c20 := Bool.eq_false_iff.mpr c20
            subst c20
            have H1 : (some (([] : List (S41)), false)) = some (r1, r2) := by rw [if_neg (show ¬ (false = true) by decide)] at H; exact H
            clear H
            have H := H1
            clear H1
            simp only [Option.some.injEq, Prod.mk.injEq] at H
            obtain ⟨rfl, rfl⟩ := H
            have p345 : 0 ≤ (x33_2 : Int) := of_decide_eq_true (by first | (with_reducible assumption) | assumption)
            have q345 : x33_2 < (y341.length : Int) := of_decide_eq_true (by first | (with_reducible assumption) | assumption)
            obtain ⟨ad345, e345, hx345_0⟩ := Kd.at_string HR344.out x33_2 p345 q345
            cases e345
            replace hx345_0 := (HB.out.cell (World.block_lt_of_cell? wc _ hx345_0)).trans hx345_0
            replace p345 := eq_true p345
            replace q345 := eq_true q345
            go_wp2_with (first | ((with_reducible refine gate_callee (f := 31) rfl ?_); refine goesL_ (some 39) rfl rfl Tryz.func31 (by kernel_rfl) rfl #[.string (rdOf ByteArray.empty y341 x33_2), .string (⟨#[124]⟩ : ByteArray)] rfl (by (try simp only [List.map_toArray, List.map_cons, List.map_nil]); first | done | rfl) ?_; (with_reducible refine (strings_Cut.calls (rdOf ByteArray.empty y341 x33_2) (⟨#[124]⟩ : ByteArray) t346 t347 false _ ?side1 A17.out).mono ?_); (case side1 => exact LaidW.below HL0.out (by repeat (first | exact HB.out | apply below_alloc | apply pw_below_drewN | apply below_drew1))); rintro e w' ⟨rfl, ⟨nd, rfl⟩⟩; refine ⟨_, rfl, ?_⟩) | ((with_reducible refine gate_callee (f := 32) rfl ?_); refine goesL_ (some 45) rfl rfl Tryz.func32 (by kernel_rfl) rfl #[.string t346] rfl (by (try simp only [List.map_toArray, List.map_cons, List.map_nil]); first | done | rfl) ?_; (with_reducible refine (impl_Number.calls k2 t346 t349 t350 _ ?side1 A18.out).mono ?_); (case side1 => exact LaidW.below HL0.out (by repeat (first | exact HB.out | apply below_alloc | apply pw_below_drewN | apply below_drew1))); rintro e w37 ⟨rfl, hb⟩; refine ⟨_, rfl, ?_⟩; have n0_ := Aside0.mk (Kd.S_below (by (with_reducible repeat (first | apply Kd.S_alloc | apply Kd.S_drewN | apply Kd.S_drew)); exact HO_5.out) hb); have n1_ := Aside0.mk (below_step (by repeat (first | exact HB.out | apply below_alloc | apply pw_below_drewN | apply below_drew1)) hb); clear HO_5; clear HB; have HO_5 := n0_; have HB := n1_; clear n0_ n1_; (try clear hb)) | ((with_reducible refine gate_callee (f := 33) rfl ?_); refine goesL_ (some 50) rfl rfl Tryz.func33 (by kernel_rfl) rfl #[.string t347] rfl (by (try simp only [List.map_toArray, List.map_cons, List.map_nil]); first | done | rfl) ?_; (with_reducible refine (impl_TxsOf.calls k2 t347 t351 t352 _ ?side1 A19.out).mono ?_); (case side1 => exact LaidW.below HL0.out (by repeat (first | exact HB.out | apply below_alloc | apply pw_below_drewN | apply below_drew1))); rintro e w38 ⟨v353, rfl, ho0, hb⟩; refine ⟨_, rfl, ?_⟩; have n0_ := Aside0.mk (Kd.S_elder' (by (with_reducible repeat (first | apply Kd.S_alloc | apply Kd.S_drewN | apply Kd.S_drew)); exact HO_5.out) (Kd.R_base ho0) hb); have n1_ := Aside0.mk (Kd.R_lower ho0 (below_size (by repeat (first | exact HB.out | apply below_alloc | apply pw_below_drewN | apply below_drew1)))); have n2_ := Aside0.mk (below_step (by repeat (first | exact HB.out | apply below_alloc | apply pw_below_drewN | apply below_drew1)) hb); clear HO_5; clear HB; have HO_5 := n0_; have HO354 := n1_; have HB := n2_; clear n0_ n1_ n2_; (try clear hb); (try clear ho0)))
            go_ret2
            exact ⟨_, by first | rfl | (simp [*] <;> rfl), by first | exact Kd.S_nil _ _ _ _ _ | exact Kd.N_nil _ _ _ _ _ | exact Kd.V_nil _ _ _ _ _ | exact Kd.Q_nil _ _ _ _ _ | exact Kd.R_nil _ _ _ _ _, below_then HBw.out (below_size HBw.out) (by repeat (first | exact HB.out | apply below_alloc | apply pw_below_drewN | apply below_drew1))⟩
          ·rw [if_neg c16] at H
           exact absurd H (by simp)
         ·rw [if_neg c15] at H
          exact absurd H (by simp)
        ·rw [if_neg c14] at H
         have c14b0 : decide (x33_2 < (y341.length : Int)) = false := decide_eq_false c14
         clear c14
         (first | rw [c14b0] | (simp only [i64_w, i32_w]; rw [c14b0]) | skip)
         simp only [Option.some.injEq, Prod.mk.injEq] at H
         obtain ⟨rfl, rfl⟩ := H
         go_wp2
         go_ret2
         exact ⟨_, by first | rfl | (simp [*] <;> rfl), by (with_reducible repeat (first | apply Kd.S_alloc | apply Kd.S_drewN | apply Kd.S_drew)); exact Kd.S_lower HO_5.out (below_size HBw.out), below_then HBw.out (below_size HBw.out) (by repeat (first | exact HB.out | apply below_alloc | apply pw_below_drewN | apply below_drew1))⟩
     ·rw [if_neg c11] at H
      exact absurd H (by simp)

/-! ### spec_l1Max: function 50 -/
def spec_l1Max.f (a0 : Int) (a1 : Int) : Option (Int) := if a0 > a1 then (some a0) else (some a1)
theorem spec_l1Max.calls (a0 : Int) (a1 : Int) (r : Int) (w : World) (h : spec_l1Max.f a0 a1 = some r) :
  Calls Tryz.prog 50 #[.int .i64 a0, .int .i64 a1] w fun e w' => e = .returned (.int .i64 r) ∧ Drawn0 w w' := by
 have H : (if a0 > a1 then (some a0) else (some a1)) = some r := h
 clear h
 have HF := Aside0.mk H
 clear H
 go_enter Tryz.func50, Tryz.ntmps50
 go_upto_if 7 with (fail)
 have H := HF.out
 clear HF
 by_cases c3 : a0 > a1
 ·rw [if_pos c3] at H
  have c3b0 : decide (a1 < a0) = true := decide_eq_true c3
  clear c3
  (first | rw [c3b0] | (simp only [i64_w, i32_w]; rw [c3b0]) | skip)
  obtain rfl := Option.some.inj H
  go_wp2
  go_ret
  exact ⟨by first | rfl | (simp; done) | (simp [*]; done), by repeat (first | exact Drawn0.refl _ | apply Drawn0.step)⟩
 ·rw [if_neg c3] at H
  have c3b0 : decide (a1 < a0) = false := decide_eq_false c3
  clear c3
  (first | rw [c3b0] | (simp only [i64_w, i32_w]; rw [c3b0]) | skip)
  obtain rfl := Option.some.inj H
  go_wp2
  go_ret
  exact ⟨by first | rfl | (simp; done) | (simp [*]; done), by repeat (first | exact Drawn0.refl _ | apply Drawn0.step)⟩

/-! ### spec_UpOf: function 21 -/
def spec_UpOf.l0 : Nat → ByteArray → Int → Option (ByteArray)
 | 0, _, _ => none
 | k + 1, x0, x3 => if x3 > 0 then (if 0 ≤ (wrap64 (x3 - 1)) then (if (wrap64 (x3 - 1)) < (x0.size : Int) then (if (bt x0 (wrap64 (x3 - 1))) = 47 then ((spec_l1Max.f (wrap64 (x3 - 1)) 0).bind fun t360 => (if 0 ≤ t360 then (if t360 ≤ (x0.size : Int) then (some (x0.extract 0 (t360 : Int).toNat)) else (none)) else (none))) else (spec_UpOf.l0 k x0 (wrap64 (x3 - 1)))) else (none)) else (none)) else ((spec_l1Max.f (wrap64 (x3 - 1)) 0).bind fun t361 => (if 0 ≤ t361 then (if t361 ≤ (x0.size : Int) then (some (x0.extract 0 (t361 : Int).toNat)) else (none)) else (none)))
def spec_UpOf.f (k : Nat) (a0 : ByteArray) : Option (ByteArray) := (spec_NameOk.f k a0).bind fun t359 => (if t359 = true then (spec_UpOf.l0 k a0 (a0.size : Int)) else (some (⟨#[]⟩ : ByteArray)))
theorem spec_UpOf.mono_l : ∀ k, (∀ y0 y1, LeO (spec_UpOf.l0 k y0 y1) (spec_UpOf.l0 (k + 1) y0 y1))
 | 0 => fun _ _ r h => by simp [spec_UpOf.l0] at h
 | k + 1 => by
  have ih0 := spec_UpOf.mono_l k
  ·intro y0 y1
   unfold spec_UpOf.l0
   repeat' first
   | (with_reducible exact ih0 _ _)
   | (with_reducible exact spec_NameOk.mono _ _)
   | (with_reducible exact LeO.refl _)
   | (with_reducible exact LeO.none _)
   | (with_reducible refine LeO.ite ?_ ?_)
   | (with_reducible refine LeO.bind ?_ (fun _ => ?_))
   | exact ih0 _ _
   | exact spec_NameOk.mono _ _
   | exact LeO.none _
   | refine LeO.ite ?_ ?_
   | refine LeO.bind ?_ (fun _ => ?_)
theorem spec_UpOf.mono : ∀ a0 k, LeO (spec_UpOf.f k a0) (spec_UpOf.f (k + 1) a0) := by
 intro a0 k
 have ih0 := spec_UpOf.mono_l k
 unfold spec_UpOf.f
 repeat' first
   | (with_reducible exact ih0 _ _)
   | (with_reducible exact spec_NameOk.mono _ _)
   | (with_reducible exact LeO.refl _)
   | (with_reducible exact LeO.none _)
   | (with_reducible refine LeO.ite ?_ ?_)
   | (with_reducible refine LeO.bind ?_ (fun _ => ?_))
   | exact ih0 _ _
   | exact spec_NameOk.mono _ _
   | exact LeO.none _
   | refine LeO.ite ?_ ?_
   | refine LeO.bind ?_ (fun _ => ?_)
theorem spec_UpOf.calls (k : Nat) (a0 : ByteArray) (r : ByteArray) (w : World) (h : spec_UpOf.f k a0 = some r) :
  Calls Tryz.prog 21 #[.string a0] w fun e w' => e = .returned (.string r) ∧ Below w.heap.size w w' := by
 have HB := Aside0.mk (Below.refl w.heap.size w)
 have H : ((spec_NameOk.f k a0).bind fun t359 => (if t359 = true then (spec_UpOf.l0 k a0 (a0.size : Int)) else (some (⟨#[]⟩ : ByteArray)))) = some r := h
 clear h
 replace H := Option.bind_eq_some_iff.mp H
 obtain ⟨t359, A20, H⟩ := H
 replace H : (if t359 = true then (spec_UpOf.l0 k a0 (a0.size : Int)) else (some (⟨#[]⟩ : ByteArray))) = some r := H
 have A2 := Aside0.mk A20
 clear A20
 have HF := Aside0.mk H
 clear H
 go_enter Tryz.func21, Tryz.ntmps21
 go_upto_if 6 with (go_big_may; first | ((with_reducible refine gate_callee (f := 46) rfl ?_); refine goesL_ (some 5) rfl rfl Tryz.func46 (by kernel_rfl) rfl #[.string a0] rfl (by (try simp only [List.map_toArray, List.map_cons, List.map_nil]); first | done | rfl) ?_; (with_reducible refine (spec_NameOk.calls k a0 t359 _ A2.out).mono ?_); rintro e w3 ⟨rfl, hb⟩; refine ⟨_, rfl, ?_⟩; have n0_ := Aside0.mk (below_step (by repeat (first | exact HB.out | apply below_alloc | apply pw_below_drewN | apply below_drew1)) hb); clear HB; have HB := n0_; clear n0_; (try clear hb)))
 have H := HF.out
 clear HF
 by_cases c4 : t359 = true
 ·subst c4
  have H1 : (spec_UpOf.l0 k a0 (a0.size : Int)) = some r := by rw [if_pos rfl] at H; exact H
  clear H
  have H := H1
  clear H1
  have H' := Aside0.mk H
  clear H
  go_wp2
  go_loopg [3] k (fun kq v3 w' => ∃ (x3_1 : Int), v3 = .int .i64 x3_1 ∧ Aside0 (spec_UpOf.l0 kq a0 x3_1 = some r) ∧ Aside0 (kq ≤ k) ∧ Aside0 (Below w.heap.size w w'))
  case atStart => exact ⟨((a0.size : Int)), (by first | rfl | (simp; done) | (simp [*]; done)), H', ⟨Nat.le_refl _⟩, ⟨by repeat (first | exact HB.out | apply below_alloc | apply pw_below_drewN | apply below_drew1)⟩⟩
  case round =>
   clear H'
   try clear c2
   try clear p2
   try clear c4
   obtain ⟨x3_1, rfl, HA, HK1, HB⟩ := hrel
   cases gk with
   | zero => exact absurd HA.out (by simp [spec_UpOf.l0])
   | succ k1 =>
    have H := HA.out
    clear HA
    simp only [spec_UpOf.l0] at H
    by_cases c5 : x3_1 > 0
    ·rw [if_pos c5] at H
     have c5b0 : decide (0 < x3_1) = true := decide_eq_true c5
     clear c5
     (first | rw [c5b0] | (simp only [i64_w, i32_w]; rw [c5b0]) | skip)
     obtain ⟨ji6, hji6⟩ : ∃ j_ : Int, (wrap64 (x3_1 - 1)) = j_ := ⟨_, rfl⟩
     replace H : (if 0 ≤ (ji6) then (if (ji6) < (a0.size : Int) then (if (bt a0 (ji6)) = 47 then ((spec_l1Max.f (ji6) 0).bind fun t360 => (if 0 ≤ t360 then (if t360 ≤ (a0.size : Int) then (some (a0.extract 0 (t360 : Int).toNat)) else (none)) else (none))) else (spec_UpOf.l0 k1 a0 ji6)) else (none)) else (none)) = some r := by first | (rw [hji6] at H; exact H) | (simp only [hji6] at H ⊢; exact H)
     have hji6w : (IntKind.i64.wrap (x3_1 - 1)) = ji6 := (i64_w _).trans hji6
     by_cases c7 : 0 ≤ (ji6)
     ·rw [if_pos c7] at H
      have c7b0 : decide (0 ≤ (ji6)) = true := decide_eq_true c7
      clear c7
      by_cases c8 : (ji6) < (a0.size : Int)
      ·rw [if_pos c8] at H
       have c8b0 : decide ((ji6) < (a0.size : Int)) = true := decide_eq_true c8
       clear c8
       have HF := Aside0.mk H
       clear H
       have p9 : 0 ≤ ((ji6) : Int) := of_decide_eq_true (by first | (with_reducible assumption) | assumption)
       have q9 : (ji6) < (a0.size : Int) := of_decide_eq_true (by first | (with_reducible assumption) | assumption)
       have hx9 := bt_at a0 (ji6)
       replace p9 := eq_true p9
       replace q9 := eq_true q9
       go_upto_if 17 with (fail)
       have H := HF.out
       clear HF
       by_cases c10 : (bt a0 (ji6)) = 47
       ·rw [if_pos c10] at H
        have c10b0 : ((bt a0 (ji6)) == 47) = true := beq_iff_eq.mpr c10
        have c10b1 : ((bt a0 (ji6)) != 47) = false := bne_eq_false_iff_eq.mpr c10
        clear c10
        (first | rw [c10b0] | (simp only [i64_w, i32_w]; rw [c10b0]) | skip)
        replace H := Option.bind_eq_some_iff.mp H
        obtain ⟨t360, A110, H⟩ := H
        replace H : (if 0 ≤ t360 then (if t360 ≤ (a0.size : Int) then (some (a0.extract 0 (t360 : Int).toNat)) else (none)) else (none)) = some r := H
        have A11 := Aside0.mk A110
        clear A110
        by_cases c12 : 0 ≤ t360
        ·rw [if_pos c12] at H
         have c12b0 := eq_true c12
         have c12b1 : decide (0 ≤ t360) = true := decide_eq_true c12
         clear c12
         by_cases c13 : t360 ≤ (a0.size : Int)
         ·rw [if_pos c13] at H
          have c13b0 := eq_true c13
          have c13b1 : decide (t360 ≤ (a0.size : Int)) = true := decide_eq_true c13
          clear c13
          obtain rfl := Option.some.inj H
          go_wp2_with (first | ((with_reducible refine gate_callee (f := 50) rfl ?_); refine goesL_ (some 23) rfl rfl Tryz.func50 (by kernel_rfl) rfl #[.int .i64 ji6, .int .i64 0] rfl (by (try simp only [List.map_toArray, List.map_cons, List.map_nil]); first | done | (simp only [hji6]; rfl) | rfl | (simp only [List.length_drop, List.length_take]; rfl)) ?_; (with_reducible refine (spec_l1Max.calls ji6 0 t360 _ A11.out).mono ?_); rintro e w' ⟨rfl, ⟨nd, rfl⟩⟩; refine ⟨_, rfl, ?_⟩))
          go_ret
          exact ⟨by first | rfl | (simp [errW_none, errW_some] <;> rfl) | (simp only [← hji6]; first | rfl | (simp [errW_none, errW_some] <;> rfl)) | (simp [*, errW_none, errW_some] <;> rfl), by repeat (first | exact HB.out | apply below_alloc | apply pw_below_drewN | apply below_drew1)⟩
         ·rw [if_neg c13] at H
          exact absurd H (by simp)
        ·rw [if_neg c12] at H
         exact absurd H (by simp)
       ·rw [if_neg c10] at H
        have c10b0 : ((bt a0 (ji6)) == 47) = false := beq_eq_false_iff_ne.mpr c10
        have c10b1 : ((bt a0 (ji6)) != 47) = true := bne_iff_ne.mpr c10
        (first | rw [c10b0] | (simp only [i64_w, i32_w]; rw [c10b0]) | skip)
        have H' := Aside0.mk H
        clear H
        go_wp2
        go_roundg k1
        case measure => have := HK1.out; omega
        case rel => exact ⟨(ji6), (by first | rfl | (simp; done) | (simp only [← hji6] <;> (first | rfl | simp)) | (simp [*]; done)), H', ⟨by have := HK1.out; omega⟩, ⟨by repeat (first | exact HB.out | apply below_alloc | apply pw_below_drewN | apply below_drew1)⟩⟩
      ·rw [if_neg c8] at H
       exact absurd H (by simp)
     ·rw [if_neg c7] at H
      exact absurd H (by simp)
    ·rw [if_neg c5] at H
     have c5b0 : decide (0 < x3_1) = false := decide_eq_false c5
     clear c5
     (first | rw [c5b0] | (simp only [i64_w, i32_w]; rw [c5b0]) | skip)
     replace H := Option.bind_eq_some_iff.mp H
     obtain ⟨t361, A140, H⟩ := H
     replace H : (if 0 ≤ t361 then (if t361 ≤ (a0.size : Int) then (some (a0.extract 0 (t361 : Int).toNat)) else (none)) else (none)) = some r := H
     have A14 := Aside0.mk A140
     clear A140
     by_cases c15 : 0 ≤ t361
     ·rw [if_pos c15] at H
      have c15b0 := eq_true c15
      have c15b1 : decide (0 ≤ t361) = true := decide_eq_true c15
      clear c15
      by_cases c16 : t361 ≤ (a0.size : Int)
      ·rw [if_pos c16] at H
       have c16b0 := eq_true c16
       have c16b1 : decide (t361 ≤ (a0.size : Int)) = true := decide_eq_true c16
       clear c16
       obtain rfl := Option.some.inj H
       go_wp2_with (first | ((with_reducible refine gate_callee (f := 50) rfl ?_); refine goesL_ (some 23) rfl rfl Tryz.func50 (by kernel_rfl) rfl #[.int .i64 (wrap64 (x3_1 - 1)), .int .i64 0] rfl (by (try simp only [List.map_toArray, List.map_cons, List.map_nil]); first | done | rfl) ?_; (with_reducible refine (spec_l1Max.calls (wrap64 (x3_1 - 1)) 0 t361 _ A14.out).mono ?_); rintro e w' ⟨rfl, ⟨nd, rfl⟩⟩; refine ⟨_, rfl, ?_⟩))
       go_ret
       exact ⟨by first | rfl | (simp [*] <;> rfl), by repeat (first | exact HB.out | apply below_alloc | apply pw_below_drewN | apply below_drew1)⟩
      ·rw [if_neg c16] at H
       exact absurd H (by simp)
     ·rw [if_neg c15] at H
      exact absurd H (by simp)
 ·replace c4 := Bool.eq_false_iff.mpr c4
  subst c4
  have H1 : (some (⟨#[]⟩ : ByteArray)) = some r := by rw [if_neg (show ¬ (false = true) by decide)] at H; exact H
  clear H
  have H := H1
  clear H1
  obtain rfl := Option.some.inj H
  go_wp2
  go_ret
  exact ⟨by first | rfl | (simp [*] <;> rfl), by repeat (first | exact HB.out | apply below_alloc | apply pw_below_drewN | apply below_drew1)⟩

/-! ### spec_ViewOf: function 23 -/
def spec_ViewOf.f (k : Nat) (a0 : ByteArray) : Option (Int) := (spec_Steps.f k a0).bind fun bt362 => (if bt362.2 = true then (if (bt362.1.length : Int) = 0 then (some 0) else (if 0 ≤ (wrap64 ((bt362.1.length : Int) - 1)) then (if (wrap64 ((bt362.1.length : Int) - 1)) < (bt362.1.length : Int) then (some ((rd_T41 bt362.1 (wrap64 ((bt362.1.length : Int) - 1))).f0)) else (none)) else (none))) else (some 0))
theorem spec_ViewOf.mono : ∀ a0 k, LeO (spec_ViewOf.f k a0) (spec_ViewOf.f (k + 1) a0) := by
 intro a0 k
 unfold spec_ViewOf.f
 repeat' first
   | (with_reducible exact spec_Steps.mono _ _)
   | (with_reducible exact LeO.refl _)
   | (with_reducible exact LeO.none _)
   | (with_reducible refine LeO.ite ?_ ?_)
   | (with_reducible refine LeO.bind ?_ (fun _ => ?_))
   | exact spec_Steps.mono _ _
   | exact LeO.none _
   | refine LeO.ite ?_ ?_
   | refine LeO.bind ?_ (fun _ => ?_)
theorem spec_ViewOf.calls (k : Nat) (a0 : ByteArray) (r : Int) (w : World) (h : spec_ViewOf.f k a0 = some r) :
  Calls Tryz.prog 23 #[.string a0] w fun e w' => e = .returned (.int .i64 r) ∧ Below w.heap.size w w' := by
 have HB := Aside0.mk (Below.refl w.heap.size w)
 have H : ((spec_Steps.f k a0).bind fun bt362 => (if bt362.2 = true then (if (bt362.1.length : Int) = 0 then (some 0) else (if 0 ≤ (wrap64 ((bt362.1.length : Int) - 1)) then (if (wrap64 ((bt362.1.length : Int) - 1)) < (bt362.1.length : Int) then (some ((rd_T41 bt362.1 (wrap64 ((bt362.1.length : Int) - 1))).f0)) else (none)) else (none))) else (some 0))) = some r := h
 clear h
 replace H := Option.bind_eq_some_iff.mp H
 obtain ⟨⟨t362, t363⟩, A20, H⟩ := H
 replace H : (if t363 = true then (if (t362.length : Int) = 0 then (some 0) else (if 0 ≤ (wrap64 ((t362.length : Int) - 1)) then (if (wrap64 ((t362.length : Int) - 1)) < (t362.length : Int) then (some ((rd_T41 t362 (wrap64 ((t362.length : Int) - 1))).f0)) else (none)) else (none))) else (some 0)) = some r := H
 have A2 := Aside0.mk A20
 clear A20
 by_cases c3 : t363 = true
 ·subst c3
  have H1 : (if (t362.length : Int) = 0 then (some 0) else (if 0 ≤ (wrap64 ((t362.length : Int) - 1)) then (if (wrap64 ((t362.length : Int) - 1)) < (t362.length : Int) then (some ((rd_T41 t362 (wrap64 ((t362.length : Int) - 1))).f0)) else (none)) else (none))) = some r := by rw [if_pos rfl] at H; exact H
  clear H
  have H := H1
  clear H1
  have HF := Aside0.mk H
  clear H
  go_enter Tryz.func23, Tryz.ntmps23
  go_upto_if 16 with (go_big_may; first | ((with_reducible refine gate_callee (f := 7) rfl ?_); refine goesL_ (some 7) rfl rfl Tryz.func7 (by kernel_rfl) rfl #[.string a0] rfl (by (try simp only [List.map_toArray, List.map_cons, List.map_nil]); first | done | rfl) ?_; (with_reducible refine (spec_Steps.calls k a0 t362 true _ A2.out).mono ?_); rintro e w4 ⟨v364, rfl, ho0, hb⟩; refine ⟨_, rfl, ?_⟩; have n0_ := Aside0.mk (Kd.S_lower ho0 (below_size (by repeat (first | exact HB.out | apply below_alloc | apply pw_below_drewN | apply below_drew1)))); have n1_ := Aside0.mk (below_step (by repeat (first | exact HB.out | apply below_alloc | apply pw_below_drewN | apply below_drew1)) hb); clear HB; have HO365 := n0_; have HB := n1_; clear n0_ n1_; (try clear hb); (try clear ho0); obtain ⟨Ao5, co5, eo5⟩ := Kd.S_slice HO365.out; subst eo5))
  have H := HF.out
  clear HF
  by_cases c6 : (t362.length : Int) = 0
  ·rw [if_pos c6] at H
   have c6b0 : ((t362.length : Int) == 0) = true := beq_iff_eq.mpr c6
   have c6b1 : ((t362.length : Int) != 0) = false := bne_eq_false_iff_eq.mpr c6
   clear c6
   (first | rw [c6b0] | (simp only [i64_w, i32_w]; rw [c6b0]) | skip)
   obtain rfl := Option.some.inj H
   go_wp2
   go_ret
   exact ⟨by first | rfl | (simp [*] <;> rfl), by repeat (first | exact HB.out | apply below_alloc | apply pw_below_drewN | apply below_drew1)⟩
  ·rw [if_neg c6] at H
   have c6b0 : ((t362.length : Int) == 0) = false := beq_eq_false_iff_ne.mpr c6
   have c6b1 : ((t362.length : Int) != 0) = true := bne_iff_ne.mpr c6
   have c6b2 : ¬ (t362 = []) := fun h_ => c6 (by rw [h_]; rfl)
   (first | rw [c6b0] | (simp only [i64_w, i32_w]; rw [c6b0]) | skip)
   obtain ⟨ji7, hji7⟩ : ∃ j_ : Int, (wrap64 ((t362.length : Int) - 1)) = j_ := ⟨_, rfl⟩
   replace H : (if 0 ≤ (ji7) then (if (ji7) < (t362.length : Int) then (some ((rd_T41 t362 (ji7)).f0)) else (none)) else (none)) = some r := by first | (rw [hji7] at H; exact H) | (simp only [hji7] at H ⊢; exact H)
   have hji7w : (IntKind.i64.wrap ((t362.length : Int) - 1)) = ji7 := (i64_w _).trans hji7
   by_cases c8 : 0 ≤ (ji7)
   ·rw [if_pos c8] at H
    have c8b0 : decide (0 ≤ (ji7)) = true := decide_eq_true c8
    clear c8
    by_cases c9 : (ji7) < (t362.length : Int)
    ·rw [if_pos c9] at H
     have c9b0 : decide ((ji7) < (t362.length : Int)) = true := decide_eq_true c9
     clear c9
     obtain rfl := Option.some.inj H
     have p366 : 0 ≤ ((ji7) : Int) := of_decide_eq_true (by first | (with_reducible assumption) | assumption)
     have q366 : (ji7) < (t362.length : Int) := of_decide_eq_true (by first | (with_reducible assumption) | assumption)
     obtain ⟨ad366, A366_1, c366_1, e366, hx366_0, hx366_1, hl366_1, hi366_1⟩ := at_T41 (Kd.S_reads' HO365.out).2.2 (ji7) p366 q366
     cases e366
     obtain ⟨ce366, hce366, hMe366, hcc366⟩ := Kd.S_get HO365.out z41 (ji7) p366 (by first | exact q366 | exact of_decide_eq_true (by first | (with_reducible assumption) | assumption) | (have e_ := (Kd.S_reads' HO365.out).1; omega))
     obtain ⟨ve366_1, rfl, ge366_1⟩ := k41_openM hMe366
     have hv366_1 := hcc366 1 _ rfl
     rw [add_field _ _ 1 (by omega)] at hv366_1
     replace hv366_1 := Option.some.inj (hv366_1.symm.trans hx366_1)
     rw [hv366_1] at ge366_1
     have HL366_1 := Aside0.mk (show Kd.R k60 60 _ _ _ _ ((rd_T41 t362 (ji7)).f1) from ge366_1)
     clear hv366_1 ge366_1
     clear hcc366 hce366
     have HR366_1 := Aside0.mk hi366_1
     have HC366_1 := Aside0.mk hl366_1
     clear hi366_1 hl366_1
     replace p366 := eq_true p366
     replace q366 := eq_true q366
     go_wp2
     go_ret
     exact ⟨by first | rfl | (simp [errW_none, errW_some] <;> rfl) | (simp only [← hji7]; first | rfl | (simp [errW_none, errW_some] <;> rfl)) | (simp [*, errW_none, errW_some] <;> rfl), by repeat (first | exact HB.out | apply below_alloc | apply pw_below_drewN | apply below_drew1)⟩
    ·rw [if_neg c9] at H
     exact absurd H (by simp)
   ·rw [if_neg c8] at H
    exact absurd H (by simp)
 ·replace c3 := Bool.eq_false_iff.mpr c3
  subst c3
  have H1 : (some 0) = some r := by rw [if_neg (show ¬ (false = true) by decide)] at H; exact H
  clear H
  have H := H1
  clear H1
  obtain rfl := Option.some.inj H
  go_enter Tryz.func23, Tryz.ntmps23
  go_wp2_with (first | ((with_reducible refine gate_callee (f := 7) rfl ?_); refine goesL_ (some 7) rfl rfl Tryz.func7 (by kernel_rfl) rfl #[.string a0] rfl (by (try simp only [List.map_toArray, List.map_cons, List.map_nil]); first | done | rfl) ?_; (with_reducible refine (spec_Steps.calls k a0 t362 false _ A2.out).mono ?_); rintro e w10 ⟨v364, rfl, ho0, hb⟩; refine ⟨_, rfl, ?_⟩; have n0_ := Aside0.mk (Kd.S_lower ho0 (below_size (by repeat (first | exact HB.out | apply below_alloc | apply pw_below_drewN | apply below_drew1)))); have n1_ := Aside0.mk (below_step (by repeat (first | exact HB.out | apply below_alloc | apply pw_below_drewN | apply below_drew1)) hb); clear HB; have HO365 := n0_; have HB := n1_; clear n0_ n1_; (try clear hb); (try clear ho0)))
  go_ret
  exact ⟨by first | rfl | (simp [*] <;> rfl), by repeat (first | exact HB.out | apply below_alloc | apply pw_below_drewN | apply below_drew1)⟩

end Go.Proofs.YtbecffgalndagaaGreatDoor.PFnNames
