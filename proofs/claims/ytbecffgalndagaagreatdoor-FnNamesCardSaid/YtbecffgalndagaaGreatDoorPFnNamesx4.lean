/- Walks of the functions that a law of seat YtbecffgalndagaaGreatDoor reaches, each against a Lean function, printed by this session's wip/myprint.py; no condition of their own. -/
import Derived.Test.YtbecffgalndagaaGreatDoorPFnNamesx0
import Derived.Test.YtbecffgalndagaaGreatDoorPFnNamesx1
import Derived.Test.YtbecffgalndagaaGreatDoorPFnNamesx2
import Derived.Test.YtbecffgalndagaaGreatDoorPFnNamesx3
namespace Go.Proofs.YtbecffgalndagaaGreatDoor.PFnNames
open Go.RowKit Go.Proofs.YtbecffgalndagaaGreatDoorW.PrintWords Go.Proofs.YtbecffgalndagaaGreatDoorW.PrintLast Go.Proofs.YtbecffgalndagaaGreatDoorW.PrintMore
attribute [local go_sem] max2_int min2_int max_two min_two max_three min_three max_four min_four   -- for this text's walks alone
set_option maxHeartbeats 8000000
set_option maxRecDepth 100000
set_option linter.unusedVariables false
set_option linter.unusedSimpArgs false

/-! ### spec_Steps: function 7 -/
mutual
def spec_Steps.j0 : Nat → List (S41) → List (S41) → List ByteArray → Bool → Option ((List (S41)) × Bool)
 | 0, _, _, _, _ => none
 | k + 1, x4, x5, x6, x31 => if x31 = true then (some (x4, false)) else (spec_Steps.l0 k x4 x5 x6 0 1)
def spec_Steps.l0 : Nat → List (S41) → List (S41) → List ByteArray → Int → Int → Option ((List (S41)) × Bool)
 | 0, _, _, _, _, _ => none
 | k + 1, x4, x5, x6, x7, x8 => if x8 < (x6.length : Int) then (if 0 ≤ x8 then ((spec_l2Cut.f k (rdOf ByteArray.empty x6 x8) 124).bind fun bt219 => ((spec_Number.f k bt219.1).bind fun bt222 => ((spec_TxsOf.f k bt219.2.1).bind fun bt224 => (if bt219.2.2 = true then (if bt222.2 = true then (if bt224.2 = true then (if bt222.1 ≤ x7 then (some (x4, false)) else (if bt222.1 > 60 then (some (x4, false)) else (if (bt224.1.length : Int) > 2 then (some (x4, false)) else (if x5.length < 4398046511104 then (spec_Steps.l0 k x4 (x5 ++ [(⟨bt222.1, bt224.1⟩ : S41)]) x6 bt222.1 (wrap64 (x8 + 1))) else (none))))) else (some (x4, false))) else (some (x4, false))) else (some (x4, false)))))) else (none)) else (some (x5, true))
end
def spec_Steps.f (k : Nat) (a0 : ByteArray) : Option ((List (S41)) × Bool) := (some (([] : List (S41)) : List (S41))).bind fun y208 => ((some (([] : List (S41)) : List (S41))).bind fun y211 => (if a0.toList = ([] : List UInt8) then (some (y211, true)) else ((spec_Split.f k a0 47).bind fun t214 => (if 0 < (t214.length : Int) then (if (rdOf ByteArray.empty t214 0).toList = ([] : List UInt8) then (spec_Steps.j0 k y208 y211 t214 (decide ((t214.length : Int) > 31))) else (spec_Steps.j0 k y208 y211 t214 true)) else (none)))))
theorem spec_Steps.mono_l : ∀ k, (∀ y0 y1 y2 y3, LeO (spec_Steps.j0 k y0 y1 y2 y3) (spec_Steps.j0 (k + 1) y0 y1 y2 y3)) ∧ (∀ y0 y1 y2 y3 y4, LeO (spec_Steps.l0 k y0 y1 y2 y3 y4) (spec_Steps.l0 (k + 1) y0 y1 y2 y3 y4))
 | 0 => ⟨fun _ _ _ _ r h => by simp [spec_Steps.j0] at h, fun _ _ _ _ _ r h => by simp [spec_Steps.l0] at h⟩
 | k + 1 => by
  obtain ⟨ih0, ih1⟩ := spec_Steps.mono_l k
  refine ⟨?_, ?_⟩
  ·intro y0 y1 y2 y3
   unfold spec_Steps.j0
   repeat' first
   | (with_reducible exact ih0 _ _ _ _)
   | (with_reducible exact ih1 _ _ _ _ _)
   | (with_reducible exact spec_Number.mono _ _)
   | (with_reducible exact spec_Split.mono _ _ _)
   | (with_reducible exact spec_TxsOf.mono _ _)
   | (with_reducible exact spec_l2Cut.mono _ _ _)
   | (with_reducible exact LeO.refl _)
   | (with_reducible exact LeO.none _)
   | (with_reducible refine LeO.ite ?_ ?_)
   | (with_reducible refine LeO.bind ?_ (fun _ => ?_))
   | exact ih0 _ _ _ _
   | exact ih1 _ _ _ _ _
   | exact spec_Number.mono _ _
   | exact spec_Split.mono _ _ _
   | exact spec_TxsOf.mono _ _
   | exact spec_l2Cut.mono _ _ _
   | exact LeO.none _
   | refine LeO.ite ?_ ?_
   | refine LeO.bind ?_ (fun _ => ?_)
  ·intro y0 y1 y2 y3 y4
   unfold spec_Steps.l0
   repeat' first
   | (with_reducible exact ih0 _ _ _ _)
   | (with_reducible exact ih1 _ _ _ _ _)
   | (with_reducible exact spec_Number.mono _ _)
   | (with_reducible exact spec_Split.mono _ _ _)
   | (with_reducible exact spec_TxsOf.mono _ _)
   | (with_reducible exact spec_l2Cut.mono _ _ _)
   | (with_reducible exact LeO.refl _)
   | (with_reducible exact LeO.none _)
   | (with_reducible refine LeO.ite ?_ ?_)
   | (with_reducible refine LeO.bind ?_ (fun _ => ?_))
   | exact ih0 _ _ _ _
   | exact ih1 _ _ _ _ _
   | exact spec_Number.mono _ _
   | exact spec_Split.mono _ _ _
   | exact spec_TxsOf.mono _ _
   | exact spec_l2Cut.mono _ _ _
   | exact LeO.none _
   | refine LeO.ite ?_ ?_
   | refine LeO.bind ?_ (fun _ => ?_)
theorem spec_Steps.mono : ∀ a0 k, LeO (spec_Steps.f k a0) (spec_Steps.f (k + 1) a0) := by
 intro a0 k
 obtain ⟨ih0, ih1⟩ := spec_Steps.mono_l k
 unfold spec_Steps.f
 repeat' first
   | (with_reducible exact ih0 _ _ _ _)
   | (with_reducible exact ih1 _ _ _ _ _)
   | (with_reducible exact spec_Number.mono _ _)
   | (with_reducible exact spec_Split.mono _ _ _)
   | (with_reducible exact spec_TxsOf.mono _ _)
   | (with_reducible exact spec_l2Cut.mono _ _ _)
   | (with_reducible exact LeO.refl _)
   | (with_reducible exact LeO.none _)
   | (with_reducible refine LeO.ite ?_ ?_)
   | (with_reducible refine LeO.bind ?_ (fun _ => ?_))
   | exact ih0 _ _ _ _
   | exact ih1 _ _ _ _ _
   | exact spec_Number.mono _ _
   | exact spec_Split.mono _ _ _
   | exact spec_TxsOf.mono _ _
   | exact spec_l2Cut.mono _ _ _
   | exact LeO.none _
   | refine LeO.ite ?_ ?_
   | refine LeO.bind ?_ (fun _ => ?_)
theorem spec_Steps.calls (k : Nat) (a0 : ByteArray) (r1 : List (S41)) (r2 : Bool) (w : World) (h : spec_Steps.f k a0 = some (r1, r2)) :
  Calls Tryz.prog 7 #[.string a0] w fun e w' => ∃ v0_ : Value, e = .returned (.tuple #[v0_, .bool r2]) ∧ Kd.S k41 41 w' w.heap.size (fun _ => True) v0_ r1 ∧ Below w.heap.size w w' := by
 have hu41 := Tryz.underlying41
 have HB := Aside0.mk (Below.refl w.heap.size w)
 have H : ((some (([] : List (S41)) : List (S41))).bind fun y208 => ((some (([] : List (S41)) : List (S41))).bind fun y211 => (if a0.toList = ([] : List UInt8) then (some (y211, true)) else ((spec_Split.f k a0 47).bind fun t214 => (if 0 < (t214.length : Int) then (if (rdOf ByteArray.empty t214 0).toList = ([] : List UInt8) then (spec_Steps.j0 k y208 y211 t214 (decide ((t214.length : Int) > 31))) else (spec_Steps.j0 k y208 y211 t214 true)) else (none)))))) = some (r1, r2) := h
 clear h
 obtain ⟨y208, hy208⟩ : ∃ y_ : List (S41), y_ = (([] : List (S41))) := ⟨_, rfl⟩
 replace H : ((some (([] : List (S41)) : List (S41))).bind fun y211 => (if a0.toList = ([] : List UInt8) then (some (y211, true)) else ((spec_Split.f k a0 47).bind fun t214 => (if 0 < (t214.length : Int) then (if (rdOf ByteArray.empty t214 0).toList = ([] : List UInt8) then (spec_Steps.j0 k y208 y211 t214 (decide ((t214.length : Int) > 31))) else (spec_Steps.j0 k y208 y211 t214 true)) else (none))))) = some (r1, r2) := by first | (rw [hy208]; with_reducible exact H) | (have H2_ := (Option.bind_some _ _).symm.trans H; rw [hy208]; with_reducible exact H2_) | (have H2_ := (Option.bind_some _ _).symm.trans H; with_reducible exact H2_) | with_reducible exact H | (rw [hy208]; exact H) | exact H
 have Ny208 := Aside0.mk hy208
 clear hy208
 obtain ⟨y211, hy211⟩ : ∃ y_ : List (S41), y_ = (([] : List (S41))) := ⟨_, rfl⟩
 replace H : (if a0.toList = ([] : List UInt8) then (some (y211, true)) else ((spec_Split.f k a0 47).bind fun t214 => (if 0 < (t214.length : Int) then (if (rdOf ByteArray.empty t214 0).toList = ([] : List UInt8) then (spec_Steps.j0 k y208 y211 t214 (decide ((t214.length : Int) > 31))) else (spec_Steps.j0 k y208 y211 t214 true)) else (none)))) = some (r1, r2) := by first | (rw [hy211]; with_reducible exact H) | (have H2_ := (Option.bind_some _ _).symm.trans H; rw [hy211]; with_reducible exact H2_) | (have H2_ := (Option.bind_some _ _).symm.trans H; with_reducible exact H2_) | with_reducible exact H | (rw [hy211]; exact H) | exact H
 have Ny211 := Aside0.mk hy211
 clear hy211
 have HF := Aside0.mk H
 clear H
 go_enter Tryz.func7, Tryz.ntmps7
 go_upto_if 19 with (go_big_may; first | ((with_reducible refine gate_dst (N := 16) rfl ?_); (try (refine gate_guard (by rfl) ?_; dsimp only)); refine Kd.S_lit k41 _ 41 ?hg (N := 16) ?hd (xs := ([] : List (S41))) (inner := []) (ok := fun _ => True) (okp := fun _ => True) ?hr ?hp (fun _ hk => hk) trivial (Below.refl _ _) (Nat.le_refl _) (by simp) ?_; (case hd => rfl); (case hg => rfl); (case hr => first | (go_simp; done) | (go_simp; rfl)); (case hp => exact (Reps.none _ _)); intro v209 w2 ho3 hb hg_ hnew_; clear hg_ hnew_; (first | rw [← Ny208.out] at ho3 | (simp only [Int.reduceToNat] at ho3; rw [← Ny208.out] at ho3)); have n0_ := Aside0.mk (Kd.S_lower ho3 (below_size (by repeat (first | exact HB.out | apply below_alloc | apply pw_below_drewN | apply below_drew1)))); have n1_ := Aside0.mk (below_step (by repeat (first | exact HB.out | apply below_alloc | apply pw_below_drewN | apply below_drew1)) hb); clear HB; have HO210 := n0_; have HB := n1_; clear n0_ n1_; clear hb ho3) | ((with_reducible refine gate_dst (N := 17) rfl ?_); (try (refine gate_guard (by rfl) ?_; dsimp only)); refine Kd.S_lit k41 _ 41 ?hg (N := 17) ?hd (xs := ([] : List (S41))) (inner := []) (ok := fun _ => True) (okp := fun _ => True) ?hr ?hp (fun _ hk => hk) trivial (Below.refl _ _) (Nat.le_refl _) (by simp) ?_; (case hd => rfl); (case hg => rfl); (case hr => first | (go_simp; done) | (go_simp; rfl)); (case hp => exact (Reps.none _ _)); intro v212 w4 ho5 hb hg_ hnew_; clear hg_ hnew_; (first | rw [← Ny211.out] at ho5 | (simp only [Int.reduceToNat] at ho5; rw [← Ny211.out] at ho5)); have n0_ := Aside0.mk (Kd.S_elder' (by (with_reducible repeat (first | apply Kd.S_alloc | apply Kd.S_drewN | apply Kd.S_drew)); exact HO210.out) (Kd.S_base ho5) hb); have n1_ := Aside0.mk (Kd.S_lower (Kd.S_new' ho5 (Kd.S_lt (by (with_reducible repeat (first | apply Kd.S_alloc | apply Kd.S_drewN | apply Kd.S_drew)); exact HO210.out))) (below_size (by repeat (first | exact HB.out | apply below_alloc | apply pw_below_drewN | apply below_drew1)))); have n2_ := Aside0.mk (below_step (by repeat (first | exact HB.out | apply below_alloc | apply pw_below_drewN | apply below_drew1)) hb); clear HO210; clear HB; have HO210 := n0_; have HO213 := n1_; have HB := n2_; clear n0_ n1_ n2_; clear hb ho5))
 have H := HF.out
 clear HF
 by_cases c6 : a0.toList = ([] : List UInt8)
 ·rw [if_pos c6] at H
  have c6b0 : (a0.toList == ([] : List UInt8)) = true := beq_iff_eq.mpr c6
  have c6b8 : (a0.toList).isEmpty = true := List.isEmpty_iff.2 c6
  have c6b1 : (a0.toList != ([] : List UInt8)) = false := bne_eq_false_iff_eq.mpr c6
  clear c6
  (first | rw [c6b8] | rw [c6b0] | (simp only [i64_w, i32_w]; rw [c6b0]) | skip)
  simp only [Option.some.injEq, Prod.mk.injEq] at H
  obtain ⟨rfl, rfl⟩ := H
  go_wp2
  go_ret2
  exact ⟨_, by first | rfl | (simp [*] <;> rfl), by (with_reducible repeat (first | apply Kd.S_alloc | apply Kd.S_drewN | apply Kd.S_drew)); exact Kd.S_mono HO213.out (fun _ hk => trivial), by repeat (first | exact HB.out | apply below_alloc | apply pw_below_drewN | apply below_drew1)⟩
 ·rw [if_neg c6] at H
  have c6b0 : (a0.toList == ([] : List UInt8)) = false := beq_eq_false_iff_ne.mpr c6
  have c6b8 : (a0.toList).isEmpty = false := Bool.eq_false_iff.2 (fun h_ => c6 (List.isEmpty_iff.1 h_))
  have c6b1 : (a0.toList != ([] : List UInt8)) = true := bne_iff_ne.mpr c6
  (first | rw [c6b8] | rw [c6b0] | (simp only [i64_w, i32_w]; rw [c6b0]) | skip)
  replace H := Option.bind_eq_some_iff.mp H
  obtain ⟨t214, A70, H⟩ := H
  replace H : (if 0 < (t214.length : Int) then (if (rdOf ByteArray.empty t214 0).toList = ([] : List UInt8) then (spec_Steps.j0 k y208 y211 t214 (decide ((t214.length : Int) > 31))) else (spec_Steps.j0 k y208 y211 t214 true)) else (none)) = some (r1, r2) := H
  have A7 := Aside0.mk A70
  clear A70
  have HC8 := Aside0.mk H
  clear H
  go_upto_region 6 with (first | ((with_reducible refine gate_callee (f := 35) rfl ?_); refine goesL_ (some 22) rfl rfl Tryz.func35 (by kernel_rfl) rfl #[.string a0, .int .u8 47] rfl (by (try simp only [List.map_toArray, List.map_cons, List.map_nil]); first | done | rfl) ?_; (with_reducible refine (spec_Split.calls k a0 47 t214 _ A7.out).mono ?_); rintro e w9 ⟨v215, rfl, ho0, hb⟩; refine ⟨_, rfl, ?_⟩; have n0_ := Aside0.mk (Kd.S_below (by (with_reducible repeat (first | apply Kd.S_alloc | apply Kd.S_drewN | apply Kd.S_drew)); exact HO210.out) hb); have n1_ := Aside0.mk (Kd.S_below (by (with_reducible repeat (first | apply Kd.S_alloc | apply Kd.S_drewN | apply Kd.S_drew)); exact HO213.out) hb); have n2_ := Aside0.mk (Kd.R_lower ho0 (below_size (by repeat (first | exact HB.out | apply below_alloc | apply pw_below_drewN | apply below_drew1)))); have n3_ := Aside0.mk (below_step (by repeat (first | exact HB.out | apply below_alloc | apply pw_below_drewN | apply below_drew1)) hb); clear HO210; clear HO213; clear HB; have HO210 := n0_; have HO213 := n1_; have HO216 := n2_; have HB := n3_; clear n0_ n1_ n2_ n3_; (try clear hb); (try clear ho0)))
  (try simp only [Act.put, List.setIfInBounds_toArray, List.set_cons_zero, List.set_cons_succ])
  go_cut [31] (fun v31 wc => ∃ (kq : Nat) (x31_7 : Bool), v31 = .bool x31_7 ∧ Aside0 (spec_Steps.j0 kq y208 y211 t214 x31_7 = some (r1, r2)) ∧ Aside0 (kq ≤ k) ∧ Aside0 (Kd.S k41 41 wc w.heap.size (fun k_ => some k_ ≠ (v212 : Value).ownBlock) v209 y208) ∧ Aside0 (Kd.S k41 41 wc w.heap.size (fun k_ => some k_ ≠ (v209 : Value).ownBlock) v212 y211) ∧ Aside0 (Kd.R Kd.string 9 wc w.heap.size (fun _ => True) v215 t214) ∧ Aside0 (Below w.heap.size w wc))
  case first =>
   have H := HC8.out
   clear HC8
   by_cases c10 : 0 < (t214.length : Int)
   ·rw [if_pos c10] at H
    have c10b0 : decide (0 < (t214.length : Int)) = true := decide_eq_true c10
    have c10b1 : decide (0 < t214.length) = true := decide_eq_true (by omega)
    clear c10
    (first | rw [c10b0] | (simp only [i64_w, i32_w]; rw [c10b0]) | skip)
    by_cases c11 : (rdOf ByteArray.empty t214 0).toList = ([] : List UInt8)
    ·rw [if_pos c11] at H
     have c11b0 : ((rdOf ByteArray.empty t214 0).toList == ([] : List UInt8)) = true := beq_iff_eq.mpr c11
     have c11b8 : ((rdOf ByteArray.empty t214 0).toList).isEmpty = true := List.isEmpty_iff.2 c11
     have c11b1 : ((rdOf ByteArray.empty t214 0).toList != ([] : List UInt8)) = false := bne_eq_false_iff_eq.mpr c11
     clear c11
     have H' := Aside0.mk H
     clear H
     obtain ⟨Ao12, co12, eo12⟩ := Kd.R_slice HO216.out
     subst eo12
     have p217 : 0 ≤ (0 : Int) := (by omega)
     have q217 : 0 < (t214.length : Int) := of_decide_eq_true (by first | (with_reducible assumption) | assumption)
     obtain ⟨ad217, e217, hx217_0⟩ := Kd.at_string (Kd.R_reads' HO216.out).2.2 0 p217 q217
     cases e217
     have qi217 : (0 < t214.length) = True := eq_true (by omega)
     (try rw [show ((0 : Int)).toNat = 0 from rfl] at hx217_0)
     (try rw [Addr.add_zero'] at hx217_0)
     replace p217 := eq_true p217
     replace q217 := eq_true q217
     go_wp2
     go_meet
     case rel => exact ⟨_, (decide ((t214.length : Int) > 31)), (by first | rfl | (simp; done) | (simp [*]; done)), H', ⟨by first | omega | exact Nat.le_refl _⟩, ⟨by (with_reducible repeat (first | apply Kd.S_alloc | apply Kd.S_drewN | apply Kd.S_drew)); exact Kd.S_mono HO210.out (fun _ hk => hk.2)⟩, ⟨by (with_reducible repeat (first | apply Kd.S_alloc | apply Kd.S_drewN | apply Kd.S_drew)); exact Kd.S_mono HO213.out (fun _ hk => hk.2)⟩, ⟨by (with_reducible repeat (first | apply Kd.R_alloc | apply Kd.R_drewN | apply Kd.R_drew)); exact HO216.out⟩, ⟨by repeat (first | exact HB.out | apply below_alloc | apply pw_below_drewN | apply below_drew1)⟩⟩
    ·rw [if_neg c11] at H
     have c11b0 : ((rdOf ByteArray.empty t214 0).toList == ([] : List UInt8)) = false := beq_eq_false_iff_ne.mpr c11
     have c11b8 : ((rdOf ByteArray.empty t214 0).toList).isEmpty = false := Bool.eq_false_iff.2 (fun h_ => c11 (List.isEmpty_iff.1 h_))
     have c11b1 : ((rdOf ByteArray.empty t214 0).toList != ([] : List UInt8)) = true := bne_iff_ne.mpr c11
     have H' := Aside0.mk H
     clear H
     obtain ⟨Ao13, co13, eo13⟩ := Kd.R_slice HO216.out
     subst eo13
     have p217 : 0 ≤ (0 : Int) := (by omega)
     have q217 : 0 < (t214.length : Int) := of_decide_eq_true (by first | (with_reducible assumption) | assumption)
     obtain ⟨ad217, e217, hx217_0⟩ := Kd.at_string (Kd.R_reads' HO216.out).2.2 0 p217 q217
     cases e217
     have qi217 : (0 < t214.length) = True := eq_true (by omega)
     (try rw [show ((0 : Int)).toNat = 0 from rfl] at hx217_0)
     (try rw [Addr.add_zero'] at hx217_0)
     replace p217 := eq_true p217
     replace q217 := eq_true q217
     go_wp2
     go_meet
     case rel => exact ⟨_, (true), (by first | rfl | (simp; done) | (simp [*]; done)), H', ⟨by first | omega | exact Nat.le_refl _⟩, ⟨by (with_reducible repeat (first | apply Kd.S_alloc | apply Kd.S_drewN | apply Kd.S_drew)); exact Kd.S_mono HO210.out (fun _ hk => hk.2)⟩, ⟨by (with_reducible repeat (first | apply Kd.S_alloc | apply Kd.S_drewN | apply Kd.S_drew)); exact Kd.S_mono HO213.out (fun _ hk => hk.2)⟩, ⟨by (with_reducible repeat (first | apply Kd.R_alloc | apply Kd.R_drewN | apply Kd.R_drew)); exact HO216.out⟩, ⟨by repeat (first | exact HB.out | apply below_alloc | apply pw_below_drewN | apply below_drew1)⟩⟩
   ·rw [if_neg c10] at H
    exact absurd H (by simp)
  case rest =>
   clear HC8
   try clear c1
   try clear p2
   try clear q2
   try clear hx2
   try clear qi2
   try clear c3
   try clear c6
   try clear c6b0
   try clear c6b1
   try clear c7
   try clear c10
   try clear c10b0
   try clear c10b1
   try clear c11
   try clear c11b0
   try clear c11b1
   try clear hx217_0
   try clear p217
   try clear q217
   obtain ⟨kq, x31_7, rfl, HA, HJ7, HO_4, HO_5, HO_6, HB⟩ := hcut
   cases kq with
   | zero => exact absurd HA.out (by simp [spec_Steps.j0])
   | succ kj7 =>
    have H := HA.out
    clear HA
    simp only [spec_Steps.j0] at H
    have HF := Aside0.mk H
    clear H
    go_upto_if 31 with (fail)
    have H := HF.out
    clear HF
    by_cases c14 : x31_7 = true
    ·subst c14
     have H1 : (some (y208, false)) = some (r1, r2) := by rw [if_pos rfl] at H; exact H
     clear H
     have H := H1
     clear H1
     simp only [Option.some.injEq, Prod.mk.injEq] at H
     obtain ⟨rfl, rfl⟩ := H
     go_wp2
     go_ret2
     exact ⟨_, by first | rfl | (simp [*] <;> rfl), by (with_reducible repeat (first | apply Kd.S_alloc | apply Kd.S_drewN | apply Kd.S_drew)); exact Kd.S_mono HO_4.out (fun _ hk => trivial), by repeat (first | exact HB.out | apply below_alloc | apply pw_below_drewN | apply below_drew1)⟩
    ·replace c14 := Bool.eq_false_iff.mpr c14
     subst c14
     have H1 : (spec_Steps.l0 kj7 y208 y211 t214 0 1) = some (r1, r2) := by rw [if_neg (show ¬ (false = true) by decide)] at H; exact H
     clear H
     have H := H1
     clear H1
     have H' := Aside0.mk H
     clear H
     go_wp2
     go_loopg [5, 7, 8] kj7 (fun kq v5 v7 v8 w' => ∃ (x5_2 : List (S41)) (x7_2 : Int) (x8_2 : Int), v7 = .int .i64 x7_2 ∧ v8 = .int .i64 x8_2 ∧ Aside0 (spec_Steps.l0 kq y208 x5_2 t214 x7_2 x8_2 = some (r1, r2)) ∧ Aside0 (kq ≤ kj7) ∧ Aside0 (Kd.S k41 41 w' w.heap.size (fun k_ => some k_ ≠ (v5 : Value).ownBlock) v209 y208) ∧ Aside0 (Kd.S k41 41 w' w.heap.size (fun k_ => some k_ ≠ (v209 : Value).ownBlock) v5 x5_2) ∧ Aside0 (Kd.R Kd.string 9 w' w.heap.size (fun _ => True) v215 t214) ∧ Aside0 (Below w.heap.size w w'))
     case atStart => exact ⟨(y211), (0), (1), (by first | rfl | (simp; done) | (simp [*]; done)), (by first | rfl | (simp; done) | (simp [*]; done)), H', ⟨Nat.le_refl _⟩, ⟨by (with_reducible repeat (first | apply Kd.S_alloc | apply Kd.S_drewN | apply Kd.S_drew)); exact HO_4.out⟩, ⟨by (with_reducible repeat (first | apply Kd.S_alloc | apply Kd.S_drewN | apply Kd.S_drew)); exact HO_5.out⟩, ⟨by (with_reducible repeat (first | apply Kd.R_alloc | apply Kd.R_drewN | apply Kd.R_drew)); exact HO_6.out⟩, ⟨by repeat (first | exact HB.out | apply below_alloc | apply pw_below_drewN | apply below_drew1)⟩⟩
     case round =>
      clear H'
      try clear c1
      try clear p2
      try clear q2
      try clear hx2
      try clear qi2
      try clear c3
      try clear c6
      try clear c6b0
      try clear c6b1
      try clear c7
      try clear c10
      try clear c10b0
      try clear c10b1
      try clear c11
      try clear c11b0
      try clear c11b1
      try clear c14
      try clear hx217_0
      try clear p2
      try clear p217
      try clear q2
      try clear q217
      obtain ⟨x5_2, x7_2, x8_2, rfl, rfl, HA, HK2, HO_4, HO_5, HO_6, HB⟩ := hrel
      cases gk with
      | zero => exact absurd HA.out (by simp [spec_Steps.l0])
      | succ k2 =>
       have H := HA.out
       clear HA
       simp only [spec_Steps.l0] at H
       have HF := Aside0.mk H
       clear H
       obtain ⟨Ao15, co15, eo15⟩ := Kd.R_slice HO_6.out
       subst eo15
       go_upto_if 36 with (fail)
       have H := HF.out
       clear HF
       by_cases c16 : x8_2 < (t214.length : Int)
       ·rw [if_pos c16] at H
        have c16b0 : decide (x8_2 < (t214.length : Int)) = true := decide_eq_true c16
        clear c16
        (first | rw [c16b0] | (simp only [i64_w, i32_w]; rw [c16b0]) | skip)
        by_cases c17 : 0 ≤ x8_2
        ·rw [if_pos c17] at H
         have c17b0 : decide (0 ≤ x8_2) = true := decide_eq_true c17
         clear c17
         replace H := Option.bind_eq_some_iff.mp H
         obtain ⟨⟨t219, t220, t221⟩, A180, H⟩ := H
         replace H : ((spec_Number.f k2 t219).bind fun bt222 => ((spec_TxsOf.f k2 t220).bind fun bt224 => (if t221 = true then (if bt222.2 = true then (if bt224.2 = true then (if bt222.1 ≤ x7_2 then (some (y208, false)) else (if bt222.1 > 60 then (some (y208, false)) else (if (bt224.1.length : Int) > 2 then (some (y208, false)) else (if x5_2.length < 4398046511104 then (spec_Steps.l0 k2 y208 (x5_2 ++ [(⟨bt222.1, bt224.1⟩ : S41)]) t214 bt222.1 (wrap64 (x8_2 + 1))) else (none))))) else (some (y208, false))) else (some (y208, false))) else (some (y208, false))))) = some (r1, r2) := H
         have A18 := Aside0.mk A180
         clear A180
         replace H := Option.bind_eq_some_iff.mp H
         obtain ⟨⟨t222, t223⟩, A190, H⟩ := H
         replace H : ((spec_TxsOf.f k2 t220).bind fun bt224 => (if t221 = true then (if t223 = true then (if bt224.2 = true then (if t222 ≤ x7_2 then (some (y208, false)) else (if t222 > 60 then (some (y208, false)) else (if (bt224.1.length : Int) > 2 then (some (y208, false)) else (if x5_2.length < 4398046511104 then (spec_Steps.l0 k2 y208 (x5_2 ++ [(⟨t222, bt224.1⟩ : S41)]) t214 t222 (wrap64 (x8_2 + 1))) else (none))))) else (some (y208, false))) else (some (y208, false))) else (some (y208, false)))) = some (r1, r2) := H
         have A19 := Aside0.mk A190
         clear A190
         replace H := Option.bind_eq_some_iff.mp H
         obtain ⟨⟨t224, t225⟩, A200, H⟩ := H
         replace H : (if t221 = true then (if t223 = true then (if t225 = true then (if t222 ≤ x7_2 then (some (y208, false)) else (if t222 > 60 then (some (y208, false)) else (if (t224.length : Int) > 2 then (some (y208, false)) else (if x5_2.length < 4398046511104 then (spec_Steps.l0 k2 y208 (x5_2 ++ [(⟨t222, t224⟩ : S41)]) t214 t222 (wrap64 (x8_2 + 1))) else (none))))) else (some (y208, false))) else (some (y208, false))) else (some (y208, false))) = some (r1, r2) := H
         have A20 := Aside0.mk A200
         clear A200
         by_cases c21 : t221 = true
         ·subst c21
          have H1 : (if t223 = true then (if t225 = true then (if t222 ≤ x7_2 then (some (y208, false)) else (if t222 > 60 then (some (y208, false)) else (if (t224.length : Int) > 2 then (some (y208, false)) else (if x5_2.length < 4398046511104 then (spec_Steps.l0 k2 y208 (x5_2 ++ [(⟨t222, t224⟩ : S41)]) t214 t222 (wrap64 (x8_2 + 1))) else (none))))) else (some (y208, false))) else (some (y208, false))) = some (r1, r2) := by rw [if_pos rfl] at H; exact H
          clear H
          have H := H1
          clear H1
          by_cases c22 : t223 = true
          ·subst c22
           have H1 : (if t225 = true then (if t222 ≤ x7_2 then (some (y208, false)) else (if t222 > 60 then (some (y208, false)) else (if (t224.length : Int) > 2 then (some (y208, false)) else (if x5_2.length < 4398046511104 then (spec_Steps.l0 k2 y208 (x5_2 ++ [(⟨t222, t224⟩ : S41)]) t214 t222 (wrap64 (x8_2 + 1))) else (none))))) else (some (y208, false))) = some (r1, r2) := by rw [if_pos rfl] at H; exact H
           clear H
           have H := H1
           clear H1
           by_cases c23 : t225 = true
           ·subst c23
            have H1 : (if t222 ≤ x7_2 then (some (y208, false)) else (if t222 > 60 then (some (y208, false)) else (if (t224.length : Int) > 2 then (some (y208, false)) else (if x5_2.length < 4398046511104 then (spec_Steps.l0 k2 y208 (x5_2 ++ [(⟨t222, t224⟩ : S41)]) t214 t222 (wrap64 (x8_2 + 1))) else (none))))) = some (r1, r2) := by rw [if_pos rfl] at H; exact H
            clear H
            have H := H1
            clear H1
            by_cases c24 : t222 ≤ x7_2
            ·rw [if_pos c24] at H
             have c24b0 : decide (t222 ≤ x7_2) = true := decide_eq_true c24
             clear c24
             simp only [Option.some.injEq, Prod.mk.injEq] at H
             obtain ⟨rfl, rfl⟩ := H
             have p218 : 0 ≤ (x8_2 : Int) := of_decide_eq_true (by first | (with_reducible assumption) | assumption)
             have q218 : x8_2 < (t214.length : Int) := of_decide_eq_true (by first | (with_reducible assumption) | assumption)
             obtain ⟨ad218, e218, hx218_0⟩ := Kd.at_string (Kd.R_reads' HO_6.out).2.2 x8_2 p218 q218
             cases e218
             replace p218 := eq_true p218
             replace q218 := eq_true q218
             go_wp2_with (first | ((with_reducible refine gate_callee (f := 36) rfl ?_); refine goesL_ (some 44) rfl rfl Tryz.func36 (by kernel_rfl) rfl #[.string (rdOf ByteArray.empty t214 x8_2), .int .u8 124] rfl (by (try simp only [List.map_toArray, List.map_cons, List.map_nil]); first | done | rfl) ?_; (with_reducible refine (spec_l2Cut.calls k2 (rdOf ByteArray.empty t214 x8_2) 124 t219 t220 true _ A18.out).mono ?_); rintro e w' ⟨rfl, ⟨nd, rfl⟩⟩; refine ⟨_, rfl, ?_⟩) | ((with_reducible refine gate_callee (f := 37) rfl ?_); refine goesL_ (some 50) rfl rfl Tryz.func37 (by kernel_rfl) rfl #[.string t219] rfl (by (try simp only [List.map_toArray, List.map_cons, List.map_nil]); first | done | rfl) ?_; (with_reducible refine (spec_Number.calls k2 t219 t222 true _ A19.out).mono ?_); rintro e w25 ⟨rfl, hb⟩; refine ⟨_, rfl, ?_⟩; have n0_ := Aside0.mk (Kd.S_below (by (with_reducible repeat (first | apply Kd.S_alloc | apply Kd.S_drewN | apply Kd.S_drew)); exact HO_4.out) hb); have n1_ := Aside0.mk (Kd.S_below (by (with_reducible repeat (first | apply Kd.S_alloc | apply Kd.S_drewN | apply Kd.S_drew)); exact HO_5.out) hb); have n2_ := Aside0.mk (Kd.R_below (by (with_reducible repeat (first | apply Kd.R_alloc | apply Kd.R_drewN | apply Kd.R_drew)); exact HO_6.out) hb); have n3_ := Aside0.mk (below_step (by repeat (first | exact HB.out | apply below_alloc | apply pw_below_drewN | apply below_drew1)) hb); clear HO_4; clear HO_5; clear HO_6; clear HB; have HO_4 := n0_; have HO_5 := n1_; have HO_6 := n2_; have HB := n3_; clear n0_ n1_ n2_ n3_; (try clear hb)) | ((with_reducible refine gate_callee (f := 38) rfl ?_); refine goesL_ (some 55) rfl rfl Tryz.func38 (by kernel_rfl) rfl #[.string t220] rfl (by (try simp only [List.map_toArray, List.map_cons, List.map_nil]); first | done | rfl) ?_; (with_reducible refine (spec_TxsOf.calls k2 t220 t224 true _ A20.out).mono ?_); rintro e w26 ⟨v226, rfl, ho0, hb⟩; refine ⟨_, rfl, ?_⟩; have n0_ := Aside0.mk (Kd.S_elder' (by (with_reducible repeat (first | apply Kd.S_alloc | apply Kd.S_drewN | apply Kd.S_drew)); exact HO_4.out) (Kd.R_base ho0) hb); have n1_ := Aside0.mk (Kd.S_elder' (by (with_reducible repeat (first | apply Kd.S_alloc | apply Kd.S_drewN | apply Kd.S_drew)); exact HO_5.out) (Kd.R_base ho0) hb); have n2_ := Aside0.mk (Kd.R_below (by (with_reducible repeat (first | apply Kd.R_alloc | apply Kd.R_drewN | apply Kd.R_drew)); exact HO_6.out) hb); have n3_ := Aside0.mk (Kd.R_lower ho0 (below_size (by repeat (first | exact HB.out | apply below_alloc | apply pw_below_drewN | apply below_drew1)))); have n4_ := Aside0.mk (below_step (by repeat (first | exact HB.out | apply below_alloc | apply pw_below_drewN | apply below_drew1)) hb); clear HO_4; clear HO_5; clear HO_6; clear HB; have HO_4 := n0_; have HO_5 := n1_; have HO_6 := n2_; have HO227 := n3_; have HB := n4_; clear n0_ n1_ n2_ n3_ n4_; (try clear hb); (try clear ho0)))
             go_ret2
             exact ⟨_, by first | rfl | (simp [*] <;> rfl), by (with_reducible repeat (first | apply Kd.S_alloc | apply Kd.S_drewN | apply Kd.S_drew)); exact Kd.S_mono HO_4.out (fun _ hk => trivial), by repeat (first | exact HB.out | apply below_alloc | apply pw_below_drewN | apply below_drew1)⟩
            ·rw [if_neg c24] at H
             have c24b0 : decide (t222 ≤ x7_2) = false := decide_eq_false c24
             clear c24
             by_cases c27 : t222 > 60
             ·rw [if_pos c27] at H
              have c27b0 : decide (60 < t222) = true := decide_eq_true c27
              clear c27
              simp only [Option.some.injEq, Prod.mk.injEq] at H
              obtain ⟨rfl, rfl⟩ := H
              have p218 : 0 ≤ (x8_2 : Int) := of_decide_eq_true (by first | (with_reducible assumption) | assumption)
              have q218 : x8_2 < (t214.length : Int) := of_decide_eq_true (by first | (with_reducible assumption) | assumption)
              obtain ⟨ad218, e218, hx218_0⟩ := Kd.at_string (Kd.R_reads' HO_6.out).2.2 x8_2 p218 q218
              cases e218
              replace p218 := eq_true p218
              replace q218 := eq_true q218
              go_wp2_with (first | ((with_reducible refine gate_callee (f := 36) rfl ?_); refine goesL_ (some 44) rfl rfl Tryz.func36 (by kernel_rfl) rfl #[.string (rdOf ByteArray.empty t214 x8_2), .int .u8 124] rfl (by (try simp only [List.map_toArray, List.map_cons, List.map_nil]); first | done | rfl) ?_; (with_reducible refine (spec_l2Cut.calls k2 (rdOf ByteArray.empty t214 x8_2) 124 t219 t220 true _ A18.out).mono ?_); rintro e w' ⟨rfl, ⟨nd, rfl⟩⟩; refine ⟨_, rfl, ?_⟩) | ((with_reducible refine gate_callee (f := 37) rfl ?_); refine goesL_ (some 50) rfl rfl Tryz.func37 (by kernel_rfl) rfl #[.string t219] rfl (by (try simp only [List.map_toArray, List.map_cons, List.map_nil]); first | done | rfl) ?_; (with_reducible refine (spec_Number.calls k2 t219 t222 true _ A19.out).mono ?_); rintro e w28 ⟨rfl, hb⟩; refine ⟨_, rfl, ?_⟩; have n0_ := Aside0.mk (Kd.S_below (by (with_reducible repeat (first | apply Kd.S_alloc | apply Kd.S_drewN | apply Kd.S_drew)); exact HO_4.out) hb); have n1_ := Aside0.mk (Kd.S_below (by (with_reducible repeat (first | apply Kd.S_alloc | apply Kd.S_drewN | apply Kd.S_drew)); exact HO_5.out) hb); have n2_ := Aside0.mk (Kd.R_below (by (with_reducible repeat (first | apply Kd.R_alloc | apply Kd.R_drewN | apply Kd.R_drew)); exact HO_6.out) hb); have n3_ := Aside0.mk (below_step (by repeat (first | exact HB.out | apply below_alloc | apply pw_below_drewN | apply below_drew1)) hb); clear HO_4; clear HO_5; clear HO_6; clear HB; have HO_4 := n0_; have HO_5 := n1_; have HO_6 := n2_; have HB := n3_; clear n0_ n1_ n2_ n3_; (try clear hb)) | ((with_reducible refine gate_callee (f := 38) rfl ?_); refine goesL_ (some 55) rfl rfl Tryz.func38 (by kernel_rfl) rfl #[.string t220] rfl (by (try simp only [List.map_toArray, List.map_cons, List.map_nil]); first | done | rfl) ?_; (with_reducible refine (spec_TxsOf.calls k2 t220 t224 true _ A20.out).mono ?_); rintro e w29 ⟨v226, rfl, ho0, hb⟩; refine ⟨_, rfl, ?_⟩; have n0_ := Aside0.mk (Kd.S_elder' (by (with_reducible repeat (first | apply Kd.S_alloc | apply Kd.S_drewN | apply Kd.S_drew)); exact HO_4.out) (Kd.R_base ho0) hb); have n1_ := Aside0.mk (Kd.S_elder' (by (with_reducible repeat (first | apply Kd.S_alloc | apply Kd.S_drewN | apply Kd.S_drew)); exact HO_5.out) (Kd.R_base ho0) hb); have n2_ := Aside0.mk (Kd.R_below (by (with_reducible repeat (first | apply Kd.R_alloc | apply Kd.R_drewN | apply Kd.R_drew)); exact HO_6.out) hb); have n3_ := Aside0.mk (Kd.R_lower ho0 (below_size (by repeat (first | exact HB.out | apply below_alloc | apply pw_below_drewN | apply below_drew1)))); have n4_ := Aside0.mk (below_step (by repeat (first | exact HB.out | apply below_alloc | apply pw_below_drewN | apply below_drew1)) hb); clear HO_4; clear HO_5; clear HO_6; clear HB; have HO_4 := n0_; have HO_5 := n1_; have HO_6 := n2_; have HO227 := n3_; have HB := n4_; clear n0_ n1_ n2_ n3_ n4_; (try clear hb); (try clear ho0)))
              go_ret2
              exact ⟨_, by first | rfl | (simp [*] <;> rfl), by (with_reducible repeat (first | apply Kd.S_alloc | apply Kd.S_drewN | apply Kd.S_drew)); exact Kd.S_mono HO_4.out (fun _ hk => trivial), by repeat (first | exact HB.out | apply below_alloc | apply pw_below_drewN | apply below_drew1)⟩
             ·rw [if_neg c27] at H
              have c27b0 : decide (60 < t222) = false := decide_eq_false c27
              clear c27
              have HF := Aside0.mk H
              clear H
              have p218 : 0 ≤ (x8_2 : Int) := of_decide_eq_true (by first | (with_reducible assumption) | assumption)
              have q218 : x8_2 < (t214.length : Int) := of_decide_eq_true (by first | (with_reducible assumption) | assumption)
              obtain ⟨ad218, e218, hx218_0⟩ := Kd.at_string (Kd.R_reads' HO_6.out).2.2 x8_2 p218 q218
              cases e218
              replace p218 := eq_true p218
              replace q218 := eq_true q218
              go_upto_if 81 with (go_big_may; first | ((with_reducible refine gate_callee (f := 36) rfl ?_); refine goesL_ (some 44) rfl rfl Tryz.func36 (by kernel_rfl) rfl #[.string (rdOf ByteArray.empty t214 x8_2), .int .u8 124] rfl (by (try simp only [List.map_toArray, List.map_cons, List.map_nil]); first | done | rfl) ?_; (with_reducible refine (spec_l2Cut.calls k2 (rdOf ByteArray.empty t214 x8_2) 124 t219 t220 true _ A18.out).mono ?_); rintro e w' ⟨rfl, ⟨nd, rfl⟩⟩; refine ⟨_, rfl, ?_⟩) | ((with_reducible refine gate_callee (f := 37) rfl ?_); refine goesL_ (some 50) rfl rfl Tryz.func37 (by kernel_rfl) rfl #[.string t219] rfl (by (try simp only [List.map_toArray, List.map_cons, List.map_nil]); first | done | rfl) ?_; (with_reducible refine (spec_Number.calls k2 t219 t222 true _ A19.out).mono ?_); rintro e w30 ⟨rfl, hb⟩; refine ⟨_, rfl, ?_⟩; have n0_ := Aside0.mk (Kd.S_below (by (with_reducible repeat (first | apply Kd.S_alloc | apply Kd.S_drewN | apply Kd.S_drew)); exact HO_4.out) hb); have n1_ := Aside0.mk (Kd.S_below (by (with_reducible repeat (first | apply Kd.S_alloc | apply Kd.S_drewN | apply Kd.S_drew)); exact HO_5.out) hb); have n2_ := Aside0.mk (Kd.R_below (by (with_reducible repeat (first | apply Kd.R_alloc | apply Kd.R_drewN | apply Kd.R_drew)); exact HO_6.out) hb); have n3_ := Aside0.mk (below_step (by repeat (first | exact HB.out | apply below_alloc | apply pw_below_drewN | apply below_drew1)) hb); clear HO_4; clear HO_5; clear HO_6; clear HB; have HO_4 := n0_; have HO_5 := n1_; have HO_6 := n2_; have HB := n3_; clear n0_ n1_ n2_ n3_; (try clear hb)) | ((with_reducible refine gate_callee (f := 38) rfl ?_); refine goesL_ (some 55) rfl rfl Tryz.func38 (by kernel_rfl) rfl #[.string t220] rfl (by (try simp only [List.map_toArray, List.map_cons, List.map_nil]); first | done | rfl) ?_; (with_reducible refine (spec_TxsOf.calls k2 t220 t224 true _ A20.out).mono ?_); rintro e w31 ⟨v226, rfl, ho0, hb⟩; refine ⟨_, rfl, ?_⟩; have n0_ := Aside0.mk (Kd.S_elder' (by (with_reducible repeat (first | apply Kd.S_alloc | apply Kd.S_drewN | apply Kd.S_drew)); exact HO_4.out) (Kd.R_base ho0) hb); have n1_ := Aside0.mk (Kd.S_elder' (by (with_reducible repeat (first | apply Kd.S_alloc | apply Kd.S_drewN | apply Kd.S_drew)); exact HO_5.out) (Kd.R_base ho0) hb); have n2_ := Aside0.mk (Kd.R_below (by (with_reducible repeat (first | apply Kd.R_alloc | apply Kd.R_drewN | apply Kd.R_drew)); exact HO_6.out) hb); have n3_ := Aside0.mk (Kd.R_lower ho0 (below_size (by repeat (first | exact HB.out | apply below_alloc | apply pw_below_drewN | apply below_drew1)))); have n4_ := Aside0.mk (below_step (by repeat (first | exact HB.out | apply below_alloc | apply pw_below_drewN | apply below_drew1)) hb); clear HO_4; clear HO_5; clear HO_6; clear HB; have HO_4 := n0_; have HO_5 := n1_; have HO_6 := n2_; have HO227 := n3_; have HB := n4_; clear n0_ n1_ n2_ n3_ n4_; (try clear hb); (try clear ho0); obtain ⟨Ao32, co32, eo32⟩ := Kd.R_slice HO227.out; subst eo32))
              have H := HF.out
              clear HF
              by_cases c33 : (t224.length : Int) > 2
              ·rw [if_pos c33] at H
               have c33b0 : decide (2 < (t224.length : Int)) = true := decide_eq_true c33
               have c33b1 : decide (2 < t224.length) = true := decide_eq_true (by omega)
               clear c33
               (first | rw [c33b0] | (simp only [i64_w, i32_w]; rw [c33b0]) | skip)
               simp only [Option.some.injEq, Prod.mk.injEq] at H
               obtain ⟨rfl, rfl⟩ := H
               go_wp2
               go_ret2
               exact ⟨_, by first | rfl | (simp [*] <;> rfl), by (with_reducible repeat (first | apply Kd.S_alloc | apply Kd.S_drewN | apply Kd.S_drew)); exact Kd.S_mono HO_4.out (fun _ hk => trivial), by repeat (first | exact HB.out | apply below_alloc | apply pw_below_drewN | apply below_drew1)⟩
              ·rw [if_neg c33] at H
               have c33b0 : decide (2 < (t224.length : Int)) = false := decide_eq_false c33
               have c33b1 : decide (2 < t224.length) = false := decide_eq_false (by omega)
               clear c33
               (first | rw [c33b0] | (simp only [i64_w, i32_w]; rw [c33b0]) | skip)
               by_cases c34 : x5_2.length < 4398046511104
               ·rw [if_pos c34] at H
                have LMc34 := Aside0.mk c34
                clear c34
                obtain ⟨y228, hy228⟩ : ∃ y_ : List (S41), y_ = (x5_2 ++ [(⟨t222, t224⟩ : S41)]) := ⟨_, rfl⟩
                replace H : (spec_Steps.l0 k2 y208 y228 t214 t222 (wrap64 (x8_2 + 1))) = some (r1, r2) := by first | (rw [hy228]; with_reducible exact H) | (have H2_ := (Option.bind_some _ _).symm.trans H; rw [hy228]; with_reducible exact H2_) | (have H2_ := (Option.bind_some _ _).symm.trans H; with_reducible exact H2_) | with_reducible exact H | (rw [hy228]; exact H) | exact H
                have Ny228 := Aside0.mk hy228
                clear hy228
                have H' := Aside0.mk H
                clear H
                go_wp2_with (first | ((with_reducible refine gate_builtin (b := .append) (xs := #[.tmp 84, .tmp 88]) rfl ?_); (try (refine gate_guard (by rfl) ?_; dsimp only)); at_builtin; refine Kd.S_append k41 (w0 := w) w.heap.size rfl (.tmp 84) (.tmp 88) 25 41 (.agg #[(.int .i64 0), (.slice none 0 0)]) 32 rfl Tryz.underlying25 info41 rfl (by decide) (by omega) u5 x5_2 (⟨t222, t224⟩ : S41) [.int .i64 t222, .slice Ao32 t224.length co32] (fun k_ => some k_ ≠ (v209 : Value).ownBlock) (fun k_ => some k_ = (.slice Ao32 t224.length co32 : Value).ownBlock) rfl rfl ?aP (fun k_ hk_ => ((Kd.R_mono (ok' := fun k_ => ((fun k_ => some k_ ≠ (v209 : Value).ownBlock)) k_ ∧ some k_ ≠ (u5 : Value).ownBlock) (Kd.R_apart' (Kd.R_apart' (HO227.out) (Kd.S_typed HO_4.out) (by decide)) (Kd.S_typed HO_5.out) (by decide)) (fun k_ hk => ⟨hk.1.2, hk.2⟩))).1 k_ hk_.symm) ?aF ?aO ?aB ?aS ?aL ?_; (case aP => exact k41_mkM _ _ _ (⟨t222, t224⟩ : S41) (Kd.R_mono (Kd.R_tight rfl (Kd.R_mono (ok' := fun k_ => ((fun k_ => some k_ ≠ (v209 : Value).ownBlock)) k_ ∧ some k_ ≠ (u5 : Value).ownBlock) (Kd.R_apart' (Kd.R_apart' (HO227.out) (Kd.S_typed HO_4.out) (by decide)) (Kd.S_typed HO_5.out) (by decide)) (fun k_ hk => ⟨hk.1.2, hk.2⟩))) (fun _ h_ => h_))); (case aB => exact (by repeat (first | exact HB.out | apply below_alloc | apply pw_below_drewN | apply below_drew1))); (case aF => exact (fun k_ hk => Kd.fresh' (Kd.S_lt (by (with_reducible repeat (first | apply Kd.S_alloc | apply Kd.S_drewN | apply Kd.S_drew)); exact HO_4.out)) k_ hk)); (case aO => exact (by (with_reducible repeat (first | apply Kd.S_alloc | apply Kd.S_drewN | apply Kd.S_drew)); exact Kd.S_mono HO_5.out (fun k_ hk => ⟨hk.1, fun e_ => hk.2 e_⟩))); (case aS => exact (below_size (by repeat (first | exact HB.out | apply below_alloc | apply pw_below_drewN | apply below_drew1)))); (case aL => have := LMc34.out; omega); intro v229 w35 ho hb hg hat; rw [← Ny228.out] at ho; have n0_ := Aside0.mk (Kd.S_after (ok := (fun k_ => some k_ ≠ (.slice Ao32 t224.length co32 : Value).ownBlock)) (by (with_reducible repeat (first | apply Kd.S_alloc | apply Kd.S_drewN | apply Kd.S_drew)); exact Kd.S_mono HO_4.out (fun _ hk => ⟨hk.2, hk.1⟩)) hg hat); have n1_ := Aside0.mk (Kd.R_over' (by (with_reducible repeat (first | apply Kd.R_alloc | apply Kd.R_drewN | apply Kd.R_drew)); exact HO_6.out) (Kd.S_typed (by (with_reducible repeat (first | apply Kd.S_alloc | apply Kd.S_drewN | apply Kd.S_drew)); exact HO_5.out)) (by decide) hg); have n2_ := Aside0.mk (hb); have n3_ := Aside0.mk (ho); clear HO_4; clear HO_6; clear HB; clear HO_5; clear HO227; have HO_4 := n0_; have HO_6 := n1_; have HB := n2_; have HO230 := n3_; clear n0_ n1_ n2_ n3_; clear ho hb hg hat))
                go_roundg k2
                case measure => have := HJ7.out; have := HK2.out; omega
                case rel => exact ⟨(y228), (t222), (wrap64 (x8_2 + 1)), (by first | rfl | (simp; done) | (simp [*]; done)), (by first | rfl | (simp; done) | (simp [*]; done)), H', ⟨by have := HJ7.out; have := HK2.out; omega⟩, ⟨by (with_reducible repeat (first | apply Kd.S_alloc | apply Kd.S_drewN | apply Kd.S_drew)); exact Kd.S_mono HO_4.out (fun _ hk => hk.2)⟩, ⟨by (with_reducible repeat (first | apply Kd.S_alloc | apply Kd.S_drewN | apply Kd.S_drew)); exact HO230.out⟩, ⟨by (with_reducible repeat (first | apply Kd.R_alloc | apply Kd.R_drewN | apply Kd.R_drew)); exact HO_6.out⟩, ⟨by repeat (first | exact HB.out | apply below_alloc | apply pw_below_drewN | apply below_drew1)⟩⟩
               ·rw [if_neg c34] at H
                exact absurd H (by simp)
           ·replace c23 := Bool.eq_false_iff.mpr c23
            subst c23
            have H1 : (some (y208, false)) = some (r1, r2) := by rw [if_neg (show ¬ (false = true) by decide)] at H; exact H
            clear H
            have H := H1
            clear H1
            simp only [Option.some.injEq, Prod.mk.injEq] at H
            obtain ⟨rfl, rfl⟩ := H
            have p218 : 0 ≤ (x8_2 : Int) := of_decide_eq_true (by first | (with_reducible assumption) | assumption)
            have q218 : x8_2 < (t214.length : Int) := of_decide_eq_true (by first | (with_reducible assumption) | assumption)
            obtain ⟨ad218, e218, hx218_0⟩ := Kd.at_string (Kd.R_reads' HO_6.out).2.2 x8_2 p218 q218
            cases e218
            replace p218 := eq_true p218
            replace q218 := eq_true q218
            go_wp2_with (first | ((with_reducible refine gate_callee (f := 36) rfl ?_); refine goesL_ (some 44) rfl rfl Tryz.func36 (by kernel_rfl) rfl #[.string (rdOf ByteArray.empty t214 x8_2), .int .u8 124] rfl (by (try simp only [List.map_toArray, List.map_cons, List.map_nil]); first | done | rfl) ?_; (with_reducible refine (spec_l2Cut.calls k2 (rdOf ByteArray.empty t214 x8_2) 124 t219 t220 true _ A18.out).mono ?_); rintro e w' ⟨rfl, ⟨nd, rfl⟩⟩; refine ⟨_, rfl, ?_⟩) | ((with_reducible refine gate_callee (f := 37) rfl ?_); refine goesL_ (some 50) rfl rfl Tryz.func37 (by kernel_rfl) rfl #[.string t219] rfl (by (try simp only [List.map_toArray, List.map_cons, List.map_nil]); first | done | rfl) ?_; (with_reducible refine (spec_Number.calls k2 t219 t222 true _ A19.out).mono ?_); rintro e w36 ⟨rfl, hb⟩; refine ⟨_, rfl, ?_⟩; have n0_ := Aside0.mk (Kd.S_below (by (with_reducible repeat (first | apply Kd.S_alloc | apply Kd.S_drewN | apply Kd.S_drew)); exact HO_4.out) hb); have n1_ := Aside0.mk (Kd.S_below (by (with_reducible repeat (first | apply Kd.S_alloc | apply Kd.S_drewN | apply Kd.S_drew)); exact HO_5.out) hb); have n2_ := Aside0.mk (Kd.R_below (by (with_reducible repeat (first | apply Kd.R_alloc | apply Kd.R_drewN | apply Kd.R_drew)); exact HO_6.out) hb); have n3_ := Aside0.mk (below_step (by repeat (first | exact HB.out | apply below_alloc | apply pw_below_drewN | apply below_drew1)) hb); clear HO_4; clear HO_5; clear HO_6; clear HB; have HO_4 := n0_; have HO_5 := n1_; have HO_6 := n2_; have HB := n3_; clear n0_ n1_ n2_ n3_; (try clear hb)) | ((with_reducible refine gate_callee (f := 38) rfl ?_); refine goesL_ (some 55) rfl rfl Tryz.func38 (by kernel_rfl) rfl #[.string t220] rfl (by (try simp only [List.map_toArray, List.map_cons, List.map_nil]); first | done | rfl) ?_; (with_reducible refine (spec_TxsOf.calls k2 t220 t224 false _ A20.out).mono ?_); rintro e w37 ⟨v226, rfl, ho0, hb⟩; refine ⟨_, rfl, ?_⟩; have n0_ := Aside0.mk (Kd.S_elder' (by (with_reducible repeat (first | apply Kd.S_alloc | apply Kd.S_drewN | apply Kd.S_drew)); exact HO_4.out) (Kd.R_base ho0) hb); have n1_ := Aside0.mk (Kd.S_elder' (by (with_reducible repeat (first | apply Kd.S_alloc | apply Kd.S_drewN | apply Kd.S_drew)); exact HO_5.out) (Kd.R_base ho0) hb); have n2_ := Aside0.mk (Kd.R_below (by (with_reducible repeat (first | apply Kd.R_alloc | apply Kd.R_drewN | apply Kd.R_drew)); exact HO_6.out) hb); have n3_ := Aside0.mk (Kd.R_lower ho0 (below_size (by repeat (first | exact HB.out | apply below_alloc | apply pw_below_drewN | apply below_drew1)))); have n4_ := Aside0.mk (below_step (by repeat (first | exact HB.out | apply below_alloc | apply pw_below_drewN | apply below_drew1)) hb); clear HO_4; clear HO_5; clear HO_6; clear HB; have HO_4 := n0_; have HO_5 := n1_; have HO_6 := n2_; have HO227 := n3_; have HB := n4_; clear n0_ n1_ n2_ n3_ n4_; (try clear hb); (try clear ho0)))
            go_ret2
            exact ⟨_, by first | rfl | (simp [*] <;> rfl), by (with_reducible repeat (first | apply Kd.S_alloc | apply Kd.S_drewN | apply Kd.S_drew)); exact Kd.S_mono HO_4.out (fun _ hk => trivial), by repeat (first | exact HB.out | apply below_alloc | apply pw_below_drewN | apply below_drew1)⟩
          ·replace c22 := Bool.eq_false_iff.mpr c22
           subst c22
           have H1 : (some (y208, false)) = some (r1, r2) := by rw [if_neg (show ¬ (false = true) by decide)] at H; exact H
           clear H
           have H := H1
           clear H1
           simp only [Option.some.injEq, Prod.mk.injEq] at H
           obtain ⟨rfl, rfl⟩ := H
           have p218 : 0 ≤ (x8_2 : Int) := of_decide_eq_true (by first | (with_reducible assumption) | assumption)
           have q218 : x8_2 < (t214.length : Int) := of_decide_eq_true (by first | (with_reducible assumption) | assumption)
           obtain ⟨ad218, e218, hx218_0⟩ := Kd.at_string (Kd.R_reads' HO_6.out).2.2 x8_2 p218 q218
           cases e218
           replace p218 := eq_true p218
           replace q218 := eq_true q218
           go_wp2_with (first | ((with_reducible refine gate_callee (f := 36) rfl ?_); refine goesL_ (some 44) rfl rfl Tryz.func36 (by kernel_rfl) rfl #[.string (rdOf ByteArray.empty t214 x8_2), .int .u8 124] rfl (by (try simp only [List.map_toArray, List.map_cons, List.map_nil]); first | done | rfl) ?_; (with_reducible refine (spec_l2Cut.calls k2 (rdOf ByteArray.empty t214 x8_2) 124 t219 t220 true _ A18.out).mono ?_); rintro e w' ⟨rfl, ⟨nd, rfl⟩⟩; refine ⟨_, rfl, ?_⟩) | ((with_reducible refine gate_callee (f := 37) rfl ?_); refine goesL_ (some 50) rfl rfl Tryz.func37 (by kernel_rfl) rfl #[.string t219] rfl (by (try simp only [List.map_toArray, List.map_cons, List.map_nil]); first | done | rfl) ?_; (with_reducible refine (spec_Number.calls k2 t219 t222 false _ A19.out).mono ?_); rintro e w38 ⟨rfl, hb⟩; refine ⟨_, rfl, ?_⟩; have n0_ := Aside0.mk (Kd.S_below (by (with_reducible repeat (first | apply Kd.S_alloc | apply Kd.S_drewN | apply Kd.S_drew)); exact HO_4.out) hb); have n1_ := Aside0.mk (Kd.S_below (by (with_reducible repeat (first | apply Kd.S_alloc | apply Kd.S_drewN | apply Kd.S_drew)); exact HO_5.out) hb); have n2_ := Aside0.mk (Kd.R_below (by (with_reducible repeat (first | apply Kd.R_alloc | apply Kd.R_drewN | apply Kd.R_drew)); exact HO_6.out) hb); have n3_ := Aside0.mk (below_step (by repeat (first | exact HB.out | apply below_alloc | apply pw_below_drewN | apply below_drew1)) hb); clear HO_4; clear HO_5; clear HO_6; clear HB; have HO_4 := n0_; have HO_5 := n1_; have HO_6 := n2_; have HB := n3_; clear n0_ n1_ n2_ n3_; (try clear hb)) | ((with_reducible refine gate_callee (f := 38) rfl ?_); refine goesL_ (some 55) rfl rfl Tryz.func38 (by kernel_rfl) rfl #[.string t220] rfl (by (try simp only [List.map_toArray, List.map_cons, List.map_nil]); first | done | rfl) ?_; (with_reducible refine (spec_TxsOf.calls k2 t220 t224 t225 _ A20.out).mono ?_); rintro e w39 ⟨v226, rfl, ho0, hb⟩; refine ⟨_, rfl, ?_⟩; have n0_ := Aside0.mk (Kd.S_elder' (by (with_reducible repeat (first | apply Kd.S_alloc | apply Kd.S_drewN | apply Kd.S_drew)); exact HO_4.out) (Kd.R_base ho0) hb); have n1_ := Aside0.mk (Kd.S_elder' (by (with_reducible repeat (first | apply Kd.S_alloc | apply Kd.S_drewN | apply Kd.S_drew)); exact HO_5.out) (Kd.R_base ho0) hb); have n2_ := Aside0.mk (Kd.R_below (by (with_reducible repeat (first | apply Kd.R_alloc | apply Kd.R_drewN | apply Kd.R_drew)); exact HO_6.out) hb); have n3_ := Aside0.mk (Kd.R_lower ho0 (below_size (by repeat (first | exact HB.out | apply below_alloc | apply pw_below_drewN | apply below_drew1)))); have n4_ := Aside0.mk (below_step (by repeat (first | exact HB.out | apply below_alloc | apply pw_below_drewN | apply below_drew1)) hb); clear HO_4; clear HO_5; clear HO_6; clear HB; have HO_4 := n0_; have HO_5 := n1_; have HO_6 := n2_; have HO227 := n3_; have HB := n4_; clear n0_ n1_ n2_ n3_ n4_; (try clear hb); (try clear ho0)))
           go_ret2
           exact ⟨_, by first | rfl | (simp [*] <;> rfl), by (with_reducible repeat (first | apply Kd.S_alloc | apply Kd.S_drewN | apply Kd.S_drew)); exact Kd.S_mono HO_4.out (fun _ hk => trivial), by repeat (first | exact HB.out | apply below_alloc | apply pw_below_drewN | apply below_drew1)⟩
         ·replace c21 := Bool.eq_false_iff.mpr c21
          subst c21
          have H1 : (some (y208, false)) = some (r1, r2) := by rw [if_neg (show ¬ (false = true) by decide)] at H; exact H
          clear H
          have H := H1
          clear H1
          simp only [Option.some.injEq, Prod.mk.injEq] at H
          obtain ⟨rfl, rfl⟩ := H
          have p218 : 0 ≤ (x8_2 : Int) := of_decide_eq_true (by first | (with_reducible assumption) | assumption)
          have q218 : x8_2 < (t214.length : Int) := of_decide_eq_true (by first | (with_reducible assumption) | assumption)
          obtain ⟨ad218, e218, hx218_0⟩ := Kd.at_string (Kd.R_reads' HO_6.out).2.2 x8_2 p218 q218
          cases e218
          replace p218 := eq_true p218
          replace q218 := eq_true q218
          go_wp2_with (first | ((with_reducible refine gate_callee (f := 36) rfl ?_); refine goesL_ (some 44) rfl rfl Tryz.func36 (by kernel_rfl) rfl #[.string (rdOf ByteArray.empty t214 x8_2), .int .u8 124] rfl (by (try simp only [List.map_toArray, List.map_cons, List.map_nil]); first | done | rfl) ?_; (with_reducible refine (spec_l2Cut.calls k2 (rdOf ByteArray.empty t214 x8_2) 124 t219 t220 false _ A18.out).mono ?_); rintro e w' ⟨rfl, ⟨nd, rfl⟩⟩; refine ⟨_, rfl, ?_⟩) | ((with_reducible refine gate_callee (f := 37) rfl ?_); refine goesL_ (some 50) rfl rfl Tryz.func37 (by kernel_rfl) rfl #[.string t219] rfl (by (try simp only [List.map_toArray, List.map_cons, List.map_nil]); first | done | rfl) ?_; (with_reducible refine (spec_Number.calls k2 t219 t222 t223 _ A19.out).mono ?_); rintro e w40 ⟨rfl, hb⟩; refine ⟨_, rfl, ?_⟩; have n0_ := Aside0.mk (Kd.S_below (by (with_reducible repeat (first | apply Kd.S_alloc | apply Kd.S_drewN | apply Kd.S_drew)); exact HO_4.out) hb); have n1_ := Aside0.mk (Kd.S_below (by (with_reducible repeat (first | apply Kd.S_alloc | apply Kd.S_drewN | apply Kd.S_drew)); exact HO_5.out) hb); have n2_ := Aside0.mk (Kd.R_below (by (with_reducible repeat (first | apply Kd.R_alloc | apply Kd.R_drewN | apply Kd.R_drew)); exact HO_6.out) hb); have n3_ := Aside0.mk (below_step (by repeat (first | exact HB.out | apply below_alloc | apply pw_below_drewN | apply below_drew1)) hb); clear HO_4; clear HO_5; clear HO_6; clear HB; have HO_4 := n0_; have HO_5 := n1_; have HO_6 := n2_; have HB := n3_; clear n0_ n1_ n2_ n3_; (try clear hb)) | ((with_reducible refine gate_callee (f := 38) rfl ?_); refine goesL_ (some 55) rfl rfl Tryz.func38 (by kernel_rfl) rfl #[.string t220] rfl (by (try simp only [List.map_toArray, List.map_cons, List.map_nil]); first | done | rfl) ?_; (with_reducible refine (spec_TxsOf.calls k2 t220 t224 t225 _ A20.out).mono ?_); rintro e w41 ⟨v226, rfl, ho0, hb⟩; refine ⟨_, rfl, ?_⟩; have n0_ := Aside0.mk (Kd.S_elder' (by (with_reducible repeat (first | apply Kd.S_alloc | apply Kd.S_drewN | apply Kd.S_drew)); exact HO_4.out) (Kd.R_base ho0) hb); have n1_ := Aside0.mk (Kd.S_elder' (by (with_reducible repeat (first | apply Kd.S_alloc | apply Kd.S_drewN | apply Kd.S_drew)); exact HO_5.out) (Kd.R_base ho0) hb); have n2_ := Aside0.mk (Kd.R_below (by (with_reducible repeat (first | apply Kd.R_alloc | apply Kd.R_drewN | apply Kd.R_drew)); exact HO_6.out) hb); have n3_ := Aside0.mk (Kd.R_lower ho0 (below_size (by repeat (first | exact HB.out | apply below_alloc | apply pw_below_drewN | apply below_drew1)))); have n4_ := Aside0.mk (below_step (by repeat (first | exact HB.out | apply below_alloc | apply pw_below_drewN | apply below_drew1)) hb); clear HO_4; clear HO_5; clear HO_6; clear HB; have HO_4 := n0_; have HO_5 := n1_; have HO_6 := n2_; have HO227 := n3_; have HB := n4_; clear n0_ n1_ n2_ n3_ n4_; (try clear hb); (try clear ho0)))
          go_ret2
          exact ⟨_, by first | rfl | (simp [*] <;> rfl), by (with_reducible repeat (first | apply Kd.S_alloc | apply Kd.S_drewN | apply Kd.S_drew)); exact Kd.S_mono HO_4.out (fun _ hk => trivial), by repeat (first | exact HB.out | apply below_alloc | apply pw_below_drewN | apply below_drew1)⟩
        ·rw [if_neg c17] at H
         exact absurd H (by simp)
       ·rw [if_neg c16] at H
        have c16b0 : decide (x8_2 < (t214.length : Int)) = false := decide_eq_false c16
        clear c16
        (first | rw [c16b0] | (simp only [i64_w, i32_w]; rw [c16b0]) | skip)
        simp only [Option.some.injEq, Prod.mk.injEq] at H
        obtain ⟨rfl, rfl⟩ := H
        go_wp2
        go_ret2
        exact ⟨_, by first | rfl | (simp [*] <;> rfl), by (with_reducible repeat (first | apply Kd.S_alloc | apply Kd.S_drewN | apply Kd.S_drew)); exact Kd.S_mono HO_5.out (fun _ hk => trivial), by repeat (first | exact HB.out | apply below_alloc | apply pw_below_drewN | apply below_drew1)⟩

/-! ### spec_NameOk: function 46 -/
def spec_NameOk.f (k : Nat) (a0 : ByteArray) : Option (Bool) := (spec_Steps.f k a0).bind fun bt231 => (some bt231.2)
theorem spec_NameOk.mono : ∀ a0 k, LeO (spec_NameOk.f k a0) (spec_NameOk.f (k + 1) a0) := by
 intro a0 k
 unfold spec_NameOk.f
 repeat' first
   | (with_reducible exact spec_Steps.mono _ _)
   | (with_reducible exact LeO.refl _)
   | (with_reducible exact LeO.none _)
   | (with_reducible refine LeO.ite ?_ ?_)
   | (with_reducible refine LeO.bind ?_ (fun _ => ?_))
   | exact spec_Steps.mono _ _
   | exact LeO.none _
   | refine LeO.ite ?_ ?_
   | refine LeO.bind ?_ (fun _ => ?_)
theorem spec_NameOk.calls (k : Nat) (a0 : ByteArray) (r : Bool) (w : World) (h : spec_NameOk.f k a0 = some r) :
  Calls Tryz.prog 46 #[.string a0] w fun e w' => e = .returned (.bool r) ∧ Below w.heap.size w w' := by
 have HB := Aside0.mk (Below.refl w.heap.size w)
 have H : ((spec_Steps.f k a0).bind fun bt231 => (some bt231.2)) = some r := h
 clear h
 replace H := Option.bind_eq_some_iff.mp H
 obtain ⟨⟨t231, t232⟩, A20, H⟩ := H
 replace H : (some t232) = some r := H
 have A2 := Aside0.mk A20
 clear A20
 obtain rfl := Option.some.inj H
 go_enter Tryz.func46, Tryz.ntmps46
 go_wp2_with (first | ((with_reducible refine gate_callee (f := 7) rfl ?_); refine goesL_ (some 7) rfl rfl Tryz.func7 (by kernel_rfl) rfl #[.string a0] rfl (by (try simp only [List.map_toArray, List.map_cons, List.map_nil]); first | done | rfl) ?_; (with_reducible refine (spec_Steps.calls k a0 t231 t232 _ A2.out).mono ?_); rintro e w3 ⟨v233, rfl, ho0, hb⟩; refine ⟨_, rfl, ?_⟩; have n0_ := Aside0.mk (Kd.S_lower ho0 (below_size (by repeat (first | exact HB.out | apply below_alloc | apply pw_below_drewN | apply below_drew1)))); have n1_ := Aside0.mk (below_step (by repeat (first | exact HB.out | apply below_alloc | apply pw_below_drewN | apply below_drew1)) hb); clear HB; have HO234 := n0_; have HB := n1_; clear n0_ n1_; (try clear hb); (try clear ho0)))
 go_ret
 exact ⟨by first | rfl | (simp [*] <;> rfl), by repeat (first | exact HB.out | apply below_alloc | apply pw_below_drewN | apply below_drew1)⟩

/-! ### spec_NameOf: function 17 -/
def spec_NameOf.l0 : Nat → ByteArray → Int → List (S60) → Int → Option (ByteArray)
 | 0, _, _, _, _ => none
 | k + 1, x0, x1, x2, x7 => if x7 < (x2.length : Int) then (if 0 ≤ x7 then ((spec_TxOk.f ((rd_T60 x2 x7).f0) ((rd_T60 x2 x7).f1) ((rd_T60 x2 x7).f2) ((rd_T60 x2 x7).f3)).bind fun t236 => (if t236 = true then (spec_NameOf.l0 k x0 x1 x2 (wrap64 (x7 + 1))) else (some (⟨#[]⟩ : ByteArray)))) else (none)) else (if x0.size + 1 ≤ 9223372036854775807 then ((spec_Digits.f k x1).bind fun t237 => (if (x0 ++ (⟨#[47]⟩ : ByteArray)).size + t237.size ≤ 9223372036854775807 then (if ((x0 ++ (⟨#[47]⟩ : ByteArray)) ++ t237).size + 1 ≤ 9223372036854775807 then ((spec_TxsText.f k x2).bind fun t238 => (if (((x0 ++ (⟨#[47]⟩ : ByteArray)) ++ t237) ++ (⟨#[124]⟩ : ByteArray)).size + t238.size ≤ 9223372036854775807 then ((spec_NameOk.f k ((((x0 ++ (⟨#[47]⟩ : ByteArray)) ++ t237) ++ (⟨#[124]⟩ : ByteArray)) ++ t238)).bind fun t239 => (if t239 = true then (some ((((x0 ++ (⟨#[47]⟩ : ByteArray)) ++ t237) ++ (⟨#[124]⟩ : ByteArray)) ++ t238)) else (some (⟨#[]⟩ : ByteArray)))) else (none))) else (none)) else (none))) else (none))
def spec_NameOf.f (k : Nat) (a0 : ByteArray) (a1 : Int) (l2 : List (S60)) : Option (ByteArray) := spec_NameOf.l0 k a0 a1 l2 0
theorem spec_NameOf.mono_l : ∀ k, (∀ y0 y1 y2 y3, LeO (spec_NameOf.l0 k y0 y1 y2 y3) (spec_NameOf.l0 (k + 1) y0 y1 y2 y3))
 | 0 => fun _ _ _ _ r h => by simp [spec_NameOf.l0] at h
 | k + 1 => by
  have ih0 := spec_NameOf.mono_l k
  ·intro y0 y1 y2 y3
   unfold spec_NameOf.l0
   repeat' first
   | (with_reducible exact ih0 _ _ _ _)
   | (with_reducible exact spec_Digits.mono _ _)
   | (with_reducible exact spec_NameOk.mono _ _)
   | (with_reducible exact spec_TxsText.mono _ _)
   | (with_reducible exact LeO.refl _)
   | (with_reducible exact LeO.none _)
   | (with_reducible refine LeO.ite ?_ ?_)
   | (with_reducible refine LeO.bind ?_ (fun _ => ?_))
   | exact ih0 _ _ _ _
   | exact spec_Digits.mono _ _
   | exact spec_NameOk.mono _ _
   | exact spec_TxsText.mono _ _
   | exact LeO.none _
   | refine LeO.ite ?_ ?_
   | refine LeO.bind ?_ (fun _ => ?_)
theorem spec_NameOf.mono : ∀ a0 a1 a2 k, LeO (spec_NameOf.f k a0 a1 a2) (spec_NameOf.f (k + 1) a0 a1 a2) := by
 intro a0 a1 a2 k
 have ih0 := spec_NameOf.mono_l k
 unfold spec_NameOf.f
 repeat' first
   | (with_reducible exact ih0 _ _ _ _)
   | (with_reducible exact spec_Digits.mono _ _)
   | (with_reducible exact spec_NameOk.mono _ _)
   | (with_reducible exact spec_TxsText.mono _ _)
   | (with_reducible exact LeO.refl _)
   | (with_reducible exact LeO.none _)
   | (with_reducible refine LeO.ite ?_ ?_)
   | (with_reducible refine LeO.bind ?_ (fun _ => ?_))
   | exact ih0 _ _ _ _
   | exact spec_Digits.mono _ _
   | exact spec_NameOk.mono _ _
   | exact spec_TxsText.mono _ _
   | exact LeO.none _
   | refine LeO.ite ?_ ?_
   | refine LeO.bind ?_ (fun _ => ?_)
theorem spec_NameOf.calls (k : Nat) (a0 : ByteArray) (a1 : Int) (A2 : Option Addr) (c2 : Nat) (l2 : List (S60)) (r : ByteArray) (w : World) (hr2 : Kd.C k60 w A2 l2.length l2) (hc2 : l2.length ≤ c2) (h : spec_NameOf.f k a0 a1 l2 = some r) :
  Calls Tryz.prog 17 #[.string a0, .int .i64 a1, .slice A2 l2.length c2] w fun e w' => e = .returned (.string r) ∧ Below w.heap.size w w' := by
 have hu60 := Tryz.underlying60
 have HR2 := Aside0.mk hr2
 have HC2 := Aside0.mk hc2
 clear hr2 hc2
 have HB := Aside0.mk (Below.refl w.heap.size w)
 have H : (spec_NameOf.l0 k a0 a1 l2 0) = some r := h
 clear h
 have H' := Aside0.mk H
 clear H
 go_enter Tryz.func17, Tryz.ntmps17
 go_wp2
 go_loopg [7] k (fun kq v7 w' => ∃ (x7_1 : Int), v7 = .int .i64 x7_1 ∧ Aside0 (spec_NameOf.l0 kq a0 a1 l2 x7_1 = some r) ∧ Aside0 (kq ≤ k) ∧ Aside0 (Below w.heap.size w w'))
 case atStart => exact ⟨(0), (by first | rfl | (simp; done) | (simp [*]; done)), H', ⟨Nat.le_refl _⟩, ⟨by repeat (first | exact HB.out | apply below_alloc | apply pw_below_drewN | apply below_drew1)⟩⟩
 case round =>
  clear H'
  try clear c1
  try clear c2
  try clear p2
  obtain ⟨x7_1, rfl, HA, HK1, HB⟩ := hrel
  cases gk with
  | zero => exact absurd HA.out (by simp [spec_NameOf.l0])
  | succ k1 =>
   have H := HA.out
   clear HA
   simp only [spec_NameOf.l0] at H
   have HF := Aside0.mk H
   clear H
   go_upto_if 12 with (fail)
   have H := HF.out
   clear HF
   by_cases c4 : x7_1 < (l2.length : Int)
   ·rw [if_pos c4] at H
    have c4b0 : decide (x7_1 < (l2.length : Int)) = true := decide_eq_true c4
    clear c4
    (first | rw [c4b0] | (simp only [i64_w, i32_w]; rw [c4b0]) | skip)
    by_cases c5 : 0 ≤ x7_1
    ·rw [if_pos c5] at H
     have c5b0 : decide (0 ≤ x7_1) = true := decide_eq_true c5
     clear c5
     replace H := Option.bind_eq_some_iff.mp H
     obtain ⟨t236, A60, H⟩ := H
     replace H : (if t236 = true then (spec_NameOf.l0 k1 a0 a1 l2 (wrap64 (x7_1 + 1))) else (some (⟨#[]⟩ : ByteArray))) = some r := H
     have A6 := Aside0.mk A60
     clear A60
     have HF := Aside0.mk H
     clear H
     have p235 : 0 ≤ (x7_1 : Int) := of_decide_eq_true (by first | (with_reducible assumption) | assumption)
     have q235 : x7_1 < (l2.length : Int) := of_decide_eq_true (by first | (with_reducible assumption) | assumption)
     obtain ⟨ad235, e235, hx235_0, hx235_1, hx235_2, hx235_3⟩ := at_T60 HR2.out x7_1 p235 q235
     cases e235
     replace hx235_0 := (HB.out.cell (World.block_lt_of_cell? w _ hx235_0)).trans hx235_0
     replace hx235_1 := (HB.out.cell (World.block_lt_of_cell? w _ hx235_1)).trans hx235_1
     replace hx235_2 := (HB.out.cell (World.block_lt_of_cell? w _ hx235_2)).trans hx235_2
     replace hx235_3 := (HB.out.cell (World.block_lt_of_cell? w _ hx235_3)).trans hx235_3
     replace p235 := eq_true p235
     replace q235 := eq_true q235
     go_upto_if 20 with (go_big_may; first | ((with_reducible refine gate_callee (f := 47) rfl ?_); refine goesL_ (some 19) rfl rfl Tryz.func47 (by kernel_rfl) rfl #[.agg #[.int .i64 ((rd_T60 l2 x7_1).f0), .int .i64 ((rd_T60 l2 x7_1).f1), .int .i64 ((rd_T60 l2 x7_1).f2), .int .i64 ((rd_T60 l2 x7_1).f3)]] rfl (by (try simp only [List.map_toArray, List.map_cons, List.map_nil]); first | done | rfl) ?_; (with_reducible refine (spec_TxOk.calls ((rd_T60 l2 x7_1).f0) ((rd_T60 l2 x7_1).f1) ((rd_T60 l2 x7_1).f2) ((rd_T60 l2 x7_1).f3) t236 _ A6.out).mono ?_); rintro e w7 ⟨rfl, hb⟩; refine ⟨_, rfl, ?_⟩; have n0_ := Aside0.mk (below_step (by repeat (first | exact HB.out | apply below_alloc | apply pw_below_drewN | apply below_drew1)) hb); clear HB; have HB := n0_; clear n0_; (try clear hb)))
     have H := HF.out
     clear HF
     by_cases c8 : t236 = true
     ·subst c8
      have H1 : (spec_NameOf.l0 k1 a0 a1 l2 (wrap64 (x7_1 + 1))) = some r := by rw [if_pos rfl] at H; exact H
      clear H
      have H := H1
      clear H1
      have H' := Aside0.mk H
      clear H
      go_wp2
      go_roundg k1
      case measure => have := HK1.out; omega
      case rel => exact ⟨(wrap64 (x7_1 + 1)), (by first | rfl | (simp; done) | (simp [*]; done)), H', ⟨by have := HK1.out; omega⟩, ⟨by repeat (first | exact HB.out | apply below_alloc | apply pw_below_drewN | apply below_drew1)⟩⟩
     ·replace c8 := Bool.eq_false_iff.mpr c8
      subst c8
      have H1 : (some (⟨#[]⟩ : ByteArray)) = some r := by rw [if_neg (show ¬ (false = true) by decide)] at H; exact H
      clear H
      have H := H1
      clear H1
      obtain rfl := Option.some.inj H
      go_wp2
      go_ret
      exact ⟨by first | rfl | (simp [*] <;> rfl), by repeat (first | exact HB.out | apply below_alloc | apply pw_below_drewN | apply below_drew1)⟩
    ·rw [if_neg c5] at H
     exact absurd H (by simp)
   ·rw [if_neg c4] at H
    have c4b0 : decide (x7_1 < (l2.length : Int)) = false := decide_eq_false c4
    clear c4
    (first | rw [c4b0] | (simp only [i64_w, i32_w]; rw [c4b0]) | skip)
    by_cases c9 : a0.size + 1 ≤ 9223372036854775807
    ·rw [if_pos c9] at H
     have c9b0 := eq_true c9
     have c9b1 : decide (a0.size + 1 ≤ 9223372036854775807) = true := decide_eq_true c9
     try have c9b2 : (9223372036854775807 < a0.size + 1) = False := eq_false (Nat.not_lt.2 c9)
     replace H := Option.bind_eq_some_iff.mp H
     obtain ⟨t237, A100, H⟩ := H
     replace H : (if (a0 ++ (⟨#[47]⟩ : ByteArray)).size + t237.size ≤ 9223372036854775807 then (if ((a0 ++ (⟨#[47]⟩ : ByteArray)) ++ t237).size + 1 ≤ 9223372036854775807 then ((spec_TxsText.f k1 l2).bind fun t238 => (if (((a0 ++ (⟨#[47]⟩ : ByteArray)) ++ t237) ++ (⟨#[124]⟩ : ByteArray)).size + t238.size ≤ 9223372036854775807 then ((spec_NameOk.f k1 ((((a0 ++ (⟨#[47]⟩ : ByteArray)) ++ t237) ++ (⟨#[124]⟩ : ByteArray)) ++ t238)).bind fun t239 => (if t239 = true then (some ((((a0 ++ (⟨#[47]⟩ : ByteArray)) ++ t237) ++ (⟨#[124]⟩ : ByteArray)) ++ t238)) else (some (⟨#[]⟩ : ByteArray)))) else (none))) else (none)) else (none)) = some r := H
     have A10 := Aside0.mk A100
     clear A100
     by_cases c11 : (a0 ++ (⟨#[47]⟩ : ByteArray)).size + t237.size ≤ 9223372036854775807
     ·rw [if_pos c11] at H
      have c11b0 := eq_true c11
      have c11b1 : decide ((a0 ++ (⟨#[47]⟩ : ByteArray)).size + t237.size ≤ 9223372036854775807) = true := decide_eq_true c11
      try have c11b2 : (9223372036854775807 < (a0 ++ (⟨#[47]⟩ : ByteArray)).size + t237.size) = False := eq_false (Nat.not_lt.2 c11)
      try (have c11b3 := Nat.not_lt.2 c11; simp only [ByteArray.size_append, show ∀ x_ : UInt8, (⟨#[x_]⟩ : ByteArray).size = 1 from fun _ => rfl] at c11b3; replace c11b3 := eq_false c11b3)
      by_cases c12 : ((a0 ++ (⟨#[47]⟩ : ByteArray)) ++ t237).size + 1 ≤ 9223372036854775807
      ·rw [if_pos c12] at H
       have c12b0 := eq_true c12
       have c12b1 : decide (((a0 ++ (⟨#[47]⟩ : ByteArray)) ++ t237).size + 1 ≤ 9223372036854775807) = true := decide_eq_true c12
       try have c12b2 : (9223372036854775807 < ((a0 ++ (⟨#[47]⟩ : ByteArray)) ++ t237).size + 1) = False := eq_false (Nat.not_lt.2 c12)
       try (have c12b3 := Nat.not_lt.2 c12; simp only [ByteArray.size_append, show ∀ x_ : UInt8, (⟨#[x_]⟩ : ByteArray).size = 1 from fun _ => rfl] at c12b3; replace c12b3 := eq_false c12b3)
       replace H := Option.bind_eq_some_iff.mp H
       obtain ⟨t238, A130, H⟩ := H
       replace H : (if (((a0 ++ (⟨#[47]⟩ : ByteArray)) ++ t237) ++ (⟨#[124]⟩ : ByteArray)).size + t238.size ≤ 9223372036854775807 then ((spec_NameOk.f k1 ((((a0 ++ (⟨#[47]⟩ : ByteArray)) ++ t237) ++ (⟨#[124]⟩ : ByteArray)) ++ t238)).bind fun t239 => (if t239 = true then (some ((((a0 ++ (⟨#[47]⟩ : ByteArray)) ++ t237) ++ (⟨#[124]⟩ : ByteArray)) ++ t238)) else (some (⟨#[]⟩ : ByteArray)))) else (none)) = some r := H
       have A13 := Aside0.mk A130
       clear A130
       by_cases c14 : (((a0 ++ (⟨#[47]⟩ : ByteArray)) ++ t237) ++ (⟨#[124]⟩ : ByteArray)).size + t238.size ≤ 9223372036854775807
       ·rw [if_pos c14] at H
        have c14b0 := eq_true c14
        have c14b1 : decide ((((a0 ++ (⟨#[47]⟩ : ByteArray)) ++ t237) ++ (⟨#[124]⟩ : ByteArray)).size + t238.size ≤ 9223372036854775807) = true := decide_eq_true c14
        try have c14b2 : (9223372036854775807 < (((a0 ++ (⟨#[47]⟩ : ByteArray)) ++ t237) ++ (⟨#[124]⟩ : ByteArray)).size + t238.size) = False := eq_false (Nat.not_lt.2 c14)
        try (have c14b3 := Nat.not_lt.2 c14; simp only [ByteArray.size_append, show ∀ x_ : UInt8, (⟨#[x_]⟩ : ByteArray).size = 1 from fun _ => rfl] at c14b3; replace c14b3 := eq_false c14b3)
        replace H := Option.bind_eq_some_iff.mp H
        obtain ⟨t239, A150, H⟩ := H
        replace H : (if t239 = true then (some ((((a0 ++ (⟨#[47]⟩ : ByteArray)) ++ t237) ++ (⟨#[124]⟩ : ByteArray)) ++ t238)) else (some (⟨#[]⟩ : ByteArray))) = some r := H
        have A15 := Aside0.mk A150
        clear A150
        have HF := Aside0.mk H
        clear H
        go_upto_if 32 with (go_big_may; first | ((with_reducible refine gate_callee (f := 48) rfl ?_); refine goesL_ (some 24) rfl rfl Tryz.func48 (by kernel_rfl) rfl #[.int .i64 a1] rfl (by (try simp only [List.map_toArray, List.map_cons, List.map_nil]); first | done | rfl) ?_; (with_reducible refine (spec_Digits.calls k1 a1 t237 _ A10.out).mono ?_); rintro e w16 ⟨rfl, hb⟩; refine ⟨_, rfl, ?_⟩; have n0_ := Aside0.mk (below_step (by repeat (first | exact HB.out | apply below_alloc | apply pw_below_drewN | apply below_drew1)) hb); clear HB; have HB := n0_; clear n0_; (try clear hb)) | ((with_reducible refine gate_callee (f := 26) rfl ?_); refine goesL_ (some 28) rfl rfl Tryz.func26 (by kernel_rfl) rfl #[.slice A2 l2.length c2] rfl (by (try simp only [List.map_toArray, List.map_cons, List.map_nil]); first | done | rfl) ?_; (with_reducible refine (spec_TxsText.calls k1 _ _ l2 t238 _ ?side1 ?side2 A13.out).mono ?_); (case side1 => repeat (first | exact (Kd.C_below HR2.out HB.out) | (with_reducible refine Kd.C_alloc ?_ _) | (with_reducible refine Kd.C_drewN ?_ _) | (with_reducible refine Kd.C_drew ?_))); (case side2 => exact HC2.out); rintro e w17 ⟨rfl, hb⟩; refine ⟨_, rfl, ?_⟩; have n0_ := Aside0.mk (below_step (by repeat (first | exact HB.out | apply below_alloc | apply pw_below_drewN | apply below_drew1)) hb); clear HB; have HB := n0_; clear n0_; (try clear hb)) | ((with_reducible refine gate_callee (f := 46) rfl ?_); refine goesL_ (some 31) rfl rfl Tryz.func46 (by kernel_rfl) rfl #[.string ((((a0 ++ (⟨#[47]⟩ : ByteArray)) ++ t237) ++ (⟨#[124]⟩ : ByteArray)) ++ t238)] rfl (by (try simp only [List.map_toArray, List.map_cons, List.map_nil]); first | done | rfl) ?_; (with_reducible refine (spec_NameOk.calls k1 ((((a0 ++ (⟨#[47]⟩ : ByteArray)) ++ t237) ++ (⟨#[124]⟩ : ByteArray)) ++ t238) t239 _ A15.out).mono ?_); rintro e w18 ⟨rfl, hb⟩; refine ⟨_, rfl, ?_⟩; have n0_ := Aside0.mk (below_step (by repeat (first | exact HB.out | apply below_alloc | apply pw_below_drewN | apply below_drew1)) hb); clear HB; have HB := n0_; clear n0_; (try clear hb)))
        have H := HF.out
        clear HF
        by_cases c19 : t239 = true
        ·subst c19
         have H1 : (some ((((a0 ++ (⟨#[47]⟩ : ByteArray)) ++ t237) ++ (⟨#[124]⟩ : ByteArray)) ++ t238)) = some r := by rw [if_pos rfl] at H; exact H
         clear H
         have H := H1
         clear H1
         obtain rfl := Option.some.inj H
         go_wp2
         go_ret
         exact ⟨by first | rfl | (simp [*] <;> rfl), by repeat (first | exact HB.out | apply below_alloc | apply pw_below_drewN | apply below_drew1)⟩
        ·replace c19 := Bool.eq_false_iff.mpr c19
         subst c19
         have H1 : (some (⟨#[]⟩ : ByteArray)) = some r := by rw [if_neg (show ¬ (false = true) by decide)] at H; exact H
         clear H
         have H := H1
         clear H1
         obtain rfl := Option.some.inj H
         go_wp2
         go_ret
         exact ⟨by first | rfl | (simp [*] <;> rfl), by repeat (first | exact HB.out | apply below_alloc | apply pw_below_drewN | apply below_drew1)⟩
       ·rw [if_neg c14] at H
        exact absurd H (by simp)
      ·rw [if_neg c12] at H
       exact absurd H (by simp)
     ·rw [if_neg c11] at H
      exact absurd H (by simp)
    ·rw [if_neg c9] at H
     exact absurd H (by simp)

/-! ### spec_l1PickInt: function 40 -/
def spec_l1PickInt.f (s0_0 : List Int) (s0_1 : Int) (s0_2 : Int) (l1 : List Int) : Option (Int × Int × Int) := (spec_l1Below.f s0_0 s0_1 s0_2 (l1.length : Int)).bind fun bt240 => (if 0 ≤ bt240.1 then (if bt240.1 < (l1.length : Int) then (some (rd l1 bt240.1, bt240.2.1, bt240.2.2)) else (none)) else (none))
theorem spec_l1PickInt.calls (g : Nat) (s0_0 : List Int) (s0_1 : Int) (s0_2 : Int) (A1 : Option Addr) (c1 : Nat) (l1 : List Int) (r1 : Int) (r2 : Int) (r3 : Int) (w0 w : World) (hI : IsS70 w0 w g s0_0 s0_1 s0_2) (hB : Below w0.heap.size w0 w) (hr1 : Kd.C (Kd.int .i64) w A1 l1.length l1) (hc1 : l1.length ≤ c1) (hf1 : ∀ ad, A1 = some ad → 0 < l1.length → ad.block ≠ g) (h : spec_l1PickInt.f s0_0 s0_1 s0_2 l1 = some (r1, r2, r3)) :
  Calls Tryz.prog 40 #[.pointer (some ⟨g, 0, none⟩), .slice A1 l1.length c1] w fun e w' => e = .returned (.int .i64 r1) ∧ IsS70 w0 w' g s0_0 r2 r3 ∧ Below w0.heap.size w0 w' ∧ KeepBut w w' g none := by
 have HR1 := Aside0.mk hr1
 have HC1 := Aside0.mk hc1
 clear hr1 hc1
 have HI0 := Aside0.mk hI
 have HK := Aside0.mk (KeepBut.refl w g none)
 have HL := Aside0.mk hB.size
 clear hI
 have HW0 := Aside0.mk hB.size
 have HB := Aside0.mk hB
 clear hB
 have H : ((spec_l1Below.f s0_0 s0_1 s0_2 (l1.length : Int)).bind fun bt240 => (if 0 ≤ bt240.1 then (if bt240.1 < (l1.length : Int) then (some (rd l1 bt240.1, bt240.2.1, bt240.2.2)) else (none)) else (none))) = some (r1, r2, r3) := h
 clear h
 replace H := Option.bind_eq_some_iff.mp H
 obtain ⟨⟨t240, t241, t242⟩, A30, H⟩ := H
 replace H : (if 0 ≤ t240 then (if t240 < (l1.length : Int) then (some (rd l1 t240, t241, t242)) else (none)) else (none)) = some (r1, r2, r3) := H
 have A3 := Aside0.mk A30
 clear A30
 by_cases c4 : 0 ≤ t240
 ·rw [if_pos c4] at H
  have c4b0 : decide (0 ≤ t240) = true := decide_eq_true c4
  clear c4
  by_cases c5 : t240 < (l1.length : Int)
  ·rw [if_pos c5] at H
   have c5b0 : decide (t240 < (l1.length : Int)) = true := decide_eq_true c5
   clear c5
   simp only [Option.some.injEq, Prod.mk.injEq] at H
   obtain ⟨rfl, rfl, rfl⟩ := H
   go_enter Tryz.func40, Tryz.ntmps40
   go_wp2_with (first | ((with_reducible refine gate_callee (f := 54) rfl ?_); refine goesL_ (some 9) rfl rfl Tryz.func54 (by kernel_rfl) rfl #[.pointer (some ⟨g, 0, none⟩), .int .i64 (l1.length : Int)] rfl (by (try simp only [List.map_toArray, List.map_cons, List.map_nil]); first | done | rfl) ?_; (with_reducible refine (spec_l1Below.calls g s0_0 s0_1 s0_2 (l1.length : Int) t240 t241 t242 w0 _ ?side1 ?side2 A3.out).mono ?_); (case side1 => repeat (first | (with_reducible first | exact HI0.out | apply IsS70.alloc | apply IsS70.drewN | apply IsS70.drew | apply IsS70.set_1 | apply IsS70.set_2) | exact HI0.out)); (case side2 => repeat (first | (with_reducible first | exact HB.out | apply below_alloc | apply pw_below_drewN | apply below_drew1 | refine below_set ?_ (IsS70.ge HI0.out)) | exact HB.out)); rintro e w6 ⟨rfl, hi, hb, hk⟩; refine ⟨_, rfl, ?_⟩; have n0_ := Aside0.mk (KeepBut.trans (by repeat (first | (with_reducible first | exact HK.out | apply KeepBut.set_ | apply keep_drewN | apply keep_drew | apply keep_alloc) | exact HK.out)) hk (.inl rfl)); have n1_ := Aside0.mk (hb); have n2_ := Aside0.mk (hi); clear HK; clear HB; clear HI0; have HK := n0_; have HB := n1_; have HI0 := n2_; clear n0_ n1_ n2_; (try clear hb); (try clear hk); (try clear hi); have p243 : 0 ≤ (t240 : Int) := of_decide_eq_true (by first | (with_reducible assumption) | assumption); have q243 : t240 < (l1.length : Int) := of_decide_eq_true (by first | (with_reducible assumption) | assumption); obtain ⟨ad243, e243, hx243_0⟩ := Kd.at_int HR1.out t240 p243 q243; cases e243; replace hx243_0 := keep_cell HK.out hx243_0 (by first | (rw [add_block]; exact hf1 _ rfl (by omega)) | exact hf1 _ rfl (by omega) | exact hf1 ad243 rfl (by omega)); replace p243 := eq_true p243; replace q243 := eq_true q243))
   go_ret
   exact ⟨by first | rfl | (simp [*] <;> rfl), by repeat (first | (with_reducible first | exact HI0.out | apply IsS70.alloc | apply IsS70.drewN | apply IsS70.drew | apply IsS70.set_1 | apply IsS70.set_2) | exact HI0.out), by repeat (first | (with_reducible first | exact HB.out | apply below_alloc | apply pw_below_drewN | apply below_drew1 | refine below_set ?_ (IsS70.ge HI0.out)) | exact HB.out), by repeat (first | (with_reducible first | exact HK.out | apply KeepBut.set_ | apply keep_drewN | apply keep_drew | apply keep_alloc) | exact HK.out)⟩
  ·rw [if_neg c5] at H
   exact absurd H (by simp)
 ·rw [if_neg c4] at H
  exact absurd H (by simp)

/-! ### spec_l2DrawRight: function 71 -/
def spec_l2DrawRight.f (s0_0 : List Int) (s0_1 : Int) (s0_2 : Int) : Option (Int × Int × Int × Int × Int × Int) := (spec_l1Below.f s0_0 s0_1 s0_2 4).bind fun bt245 => ((spec_l1Below.f s0_0 bt245.2.1 bt245.2.2 4).bind fun bt248 => ((spec_l1PickInt.f s0_0 bt248.2.1 bt248.2.2 (([0, 5, 60, 100, 1000] : List Int))).bind fun bt254 => ((spec_l1Below.f s0_0 bt254.2.1 bt254.2.2 3).bind fun bt257 => (some (bt245.1, bt248.1, bt254.1, bt257.1, bt257.2.1, bt257.2.2)))))
theorem spec_l2DrawRight.calls (g : Nat) (s0_0 : List Int) (s0_1 : Int) (s0_2 : Int) (r1 : Int) (r2 : Int) (r3 : Int) (r4 : Int) (r5 : Int) (r6 : Int) (w0 w : World) (hI : IsS70 w0 w g s0_0 s0_1 s0_2) (hB : Below w0.heap.size w0 w) (h : spec_l2DrawRight.f s0_0 s0_1 s0_2 = some (r1, r2, r3, r4, r5, r6)) :
  Calls Tryz.prog 71 #[.pointer (some ⟨g, 0, none⟩)] w fun e w' => e = .returned (.agg #[.int .i64 r1, .int .i64 r2, .int .i64 r3, .int .i64 r4]) ∧ IsS70 w0 w' g s0_0 r5 r6 ∧ Below w0.heap.size w0 w' ∧ KeepBut w w' g none := by
 have hu60 := Tryz.underlying60
 have HI0 := Aside0.mk hI
 have HK := Aside0.mk (KeepBut.refl w g none)
 have HL := Aside0.mk hB.size
 clear hI
 have HW0 := Aside0.mk hB.size
 have HB := Aside0.mk hB
 clear hB
 have H : ((spec_l1Below.f s0_0 s0_1 s0_2 4).bind fun bt245 => ((spec_l1Below.f s0_0 bt245.2.1 bt245.2.2 4).bind fun bt248 => ((spec_l1PickInt.f s0_0 bt248.2.1 bt248.2.2 (([0, 5, 60, 100, 1000] : List Int))).bind fun bt254 => ((spec_l1Below.f s0_0 bt254.2.1 bt254.2.2 3).bind fun bt257 => (some (bt245.1, bt248.1, bt254.1, bt257.1, bt257.2.1, bt257.2.2)))))) = some (r1, r2, r3, r4, r5, r6) := h
 clear h
 replace H := Option.bind_eq_some_iff.mp H
 obtain ⟨⟨t245, t246, t247⟩, A20, H⟩ := H
 replace H : ((spec_l1Below.f s0_0 t246 t247 4).bind fun bt248 => ((spec_l1PickInt.f s0_0 bt248.2.1 bt248.2.2 (([0, 5, 60, 100, 1000] : List Int))).bind fun bt254 => ((spec_l1Below.f s0_0 bt254.2.1 bt254.2.2 3).bind fun bt257 => (some (t245, bt248.1, bt254.1, bt257.1, bt257.2.1, bt257.2.2))))) = some (r1, r2, r3, r4, r5, r6) := H
 have A2 := Aside0.mk A20
 clear A20
 replace H := Option.bind_eq_some_iff.mp H
 obtain ⟨⟨t248, t249, t250⟩, A30, H⟩ := H
 replace H : ((spec_l1PickInt.f s0_0 t249 t250 (([0, 5, 60, 100, 1000] : List Int))).bind fun bt254 => ((spec_l1Below.f s0_0 bt254.2.1 bt254.2.2 3).bind fun bt257 => (some (t245, t248, bt254.1, bt257.1, bt257.2.1, bt257.2.2)))) = some (r1, r2, r3, r4, r5, r6) := H
 have A3 := Aside0.mk A30
 clear A30
 obtain ⟨y251, hy251⟩ : ∃ y_ : List Int, y_ = (([0, 5, 60, 100, 1000] : List Int)) := ⟨_, rfl⟩
 replace H : ((spec_l1PickInt.f s0_0 t249 t250 y251).bind fun bt254 => ((spec_l1Below.f s0_0 bt254.2.1 bt254.2.2 3).bind fun bt257 => (some (t245, t248, bt254.1, bt257.1, bt257.2.1, bt257.2.2)))) = some (r1, r2, r3, r4, r5, r6) := by first | (rw [hy251]; with_reducible exact H) | (have H2_ := (Option.bind_some _ _).symm.trans H; rw [hy251]; with_reducible exact H2_) | (have H2_ := (Option.bind_some _ _).symm.trans H; with_reducible exact H2_) | with_reducible exact H | (rw [hy251]; exact H) | exact H
 have Ny251 := Aside0.mk hy251
 clear hy251
 replace H := Option.bind_eq_some_iff.mp H
 obtain ⟨⟨t254, t255, t256⟩, A40, H⟩ := H
 replace H : ((spec_l1Below.f s0_0 t255 t256 3).bind fun bt257 => (some (t245, t248, t254, bt257.1, bt257.2.1, bt257.2.2))) = some (r1, r2, r3, r4, r5, r6) := H
 have A4 := Aside0.mk A40
 clear A40
 replace H := Option.bind_eq_some_iff.mp H
 obtain ⟨⟨t257, t258, t259⟩, A50, H⟩ := H
 replace H : (some (t245, t248, t254, t257, t258, t259)) = some (r1, r2, r3, r4, r5, r6) := H
 have A5 := Aside0.mk A50
 clear A50
 simp only [Option.some.injEq, Prod.mk.injEq] at H
 obtain ⟨rfl, rfl, rfl, rfl, rfl, rfl⟩ := H
 go_enter Tryz.func71, Tryz.ntmps71
 go_wp2_with (first | ((with_reducible refine gate_dst (N := 2) rfl ?_); refine box_event ?hg (N := 2) ?hd (cs := #[.int .i64 0, .int .i64 0, .int .i64 0, .int .i64 0]) (t := 60) ?hr ?_; (case hd => rfl); (case hg => rfl); (case hr => first | (go_simp; done) | (go_simp; rfl)); intro gb244 hg w6 hbox hb; have n0_ := Aside0.mk (IsS70.below (by repeat (first | (with_reducible first | exact HI0.out | apply IsS70.alloc | apply IsS70.drewN | apply IsS70.drew | apply IsS70.set_1 | apply IsS70.set_2) | exact HI0.out)) hb); have n1_ := Aside0.mk (KeepBut.trans (by repeat (first | (with_reducible first | exact HK.out | apply KeepBut.set_ | apply keep_drewN | apply keep_drew | apply keep_alloc) | exact HK.out)) (KeepBut.of_below hb g none) (.inl rfl)); have n2_ := Aside0.mk (below_step (by repeat (first | (with_reducible first | exact HB.out | apply below_alloc | apply pw_below_drewN | apply below_drew1 | refine below_set ?_ (IsS70.ge HI0.out)) | exact HB.out)) hb); have n3_ := Aside0.mk (hbox); have n4_ := Aside0.mk ((by rw [hg]; exact (keep_size (w := w) (g := g) (row := none) (by repeat (first | (with_reducible first | exact HK.out | apply KeepBut.set_ | apply keep_drewN | apply keep_drew | apply keep_alloc) | exact HK.out))) : w.heap.size ≤ gb244)); have n5_ := Aside0.mk ((Nat.le_trans HW0.out (by rw [hg]; exact (keep_size (w := w) (g := g) (row := none) (by repeat (first | (with_reducible first | exact HK.out | apply KeepBut.set_ | apply keep_drewN | apply keep_drew | apply keep_alloc) | exact HK.out))) : w.heap.size ≤ gb244) : w0.heap.size ≤ gb244)); have n6_ := Aside0.mk ((by rw [hg]; exact Nat.ne_of_lt (IsS70.lt (show IsS70 w0 _ g s0_0 s0_1 s0_2 from by repeat (first | (with_reducible first | exact HI0.out | apply IsS70.alloc | apply IsS70.drewN | apply IsS70.drew | apply IsS70.set_1 | apply IsS70.set_2) | exact HI0.out))) : g ≠ gb244)); have n7_ := Aside0.mk ((by rw [hg]; exact Nat.ne_of_gt (IsS70.lt (show IsS70 w0 _ g s0_0 s0_1 s0_2 from by repeat (first | (with_reducible first | exact HI0.out | apply IsS70.alloc | apply IsS70.drewN | apply IsS70.drew | apply IsS70.set_1 | apply IsS70.set_2) | exact HI0.out))) : gb244 ≠ g)); clear HI0; clear HK; clear HB; have HI0 := n0_; have HK := n1_; have HB := n2_; have BK244 := n3_; have GW244 := n4_; have GE244 := n5_; have NB0_244 := n6_; have NB244_0 := n7_; clear n0_ n1_ n2_ n3_ n4_ n5_ n6_ n7_; clear hb hbox hg) | ((with_reducible refine gate_callee (f := 54) rfl ?_); refine goesL_ (some 4) rfl rfl Tryz.func54 (by kernel_rfl) rfl #[.pointer (some ⟨g, 0, none⟩), .int .i64 4] rfl (by (try simp only [List.map_toArray, List.map_cons, List.map_nil]); first | done | rfl) ?_; (with_reducible refine (spec_l1Below.calls g s0_0 s0_1 s0_2 4 t245 t246 t247 w0 _ ?side1 ?side2 A2.out).mono ?_); (case side1 => repeat (first | (with_reducible first | exact HI0.out | apply IsS70.alloc | apply IsS70.drewN | apply IsS70.drew | apply IsS70.set_1 | apply IsS70.set_2 | refine IsS70.far ?_ NB0_244.out _) | exact HI0.out)); (case side2 => repeat (first | (with_reducible first | exact HB.out | apply below_alloc | apply pw_below_drewN | apply below_drew1 | refine below_set ?_ (IsS70.ge HI0.out) | refine below_set ?_ GE244.out) | exact HB.out)); rintro e w7 ⟨rfl, hi, hb, hk⟩; refine ⟨_, rfl, ?_⟩; have n0_ := Aside0.mk (KeepBut.blk hk (g' := gb244) (o := .cells #[.int .i64 0, .int .i64 0, .int .i64 0, .int .i64 0] 60 (0, 0)) (by (with_reducible repeat (first | refine blk_drewN ?_ _ | refine blk_drew ?_ | refine blk_alloc ?_ _)); exact BK244.out) NB244_0.out (by simp)); have n1_ := Aside0.mk (KeepBut.trans (by repeat (first | (with_reducible first | exact HK.out | apply KeepBut.set_ | apply keep_drewN | apply keep_drew | apply keep_alloc | refine keep_far ?_ GW244.out _) | exact HK.out)) hk (.inl rfl)); have n2_ := Aside0.mk (hb); have n3_ := Aside0.mk (hi); clear BK244; clear HK; clear HB; clear HI0; have BK244 := n0_; have HK := n1_; have HB := n2_; have HI0 := n3_; clear n0_ n1_ n2_ n3_; (try clear hb); (try clear hk); (try clear hi)) | ((with_reducible refine gate_callee (f := 54) rfl ?_); refine goesL_ (some 6) rfl rfl Tryz.func54 (by kernel_rfl) rfl #[.pointer (some ⟨g, 0, none⟩), .int .i64 4] rfl (by (try simp only [List.map_toArray, List.map_cons, List.map_nil]); first | done | rfl) ?_; (with_reducible refine (spec_l1Below.calls g s0_0 t246 t247 4 t248 t249 t250 w0 _ ?side1 ?side2 A3.out).mono ?_); (case side1 => repeat (first | (with_reducible first | exact HI0.out | apply IsS70.alloc | apply IsS70.drewN | apply IsS70.drew | apply IsS70.set_1 | apply IsS70.set_2 | refine IsS70.far ?_ NB0_244.out _) | exact HI0.out)); (case side2 => repeat (first | (with_reducible first | exact HB.out | apply below_alloc | apply pw_below_drewN | apply below_drew1 | refine below_set ?_ (IsS70.ge HI0.out) | refine below_set ?_ GE244.out) | exact HB.out)); rintro e w8 ⟨rfl, hi, hb, hk⟩; refine ⟨_, rfl, ?_⟩; have n0_ := Aside0.mk (KeepBut.blk hk (g' := gb244) (o := .cells #[.int .i64 0, .int .i64 0, .int .i64 0, .int .i64 0] 60 (0, 0)) (by (with_reducible repeat (first | refine blk_drewN ?_ _ | refine blk_drew ?_ | refine blk_alloc ?_ _)); exact BK244.out) NB244_0.out (by simp)); have n1_ := Aside0.mk (KeepBut.trans (by repeat (first | (with_reducible first | exact HK.out | apply KeepBut.set_ | apply keep_drewN | apply keep_drew | apply keep_alloc | refine keep_far ?_ GW244.out _) | exact HK.out)) hk (.inl rfl)); have n2_ := Aside0.mk (hb); have n3_ := Aside0.mk (hi); clear BK244; clear HK; clear HB; clear HI0; have BK244 := n0_; have HK := n1_; have HB := n2_; have HI0 := n3_; clear n0_ n1_ n2_ n3_; (try clear hb); (try clear hk); (try clear hi)) | ((with_reducible refine gate_dst (N := 8) rfl ?_); refine Kd.R_lit (Kd.int .i64) _ 3 ?hg (N := 8) ?hd (xs := ([0, 5, 60, 100, 1000] : List Int)) (inner := [.int .i64 0, .int .i64 5, .int .i64 60, .int .i64 100, .int .i64 1000]) (ok := fun _ => True) (okp := fun _ => True) ?hr ?hp (fun _ hk => hk) trivial (Below.refl _ _) (Nat.le_refl _) (by simp) ?_; (case hd => rfl); (case hg => rfl); (case hr => first | (go_simp; done) | (go_simp; rfl)); (case hp => exact (Reps.one (show Kd.M (Kd.int .i64) _ _ _ 0 [.int .i64 0] from rfl) (Reps.one (show Kd.M (Kd.int .i64) _ _ _ 5 [.int .i64 5] from rfl) (Reps.one (show Kd.M (Kd.int .i64) _ _ _ 60 [.int .i64 60] from rfl) (Reps.one (show Kd.M (Kd.int .i64) _ _ _ 100 [.int .i64 100] from rfl) (Reps.one (show Kd.M (Kd.int .i64) _ _ _ 1000 [.int .i64 1000] from rfl) (Reps.none _ _))))))); intro v252 w9 ho10 hb hg_ hnew_; clear hg_ hnew_; (first | rw [← Ny251.out] at ho10 | (simp only [Int.reduceToNat] at ho10; rw [← Ny251.out] at ho10)); have n0_ := Aside0.mk (Kd.R_lower ho10 (keep_size (w := w) (g := g) (row := none) (by repeat (first | (with_reducible first | exact HK.out | apply KeepBut.set_ | apply keep_drewN | apply keep_drew | apply keep_alloc | refine keep_far ?_ GW244.out _) | exact HK.out)))); have n1_ := Aside0.mk (IsS70.below (by repeat (first | (with_reducible first | exact HI0.out | apply IsS70.alloc | apply IsS70.drewN | apply IsS70.drew | apply IsS70.set_1 | apply IsS70.set_2 | refine IsS70.far ?_ NB0_244.out _) | exact HI0.out)) hb); have n2_ := Aside0.mk (blk_below (g := gb244) (o := .cells #[.int .i64 0, .int .i64 0, .int .i64 0, .int .i64 0] 60 (0, 0)) (by (with_reducible repeat (first | refine blk_drewN ?_ _ | refine blk_drew ?_ | refine blk_alloc ?_ _)); exact BK244.out) hb); have n3_ := Aside0.mk (KeepBut.trans (by repeat (first | (with_reducible first | exact HK.out | apply KeepBut.set_ | apply keep_drewN | apply keep_drew | apply keep_alloc | refine keep_far ?_ GW244.out _) | exact HK.out)) (KeepBut.of_below hb g none) (.inl rfl)); have n4_ := Aside0.mk (below_step (by repeat (first | (with_reducible first | exact HB.out | apply below_alloc | apply pw_below_drewN | apply below_drew1 | refine below_set ?_ (IsS70.ge HI0.out) | refine below_set ?_ GE244.out) | exact HB.out)) hb); clear HI0; clear BK244; clear HK; clear HB; have HO253 := n0_; have HI0 := n1_; have BK244 := n2_; have HK := n3_; have HB := n4_; clear n0_ n1_ n2_ n3_ n4_; clear hb ho10; obtain ⟨Ao11, co11, eo11⟩ := Kd.R_slice HO253.out; subst eo11) | ((with_reducible refine gate_callee (f := 40) rfl ?_); refine goesL_ (some 9) rfl rfl Tryz.func40 (by kernel_rfl) rfl #[.pointer (some ⟨g, 0, none⟩), .slice Ao11 y251.length co11] rfl (by (try simp only [List.map_toArray, List.map_cons, List.map_nil]); first | done | rfl) ?_; (with_reducible refine (spec_l1PickInt.calls g s0_0 t249 t250 _ _ y251 t254 t255 t256 w0 _ ?side1 ?side2 ?side3 ?side4 ?side5 A4.out).mono ?_); (case side1 => repeat (first | (with_reducible first | exact HI0.out | apply IsS70.alloc | apply IsS70.drewN | apply IsS70.drew | apply IsS70.set_1 | apply IsS70.set_2 | refine IsS70.far ?_ NB0_244.out _) | exact HI0.out)); (case side2 => repeat (first | (with_reducible first | exact HB.out | apply below_alloc | apply pw_below_drewN | apply below_drew1 | refine below_set ?_ (IsS70.ge HI0.out) | refine below_set ?_ GE244.out) | exact HB.out)); (case side3 => repeat (first | exact (Kd.R_reads' HO253.out).2.2 | (with_reducible refine Kd.C_alloc ?_ _) | (with_reducible refine Kd.C_drewN ?_ _) | (with_reducible refine Kd.C_drew ?_))); (case side4 => exact (Kd.R_reads' HO253.out).2.1); (case side5 => exact far_slice (IsS70.own_ne HI0.out HO253.out (by decide))); rintro e w12 ⟨rfl, hi, hb, hk⟩; refine ⟨_, rfl, ?_⟩; have n0_ := Aside0.mk (KeepBut.blk hk (g' := gb244) (o := .cells #[.int .i64 0, .int .i64 0, .int .i64 0, .int .i64 0] 60 (0, 0)) (by (with_reducible repeat (first | refine blk_drewN ?_ _ | refine blk_drew ?_ | refine blk_alloc ?_ _)); exact BK244.out) NB244_0.out (by simp)); have n1_ := Aside0.mk (Kd.R_mono (Kd.R_keep (IsS70.apart (show IsS70 w0 _ g s0_0 t249 t250 from by repeat (first | (with_reducible first | exact HI0.out | apply IsS70.alloc | apply IsS70.drewN | apply IsS70.drew | apply IsS70.set_1 | apply IsS70.set_2 | refine IsS70.far ?_ NB0_244.out _) | exact HI0.out)) (by (with_reducible repeat (first | apply Kd.R_alloc | apply Kd.R_drewN | apply Kd.R_drew)); exact HO253.out) (by decide)) hk (fun _ h => h.2)) (fun _ h => h.1)); have n2_ := Aside0.mk (KeepBut.trans (by repeat (first | (with_reducible first | exact HK.out | apply KeepBut.set_ | apply keep_drewN | apply keep_drew | apply keep_alloc | refine keep_far ?_ GW244.out _) | exact HK.out)) hk (.inl rfl)); have n3_ := Aside0.mk (hb); have n4_ := Aside0.mk (hi); clear BK244; clear HO253; clear HK; clear HB; clear HI0; have BK244 := n0_; have HO253 := n1_; have HK := n2_; have HB := n3_; have HI0 := n4_; clear n0_ n1_ n2_ n3_ n4_; (try clear hb); (try clear hk); (try clear hi)) | ((with_reducible refine gate_callee (f := 54) rfl ?_); refine goesL_ (some 11) rfl rfl Tryz.func54 (by kernel_rfl) rfl #[.pointer (some ⟨g, 0, none⟩), .int .i64 3] rfl (by (try simp only [List.map_toArray, List.map_cons, List.map_nil]); first | done | rfl) ?_; (with_reducible refine (spec_l1Below.calls g s0_0 t255 t256 3 t257 t258 t259 w0 _ ?side1 ?side2 A5.out).mono ?_); (case side1 => repeat (first | (with_reducible first | exact HI0.out | apply IsS70.alloc | apply IsS70.drewN | apply IsS70.drew | apply IsS70.set_1 | apply IsS70.set_2 | refine IsS70.far ?_ NB0_244.out _) | exact HI0.out)); (case side2 => repeat (first | (with_reducible first | exact HB.out | apply below_alloc | apply pw_below_drewN | apply below_drew1 | refine below_set ?_ (IsS70.ge HI0.out) | refine below_set ?_ GE244.out) | exact HB.out)); rintro e w13 ⟨rfl, hi, hb, hk⟩; refine ⟨_, rfl, ?_⟩; have n0_ := Aside0.mk (KeepBut.blk hk (g' := gb244) (o := .cells #[.int .i64 0, .int .i64 0, .int .i64 0, .int .i64 0] 60 (0, 0)) (by (with_reducible repeat (first | refine blk_drewN ?_ _ | refine blk_drew ?_ | refine blk_alloc ?_ _)); exact BK244.out) NB244_0.out (by simp)); have n1_ := Aside0.mk (Kd.R_mono (Kd.R_keep (IsS70.apart (show IsS70 w0 _ g s0_0 t255 t256 from by repeat (first | (with_reducible first | exact HI0.out | apply IsS70.alloc | apply IsS70.drewN | apply IsS70.drew | apply IsS70.set_1 | apply IsS70.set_2 | refine IsS70.far ?_ NB0_244.out _) | exact HI0.out)) (by (with_reducible repeat (first | apply Kd.R_alloc | apply Kd.R_drewN | apply Kd.R_drew)); exact HO253.out) (by decide)) hk (fun _ h => h.2)) (fun _ h => h.1)); have n2_ := Aside0.mk (KeepBut.trans (by repeat (first | (with_reducible first | exact HK.out | apply KeepBut.set_ | apply keep_drewN | apply keep_drew | apply keep_alloc | refine keep_far ?_ GW244.out _) | exact HK.out)) hk (.inl rfl)); have n3_ := Aside0.mk (hb); have n4_ := Aside0.mk (hi); clear BK244; clear HO253; clear HK; clear HB; clear HI0; have BK244 := n0_; have HO253 := n1_; have HK := n2_; have HB := n3_; have HI0 := n4_; clear n0_ n1_ n2_ n3_ n4_; (try clear hb); (try clear hk); (try clear hi); have hnb14 := NB244_0.out; have hnc14 := NB0_244.out; have hcz15_0 : w13.cell? ⟨gb244, 0, none⟩ = some (.int .i64 0) := (blk_cell BK244.out 0).trans rfl; have hcz15_1 : w13.cell? ⟨gb244, 1, none⟩ = some (.int .i64 0) := (blk_cell BK244.out 1).trans rfl; have hcz15_2 : w13.cell? ⟨gb244, 2, none⟩ = some (.int .i64 0) := (blk_cell BK244.out 2).trans rfl; have hcz15_3 : w13.cell? ⟨gb244, 3, none⟩ = some (.int .i64 0) := (blk_cell BK244.out 3).trans rfl; have hfz15_0 := blk_frozen BK244.out 0; have hfz15_1 := blk_frozen BK244.out 1; have hfz15_2 := blk_frozen BK244.out 2; have hfz15_3 := blk_frozen BK244.out 3))
 refine bodyPost_ret (results_cell_row rfl _ _ gb244 60 #[.int .i64 t245, .int .i64 t248, .int .i64 t254, .int .i64 t257] (0, 0) _ rfl (by (with_reducible repeat (first | refine blk_drewN ?_ _ | refine blk_drew ?_ | refine blk_alloc ?_ _)); refine blk_put (cs := #[.int .i64 t245, .int .i64 t248, .int .i64 t254, .int .i64 0]) ?_ 3 _ rfl; (with_reducible repeat (first | refine blk_drewN ?_ _ | refine blk_drew ?_ | refine blk_alloc ?_ _)); refine blk_put (cs := #[.int .i64 t245, .int .i64 t248, .int .i64 0, .int .i64 0]) ?_ 2 _ rfl; (with_reducible repeat (first | refine blk_drewN ?_ _ | refine blk_drew ?_ | refine blk_alloc ?_ _)); refine blk_put (cs := #[.int .i64 t245, .int .i64 0, .int .i64 0, .int .i64 0]) ?_ 1 _ rfl; (with_reducible repeat (first | refine blk_drewN ?_ _ | refine blk_drew ?_ | refine blk_alloc ?_ _)); refine blk_put (cs := #[.int .i64 0, .int .i64 0, .int .i64 0, .int .i64 0]) ?_ 0 _ rfl; (with_reducible repeat (first | refine blk_drewN ?_ _ | refine blk_drew ?_ | refine blk_alloc ?_ _)); exact BK244.out) Tryz.underlying60 rfl (by kernel_rfl)) rfl ?_
 exact ⟨by first | rfl | (simp [*] <;> rfl), by repeat (first | (with_reducible first | exact HI0.out | apply IsS70.alloc | apply IsS70.drewN | apply IsS70.drew | apply IsS70.set_1 | apply IsS70.set_2 | refine IsS70.far ?_ NB0_244.out _) | exact HI0.out), by repeat (first | (with_reducible first | exact HB.out | apply below_alloc | apply pw_below_drewN | apply below_drew1 | refine below_set ?_ (IsS70.ge HI0.out) | refine below_set ?_ GE244.out) | exact HB.out), by repeat (first | (with_reducible first | exact HK.out | apply KeepBut.set_ | apply keep_drewN | apply keep_drew | apply keep_alloc | refine keep_far ?_ GW244.out _) | exact HK.out)⟩

end Go.Proofs.YtbecffgalndagaaGreatDoor.PFnNames
