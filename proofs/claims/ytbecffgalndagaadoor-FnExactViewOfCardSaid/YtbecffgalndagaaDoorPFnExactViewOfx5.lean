/- Walks of the functions that a law of seat YtbecffgalndagaaDoor reaches, each against a Lean function, printed by this session's wip/myprint.py; no condition of their own. -/
import Derived.Test.YtbecffgalndagaaDoorPFnExactViewOfx0
import Derived.Test.YtbecffgalndagaaDoorPFnExactViewOfx3
import Derived.Test.YtbecffgalndagaaDoorPFnExactViewOfx4
namespace Go.Proofs.YtbecffgalndagaaDoor.PFnExactViewOf
open Go.RowKit Go.Proofs.YtbecffgalndagaaDoorW.PrintWords Go.Proofs.YtbecffgalndagaaDoorW.PrintLast Go.Proofs.YtbecffgalndagaaDoorW.PrintMore
attribute [local go_sem] max2_int min2_int max_two min_two max_three min_three max_four min_four   -- for this text's walks alone
set_option linter.unusedVariables false
set_option linter.unusedSimpArgs false

/-! ### impl_Steps: function 36 -/
mutual
def impl_Steps.j0 : Nat → List ByteArray → Bool → Option ((List (S59)) × Bool)
  | 0, _, _ => none
  | k + 1, x4, x29 => if x29 = true then (some (([] : List (S59)), false)) else (if 1 ≤ (x4.length : Int) then ((some (x4.drop 1 : List ByteArray)).bind fun y231 => (impl_Steps.l0 k ([] : List (S59)) 0 y231 (y231.length : Int) 0)) else (none))
def impl_Steps.l0 : Nat → List (S59) → Int → List ByteArray → Int → Int → Option ((List (S59)) × Bool)
  | 0, _, _, _, _, _ => none
  | k + 1, x5, x6, x31, x32, x33 => if x33 < x32 then (if 0 ≤ x33 then (if x33 < (x31.length : Int) then ((strings_Cut.f (rdOf ByteArray.empty x31 x33) (⟨#[124]⟩ : ByteArray)).bind fun bt236 => ((impl_Number.f k bt236.1).bind fun bt239 => ((impl_TxsOf.f k bt236.2.1).bind fun bt241 => (if bt236.2.2 = true then (if bt239.2 = true then (if bt241.2 = true then ((impl_within.f bt239.1 (wrap64 (x6 + 1)) 60).bind fun t245 => (if t245 = true then (if (bt241.1.length : Int) > 2 then (some (([] : List (S59)), false)) else (if x5.length < 4398046511104 then (impl_Steps.l0 k (x5 ++ [(⟨bt239.1, bt241.1⟩ : S59)]) bt239.1 x31 x32 (wrap64 (x33 + 1))) else (none))) else (some (([] : List (S59)), false)))) else (some (([] : List (S59)), false))) else (some (([] : List (S59)), false))) else (some (([] : List (S59)), false)))))) else (none)) else (none)) else (some (x5, true))
end
def impl_Steps.f (k : Nat) (a0 : ByteArray) : Option ((List (S59)) × Bool) := if a0.toList = ([] : List UInt8) then (some (([] : List (S59)), true)) else ((impl_Split.f a0 47).bind fun t227 => (if 0 < (t227.length : Int) then (if (rdOf ByteArray.empty t227 0).toList = ([] : List UInt8) then (impl_Steps.j0 k t227 (decide ((wrap64 ((t227.length : Int) - 1)) > 30))) else (impl_Steps.j0 k t227 true)) else (none)))
theorem impl_Steps.mono_l : ∀ k, (∀ y0 y1, LeO (impl_Steps.j0 k y0 y1) (impl_Steps.j0 (k + 1) y0 y1)) ∧ (∀ y0 y1 y2 y3 y4, LeO (impl_Steps.l0 k y0 y1 y2 y3 y4) (impl_Steps.l0 (k + 1) y0 y1 y2 y3 y4))
  | 0 => ⟨fun _ _ r h => by simp [impl_Steps.j0] at h, fun _ _ _ _ _ r h => by simp [impl_Steps.l0] at h⟩
  | k + 1 => by
    obtain ⟨ih0, ih1⟩ := impl_Steps.mono_l k
    refine ⟨?_, ?_⟩
    · intro y0 y1
      unfold impl_Steps.j0
      repeat' first
      | (with_reducible exact ih0 _ _)
      | (with_reducible exact ih1 _ _ _ _ _)
      | (with_reducible exact impl_Number.mono _ _)
      | (with_reducible exact impl_TxsOf.mono _ _)
      | (with_reducible exact LeO.refl _)
      | (with_reducible exact LeO.none _)
      | (with_reducible refine LeO.ite ?_ ?_)
      | (with_reducible refine LeO.bind ?_ (fun _ => ?_))
      | exact ih0 _ _
      | exact ih1 _ _ _ _ _
      | exact impl_Number.mono _ _
      | exact impl_TxsOf.mono _ _
      | exact LeO.none _
      | refine LeO.ite ?_ ?_
      | refine LeO.bind ?_ (fun _ => ?_)
    · intro y0 y1 y2 y3 y4
      unfold impl_Steps.l0
      repeat' first
      | (with_reducible exact ih0 _ _)
      | (with_reducible exact ih1 _ _ _ _ _)
      | (with_reducible exact impl_Number.mono _ _)
      | (with_reducible exact impl_TxsOf.mono _ _)
      | (with_reducible exact LeO.refl _)
      | (with_reducible exact LeO.none _)
      | (with_reducible refine LeO.ite ?_ ?_)
      | (with_reducible refine LeO.bind ?_ (fun _ => ?_))
      | exact ih0 _ _
      | exact ih1 _ _ _ _ _
      | exact impl_Number.mono _ _
      | exact impl_TxsOf.mono _ _
      | exact LeO.none _
      | refine LeO.ite ?_ ?_
      | refine LeO.bind ?_ (fun _ => ?_)
theorem impl_Steps.mono : ∀ a0 k, LeO (impl_Steps.f k a0) (impl_Steps.f (k + 1) a0) := by
  intro a0 k
  obtain ⟨ih0, ih1⟩ := impl_Steps.mono_l k
  unfold impl_Steps.f
  repeat' first
      | (with_reducible exact ih0 _ _)
      | (with_reducible exact ih1 _ _ _ _ _)
      | (with_reducible exact impl_Number.mono _ _)
      | (with_reducible exact impl_TxsOf.mono _ _)
      | (with_reducible exact LeO.refl _)
      | (with_reducible exact LeO.none _)
      | (with_reducible refine LeO.ite ?_ ?_)
      | (with_reducible refine LeO.bind ?_ (fun _ => ?_))
      | exact ih0 _ _
      | exact ih1 _ _ _ _ _
      | exact impl_Number.mono _ _
      | exact impl_TxsOf.mono _ _
      | exact LeO.none _
      | refine LeO.ite ?_ ?_
      | refine LeO.bind ?_ (fun _ => ?_)
set_option maxHeartbeats 8000000 in
set_option maxRecDepth 100000 in
theorem impl_Steps.calls (k : Nat) (a0 : ByteArray) (r1 : List (S59)) (r2 : Bool) (w : World) (hL : LaidW w) (h : impl_Steps.f k a0 = some (r1, r2)) :
    Calls Tryd.prog 36 #[.string a0] w fun e w' => ∃ v0_ : Value, e = .returned (.tuple #[v0_, .bool r2]) ∧ Kd.S k59 59 w' w.heap.size (fun _ => True) v0_ r1 ∧ Below w.heap.size w w' := by
  have hu59 := Tryd.underlying59
  have HL0 := Aside0.mk hL
  clear hL
  have HB := Aside0.mk (Below.refl w.heap.size w)
  have H : (if a0.toList = ([] : List UInt8) then (some (([] : List (S59)), true)) else ((impl_Split.f a0 47).bind fun t227 => (if 0 < (t227.length : Int) then (if (rdOf ByteArray.empty t227 0).toList = ([] : List UInt8) then (impl_Steps.j0 k t227 (decide ((wrap64 ((t227.length : Int) - 1)) > 30))) else (impl_Steps.j0 k t227 true)) else (none)))) = some (r1, r2) := h
  clear h
  have HF := Aside0.mk H
  clear H
  go_enter Tryd.func36, Tryd.ntmps36
  go_upto_if 17 with (fail)
  have H := HF.out
  clear HF
  by_cases c2 : a0.toList = ([] : List UInt8)
  · rw [if_pos c2] at H
    have c2b0 : (a0.toList == ([] : List UInt8)) = true := beq_iff_eq.mpr c2
    have c2b8 : (a0.toList).isEmpty = true := List.isEmpty_iff.2 c2
    have c2b1 : (a0.toList != ([] : List UInt8)) = false := bne_eq_false_iff_eq.mpr c2
    clear c2
    (first | rw [c2b8] | rw [c2b0] | (simp only [i64_w, i32_w]; rw [c2b0]) | skip)
    simp only [Option.some.injEq, Prod.mk.injEq] at H
    obtain ⟨rfl, rfl⟩ := H
    go_wp2
    go_ret2
    exact ⟨_, by first | rfl | (simp [errW_none, errW_some] <;> rfl) | (simp [*, errW_none, errW_some] <;> rfl), by first | exact Kd.S_nil _ _ _ _ _ | exact Kd.N_nil _ _ _ _ _ | exact Kd.V_nil _ _ _ _ _ | exact Kd.Q_nil _ _ _ _ _ | exact Kd.R_nil _ _ _ _ _, by repeat (first | (with_reducible first | exact HB.out | apply below_alloc | apply pw_below_drewN | apply below_drew1) | exact HB.out)⟩
  · rw [if_neg c2] at H
    have c2b0 : (a0.toList == ([] : List UInt8)) = false := beq_eq_false_iff_ne.mpr c2
    have c2b8 : (a0.toList).isEmpty = false := Bool.eq_false_iff.2 (fun h_ => c2 (List.isEmpty_iff.1 h_))
    have c2b1 : (a0.toList != ([] : List UInt8)) = true := bne_iff_ne.mpr c2
    (first | rw [c2b8] | rw [c2b0] | (simp only [i64_w, i32_w]; rw [c2b0]) | skip)
    replace H := Option.bind_eq_some_iff.mp H
    obtain ⟨t227, A30, H⟩ := H
    replace H : (if 0 < (t227.length : Int) then (if (rdOf ByteArray.empty t227 0).toList = ([] : List UInt8) then (impl_Steps.j0 k t227 (decide ((wrap64 ((t227.length : Int) - 1)) > 30))) else (impl_Steps.j0 k t227 true)) else (none)) = some (r1, r2) := H
    have A3 := Aside0.mk A30
    clear A30
    have HC4 := Aside0.mk H
    clear H
    go_upto_region 4 with (first | ((with_reducible refine gate_callee (f := 68) rfl ?_); refine goesL_ (some 19) rfl rfl Tryd.func68 (by kernel_rfl) rfl #[.string a0, .int .u8 47] rfl (by (try simp only [List.map_toArray, List.map_cons, List.map_nil]); first | done | rfl | (simp only [List.length_drop, List.length_take]; rfl)) ?_; (with_reducible refine (impl_Split.calls a0 47 t227 _ ?side1 A3.out).mono ?_); (case side1 => exact LaidW.below HL0.out (by repeat (first | (with_reducible first | exact HB.out | apply below_alloc | apply pw_below_drewN | apply below_drew1) | exact HB.out))); rintro e w5 ⟨v228, rfl, ho0, hb⟩; refine ⟨_, rfl, ?_⟩; have n0_ := Aside0.mk (Kd.R_lower ho0 (below_size (by repeat (first | (with_reducible first | exact HB.out | apply below_alloc | apply pw_below_drewN | apply below_drew1) | exact HB.out)))); have n1_ := Aside0.mk (below_step (by repeat (first | (with_reducible first | exact HB.out | apply below_alloc | apply pw_below_drewN | apply below_drew1) | exact HB.out)) hb); clear HB; have HO229 := n0_; have HB := n1_; clear n0_ n1_; (try clear hb); (try clear hb2); (try clear hk); (try clear hi); (try clear ho0)))
    (try simp only [Act.put, List.setIfInBounds_toArray, List.set_cons_zero, List.set_cons_succ])
    go_cut [29] (fun v29 wc => ∃ (kq : Nat) (x29_3 : Bool), v29 = .bool x29_3 ∧ Aside0 (impl_Steps.j0 kq t227 x29_3 = some (r1, r2)) ∧ Aside0 (kq ≤ k) ∧ Aside0 (Kd.R Kd.string 9 wc w.heap.size (fun _ => True) v228 t227) ∧ Aside0 (Below w.heap.size w wc))
    case first =>
      have H := HC4.out
      clear HC4
      by_cases c6 : 0 < (t227.length : Int)
      · rw [if_pos c6] at H
        have c6b0 : decide (0 < (t227.length : Int)) = true := decide_eq_true c6
        have c6b1 : decide (0 < t227.length) = true := decide_eq_true (by omega)
        clear c6
        (first | rw [c6b0] | (simp only [i64_w, i32_w]; rw [c6b0]) | skip)
        by_cases c7 : (rdOf ByteArray.empty t227 0).toList = ([] : List UInt8)
        · rw [if_pos c7] at H
          have c7b0 : ((rdOf ByteArray.empty t227 0).toList == ([] : List UInt8)) = true := beq_iff_eq.mpr c7
          have c7b8 : ((rdOf ByteArray.empty t227 0).toList).isEmpty = true := List.isEmpty_iff.2 c7
          have c7b1 : ((rdOf ByteArray.empty t227 0).toList != ([] : List UInt8)) = false := bne_eq_false_iff_eq.mpr c7
          clear c7
          have H' := Aside0.mk H
          clear H
          obtain ⟨Ao8, co8, eo8⟩ := Kd.R_slice HO229.out
          subst eo8
          have p230 : 0 ≤ (0 : Int) := (by omega)
          have q230 : 0 < (t227.length : Int) := of_decide_eq_true (by first | (with_reducible assumption) | assumption)
          obtain ⟨ad230, e230, hx230_0⟩ := Kd.at_string (Kd.R_reads' HO229.out).2.2 0 p230 q230
          cases e230
          have qi230 : (0 < t227.length) = True := eq_true (by omega)
          (try rw [show ((0 : Int)).toNat = 0 from rfl] at hx230_0)
          (try rw [Addr.add_zero'] at hx230_0)
          replace p230 := eq_true p230
          replace q230 := eq_true q230
          go_wp2
          go_meet
          case rel => exact ⟨_, (decide ((wrap64 ((t227.length : Int) - 1)) > 30)), (by first | rfl | (simp; done) | (simp [*]; done)), H', ⟨by first | omega | exact Nat.le_refl _⟩, ⟨by (with_reducible repeat (first | apply Kd.R_alloc | apply Kd.R_drewN | apply Kd.R_drew)); exact HO229.out⟩, ⟨by repeat (first | (with_reducible first | exact HB.out | apply below_alloc | apply pw_below_drewN | apply below_drew1) | exact HB.out)⟩⟩
        · rw [if_neg c7] at H
          have c7b0 : ((rdOf ByteArray.empty t227 0).toList == ([] : List UInt8)) = false := beq_eq_false_iff_ne.mpr c7
          have c7b8 : ((rdOf ByteArray.empty t227 0).toList).isEmpty = false := Bool.eq_false_iff.2 (fun h_ => c7 (List.isEmpty_iff.1 h_))
          have c7b1 : ((rdOf ByteArray.empty t227 0).toList != ([] : List UInt8)) = true := bne_iff_ne.mpr c7
          have H' := Aside0.mk H
          clear H
          obtain ⟨Ao9, co9, eo9⟩ := Kd.R_slice HO229.out
          subst eo9
          have p230 : 0 ≤ (0 : Int) := (by omega)
          have q230 : 0 < (t227.length : Int) := of_decide_eq_true (by first | (with_reducible assumption) | assumption)
          obtain ⟨ad230, e230, hx230_0⟩ := Kd.at_string (Kd.R_reads' HO229.out).2.2 0 p230 q230
          cases e230
          have qi230 : (0 < t227.length) = True := eq_true (by omega)
          (try rw [show ((0 : Int)).toNat = 0 from rfl] at hx230_0)
          (try rw [Addr.add_zero'] at hx230_0)
          replace p230 := eq_true p230
          replace q230 := eq_true q230
          go_wp2
          go_meet
          case rel => exact ⟨_, (true), (by first | rfl | (simp; done) | (simp [*]; done)), H', ⟨by first | omega | exact Nat.le_refl _⟩, ⟨by (with_reducible repeat (first | apply Kd.R_alloc | apply Kd.R_drewN | apply Kd.R_drew)); exact HO229.out⟩, ⟨by repeat (first | (with_reducible first | exact HB.out | apply below_alloc | apply pw_below_drewN | apply below_drew1) | exact HB.out)⟩⟩
      · rw [if_neg c6] at H
        exact absurd H (by simp)
    case rest =>
      clear HC4
      try clear c2
      try clear c2b0
      try clear c2b1
      try clear p2
      try clear q2
      try clear hx2
      try clear qi2
      try clear c3
      try clear c6
      try clear c6b0
      try clear c6b1
      try clear p6
      try clear c7
      try clear c7b0
      try clear c7b1
      try clear hx230_0
      try clear p230
      try clear q230
      obtain ⟨kq, x29_3, rfl, HA, HJ3, HO_4, HB⟩ := hcut
      cases kq with
      | zero => exact absurd HA.out (by simp [impl_Steps.j0])
      | succ kj3 =>
        have H := HA.out
        clear HA
        simp only [impl_Steps.j0] at H
        have HF := Aside0.mk H
        clear H
        go_upto_if 29 with (fail)
        have H := HF.out
        clear HF
        by_cases c10 : x29_3 = true
        · subst c10
          have H1 : (some (([] : List (S59)), false)) = some (r1, r2) := by rw [if_pos rfl] at H; exact H
          clear H
          have H := H1
          clear H1
          simp only [Option.some.injEq, Prod.mk.injEq] at H
          obtain ⟨rfl, rfl⟩ := H
          go_wp2
          go_ret2
          exact ⟨_, by first | rfl | (simp [errW_none, errW_some] <;> rfl) | (simp [*, errW_none, errW_some] <;> rfl), by first | exact Kd.S_nil _ _ _ _ _ | exact Kd.N_nil _ _ _ _ _ | exact Kd.V_nil _ _ _ _ _ | exact Kd.Q_nil _ _ _ _ _ | exact Kd.R_nil _ _ _ _ _, by repeat (first | (with_reducible first | exact HB.out | apply below_alloc | apply pw_below_drewN | apply below_drew1) | exact HB.out)⟩
        · replace c10 := Bool.eq_false_iff.mpr c10
          subst c10
          have H1 : (if 1 ≤ (t227.length : Int) then ((some (t227.drop 1 : List ByteArray)).bind fun y231 => (impl_Steps.l0 kj3 ([] : List (S59)) 0 y231 (y231.length : Int) 0)) else (none)) = some (r1, r2) := by rw [if_neg (show ¬ (false = true) by decide)] at H; exact H
          clear H
          have H := H1
          clear H1
          by_cases c11 : 1 ≤ (t227.length : Int)
          · rw [if_pos c11] at H
            have c11b0 := eq_true c11
            have c11b1 : decide (1 ≤ (t227.length : Int)) = true := decide_eq_true c11
            clear c11
            obtain ⟨y231, hy231⟩ : ∃ y_ : List ByteArray, y_ = (t227.drop 1) := ⟨_, rfl⟩
            replace H : (impl_Steps.l0 kj3 ([] : List (S59)) 0 y231 (y231.length : Int) 0) = some (r1, r2) := by first | (rw [hy231]; with_reducible exact H) | (have H2_ := (Option.bind_some _ _).symm.trans H; rw [hy231]; with_reducible exact H2_) | (have H2_ := (Option.bind_some _ _).symm.trans H; with_reducible exact H2_) | with_reducible exact H | (rw [hy231]; exact H) | exact H
            have Ny231 := Aside0.mk hy231
            clear hy231
            have H' := Aside0.mk H
            clear H
            obtain ⟨Ao13, co13, eo13⟩ := Kd.R_slice HO_4.out
            subst eo13
            have q12 : (1 : Int) ≤ ((t227.length : Int) : Int) := of_decide_eq_true (by first | (with_reducible assumption) | assumption)
            obtain ⟨i012, hi012, _, hsz12, _⟩ := info_parts info9
            have hroom12 : t227.length ≤ co13 := (Kd.R_reads' HO_4.out).2.1
            have hC12 : Kd.C Kd.string _ Ao13 t227.length t227 := (Kd.R_reads' HO_4.out).2.2
            have hcut12 := cut_from (P := Tryd.prog) 62 9 .i64 Tryd.underlying62 hi012 1 hsz12 Ao13 t227.length co13 1 (by omega) q12
            have hr12 := Kd.C_drop (m := (1 : Int).toNat) (c := co13) hC12 (by omega) hroom12
            obtain ⟨A12, hA12⟩ : ∃ A1, A1 = (if co13 = (1 : Int).toNat then Ao13 else (Ao13 : Option Addr).map (·.add ((1 : Int).toNat * 1))) := ⟨_, rfl⟩
            obtain ⟨c12, hc12⟩ : ∃ c1, c1 = co13 - (1 : Int).toNat := ⟨_, rfl⟩
            have hy12 : y231.length = t227.length - (1 : Int).toNat := (by rw [Ny231.out, List.length_drop] <;> omega)
            rw [show (t227).drop (1 : Int).toNat = y231 from Ny231.out.symm] at hr12
            replace hr12 : Kd.C Kd.string _ A12 y231.length y231 := (by rw [hA12]; exact hr12)
            rw [← hy12, ← hA12, ← hc12] at hcut12
            have HR234 := Aside0.mk hr12
            have HC234 := Aside0.mk (show y231.length ≤ c12 from by rw [hy12, hc12]; exact Nat.sub_le_sub_right hroom12 _)
            clear hr12 hC12 hroom12 hi012 hsz12 hc12
            have KY12 := Aside0.mk hy12
            have KA12 := Aside0.mk hA12
            clear hy12 hA12
            have KL12 := Aside0.mk (show 1 ≤ t227.length from by omega)
            replace q12 := eq_true q12
            go_wp2
            have HBw := HB
            have HLn := Aside0.mk (LaidW.below HL0.out HB.out)
            clear HL0
            have HL0 := HLn
            go_loopg [5, 6, 33] kj3 (fun kq v5 v6 v33 w' => ∃ (x5_2 : List (S59)) (x6_2 : Int) (x33_2 : Int), v6 = .int .i64 x6_2 ∧ v33 = .int .i64 x33_2 ∧ Aside0 (impl_Steps.l0 kq x5_2 x6_2 y231 (y231.length : Int) x33_2 = some (r1, r2)) ∧ Aside0 (kq ≤ kj3) ∧ Aside0 (Kd.S k59 59 w' wc.heap.size (fun _ => True) v5 x5_2) ∧ Aside0 (Below wc.heap.size wc w'))
            case atStart => exact ⟨(([] : List (S59))), (0), (0), (by first | rfl | (simp; done) | (simp [*]; done)), (by first | rfl | (simp; done) | (simp [*]; done)), H', ⟨Nat.le_refl _⟩, ⟨by first | exact Kd.S_nil _ _ _ _ _ | exact Kd.N_nil _ _ _ _ _ | exact Kd.V_nil _ _ _ _ _ | exact Kd.Q_nil _ _ _ _ _ | exact Kd.R_nil _ _ _ _ _⟩, ⟨Below.refl _ _⟩⟩
            case round =>
              clear H'
              try clear c1
              try clear q1
              try clear c2
              try clear c2b0
              try clear c2b1
              try clear p2
              try clear q2
              try clear hx2
              try clear qi2
              try clear c3
              try clear c6
              try clear c6b0
              try clear c6b1
              try clear p6
              try clear c7
              try clear c7b0
              try clear c7b1
              try clear c10
              try clear c11
              try clear c11b0
              try clear c11b1
              try clear c12
              try clear q12
              try clear hx230_0
              try clear p2
              try clear p230
              try clear p6
              try clear q12
              try clear q2
              try clear q230
              obtain ⟨x5_2, x6_2, x33_2, rfl, rfl, HA, HK2, HO_5, HB⟩ := hrel
              cases gk with
              | zero => exact absurd HA.out (by simp [impl_Steps.l0])
              | succ k2 =>
                have H := HA.out
                clear HA
                simp only [impl_Steps.l0] at H
                have HF := Aside0.mk H
                clear H
                go_upto_if 34 with (fail)
                have H := HF.out
                clear HF
                by_cases c14 : x33_2 < (y231.length : Int)
                · rw [if_pos c14] at H
                  have c14b0 : decide (x33_2 < (y231.length : Int)) = true := decide_eq_true c14
                  clear c14
                  (first | rw [c14b0] | (simp only [i64_w, i32_w]; rw [c14b0]) | skip)
                  by_cases c15 : 0 ≤ x33_2
                  · rw [if_pos c15] at H
                    have c15b0 : decide (0 ≤ x33_2) = true := decide_eq_true c15
                    clear c15
                    by_cases c16 : x33_2 < (y231.length : Int)
                    · rw [if_pos c16] at H
                      have c16b0 : decide (x33_2 < (y231.length : Int)) = true := decide_eq_true c16
                      clear c16
                      replace H := Option.bind_eq_some_iff.mp H
                      obtain ⟨⟨t236, t237, t238⟩, A170, H⟩ := H
                      replace H : ((impl_Number.f k2 t236).bind fun bt239 => ((impl_TxsOf.f k2 t237).bind fun bt241 => (if t238 = true then (if bt239.2 = true then (if bt241.2 = true then ((impl_within.f bt239.1 (wrap64 (x6_2 + 1)) 60).bind fun t245 => (if t245 = true then (if (bt241.1.length : Int) > 2 then (some (([] : List (S59)), false)) else (if x5_2.length < 4398046511104 then (impl_Steps.l0 k2 (x5_2 ++ [(⟨bt239.1, bt241.1⟩ : S59)]) bt239.1 y231 (y231.length : Int) (wrap64 (x33_2 + 1))) else (none))) else (some (([] : List (S59)), false)))) else (some (([] : List (S59)), false))) else (some (([] : List (S59)), false))) else (some (([] : List (S59)), false))))) = some (r1, r2) := H
                      have A17 := Aside0.mk A170
                      clear A170
                      replace H := Option.bind_eq_some_iff.mp H
                      obtain ⟨⟨t239, t240⟩, A180, H⟩ := H
                      replace H : ((impl_TxsOf.f k2 t237).bind fun bt241 => (if t238 = true then (if t240 = true then (if bt241.2 = true then ((impl_within.f t239 (wrap64 (x6_2 + 1)) 60).bind fun t245 => (if t245 = true then (if (bt241.1.length : Int) > 2 then (some (([] : List (S59)), false)) else (if x5_2.length < 4398046511104 then (impl_Steps.l0 k2 (x5_2 ++ [(⟨t239, bt241.1⟩ : S59)]) t239 y231 (y231.length : Int) (wrap64 (x33_2 + 1))) else (none))) else (some (([] : List (S59)), false)))) else (some (([] : List (S59)), false))) else (some (([] : List (S59)), false))) else (some (([] : List (S59)), false)))) = some (r1, r2) := H
                      have A18 := Aside0.mk A180
                      clear A180
                      replace H := Option.bind_eq_some_iff.mp H
                      obtain ⟨⟨t241, t242⟩, A190, H⟩ := H
                      replace H : (if t238 = true then (if t240 = true then (if t242 = true then ((impl_within.f t239 (wrap64 (x6_2 + 1)) 60).bind fun t245 => (if t245 = true then (if (t241.length : Int) > 2 then (some (([] : List (S59)), false)) else (if x5_2.length < 4398046511104 then (impl_Steps.l0 k2 (x5_2 ++ [(⟨t239, t241⟩ : S59)]) t239 y231 (y231.length : Int) (wrap64 (x33_2 + 1))) else (none))) else (some (([] : List (S59)), false)))) else (some (([] : List (S59)), false))) else (some (([] : List (S59)), false))) else (some (([] : List (S59)), false))) = some (r1, r2) := H
                      have A19 := Aside0.mk A190
                      clear A190
                      by_cases c20 : t238 = true
                      · subst c20
                        have H1 : (if t240 = true then (if t242 = true then ((impl_within.f t239 (wrap64 (x6_2 + 1)) 60).bind fun t245 => (if t245 = true then (if (t241.length : Int) > 2 then (some (([] : List (S59)), false)) else (if x5_2.length < 4398046511104 then (impl_Steps.l0 k2 (x5_2 ++ [(⟨t239, t241⟩ : S59)]) t239 y231 (y231.length : Int) (wrap64 (x33_2 + 1))) else (none))) else (some (([] : List (S59)), false)))) else (some (([] : List (S59)), false))) else (some (([] : List (S59)), false))) = some (r1, r2) := by rw [if_pos rfl] at H; exact H
                        clear H
                        have H := H1
                        clear H1
                        by_cases c21 : t240 = true
                        · subst c21
                          have H1 : (if t242 = true then ((impl_within.f t239 (wrap64 (x6_2 + 1)) 60).bind fun t245 => (if t245 = true then (if (t241.length : Int) > 2 then (some (([] : List (S59)), false)) else (if x5_2.length < 4398046511104 then (impl_Steps.l0 k2 (x5_2 ++ [(⟨t239, t241⟩ : S59)]) t239 y231 (y231.length : Int) (wrap64 (x33_2 + 1))) else (none))) else (some (([] : List (S59)), false)))) else (some (([] : List (S59)), false))) = some (r1, r2) := by rw [if_pos rfl] at H; exact H
                          clear H
                          have H := H1
                          clear H1
                          by_cases c22 : t242 = true
                          · subst c22
                            have H1 : ((impl_within.f t239 (wrap64 (x6_2 + 1)) 60).bind fun t245 => (if t245 = true then (if (t241.length : Int) > 2 then (some (([] : List (S59)), false)) else (if x5_2.length < 4398046511104 then (impl_Steps.l0 k2 (x5_2 ++ [(⟨t239, t241⟩ : S59)]) t239 y231 (y231.length : Int) (wrap64 (x33_2 + 1))) else (none))) else (some (([] : List (S59)), false)))) = some (r1, r2) := by rw [if_pos rfl] at H; exact H
                            clear H
                            have H := H1
                            clear H1
                            replace H := Option.bind_eq_some_iff.mp H
                            obtain ⟨t245, A230, H⟩ := H
                            replace H : (if t245 = true then (if (t241.length : Int) > 2 then (some (([] : List (S59)), false)) else (if x5_2.length < 4398046511104 then (impl_Steps.l0 k2 (x5_2 ++ [(⟨t239, t241⟩ : S59)]) t239 y231 (y231.length : Int) (wrap64 (x33_2 + 1))) else (none))) else (some (([] : List (S59)), false))) = some (r1, r2) := H
                            have A23 := Aside0.mk A230
                            clear A230
                            by_cases c24 : t245 = true
                            · subst c24
                              have H1 : (if (t241.length : Int) > 2 then (some (([] : List (S59)), false)) else (if x5_2.length < 4398046511104 then (impl_Steps.l0 k2 (x5_2 ++ [(⟨t239, t241⟩ : S59)]) t239 y231 (y231.length : Int) (wrap64 (x33_2 + 1))) else (none))) = some (r1, r2) := by rw [if_pos rfl] at H; exact H
                              clear H
                              have H := H1
                              clear H1
                              have HF := Aside0.mk H
                              clear H
                              have p235 : 0 ≤ (x33_2 : Int) := of_decide_eq_true (by first | (with_reducible assumption) | assumption)
                              have q235 : x33_2 < (y231.length : Int) := of_decide_eq_true (by first | (with_reducible assumption) | assumption)
                              obtain ⟨ad235, e235, hx235_0⟩ := Kd.at_string HR234.out x33_2 p235 q235
                              cases e235
                              replace hx235_0 := (HB.out.cell (World.block_lt_of_cell? wc _ hx235_0)).trans hx235_0
                              replace p235 := eq_true p235
                              replace q235 := eq_true q235
                              go_upto_if 74 with (go_big_may; first | ((with_reducible refine gate_callee (f := 69) rfl ?_); refine goesL_ (some 39) rfl rfl Tryd.func69 (by kernel_rfl) rfl #[.string (rdOf ByteArray.empty y231 x33_2), .string (⟨#[124]⟩ : ByteArray)] rfl (by (try simp only [List.map_toArray, List.map_cons, List.map_nil]); first | done | rfl | (simp only [List.length_drop, List.length_take]; rfl)) ?_; (with_reducible refine (strings_Cut.calls (rdOf ByteArray.empty y231 x33_2) (⟨#[124]⟩ : ByteArray) t236 t237 true _ ?side1 A17.out).mono ?_); (case side1 => exact LaidW.below HL0.out (by repeat (first | (with_reducible first | exact HB.out | apply below_alloc | apply pw_below_drewN | apply below_drew1) | exact HB.out))); rintro e w' ⟨rfl, ⟨nd, rfl⟩⟩; refine ⟨_, rfl, ?_⟩) | ((with_reducible refine gate_callee (f := 70) rfl ?_); refine goesL_ (some 45) rfl rfl Tryd.func70 (by kernel_rfl) rfl #[.string t236] rfl (by (try simp only [List.map_toArray, List.map_cons, List.map_nil]); first | done | rfl | (simp only [List.length_drop, List.length_take]; rfl)) ?_; (with_reducible refine (impl_Number.calls k2 t236 t239 true _ ?side1 A18.out).mono ?_); (case side1 => exact LaidW.below HL0.out (by repeat (first | (with_reducible first | exact HB.out | apply below_alloc | apply pw_below_drewN | apply below_drew1) | exact HB.out))); rintro e w25 ⟨rfl, hb⟩; refine ⟨_, rfl, ?_⟩; have n0_ := Aside0.mk (Kd.S_below (by (with_reducible repeat (first | apply Kd.S_alloc | apply Kd.S_drewN | apply Kd.S_drew)); exact HO_5.out) hb); have n1_ := Aside0.mk (below_step (by repeat (first | (with_reducible first | exact HB.out | apply below_alloc | apply pw_below_drewN | apply below_drew1) | exact HB.out)) hb); clear HO_5; clear HB; have HO_5 := n0_; have HB := n1_; clear n0_ n1_; (try clear hb); (try clear hb2); (try clear hk); (try clear hi)) | ((with_reducible refine gate_callee (f := 50) rfl ?_); refine goesL_ (some 50) rfl rfl Tryd.func50 (by kernel_rfl) rfl #[.string t237] rfl (by (try simp only [List.map_toArray, List.map_cons, List.map_nil]); first | done | rfl | (simp only [List.length_drop, List.length_take]; rfl)) ?_; (with_reducible refine (impl_TxsOf.calls k2 t237 t241 true _ ?side1 A19.out).mono ?_); (case side1 => exact LaidW.below HL0.out (by repeat (first | (with_reducible first | exact HB.out | apply below_alloc | apply pw_below_drewN | apply below_drew1) | exact HB.out))); rintro e w26 ⟨v243, rfl, ho0, hb⟩; refine ⟨_, rfl, ?_⟩; have n0_ := Aside0.mk (Kd.S_elder' (by (with_reducible repeat (first | apply Kd.S_alloc | apply Kd.S_drewN | apply Kd.S_drew)); exact HO_5.out) (Kd.R_base ho0) hb); have n1_ := Aside0.mk (Kd.R_lower ho0 (below_size (by repeat (first | (with_reducible first | exact HB.out | apply below_alloc | apply pw_below_drewN | apply below_drew1) | exact HB.out)))); have n2_ := Aside0.mk (below_step (by repeat (first | (with_reducible first | exact HB.out | apply below_alloc | apply pw_below_drewN | apply below_drew1) | exact HB.out)) hb); clear HO_5; clear HB; have HO_5 := n0_; have HO244 := n1_; have HB := n2_; clear n0_ n1_ n2_; (try clear hb); (try clear hb2); (try clear hk); (try clear hi); (try clear ho0)) | (go_at_call 71; (with_reducible refine (impl_within.calls t239 (wrap64 (x6_2 + 1)) 60 true _ A23.out).mono ?_); rintro e w' ⟨rfl, ⟨nd, rfl⟩⟩; obtain ⟨Ao27, co27, eo27⟩ := Kd.R_slice HO244.out; subst eo27))
                              have H := HF.out
                              clear HF
                              by_cases c28 : (t241.length : Int) > 2
                              · rw [if_pos c28] at H
                                have c28b0 : decide (2 < (t241.length : Int)) = true := decide_eq_true c28
                                have c28b1 : decide (2 < t241.length) = true := decide_eq_true (by omega)
                                clear c28
                                (first | rw [c28b0] | (simp only [i64_w, i32_w]; rw [c28b0]) | skip)
                                simp only [Option.some.injEq, Prod.mk.injEq] at H
                                obtain ⟨rfl, rfl⟩ := H
                                go_wp2
                                go_ret2
                                exact ⟨_, by first | rfl | (simp [errW_none, errW_some] <;> rfl) | (simp [*, errW_none, errW_some] <;> rfl), by first | exact Kd.S_nil _ _ _ _ _ | exact Kd.N_nil _ _ _ _ _ | exact Kd.V_nil _ _ _ _ _ | exact Kd.Q_nil _ _ _ _ _ | exact Kd.R_nil _ _ _ _ _, below_then HBw.out (below_size HBw.out) (by repeat (first | (with_reducible first | exact HB.out | apply below_alloc | apply pw_below_drewN | apply below_drew1) | exact HB.out))⟩
                              · rw [if_neg c28] at H
                                have c28b0 : decide (2 < (t241.length : Int)) = false := decide_eq_false c28
                                have c28b1 : decide (2 < t241.length) = false := decide_eq_false (by omega)
                                clear c28
                                (first | rw [c28b0] | (simp only [i64_w, i32_w]; rw [c28b0]) | skip)
                                by_cases c29 : x5_2.length < 4398046511104
                                · rw [if_pos c29] at H
                                  have LMc29 := Aside0.mk c29
                                  clear c29
                                  obtain ⟨y246, hy246⟩ : ∃ y_ : List (S59), y_ = (x5_2 ++ [(⟨t239, t241⟩ : S59)]) := ⟨_, rfl⟩
                                  replace H : (impl_Steps.l0 k2 y246 t239 y231 (y231.length : Int) (wrap64 (x33_2 + 1))) = some (r1, r2) := by first | (rw [hy246]; with_reducible exact H) | (have H2_ := (Option.bind_some _ _).symm.trans H; rw [hy246]; with_reducible exact H2_) | (have H2_ := (Option.bind_some _ _).symm.trans H; with_reducible exact H2_) | with_reducible exact H | (rw [hy246]; exact H) | exact H
                                  have Ny246 := Aside0.mk hy246
                                  clear hy246
                                  have H' := Aside0.mk H
                                  clear H
                                  go_wp2_with (first | ((with_reducible refine gate_builtin (b := .append) (xs := #[.tmp 75, .tmp 79]) rfl ?_); (try (refine gate_guard (by rfl) ?_; dsimp only)); at_builtin; refine Kd.S_append k59 (w0 := wc) wc.heap.size rfl (.tmp 75) (.tmp 79) 35 59 (.agg #[(.int .i64 0), (.slice none 0 0)]) 32 rfl Tryd.underlying35 info59 rfl (by decide) (by omega) u5 x5_2 (⟨t239, t241⟩ : S59) [.int .i64 t239, .slice Ao27 t241.length co27] (fun _ => True) (fun k_ => some k_ = (.slice Ao27 t241.length co27 : Value).ownBlock) rfl rfl ?aP (fun k_ hk_ => ((Kd.R_mono (ok' := fun k_ => ((fun _ => True)) k_ ∧ some k_ ≠ (u5 : Value).ownBlock) (Kd.R_apart' (HO244.out) (Kd.S_typed HO_5.out) (by decide)) (fun k_ hk => ⟨trivial, hk.2⟩))).1 k_ hk_.symm) ?aF ?aO ?aB ?aS ?aL ?_; (case aP => exact k59_mkM _ _ _ (⟨t239, t241⟩ : S59) (Kd.R_mono (Kd.R_tight rfl (Kd.R_mono (ok' := fun k_ => ((fun _ => True)) k_ ∧ some k_ ≠ (u5 : Value).ownBlock) (Kd.R_apart' (HO244.out) (Kd.S_typed HO_5.out) (by decide)) (fun k_ hk => ⟨trivial, hk.2⟩))) (fun _ h_ => h_))); (case aB => exact (by repeat (first | (with_reducible first | exact HB.out | apply below_alloc | apply pw_below_drewN | apply below_drew1) | exact HB.out))); (case aF => exact (fun _ _ => trivial)); (case aO => exact (by (with_reducible repeat (first | apply Kd.S_alloc | apply Kd.S_drewN | apply Kd.S_drew)); exact Kd.S_mono HO_5.out (fun k_ hk => ⟨trivial, fun e_ => hk.2 e_⟩))); (case aS => exact (below_size (by repeat (first | (with_reducible first | exact HB.out | apply below_alloc | apply pw_below_drewN | apply below_drew1) | exact HB.out)))); (case aL => have := LMc29.out; omega); intro v247 w30 ho hb hg hat; rw [← Ny246.out] at ho; have n0_ := Aside0.mk (hb); have n1_ := Aside0.mk (ho); clear HB; clear HO_5; clear HO244; have HB := n0_; have HO248 := n1_; clear n0_ n1_; clear ho hb hg hat))
                                  go_roundg k2
                                  case measure => have := HJ3.out; have := HK2.out; omega
                                  case rel => exact ⟨(y246), (t239), (wrap64 (x33_2 + 1)), (by first | rfl | (simp; done) | (simp [*]; done)), (by first | rfl | (simp; done) | (simp [*]; done)), H', ⟨by have := HJ3.out; have := HK2.out; omega⟩, ⟨by (with_reducible repeat (first | apply Kd.S_alloc | apply Kd.S_drewN | apply Kd.S_drew)); exact HO248.out⟩, ⟨by repeat (first | (with_reducible first | exact HB.out | apply below_alloc | apply pw_below_drewN | apply below_drew1) | exact HB.out)⟩⟩
                                · rw [if_neg c29] at H
                                  exact absurd H (by simp)
                            · replace c24 := Bool.eq_false_iff.mpr c24
                              subst c24
                              have H1 : (some (([] : List (S59)), false)) = some (r1, r2) := by rw [if_neg (show ¬ (false = true) by decide)] at H; exact H
                              clear H
                              have H := H1
                              clear H1
                              simp only [Option.some.injEq, Prod.mk.injEq] at H
                              obtain ⟨rfl, rfl⟩ := H
                              have p235 : 0 ≤ (x33_2 : Int) := of_decide_eq_true (by first | (with_reducible assumption) | assumption)
                              have q235 : x33_2 < (y231.length : Int) := of_decide_eq_true (by first | (with_reducible assumption) | assumption)
                              obtain ⟨ad235, e235, hx235_0⟩ := Kd.at_string HR234.out x33_2 p235 q235
                              cases e235
                              replace hx235_0 := (HB.out.cell (World.block_lt_of_cell? wc _ hx235_0)).trans hx235_0
                              replace p235 := eq_true p235
                              replace q235 := eq_true q235
                              go_wp2_with (first | ((with_reducible refine gate_callee (f := 69) rfl ?_); refine goesL_ (some 39) rfl rfl Tryd.func69 (by kernel_rfl) rfl #[.string (rdOf ByteArray.empty y231 x33_2), .string (⟨#[124]⟩ : ByteArray)] rfl (by (try simp only [List.map_toArray, List.map_cons, List.map_nil]); first | done | rfl | (simp only [List.length_drop, List.length_take]; rfl)) ?_; (with_reducible refine (strings_Cut.calls (rdOf ByteArray.empty y231 x33_2) (⟨#[124]⟩ : ByteArray) t236 t237 true _ ?side1 A17.out).mono ?_); (case side1 => exact LaidW.below HL0.out (by repeat (first | (with_reducible first | exact HB.out | apply below_alloc | apply pw_below_drewN | apply below_drew1) | exact HB.out))); rintro e w' ⟨rfl, ⟨nd, rfl⟩⟩; refine ⟨_, rfl, ?_⟩) | ((with_reducible refine gate_callee (f := 70) rfl ?_); refine goesL_ (some 45) rfl rfl Tryd.func70 (by kernel_rfl) rfl #[.string t236] rfl (by (try simp only [List.map_toArray, List.map_cons, List.map_nil]); first | done | rfl | (simp only [List.length_drop, List.length_take]; rfl)) ?_; (with_reducible refine (impl_Number.calls k2 t236 t239 true _ ?side1 A18.out).mono ?_); (case side1 => exact LaidW.below HL0.out (by repeat (first | (with_reducible first | exact HB.out | apply below_alloc | apply pw_below_drewN | apply below_drew1) | exact HB.out))); rintro e w31 ⟨rfl, hb⟩; refine ⟨_, rfl, ?_⟩; have n0_ := Aside0.mk (Kd.S_below (by (with_reducible repeat (first | apply Kd.S_alloc | apply Kd.S_drewN | apply Kd.S_drew)); exact HO_5.out) hb); have n1_ := Aside0.mk (below_step (by repeat (first | (with_reducible first | exact HB.out | apply below_alloc | apply pw_below_drewN | apply below_drew1) | exact HB.out)) hb); clear HO_5; clear HB; have HO_5 := n0_; have HB := n1_; clear n0_ n1_; (try clear hb); (try clear hb2); (try clear hk); (try clear hi)) | ((with_reducible refine gate_callee (f := 50) rfl ?_); refine goesL_ (some 50) rfl rfl Tryd.func50 (by kernel_rfl) rfl #[.string t237] rfl (by (try simp only [List.map_toArray, List.map_cons, List.map_nil]); first | done | rfl | (simp only [List.length_drop, List.length_take]; rfl)) ?_; (with_reducible refine (impl_TxsOf.calls k2 t237 t241 true _ ?side1 A19.out).mono ?_); (case side1 => exact LaidW.below HL0.out (by repeat (first | (with_reducible first | exact HB.out | apply below_alloc | apply pw_below_drewN | apply below_drew1) | exact HB.out))); rintro e w32 ⟨v243, rfl, ho0, hb⟩; refine ⟨_, rfl, ?_⟩; have n0_ := Aside0.mk (Kd.S_elder' (by (with_reducible repeat (first | apply Kd.S_alloc | apply Kd.S_drewN | apply Kd.S_drew)); exact HO_5.out) (Kd.R_base ho0) hb); have n1_ := Aside0.mk (Kd.R_lower ho0 (below_size (by repeat (first | (with_reducible first | exact HB.out | apply below_alloc | apply pw_below_drewN | apply below_drew1) | exact HB.out)))); have n2_ := Aside0.mk (below_step (by repeat (first | (with_reducible first | exact HB.out | apply below_alloc | apply pw_below_drewN | apply below_drew1) | exact HB.out)) hb); clear HO_5; clear HB; have HO_5 := n0_; have HO244 := n1_; have HB := n2_; clear n0_ n1_ n2_; (try clear hb); (try clear hb2); (try clear hk); (try clear hi); (try clear ho0)) | (go_at_call 71; (with_reducible refine (impl_within.calls t239 (wrap64 (x6_2 + 1)) 60 false _ A23.out).mono ?_); rintro e w' ⟨rfl, ⟨nd, rfl⟩⟩))
                              go_ret2
                              exact ⟨_, by first | rfl | (simp [errW_none, errW_some] <;> rfl) | (simp [*, errW_none, errW_some] <;> rfl), by first | exact Kd.S_nil _ _ _ _ _ | exact Kd.N_nil _ _ _ _ _ | exact Kd.V_nil _ _ _ _ _ | exact Kd.Q_nil _ _ _ _ _ | exact Kd.R_nil _ _ _ _ _, below_then HBw.out (below_size HBw.out) (by repeat (first | (with_reducible first | exact HB.out | apply below_alloc | apply pw_below_drewN | apply below_drew1) | exact HB.out))⟩
                          · replace c22 := Bool.eq_false_iff.mpr c22
                            subst c22
                            have H1 : (some (([] : List (S59)), false)) = some (r1, r2) := by rw [if_neg (show ¬ (false = true) by decide)] at H; exact H
                            clear H
                            have H := H1
                            clear H1
                            simp only [Option.some.injEq, Prod.mk.injEq] at H
                            obtain ⟨rfl, rfl⟩ := H
                            have p235 : 0 ≤ (x33_2 : Int) := of_decide_eq_true (by first | (with_reducible assumption) | assumption)
                            have q235 : x33_2 < (y231.length : Int) := of_decide_eq_true (by first | (with_reducible assumption) | assumption)
                            obtain ⟨ad235, e235, hx235_0⟩ := Kd.at_string HR234.out x33_2 p235 q235
                            cases e235
                            replace hx235_0 := (HB.out.cell (World.block_lt_of_cell? wc _ hx235_0)).trans hx235_0
                            replace p235 := eq_true p235
                            replace q235 := eq_true q235
                            go_wp2_with (first | ((with_reducible refine gate_callee (f := 69) rfl ?_); refine goesL_ (some 39) rfl rfl Tryd.func69 (by kernel_rfl) rfl #[.string (rdOf ByteArray.empty y231 x33_2), .string (⟨#[124]⟩ : ByteArray)] rfl (by (try simp only [List.map_toArray, List.map_cons, List.map_nil]); first | done | rfl | (simp only [List.length_drop, List.length_take]; rfl)) ?_; (with_reducible refine (strings_Cut.calls (rdOf ByteArray.empty y231 x33_2) (⟨#[124]⟩ : ByteArray) t236 t237 true _ ?side1 A17.out).mono ?_); (case side1 => exact LaidW.below HL0.out (by repeat (first | (with_reducible first | exact HB.out | apply below_alloc | apply pw_below_drewN | apply below_drew1) | exact HB.out))); rintro e w' ⟨rfl, ⟨nd, rfl⟩⟩; refine ⟨_, rfl, ?_⟩) | ((with_reducible refine gate_callee (f := 70) rfl ?_); refine goesL_ (some 45) rfl rfl Tryd.func70 (by kernel_rfl) rfl #[.string t236] rfl (by (try simp only [List.map_toArray, List.map_cons, List.map_nil]); first | done | rfl | (simp only [List.length_drop, List.length_take]; rfl)) ?_; (with_reducible refine (impl_Number.calls k2 t236 t239 true _ ?side1 A18.out).mono ?_); (case side1 => exact LaidW.below HL0.out (by repeat (first | (with_reducible first | exact HB.out | apply below_alloc | apply pw_below_drewN | apply below_drew1) | exact HB.out))); rintro e w33 ⟨rfl, hb⟩; refine ⟨_, rfl, ?_⟩; have n0_ := Aside0.mk (Kd.S_below (by (with_reducible repeat (first | apply Kd.S_alloc | apply Kd.S_drewN | apply Kd.S_drew)); exact HO_5.out) hb); have n1_ := Aside0.mk (below_step (by repeat (first | (with_reducible first | exact HB.out | apply below_alloc | apply pw_below_drewN | apply below_drew1) | exact HB.out)) hb); clear HO_5; clear HB; have HO_5 := n0_; have HB := n1_; clear n0_ n1_; (try clear hb); (try clear hb2); (try clear hk); (try clear hi)) | ((with_reducible refine gate_callee (f := 50) rfl ?_); refine goesL_ (some 50) rfl rfl Tryd.func50 (by kernel_rfl) rfl #[.string t237] rfl (by (try simp only [List.map_toArray, List.map_cons, List.map_nil]); first | done | rfl | (simp only [List.length_drop, List.length_take]; rfl)) ?_; (with_reducible refine (impl_TxsOf.calls k2 t237 t241 false _ ?side1 A19.out).mono ?_); (case side1 => exact LaidW.below HL0.out (by repeat (first | (with_reducible first | exact HB.out | apply below_alloc | apply pw_below_drewN | apply below_drew1) | exact HB.out))); rintro e w34 ⟨v243, rfl, ho0, hb⟩; refine ⟨_, rfl, ?_⟩; have n0_ := Aside0.mk (Kd.S_elder' (by (with_reducible repeat (first | apply Kd.S_alloc | apply Kd.S_drewN | apply Kd.S_drew)); exact HO_5.out) (Kd.R_base ho0) hb); have n1_ := Aside0.mk (Kd.R_lower ho0 (below_size (by repeat (first | (with_reducible first | exact HB.out | apply below_alloc | apply pw_below_drewN | apply below_drew1) | exact HB.out)))); have n2_ := Aside0.mk (below_step (by repeat (first | (with_reducible first | exact HB.out | apply below_alloc | apply pw_below_drewN | apply below_drew1) | exact HB.out)) hb); clear HO_5; clear HB; have HO_5 := n0_; have HO244 := n1_; have HB := n2_; clear n0_ n1_ n2_; (try clear hb); (try clear hb2); (try clear hk); (try clear hi); (try clear ho0)))
                            go_ret2
                            exact ⟨_, by first | rfl | (simp [errW_none, errW_some] <;> rfl) | (simp [*, errW_none, errW_some] <;> rfl), by first | exact Kd.S_nil _ _ _ _ _ | exact Kd.N_nil _ _ _ _ _ | exact Kd.V_nil _ _ _ _ _ | exact Kd.Q_nil _ _ _ _ _ | exact Kd.R_nil _ _ _ _ _, below_then HBw.out (below_size HBw.out) (by repeat (first | (with_reducible first | exact HB.out | apply below_alloc | apply pw_below_drewN | apply below_drew1) | exact HB.out))⟩
                        · replace c21 := Bool.eq_false_iff.mpr c21
                          subst c21
                          have H1 : (some (([] : List (S59)), false)) = some (r1, r2) := by rw [if_neg (show ¬ (false = true) by decide)] at H; exact H
                          clear H
                          have H := H1
                          clear H1
                          simp only [Option.some.injEq, Prod.mk.injEq] at H
                          obtain ⟨rfl, rfl⟩ := H
                          have p235 : 0 ≤ (x33_2 : Int) := of_decide_eq_true (by first | (with_reducible assumption) | assumption)
                          have q235 : x33_2 < (y231.length : Int) := of_decide_eq_true (by first | (with_reducible assumption) | assumption)
                          obtain ⟨ad235, e235, hx235_0⟩ := Kd.at_string HR234.out x33_2 p235 q235
                          cases e235
                          replace hx235_0 := (HB.out.cell (World.block_lt_of_cell? wc _ hx235_0)).trans hx235_0
                          replace p235 := eq_true p235
                          replace q235 := eq_true q235
                          go_wp2_with (first | ((with_reducible refine gate_callee (f := 69) rfl ?_); refine goesL_ (some 39) rfl rfl Tryd.func69 (by kernel_rfl) rfl #[.string (rdOf ByteArray.empty y231 x33_2), .string (⟨#[124]⟩ : ByteArray)] rfl (by (try simp only [List.map_toArray, List.map_cons, List.map_nil]); first | done | rfl | (simp only [List.length_drop, List.length_take]; rfl)) ?_; (with_reducible refine (strings_Cut.calls (rdOf ByteArray.empty y231 x33_2) (⟨#[124]⟩ : ByteArray) t236 t237 true _ ?side1 A17.out).mono ?_); (case side1 => exact LaidW.below HL0.out (by repeat (first | (with_reducible first | exact HB.out | apply below_alloc | apply pw_below_drewN | apply below_drew1) | exact HB.out))); rintro e w' ⟨rfl, ⟨nd, rfl⟩⟩; refine ⟨_, rfl, ?_⟩) | ((with_reducible refine gate_callee (f := 70) rfl ?_); refine goesL_ (some 45) rfl rfl Tryd.func70 (by kernel_rfl) rfl #[.string t236] rfl (by (try simp only [List.map_toArray, List.map_cons, List.map_nil]); first | done | rfl | (simp only [List.length_drop, List.length_take]; rfl)) ?_; (with_reducible refine (impl_Number.calls k2 t236 t239 false _ ?side1 A18.out).mono ?_); (case side1 => exact LaidW.below HL0.out (by repeat (first | (with_reducible first | exact HB.out | apply below_alloc | apply pw_below_drewN | apply below_drew1) | exact HB.out))); rintro e w35 ⟨rfl, hb⟩; refine ⟨_, rfl, ?_⟩; have n0_ := Aside0.mk (Kd.S_below (by (with_reducible repeat (first | apply Kd.S_alloc | apply Kd.S_drewN | apply Kd.S_drew)); exact HO_5.out) hb); have n1_ := Aside0.mk (below_step (by repeat (first | (with_reducible first | exact HB.out | apply below_alloc | apply pw_below_drewN | apply below_drew1) | exact HB.out)) hb); clear HO_5; clear HB; have HO_5 := n0_; have HB := n1_; clear n0_ n1_; (try clear hb); (try clear hb2); (try clear hk); (try clear hi)) | ((with_reducible refine gate_callee (f := 50) rfl ?_); refine goesL_ (some 50) rfl rfl Tryd.func50 (by kernel_rfl) rfl #[.string t237] rfl (by (try simp only [List.map_toArray, List.map_cons, List.map_nil]); first | done | rfl | (simp only [List.length_drop, List.length_take]; rfl)) ?_; (with_reducible refine (impl_TxsOf.calls k2 t237 t241 t242 _ ?side1 A19.out).mono ?_); (case side1 => exact LaidW.below HL0.out (by repeat (first | (with_reducible first | exact HB.out | apply below_alloc | apply pw_below_drewN | apply below_drew1) | exact HB.out))); rintro e w36 ⟨v243, rfl, ho0, hb⟩; refine ⟨_, rfl, ?_⟩; have n0_ := Aside0.mk (Kd.S_elder' (by (with_reducible repeat (first | apply Kd.S_alloc | apply Kd.S_drewN | apply Kd.S_drew)); exact HO_5.out) (Kd.R_base ho0) hb); have n1_ := Aside0.mk (Kd.R_lower ho0 (below_size (by repeat (first | (with_reducible first | exact HB.out | apply below_alloc | apply pw_below_drewN | apply below_drew1) | exact HB.out)))); have n2_ := Aside0.mk (below_step (by repeat (first | (with_reducible first | exact HB.out | apply below_alloc | apply pw_below_drewN | apply below_drew1) | exact HB.out)) hb); clear HO_5; clear HB; have HO_5 := n0_; have HO244 := n1_; have HB := n2_; clear n0_ n1_ n2_; (try clear hb); (try clear hb2); (try clear hk); (try clear hi); (try clear ho0)))
                          go_ret2
                          exact ⟨_, by first | rfl | (simp [errW_none, errW_some] <;> rfl) | (simp [*, errW_none, errW_some] <;> rfl), by first | exact Kd.S_nil _ _ _ _ _ | exact Kd.N_nil _ _ _ _ _ | exact Kd.V_nil _ _ _ _ _ | exact Kd.Q_nil _ _ _ _ _ | exact Kd.R_nil _ _ _ _ _, below_then HBw.out (below_size HBw.out) (by repeat (first | (with_reducible first | exact HB.out | apply below_alloc | apply pw_below_drewN | apply below_drew1) | exact HB.out))⟩
                      · replace c20 := Bool.eq_false_iff.mpr c20
                        subst c20
                        have H1 : (some (([] : List (S59)), false)) = some (r1, r2) := by rw [if_neg (show ¬ (false = true) by decide)] at H; exact H
                        clear H
                        have H := H1
                        clear H1
                        simp only [Option.some.injEq, Prod.mk.injEq] at H
                        obtain ⟨rfl, rfl⟩ := H
                        have p235 : 0 ≤ (x33_2 : Int) := of_decide_eq_true (by first | (with_reducible assumption) | assumption)
                        have q235 : x33_2 < (y231.length : Int) := of_decide_eq_true (by first | (with_reducible assumption) | assumption)
                        obtain ⟨ad235, e235, hx235_0⟩ := Kd.at_string HR234.out x33_2 p235 q235
                        cases e235
                        replace hx235_0 := (HB.out.cell (World.block_lt_of_cell? wc _ hx235_0)).trans hx235_0
                        replace p235 := eq_true p235
                        replace q235 := eq_true q235
                        go_wp2_with (first | ((with_reducible refine gate_callee (f := 69) rfl ?_); refine goesL_ (some 39) rfl rfl Tryd.func69 (by kernel_rfl) rfl #[.string (rdOf ByteArray.empty y231 x33_2), .string (⟨#[124]⟩ : ByteArray)] rfl (by (try simp only [List.map_toArray, List.map_cons, List.map_nil]); first | done | rfl | (simp only [List.length_drop, List.length_take]; rfl)) ?_; (with_reducible refine (strings_Cut.calls (rdOf ByteArray.empty y231 x33_2) (⟨#[124]⟩ : ByteArray) t236 t237 false _ ?side1 A17.out).mono ?_); (case side1 => exact LaidW.below HL0.out (by repeat (first | (with_reducible first | exact HB.out | apply below_alloc | apply pw_below_drewN | apply below_drew1) | exact HB.out))); rintro e w' ⟨rfl, ⟨nd, rfl⟩⟩; refine ⟨_, rfl, ?_⟩) | ((with_reducible refine gate_callee (f := 70) rfl ?_); refine goesL_ (some 45) rfl rfl Tryd.func70 (by kernel_rfl) rfl #[.string t236] rfl (by (try simp only [List.map_toArray, List.map_cons, List.map_nil]); first | done | rfl | (simp only [List.length_drop, List.length_take]; rfl)) ?_; (with_reducible refine (impl_Number.calls k2 t236 t239 t240 _ ?side1 A18.out).mono ?_); (case side1 => exact LaidW.below HL0.out (by repeat (first | (with_reducible first | exact HB.out | apply below_alloc | apply pw_below_drewN | apply below_drew1) | exact HB.out))); rintro e w37 ⟨rfl, hb⟩; refine ⟨_, rfl, ?_⟩; have n0_ := Aside0.mk (Kd.S_below (by (with_reducible repeat (first | apply Kd.S_alloc | apply Kd.S_drewN | apply Kd.S_drew)); exact HO_5.out) hb); have n1_ := Aside0.mk (below_step (by repeat (first | (with_reducible first | exact HB.out | apply below_alloc | apply pw_below_drewN | apply below_drew1) | exact HB.out)) hb); clear HO_5; clear HB; have HO_5 := n0_; have HB := n1_; clear n0_ n1_; (try clear hb); (try clear hb2); (try clear hk); (try clear hi)) | ((with_reducible refine gate_callee (f := 50) rfl ?_); refine goesL_ (some 50) rfl rfl Tryd.func50 (by kernel_rfl) rfl #[.string t237] rfl (by (try simp only [List.map_toArray, List.map_cons, List.map_nil]); first | done | rfl | (simp only [List.length_drop, List.length_take]; rfl)) ?_; (with_reducible refine (impl_TxsOf.calls k2 t237 t241 t242 _ ?side1 A19.out).mono ?_); (case side1 => exact LaidW.below HL0.out (by repeat (first | (with_reducible first | exact HB.out | apply below_alloc | apply pw_below_drewN | apply below_drew1) | exact HB.out))); rintro e w38 ⟨v243, rfl, ho0, hb⟩; refine ⟨_, rfl, ?_⟩; have n0_ := Aside0.mk (Kd.S_elder' (by (with_reducible repeat (first | apply Kd.S_alloc | apply Kd.S_drewN | apply Kd.S_drew)); exact HO_5.out) (Kd.R_base ho0) hb); have n1_ := Aside0.mk (Kd.R_lower ho0 (below_size (by repeat (first | (with_reducible first | exact HB.out | apply below_alloc | apply pw_below_drewN | apply below_drew1) | exact HB.out)))); have n2_ := Aside0.mk (below_step (by repeat (first | (with_reducible first | exact HB.out | apply below_alloc | apply pw_below_drewN | apply below_drew1) | exact HB.out)) hb); clear HO_5; clear HB; have HO_5 := n0_; have HO244 := n1_; have HB := n2_; clear n0_ n1_ n2_; (try clear hb); (try clear hb2); (try clear hk); (try clear hi); (try clear ho0)))
                        go_ret2
                        exact ⟨_, by first | rfl | (simp [errW_none, errW_some] <;> rfl) | (simp [*, errW_none, errW_some] <;> rfl), by first | exact Kd.S_nil _ _ _ _ _ | exact Kd.N_nil _ _ _ _ _ | exact Kd.V_nil _ _ _ _ _ | exact Kd.Q_nil _ _ _ _ _ | exact Kd.R_nil _ _ _ _ _, below_then HBw.out (below_size HBw.out) (by repeat (first | (with_reducible first | exact HB.out | apply below_alloc | apply pw_below_drewN | apply below_drew1) | exact HB.out))⟩
                    · rw [if_neg c16] at H
                      exact absurd H (by simp)
                  · rw [if_neg c15] at H
                    exact absurd H (by simp)
                · rw [if_neg c14] at H
                  have c14b0 : decide (x33_2 < (y231.length : Int)) = false := decide_eq_false c14
                  clear c14
                  (first | rw [c14b0] | (simp only [i64_w, i32_w]; rw [c14b0]) | skip)
                  simp only [Option.some.injEq, Prod.mk.injEq] at H
                  obtain ⟨rfl, rfl⟩ := H
                  go_wp2
                  go_ret2
                  exact ⟨_, by first | rfl | (simp [errW_none, errW_some] <;> rfl) | (simp [*, errW_none, errW_some] <;> rfl), by (with_reducible repeat (first | apply Kd.S_alloc | apply Kd.S_drewN | apply Kd.S_drew)); exact Kd.S_lower HO_5.out (below_size HBw.out), below_then HBw.out (below_size HBw.out) (by repeat (first | (with_reducible first | exact HB.out | apply below_alloc | apply pw_below_drewN | apply below_drew1) | exact HB.out))⟩
          · rw [if_neg c11] at H
            exact absurd H (by simp)

/-! ### impl_ViewOf: function 24 -/
def impl_ViewOf.f (k : Nat) (a0 : ByteArray) : Option (Int) := (impl_Steps.f k a0).bind fun bt249 => (if (bt249.1.length : Int) = 0 then (some 0) else (if 0 ≤ (wrap64 ((bt249.1.length : Int) - 1)) then (if (wrap64 ((bt249.1.length : Int) - 1)) < (bt249.1.length : Int) then (some ((rd_T59 bt249.1 (wrap64 ((bt249.1.length : Int) - 1))).f0)) else (none)) else (none)))
theorem impl_ViewOf.mono : ∀ a0 k, LeO (impl_ViewOf.f k a0) (impl_ViewOf.f (k + 1) a0) := by
  intro a0 k
  unfold impl_ViewOf.f
  repeat' first
      | (with_reducible exact impl_Steps.mono _ _)
      | (with_reducible exact LeO.refl _)
      | (with_reducible exact LeO.none _)
      | (with_reducible refine LeO.ite ?_ ?_)
      | (with_reducible refine LeO.bind ?_ (fun _ => ?_))
      | exact impl_Steps.mono _ _
      | exact LeO.none _
      | refine LeO.ite ?_ ?_
      | refine LeO.bind ?_ (fun _ => ?_)
set_option maxHeartbeats 8000000 in
set_option maxRecDepth 100000 in
theorem impl_ViewOf.calls (k : Nat) (a0 : ByteArray) (r : Int) (w : World) (hL : LaidW w) (h : impl_ViewOf.f k a0 = some r) :
    Calls Tryd.prog 24 #[.string a0] w fun e w' => e = .returned (.int .i64 r) ∧ Below w.heap.size w w' := by
  have HL0 := Aside0.mk hL
  clear hL
  have HB := Aside0.mk (Below.refl w.heap.size w)
  have H : ((impl_Steps.f k a0).bind fun bt249 => (if (bt249.1.length : Int) = 0 then (some 0) else (if 0 ≤ (wrap64 ((bt249.1.length : Int) - 1)) then (if (wrap64 ((bt249.1.length : Int) - 1)) < (bt249.1.length : Int) then (some ((rd_T59 bt249.1 (wrap64 ((bt249.1.length : Int) - 1))).f0)) else (none)) else (none)))) = some r := h
  clear h
  replace H := Option.bind_eq_some_iff.mp H
  obtain ⟨⟨t249, t250⟩, A20, H⟩ := H
  replace H : (if (t249.length : Int) = 0 then (some 0) else (if 0 ≤ (wrap64 ((t249.length : Int) - 1)) then (if (wrap64 ((t249.length : Int) - 1)) < (t249.length : Int) then (some ((rd_T59 t249 (wrap64 ((t249.length : Int) - 1))).f0)) else (none)) else (none))) = some r := H
  have A2 := Aside0.mk A20
  clear A20
  have HF := Aside0.mk H
  clear H
  go_enter Tryd.func24, Tryd.ntmps24
  go_upto_if 12 with (go_big_may; first | ((with_reducible refine gate_callee (f := 36) rfl ?_); refine goesL_ (some 7) rfl rfl Tryd.func36 (by kernel_rfl) rfl #[.string a0] rfl (by (try simp only [List.map_toArray, List.map_cons, List.map_nil]); first | done | rfl | (simp only [List.length_drop, List.length_take]; rfl)) ?_; (with_reducible refine (impl_Steps.calls k a0 t249 t250 _ ?side1 A2.out).mono ?_); (case side1 => exact LaidW.below HL0.out (by repeat (first | (with_reducible first | exact HB.out | apply below_alloc | apply pw_below_drewN | apply below_drew1) | exact HB.out))); rintro e w3 ⟨v251, rfl, ho0, hb⟩; refine ⟨_, rfl, ?_⟩; have n0_ := Aside0.mk (Kd.S_lower ho0 (below_size (by repeat (first | (with_reducible first | exact HB.out | apply below_alloc | apply pw_below_drewN | apply below_drew1) | exact HB.out)))); have n1_ := Aside0.mk (below_step (by repeat (first | (with_reducible first | exact HB.out | apply below_alloc | apply pw_below_drewN | apply below_drew1) | exact HB.out)) hb); clear HB; have HO252 := n0_; have HB := n1_; clear n0_ n1_; (try clear hb); (try clear hb2); (try clear hk); (try clear hi); (try clear ho0); obtain ⟨Ao4, co4, eo4⟩ := Kd.S_slice HO252.out; subst eo4))
  have H := HF.out
  clear HF
  by_cases c5 : (t249.length : Int) = 0
  · rw [if_pos c5] at H
    have c5b0 : ((t249.length : Int) == 0) = true := beq_iff_eq.mpr c5
    have c5b1 : ((t249.length : Int) != 0) = false := bne_eq_false_iff_eq.mpr c5
    clear c5
    (first | rw [c5b0] | (simp only [i64_w, i32_w]; rw [c5b0]) | skip)
    obtain rfl := Option.some.inj H
    go_wp2
    go_ret
    exact ⟨by first | rfl | (simp [errW_none, errW_some] <;> rfl) | (simp [*, errW_none, errW_some] <;> rfl), by repeat (first | (with_reducible first | exact HB.out | apply below_alloc | apply pw_below_drewN | apply below_drew1) | exact HB.out)⟩
  · rw [if_neg c5] at H
    have c5b0 : ((t249.length : Int) == 0) = false := beq_eq_false_iff_ne.mpr c5
    have c5b1 : ((t249.length : Int) != 0) = true := bne_iff_ne.mpr c5
    have c5b2 : ¬ (t249 = []) := fun h_ => c5 (by rw [h_]; rfl)
    (first | rw [c5b0] | (simp only [i64_w, i32_w]; rw [c5b0]) | skip)
    obtain ⟨ji6, hji6⟩ : ∃ j_ : Int, (wrap64 ((t249.length : Int) - 1)) = j_ := ⟨_, rfl⟩
    replace H : (if 0 ≤ (ji6) then (if (ji6) < (t249.length : Int) then (some ((rd_T59 t249 (ji6)).f0)) else (none)) else (none)) = some r := by first | (rw [hji6] at H; exact H) | (simp only [hji6] at H ⊢; exact H)
    have hji6w : (IntKind.i64.wrap ((t249.length : Int) - 1)) = ji6 := (i64_w _).trans hji6
    by_cases c7 : 0 ≤ (ji6)
    · rw [if_pos c7] at H
      have c7b0 : decide (0 ≤ (ji6)) = true := decide_eq_true c7
      clear c7
      by_cases c8 : (ji6) < (t249.length : Int)
      · rw [if_pos c8] at H
        have c8b0 : decide ((ji6) < (t249.length : Int)) = true := decide_eq_true c8
        clear c8
        obtain rfl := Option.some.inj H
        have p253 : 0 ≤ ((ji6) : Int) := of_decide_eq_true (by first | (with_reducible assumption) | assumption)
        have q253 : (ji6) < (t249.length : Int) := of_decide_eq_true (by first | (with_reducible assumption) | assumption)
        obtain ⟨ad253, A253_1, c253_1, e253, hx253_0, hx253_1, hl253_1, hi253_1⟩ := at_T59 (Kd.S_reads' HO252.out).2.2 (ji6) p253 q253
        cases e253
        obtain ⟨ce253, hce253, hMe253, hcc253⟩ := Kd.S_get HO252.out z59 (ji6) p253 (by first | exact q253 | exact of_decide_eq_true (by first | (with_reducible assumption) | assumption) | (have e_ := (Kd.S_reads' HO252.out).1; omega))
        obtain ⟨ve253_1, rfl, ge253_1⟩ := k59_openM hMe253
        have hv253_1 := hcc253 1 _ rfl
        rw [add_field _ _ 1 (by omega)] at hv253_1
        replace hv253_1 := Option.some.inj (hv253_1.symm.trans hx253_1)
        rw [hv253_1] at ge253_1
        have HL253_1 := Aside0.mk (show Kd.R k44 44 _ _ _ _ ((rd_T59 t249 (ji6)).f1) from ge253_1)
        clear hv253_1 ge253_1
        clear hcc253 hce253
        have HR253_1 := Aside0.mk hi253_1
        have HC253_1 := Aside0.mk hl253_1
        clear hi253_1 hl253_1
        replace p253 := eq_true p253
        replace q253 := eq_true q253
        go_wp2
        go_ret
        exact ⟨by first | rfl | (simp [errW_none, errW_some] <;> rfl) | (simp only [← hji6]; first | rfl | (simp [errW_none, errW_some] <;> rfl)) | (simp [*, errW_none, errW_some] <;> rfl), by repeat (first | (with_reducible first | exact HB.out | apply below_alloc | apply pw_below_drewN | apply below_drew1) | exact HB.out)⟩
      · rw [if_neg c8] at H
        exact absurd H (by simp)
    · rw [if_neg c7] at H
      exact absurd H (by simp)

/-! ### laws_FnExactViewOf: function 6 -/
def laws_FnExactViewOf.f (k : Nat) (a0 : ByteArray) : Option (Bool) := if (a0.size : Int) > 1048576 then (some true) else ((spec_ViewOf.f k a0).bind fun t254 => ((impl_ViewOf.f k a0).bind fun t255 => (if t255 = t254 then (some true) else (some false))))
theorem laws_FnExactViewOf.mono : ∀ a0 k, LeO (laws_FnExactViewOf.f k a0) (laws_FnExactViewOf.f (k + 1) a0) := by
  intro a0 k
  unfold laws_FnExactViewOf.f
  repeat' first
      | (with_reducible exact impl_ViewOf.mono _ _)
      | (with_reducible exact spec_ViewOf.mono _ _)
      | (with_reducible exact LeO.refl _)
      | (with_reducible exact LeO.none _)
      | (with_reducible refine LeO.ite ?_ ?_)
      | (with_reducible refine LeO.bind ?_ (fun _ => ?_))
      | exact impl_ViewOf.mono _ _
      | exact spec_ViewOf.mono _ _
      | exact LeO.none _
      | refine LeO.ite ?_ ?_
      | refine LeO.bind ?_ (fun _ => ?_)
set_option maxHeartbeats 8000000 in
set_option maxRecDepth 100000 in
theorem laws_FnExactViewOf.calls (k : Nat) (a0 : ByteArray) (r : Bool) (w : World) (hL : LaidW w) (hT : r = true) (h : laws_FnExactViewOf.f k a0 = some r) :
    Calls Tryd.prog 6 #[.string a0] w fun e w' => e = .returned (.bool r) ∧ Below w.heap.size w w' := by
  have HRT := Aside0.mk hT
  clear hT
  have HL0 := Aside0.mk hL
  clear hL
  have HB := Aside0.mk (Below.refl w.heap.size w)
  have H : (if (a0.size : Int) > 1048576 then (some true) else ((spec_ViewOf.f k a0).bind fun t254 => ((impl_ViewOf.f k a0).bind fun t255 => (if t255 = t254 then (some true) else (some false))))) = some r := h
  clear h
  by_cases c2 : (a0.size : Int) > 1048576
  · rw [if_pos c2] at H
    have c2b0 : decide (1048576 < (a0.size : Int)) = true := decide_eq_true c2
    have c2b1 : decide (1048576 < a0.size) = true := decide_eq_true (by omega)
    clear c2
    obtain rfl := Option.some.inj H
    go_enter Tryd.func6, Tryd.ntmps6
    go_wp2
    go_ret
    exact ⟨by first | rfl | (simp [errW_none, errW_some] <;> rfl) | (simp [*, errW_none, errW_some] <;> rfl), by repeat (first | (with_reducible first | exact HB.out | apply below_alloc | apply pw_below_drewN | apply below_drew1) | exact HB.out)⟩
  · rw [if_neg c2] at H
    have c2b0 : decide (1048576 < (a0.size : Int)) = false := decide_eq_false c2
    have c2b1 : decide (1048576 < a0.size) = false := decide_eq_false (by omega)
    clear c2
    replace H := Option.bind_eq_some_iff.mp H
    obtain ⟨t254, A30, H⟩ := H
    replace H : ((impl_ViewOf.f k a0).bind fun t255 => (if t255 = t254 then (some true) else (some false))) = some r := H
    have A3 := Aside0.mk A30
    clear A30
    replace H := Option.bind_eq_some_iff.mp H
    obtain ⟨t255, A40, H⟩ := H
    replace H : (if t255 = t254 then (some true) else (some false)) = some r := H
    have A4 := Aside0.mk A40
    clear A40
    by_cases c5 : t255 = t254
    · rw [if_pos c5] at H
      have c5b0 : (t255 == t254) = true := beq_iff_eq.mpr c5
      have c5b1 : (t255 != t254) = false := bne_eq_false_iff_eq.mpr c5
      clear c5
      obtain rfl := Option.some.inj H
      go_enter Tryd.func6, Tryd.ntmps6
      go_wp2_with (first | ((with_reducible refine gate_callee (f := 23) rfl ?_); refine goesL_ (some 9) rfl rfl Tryd.func23 (by kernel_rfl) rfl #[.string a0] rfl (by (try simp only [List.map_toArray, List.map_cons, List.map_nil]); first | done | rfl | (simp only [List.length_drop, List.length_take]; rfl)) ?_; (with_reducible refine (spec_ViewOf.calls k a0 t254 _ A3.out).mono ?_); rintro e w6 ⟨rfl, hb⟩; refine ⟨_, rfl, ?_⟩; have n0_ := Aside0.mk (below_step (by repeat (first | (with_reducible first | exact HB.out | apply below_alloc | apply pw_below_drewN | apply below_drew1) | exact HB.out)) hb); clear HB; have HB := n0_; clear n0_; (try clear hb); (try clear hb2); (try clear hk); (try clear hi)) | ((with_reducible refine gate_callee (f := 24) rfl ?_); refine goesL_ (some 11) rfl rfl Tryd.func24 (by kernel_rfl) rfl #[.string a0] rfl (by (try simp only [List.map_toArray, List.map_cons, List.map_nil]); first | done | rfl | (simp only [List.length_drop, List.length_take]; rfl)) ?_; (with_reducible refine (impl_ViewOf.calls k a0 t255 _ ?side1 A4.out).mono ?_); (case side1 => exact LaidW.below HL0.out (by repeat (first | (with_reducible first | exact HB.out | apply below_alloc | apply pw_below_drewN | apply below_drew1) | exact HB.out))); rintro e w7 ⟨rfl, hb⟩; refine ⟨_, rfl, ?_⟩; have n0_ := Aside0.mk (below_step (by repeat (first | (with_reducible first | exact HB.out | apply below_alloc | apply pw_below_drewN | apply below_drew1) | exact HB.out)) hb); clear HB; have HB := n0_; clear n0_; (try clear hb); (try clear hb2); (try clear hk); (try clear hi)))
      go_ret
      exact ⟨by first | rfl | (simp [errW_none, errW_some] <;> rfl) | (simp [*, errW_none, errW_some] <;> rfl), by repeat (first | (with_reducible first | exact HB.out | apply below_alloc | apply pw_below_drewN | apply below_drew1) | exact HB.out)⟩
    · rw [if_neg c5] at H
      have c5b0 : (t255 == t254) = false := beq_eq_false_iff_ne.mpr c5
      have c5b1 : (t255 != t254) = true := bne_iff_ne.mpr c5
      exact absurd ((Option.some.inj H).trans HRT.out) (by decide)

end Go.Proofs.YtbecffgalndagaaDoor.PFnExactViewOf
