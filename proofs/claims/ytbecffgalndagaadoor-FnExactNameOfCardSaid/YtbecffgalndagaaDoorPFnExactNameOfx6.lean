/- Walks of the functions that a law of seat YtbecffgalndagaaDoor reaches, each against a Lean function, printed by this session's wip/myprint.py; no condition of their own. -/
import Derived.Test.YtbecffgalndagaaDoorPFnExactNameOfx0
import Derived.Test.YtbecffgalndagaaDoorPFnExactNameOfx4
import Derived.Test.YtbecffgalndagaaDoorPFnExactNameOfx5
namespace Go.Proofs.YtbecffgalndagaaDoor.PFnExactNameOf
open Go.RowKit Go.Proofs.YtbecffgalndagaaDoorW.PrintWords Go.Proofs.YtbecffgalndagaaDoorW.PrintLast Go.Proofs.YtbecffgalndagaaDoorW.PrintMore
attribute [local go_sem] max2_int min2_int max_two min_two max_three min_three max_four min_four   -- for this text's walks alone
set_option linter.unusedVariables false
set_option linter.unusedSimpArgs false

/-! ### impl_Steps: function 36 -/
mutual
def impl_Steps.j0 : Nat → List ByteArray → Bool → Option ((List (S59)) × Bool)
  | 0, _, _ => none
  | k + 1, x4, x29 => if x29 = true then (some (([] : List (S59)), false)) else (if 1 ≤ (x4.length : Int) then ((some (x4.drop 1 : List ByteArray)).bind fun y253 => (impl_Steps.l0 k ([] : List (S59)) 0 y253 (y253.length : Int) 0)) else (none))
def impl_Steps.l0 : Nat → List (S59) → Int → List ByteArray → Int → Int → Option ((List (S59)) × Bool)
  | 0, _, _, _, _, _ => none
  | k + 1, x5, x6, x31, x32, x33 => if x33 < x32 then (if 0 ≤ x33 then (if x33 < (x31.length : Int) then ((strings_Cut.f (rdOf ByteArray.empty x31 x33) (⟨#[124]⟩ : ByteArray)).bind fun bt258 => ((impl_Number.f k bt258.1).bind fun bt261 => ((impl_TxsOf.f k bt258.2.1).bind fun bt263 => (if bt258.2.2 = true then (if bt261.2 = true then (if bt263.2 = true then ((impl_within.f bt261.1 (wrap64 (x6 + 1)) 60).bind fun t267 => (if t267 = true then (if (bt263.1.length : Int) > 2 then (some (([] : List (S59)), false)) else (if x5.length < 4398046511104 then (impl_Steps.l0 k (x5 ++ [(⟨bt261.1, bt263.1⟩ : S59)]) bt261.1 x31 x32 (wrap64 (x33 + 1))) else (none))) else (some (([] : List (S59)), false)))) else (some (([] : List (S59)), false))) else (some (([] : List (S59)), false))) else (some (([] : List (S59)), false)))))) else (none)) else (none)) else (some (x5, true))
end
def impl_Steps.f (k : Nat) (a0 : ByteArray) : Option ((List (S59)) × Bool) := if a0.toList = ([] : List UInt8) then (some (([] : List (S59)), true)) else ((impl_Split.f a0 47).bind fun t249 => (if 0 < (t249.length : Int) then (if (rdOf ByteArray.empty t249 0).toList = ([] : List UInt8) then (impl_Steps.j0 k t249 (decide ((wrap64 ((t249.length : Int) - 1)) > 30))) else (impl_Steps.j0 k t249 true)) else (none)))
theorem impl_Steps.mono_l : ∀ k, (∀ y0 y1, LeO (impl_Steps.j0 k y0 y1) (impl_Steps.j0 (k + 1) y0 y1)) ∧ (∀ y0 y1 y2 y3 y4, LeO (impl_Steps.l0 k y0 y1 y2 y3 y4) (impl_Steps.l0 (k + 1) y0 y1 y2 y3 y4))
  | 0 => ⟨fun _ _ r h => by simp [impl_Steps.j0] at h, fun _ _ _ _ _ r h => by simp [impl_Steps.l0] at h⟩
  | k + 1 => by
    obtain ⟨ih0, ih1⟩ := impl_Steps.mono_l k
    refine ⟨?_, ?_⟩
    · intro y0 y1
      unfold impl_Steps.j0
      repeat' first
      | (with_reducible exact ih0 _ _)
      | (with_reducible exact ih1 _ _ _ _ _)
      | (with_reducible exact impl_Number.mono _ _)
      | (with_reducible exact impl_TxsOf.mono _ _)
      | (with_reducible exact LeO.refl _)
      | (with_reducible exact LeO.none _)
      | (with_reducible refine LeO.ite ?_ ?_)
      | (with_reducible refine LeO.bind ?_ (fun _ => ?_))
      | exact ih0 _ _
      | exact ih1 _ _ _ _ _
      | exact impl_Number.mono _ _
      | exact impl_TxsOf.mono _ _
      | exact LeO.none _
      | refine LeO.ite ?_ ?_
      | refine LeO.bind ?_ (fun _ => ?_)
    · intro y0 y1 y2 y3 y4
      unfold impl_Steps.l0
      repeat' first
      | (with_reducible exact ih0 _ _)
      | (with_reducible exact ih1 _ _ _ _ _)
      | (with_reducible exact impl_Number.mono _ _)
      | (with_reducible exact impl_TxsOf.mono _ _)
      | (with_reducible exact LeO.refl _)
      | (with_reducible exact LeO.none _)
      | (with_reducible refine LeO.ite ?_ ?_)
      | (with_reducible refine LeO.bind ?_ (fun _ => ?_))
      | exact ih0 _ _
      | exact ih1 _ _ _ _ _
      | exact impl_Number.mono _ _
      | exact impl_TxsOf.mono _ _
      | exact LeO.none _
      | refine LeO.ite ?_ ?_
      | refine LeO.bind ?_ (fun _ => ?_)
theorem impl_Steps.mono : ∀ a0 k, LeO (impl_Steps.f k a0) (impl_Steps.f (k + 1) a0) := by
  intro a0 k
  obtain ⟨ih0, ih1⟩ := impl_Steps.mono_l k
  unfold impl_Steps.f
  repeat' first
      | (with_reducible exact ih0 _ _)
      | (with_reducible exact ih1 _ _ _ _ _)
      | (with_reducible exact impl_Number.mono _ _)
      | (with_reducible exact impl_TxsOf.mono _ _)
      | (with_reducible exact LeO.refl _)
      | (with_reducible exact LeO.none _)
      | (with_reducible refine LeO.ite ?_ ?_)
      | (with_reducible refine LeO.bind ?_ (fun _ => ?_))
      | exact ih0 _ _
      | exact ih1 _ _ _ _ _
      | exact impl_Number.mono _ _
      | exact impl_TxsOf.mono _ _
      | exact LeO.none _
      | refine LeO.ite ?_ ?_
      | refine LeO.bind ?_ (fun _ => ?_)
set_option maxHeartbeats 8000000 in
set_option maxRecDepth 100000 in
theorem impl_Steps.calls (k : Nat) (a0 : ByteArray) (r1 : List (S59)) (r2 : Bool) (w : World) (hL : LaidW w) (h : impl_Steps.f k a0 = some (r1, r2)) :
    Calls Tryd.prog 36 #[.string a0] w fun e w' => ∃ v0_ : Value, e = .returned (.tuple #[v0_, .bool r2]) ∧ Kd.S k59 59 w' w.heap.size (fun _ => True) v0_ r1 ∧ Below w.heap.size w w' := by
  have hu59 := Tryd.underlying59
  have HL0 := Aside0.mk hL
  clear hL
  have HB := Aside0.mk (Below.refl w.heap.size w)
  have H : (if a0.toList = ([] : List UInt8) then (some (([] : List (S59)), true)) else ((impl_Split.f a0 47).bind fun t249 => (if 0 < (t249.length : Int) then (if (rdOf ByteArray.empty t249 0).toList = ([] : List UInt8) then (impl_Steps.j0 k t249 (decide ((wrap64 ((t249.length : Int) - 1)) > 30))) else (impl_Steps.j0 k t249 true)) else (none)))) = some (r1, r2) := h
  clear h
  have HF := Aside0.mk H
  clear H
  go_enter Tryd.func36, Tryd.ntmps36
  go_upto_if 17 with (fail)
  have H := HF.out
  clear HF
  by_cases c2 : a0.toList = ([] : List UInt8)
  · rw [if_pos c2] at H
    have c2b0 : (a0.toList == ([] : List UInt8)) = true := beq_iff_eq.mpr c2
    have c2b8 : (a0.toList).isEmpty = true := List.isEmpty_iff.2 c2
    have c2b1 : (a0.toList != ([] : List UInt8)) = false := bne_eq_false_iff_eq.mpr c2
    clear c2
    (first | rw [c2b8] | rw [c2b0] | (simp only [i64_w, i32_w]; rw [c2b0]) | skip)
    simp only [Option.some.injEq, Prod.mk.injEq] at H
    obtain ⟨rfl, rfl⟩ := H
    go_wp2
    go_ret2
    exact ⟨_, by first | rfl | (simp [errW_none, errW_some] <;> rfl) | (simp [*, errW_none, errW_some] <;> rfl), by first | exact Kd.S_nil _ _ _ _ _ | exact Kd.N_nil _ _ _ _ _ | exact Kd.V_nil _ _ _ _ _ | exact Kd.Q_nil _ _ _ _ _ | exact Kd.R_nil _ _ _ _ _, by repeat (first | (with_reducible first | exact HB.out | apply below_alloc | apply pw_below_drewN | apply below_drew1) | exact HB.out)⟩
  · rw [if_neg c2] at H
    have c2b0 : (a0.toList == ([] : List UInt8)) = false := beq_eq_false_iff_ne.mpr c2
    have c2b8 : (a0.toList).isEmpty = false := Bool.eq_false_iff.2 (fun h_ => c2 (List.isEmpty_iff.1 h_))
    have c2b1 : (a0.toList != ([] : List UInt8)) = true := bne_iff_ne.mpr c2
    (first | rw [c2b8] | rw [c2b0] | (simp only [i64_w, i32_w]; rw [c2b0]) | skip)
    replace H := Option.bind_eq_some_iff.mp H
    obtain ⟨t249, A30, H⟩ := H
    replace H : (if 0 < (t249.length : Int) then (if (rdOf ByteArray.empty t249 0).toList = ([] : List UInt8) then (impl_Steps.j0 k t249 (decide ((wrap64 ((t249.length : Int) - 1)) > 30))) else (impl_Steps.j0 k t249 true)) else (none)) = some (r1, r2) := H
    have A3 := Aside0.mk A30
    clear A30
    have HC4 := Aside0.mk H
    clear H
    go_upto_region 4 with (first | ((with_reducible refine gate_callee (f := 68) rfl ?_); refine goesL_ (some 19) rfl rfl Tryd.func68 (by kernel_rfl) rfl #[.string a0, .int .u8 47] rfl (by (try simp only [List.map_toArray, List.map_cons, List.map_nil]); first | done | rfl | (simp only [List.length_drop, List.length_take]; rfl)) ?_; (with_reducible refine (impl_Split.calls a0 47 t249 _ ?side1 A3.out).mono ?_); (case side1 => exact LaidW.below HL0.out (by repeat (first | (with_reducible first | exact HB.out | apply below_alloc | apply pw_below_drewN | apply below_drew1) | exact HB.out))); rintro e w5 ⟨v250, rfl, ho0, hb⟩; refine ⟨_, rfl, ?_⟩; have n0_ := Aside0.mk (Kd.R_lower ho0 (below_size (by repeat (first | (with_reducible first | exact HB.out | apply below_alloc | apply pw_below_drewN | apply below_drew1) | exact HB.out)))); have n1_ := Aside0.mk (below_step (by repeat (first | (with_reducible first | exact HB.out | apply below_alloc | apply pw_below_drewN | apply below_drew1) | exact HB.out)) hb); clear HB; have HO251 := n0_; have HB := n1_; clear n0_ n1_; (try clear hb); (try clear hb2); (try clear hk); (try clear hi); (try clear ho0)))
    (try simp only [Act.put, List.setIfInBounds_toArray, List.set_cons_zero, List.set_cons_succ])
    go_cut [29] (fun v29 wc => ∃ (kq : Nat) (x29_3 : Bool), v29 = .bool x29_3 ∧ Aside0 (impl_Steps.j0 kq t249 x29_3 = some (r1, r2)) ∧ Aside0 (kq ≤ k) ∧ Aside0 (Kd.R Kd.string 9 wc w.heap.size (fun _ => True) v250 t249) ∧ Aside0 (Below w.heap.size w wc))
    case first =>
      have H := HC4.out
      clear HC4
      by_cases c6 : 0 < (t249.length : Int)
      · rw [if_pos c6] at H
        have c6b0 : decide (0 < (t249.length : Int)) = true := decide_eq_true c6
        have c6b1 : decide (0 < t249.length) = true := decide_eq_true (by omega)
        clear c6
        (first | rw [c6b0] | (simp only [i64_w, i32_w]; rw [c6b0]) | skip)
        by_cases c7 : (rdOf ByteArray.empty t249 0).toList = ([] : List UInt8)
        · rw [if_pos c7] at H
          have c7b0 : ((rdOf ByteArray.empty t249 0).toList == ([] : List UInt8)) = true := beq_iff_eq.mpr c7
          have c7b8 : ((rdOf ByteArray.empty t249 0).toList).isEmpty = true := List.isEmpty_iff.2 c7
          have c7b1 : ((rdOf ByteArray.empty t249 0).toList != ([] : List UInt8)) = false := bne_eq_false_iff_eq.mpr c7
          clear c7
          have H' := Aside0.mk H
          clear H
          obtain ⟨Ao8, co8, eo8⟩ := Kd.R_slice HO251.out
          subst eo8
          have p252 : 0 ≤ (0 : Int) := (by omega)
          have q252 : 0 < (t249.length : Int) := of_decide_eq_true (by first | (with_reducible assumption) | assumption)
          obtain ⟨ad252, e252, hx252_0⟩ := Kd.at_string (Kd.R_reads' HO251.out).2.2 0 p252 q252
          cases e252
          have qi252 : (0 < t249.length) = True := eq_true (by omega)
          (try rw [show ((0 : Int)).toNat = 0 from rfl] at hx252_0)
          (try rw [Addr.add_zero'] at hx252_0)
          replace p252 := eq_true p252
          replace q252 := eq_true q252
          go_wp2
          go_meet
          case rel => exact ⟨_, (decide ((wrap64 ((t249.length : Int) - 1)) > 30)), (by first | rfl | (simp; done) | (simp [*]; done)), H', ⟨by first | omega | exact Nat.le_refl _⟩, ⟨by (with_reducible repeat (first | apply Kd.R_alloc | apply Kd.R_drewN | apply Kd.R_drew)); exact HO251.out⟩, ⟨by repeat (first | (with_reducible first | exact HB.out | apply below_alloc | apply pw_below_drewN | apply below_drew1) | exact HB.out)⟩⟩
        · rw [if_neg c7] at H
          have c7b0 : ((rdOf ByteArray.empty t249 0).toList == ([] : List UInt8)) = false := beq_eq_false_iff_ne.mpr c7
          have c7b8 : ((rdOf ByteArray.empty t249 0).toList).isEmpty = false := Bool.eq_false_iff.2 (fun h_ => c7 (List.isEmpty_iff.1 h_))
          have c7b1 : ((rdOf ByteArray.empty t249 0).toList != ([] : List UInt8)) = true := bne_iff_ne.mpr c7
          have H' := Aside0.mk H
          clear H
          obtain ⟨Ao9, co9, eo9⟩ := Kd.R_slice HO251.out
          subst eo9
          have p252 : 0 ≤ (0 : Int) := (by omega)
          have q252 : 0 < (t249.length : Int) := of_decide_eq_true (by first | (with_reducible assumption) | assumption)
          obtain ⟨ad252, e252, hx252_0⟩ := Kd.at_string (Kd.R_reads' HO251.out).2.2 0 p252 q252
          cases e252
          have qi252 : (0 < t249.length) = True := eq_true (by omega)
          (try rw [show ((0 : Int)).toNat = 0 from rfl] at hx252_0)
          (try rw [Addr.add_zero'] at hx252_0)
          replace p252 := eq_true p252
          replace q252 := eq_true q252
          go_wp2
          go_meet
          case rel => exact ⟨_, (true), (by first | rfl | (simp; done) | (simp [*]; done)), H', ⟨by first | omega | exact Nat.le_refl _⟩, ⟨by (with_reducible repeat (first | apply Kd.R_alloc | apply Kd.R_drewN | apply Kd.R_drew)); exact HO251.out⟩, ⟨by repeat (first | (with_reducible first | exact HB.out | apply below_alloc | apply pw_below_drewN | apply below_drew1) | exact HB.out)⟩⟩
      · rw [if_neg c6] at H
        exact absurd H (by simp)
    case rest =>
      clear HC4
      try clear c2
      try clear c2b0
      try clear c2b1
      try clear p2
      try clear q2
      try clear hx2
      try clear qi2
      try clear c3
      try clear c6
      try clear c6b0
      try clear c6b1
      try clear p6
      try clear c7
      try clear c7b0
      try clear c7b1
      try clear hx252_0
      try clear p252
      try clear q252
      obtain ⟨kq, x29_3, rfl, HA, HJ3, HO_4, HB⟩ := hcut
      cases kq with
      | zero => exact absurd HA.out (by simp [impl_Steps.j0])
      | succ kj3 =>
        have H := HA.out
        clear HA
        simp only [impl_Steps.j0] at H
        have HF := Aside0.mk H
        clear H
        go_upto_if 29 with (fail)
        have H := HF.out
        clear HF
        by_cases c10 : x29_3 = true
        · subst c10
          have H1 : (some (([] : List (S59)), false)) = some (r1, r2) := by rw [if_pos rfl] at H; exact H
          clear H
          have H := H1
          clear H1
          simp only [Option.some.injEq, Prod.mk.injEq] at H
          obtain ⟨rfl, rfl⟩ := H
          go_wp2
          go_ret2
          exact ⟨_, by first | rfl | (simp [errW_none, errW_some] <;> rfl) | (simp [*, errW_none, errW_some] <;> rfl), by first | exact Kd.S_nil _ _ _ _ _ | exact Kd.N_nil _ _ _ _ _ | exact Kd.V_nil _ _ _ _ _ | exact Kd.Q_nil _ _ _ _ _ | exact Kd.R_nil _ _ _ _ _, by repeat (first | (with_reducible first | exact HB.out | apply below_alloc | apply pw_below_drewN | apply below_drew1) | exact HB.out)⟩
        · replace c10 := Bool.eq_false_iff.mpr c10
          subst c10
          have H1 : (if 1 ≤ (t249.length : Int) then ((some (t249.drop 1 : List ByteArray)).bind fun y253 => (impl_Steps.l0 kj3 ([] : List (S59)) 0 y253 (y253.length : Int) 0)) else (none)) = some (r1, r2) := by rw [if_neg (show ¬ (false = true) by decide)] at H; exact H
          clear H
          have H := H1
          clear H1
          by_cases c11 : 1 ≤ (t249.length : Int)
          · rw [if_pos c11] at H
            have c11b0 := eq_true c11
            have c11b1 : decide (1 ≤ (t249.length : Int)) = true := decide_eq_true c11
            clear c11
            obtain ⟨y253, hy253⟩ : ∃ y_ : List ByteArray, y_ = (t249.drop 1) := ⟨_, rfl⟩
            replace H : (impl_Steps.l0 kj3 ([] : List (S59)) 0 y253 (y253.length : Int) 0) = some (r1, r2) := by first | (rw [hy253]; with_reducible exact H) | (have H2_ := (Option.bind_some _ _).symm.trans H; rw [hy253]; with_reducible exact H2_) | (have H2_ := (Option.bind_some _ _).symm.trans H; with_reducible exact H2_) | with_reducible exact H | (rw [hy253]; exact H) | exact H
            have Ny253 := Aside0.mk hy253
            clear hy253
            have H' := Aside0.mk H
            clear H
            obtain ⟨Ao13, co13, eo13⟩ := Kd.R_slice HO_4.out
            subst eo13
            have q12 : (1 : Int) ≤ ((t249.length : Int) : Int) := of_decide_eq_true (by first | (with_reducible assumption) | assumption)
            obtain ⟨i012, hi012, _, hsz12, _⟩ := info_parts info9
            have hroom12 : t249.length ≤ co13 := (Kd.R_reads' HO_4.out).2.1
            have hC12 : Kd.C Kd.string _ Ao13 t249.length t249 := (Kd.R_reads' HO_4.out).2.2
            have hcut12 := cut_from (P := Tryd.prog) 62 9 .i64 Tryd.underlying62 hi012 1 hsz12 Ao13 t249.length co13 1 (by omega) q12
            have hr12 := Kd.C_drop (m := (1 : Int).toNat) (c := co13) hC12 (by omega) hroom12
            obtain ⟨A12, hA12⟩ : ∃ A1, A1 = (if co13 = (1 : Int).toNat then Ao13 else (Ao13 : Option Addr).map (·.add ((1 : Int).toNat * 1))) := ⟨_, rfl⟩
            obtain ⟨c12, hc12⟩ : ∃ c1, c1 = co13 - (1 : Int).toNat := ⟨_, rfl⟩
            have hy12 : y253.length = t249.length - (1 : Int).toNat := (by rw [Ny253.out, List.length_drop] <;> omega)
            rw [show (t249).drop (1 : Int).toNat = y253 from Ny253.out.symm] at hr12
            replace hr12 : Kd.C Kd.string _ A12 y253.length y253 := (by rw [hA12]; exact hr12)
            rw [← hy12, ← hA12, ← hc12] at hcut12
            have HR256 := Aside0.mk hr12
            have HC256 := Aside0.mk (show y253.length ≤ c12 from by rw [hy12, hc12]; exact Nat.sub_le_sub_right hroom12 _)
            clear hr12 hC12 hroom12 hi012 hsz12 hc12
            have KY12 := Aside0.mk hy12
            have KA12 := Aside0.mk hA12
            clear hy12 hA12
            have KL12 := Aside0.mk (show 1 ≤ t249.length from by omega)
            replace q12 := eq_true q12
            go_wp2
            have HBw := HB
            have HLn := Aside0.mk (LaidW.below HL0.out HB.out)
            clear HL0
            have HL0 := HLn
            go_loopg [5, 6, 33] kj3 (fun kq v5 v6 v33 w' => ∃ (x5_2 : List (S59)) (x6_2 : Int) (x33_2 : Int), v6 = .int .i64 x6_2 ∧ v33 = .int .i64 x33_2 ∧ Aside0 (impl_Steps.l0 kq x5_2 x6_2 y253 (y253.length : Int) x33_2 = some (r1, r2)) ∧ Aside0 (kq ≤ kj3) ∧ Aside0 (Kd.S k59 59 w' wc.heap.size (fun _ => True) v5 x5_2) ∧ Aside0 (Below wc.heap.size wc w'))
            case atStart => exact ⟨(([] : List (S59))), (0), (0), (by first | rfl | (simp; done) | (simp [*]; done)), (by first | rfl | (simp; done) | (simp [*]; done)), H', ⟨Nat.le_refl _⟩, ⟨by first | exact Kd.S_nil _ _ _ _ _ | exact Kd.N_nil _ _ _ _ _ | exact Kd.V_nil _ _ _ _ _ | exact Kd.Q_nil _ _ _ _ _ | exact Kd.R_nil _ _ _ _ _⟩, ⟨Below.refl _ _⟩⟩
            case round =>
              clear H'
              try clear c1
              try clear q1
              try clear c2
              try clear c2b0
              try clear c2b1
              try clear p2
              try clear q2
              try clear hx2
              try clear qi2
              try clear c3
              try clear c6
              try clear c6b0
              try clear c6b1
              try clear p6
              try clear c7
              try clear c7b0
              try clear c7b1
              try clear c10
              try clear c11
              try clear c11b0
              try clear c11b1
              try clear c12
              try clear q12
              try clear hx252_0
              try clear p2
              try clear p252
              try clear p6
              try clear q12
              try clear q2
              try clear q252
              obtain ⟨x5_2, x6_2, x33_2, rfl, rfl, HA, HK2, HO_5, HB⟩ := hrel
              cases gk with
              | zero => exact absurd HA.out (by simp [impl_Steps.l0])
              | succ k2 =>
                have H := HA.out
                clear HA
                simp only [impl_Steps.l0] at H
                have HF := Aside0.mk H
                clear H
                go_upto_if 34 with (fail)
                have H := HF.out
                clear HF
                by_cases c14 : x33_2 < (y253.length : Int)
                · rw [if_pos c14] at H
                  have c14b0 : decide (x33_2 < (y253.length : Int)) = true := decide_eq_true c14
                  clear c14
                  (first | rw [c14b0] | (simp only [i64_w, i32_w]; rw [c14b0]) | skip)
                  by_cases c15 : 0 ≤ x33_2
                  · rw [if_pos c15] at H
                    have c15b0 : decide (0 ≤ x33_2) = true := decide_eq_true c15
                    clear c15
                    by_cases c16 : x33_2 < (y253.length : Int)
                    · rw [if_pos c16] at H
                      have c16b0 : decide (x33_2 < (y253.length : Int)) = true := decide_eq_true c16
                      clear c16
                      replace H := Option.bind_eq_some_iff.mp H
                      obtain ⟨⟨t258, t259, t260⟩, A170, H⟩ := H
                      replace H : ((impl_Number.f k2 t258).bind fun bt261 => ((impl_TxsOf.f k2 t259).bind fun bt263 => (if t260 = true then (if bt261.2 = true then (if bt263.2 = true then ((impl_within.f bt261.1 (wrap64 (x6_2 + 1)) 60).bind fun t267 => (if t267 = true then (if (bt263.1.length : Int) > 2 then (some (([] : List (S59)), false)) else (if x5_2.length < 4398046511104 then (impl_Steps.l0 k2 (x5_2 ++ [(⟨bt261.1, bt263.1⟩ : S59)]) bt261.1 y253 (y253.length : Int) (wrap64 (x33_2 + 1))) else (none))) else (some (([] : List (S59)), false)))) else (some (([] : List (S59)), false))) else (some (([] : List (S59)), false))) else (some (([] : List (S59)), false))))) = some (r1, r2) := H
                      have A17 := Aside0.mk A170
                      clear A170
                      replace H := Option.bind_eq_some_iff.mp H
                      obtain ⟨⟨t261, t262⟩, A180, H⟩ := H
                      replace H : ((impl_TxsOf.f k2 t259).bind fun bt263 => (if t260 = true then (if t262 = true then (if bt263.2 = true then ((impl_within.f t261 (wrap64 (x6_2 + 1)) 60).bind fun t267 => (if t267 = true then (if (bt263.1.length : Int) > 2 then (some (([] : List (S59)), false)) else (if x5_2.length < 4398046511104 then (impl_Steps.l0 k2 (x5_2 ++ [(⟨t261, bt263.1⟩ : S59)]) t261 y253 (y253.length : Int) (wrap64 (x33_2 + 1))) else (none))) else (some (([] : List (S59)), false)))) else (some (([] : List (S59)), false))) else (some (([] : List (S59)), false))) else (some (([] : List (S59)), false)))) = some (r1, r2) := H
                      have A18 := Aside0.mk A180
                      clear A180
                      replace H := Option.bind_eq_some_iff.mp H
                      obtain ⟨⟨t263, t264⟩, A190, H⟩ := H
                      replace H : (if t260 = true then (if t262 = true then (if t264 = true then ((impl_within.f t261 (wrap64 (x6_2 + 1)) 60).bind fun t267 => (if t267 = true then (if (t263.length : Int) > 2 then (some (([] : List (S59)), false)) else (if x5_2.length < 4398046511104 then (impl_Steps.l0 k2 (x5_2 ++ [(⟨t261, t263⟩ : S59)]) t261 y253 (y253.length : Int) (wrap64 (x33_2 + 1))) else (none))) else (some (([] : List (S59)), false)))) else (some (([] : List (S59)), false))) else (some (([] : List (S59)), false))) else (some (([] : List (S59)), false))) = some (r1, r2) := H
                      have A19 := Aside0.mk A190
                      clear A190
                      by_cases c20 : t260 = true
                      · subst c20
                        have H1 : (if t262 = true then (if t264 = true then ((impl_within.f t261 (wrap64 (x6_2 + 1)) 60).bind fun t267 => (if t267 = true then (if (t263.length : Int) > 2 then (some (([] : List (S59)), false)) else (if x5_2.length < 4398046511104 then (impl_Steps.l0 k2 (x5_2 ++ [(⟨t261, t263⟩ : S59)]) t261 y253 (y253.length : Int) (wrap64 (x33_2 + 1))) else (none))) else (some (([] : List (S59)), false)))) else (some (([] : List (S59)), false))) else (some (([] : List (S59)), false))) = some (r1, r2) := by rw [if_pos rfl] at H; exact H
                        clear H
                        have H := H1
                        clear H1
                        by_cases c21 : t262 = true
                        · subst c21
                          have H1 : (if t264 = true then ((impl_within.f t261 (wrap64 (x6_2 + 1)) 60).bind fun t267 => (if t267 = true then (if (t263.length : Int) > 2 then (some (([] : List (S59)), false)) else (if x5_2.length < 4398046511104 then (impl_Steps.l0 k2 (x5_2 ++ [(⟨t261, t263⟩ : S59)]) t261 y253 (y253.length : Int) (wrap64 (x33_2 + 1))) else (none))) else (some (([] : List (S59)), false)))) else (some (([] : List (S59)), false))) = some (r1, r2) := by rw [if_pos rfl] at H; exact H
                          clear H
                          have H := H1
                          clear H1
                          by_cases c22 : t264 = true
                          · subst c22
                            have H1 : ((impl_within.f t261 (wrap64 (x6_2 + 1)) 60).bind fun t267 => (if t267 = true then (if (t263.length : Int) > 2 then (some (([] : List (S59)), false)) else (if x5_2.length < 4398046511104 then (impl_Steps.l0 k2 (x5_2 ++ [(⟨t261, t263⟩ : S59)]) t261 y253 (y253.length : Int) (wrap64 (x33_2 + 1))) else (none))) else (some (([] : List (S59)), false)))) = some (r1, r2) := by rw [if_pos rfl] at H; exact H
                            clear H
                            have H := H1
                            clear H1
                            replace H := Option.bind_eq_some_iff.mp H
                            obtain ⟨t267, A230, H⟩ := H
                            replace H : (if t267 = true then (if (t263.length : Int) > 2 then (some (([] : List (S59)), false)) else (if x5_2.length < 4398046511104 then (impl_Steps.l0 k2 (x5_2 ++ [(⟨t261, t263⟩ : S59)]) t261 y253 (y253.length : Int) (wrap64 (x33_2 + 1))) else (none))) else (some (([] : List (S59)), false))) = some (r1, r2) := H
                            have A23 := Aside0.mk A230
                            clear A230
                            by_cases c24 : t267 = true
                            · subst c24
                              have H1 : (if (t263.length : Int) > 2 then (some (([] : List (S59)), false)) else (if x5_2.length < 4398046511104 then (impl_Steps.l0 k2 (x5_2 ++ [(⟨t261, t263⟩ : S59)]) t261 y253 (y253.length : Int) (wrap64 (x33_2 + 1))) else (none))) = some (r1, r2) := by rw [if_pos rfl] at H; exact H
                              clear H
                              have H := H1
                              clear H1
                              have HF := Aside0.mk H
                              clear H
                              have p257 : 0 ≤ (x33_2 : Int) := of_decide_eq_true (by first | (with_reducible assumption) | assumption)
                              have q257 : x33_2 < (y253.length : Int) := of_decide_eq_true (by first | (with_reducible assumption) | assumption)
                              obtain ⟨ad257, e257, hx257_0⟩ := Kd.at_string HR256.out x33_2 p257 q257
                              cases e257
                              replace hx257_0 := (HB.out.cell (World.block_lt_of_cell? wc _ hx257_0)).trans hx257_0
                              replace p257 := eq_true p257
                              replace q257 := eq_true q257
                              go_upto_if 74 with (go_big_may; first | ((with_reducible refine gate_callee (f := 69) rfl ?_); refine goesL_ (some 39) rfl rfl Tryd.func69 (by kernel_rfl) rfl #[.string (rdOf ByteArray.empty y253 x33_2), .string (⟨#[124]⟩ : ByteArray)] rfl (by (try simp only [List.map_toArray, List.map_cons, List.map_nil]); first | done | rfl | (simp only [List.length_drop, List.length_take]; rfl)) ?_; (with_reducible refine (strings_Cut.calls (rdOf ByteArray.empty y253 x33_2) (⟨#[124]⟩ : ByteArray) t258 t259 true _ ?side1 A17.out).mono ?_); (case side1 => exact LaidW.below HL0.out (by repeat (first | (with_reducible first | exact HB.out | apply below_alloc | apply pw_below_drewN | apply below_drew1) | exact HB.out))); rintro e w' ⟨rfl, ⟨nd, rfl⟩⟩; refine ⟨_, rfl, ?_⟩) | ((with_reducible refine gate_callee (f := 70) rfl ?_); refine goesL_ (some 45) rfl rfl Tryd.func70 (by kernel_rfl) rfl #[.string t258] rfl (by (try simp only [List.map_toArray, List.map_cons, List.map_nil]); first | done | rfl | (simp only [List.length_drop, List.length_take]; rfl)) ?_; (with_reducible refine (impl_Number.calls k2 t258 t261 true _ ?side1 A18.out).mono ?_); (case side1 => exact LaidW.below HL0.out (by repeat (first | (with_reducible first | exact HB.out | apply below_alloc | apply pw_below_drewN | apply below_drew1) | exact HB.out))); rintro e w25 ⟨rfl, hb⟩; refine ⟨_, rfl, ?_⟩; have n0_ := Aside0.mk (Kd.S_below (by (with_reducible repeat (first | apply Kd.S_alloc | apply Kd.S_drewN | apply Kd.S_drew)); exact HO_5.out) hb); have n1_ := Aside0.mk (below_step (by repeat (first | (with_reducible first | exact HB.out | apply below_alloc | apply pw_below_drewN | apply below_drew1) | exact HB.out)) hb); clear HO_5; clear HB; have HO_5 := n0_; have HB := n1_; clear n0_ n1_; (try clear hb); (try clear hb2); (try clear hk); (try clear hi)) | ((with_reducible refine gate_callee (f := 50) rfl ?_); refine goesL_ (some 50) rfl rfl Tryd.func50 (by kernel_rfl) rfl #[.string t259] rfl (by (try simp only [List.map_toArray, List.map_cons, List.map_nil]); first | done | rfl | (simp only [List.length_drop, List.length_take]; rfl)) ?_; (with_reducible refine (impl_TxsOf.calls k2 t259 t263 true _ ?side1 A19.out).mono ?_); (case side1 => exact LaidW.below HL0.out (by repeat (first | (with_reducible first | exact HB.out | apply below_alloc | apply pw_below_drewN | apply below_drew1) | exact HB.out))); rintro e w26 ⟨v265, rfl, ho0, hb⟩; refine ⟨_, rfl, ?_⟩; have n0_ := Aside0.mk (Kd.S_elder' (by (with_reducible repeat (first | apply Kd.S_alloc | apply Kd.S_drewN | apply Kd.S_drew)); exact HO_5.out) (Kd.R_base ho0) hb); have n1_ := Aside0.mk (Kd.R_lower ho0 (below_size (by repeat (first | (with_reducible first | exact HB.out | apply below_alloc | apply pw_below_drewN | apply below_drew1) | exact HB.out)))); have n2_ := Aside0.mk (below_step (by repeat (first | (with_reducible first | exact HB.out | apply below_alloc | apply pw_below_drewN | apply below_drew1) | exact HB.out)) hb); clear HO_5; clear HB; have HO_5 := n0_; have HO266 := n1_; have HB := n2_; clear n0_ n1_ n2_; (try clear hb); (try clear hb2); (try clear hk); (try clear hi); (try clear ho0)) | (go_at_call 71; (with_reducible refine (impl_within.calls t261 (wrap64 (x6_2 + 1)) 60 true _ A23.out).mono ?_); rintro e w' ⟨rfl, ⟨nd, rfl⟩⟩; obtain ⟨Ao27, co27, eo27⟩ := Kd.R_slice HO266.out; subst eo27))
                              have H := HF.out
                              clear HF
                              by_cases c28 : (t263.length : Int) > 2
                              · rw [if_pos c28] at H
                                have c28b0 : decide (2 < (t263.length : Int)) = true := decide_eq_true c28
                                have c28b1 : decide (2 < t263.length) = true := decide_eq_true (by omega)
                                clear c28
                                (first | rw [c28b0] | (simp only [i64_w, i32_w]; rw [c28b0]) | skip)
                                simp only [Option.some.injEq, Prod.mk.injEq] at H
                                obtain ⟨rfl, rfl⟩ := H
                                go_wp2
                                go_ret2
                                exact ⟨_, by first | rfl | (simp [errW_none, errW_some] <;> rfl) | (simp [*, errW_none, errW_some] <;> rfl), by first | exact Kd.S_nil _ _ _ _ _ | exact Kd.N_nil _ _ _ _ _ | exact Kd.V_nil _ _ _ _ _ | exact Kd.Q_nil _ _ _ _ _ | exact Kd.R_nil _ _ _ _ _, below_then HBw.out (below_size HBw.out) (by repeat (first | (with_reducible first | exact HB.out | apply below_alloc | apply pw_below_drewN | apply below_drew1) | exact HB.out))⟩
                              · rw [if_neg c28] at H
                                have c28b0 : decide (2 < (t263.length : Int)) = false := decide_eq_false c28
                                have c28b1 : decide (2 < t263.length) = false := decide_eq_false (by omega)
                                clear c28
                                (first | rw [c28b0] | (simp only [i64_w, i32_w]; rw [c28b0]) | skip)
                                by_cases c29 : x5_2.length < 4398046511104
                                · rw [if_pos c29] at H
                                  have LMc29 := Aside0.mk c29
                                  clear c29
                                  obtain ⟨y268, hy268⟩ : ∃ y_ : List (S59), y_ = (x5_2 ++ [(⟨t261, t263⟩ : S59)]) := ⟨_, rfl⟩
                                  replace H : (impl_Steps.l0 k2 y268 t261 y253 (y253.length : Int) (wrap64 (x33_2 + 1))) = some (r1, r2) := by first | (rw [hy268]; with_reducible exact H) | (have H2_ := (Option.bind_some _ _).symm.trans H; rw [hy268]; with_reducible exact H2_) | (have H2_ := (Option.bind_some _ _).symm.trans H; with_reducible exact H2_) | with_reducible exact H | (rw [hy268]; exact H) | exact H
                                  have Ny268 := Aside0.mk hy268
                                  clear hy268
                                  have H' := Aside0.mk H
                                  clear H
                                  go_wp2_with (first | ((with_reducible refine gate_builtin (b := .append) (xs := #[.tmp 75, .tmp 79]) rfl ?_); (try (refine gate_guard (by rfl) ?_; dsimp only)); at_builtin; refine Kd.S_append k59 (w0 := wc) wc.heap.size rfl (.tmp 75) (.tmp 79) 35 59 (.agg #[(.int .i64 0), (.slice none 0 0)]) 32 rfl Tryd.underlying35 info59 rfl (by decide) (by omega) u5 x5_2 (⟨t261, t263⟩ : S59) [.int .i64 t261, .slice Ao27 t263.length co27] (fun _ => True) (fun k_ => some k_ = (.slice Ao27 t263.length co27 : Value).ownBlock) rfl rfl ?aP (fun k_ hk_ => ((Kd.R_mono (ok' := fun k_ => ((fun _ => True)) k_ ∧ some k_ ≠ (u5 : Value).ownBlock) (Kd.R_apart' (HO266.out) (Kd.S_typed HO_5.out) (by decide)) (fun k_ hk => ⟨trivial, hk.2⟩))).1 k_ hk_.symm) ?aF ?aO ?aB ?aS ?aL ?_; (case aP => exact k59_mkM _ _ _ (⟨t261, t263⟩ : S59) (Kd.R_mono (Kd.R_tight rfl (Kd.R_mono (ok' := fun k_ => ((fun _ => True)) k_ ∧ some k_ ≠ (u5 : Value).ownBlock) (Kd.R_apart' (HO266.out) (Kd.S_typed HO_5.out) (by decide)) (fun k_ hk => ⟨trivial, hk.2⟩))) (fun _ h_ => h_))); (case aB => exact (by repeat (first | (with_reducible first | exact HB.out | apply below_alloc | apply pw_below_drewN | apply below_drew1) | exact HB.out))); (case aF => exact (fun _ _ => trivial)); (case aO => exact (by (with_reducible repeat (first | apply Kd.S_alloc | apply Kd.S_drewN | apply Kd.S_drew)); exact Kd.S_mono HO_5.out (fun k_ hk => ⟨trivial, fun e_ => hk.2 e_⟩))); (case aS => exact (below_size (by repeat (first | (with_reducible first | exact HB.out | apply below_alloc | apply pw_below_drewN | apply below_drew1) | exact HB.out)))); (case aL => have := LMc29.out; omega); intro v269 w30 ho hb hg hat; rw [← Ny268.out] at ho; have n0_ := Aside0.mk (hb); have n1_ := Aside0.mk (ho); clear HB; clear HO_5; clear HO266; have HB := n0_; have HO270 := n1_; clear n0_ n1_; clear ho hb hg hat))
                                  go_roundg k2
                                  case measure => have := HJ3.out; have := HK2.out; omega
                                  case rel => exact ⟨(y268), (t261), (wrap64 (x33_2 + 1)), (by first | rfl | (simp; done) | (simp [*]; done)), (by first | rfl | (simp; done) | (simp [*]; done)), H', ⟨by have := HJ3.out; have := HK2.out; omega⟩, ⟨by (with_reducible repeat (first | apply Kd.S_alloc | apply Kd.S_drewN | apply Kd.S_drew)); exact HO270.out⟩, ⟨by repeat (first | (with_reducible first | exact HB.out | apply below_alloc | apply pw_below_drewN | apply below_drew1) | exact HB.out)⟩⟩
                                · rw [if_neg c29] at H
                                  exact absurd H (by simp)
                            · replace c24 := Bool.eq_false_iff.mpr c24
                              subst c24
                              have H1 : (some (([] : List (S59)), false)) = some (r1, r2) := by rw [if_neg (show ¬ (false = true) by decide)] at H; exact H
                              clear H
                              have H := H1
                              clear H1
                              simp only [Option.some.injEq, Prod.mk.injEq] at H
                              obtain ⟨rfl, rfl⟩ := H
                              have p257 : 0 ≤ (x33_2 : Int) := of_decide_eq_true (by first | (with_reducible assumption) | assumption)
                              have q257 : x33_2 < (y253.length : Int) := of_decide_eq_true (by first | (with_reducible assumption) | assumption)
                              obtain ⟨ad257, e257, hx257_0⟩ := Kd.at_string HR256.out x33_2 p257 q257
                              cases e257
                              replace hx257_0 := (HB.out.cell (World.block_lt_of_cell? wc _ hx257_0)).trans hx257_0
                              replace p257 := eq_true p257
                              replace q257 := eq_true q257
                              go_wp2_with (first | ((with_reducible refine gate_callee (f := 69) rfl ?_); refine goesL_ (some 39) rfl rfl Tryd.func69 (by kernel_rfl) rfl #[.string (rdOf ByteArray.empty y253 x33_2), .string (⟨#[124]⟩ : ByteArray)] rfl (by (try simp only [List.map_toArray, List.map_cons, List.map_nil]); first | done | rfl | (simp only [List.length_drop, List.length_take]; rfl)) ?_; (with_reducible refine (strings_Cut.calls (rdOf ByteArray.empty y253 x33_2) (⟨#[124]⟩ : ByteArray) t258 t259 true _ ?side1 A17.out).mono ?_); (case side1 => exact LaidW.below HL0.out (by repeat (first | (with_reducible first | exact HB.out | apply below_alloc | apply pw_below_drewN | apply below_drew1) | exact HB.out))); rintro e w' ⟨rfl, ⟨nd, rfl⟩⟩; refine ⟨_, rfl, ?_⟩) | ((with_reducible refine gate_callee (f := 70) rfl ?_); refine goesL_ (some 45) rfl rfl Tryd.func70 (by kernel_rfl) rfl #[.string t258] rfl (by (try simp only [List.map_toArray, List.map_cons, List.map_nil]); first | done | rfl | (simp only [List.length_drop, List.length_take]; rfl)) ?_; (with_reducible refine (impl_Number.calls k2 t258 t261 true _ ?side1 A18.out).mono ?_); (case side1 => exact LaidW.below HL0.out (by repeat (first | (with_reducible first | exact HB.out | apply below_alloc | apply pw_below_drewN | apply below_drew1) | exact HB.out))); rintro e w31 ⟨rfl, hb⟩; refine ⟨_, rfl, ?_⟩; have n0_ := Aside0.mk (Kd.S_below (by (with_reducible repeat (first | apply Kd.S_alloc | apply Kd.S_drewN | apply Kd.S_drew)); exact HO_5.out) hb); have n1_ := Aside0.mk (below_step (by repeat (first | (with_reducible first | exact HB.out | apply below_alloc | apply pw_below_drewN | apply below_drew1) | exact HB.out)) hb); clear HO_5; clear HB; have HO_5 := n0_; have HB := n1_; clear n0_ n1_; (try clear hb); (try clear hb2); (try clear hk); (try clear hi)) | ((with_reducible refine gate_callee (f := 50) rfl ?_); refine goesL_ (some 50) rfl rfl Tryd.func50 (by kernel_rfl) rfl #[.string t259] rfl (by (try simp only [List.map_toArray, List.map_cons, List.map_nil]); first | done | rfl | (simp only [List.length_drop, List.length_take]; rfl)) ?_; (with_reducible refine (impl_TxsOf.calls k2 t259 t263 true _ ?side1 A19.out).mono ?_); (case side1 => exact LaidW.below HL0.out (by repeat (first | (with_reducible first | exact HB.out | apply below_alloc | apply pw_below_drewN | apply below_drew1) | exact HB.out))); rintro e w32 ⟨v265, rfl, ho0, hb⟩; refine ⟨_, rfl, ?_⟩; have n0_ := Aside0.mk (Kd.S_elder' (by (with_reducible repeat (first | apply Kd.S_alloc | apply Kd.S_drewN | apply Kd.S_drew)); exact HO_5.out) (Kd.R_base ho0) hb); have n1_ := Aside0.mk (Kd.R_lower ho0 (below_size (by repeat (first | (with_reducible first | exact HB.out | apply below_alloc | apply pw_below_drewN | apply below_drew1) | exact HB.out)))); have n2_ := Aside0.mk (below_step (by repeat (first | (with_reducible first | exact HB.out | apply below_alloc | apply pw_below_drewN | apply below_drew1) | exact HB.out)) hb); clear HO_5; clear HB; have HO_5 := n0_; have HO266 := n1_; have HB := n2_; clear n0_ n1_ n2_; (try clear hb); (try clear hb2); (try clear hk); (try clear hi); (try clear ho0)) | (go_at_call 71; (with_reducible refine (impl_within.calls t261 (wrap64 (x6_2 + 1)) 60 false _ A23.out).mono ?_); rintro e w' ⟨rfl, ⟨nd, rfl⟩⟩))
                              go_ret2
                              exact ⟨_, by first | rfl | (simp [errW_none, errW_some] <;> rfl) | (simp [*, errW_none, errW_some] <;> rfl), by first | exact Kd.S_nil _ _ _ _ _ | exact Kd.N_nil _ _ _ _ _ | exact Kd.V_nil _ _ _ _ _ | exact Kd.Q_nil _ _ _ _ _ | exact Kd.R_nil _ _ _ _ _, below_then HBw.out (below_size HBw.out) (by repeat (first | (with_reducible first | exact HB.out | apply below_alloc | apply pw_below_drewN | apply below_drew1) | exact HB.out))⟩
                          · replace c22 := Bool.eq_false_iff.mpr c22
                            subst c22
                            have H1 : (some (([] : List (S59)), false)) = some (r1, r2) := by rw [if_neg (show ¬ (false = true) by decide)] at H; exact H
                            clear H
                            have H := H1
                            clear H1
                            simp only [Option.some.injEq, Prod.mk.injEq] at H
                            obtain ⟨rfl, rfl⟩ := H
                            have p257 : 0 ≤ (x33_2 : Int) := of_decide_eq_true (by first | (with_reducible assumption) | assumption)
                            have q257 : x33_2 < (y253.length : Int) := of_decide_eq_true (by first | (with_reducible assumption) | assumption)
                            obtain ⟨ad257, e257, hx257_0⟩ := Kd.at_string HR256.out x33_2 p257 q257
                            cases e257
                            replace hx257_0 := (HB.out.cell (World.block_lt_of_cell? wc _ hx257_0)).trans hx257_0
                            replace p257 := eq_true p257
                            replace q257 := eq_true q257
                            go_wp2_with (first | ((with_reducible refine gate_callee (f := 69) rfl ?_); refine goesL_ (some 39) rfl rfl Tryd.func69 (by kernel_rfl) rfl #[.string (rdOf ByteArray.empty y253 x33_2), .string (⟨#[124]⟩ : ByteArray)] rfl (by (try simp only [List.map_toArray, List.map_cons, List.map_nil]); first | done | rfl | (simp only [List.length_drop, List.length_take]; rfl)) ?_; (with_reducible refine (strings_Cut.calls (rdOf ByteArray.empty y253 x33_2) (⟨#[124]⟩ : ByteArray) t258 t259 true _ ?side1 A17.out).mono ?_); (case side1 => exact LaidW.below HL0.out (by repeat (first | (with_reducible first | exact HB.out | apply below_alloc | apply pw_below_drewN | apply below_drew1) | exact HB.out))); rintro e w' ⟨rfl, ⟨nd, rfl⟩⟩; refine ⟨_, rfl, ?_⟩) | ((with_reducible refine gate_callee (f := 70) rfl ?_); refine goesL_ (some 45) rfl rfl Tryd.func70 (by kernel_rfl) rfl #[.string t258] rfl (by (try simp only [List.map_toArray, List.map_cons, List.map_nil]); first | done | rfl | (simp only [List.length_drop, List.length_take]; rfl)) ?_; (with_reducible refine (impl_Number.calls k2 t258 t261 true _ ?side1 A18.out).mono ?_); (case side1 => exact LaidW.below HL0.out (by repeat (first | (with_reducible first | exact HB.out | apply below_alloc | apply pw_below_drewN | apply below_drew1) | exact HB.out))); rintro e w33 ⟨rfl, hb⟩; refine ⟨_, rfl, ?_⟩; have n0_ := Aside0.mk (Kd.S_below (by (with_reducible repeat (first | apply Kd.S_alloc | apply Kd.S_drewN | apply Kd.S_drew)); exact HO_5.out) hb); have n1_ := Aside0.mk (below_step (by repeat (first | (with_reducible first | exact HB.out | apply below_alloc | apply pw_below_drewN | apply below_drew1) | exact HB.out)) hb); clear HO_5; clear HB; have HO_5 := n0_; have HB := n1_; clear n0_ n1_; (try clear hb); (try clear hb2); (try clear hk); (try clear hi)) | ((with_reducible refine gate_callee (f := 50) rfl ?_); refine goesL_ (some 50) rfl rfl Tryd.func50 (by kernel_rfl) rfl #[.string t259] rfl (by (try simp only [List.map_toArray, List.map_cons, List.map_nil]); first | done | rfl | (simp only [List.length_drop, List.length_take]; rfl)) ?_; (with_reducible refine (impl_TxsOf.calls k2 t259 t263 false _ ?side1 A19.out).mono ?_); (case side1 => exact LaidW.below HL0.out (by repeat (first | (with_reducible first | exact HB.out | apply below_alloc | apply pw_below_drewN | apply below_drew1) | exact HB.out))); rintro e w34 ⟨v265, rfl, ho0, hb⟩; refine ⟨_, rfl, ?_⟩; have n0_ := Aside0.mk (Kd.S_elder' (by (with_reducible repeat (first | apply Kd.S_alloc | apply Kd.S_drewN | apply Kd.S_drew)); exact HO_5.out) (Kd.R_base ho0) hb); have n1_ := Aside0.mk (Kd.R_lower ho0 (below_size (by repeat (first | (with_reducible first | exact HB.out | apply below_alloc | apply pw_below_drewN | apply below_drew1) | exact HB.out)))); have n2_ := Aside0.mk (below_step (by repeat (first | (with_reducible first | exact HB.out | apply below_alloc | apply pw_below_drewN | apply below_drew1) | exact HB.out)) hb); clear HO_5; clear HB; have HO_5 := n0_; have HO266 := n1_; have HB := n2_; clear n0_ n1_ n2_; (try clear hb); (try clear hb2); (try clear hk); (try clear hi); (try clear ho0)))
                            go_ret2
                            exact ⟨_, by first | rfl | (simp [errW_none, errW_some] <;> rfl) | (simp [*, errW_none, errW_some] <;> rfl), by first | exact Kd.S_nil _ _ _ _ _ | exact Kd.N_nil _ _ _ _ _ | exact Kd.V_nil _ _ _ _ _ | exact Kd.Q_nil _ _ _ _ _ | exact Kd.R_nil _ _ _ _ _, below_then HBw.out (below_size HBw.out) (by repeat (first | (with_reducible first | exact HB.out | apply below_alloc | apply pw_below_drewN | apply below_drew1) | exact HB.out))⟩
                        · replace c21 := Bool.eq_false_iff.mpr c21
                          subst c21
                          have H1 : (some (([] : List (S59)), false)) = some (r1, r2) := by rw [if_neg (show ¬ (false = true) by decide)] at H; exact H
                          clear H
                          have H := H1
                          clear H1
                          simp only [Option.some.injEq, Prod.mk.injEq] at H
                          obtain ⟨rfl, rfl⟩ := H
                          have p257 : 0 ≤ (x33_2 : Int) := of_decide_eq_true (by first | (with_reducible assumption) | assumption)
                          have q257 : x33_2 < (y253.length : Int) := of_decide_eq_true (by first | (with_reducible assumption) | assumption)
                          obtain ⟨ad257, e257, hx257_0⟩ := Kd.at_string HR256.out x33_2 p257 q257
                          cases e257
                          replace hx257_0 := (HB.out.cell (World.block_lt_of_cell? wc _ hx257_0)).trans hx257_0
                          replace p257 := eq_true p257
                          replace q257 := eq_true q257
                          go_wp2_with (first | ((with_reducible refine gate_callee (f := 69) rfl ?_); refine goesL_ (some 39) rfl rfl Tryd.func69 (by kernel_rfl) rfl #[.string (rdOf ByteArray.empty y253 x33_2), .string (⟨#[124]⟩ : ByteArray)] rfl (by (try simp only [List.map_toArray, List.map_cons, List.map_nil]); first | done | rfl | (simp only [List.length_drop, List.length_take]; rfl)) ?_; (with_reducible refine (strings_Cut.calls (rdOf ByteArray.empty y253 x33_2) (⟨#[124]⟩ : ByteArray) t258 t259 true _ ?side1 A17.out).mono ?_); (case side1 => exact LaidW.below HL0.out (by repeat (first | (with_reducible first | exact HB.out | apply below_alloc | apply pw_below_drewN | apply below_drew1) | exact HB.out))); rintro e w' ⟨rfl, ⟨nd, rfl⟩⟩; refine ⟨_, rfl, ?_⟩) | ((with_reducible refine gate_callee (f := 70) rfl ?_); refine goesL_ (some 45) rfl rfl Tryd.func70 (by kernel_rfl) rfl #[.string t258] rfl (by (try simp only [List.map_toArray, List.map_cons, List.map_nil]); first | done | rfl | (simp only [List.length_drop, List.length_take]; rfl)) ?_; (with_reducible refine (impl_Number.calls k2 t258 t261 false _ ?side1 A18.out).mono ?_); (case side1 => exact LaidW.below HL0.out (by repeat (first | (with_reducible first | exact HB.out | apply below_alloc | apply pw_below_drewN | apply below_drew1) | exact HB.out))); rintro e w35 ⟨rfl, hb⟩; refine ⟨_, rfl, ?_⟩; have n0_ := Aside0.mk (Kd.S_below (by (with_reducible repeat (first | apply Kd.S_alloc | apply Kd.S_drewN | apply Kd.S_drew)); exact HO_5.out) hb); have n1_ := Aside0.mk (below_step (by repeat (first | (with_reducible first | exact HB.out | apply below_alloc | apply pw_below_drewN | apply below_drew1) | exact HB.out)) hb); clear HO_5; clear HB; have HO_5 := n0_; have HB := n1_; clear n0_ n1_; (try clear hb); (try clear hb2); (try clear hk); (try clear hi)) | ((with_reducible refine gate_callee (f := 50) rfl ?_); refine goesL_ (some 50) rfl rfl Tryd.func50 (by kernel_rfl) rfl #[.string t259] rfl (by (try simp only [List.map_toArray, List.map_cons, List.map_nil]); first | done | rfl | (simp only [List.length_drop, List.length_take]; rfl)) ?_; (with_reducible refine (impl_TxsOf.calls k2 t259 t263 t264 _ ?side1 A19.out).mono ?_); (case side1 => exact LaidW.below HL0.out (by repeat (first | (with_reducible first | exact HB.out | apply below_alloc | apply pw_below_drewN | apply below_drew1) | exact HB.out))); rintro e w36 ⟨v265, rfl, ho0, hb⟩; refine ⟨_, rfl, ?_⟩; have n0_ := Aside0.mk (Kd.S_elder' (by (with_reducible repeat (first | apply Kd.S_alloc | apply Kd.S_drewN | apply Kd.S_drew)); exact HO_5.out) (Kd.R_base ho0) hb); have n1_ := Aside0.mk (Kd.R_lower ho0 (below_size (by repeat (first | (with_reducible first | exact HB.out | apply below_alloc | apply pw_below_drewN | apply below_drew1) | exact HB.out)))); have n2_ := Aside0.mk (below_step (by repeat (first | (with_reducible first | exact HB.out | apply below_alloc | apply pw_below_drewN | apply below_drew1) | exact HB.out)) hb); clear HO_5; clear HB; have HO_5 := n0_; have HO266 := n1_; have HB := n2_; clear n0_ n1_ n2_; (try clear hb); (try clear hb2); (try clear hk); (try clear hi); (try clear ho0)))
                          go_ret2
                          exact ⟨_, by first | rfl | (simp [errW_none, errW_some] <;> rfl) | (simp [*, errW_none, errW_some] <;> rfl), by first | exact Kd.S_nil _ _ _ _ _ | exact Kd.N_nil _ _ _ _ _ | exact Kd.V_nil _ _ _ _ _ | exact Kd.Q_nil _ _ _ _ _ | exact Kd.R_nil _ _ _ _ _, below_then HBw.out (below_size HBw.out) (by repeat (first | (with_reducible first | exact HB.out | apply below_alloc | apply pw_below_drewN | apply below_drew1) | exact HB.out))⟩
                      · replace c20 := Bool.eq_false_iff.mpr c20
                        subst c20
                        have H1 : (some (([] : List (S59)), false)) = some (r1, r2) := by rw [if_neg (show ¬ (false = true) by decide)] at H; exact H
                        clear H
                        have H := H1
                        clear H1
                        simp only [Option.some.injEq, Prod.mk.injEq] at H
                        obtain ⟨rfl, rfl⟩ := H
                        have p257 : 0 ≤ (x33_2 : Int) := of_decide_eq_true (by first | (with_reducible assumption) | assumption)
                        have q257 : x33_2 < (y253.length : Int) := of_decide_eq_true (by first | (with_reducible assumption) | assumption)
                        obtain ⟨ad257, e257, hx257_0⟩ := Kd.at_string HR256.out x33_2 p257 q257
                        cases e257
                        replace hx257_0 := (HB.out.cell (World.block_lt_of_cell? wc _ hx257_0)).trans hx257_0
                        replace p257 := eq_true p257
                        replace q257 := eq_true q257
                        go_wp2_with (first | ((with_reducible refine gate_callee (f := 69) rfl ?_); refine goesL_ (some 39) rfl rfl Tryd.func69 (by kernel_rfl) rfl #[.string (rdOf ByteArray.empty y253 x33_2), .string (⟨#[124]⟩ : ByteArray)] rfl (by (try simp only [List.map_toArray, List.map_cons, List.map_nil]); first | done | rfl | (simp only [List.length_drop, List.length_take]; rfl)) ?_; (with_reducible refine (strings_Cut.calls (rdOf ByteArray.empty y253 x33_2) (⟨#[124]⟩ : ByteArray) t258 t259 false _ ?side1 A17.out).mono ?_); (case side1 => exact LaidW.below HL0.out (by repeat (first | (with_reducible first | exact HB.out | apply below_alloc | apply pw_below_drewN | apply below_drew1) | exact HB.out))); rintro e w' ⟨rfl, ⟨nd, rfl⟩⟩; refine ⟨_, rfl, ?_⟩) | ((with_reducible refine gate_callee (f := 70) rfl ?_); refine goesL_ (some 45) rfl rfl Tryd.func70 (by kernel_rfl) rfl #[.string t258] rfl (by (try simp only [List.map_toArray, List.map_cons, List.map_nil]); first | done | rfl | (simp only [List.length_drop, List.length_take]; rfl)) ?_; (with_reducible refine (impl_Number.calls k2 t258 t261 t262 _ ?side1 A18.out).mono ?_); (case side1 => exact LaidW.below HL0.out (by repeat (first | (with_reducible first | exact HB.out | apply below_alloc | apply pw_below_drewN | apply below_drew1) | exact HB.out))); rintro e w37 ⟨rfl, hb⟩; refine ⟨_, rfl, ?_⟩; have n0_ := Aside0.mk (Kd.S_below (by (with_reducible repeat (first | apply Kd.S_alloc | apply Kd.S_drewN | apply Kd.S_drew)); exact HO_5.out) hb); have n1_ := Aside0.mk (below_step (by repeat (first | (with_reducible first | exact HB.out | apply below_alloc | apply pw_below_drewN | apply below_drew1) | exact HB.out)) hb); clear HO_5; clear HB; have HO_5 := n0_; have HB := n1_; clear n0_ n1_; (try clear hb); (try clear hb2); (try clear hk); (try clear hi)) | ((with_reducible refine gate_callee (f := 50) rfl ?_); refine goesL_ (some 50) rfl rfl Tryd.func50 (by kernel_rfl) rfl #[.string t259] rfl (by (try simp only [List.map_toArray, List.map_cons, List.map_nil]); first | done | rfl | (simp only [List.length_drop, List.length_take]; rfl)) ?_; (with_reducible refine (impl_TxsOf.calls k2 t259 t263 t264 _ ?side1 A19.out).mono ?_); (case side1 => exact LaidW.below HL0.out (by repeat (first | (with_reducible first | exact HB.out | apply below_alloc | apply pw_below_drewN | apply below_drew1) | exact HB.out))); rintro e w38 ⟨v265, rfl, ho0, hb⟩; refine ⟨_, rfl, ?_⟩; have n0_ := Aside0.mk (Kd.S_elder' (by (with_reducible repeat (first | apply Kd.S_alloc | apply Kd.S_drewN | apply Kd.S_drew)); exact HO_5.out) (Kd.R_base ho0) hb); have n1_ := Aside0.mk (Kd.R_lower ho0 (below_size (by repeat (first | (with_reducible first | exact HB.out | apply below_alloc | apply pw_below_drewN | apply below_drew1) | exact HB.out)))); have n2_ := Aside0.mk (below_step (by repeat (first | (with_reducible first | exact HB.out | apply below_alloc | apply pw_below_drewN | apply below_drew1) | exact HB.out)) hb); clear HO_5; clear HB; have HO_5 := n0_; have HO266 := n1_; have HB := n2_; clear n0_ n1_ n2_; (try clear hb); (try clear hb2); (try clear hk); (try clear hi); (try clear ho0)))
                        go_ret2
                        exact ⟨_, by first | rfl | (simp [errW_none, errW_some] <;> rfl) | (simp [*, errW_none, errW_some] <;> rfl), by first | exact Kd.S_nil _ _ _ _ _ | exact Kd.N_nil _ _ _ _ _ | exact Kd.V_nil _ _ _ _ _ | exact Kd.Q_nil _ _ _ _ _ | exact Kd.R_nil _ _ _ _ _, below_then HBw.out (below_size HBw.out) (by repeat (first | (with_reducible first | exact HB.out | apply below_alloc | apply pw_below_drewN | apply below_drew1) | exact HB.out))⟩
                    · rw [if_neg c16] at H
                      exact absurd H (by simp)
                  · rw [if_neg c15] at H
                    exact absurd H (by simp)
                · rw [if_neg c14] at H
                  have c14b0 : decide (x33_2 < (y253.length : Int)) = false := decide_eq_false c14
                  clear c14
                  (first | rw [c14b0] | (simp only [i64_w, i32_w]; rw [c14b0]) | skip)
                  simp only [Option.some.injEq, Prod.mk.injEq] at H
                  obtain ⟨rfl, rfl⟩ := H
                  go_wp2
                  go_ret2
                  exact ⟨_, by first | rfl | (simp [errW_none, errW_some] <;> rfl) | (simp [*, errW_none, errW_some] <;> rfl), by (with_reducible repeat (first | apply Kd.S_alloc | apply Kd.S_drewN | apply Kd.S_drew)); exact Kd.S_lower HO_5.out (below_size HBw.out), below_then HBw.out (below_size HBw.out) (by repeat (first | (with_reducible first | exact HB.out | apply below_alloc | apply pw_below_drewN | apply below_drew1) | exact HB.out))⟩
          · rw [if_neg c11] at H
            exact absurd H (by simp)

/-! ### impl_NameOk: function 20 -/
def impl_NameOk.f (k : Nat) (a0 : ByteArray) : Option (Bool) := (impl_Steps.f k a0).bind fun bt271 => (some bt271.2)
theorem impl_NameOk.mono : ∀ a0 k, LeO (impl_NameOk.f k a0) (impl_NameOk.f (k + 1) a0) := by
  intro a0 k
  unfold impl_NameOk.f
  repeat' first
      | (with_reducible exact impl_Steps.mono _ _)
      | (with_reducible exact LeO.refl _)
      | (with_reducible exact LeO.none _)
      | (with_reducible refine LeO.ite ?_ ?_)
      | (with_reducible refine LeO.bind ?_ (fun _ => ?_))
      | exact impl_Steps.mono _ _
      | exact LeO.none _
      | refine LeO.ite ?_ ?_
      | refine LeO.bind ?_ (fun _ => ?_)
set_option maxHeartbeats 8000000 in
set_option maxRecDepth 100000 in
theorem impl_NameOk.calls (k : Nat) (a0 : ByteArray) (r : Bool) (w : World) (hL : LaidW w) (h : impl_NameOk.f k a0 = some r) :
    Calls Tryd.prog 20 #[.string a0] w fun e w' => e = .returned (.bool r) ∧ Below w.heap.size w w' := by
  have HL0 := Aside0.mk hL
  clear hL
  have HB := Aside0.mk (Below.refl w.heap.size w)
  have H : ((impl_Steps.f k a0).bind fun bt271 => (some bt271.2)) = some r := h
  clear h
  replace H := Option.bind_eq_some_iff.mp H
  obtain ⟨⟨t271, t272⟩, A20, H⟩ := H
  replace H : (some t272) = some r := H
  have A2 := Aside0.mk A20
  clear A20
  obtain rfl := Option.some.inj H
  go_enter Tryd.func20, Tryd.ntmps20
  go_wp2_with (first | ((with_reducible refine gate_callee (f := 36) rfl ?_); refine goesL_ (some 7) rfl rfl Tryd.func36 (by kernel_rfl) rfl #[.string a0] rfl (by (try simp only [List.map_toArray, List.map_cons, List.map_nil]); first | done | rfl | (simp only [List.length_drop, List.length_take]; rfl)) ?_; (with_reducible refine (impl_Steps.calls k a0 t271 t272 _ ?side1 A2.out).mono ?_); (case side1 => exact LaidW.below HL0.out (by repeat (first | (with_reducible first | exact HB.out | apply below_alloc | apply pw_below_drewN | apply below_drew1) | exact HB.out))); rintro e w3 ⟨v273, rfl, ho0, hb⟩; refine ⟨_, rfl, ?_⟩; have n0_ := Aside0.mk (Kd.S_lower ho0 (below_size (by repeat (first | (with_reducible first | exact HB.out | apply below_alloc | apply pw_below_drewN | apply below_drew1) | exact HB.out)))); have n1_ := Aside0.mk (below_step (by repeat (first | (with_reducible first | exact HB.out | apply below_alloc | apply pw_below_drewN | apply below_drew1) | exact HB.out)) hb); clear HB; have HO274 := n0_; have HB := n1_; clear n0_ n1_; (try clear hb); (try clear hb2); (try clear hk); (try clear hi); (try clear ho0)))
  go_ret
  exact ⟨by first | rfl | (simp [errW_none, errW_some] <;> rfl) | (simp [*, errW_none, errW_some] <;> rfl), by repeat (first | (with_reducible first | exact HB.out | apply below_alloc | apply pw_below_drewN | apply below_drew1) | exact HB.out)⟩

/-! ### strings_Join: function 79 -/
def strings_Join.f (l0 : List ByteArray) (a1 : ByteArray) : Option (ByteArray) := if l0.length ≤ 140737488355328 ∧ (Lib.join (l0.map (·.data.toList)) a1.data.toList).length ≤ 140737488355328 then some ⟨(Lib.join (l0.map (·.data.toList)) a1.data.toList).toArray⟩ else none
theorem strings_Join.calls (A0 : Option Addr) (c0 : Nat) (l0 : List ByteArray) (a1 : ByteArray) (r : ByteArray) (w : World) (hr0 : Kd.C Kd.string w A0 l0.length l0) (hc0 : l0.length ≤ c0) (hL : LaidW w) (h : strings_Join.f l0 a1 = some r) :
    Calls Tryd.prog 79 #[.slice A0 l0.length c0, .string a1] w fun e w' => e = .returned (.string r) ∧ Below w.heap.size w w' := by
  unfold strings_Join.f at h
  by_cases hb : l0.length ≤ 140737488355328 ∧ (Lib.join (l0.map (·.data.toList)) a1.data.toList).length ≤ 140737488355328
  · rw [if_pos hb] at h
    obtain rfl := Option.some.inj h
    by_cases hz : l0 = []
    · subst hz
      exact (Tryd.strings_Join_none A0 c0 a1 w).mono fun e w' ⟨he, hw⟩ => ⟨he, hw ▸ Below.refl _ _⟩
    · have hp : 0 < l0.length := List.length_pos_iff.2 hz
      obtain ⟨ad, rfl, h0⟩ := Kd.at_string hr0 0 (by omega) (by omega)
      have hs : ad.spot = none := by
        rw [show (0 : Int).toNat = 0 from rfl] at h0
        unfold Addr.add at h0
        rw [if_pos rfl] at h0
        unfold World.cell? at h0
        split at h0
        · split at h0
          · cases h0
          · rename_i hn
            cases hq : ad.spot with
            | none => rfl
            | some _ => rw [hq] at hn; exact absurd rfl hn
        · cases h0
      obtain ⟨bk, o, sp⟩ := ad
      simp only at hs
      subst hs
      have hcells : ∀ (j : Nat) x, l0[j]? = some x → w.cell? ⟨bk, o + j, none⟩ = some (.string x) := by
        intro j x hj
        have hjl : j < l0.length := (List.getElem?_eq_some_iff.1 hj).1
        obtain ⟨ad', e', h1⟩ := Kd.at_string hr0 (j : Int) (by omega) (by omega)
        obtain rfl := Option.some.inj e'
        rw [Int.toNat_natCast] at h1
        have e2 : (⟨bk, o, none⟩ : Addr).add j = ⟨bk, o + j, none⟩ := by
          unfold Addr.add
          split
          · rename_i h2; subst h2; simp
          · rfl
        rw [e2] at h1
        rw [h1]
        congr 2
        unfold rdOf
        rw [Int.toNat_natCast, List.getD_eq_getElem?_getD, hj]
        rfl
      have hbk : bk < w.heap.size := World.block_lt_of_cell? w _ (hcells 0 _ (List.getElem?_eq_getElem hp))
      exact Tryd.strings_Join bk o c0 l0 a1 w hcells hbk hb.1 hc0 hb.2
  · rw [if_neg hb] at h
    cases h

/-! ### impl_TxsText: function 48 -/
def impl_TxsText.l0 : Nat → List ByteArray → List (S44) → Int → Int → Option (ByteArray)
  | 0, _, _, _, _ => none
  | k + 1, x3, x6, x7, x8 => if x8 < x7 then (if 0 ≤ x8 then (if x8 < (x6.length : Int) then ((impl_TxOk.f ((rd_T44 x6 x8).f0) ((rd_T44 x6 x8).f1) ((rd_T44 x6 x8).f2) ((rd_T44 x6 x8).f3)).bind fun t278 => (if t278 = true then ((impl_TxText.f ((rd_T44 x6 x8).f0) ((rd_T44 x6 x8).f1) ((rd_T44 x6 x8).f2) ((rd_T44 x6 x8).f3)).bind fun t279 => (if x3.length < 8796093022208 then (impl_TxsText.l0 k (x3 ++ [t279]) x6 x7 (wrap64 (x8 + 1))) else (none))) else (some (⟨#[]⟩ : ByteArray)))) else (none)) else (none)) else ((strings_Join.f x3 (⟨#[44]⟩ : ByteArray)).bind fun t275 => (some t275))
def impl_TxsText.f (k : Nat) (l0 : List (S44)) : Option (ByteArray) := impl_TxsText.l0 k ([] : List ByteArray) l0 (l0.length : Int) 0
theorem impl_TxsText.mono_l : ∀ k, (∀ y0 y1 y2 y3, LeO (impl_TxsText.l0 k y0 y1 y2 y3) (impl_TxsText.l0 (k + 1) y0 y1 y2 y3))
  | 0 => fun _ _ _ _ r h => by simp [impl_TxsText.l0] at h
  | k + 1 => by
    have ih0 := impl_TxsText.mono_l k
    · intro y0 y1 y2 y3
      unfold impl_TxsText.l0
      repeat' first
      | (with_reducible exact ih0 _ _ _ _)
      | (with_reducible exact LeO.refl _)
      | (with_reducible exact LeO.none _)
      | (with_reducible refine LeO.ite ?_ ?_)
      | (with_reducible refine LeO.bind ?_ (fun _ => ?_))
      | exact ih0 _ _ _ _
      | exact LeO.none _
      | refine LeO.ite ?_ ?_
      | refine LeO.bind ?_ (fun _ => ?_)
theorem impl_TxsText.mono : ∀ a0 k, LeO (impl_TxsText.f k a0) (impl_TxsText.f (k + 1) a0) := by
  intro a0 k
  have ih0 := impl_TxsText.mono_l k
  unfold impl_TxsText.f
  repeat' first
      | (with_reducible exact ih0 _ _ _ _)
      | (with_reducible exact LeO.refl _)
      | (with_reducible exact LeO.none _)
      | (with_reducible refine LeO.ite ?_ ?_)
      | (with_reducible refine LeO.bind ?_ (fun _ => ?_))
      | exact ih0 _ _ _ _
      | exact LeO.none _
      | refine LeO.ite ?_ ?_
      | refine LeO.bind ?_ (fun _ => ?_)
set_option maxHeartbeats 8000000 in
set_option maxRecDepth 100000 in
theorem impl_TxsText.calls (k : Nat) (A0 : Option Addr) (c0 : Nat) (l0 : List (S44)) (r : ByteArray) (w : World) (hr0 : Kd.C k44 w A0 l0.length l0) (hc0 : l0.length ≤ c0) (hL : LaidW w) (h : impl_TxsText.f k l0 = some r) :
    Calls Tryd.prog 48 #[.slice A0 l0.length c0] w fun e w' => e = .returned (.string r) ∧ Below w.heap.size w w' := by
  have hu44 := Tryd.underlying44
  have HR0 := Aside0.mk hr0
  have HC0 := Aside0.mk hc0
  clear hr0 hc0
  have HL0 := Aside0.mk hL
  clear hL
  have HB := Aside0.mk (Below.refl w.heap.size w)
  have H : (impl_TxsText.l0 k ([] : List ByteArray) l0 (l0.length : Int) 0) = some r := h
  clear h
  have H' := Aside0.mk H
  clear H
  go_enter Tryd.func48, Tryd.ntmps48
  go_wp2
  go_loopg [3, 8] k (fun kq v3 v8 w' => ∃ (x3_1 : List ByteArray) (x8_1 : Int), v8 = .int .i64 x8_1 ∧ Aside0 (impl_TxsText.l0 kq x3_1 l0 (l0.length : Int) x8_1 = some r) ∧ Aside0 (kq ≤ k) ∧ Aside0 (Kd.R Kd.string 9 w' w.heap.size (fun _ => True) v3 x3_1) ∧ Aside0 (Below w.heap.size w w'))
  case atStart => exact ⟨(([] : List ByteArray)), (0), (by first | rfl | (simp; done) | (simp [*]; done)), H', ⟨Nat.le_refl _⟩, ⟨by first | exact Kd.R_nil _ _ _ _ _ | exact Kd.N_nil _ _ _ _ _ | exact Kd.V_nil _ _ _ _ _ | exact Kd.Q_nil _ _ _ _ _ | exact Kd.S_nil _ _ _ _ _⟩, ⟨by repeat (first | (with_reducible first | exact HB.out | apply below_alloc | apply pw_below_drewN | apply below_drew1) | exact HB.out)⟩⟩
  case round =>
    clear H'
    obtain ⟨x3_1, x8_1, rfl, HA, HK1, HO_3, HB⟩ := hrel
    cases gk with
    | zero => exact absurd HA.out (by simp [impl_TxsText.l0])
    | succ k1 =>
      have H := HA.out
      clear HA
      simp only [impl_TxsText.l0] at H
      have HF := Aside0.mk H
      clear H
      go_upto_if 9 with (fail)
      have H := HF.out
      clear HF
      by_cases c2 : x8_1 < (l0.length : Int)
      · rw [if_pos c2] at H
        have c2b0 : decide (x8_1 < (l0.length : Int)) = true := decide_eq_true c2
        clear c2
        (first | rw [c2b0] | (simp only [i64_w, i32_w]; rw [c2b0]) | skip)
        by_cases c3 : 0 ≤ x8_1
        · rw [if_pos c3] at H
          have c3b0 : decide (0 ≤ x8_1) = true := decide_eq_true c3
          clear c3
          by_cases c4 : x8_1 < (l0.length : Int)
          · rw [if_pos c4] at H
            have c4b0 : decide (x8_1 < (l0.length : Int)) = true := decide_eq_true c4
            clear c4
            replace H := Option.bind_eq_some_iff.mp H
            obtain ⟨t278, A50, H⟩ := H
            replace H : (if t278 = true then ((impl_TxText.f ((rd_T44 l0 x8_1).f0) ((rd_T44 l0 x8_1).f1) ((rd_T44 l0 x8_1).f2) ((rd_T44 l0 x8_1).f3)).bind fun t279 => (if x3_1.length < 8796093022208 then (impl_TxsText.l0 k1 (x3_1 ++ [t279]) l0 (l0.length : Int) (wrap64 (x8_1 + 1))) else (none))) else (some (⟨#[]⟩ : ByteArray))) = some r := H
            have A5 := Aside0.mk A50
            clear A50
            have HF := Aside0.mk H
            clear H
            have p276 : 0 ≤ (x8_1 : Int) := of_decide_eq_true (by first | (with_reducible assumption) | assumption)
            have q276 : x8_1 < (l0.length : Int) := of_decide_eq_true (by first | (with_reducible assumption) | assumption)
            obtain ⟨ad276, e276, hx276_0, hx276_1, hx276_2, hx276_3⟩ := at_T44 HR0.out x8_1 p276 q276
            cases e276
            replace hx276_0 := (HB.out.cell (World.block_lt_of_cell? w _ hx276_0)).trans hx276_0
            replace hx276_1 := (HB.out.cell (World.block_lt_of_cell? w _ hx276_1)).trans hx276_1
            replace hx276_2 := (HB.out.cell (World.block_lt_of_cell? w _ hx276_2)).trans hx276_2
            replace hx276_3 := (HB.out.cell (World.block_lt_of_cell? w _ hx276_3)).trans hx276_3
            replace p276 := eq_true p276
            replace q276 := eq_true q276
            go_upto_if 14 with (go_big_may; first | ((with_reducible refine gate_dst (N := 5) rfl ?_); refine box_event ?hg (N := 5) ?hd (cs := #[.int .i64 0, .int .i64 0, .int .i64 0, .int .i64 0]) (t := 44) ?hr ?_; (case hd => rfl); (case hg => rfl); (case hr => first | (go_simp; done) | (go_simp; rfl)); intro gb277 hg w6 hbox hb; have n0_ := Aside0.mk (Kd.R_below (by (with_reducible repeat (first | apply Kd.R_alloc | apply Kd.R_drewN | apply Kd.R_drew)); exact HO_3.out) hb); have n1_ := Aside0.mk (below_step (by repeat (first | (with_reducible first | exact HB.out | apply below_alloc | apply pw_below_drewN | apply below_drew1) | exact HB.out)) hb); have n2_ := Aside0.mk (hbox); have n3_ := Aside0.mk ((by rw [hg]; exact (below_size (by repeat (first | (with_reducible first | exact HB.out | apply below_alloc | apply pw_below_drewN | apply below_drew1) | exact HB.out))) : w.heap.size ≤ gb277)); have n4_ := Aside0.mk ((by rw [hg]; exact (below_size (by repeat (first | (with_reducible first | exact HB.out | apply below_alloc | apply pw_below_drewN | apply below_drew1) | exact HB.out))) : w.heap.size ≤ gb277)); clear HO_3; clear HB; have HO_3 := n0_; have HB := n1_; have BK277 := n2_; have GW277 := n3_; have GE277 := n4_; clear n0_ n1_ n2_ n3_ n4_; clear hb hbox hg; have hcz7_0 : w6.cell? ⟨gb277, 0, none⟩ = some (.int .i64 0) := (blk_cell BK277.out 0).trans rfl; have hcz7_1 : w6.cell? ⟨gb277, 1, none⟩ = some (.int .i64 0) := (blk_cell BK277.out 1).trans rfl; have hcz7_2 : w6.cell? ⟨gb277, 2, none⟩ = some (.int .i64 0) := (blk_cell BK277.out 2).trans rfl; have hcz7_3 : w6.cell? ⟨gb277, 3, none⟩ = some (.int .i64 0) := (blk_cell BK277.out 3).trans rfl; have hfz7_0 := blk_frozen BK277.out 0; have hfz7_1 := blk_frozen BK277.out 1; have hfz7_2 := blk_frozen BK277.out 2; have hfz7_3 := blk_frozen BK277.out 3) | ((with_reducible refine gate_callee (f := 56) rfl ?_); refine goesL_ (some 13) rfl rfl Tryd.func56 (by kernel_rfl) rfl #[.agg #[.int .i64 ((rd_T44 l0 x8_1).f0), .int .i64 ((rd_T44 l0 x8_1).f1), .int .i64 ((rd_T44 l0 x8_1).f2), .int .i64 ((rd_T44 l0 x8_1).f3)]] rfl (by (try simp only [List.map_toArray, List.map_cons, List.map_nil]); first | done | rfl | (simp only [List.length_drop, List.length_take]; rfl)) ?_; (with_reducible refine (impl_TxOk.calls ((rd_T44 l0 x8_1).f0) ((rd_T44 l0 x8_1).f1) ((rd_T44 l0 x8_1).f2) ((rd_T44 l0 x8_1).f3) t278 _ A5.out).mono ?_); rintro e w8 ⟨rfl, hb⟩; refine ⟨_, rfl, ?_⟩; have n0_ := Aside0.mk (Kd.R_below (by (with_reducible repeat (first | apply Kd.R_alloc | apply Kd.R_drewN | apply Kd.R_drew)); exact (Kd.R_mono (Kd.R_far (p := ⟨gb277, 3, none⟩) (Kd.R_far (p := ⟨gb277, 2, none⟩) (Kd.R_far (p := ⟨gb277, 1, none⟩) (Kd.R_far (p := ⟨gb277, 0, none⟩) (Kd.R_types HO_3.out BK277.out (by decide)) (fun _ hk => hk.2) (.int .i64 ((rd_T44 l0 x8_1).f0))) (fun _ hk => hk.2) (.int .i64 ((rd_T44 l0 x8_1).f1))) (fun _ hk => hk.2) (.int .i64 ((rd_T44 l0 x8_1).f2))) (fun _ hk => hk.2) (.int .i64 ((rd_T44 l0 x8_1).f3))) (fun _ h_ => h_.1))) hb); have n1_ := Aside0.mk (blk_below (g := gb277) (o := .cells #[.int .i64 ((rd_T44 l0 x8_1).f0), .int .i64 ((rd_T44 l0 x8_1).f1), .int .i64 ((rd_T44 l0 x8_1).f2), .int .i64 ((rd_T44 l0 x8_1).f3)] 44 (0, 0)) (by (with_reducible repeat (first | refine blk_drewN ?_ _ | refine blk_drew ?_ | refine blk_alloc ?_ _)); refine blk_put (cs := #[.int .i64 ((rd_T44 l0 x8_1).f0), .int .i64 ((rd_T44 l0 x8_1).f1), .int .i64 ((rd_T44 l0 x8_1).f2), .int .i64 0]) ?_ 3 _ rfl; (with_reducible repeat (first | refine blk_drewN ?_ _ | refine blk_drew ?_ | refine blk_alloc ?_ _)); refine blk_put (cs := #[.int .i64 ((rd_T44 l0 x8_1).f0), .int .i64 ((rd_T44 l0 x8_1).f1), .int .i64 0, .int .i64 0]) ?_ 2 _ rfl; (with_reducible repeat (first | refine blk_drewN ?_ _ | refine blk_drew ?_ | refine blk_alloc ?_ _)); refine blk_put (cs := #[.int .i64 ((rd_T44 l0 x8_1).f0), .int .i64 0, .int .i64 0, .int .i64 0]) ?_ 1 _ rfl; (with_reducible repeat (first | refine blk_drewN ?_ _ | refine blk_drew ?_ | refine blk_alloc ?_ _)); refine blk_put (cs := #[.int .i64 0, .int .i64 0, .int .i64 0, .int .i64 0]) ?_ 0 _ rfl; (with_reducible repeat (first | refine blk_drewN ?_ _ | refine blk_drew ?_ | refine blk_alloc ?_ _)); exact BK277.out) hb); have n2_ := Aside0.mk (below_step (by repeat (first | (with_reducible first | exact HB.out | apply below_alloc | apply pw_below_drewN | apply below_drew1 | refine below_set ?_ GE277.out) | exact HB.out)) hb); clear HO_3; clear BK277; clear HB; have HO_3 := n0_; have BK277 := n1_; have HB := n2_; clear n0_ n1_ n2_; (try clear hb); (try clear hb2); (try clear hk); (try clear hi)))
            have H := HF.out
            clear HF
            by_cases c9 : t278 = true
            · subst c9
              have H1 : ((impl_TxText.f ((rd_T44 l0 x8_1).f0) ((rd_T44 l0 x8_1).f1) ((rd_T44 l0 x8_1).f2) ((rd_T44 l0 x8_1).f3)).bind fun t279 => (if x3_1.length < 8796093022208 then (impl_TxsText.l0 k1 (x3_1 ++ [t279]) l0 (l0.length : Int) (wrap64 (x8_1 + 1))) else (none))) = some r := by rw [if_pos rfl] at H; exact H
              clear H
              have H := H1
              clear H1
              replace H := Option.bind_eq_some_iff.mp H
              obtain ⟨t279, A100, H⟩ := H
              replace H : (if x3_1.length < 8796093022208 then (impl_TxsText.l0 k1 (x3_1 ++ [t279]) l0 (l0.length : Int) (wrap64 (x8_1 + 1))) else (none)) = some r := H
              have A10 := Aside0.mk A100
              clear A100
              by_cases c11 : x3_1.length < 8796093022208
              · rw [if_pos c11] at H
                have LMc11 := Aside0.mk c11
                clear c11
                obtain ⟨y280, hy280⟩ : ∃ y_ : List ByteArray, y_ = (x3_1 ++ [t279]) := ⟨_, rfl⟩
                replace H : (impl_TxsText.l0 k1 y280 l0 (l0.length : Int) (wrap64 (x8_1 + 1))) = some r := by first | (rw [hy280]; with_reducible exact H) | (have H2_ := (Option.bind_some _ _).symm.trans H; rw [hy280]; with_reducible exact H2_) | (have H2_ := (Option.bind_some _ _).symm.trans H; with_reducible exact H2_) | with_reducible exact H | (rw [hy280]; exact H) | exact H
                have Ny280 := Aside0.mk hy280
                clear hy280
                have H' := Aside0.mk H
                clear H
                have hcz12_0 : w8.cell? ⟨gb277, 0, none⟩ = some (.int .i64 ((rd_T44 l0 x8_1).f0)) := (blk_cell BK277.out 0).trans rfl
                have hcz12_1 : w8.cell? ⟨gb277, 1, none⟩ = some (.int .i64 ((rd_T44 l0 x8_1).f1)) := (blk_cell BK277.out 1).trans rfl
                have hcz12_2 : w8.cell? ⟨gb277, 2, none⟩ = some (.int .i64 ((rd_T44 l0 x8_1).f2)) := (blk_cell BK277.out 2).trans rfl
                have hcz12_3 : w8.cell? ⟨gb277, 3, none⟩ = some (.int .i64 ((rd_T44 l0 x8_1).f3)) := (blk_cell BK277.out 3).trans rfl
                have hfz12_0 := blk_frozen BK277.out 0
                have hfz12_1 := blk_frozen BK277.out 1
                have hfz12_2 := blk_frozen BK277.out 2
                have hfz12_3 := blk_frozen BK277.out 3
                go_wp2_with (first | ((with_reducible refine gate_callee (f := 43) rfl ?_); refine goesL_ (some 17) rfl rfl Tryd.func43 (by kernel_rfl) rfl #[.agg #[.int .i64 ((rd_T44 l0 x8_1).f0), .int .i64 ((rd_T44 l0 x8_1).f1), .int .i64 ((rd_T44 l0 x8_1).f2), .int .i64 ((rd_T44 l0 x8_1).f3)]] rfl (by (try simp only [List.map_toArray, List.map_cons, List.map_nil]); first | done | rfl | (simp only [List.length_drop, List.length_take]; rfl)) ?_; (with_reducible refine (impl_TxText.calls ((rd_T44 l0 x8_1).f0) ((rd_T44 l0 x8_1).f1) ((rd_T44 l0 x8_1).f2) ((rd_T44 l0 x8_1).f3) t279 _ ?side1 A10.out).mono ?_); (case side1 => exact LaidW.below HL0.out (by repeat (first | (with_reducible first | exact HB.out | apply below_alloc | apply pw_below_drewN | apply below_drew1 | refine below_set ?_ GE277.out) | exact HB.out))); rintro e w13 ⟨rfl, hb⟩; refine ⟨_, rfl, ?_⟩; have n0_ := Aside0.mk (Kd.R_below (by (with_reducible repeat (first | apply Kd.R_alloc | apply Kd.R_drewN | apply Kd.R_drew)); exact HO_3.out) hb); have n1_ := Aside0.mk (blk_below (g := gb277) (o := .cells #[.int .i64 ((rd_T44 l0 x8_1).f0), .int .i64 ((rd_T44 l0 x8_1).f1), .int .i64 ((rd_T44 l0 x8_1).f2), .int .i64 ((rd_T44 l0 x8_1).f3)] 44 (0, 0)) (by (with_reducible repeat (first | refine blk_drewN ?_ _ | refine blk_drew ?_ | refine blk_alloc ?_ _)); exact BK277.out) hb); have n2_ := Aside0.mk (below_step (by repeat (first | (with_reducible first | exact HB.out | apply below_alloc | apply pw_below_drewN | apply below_drew1 | refine below_set ?_ GE277.out) | exact HB.out)) hb); clear HO_3; clear BK277; clear HB; have HO_3 := n0_; have BK277 := n1_; have HB := n2_; clear n0_ n1_ n2_; (try clear hb); (try clear hb2); (try clear hk); (try clear hi)) | ((with_reducible refine gate_builtin (b := .append) (xs := #[.tmp 15, .tmp 18]) rfl ?_); at_builtin; refine Kd.R_append Kd.string (w0 := w) w.heap.size rfl (.tmp 15) (.tmp 18) 62 9 (.string ⟨#[]⟩) 16 rfl Tryd.underlying62 info9 rfl (by decide) (by omega) u3 x3_1 t279 [.string t279] (fun _ => True) (fun _ => False) rfl rfl ?aP (fun _ hk => hk.elim) ?aF ?aO ?aB ?aS ?aL ?_; (case aP => exact rfl); (case aB => exact (by repeat (first | (with_reducible first | exact HB.out | apply below_alloc | apply pw_below_drewN | apply below_drew1 | refine below_set ?_ GE277.out) | exact HB.out))); (case aF => exact (fun _ _ => trivial)); (case aO => exact (by (with_reducible repeat (first | apply Kd.R_alloc | apply Kd.R_drewN | apply Kd.R_drew)); exact HO_3.out)); (case aS => exact (below_size (by repeat (first | (with_reducible first | exact HB.out | apply below_alloc | apply pw_below_drewN | apply below_drew1 | refine below_set ?_ GE277.out) | exact HB.out)))); (case aL => have := LMc11.out; omega); intro v281 w14 ho hb hg hat; rw [← Ny280.out] at ho; have n0_ := Aside0.mk (blk_grown (g := gb277) (o := .cells #[.int .i64 ((rd_T44 l0 x8_1).f0), .int .i64 ((rd_T44 l0 x8_1).f1), .int .i64 ((rd_T44 l0 x8_1).f2), .int .i64 ((rd_T44 l0 x8_1).f3)] 44 (0, 0)) (by (with_reducible repeat (first | refine blk_drewN ?_ _ | refine blk_drew ?_ | refine blk_alloc ?_ _)); exact BK277.out) hg (Kd.R_ne HO_3.out BK277.out (by decide))); have n1_ := Aside0.mk (hb); have n2_ := Aside0.mk (ho); clear BK277; clear HB; clear HO_3; have BK277 := n0_; have HB := n1_; have HO282 := n2_; clear n0_ n1_ n2_; clear ho hb hg hat))
                go_roundg k1
                case measure => have := HK1.out; omega
                case rel => exact ⟨(y280), (wrap64 (x8_1 + 1)), (by first | rfl | (simp; done) | (simp [*]; done)), H', ⟨by have := HK1.out; omega⟩, ⟨by (with_reducible repeat (first | apply Kd.R_alloc | apply Kd.R_drewN | apply Kd.R_drew)); exact HO282.out⟩, ⟨by repeat (first | (with_reducible first | exact HB.out | apply below_alloc | apply pw_below_drewN | apply below_drew1 | refine below_set ?_ GE277.out) | exact HB.out)⟩⟩
              · rw [if_neg c11] at H
                exact absurd H (by simp)
            · replace c9 := Bool.eq_false_iff.mpr c9
              subst c9
              have H1 : (some (⟨#[]⟩ : ByteArray)) = some r := by rw [if_neg (show ¬ (false = true) by decide)] at H; exact H
              clear H
              have H := H1
              clear H1
              obtain rfl := Option.some.inj H
              go_wp2
              go_ret
              exact ⟨by first | rfl | (simp [errW_none, errW_some] <;> rfl) | (simp [*, errW_none, errW_some] <;> rfl), by repeat (first | (with_reducible first | exact HB.out | apply below_alloc | apply pw_below_drewN | apply below_drew1 | refine below_set ?_ GE277.out) | exact HB.out)⟩
          · rw [if_neg c4] at H
            exact absurd H (by simp)
        · rw [if_neg c3] at H
          exact absurd H (by simp)
      · rw [if_neg c2] at H
        have c2b0 : decide (x8_1 < (l0.length : Int)) = false := decide_eq_false c2
        clear c2
        (first | rw [c2b0] | (simp only [i64_w, i32_w]; rw [c2b0]) | skip)
        replace H := Option.bind_eq_some_iff.mp H
        obtain ⟨t275, A150, H⟩ := H
        replace H : (some t275) = some r := H
        have A15 := Aside0.mk A150
        clear A150
        obtain rfl := Option.some.inj H
        obtain ⟨Ao16, co16, eo16⟩ := Kd.R_slice HO_3.out
        subst eo16
        go_wp2_with (first | ((with_reducible refine gate_callee (f := 79) rfl ?_); refine goesL_ (some 22) rfl rfl Tryd.func79 (by kernel_rfl) rfl #[.slice Ao16 x3_1.length co16, .string (⟨#[44]⟩ : ByteArray)] rfl (by (try simp only [List.map_toArray, List.map_cons, List.map_nil]); first | done | rfl | (simp only [List.length_drop, List.length_take]; rfl)) ?_; (with_reducible refine (strings_Join.calls _ _ x3_1 (⟨#[44]⟩ : ByteArray) t275 _ ?side1 ?side2 ?side3 A15.out).mono ?_); (case side1 => repeat (first | exact (Kd.R_reads' HO_3.out).2.2 | (with_reducible refine Kd.C_alloc ?_ _) | (with_reducible refine Kd.C_drewN ?_ _) | (with_reducible refine Kd.C_drew ?_))); (case side2 => exact (Kd.R_reads' HO_3.out).2.1); (case side3 => exact LaidW.below HL0.out (by repeat (first | (with_reducible first | exact HB.out | apply below_alloc | apply pw_below_drewN | apply below_drew1) | exact HB.out))); rintro e w17 ⟨rfl, hb⟩; refine ⟨_, rfl, ?_⟩; have n0_ := Aside0.mk (Kd.R_below (by (with_reducible repeat (first | apply Kd.R_alloc | apply Kd.R_drewN | apply Kd.R_drew)); exact HO_3.out) hb); have n1_ := Aside0.mk (below_step (by repeat (first | (with_reducible first | exact HB.out | apply below_alloc | apply pw_below_drewN | apply below_drew1) | exact HB.out)) hb); clear HO_3; clear HB; have HO_3 := n0_; have HB := n1_; clear n0_ n1_; (try clear hb); (try clear hb2); (try clear hk); (try clear hi)))
        go_ret
        exact ⟨by first | rfl | (simp [errW_none, errW_some] <;> rfl) | (simp [*, errW_none, errW_some] <;> rfl), by repeat (first | (with_reducible first | exact HB.out | apply below_alloc | apply pw_below_drewN | apply below_drew1) | exact HB.out)⟩

end Go.Proofs.YtbecffgalndagaaDoor.PFnExactNameOf
