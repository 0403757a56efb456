/- Walks of the functions that a law of seat Ytppggjkffgjhkaa reaches, each against a Lean function, printed by this session's wip/myprint.py; no condition of their own. -/
import Derived.Test.YtppggjkffgjhkaaPFnExactSetJoinx0
import Derived.Test.YtppggjkffgjhkaaPFnExactSetJoinx1
namespace Go.Proofs.Ytppggjkffgjhkaa.PFnExactSetJoin
open Go.RowKit Go.Proofs.YtppggjkffgjhkaaW.PrintWords Go.Proofs.YtppggjkffgjhkaaW.PrintLast Go.Proofs.YtppggjkffgjhkaaW.PrintMore
attribute [local go_sem] max2_int min2_int max_two min_two max_three min_three max_four min_four   -- for this text's walks alone
set_option linter.unusedVariables false
set_option linter.unusedSimpArgs false

/-! ### spec_SetJoin: function 42 -/
mutual
def spec_SetJoin.l0 : Nat → List Int → List Int → List Int → Int → Option (List Int)
  | 0, _, _, _, _ => none
  | k + 1, x0, x1, x5, x6 => if x6 < (x0.length : Int) then (if 0 ≤ x6 then ((spec_SetAdd.f k x5 (rd x0 x6)).bind fun t151 => (spec_SetJoin.l0 k x0 x1 t151 (wrap64 (x6 + 1)))) else (none)) else (spec_SetJoin.l1 k x1 x5 0)
def spec_SetJoin.l1 : Nat → List Int → List Int → Int → Option (List Int)
  | 0, _, _, _ => none
  | k + 1, x1, x5, x7 => if x7 < (x1.length : Int) then (if 0 ≤ x7 then ((spec_SetAdd.f k x5 (rd x1 x7)).bind fun t155 => (spec_SetJoin.l1 k x1 t155 (wrap64 (x7 + 1)))) else (none)) else (some x5)
end
def spec_SetJoin.f (k : Nat) (l0 : List Int) (l1 : List Int) : Option (List Int) := spec_SetJoin.l0 k l0 l1 (([] : List Int)) 0
theorem spec_SetJoin.mono_l : ∀ k, (∀ y0 y1 y2 y3, LeO (spec_SetJoin.l0 k y0 y1 y2 y3) (spec_SetJoin.l0 (k + 1) y0 y1 y2 y3)) ∧ (∀ y0 y1 y2, LeO (spec_SetJoin.l1 k y0 y1 y2) (spec_SetJoin.l1 (k + 1) y0 y1 y2))
  | 0 => ⟨fun _ _ _ _ r h => by simp [spec_SetJoin.l0] at h, fun _ _ _ r h => by simp [spec_SetJoin.l1] at h⟩
  | k + 1 => by
    obtain ⟨ih0, ih1⟩ := spec_SetJoin.mono_l k
    refine ⟨?_, ?_⟩
    · intro y0 y1 y2 y3
      unfold spec_SetJoin.l0
      repeat' first
      | (with_reducible exact ih0 _ _ _ _)
      | (with_reducible exact ih1 _ _ _)
      | (with_reducible exact spec_SetAdd.mono _ _ _)
      | (with_reducible exact LeO.refl _)
      | (with_reducible exact LeO.none _)
      | (with_reducible refine LeO.ite ?_ ?_)
      | (with_reducible refine LeO.bind ?_ (fun _ => ?_))
      | exact ih0 _ _ _ _
      | exact ih1 _ _ _
      | exact spec_SetAdd.mono _ _ _
      | exact LeO.none _
      | refine LeO.ite ?_ ?_
      | refine LeO.bind ?_ (fun _ => ?_)
    · intro y0 y1 y2
      unfold spec_SetJoin.l1
      repeat' first
      | (with_reducible exact ih0 _ _ _ _)
      | (with_reducible exact ih1 _ _ _)
      | (with_reducible exact spec_SetAdd.mono _ _ _)
      | (with_reducible exact LeO.refl _)
      | (with_reducible exact LeO.none _)
      | (with_reducible refine LeO.ite ?_ ?_)
      | (with_reducible refine LeO.bind ?_ (fun _ => ?_))
      | exact ih0 _ _ _ _
      | exact ih1 _ _ _
      | exact spec_SetAdd.mono _ _ _
      | exact LeO.none _
      | refine LeO.ite ?_ ?_
      | refine LeO.bind ?_ (fun _ => ?_)
theorem spec_SetJoin.mono : ∀ a0 a1 k, LeO (spec_SetJoin.f k a0 a1) (spec_SetJoin.f (k + 1) a0 a1) := by
  intro a0 a1 k
  obtain ⟨ih0, ih1⟩ := spec_SetJoin.mono_l k
  unfold spec_SetJoin.f
  repeat' first
      | (with_reducible exact ih0 _ _ _ _)
      | (with_reducible exact ih1 _ _ _)
      | (with_reducible exact spec_SetAdd.mono _ _ _)
      | (with_reducible exact LeO.refl _)
      | (with_reducible exact LeO.none _)
      | (with_reducible refine LeO.ite ?_ ?_)
      | (with_reducible refine LeO.bind ?_ (fun _ => ?_))
      | exact ih0 _ _ _ _
      | exact ih1 _ _ _
      | exact spec_SetAdd.mono _ _ _
      | exact LeO.none _
      | refine LeO.ite ?_ ?_
      | refine LeO.bind ?_ (fun _ => ?_)
set_option maxHeartbeats 8000000 in
set_option maxRecDepth 100000 in
theorem spec_SetJoin.calls (k : Nat) (A0 : Option Addr) (c0 : Nat) (l0 : List Int) (A1 : Option Addr) (c1 : Nat) (l1 : List Int) (r : List Int) (w : World) (hr0 : Kd.C (Kd.int .i64) w A0 l0.length l0) (hc0 : l0.length ≤ c0) (hr1 : Kd.C (Kd.int .i64) w A1 l1.length l1) (hc1 : l1.length ≤ c1) (h : spec_SetJoin.f k l0 l1 = some r) :
    Calls Try.prog 42 #[.slice A0 l0.length c0, .slice A1 l1.length c1] w fun e w' => ∃ v0_ : Value, e = .returned (v0_) ∧ Kd.R (Kd.int .i64) 3 w' w.heap.size (fun _ => True) v0_ r ∧ Below w.heap.size w w' := by
  have HR0 := Aside0.mk hr0
  have HC0 := Aside0.mk hc0
  clear hr0 hc0
  have HR1 := Aside0.mk hr1
  have HC1 := Aside0.mk hc1
  clear hr1 hc1
  have HB := Aside0.mk (Below.refl w.heap.size w)
  have H : (spec_SetJoin.l0 k l0 l1 (([] : List Int)) 0) = some r := h
  clear h
  obtain ⟨y147, hy147⟩ : ∃ y_ : List Int, y_ = (([] : List Int)) := ⟨_, rfl⟩
  replace H : (spec_SetJoin.l0 k l0 l1 y147 0) = some r := by first | (rw [hy147]; with_reducible exact H) | (have H2_ := (Option.bind_some _ _).symm.trans H; rw [hy147]; with_reducible exact H2_) | (have H2_ := (Option.bind_some _ _).symm.trans H; with_reducible exact H2_) | with_reducible exact H | (rw [hy147]; exact H) | exact H
  have Ny147 := Aside0.mk hy147
  clear hy147
  have H' := Aside0.mk H
  clear H
  go_enter Try.func42, Try.ntmps42
  go_wp2_with (first | ((with_reducible refine gate_dst (N := 8) rfl ?_); refine Kd.R_lit (Kd.int .i64) _ 3 ?hg (N := 8) ?hd (xs := ([] : List Int)) (inner := []) (ok := fun _ => True) (okp := fun _ => True) ?hr ?hp (fun _ hk => hk) trivial (Below.refl _ _) (Nat.le_refl _) (by simp) ?_; (case hd => rfl); (case hg => rfl); (case hr => first | (go_simp; done) | (go_simp; rfl)); (case hp => exact (Reps.none _ _)); intro v148 w3 ho4 hb hg_ hnew_; clear hg_ hnew_; (first | rw [← Ny147.out] at ho4 | (simp only [Int.reduceToNat] at ho4; rw [← Ny147.out] at ho4)); have n0_ := Aside0.mk (Kd.R_lower ho4 (below_size (by repeat (first | (with_reducible first | exact HB.out | apply below_alloc | apply pw_below_drewN | apply below_drew1) | exact HB.out)))); have n1_ := Aside0.mk (below_step (by repeat (first | (with_reducible first | exact HB.out | apply below_alloc | apply pw_below_drewN | apply below_drew1) | exact HB.out)) hb); clear HB; have HO149 := n0_; have HB := n1_; clear n0_ n1_; clear hb ho4))
  go_loopg [5, 6] k (fun kq v5 v6 w' => ∃ (x5_1 : List Int) (x6_1 : Int), v6 = .int .i64 x6_1 ∧ Aside0 (spec_SetJoin.l0 kq l0 l1 x5_1 x6_1 = some r) ∧ Aside0 (kq ≤ k) ∧ Aside0 (Kd.R (Kd.int .i64) 3 w' w.heap.size (fun _ => True) v5 x5_1) ∧ Aside0 (Below w.heap.size w w'))
  case atStart => exact ⟨(y147), (0), (by first | rfl | (simp; done) | (simp [*]; done)), H', ⟨Nat.le_refl _⟩, ⟨by (with_reducible repeat (first | apply Kd.R_alloc | apply Kd.R_drewN | apply Kd.R_drew)); exact HO149.out⟩, ⟨by repeat (first | (with_reducible first | exact HB.out | apply below_alloc | apply pw_below_drewN | apply below_drew1) | exact HB.out)⟩⟩
  case round =>
    clear H'
    try clear c1
    try clear p2
    try clear c4
    obtain ⟨x5_1, x6_1, rfl, HA, HK1, HO_5, HB⟩ := hrel
    cases gk with
    | zero => exact absurd HA.out (by simp [spec_SetJoin.l0])
    | succ k1 =>
      have H := HA.out
      clear HA
      simp only [spec_SetJoin.l0] at H
      by_cases c5 : x6_1 < (l0.length : Int)
      · rw [if_pos c5] at H
        have c5b0 : decide (x6_1 < (l0.length : Int)) = true := decide_eq_true c5
        clear c5
        by_cases c6 : 0 ≤ x6_1
        · rw [if_pos c6] at H
          have c6b0 : decide (0 ≤ x6_1) = true := decide_eq_true c6
          clear c6
          replace H := Option.bind_eq_some_iff.mp H
          obtain ⟨t151, A70, H⟩ := H
          replace H : (spec_SetJoin.l0 k1 l0 l1 t151 (wrap64 (x6_1 + 1))) = some r := H
          have A7 := Aside0.mk A70
          clear A70
          have H' := Aside0.mk H
          clear H
          have p150 : 0 ≤ (x6_1 : Int) := of_decide_eq_true (by first | (with_reducible assumption) | assumption)
          have q150 : x6_1 < (l0.length : Int) := of_decide_eq_true (by first | (with_reducible assumption) | assumption)
          obtain ⟨ad150, e150, hx150_0⟩ := Kd.at_int HR0.out x6_1 p150 q150
          cases e150
          replace hx150_0 := (HB.out.cell (World.block_lt_of_cell? w _ hx150_0)).trans hx150_0
          replace p150 := eq_true p150
          replace q150 := eq_true q150
          obtain ⟨Ao8, co8, eo8⟩ := Kd.R_slice HO_5.out
          subst eo8
          go_wp2_with (first | ((with_reducible refine gate_callee (f := 38) rfl ?_); refine goesL_ (some 20) rfl rfl Try.func38 (by kernel_rfl) rfl #[.slice Ao8 x5_1.length co8, .int .i64 (rd l0 x6_1)] rfl (by (try simp only [List.map_toArray, List.map_cons, List.map_nil]); first | done | rfl | (simp only [List.length_drop, List.length_take]; rfl)) ?_; (with_reducible refine (spec_SetAdd.calls k1 _ _ x5_1 (rd l0 x6_1) t151 _ ?side1 ?side2 A7.out).mono ?_); (case side1 => repeat (first | exact (Kd.R_reads' HO_5.out).2.2 | (with_reducible refine Kd.C_alloc ?_ _) | (with_reducible refine Kd.C_drewN ?_ _) | (with_reducible refine Kd.C_drew ?_))); (case side2 => exact (Kd.R_reads' HO_5.out).2.1); rintro e w9 ⟨v152, rfl, ho0, hb⟩; refine ⟨_, rfl, ?_⟩; have n0_ := Aside0.mk (Kd.R_elder' (by (with_reducible repeat (first | apply Kd.R_alloc | apply Kd.R_drewN | apply Kd.R_drew)); exact HO_5.out) (Kd.R_base ho0) hb); have n1_ := Aside0.mk (Kd.R_lower (Kd.R_new' ho0 (Kd.R_lt (by (with_reducible repeat (first | apply Kd.R_alloc | apply Kd.R_drewN | apply Kd.R_drew)); exact HO_5.out))) (below_size (by repeat (first | (with_reducible first | exact HB.out | apply below_alloc | apply pw_below_drewN | apply below_drew1) | exact HB.out)))); have n2_ := Aside0.mk (below_step (by repeat (first | (with_reducible first | exact HB.out | apply below_alloc | apply pw_below_drewN | apply below_drew1) | exact HB.out)) hb); clear HO_5; clear HB; have HO_5 := n0_; have HO153 := n1_; have HB := n2_; clear n0_ n1_ n2_; (try clear hb); (try clear hb2); (try clear hk); (try clear hi); (try clear ho0)))
          go_roundg k1
          case measure => have := HK1.out; omega
          case rel => exact ⟨(t151), (wrap64 (x6_1 + 1)), (by first | rfl | (simp; done) | (simp [*]; done)), H', ⟨by have := HK1.out; omega⟩, ⟨by (with_reducible repeat (first | apply Kd.R_alloc | apply Kd.R_drewN | apply Kd.R_drew)); exact Kd.R_mono HO153.out (fun _ hk => trivial)⟩, ⟨by repeat (first | (with_reducible first | exact HB.out | apply below_alloc | apply pw_below_drewN | apply below_drew1) | exact HB.out)⟩⟩
        · rw [if_neg c6] at H
          exact absurd H (by simp)
      · rw [if_neg c5] at H
        have c5b0 : decide (x6_1 < (l0.length : Int)) = false := decide_eq_false c5
        clear c5
        have H' := Aside0.mk H
        clear H
        go_wp2
        go_loopg [5, 7] k1 (fun kq v5 v7 w' => ∃ (x5_2 : List Int) (x7_2 : Int), v7 = .int .i64 x7_2 ∧ Aside0 (spec_SetJoin.l1 kq l1 x5_2 x7_2 = some r) ∧ Aside0 (kq ≤ k1) ∧ Aside0 (Kd.R (Kd.int .i64) 3 w' w.heap.size (fun _ => True) v5 x5_2) ∧ Aside0 (Below w.heap.size w w'))
        case atStart => exact ⟨(x5_1), (0), (by first | rfl | (simp; done) | (simp [*]; done)), H', ⟨Nat.le_refl _⟩, ⟨by (with_reducible repeat (first | apply Kd.R_alloc | apply Kd.R_drewN | apply Kd.R_drew)); exact HO_5.out⟩, ⟨by repeat (first | (with_reducible first | exact HB.out | apply below_alloc | apply pw_below_drewN | apply below_drew1) | exact HB.out)⟩⟩
        case round =>
          clear H'
          try clear c1
          try clear p1
          try clear q1
          try clear hx1
          try clear p2
          try clear c3
          try clear c4
          try clear c5
          try clear c5b0
          try clear c6
          try clear c6b0
          try clear p6
          try clear hx150_0
          try clear p150
          try clear p2
          try clear q150
          obtain ⟨x5_2, x7_2, rfl, HA, HK2, HO_5, HB⟩ := hrel
          cases gk with
          | zero => exact absurd HA.out (by simp [spec_SetJoin.l1])
          | succ k2 =>
            have H := HA.out
            clear HA
            simp only [spec_SetJoin.l1] at H
            by_cases c10 : x7_2 < (l1.length : Int)
            · rw [if_pos c10] at H
              have c10b0 : decide (x7_2 < (l1.length : Int)) = true := decide_eq_true c10
              clear c10
              by_cases c11 : 0 ≤ x7_2
              · rw [if_pos c11] at H
                have c11b0 : decide (0 ≤ x7_2) = true := decide_eq_true c11
                clear c11
                replace H := Option.bind_eq_some_iff.mp H
                obtain ⟨t155, A120, H⟩ := H
                replace H : (spec_SetJoin.l1 k2 l1 t155 (wrap64 (x7_2 + 1))) = some r := H
                have A12 := Aside0.mk A120
                clear A120
                have H' := Aside0.mk H
                clear H
                have p154 : 0 ≤ (x7_2 : Int) := of_decide_eq_true (by first | (with_reducible assumption) | assumption)
                have q154 : x7_2 < (l1.length : Int) := of_decide_eq_true (by first | (with_reducible assumption) | assumption)
                obtain ⟨ad154, e154, hx154_0⟩ := Kd.at_int HR1.out x7_2 p154 q154
                cases e154
                replace hx154_0 := (HB.out.cell (World.block_lt_of_cell? w _ hx154_0)).trans hx154_0
                replace p154 := eq_true p154
                replace q154 := eq_true q154
                obtain ⟨Ao13, co13, eo13⟩ := Kd.R_slice HO_5.out
                subst eo13
                go_wp2_with (first | ((with_reducible refine gate_callee (f := 38) rfl ?_); refine goesL_ (some 32) rfl rfl Try.func38 (by kernel_rfl) rfl #[.slice Ao13 x5_2.length co13, .int .i64 (rd l1 x7_2)] rfl (by (try simp only [List.map_toArray, List.map_cons, List.map_nil]); first | done | rfl | (simp only [List.length_drop, List.length_take]; rfl)) ?_; (with_reducible refine (spec_SetAdd.calls k2 _ _ x5_2 (rd l1 x7_2) t155 _ ?side1 ?side2 A12.out).mono ?_); (case side1 => repeat (first | exact (Kd.R_reads' HO_5.out).2.2 | (with_reducible refine Kd.C_alloc ?_ _) | (with_reducible refine Kd.C_drewN ?_ _) | (with_reducible refine Kd.C_drew ?_))); (case side2 => exact (Kd.R_reads' HO_5.out).2.1); rintro e w14 ⟨v156, rfl, ho0, hb⟩; refine ⟨_, rfl, ?_⟩; have n0_ := Aside0.mk (Kd.R_elder' (by (with_reducible repeat (first | apply Kd.R_alloc | apply Kd.R_drewN | apply Kd.R_drew)); exact HO_5.out) (Kd.R_base ho0) hb); have n1_ := Aside0.mk (Kd.R_lower (Kd.R_new' ho0 (Kd.R_lt (by (with_reducible repeat (first | apply Kd.R_alloc | apply Kd.R_drewN | apply Kd.R_drew)); exact HO_5.out))) (below_size (by repeat (first | (with_reducible first | exact HB.out | apply below_alloc | apply pw_below_drewN | apply below_drew1) | exact HB.out)))); have n2_ := Aside0.mk (below_step (by repeat (first | (with_reducible first | exact HB.out | apply below_alloc | apply pw_below_drewN | apply below_drew1) | exact HB.out)) hb); clear HO_5; clear HB; have HO_5 := n0_; have HO157 := n1_; have HB := n2_; clear n0_ n1_ n2_; (try clear hb); (try clear hb2); (try clear hk); (try clear hi); (try clear ho0)))
                go_roundg k2
                case measure => have := HK1.out; have := HK2.out; omega
                case rel => exact ⟨(t155), (wrap64 (x7_2 + 1)), (by first | rfl | (simp; done) | (simp [*]; done)), H', ⟨by have := HK1.out; have := HK2.out; omega⟩, ⟨by (with_reducible repeat (first | apply Kd.R_alloc | apply Kd.R_drewN | apply Kd.R_drew)); exact Kd.R_mono HO157.out (fun _ hk => trivial)⟩, ⟨by repeat (first | (with_reducible first | exact HB.out | apply below_alloc | apply pw_below_drewN | apply below_drew1) | exact HB.out)⟩⟩
              · rw [if_neg c11] at H
                exact absurd H (by simp)
            · rw [if_neg c10] at H
              have c10b0 : decide (x7_2 < (l1.length : Int)) = false := decide_eq_false c10
              clear c10
              obtain rfl := Option.some.inj H
              go_wp2
              go_ret
              exact ⟨_, by first | rfl | (simp [errW_none, errW_some] <;> rfl) | (simp [*, errW_none, errW_some] <;> rfl), by (with_reducible repeat (first | apply Kd.R_alloc | apply Kd.R_drewN | apply Kd.R_drew)); exact HO_5.out, by repeat (first | (with_reducible first | exact HB.out | apply below_alloc | apply pw_below_drewN | apply below_drew1) | exact HB.out)⟩

/-! ### slices_Index_int_int: function 61 -/
def slices_Index_int_int.l0 : Nat → List Int → Int → Int → Int → Option (Int)
  | 0, _, _, _, _ => none
  | k + 1, x0, x1, x7, x8 => if x8 < x7 then (if 0 ≤ x8 then (if x8 < (x0.length : Int) then (if x1 = (rd x0 x8) then (some x8) else (slices_Index_int_int.l0 k x0 x1 x7 (wrap64 (x8 + 1)))) else (none)) else (none)) else (some (-1))
def slices_Index_int_int.f (k : Nat) (l0 : List Int) (a1 : Int) : Option (Int) := slices_Index_int_int.l0 k l0 a1 (l0.length : Int) 0
theorem slices_Index_int_int.mono_l : ∀ k, (∀ y0 y1 y2 y3, LeO (slices_Index_int_int.l0 k y0 y1 y2 y3) (slices_Index_int_int.l0 (k + 1) y0 y1 y2 y3))
  | 0 => fun _ _ _ _ r h => by simp [slices_Index_int_int.l0] at h
  | k + 1 => by
    have ih0 := slices_Index_int_int.mono_l k
    · intro y0 y1 y2 y3
      unfold slices_Index_int_int.l0
      repeat' first
      | (with_reducible exact ih0 _ _ _ _)
      | (with_reducible exact LeO.refl _)
      | (with_reducible exact LeO.none _)
      | (with_reducible refine LeO.ite ?_ ?_)
      | (with_reducible refine LeO.bind ?_ (fun _ => ?_))
      | exact ih0 _ _ _ _
      | exact LeO.none _
      | refine LeO.ite ?_ ?_
      | refine LeO.bind ?_ (fun _ => ?_)
theorem slices_Index_int_int.mono : ∀ a0 a1 k, LeO (slices_Index_int_int.f k a0 a1) (slices_Index_int_int.f (k + 1) a0 a1) := by
  intro a0 a1 k
  have ih0 := slices_Index_int_int.mono_l k
  unfold slices_Index_int_int.f
  repeat' first
      | (with_reducible exact ih0 _ _ _ _)
      | (with_reducible exact LeO.refl _)
      | (with_reducible exact LeO.none _)
      | (with_reducible refine LeO.ite ?_ ?_)
      | (with_reducible refine LeO.bind ?_ (fun _ => ?_))
      | exact ih0 _ _ _ _
      | exact LeO.none _
      | refine LeO.ite ?_ ?_
      | refine LeO.bind ?_ (fun _ => ?_)
set_option maxHeartbeats 8000000 in
set_option maxRecDepth 100000 in
theorem slices_Index_int_int.calls (k : Nat) (A0 : Option Addr) (c0 : Nat) (l0 : List Int) (a1 : Int) (r : Int) (w : World) (hr0 : Kd.C (Kd.int .i64) w A0 l0.length l0) (hc0 : l0.length ≤ c0) (h : slices_Index_int_int.f k l0 a1 = some r) :
    Calls Try.prog 61 #[.slice A0 l0.length c0, .int .i64 a1] w fun e w' => e = .returned (.int .i64 r) ∧ Drawn0 w w' := by
  have HR0 := Aside0.mk hr0
  have HC0 := Aside0.mk hc0
  clear hr0 hc0
  have H : (slices_Index_int_int.l0 k l0 a1 (l0.length : Int) 0) = some r := h
  clear h
  have H' := Aside0.mk H
  clear H
  go_enter Try.func61, Try.ntmps61
  go_wp2
  go_loopg [8] k (fun kq v8 w' => ∃ (x8_1 : Int), v8 = .int .i64 x8_1 ∧ Aside0 (slices_Index_int_int.l0 kq l0 a1 (l0.length : Int) x8_1 = some r) ∧ Aside0 (kq ≤ k) ∧ Drawn0 w w')
  case atStart => exact ⟨(0), (by first | rfl | (simp; done) | (simp [*]; done)), H', ⟨Nat.le_refl _⟩, by repeat (first | exact Drawn0.refl _ | apply Drawn0.step)⟩
  case round =>
    clear H'
    try clear p2
    obtain ⟨x8_1, rfl, HA, HK1, ⟨m1, rfl⟩⟩ := hrel
    cases gk with
    | zero => exact absurd HA.out (by simp [slices_Index_int_int.l0])
    | succ k1 =>
      have H := HA.out
      clear HA
      simp only [slices_Index_int_int.l0] at H
      by_cases c3 : x8_1 < (l0.length : Int)
      · rw [if_pos c3] at H
        have c3b0 : decide (x8_1 < (l0.length : Int)) = true := decide_eq_true c3
        clear c3
        by_cases c4 : 0 ≤ x8_1
        · rw [if_pos c4] at H
          have c4b0 : decide (0 ≤ x8_1) = true := decide_eq_true c4
          clear c4
          by_cases c5 : x8_1 < (l0.length : Int)
          · rw [if_pos c5] at H
            have c5b0 : decide (x8_1 < (l0.length : Int)) = true := decide_eq_true c5
            clear c5
            by_cases c6 : a1 = (rd l0 x8_1)
            · rw [if_pos c6] at H
              have c6b0 : (a1 == (rd l0 x8_1)) = true := beq_iff_eq.mpr c6
              have c6b1 : (a1 != (rd l0 x8_1)) = false := bne_eq_false_iff_eq.mpr c6
              clear c6
              obtain rfl := Option.some.inj H
              have p158 : 0 ≤ (x8_1 : Int) := of_decide_eq_true (by first | (with_reducible assumption) | assumption)
              have q158 : x8_1 < (l0.length : Int) := of_decide_eq_true (by first | (with_reducible assumption) | assumption)
              obtain ⟨ad158, e158, hx158_0⟩ := Kd.at_int HR0.out x8_1 p158 q158
              cases e158
              replace p158 := eq_true p158
              replace q158 := eq_true q158
              go_wp2
              go_ret
              exact ⟨by first | rfl | (simp; done) | (simp [*]; done), by repeat (first | exact Drawn0.refl _ | apply Drawn0.step)⟩
            · rw [if_neg c6] at H
              have c6b0 : (a1 == (rd l0 x8_1)) = false := beq_eq_false_iff_ne.mpr c6
              have c6b1 : (a1 != (rd l0 x8_1)) = true := bne_iff_ne.mpr c6
              have H' := Aside0.mk H
              clear H
              have p158 : 0 ≤ (x8_1 : Int) := of_decide_eq_true (by first | (with_reducible assumption) | assumption)
              have q158 : x8_1 < (l0.length : Int) := of_decide_eq_true (by first | (with_reducible assumption) | assumption)
              obtain ⟨ad158, e158, hx158_0⟩ := Kd.at_int HR0.out x8_1 p158 q158
              cases e158
              replace p158 := eq_true p158
              replace q158 := eq_true q158
              go_wp2
              go_roundg k1
              case measure => have := HK1.out; omega
              case rel => exact ⟨(wrap64 (x8_1 + 1)), (by first | rfl | (simp; done) | (simp [*]; done)), H', ⟨by have := HK1.out; omega⟩, by repeat (first | exact Drawn0.refl _ | apply Drawn0.step)⟩
          · rw [if_neg c5] at H
            exact absurd H (by simp)
        · rw [if_neg c4] at H
          exact absurd H (by simp)
      · rw [if_neg c3] at H
        have c3b0 : decide (x8_1 < (l0.length : Int)) = false := decide_eq_false c3
        clear c3
        obtain rfl := Option.some.inj H
        go_wp2
        go_ret
        exact ⟨by first | rfl | (simp; done) | (simp [*]; done), by repeat (first | exact Drawn0.refl _ | apply Drawn0.step)⟩

/-! ### slices_Contains_int_int: function 51 -/
def slices_Contains_int_int.f (k : Nat) (l0 : List Int) (a1 : Int) : Option (Bool) := (slices_Index_int_int.f k l0 a1).bind fun t159 => (some (decide (t159 ≥ 0)))
theorem slices_Contains_int_int.mono : ∀ a0 a1 k, LeO (slices_Contains_int_int.f k a0 a1) (slices_Contains_int_int.f (k + 1) a0 a1) := by
  intro a0 a1 k
  unfold slices_Contains_int_int.f
  repeat' first
      | (with_reducible exact slices_Index_int_int.mono _ _ _)
      | (with_reducible exact LeO.refl _)
      | (with_reducible exact LeO.none _)
      | (with_reducible refine LeO.ite ?_ ?_)
      | (with_reducible refine LeO.bind ?_ (fun _ => ?_))
      | exact slices_Index_int_int.mono _ _ _
      | exact LeO.none _
      | refine LeO.ite ?_ ?_
      | refine LeO.bind ?_ (fun _ => ?_)
set_option maxHeartbeats 8000000 in
set_option maxRecDepth 100000 in
theorem slices_Contains_int_int.calls (k : Nat) (A0 : Option Addr) (c0 : Nat) (l0 : List Int) (a1 : Int) (r : Bool) (w : World) (hr0 : Kd.C (Kd.int .i64) w A0 l0.length l0) (hc0 : l0.length ≤ c0) (h : slices_Contains_int_int.f k l0 a1 = some r) :
    Calls Try.prog 51 #[.slice A0 l0.length c0, .int .i64 a1] w fun e w' => e = .returned (.bool r) ∧ Drawn0 w w' := by
  have HR0 := Aside0.mk hr0
  have HC0 := Aside0.mk hc0
  clear hr0 hc0
  have H : ((slices_Index_int_int.f k l0 a1).bind fun t159 => (some (decide (t159 ≥ 0)))) = some r := h
  clear h
  replace H := Option.bind_eq_some_iff.mp H
  obtain ⟨t159, A30, H⟩ := H
  replace H : (some (decide (t159 ≥ 0))) = some r := H
  have A3 := Aside0.mk A30
  clear A30
  obtain rfl := Option.some.inj H
  go_enter Try.func51, Try.ntmps51
  go_wp2_with (first | ((with_reducible refine gate_callee (f := 61) rfl ?_); refine goesL_ (some 7) rfl rfl Try.func61 (by kernel_rfl) rfl #[.slice A0 l0.length c0, .int .i64 a1] rfl (by (try simp only [List.map_toArray, List.map_cons, List.map_nil]); first | done | rfl | (simp only [List.length_drop, List.length_take]; rfl)) ?_; (with_reducible refine (slices_Index_int_int.calls k _ _ l0 a1 t159 _ ?side1 ?side2 A3.out).mono ?_); (case side1 => repeat (first | exact HR0.out | (with_reducible refine Kd.C_alloc ?_ _) | (with_reducible refine Kd.C_drewN ?_ _) | (with_reducible refine Kd.C_drew ?_))); (case side2 => exact HC0.out); rintro e w' ⟨rfl, ⟨nd, rfl⟩⟩; refine ⟨_, rfl, ?_⟩))
  go_ret
  exact ⟨by first | rfl | (simp; done) | (simp [*]; done), by repeat (first | exact Drawn0.refl _ | apply Drawn0.step)⟩

/-! ### impl_SetHas: function 30 -/
def impl_SetHas.f (k : Nat) (l0 : List Int) (a1 : Int) : Option (Bool) := (slices_Contains_int_int.f k l0 a1).bind fun t160 => (some t160)
theorem impl_SetHas.mono : ∀ a0 a1 k, LeO (impl_SetHas.f k a0 a1) (impl_SetHas.f (k + 1) a0 a1) := by
  intro a0 a1 k
  unfold impl_SetHas.f
  repeat' first
      | (with_reducible exact slices_Contains_int_int.mono _ _ _)
      | (with_reducible exact LeO.refl _)
      | (with_reducible exact LeO.none _)
      | (with_reducible refine LeO.ite ?_ ?_)
      | (with_reducible refine LeO.bind ?_ (fun _ => ?_))
      | exact slices_Contains_int_int.mono _ _ _
      | exact LeO.none _
      | refine LeO.ite ?_ ?_
      | refine LeO.bind ?_ (fun _ => ?_)
set_option maxHeartbeats 8000000 in
set_option maxRecDepth 100000 in
theorem impl_SetHas.calls (k : Nat) (A0 : Option Addr) (c0 : Nat) (l0 : List Int) (a1 : Int) (r : Bool) (w : World) (hr0 : Kd.C (Kd.int .i64) w A0 l0.length l0) (hc0 : l0.length ≤ c0) (h : impl_SetHas.f k l0 a1 = some r) :
    Calls Try.prog 30 #[.slice A0 l0.length c0, .int .i64 a1] w fun e w' => e = .returned (.bool r) ∧ Drawn0 w w' := by
  have HR0 := Aside0.mk hr0
  have HC0 := Aside0.mk hc0
  clear hr0 hc0
  have H : ((slices_Contains_int_int.f k l0 a1).bind fun t160 => (some t160)) = some r := h
  clear h
  replace H := Option.bind_eq_some_iff.mp H
  obtain ⟨t160, A30, H⟩ := H
  replace H : (some t160) = some r := H
  have A3 := Aside0.mk A30
  clear A30
  obtain rfl := Option.some.inj H
  go_enter Try.func30, Try.ntmps30
  go_wp2_with (first | ((with_reducible refine gate_callee (f := 51) rfl ?_); refine goesL_ (some 7) rfl rfl Try.func51 (by kernel_rfl) rfl #[.slice A0 l0.length c0, .int .i64 a1] rfl (by (try simp only [List.map_toArray, List.map_cons, List.map_nil]); first | done | rfl | (simp only [List.length_drop, List.length_take]; rfl)) ?_; (with_reducible refine (slices_Contains_int_int.calls k _ _ l0 a1 t160 _ ?side1 ?side2 A3.out).mono ?_); (case side1 => repeat (first | exact HR0.out | (with_reducible refine Kd.C_alloc ?_ _) | (with_reducible refine Kd.C_drewN ?_ _) | (with_reducible refine Kd.C_drew ?_))); (case side2 => exact HC0.out); rintro e w' ⟨rfl, ⟨nd, rfl⟩⟩; refine ⟨_, rfl, ?_⟩))
  go_ret
  exact ⟨by first | rfl | (simp; done) | (simp [*]; done), by repeat (first | exact Drawn0.refl _ | apply Drawn0.step)⟩

/-! ### impl_copyInts: function 53 -/
def impl_copyInts.f (l0 : List Int) : Option (List Int) := if ([] : List Int).length + l0.length < 17592186044416 then (some (([] : List Int) ++ l0)) else (none)
set_option maxHeartbeats 8000000 in
set_option maxRecDepth 100000 in
theorem impl_copyInts.calls (A0 : Option Addr) (c0 : Nat) (l0 : List Int) (r : List Int) (w : World) (hr0 : Kd.C (Kd.int .i64) w A0 l0.length l0) (hc0 : l0.length ≤ c0) (h : impl_copyInts.f l0 = some r) :
    Calls Try.prog 53 #[.slice A0 l0.length c0] w fun e w' => ∃ v0_ : Value, e = .returned (v0_) ∧ Kd.R (Kd.int .i64) 3 w' w.heap.size (fun _ => True) v0_ r ∧ Below w.heap.size w w' := by
  have HR0 := Aside0.mk hr0
  have HC0 := Aside0.mk hc0
  clear hr0 hc0
  have HB := Aside0.mk (Below.refl w.heap.size w)
  have H : (if ([] : List Int).length + l0.length < 17592186044416 then (some (([] : List Int) ++ l0)) else (none)) = some r := h
  clear h
  by_cases c2 : ([] : List Int).length + l0.length < 17592186044416
  · rw [if_pos c2] at H
    have LMc2 := Aside0.mk c2
    clear c2
    obtain ⟨y161, hy161⟩ : ∃ y_ : List Int, y_ = (([] : List Int) ++ l0) := ⟨_, rfl⟩
    replace H : (some y161) = some r := by first | (rw [hy161]; with_reducible exact H) | (have H2_ := (Option.bind_some _ _).symm.trans H; rw [hy161]; with_reducible exact H2_) | (have H2_ := (Option.bind_some _ _).symm.trans H; with_reducible exact H2_) | with_reducible exact H | (rw [hy161]; exact H) | exact H
    have Ny161 := Aside0.mk hy161
    clear hy161
    obtain rfl := Option.some.inj H
    go_enter Try.func53, Try.ntmps53
    go_wp2_with (first | ((with_reducible refine gate_builtin (b := .append) (xs := #[.const (.slice none 0 0), .tmp 3]) rfl ?_); at_builtin; refine Kd.R_append_rows (Kd.int .i64) (w0 := w) w.heap.size rfl (.const (.slice none 0 0)) (.tmp 3) 36 3 (.int .i64 0) 8 rfl Try.underlying36 info3 rfl (by decide) (by omega) (.slice none 0 0) ([] : List Int) l0 _ _ _ (fun _ => True) (fun _ => False) rfl rfl ?aO ?aR (fun _ _ h => h) (fun _ h => h.elim) ?aF ?aB ?aS ?aL ?_; (case aR => repeat (first | exact HR0.out | (with_reducible refine Kd.C_alloc ?_ _) | (with_reducible refine Kd.C_drewN ?_ _) | (with_reducible refine Kd.C_drew ?_))); (case aB => exact (by repeat (first | (with_reducible first | exact HB.out | apply below_alloc | apply pw_below_drewN | apply below_drew1) | exact HB.out))); (case aF => exact (fun _ _ => trivial)); (case aO => exact ((Kd.R_nil _ _ _ _ (fun _ => True)))); (case aS => exact (below_size (by repeat (first | (with_reducible first | exact HB.out | apply below_alloc | apply pw_below_drewN | apply below_drew1) | exact HB.out)))); (case aL => have := LMc2.out; omega); intro v162 w3 ho hb hg hat; rw [← Ny161.out] at ho; have n0_ := Aside0.mk (hb); have n1_ := Aside0.mk (ho); clear HB; have HB := n0_; have HO163 := n1_; clear n0_ n1_; clear ho hb hg hat))
    go_ret
    exact ⟨_, by first | rfl | (simp [errW_none, errW_some] <;> rfl) | (simp [*, errW_none, errW_some] <;> rfl), by (with_reducible repeat (first | apply Kd.R_alloc | apply Kd.R_drewN | apply Kd.R_drew)); exact HO163.out, by repeat (first | (with_reducible first | exact HB.out | apply below_alloc | apply pw_below_drewN | apply below_drew1) | exact HB.out)⟩
  · rw [if_neg c2] at H
    exact absurd H (by simp)

/-! ### impl_SetAdd: function 39 -/
def laysIns_ren : Go.Shelf.Ren := ⟨fun | 21 => 56 | 27 => 62 | 28 => 63 | 35 => 66 | 39 => 68 | n => n, fun | 22 => 36 | 3 => 3 | 4 => 4 | 0 => 0 | n => n, fun | n => n⟩
theorem laysIns : Lays2.n21 Try.prog laysIns_ren := {
  mixed := by kernel_rfl
  f21 := Try.func56.trans (congrArg some (by kernel_rfl))
  f27 := Try.func62.trans (congrArg some (by kernel_rfl))
  f28 := Try.func63.trans (congrArg some (by kernel_rfl))
  f35 := Try.func66.trans (congrArg some (by kernel_rfl))
  f39 := Try.func68.trans (congrArg some (by kernel_rfl))
  t0 := Try.underlying0
  a0 := Try.isAgg0
  z0 := Try.sizeOf0
  v0 := Try.zeroValue0
  t3 := Try.underlying3
  a3 := Try.isAgg3
  z3 := Try.sizeOf3
  v3 := Try.zeroValue3
  t4 := Try.underlying4
  a4 := Try.isAgg4
  z4 := Try.sizeOf4
  v4 := Try.zeroValue4
  t22 := Try.underlying36
  a22 := Try.isAgg36
  z22 := Try.sizeOf36
  v22 := Try.zeroValue36
  i3 := by kernel_rfl }
def putL (cur : Array Value) : Nat → List Value → Array Value
  | _, [] => cur
  | o, v :: r => putL (cur.setIfInBounds o v) (o + 1) r
theorem putL_size : ∀ (vs : List Value) (cur : Array Value) (o : Nat), (putL cur o vs).size = cur.size
  | [], _, _ => rfl
  | v :: r, cur, o => by rw [putL, putL_size r]; simp
theorem putL_list : ∀ (vs : List Value) (cur : Array Value) (o : Nat), o + vs.length ≤ cur.size → (putL cur o vs).toList = cur.toList.take o ++ vs ++ cur.toList.drop (o + vs.length)
  | [], cur, o, h => by simp [putL]
  | v :: r, cur, o, h => by
    have h1 : o < cur.size := by simp at h; omega
    rw [putL, putL_list r _ _ (by simp at h ⊢; omega)]
    simp only [Array.toList_setIfInBounds, List.length_cons]
    have e1 : (cur.toList.set o v).take (o + 1) = cur.toList.take o ++ [v] := by
      rw [List.take_succ_eq_append_getElem (by simpa using h1)]
      simp [List.take_set_of_le]
    rw [e1, List.drop_set_of_lt (by omega), show o + 1 + r.length = o + (r.length + 1) by omega]
    simp
theorem heap_setCells_at (g : Nat) (t : TypeId) : ∀ (vs : List Value) (o : Nat) (w : World) (cur : Array Value), w.heap[g]? = some (.cells cur t (0, 0)) → (w.setCells g o vs).heap[g]? = some (.cells (putL cur o vs) t (0, 0))
  | [], _, _, _, h => h
  | v :: r, o, w, cur, h => by
    rw [World.setCells, putL]
    exact heap_setCells_at g t r (o + 1) _ _ (Go.Joins.block_setCell h v)
theorem below_setCells_at {B g : Nat} (hB : B ≤ g) : ∀ (vs : List Value) (o : Nat) (a w : World), Below B a w → Below B a (w.setCells g o vs)
  | [], _, _, _, h => h
  | v :: r, o, a, w, h => by
    rw [World.setCells]
    exact below_setCells_at hB r (o + 1) a _ (h.setCell (p := ⟨g, o, none⟩) hB v)
theorem nums_take (l : List Int) (i : Nat) : nums .i64 (l.take i) = (nums .i64 l).take i := by simp [nums]
theorem nums_drop (l : List Int) (i : Nat) : nums .i64 (l.drop i) = (nums .i64 l).drop i := by simp [nums]
theorem nums_one (l : List Int) : ∀ v ∈ nums .i64 l, v.oneCell' = true := by
  intro v hv
  obtain ⟨x, _, rfl⟩ := List.mem_map.1 hv
  rfl
theorem nums_ins (l : List Int) (x : Int) (i : Nat) : nums .i64 (l.take i ++ x :: l.drop i) = (nums .i64 l).take i ++ Value.int .i64 x :: (nums .i64 l).drop i := by simp [nums]
theorem heap_new (w : World) (o : Obj) : (w.drew.alloc o).heap[w.heap.size]? = some o := by
  show (w.heap.push o)[w.heap.size]? = _
  exact Array.getElem?_push_size
set_option maxHeartbeats 4000000 in
/-- slices.Insert(s, i, x) at ints, s a row of the caller's own, x in a fresh block: a row that holds the elements with x at place i; what lay below the base stays. -/
theorem insert_own (B : Nat) (W : World) (v : Value) (l : List Int) (x : Int) (i : Nat) (vb : Nat) (hown : W.ownsRow B 3 1 v l.length (nums .i64 l)) (hi : i ≤ l.length) (hvb : W.heap[vb]? = some (.cells #[.int .i64 x] 3 (0, 0)))
    (hne : v.ownBlock ≠ some vb) (hB : B ≤ W.heap.size) (hbig : l.length + 1 < 17592186044416) :
    Calls Try.prog 56 #[v, .int .i64 i, .slice (some ⟨vb, 0, none⟩) 1 1] W fun e w' => ∃ v', e = .returned v' ∧ w'.ownsRow B 3 1 v' (l.length + 1) (nums .i64 (l.take i ++ x :: l.drop i)) ∧ Below B W w' := by
  have hvlt : vb < W.heap.size := (Array.getElem?_eq_some_iff.1 hvb).1
  have hvs : ∀ j (u : Value), ([Value.int .i64 x] : List Value)[j]? = some u → W.cell? ⟨vb, 0 + j, none⟩ = some u := by
    intro j u hj
    rw [Go.Joins.cell_of_block hvb]
    rcases j with _ | j
    · simpa using hj
    · simp at hj
  have h1v : ∀ u ∈ [Value.int .i64 x], u.oneCell' = true := by
    intro u hu
    rw [List.mem_singleton] at hu
    subst hu; rfl
  have hnl : (nums .i64 l).length = l.length := nums_length _ _
  obtain ⟨hlen, hv⟩ := hown
  rcases hv with ⟨rfl, hn⟩ | ⟨g, cap, cur, rfl, hg, hh, hnc, hcm, hcs, htk⟩
  · -- nil
    obtain rfl : l = [] := List.eq_nil_of_length_eq_zero hn
    obtain rfl : i = 0 := by simpa using hi
    refine (Any2.slices_Insert_int_end_grow laysIns none 0 0 vb 0 1 1 [] [.int .i64 x] W (by omega) (by omega) (by omega) (by omega) rfl rfl (fun _ => rfl) (fun _ h => by cases h) hvs h1v).mono ?_
    rintro e w' ⟨rfl, rfl⟩
    have hge := grownCap_ge W 1 0 3
    have hle := grownCap_le_maxLen W 1 0 3 (by unfold maxLen; omega)
    refine ⟨_, rfl, ⟨by simp [nums], .inr ⟨_, _, _, rfl, hB, heap_new W _, hge, hle, ?_, ?_⟩⟩, ((Below.refl _ _).drew).alloc (by simpa using hB) _⟩
    · simp [Builtin.zeroCells, laysIns_ren, Value.cells]
      omega
    · simp [nums]
  · have hcl : ∀ j u, (nums .i64 l)[j]? = some u → W.cell? ⟨g, 0 + j, none⟩ = some u := by
      intro j u hj
      rw [Go.Joins.cell_of_block hh, Nat.zero_add]
      rw [← htk, Nat.mul_one] at hj
      have hjl : j < l.length := by
        have := (List.getElem?_eq_some_iff.1 hj).1
        rw [List.length_take] at this
        omega
      rw [List.getElem?_take_of_lt hjl] at hj
      simpa using hj
    have hsome : ∀ j, j < cap → (W.cell? ⟨g, 0 + j, none⟩).isSome = true := by
      intro j hj
      rw [Go.Joins.cell_of_block hh, Nat.zero_add]
      rw [Nat.mul_one] at hcs
      simp [hcs, hj]
    have hfz : ∀ j, W.frozen? ⟨g, j, none⟩ = false := fun j => Go.Joins.unfrozen_of_block hh j
    have hgv : vb ≠ g := by
      rintro rfl
      exact hne rfl
    have hcur : cur.toList.take l.length = nums .i64 l := by rw [Nat.mul_one] at htk; exact htk
    have hcsz : cur.size = cap := by rw [hcs, Nat.mul_one]
    have hl0 : (nums .i64 l).length = l.length := nums_length _ _
    unfold maxLen at hcm
    by_cases hin : i = l.length
    · subst hin
      by_cases hroom : l.length + 1 ≤ cap
      · refine (Any2.slices_Insert_int_end_room laysIns g 0 l.length cap vb 0 1 1 [.int .i64 x] W (by omega) hroom hcm rfl (fun j hj => by rw [show 0 + l.length + j = 0 + (l.length + j) by omega]; exact hsome _ (by omega)) (fun j hj => hfz _) hvs h1v).mono ?_
        rintro e w' ⟨rfl, rfl⟩
        refine ⟨_, rfl, ⟨by simp [nums], .inr ⟨g, cap, _, rfl, hg, heap_setCells_at g 3 _ _ _ _ hh, hroom, by unfold maxLen; omega, by rw [putL_size]; exact hcs, ?_⟩⟩, below_setCells_at hg _ _ _ _ (Below.refl _ _)⟩
        have t1 : (nums .i64 l).take l.length = nums .i64 l := List.take_of_length_le (by omega)
        have d1 : (nums .i64 l).drop l.length = [] := List.drop_of_length_le (by omega)
        rw [putL_list _ _ _ (by simp; omega), Nat.zero_add, Nat.mul_one, hcur, nums_ins, t1, d1]
        rw [List.take_append_of_le_length (by simp [hl0]), List.take_of_length_le (by simp [hl0])]
      · have hce : cap = l.length := by omega
        subst hce
        refine (Any2.slices_Insert_int_end_grow laysIns (some ⟨g, 0, none⟩) l.length l.length vb 0 1 1 (nums .i64 l) [.int .i64 x] W (by omega) (by omega) (by omega) (by omega) hl0 rfl (fun h => by cases h) (fun a h j u hj => by
          obtain rfl := Option.some.inj h
          have := hcl j u hj
          rw [add_plain]; simpa using this) hvs h1v).mono ?_
        rintro e w' ⟨rfl, rfl⟩
        have hge := grownCap_ge W (l.length + 1) l.length 3
        have hle := grownCap_le_maxLen W (l.length + 1) l.length 3 (by unfold maxLen; omega)
        refine ⟨_, rfl, ⟨by simp [nums], .inr ⟨_, _, _, rfl, hB, heap_new W _, hge, hle, ?_, ?_⟩⟩, ((Below.refl _ _).drew).alloc (by simpa using hB) _⟩
        · simp [Builtin.zeroCells, laysIns_ren, Value.cells, hl0]
          omega
        · have t1 : (nums .i64 l).take l.length = nums .i64 l := List.take_of_length_le (by omega)
          have d1 : (nums .i64 l).drop l.length = [] := List.drop_of_length_le (by omega)
          rw [nums_ins, t1, d1]
          simp
          rw [List.take_append, hl0, List.take_of_length_le (by omega)]
          simp
    · have hlt : i < l.length := by omega
      by_cases hroom : l.length + 1 ≤ cap
      · refine (Any2.slices_Insert_int_shift laysIns g 0 l.length cap i vb 0 1 1 (nums .i64 l) [.int .i64 x] W hlt (by omega) hroom hcm hgv hl0 rfl hcl (fun j hj => hsome j (by omega)) (fun j hj => hfz _) hvs (nums_one l) h1v
          3 3 1 cap (by simp [World.shape?, hvb]) (by simp [World.shape?, hh, hcsz]) (by omega) (Go.Joins.unfrozen_of_block hvb _) (Go.Joins.unfrozen_of_block hvb _)).mono ?_
        rintro e w' ⟨rfl, rfl⟩
        have hh' : W.drew.heap[g]? = some (.cells cur 3 (0, 0)) := hh
        refine ⟨_, rfl, ⟨by simp [nums]; omega, .inr ⟨g, cap, _, rfl, hg, heap_setCells_at g 3 _ _ _ _ (heap_setCells_at g 3 _ _ _ _ hh'), hroom, by unfold maxLen; omega, by rw [putL_size, putL_size]; exact hcs, ?_⟩⟩, below_setCells_at hg _ _ _ _ (below_setCells_at hg _ _ _ _ (Below.refl _ _).drew)⟩
        have hd : ((nums .i64 l).drop i).length = l.length - i := by rw [List.length_drop, hl0]
        rw [putL_list _ _ _ (by rw [putL_size]; simp; omega), putL_list _ _ _ (by rw [hd]; omega), Nat.mul_one, nums_ins]
        have e1 : cur.toList.take i = (nums .i64 l).take i := by rw [← hcur, List.take_take, Nat.min_eq_left (by omega)]
        have l1 : (cur.toList.take (0 + (i + 1))).length = i + 1 := by rw [List.length_take]; simp; omega
        have l2 : (cur.toList.take (0 + (i + 1)) ++ (nums .i64 l).drop i).length = l.length + 1 := by rw [List.length_append, l1, hd]; omega
        have e2 : ((cur.toList.take (0 + (i + 1)) ++ (nums .i64 l).drop i) ++ cur.toList.drop (0 + (i + 1) + ((nums .i64 l).drop i).length)).take (0 + i) = (nums .i64 l).take i := by
          rw [List.take_append_of_le_length (by rw [l2]; omega), List.take_append_of_le_length (by rw [l1]; omega), List.take_take, Nat.zero_add, Nat.zero_add, Nat.min_eq_left (by omega), e1]
        have e3 : (((cur.toList.take (0 + (i + 1)) ++ (nums .i64 l).drop i) ++ cur.toList.drop (0 + (i + 1) + ((nums .i64 l).drop i).length)).drop (0 + i + 1)).take (l.length - i) = (nums .i64 l).drop i := by
          rw [List.append_assoc, List.drop_append_of_le_length (by rw [l1]; omega), List.drop_of_length_le (by rw [l1]; omega), List.nil_append, List.take_append_of_le_length (by rw [hd]; omega), List.take_of_length_le (by rw [hd]; omega)]
        rw [e2]
        have l3 : ((nums .i64 l).take i).length = i := by rw [List.length_take, hl0]; omega
        rw [List.append_assoc, List.take_append, List.take_of_length_le (by rw [l3]; omega), l3]
        congr 1
        rw [show l.length + 1 - i = (l.length - i) + 1 by omega]
        simp only [List.singleton_append, List.take_succ_cons, List.length_singleton]
        rw [e3]
      · refine (Any2.slices_Insert_int_grow laysIns g 0 l.length cap i vb 0 1 1 (nums .i64 l) [.int .i64 x] W hlt (by omega) hnc (by omega) (by omega) hl0 rfl hcl hvs (nums_one l) h1v).mono ?_
        rintro e w' ⟨rfl, rfl⟩
        have hge := grownCap_ge W (l.length + 1) cap 3
        have hle := grownCap_le_maxLen W (l.length + 1) cap 3 (by unfold maxLen; omega)
        have hd : ((nums .i64 l).drop i).length = l.length - i := by rw [List.length_drop, hl0]
        have l3 : ((nums .i64 l).take i).length = i := by rw [List.length_take, hl0]; omega
        generalize hgc : grownCap W (l.length + 1) cap 3 = gc at hge hle
        have hz : ∀ q : Nat, (Builtin.zeroCells (Value.int .i64 0).cells q).size = q := by intro q; simp [Builtin.zeroCells, Value.cells]
        obtain ⟨z1, hz1⟩ : ∃ z1, z1 = Builtin.zeroCells (Value.int .i64 0).cells (l.length + 1 - i) := ⟨_, rfl⟩
        obtain ⟨z2, hz2⟩ : ∃ z2, z2 = Builtin.zeroCells (Value.int .i64 0).cells (gc - (l.length + 1)) := ⟨_, rfl⟩
        have s1 : z1.toList.length = l.length + 1 - i := by rw [hz1]; simp [hz]
        have s2 : z2.toList.length = gc - (l.length + 1) := by rw [hz2]; simp [hz]
        have hH : ∀ C : Array Value, ((W.alloc (.cells C 3 (0, 0))).drew).heap[W.heap.size]? = some (.cells C 3 (0, 0)) := fun C => by
          show (W.heap.push _)[W.heap.size]? = _
          exact Array.getElem?_push_size
        have hnew : ((nums .i64 l).take i).toArray.size = i := by simp [l3]
        refine ⟨_, rfl, ⟨by simp [nums]; omega, .inr ⟨W.heap.size, gc, _, by simp [laysIns_ren, hgc], hB, heap_setCells_at _ 3 _ _ _ _ (heap_setCells_at _ 3 _ _ _ _ (hH _)), hge, hle, ?_, ?_⟩⟩, below_setCells_at hB _ _ _ _ ((below_setCells_at hB _ _ _ _ ((Below.refl _ _).alloc hB _).drew).drew)⟩
        · rw [putL_size, putL_size]
          simp only [laysIns_ren, hgc, ← hz1, ← hz2, Array.size_append, hnew]
          simp only [← Array.length_toList, s1, s2]
          omega
        · have hN : (((nums .i64 l).take i).toArray ++ z1 ++ z2).toList = (nums .i64 l).take i ++ z1.toList ++ z2.toList := by simp
          simp only [laysIns_ren, hgc, ← hz1, ← hz2]
          rw [putL_list _ _ _ (by rw [putL_size]; simp only [Array.size_append, hnew]; simp only [← Array.length_toList, s1, s2, hd]; omega), putL_list _ _ _ (by simp only [Array.size_append, hnew]; simp only [← Array.length_toList, s1, s2, List.length_singleton]; omega), hN, Nat.mul_one, nums_ins]
          have a1 : ((nums .i64 l).take i ++ z1.toList ++ z2.toList).take i = (nums .i64 l).take i := by
            rw [List.append_assoc, List.take_append_of_le_length (by omega), List.take_of_length_le (by omega)]
          rw [a1]
          have a2 : (((nums .i64 l).take i ++ [Value.int .i64 x]) ++ ((nums .i64 l).take i ++ z1.toList ++ z2.toList).drop (i + [Value.int .i64 x].length)).take (i + 1) = (nums .i64 l).take i ++ [Value.int .i64 x] := by
            rw [List.take_append_of_le_length (by simp [l3]), List.take_of_length_le (by simp [l3])]
          rw [a2]
          rw [List.take_append_of_le_length (by simp [hl0]; omega), List.take_of_length_le (by simp [hl0]; omega)]
          simp
set_option maxHeartbeats 400000 in
theorem geq_call (a x : Int) (b : Nat) (W : World) (hb : W.cell? ⟨b, 0, none⟩ = some (.int .i64 a)) :
    Calls Try.prog 55 #[.int .i64 x, .pointer (some ⟨b, 0, none⟩)] W fun e w' => e = .returned (.bool (decide (a ≤ x))) ∧ w' = W := by
  go_enter Try.func55, Try.ntmps55
  go_wp2
  go_ret
  exact ⟨rfl, rfl⟩
theorem reads_at {w : World} {A : Option Addr} {l : List Int} (hr : Kd.C (Kd.int .i64) w A l.length l) (h0 : 0 < l.length) : ∃ ad, A = some ad ∧ ∀ j (hj : j < l.length), w.cell? (ad.add j) = some (.int .i64 l[j]) := by
  obtain ⟨_, _, h⟩ := Kd.reads_of_C (d := (0 : Int)) hr
  obtain ⟨ad, e, hc⟩ := h h0
  refine ⟨ad, e, fun j hj => ?_⟩
  have := hc j hj
  simpa [List.getD_eq_getElem?_getD, hj] using this
def firstGeq (l : List Int) (a : Int) : Nat := l.findIdx (fun x => decide (a ≤ x))
def retGeq (l : List Int) (a : Int) : Int := if firstGeq l a < l.length then (firstGeq l a : Int) else -1
theorem retGeq_hit (l : List Int) (a : Int) (j : Nat) (hj : j < l.length) (h : a ≤ l[j]) (hb : ∀ i (hi : i < j), ¬ a ≤ l[i]) : retGeq l a = (j : Int) := by
  have e : firstGeq l a = j := by
    unfold firstGeq
    rw [List.findIdx_eq hj]
    exact ⟨by simpa using h, fun i hi => by simpa using hb i hi⟩
  unfold retGeq
  rw [e, if_pos hj]
theorem retGeq_none (l : List Int) (a : Int) (hb : ∀ i (hi : i < l.length), ¬ a ≤ l[i]) : retGeq l a = -1 := by
  unfold retGeq firstGeq
  rw [if_neg]
  rw [List.findIdx_lt_length]
  rintro ⟨x, hx, hp⟩
  obtain ⟨i, hi, rfl⟩ := List.getElem_of_mem hx
  exact hb i hi (by simpa using hp)
set_option maxHeartbeats 1000000 in
theorem indexFunc_geq (A : Option Addr) (c : Nat) (l : List Int) (a : Int) (b : Nat) (w : World) (hr : Kd.C (Kd.int .i64) w A l.length l) (hl : l.length < 4611686018427387904) (hb : w.cell? ⟨b, 0, none⟩ = some (.int .i64 a)) :
    Calls Try.prog 54 #[.slice A l.length c, .func (.func 55) #[] #[.pointer (some ⟨b, 0, none⟩)]] w fun e w' => e = .returned (.int .i64 (retGeq l a)) ∧ w' = w := by
  obtain ⟨n, hn⟩ : ∃ n, n = l.length := ⟨_, rfl⟩
  have HN := Aside0.mk hn
  have HC : Aside0 (∀ i (hi : i < l.length), ∃ ad, A = some ad ∧ w.cell? (ad.add i) = some (.int .i64 l[i])) := ⟨fun i hi => by
    obtain ⟨ad, e, hc⟩ := reads_at hr (by omega)
    exact ⟨ad, e, hc i hi⟩⟩
  rw [← hn] at hl ⊢
  clear hr hn
  rcases A with _ | ad
  · go_enter Try.func54, Try.ntmps54
    go_wp2
    go_loop [5, 8] (fun _ s8 => ∃ kk : Nat, kk ≤ n ∧ s8 = .int .i64 kk) (fun _ s8 => n - (intOf s8).toNat)
    case atStart => exact ⟨0, by omega, rfl⟩
    case round =>
      obtain ⟨kk, hkk, rfl⟩ := hrel
      by_cases hlt : kk < n
      · obtain ⟨_, h, _⟩ := HC.out kk (by have := HN.out; omega)
        cases h
      · have HR := Aside0.mk (retGeq_none l a (fun i hi => by obtain ⟨_, h, _⟩ := HC.out i hi; cases h))
        go_wp2
        go_ret
        exact ⟨by rw [HR.out]; rfl, rfl⟩
  · go_enter Try.func54, Try.ntmps54
    go_wp2
    go_loop [5, 8] (fun _ s8 => ∃ kk : Nat, kk ≤ n ∧ s8 = .int .i64 kk ∧ Aside0 (∀ i (hi : i < kk) (h2 : i < l.length), l[i] < a)) (fun _ s8 => n - (intOf s8).toNat)
    case atStart => exact ⟨0, by omega, rfl, ⟨fun i hi => absurd hi (by omega)⟩⟩
    case round =>
      obtain ⟨kk, hkk, rfl, HB⟩ := hrel
      by_cases hlt : kk < n
      · have hlt2 : kk < l.length := by rw [← HN.out]; exact hlt
        have hcell : w.cell? (ad.add kk) = some (.int .i64 l[kk]) := by
          obtain ⟨ad', e, hc⟩ := HC.out kk hlt2
          obtain rfl := Option.some.inj e
          exact hc
        by_cases hge : a ≤ l[kk]
        · have hd : decide (a ≤ l[kk]) = true := decide_eq_true hge
          have HR := Aside0.mk (retGeq_hit l a kk hlt2 hge (fun i hi => by have := HB.out i hi (by omega); omega))
          generalize l[kk] = z at hcell hge hd
          clear hge
          have hk := geq_call a z b w hb
          rw [hd] at hk
          clear hd hlt2 HB
          have HK := Aside0.mk hk
          clear hk
          go_wp2_with fail
          (with_reducible refine HK.out.mono ?_)
          rintro e w' ⟨rfl, rfl⟩
          go_wp2_with fail
          go_ret
          exact ⟨by rw [HR.out]; rfl, rfl⟩
        · have hd : decide (a ≤ l[kk]) = false := decide_eq_false hge
          have HB2 : Aside0 (∀ i (hi : i < kk + 1) (h2 : i < l.length), l[i] < a) := ⟨fun i hi h2 => by
            rcases Nat.lt_or_ge i kk with h | h
            · exact HB.out i h h2
            · obtain rfl : i = kk := by omega
              omega⟩
          generalize l[kk] = z at hcell hge hd
          clear hge
          have hk := geq_call a z b w hb
          rw [hd] at hk
          clear hd hlt2 HB
          have HK := Aside0.mk hk
          clear hk
          go_wp2_with fail
          (with_reducible refine HK.out.mono ?_)
          rintro e w' ⟨rfl, rfl⟩
          go_wp2_with fail
          go_round
          case rel => exact ⟨kk + 1, by omega, by go_num, HB2⟩
          case measure => simp [intOf]; omega
      · have HR := Aside0.mk (retGeq_none l a (fun i hi => by have := HB.out i (by have := HN.out; omega) hi; omega))
        go_wp2
        go_ret
        exact ⟨by rw [HR.out]; rfl, rfl⟩
theorem heap_new0 (w : World) (o : Obj) : (w.alloc o).heap[w.heap.size]? = some o := by
  show (w.heap.push o)[w.heap.size]? = _
  exact Array.getElem?_push_size
theorem heap_new2 (w : World) (o o' : Obj) (nd : Nat) : (((w.alloc o).drewN (nd + 1)).alloc o').heap[w.heap.size + 1]? = some o' := by
  have e : w.heap.size + 1 = ((w.alloc o).drewN (nd + 1)).heap.size := by simp
  rw [e]; exact heap_new0 _ _
theorem below_alloc' {w W : World} {B : Nat} (h : Below B w W) (hB : B ≤ W.heap.size) (o : Obj) : Below B w (W.alloc o) := h.alloc hB o
theorem own_far {w : World} {B g : Nat} {ok : Nat → Prop} {v : Value} {l : List Int} (h : Kd.R (Kd.int .i64) 3 w B ok v l) (hg : g < B) : v.ownBlock ≠ some g := by
  intro e
  have := own_base (Kd.own_of_R h) _ e
  omega
theorem own_new {w : World} {B : Nat} {ok : Nat → Prop} {v : Value} {l : List Int} (h : Kd.R (Kd.int .i64) 3 w B ok v l) : v.ownBlock ≠ some w.heap.size := by
  intro e
  have := own_lt (Kd.own_of_R h) _ e
  omega
def impl_SetAdd.f (k : Nat) (l0 : List Int) (a1 : Int) : Option (List Int) := (impl_SetHas.f k l0 a1).bind fun t => if t = true then impl_copyInts.f l0 else if l0.length + 1 < 17592186044416 then some (l0.take (firstGeq l0 a1) ++ a1 :: l0.drop (firstGeq l0 a1)) else none
theorem impl_SetAdd.mono : ∀ a0 a1 k, LeO (impl_SetAdd.f k a0 a1) (impl_SetAdd.f (k + 1) a0 a1) := fun a0 a1 k => LeO.bind (impl_SetHas.mono a0 a1 k) (fun _ => LeO.refl _)
set_option maxHeartbeats 8000000 in
set_option maxRecDepth 100000 in
theorem impl_SetAdd.calls (k : Nat) (A0 : Option Addr) (c0 : Nat) (l0 : List Int) (a1 : Int) (r : List Int) (w : World) (hr0 : Kd.C (Kd.int .i64) w A0 l0.length l0) (hc0 : l0.length ≤ c0) (h : impl_SetAdd.f k l0 a1 = some r) :
    Calls Try.prog 39 #[.slice A0 l0.length c0, .int .i64 a1] w fun e w' => ∃ v0_ : Value, e = .returned v0_ ∧ Kd.R (Kd.int .i64) 3 w' w.heap.size (fun _ => True) v0_ r ∧ Below w.heap.size w w' := by
  unfold impl_SetAdd.f at h
  obtain ⟨t, hA, h⟩ := Option.bind_eq_some_iff.mp h
  have HA := Aside0.mk hA
  have HR := Aside0.mk hr0
  have HC := Aside0.mk hc0
  clear hA hr0 hc0
  cases t with
  | true =>
    rw [if_pos rfl] at h
    have H := Aside0.mk h
    clear h
    go_enter Try.func39, Try.ntmps39
    go_wp2_with fail
    (with_reducible refine (impl_SetHas.calls k A0 c0 l0 a1 true _ (Kd.C_alloc HR.out _) HC.out HA.out).mono ?_)
    rintro e w' ⟨rfl, ⟨nd, rfl⟩⟩
    go_wp2_with fail
    (with_reducible refine (impl_copyInts.calls A0 c0 l0 r _ (Kd.C_drewN (Kd.C_alloc HR.out _) _) HC.out H.out).mono ?_)
    rintro e w2 ⟨v0, rfl, hR, hb⟩
    go_wp2_with fail
    go_ret
    exact ⟨v0, rfl, Kd.R_lower hR (by simp), below_then (pw_below_drewN (below_alloc (Below.refl _ _) _) _) (by simp) hb⟩
  | false =>
    rw [if_neg (by decide)] at h
    by_cases hl : l0.length + 1 < 17592186044416
    · rw [if_pos hl] at h
      have H := Aside0.mk (Option.some.inj h)
      clear h
      go_enter Try.func39, Try.ntmps39
      go_wp2_with fail
      (with_reducible refine (impl_SetHas.calls k A0 c0 l0 a1 false _ (Kd.C_alloc HR.out _) HC.out HA.out).mono ?_)
      rintro e w' ⟨rfl, ⟨nd, rfl⟩⟩
      go_wp2_with fail
      have hI := fun W hr hb => indexFunc_geq A0 c0 l0 a1 w.heap.size W hr (by omega) hb
      have HI := Aside0.mk hI
      clear hI
      (with_reducible refine (HI.out _ (Kd.C_drewN (Kd.C_alloc HR.out _) _) ?cell).mono ?_)
      case cell => simp
      rintro e w' ⟨rfl, rfl⟩
      by_cases hf : firstGeq l0 a1 < l0.length
      · have hret : retGeq l0 a1 = (firstGeq l0 a1 : Int) := by unfold retGeq; rw [if_pos hf]
        rw [hret]
        clear hret
        generalize hfg : firstGeq l0 a1 = fg at hf H ⊢
        have HF := Aside0.mk hfg
        clear hfg
        go_wp2_with fail
        have hcp : impl_copyInts.f l0 = some l0 := by unfold impl_copyInts.f; rw [if_pos (by simp; omega)]; simp
        have HCP := Aside0.mk hcp
        clear hcp
        go_region_with (first | (go_at_call 53; (with_reducible refine (impl_copyInts.calls A0 c0 l0 l0 _ (Kd.C_drewN (Kd.C_alloc HR.out _) _) HC.out HCP.out).mono ?_); rintro e w2 ⟨v0, rfl, hR, hb⟩; have hb0 : Below w.heap.size w w2 := below_then (pw_below_drewN (below_alloc (Below.refl _ _) _) _) (by simp) hb; have hc2 : w2.cell? ⟨w.heap.size, 0, none⟩ = some (.int .i64 a1) := (hb.cell (p := ⟨w.heap.size, 0, none⟩) (by simp)).trans (by simp)) | (go_at_call 53; (with_reducible refine (impl_copyInts.calls A0 c0 l0 l0 _ (Kd.C_alloc (Kd.C_drewN (Kd.C_alloc HR.out _) _) _) HC.out HCP.out).mono ?_); rintro e w2 ⟨v0, rfl, hR2, hb2⟩; have hb0 : Below w.heap.size w w2 := below_then (below_alloc' (pw_below_drewN (below_alloc (Below.refl _ _) _) _) (by simp <;> omega) _) (by simp <;> omega) hb2; have hv2 : w2.heap[w.heap.size + 1]? = some (.cells #[.int .i64 a1] 3 (0, 0)) := (hb2.block _ (by simp)).trans (heap_new2 w _ _ nd)) | (go_at_call 56; (refine (insert_own w.heap.size (w2.alloc _) v0 l0 a1 fg w2.heap.size (own_less (own_alloc (Kd.own_of_R hR) _) (by simp)) (by omega) (heap_new0 w2 _) (own_new hR) (by have := hb.size; simp at this ⊢; omega) hl).mono ?_); rintro e w3 ⟨v1, rfl, ho, hb3⟩; have hb4 : Below w.heap.size w w3 := hb0.trans (((Below.refl _ _).alloc hb0.size _).trans hb3)) | (go_at_call 56; (refine (insert_own w.heap.size w2 v0 l0 a1 fg (w.heap.size + 1) (own_less (Kd.own_of_R hR2) (by simp <;> omega)) (by omega) hv2 (own_far hR2 (by simp)) (by have := hb2.size; simp at this ⊢; omega) hl).mono ?_); rintro e w3 ⟨v1, rfl, ho, hb3⟩; have hb4 : Below w.heap.size w w3 := hb0.trans hb3))
        all_goals
          go_wp2_with fail
          go_ret
          refine ⟨v1, rfl, Kd.R_of_own ?_ (fun _ _ => trivial), by first | exact hb4 | exact hb4.drew⟩
          rw [← H.out, show (List.take fg l0 ++ a1 :: List.drop fg l0).length = l0.length + 1 by simp <;> omega]
          exact ho
      · have hret : retGeq l0 a1 = -1 := by unfold retGeq; rw [if_neg hf]
        have hfl : firstGeq l0 a1 = l0.length := by
          have : firstGeq l0 a1 ≤ l0.length := List.findIdx_le_length
          omega
        rw [hret]
        rw [hfl] at H
        clear hret hfl hf
        go_wp2_with fail
        have hcp : impl_copyInts.f l0 = some l0 := by unfold impl_copyInts.f; rw [if_pos (by simp; omega)]; simp
        have HCP := Aside0.mk hcp
        clear hcp
        go_region_with (first | (go_at_call 53; (with_reducible refine (impl_copyInts.calls A0 c0 l0 l0 _ (Kd.C_drewN (Kd.C_alloc HR.out _) _) HC.out HCP.out).mono ?_); rintro e w2 ⟨v0, rfl, hR, hb⟩; have hb0 : Below w.heap.size w w2 := below_then (pw_below_drewN (below_alloc (Below.refl _ _) _) _) (by simp) hb; have hc2 : w2.cell? ⟨w.heap.size, 0, none⟩ = some (.int .i64 a1) := (hb.cell (p := ⟨w.heap.size, 0, none⟩) (by simp)).trans (by simp)) | (go_at_call 53; (with_reducible refine (impl_copyInts.calls A0 c0 l0 l0 _ (Kd.C_alloc (Kd.C_drewN (Kd.C_alloc HR.out _) _) _) HC.out HCP.out).mono ?_); rintro e w2 ⟨v0, rfl, hR2, hb2⟩; have hb0 : Below w.heap.size w w2 := below_then (below_alloc' (pw_below_drewN (below_alloc (Below.refl _ _) _) _) (by simp <;> omega) _) (by simp <;> omega) hb2; have hv2 : w2.heap[w.heap.size + 1]? = some (.cells #[.int .i64 a1] 3 (0, 0)) := (hb2.block _ (by simp)).trans (heap_new2 w _ _ nd)) | (go_at_call 56; (refine (insert_own w.heap.size (w2.alloc _) v0 l0 a1 l0.length w2.heap.size (own_less (own_alloc (Kd.own_of_R hR) _) (by simp)) (by omega) (heap_new0 w2 _) (own_new hR) (by have := hb.size; simp at this ⊢; omega) hl).mono ?_); rintro e w3 ⟨v1, rfl, ho, hb3⟩; have hb4 : Below w.heap.size w w3 := hb0.trans (((Below.refl _ _).alloc hb0.size _).trans hb3)) | (go_at_call 56; (refine (insert_own w.heap.size w2 v0 l0 a1 l0.length (w.heap.size + 1) (own_less (Kd.own_of_R hR2) (by simp <;> omega)) (by omega) hv2 (own_far hR2 (by simp)) (by have := hb2.size; simp at this ⊢; omega) hl).mono ?_); rintro e w3 ⟨v1, rfl, ho, hb3⟩; have hb4 : Below w.heap.size w w3 := hb0.trans hb3))
        all_goals
          go_wp2_with fail
          go_ret
          refine ⟨v1, rfl, Kd.R_of_own ?_ (fun _ _ => trivial), by first | exact hb4 | exact hb4.drew⟩
          rw [← H.out, show (List.take l0.length l0 ++ a1 :: List.drop l0.length l0).length = l0.length + 1 by simp <;> omega]
          exact ho
    · rw [if_neg hl] at h; cases h

end Go.Proofs.Ytppggjkffgjhkaa.PFnExactSetJoin
