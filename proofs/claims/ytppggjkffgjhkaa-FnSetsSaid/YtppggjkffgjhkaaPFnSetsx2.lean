/- Walks of the functions that a law of seat Ytppggjkffgjhkaa reaches, each against a Lean function, printed by this session's wip/myprint.py; no condition of their own. -/
import Derived.Test.YtppggjkffgjhkaaPFnSetsx0
import Derived.Test.YtppggjkffgjhkaaPFnSetsx1
namespace Go.Proofs.Ytppggjkffgjhkaa.PFnSets
open Go.RowKit Go.Proofs.YtppggjkffgjhkaaW.PrintWords Go.Proofs.YtppggjkffgjhkaaW.PrintLast Go.Proofs.YtppggjkffgjhkaaW.PrintMore
attribute [local go_sem] max2_int min2_int max_two min_two max_three min_three max_four min_four   -- for this text's walks alone
set_option linter.unusedVariables false
set_option linter.unusedSimpArgs false

/-! ### impl_Common: function 37 -/
def impl_Common.l0 : Nat → List Int → Int → List Int → Int → Int → Option (Int)
  | 0, _, _, _, _, _ => none
  | k + 1, x1, x5, x8, x9, x10 => if x10 < x9 then (if 0 ≤ x10 then (if x10 < (x8.length : Int) then ((impl_SetHas.f k x1 (rd x8 x10)).bind fun t115 => (if t115 = true then (impl_Common.l0 k x1 (wrap64 (x5 + 1)) x8 x9 (wrap64 (x10 + 1))) else (impl_Common.l0 k x1 x5 x8 x9 (wrap64 (x10 + 1))))) else (none)) else (none)) else (some x5)
def impl_Common.f (k : Nat) (l0 : List Int) (l1 : List Int) : Option (Int) := impl_Common.l0 k l1 0 l0 (l0.length : Int) 0
theorem impl_Common.mono_l : ∀ k, (∀ y0 y1 y2 y3 y4, LeO (impl_Common.l0 k y0 y1 y2 y3 y4) (impl_Common.l0 (k + 1) y0 y1 y2 y3 y4))
  | 0 => fun _ _ _ _ _ r h => by simp [impl_Common.l0] at h
  | k + 1 => by
    have ih0 := impl_Common.mono_l k
    · intro y0 y1 y2 y3 y4
      unfold impl_Common.l0
      repeat' first
      | (with_reducible exact ih0 _ _ _ _ _)
      | (with_reducible exact impl_SetHas.mono _ _ _)
      | (with_reducible exact LeO.refl _)
      | (with_reducible exact LeO.none _)
      | (with_reducible refine LeO.ite ?_ ?_)
      | (with_reducible refine LeO.bind ?_ (fun _ => ?_))
      | exact ih0 _ _ _ _ _
      | exact impl_SetHas.mono _ _ _
      | exact LeO.none _
      | refine LeO.ite ?_ ?_
      | refine LeO.bind ?_ (fun _ => ?_)
theorem impl_Common.mono : ∀ a0 a1 k, LeO (impl_Common.f k a0 a1) (impl_Common.f (k + 1) a0 a1) := by
  intro a0 a1 k
  have ih0 := impl_Common.mono_l k
  unfold impl_Common.f
  repeat' first
      | (with_reducible exact ih0 _ _ _ _ _)
      | (with_reducible exact impl_SetHas.mono _ _ _)
      | (with_reducible exact LeO.refl _)
      | (with_reducible exact LeO.none _)
      | (with_reducible refine LeO.ite ?_ ?_)
      | (with_reducible refine LeO.bind ?_ (fun _ => ?_))
      | exact ih0 _ _ _ _ _
      | exact impl_SetHas.mono _ _ _
      | exact LeO.none _
      | refine LeO.ite ?_ ?_
      | refine LeO.bind ?_ (fun _ => ?_)
set_option maxHeartbeats 8000000 in
set_option maxRecDepth 100000 in
theorem impl_Common.calls (k : Nat) (A0 : Option Addr) (c0 : Nat) (l0 : List Int) (A1 : Option Addr) (c1 : Nat) (l1 : List Int) (r : Int) (w : World) (hr0 : Kd.C (Kd.int .i64) w A0 l0.length l0) (hc0 : l0.length ≤ c0) (hr1 : Kd.C (Kd.int .i64) w A1 l1.length l1) (hc1 : l1.length ≤ c1) (h : impl_Common.f k l0 l1 = some r) :
    Calls Try.prog 37 #[.slice A0 l0.length c0, .slice A1 l1.length c1] w fun e w' => e = .returned (.int .i64 r) ∧ Drawn0 w w' := by
  have HR0 := Aside0.mk hr0
  have HC0 := Aside0.mk hc0
  clear hr0 hc0
  have HR1 := Aside0.mk hr1
  have HC1 := Aside0.mk hc1
  clear hr1 hc1
  have H : (impl_Common.l0 k l1 0 l0 (l0.length : Int) 0) = some r := h
  clear h
  have H' := Aside0.mk H
  clear H
  go_enter Try.func37, Try.ntmps37
  go_wp2
  go_loopg [5, 10] k (fun kq v5 v10 w' => ∃ (x5_1 : Int) (x10_1 : Int), v5 = .int .i64 x5_1 ∧ v10 = .int .i64 x10_1 ∧ Aside0 (impl_Common.l0 kq l1 x5_1 l0 (l0.length : Int) x10_1 = some r) ∧ Aside0 (kq ≤ k) ∧ Drawn0 w w')
  case atStart => exact ⟨(0), (0), (by first | rfl | (simp; done) | (simp [*]; done)), (by first | rfl | (simp; done) | (simp [*]; done)), H', ⟨Nat.le_refl _⟩, by repeat (first | exact Drawn0.refl _ | apply Drawn0.step)⟩
  case round =>
    clear H'
    try clear c1
    try clear p2
    obtain ⟨x5_1, x10_1, rfl, rfl, HA, HK1, ⟨m1, rfl⟩⟩ := hrel
    cases gk with
    | zero => exact absurd HA.out (by simp [impl_Common.l0])
    | succ k1 =>
      have H := HA.out
      clear HA
      simp only [impl_Common.l0] at H
      by_cases c3 : x10_1 < (l0.length : Int)
      · rw [if_pos c3] at H
        have c3b0 : decide (x10_1 < (l0.length : Int)) = true := decide_eq_true c3
        clear c3
        by_cases c4 : 0 ≤ x10_1
        · rw [if_pos c4] at H
          have c4b0 : decide (0 ≤ x10_1) = true := decide_eq_true c4
          clear c4
          by_cases c5 : x10_1 < (l0.length : Int)
          · rw [if_pos c5] at H
            have c5b0 : decide (x10_1 < (l0.length : Int)) = true := decide_eq_true c5
            clear c5
            replace H := Option.bind_eq_some_iff.mp H
            obtain ⟨t115, A60, H⟩ := H
            replace H : (if t115 = true then (impl_Common.l0 k1 l1 (wrap64 (x5_1 + 1)) l0 (l0.length : Int) (wrap64 (x10_1 + 1))) else (impl_Common.l0 k1 l1 x5_1 l0 (l0.length : Int) (wrap64 (x10_1 + 1)))) = some r := H
            have A6 := Aside0.mk A60
            clear A60
            by_cases c7 : t115 = true
            · subst c7
              have H1 : (impl_Common.l0 k1 l1 (wrap64 (x5_1 + 1)) l0 (l0.length : Int) (wrap64 (x10_1 + 1))) = some r := by rw [if_pos rfl] at H; exact H
              clear H
              have H := H1
              clear H1
              have H' := Aside0.mk H
              clear H
              have p114 : 0 ≤ (x10_1 : Int) := of_decide_eq_true (by first | (with_reducible assumption) | assumption)
              have q114 : x10_1 < (l0.length : Int) := of_decide_eq_true (by first | (with_reducible assumption) | assumption)
              obtain ⟨ad114, e114, hx114_0⟩ := Kd.at_int HR0.out x10_1 p114 q114
              cases e114
              replace p114 := eq_true p114
              replace q114 := eq_true q114
              go_wp2_with (first | ((with_reducible refine gate_callee (f := 30) rfl ?_); refine goesL_ (some 16) rfl rfl Try.func30 (by kernel_rfl) rfl #[.slice A1 l1.length c1, .int .i64 (rd l0 x10_1)] rfl (by (try simp only [List.map_toArray, List.map_cons, List.map_nil]); first | done | rfl | (simp only [List.length_drop, List.length_take]; rfl)) ?_; (with_reducible refine (impl_SetHas.calls k1 _ _ l1 (rd l0 x10_1) true _ ?side1 ?side2 A6.out).mono ?_); (case side1 => repeat (first | exact HR1.out | (with_reducible refine Kd.C_alloc ?_ _) | (with_reducible refine Kd.C_drewN ?_ _) | (with_reducible refine Kd.C_drew ?_))); (case side2 => exact HC1.out); rintro e w' ⟨rfl, ⟨nd, rfl⟩⟩; refine ⟨_, rfl, ?_⟩))
              go_roundg k1
              case measure => have := HK1.out; omega
              case rel => exact ⟨(wrap64 (x5_1 + 1)), (wrap64 (x10_1 + 1)), (by first | rfl | (simp; done) | (simp [*]; done)), (by first | rfl | (simp; done) | (simp [*]; done)), H', ⟨by have := HK1.out; omega⟩, by repeat (first | exact Drawn0.refl _ | apply Drawn0.step)⟩
            · replace c7 := Bool.eq_false_iff.mpr c7
              subst c7
              have H1 : (impl_Common.l0 k1 l1 x5_1 l0 (l0.length : Int) (wrap64 (x10_1 + 1))) = some r := by rw [if_neg (show ¬ (false = true) by decide)] at H; exact H
              clear H
              have H := H1
              clear H1
              have H' := Aside0.mk H
              clear H
              have p114 : 0 ≤ (x10_1 : Int) := of_decide_eq_true (by first | (with_reducible assumption) | assumption)
              have q114 : x10_1 < (l0.length : Int) := of_decide_eq_true (by first | (with_reducible assumption) | assumption)
              obtain ⟨ad114, e114, hx114_0⟩ := Kd.at_int HR0.out x10_1 p114 q114
              cases e114
              replace p114 := eq_true p114
              replace q114 := eq_true q114
              go_wp2_with (first | ((with_reducible refine gate_callee (f := 30) rfl ?_); refine goesL_ (some 16) rfl rfl Try.func30 (by kernel_rfl) rfl #[.slice A1 l1.length c1, .int .i64 (rd l0 x10_1)] rfl (by (try simp only [List.map_toArray, List.map_cons, List.map_nil]); first | done | rfl | (simp only [List.length_drop, List.length_take]; rfl)) ?_; (with_reducible refine (impl_SetHas.calls k1 _ _ l1 (rd l0 x10_1) false _ ?side1 ?side2 A6.out).mono ?_); (case side1 => repeat (first | exact HR1.out | (with_reducible refine Kd.C_alloc ?_ _) | (with_reducible refine Kd.C_drewN ?_ _) | (with_reducible refine Kd.C_drew ?_))); (case side2 => exact HC1.out); rintro e w' ⟨rfl, ⟨nd, rfl⟩⟩; refine ⟨_, rfl, ?_⟩))
              go_roundg k1
              case measure => have := HK1.out; omega
              case rel => exact ⟨(x5_1), (wrap64 (x10_1 + 1)), (by first | rfl | (simp; done) | (simp [*]; done)), (by first | rfl | (simp; done) | (simp [*]; done)), H', ⟨by have := HK1.out; omega⟩, by repeat (first | exact Drawn0.refl _ | apply Drawn0.step)⟩
          · rw [if_neg c5] at H
            exact absurd H (by simp)
        · rw [if_neg c4] at H
          exact absurd H (by simp)
      · rw [if_neg c3] at H
        have c3b0 : decide (x10_1 < (l0.length : Int)) = false := decide_eq_false c3
        clear c3
        obtain rfl := Option.some.inj H
        go_wp2
        go_ret
        exact ⟨by first | rfl | (simp; done) | (simp [*]; done), by repeat (first | exact Drawn0.refl _ | apply Drawn0.step)⟩

/-! ### spec_SetAdd: function 38 -/
def spec_SetAdd.l0 : Nat → List Int → Int → Int → Option (List Int)
  | 0, _, _, _ => none
  | k + 1, x0, x1, x5 => if x5 < (x0.length : Int) then (if 0 ≤ x5 then (if (rd x0 x5) < x1 then (spec_SetAdd.l0 k x0 x1 (wrap64 (x5 + 1))) else ((some (([] : List Int) : List Int)).bind fun y124 => (if x5 ≤ (x0.length : Int) then (if y124.length + (x0.take (x5 : Int).toNat).length < 17592186044416 then ((some (y124 ++ (x0.take (x5 : Int).toNat) : List Int)).bind fun y128 => (if y128.length < 17592186044416 then ((some (y128 ++ [x1] : List Int)).bind fun y131 => (if y131.length + (x0.drop (x5 : Int).toNat).length < 17592186044416 then (some (y131 ++ (x0.drop (x5 : Int).toNat))) else (none))) else (none))) else (none)) else (none)))) else (none)) else ((some (([] : List Int) : List Int)).bind fun y138 => (if 0 ≤ x5 then (if x5 ≤ (x0.length : Int) then (if y138.length + (x0.take (x5 : Int).toNat).length < 17592186044416 then ((some (y138 ++ (x0.take (x5 : Int).toNat) : List Int)).bind fun y142 => (if y142.length < 17592186044416 then ((some (y142 ++ [x1] : List Int)).bind fun y145 => (if y145.length + (x0.drop (x5 : Int).toNat).length < 17592186044416 then (some (y145 ++ (x0.drop (x5 : Int).toNat))) else (none))) else (none))) else (none)) else (none)) else (none)))
def spec_SetAdd.f (k : Nat) (l0 : List Int) (a1 : Int) : Option (List Int) := (spec_SetHas.f k l0 a1).bind fun t116 => (if t116 = true then ((some (([] : List Int) : List Int)).bind fun y117 => (if y117.length + l0.length < 17592186044416 then (some (y117 ++ l0)) else (none))) else (spec_SetAdd.l0 k l0 a1 0))
theorem spec_SetAdd.mono_l : ∀ k, (∀ y0 y1 y2, LeO (spec_SetAdd.l0 k y0 y1 y2) (spec_SetAdd.l0 (k + 1) y0 y1 y2))
  | 0 => fun _ _ _ r h => by simp [spec_SetAdd.l0] at h
  | k + 1 => by
    have ih0 := spec_SetAdd.mono_l k
    · intro y0 y1 y2
      unfold spec_SetAdd.l0
      repeat' first
      | (with_reducible exact ih0 _ _ _)
      | (with_reducible exact spec_SetHas.mono _ _ _)
      | (with_reducible exact LeO.refl _)
      | (with_reducible exact LeO.none _)
      | (with_reducible refine LeO.ite ?_ ?_)
      | (with_reducible refine LeO.bind ?_ (fun _ => ?_))
      | exact ih0 _ _ _
      | exact spec_SetHas.mono _ _ _
      | exact LeO.none _
      | refine LeO.ite ?_ ?_
      | refine LeO.bind ?_ (fun _ => ?_)
theorem spec_SetAdd.mono : ∀ a0 a1 k, LeO (spec_SetAdd.f k a0 a1) (spec_SetAdd.f (k + 1) a0 a1) := by
  intro a0 a1 k
  have ih0 := spec_SetAdd.mono_l k
  unfold spec_SetAdd.f
  repeat' first
      | (with_reducible exact ih0 _ _ _)
      | (with_reducible exact spec_SetHas.mono _ _ _)
      | (with_reducible exact LeO.refl _)
      | (with_reducible exact LeO.none _)
      | (with_reducible refine LeO.ite ?_ ?_)
      | (with_reducible refine LeO.bind ?_ (fun _ => ?_))
      | exact ih0 _ _ _
      | exact spec_SetHas.mono _ _ _
      | exact LeO.none _
      | refine LeO.ite ?_ ?_
      | refine LeO.bind ?_ (fun _ => ?_)
set_option maxHeartbeats 8000000 in
set_option maxRecDepth 100000 in
theorem spec_SetAdd.calls (k : Nat) (A0 : Option Addr) (c0 : Nat) (l0 : List Int) (a1 : Int) (r : List Int) (w : World) (hr0 : Kd.C (Kd.int .i64) w A0 l0.length l0) (hc0 : l0.length ≤ c0) (h : spec_SetAdd.f k l0 a1 = some r) :
    Calls Try.prog 38 #[.slice A0 l0.length c0, .int .i64 a1] w fun e w' => ∃ v0_ : Value, e = .returned (v0_) ∧ Kd.R (Kd.int .i64) 3 w' w.heap.size (fun _ => True) v0_ r ∧ Below w.heap.size w w' := by
  have HR0 := Aside0.mk hr0
  have HC0 := Aside0.mk hc0
  clear hr0 hc0
  have HB := Aside0.mk (Below.refl w.heap.size w)
  have H : ((spec_SetHas.f k l0 a1).bind fun t116 => (if t116 = true then ((some (([] : List Int) : List Int)).bind fun y117 => (if y117.length + l0.length < 17592186044416 then (some (y117 ++ l0)) else (none))) else (spec_SetAdd.l0 k l0 a1 0))) = some r := h
  clear h
  replace H := Option.bind_eq_some_iff.mp H
  obtain ⟨t116, A30, H⟩ := H
  replace H : (if t116 = true then ((some (([] : List Int) : List Int)).bind fun y117 => (if y117.length + l0.length < 17592186044416 then (some (y117 ++ l0)) else (none))) else (spec_SetAdd.l0 k l0 a1 0)) = some r := H
  have A3 := Aside0.mk A30
  clear A30
  by_cases c4 : t116 = true
  · subst c4
    have H1 : ((some (([] : List Int) : List Int)).bind fun y117 => (if y117.length + l0.length < 17592186044416 then (some (y117 ++ l0)) else (none))) = some r := by rw [if_pos rfl] at H; exact H
    clear H
    have H := H1
    clear H1
    obtain ⟨y117, hy117⟩ : ∃ y_ : List Int, y_ = (([] : List Int)) := ⟨_, rfl⟩
    replace H : (if y117.length + l0.length < 17592186044416 then (some (y117 ++ l0)) else (none)) = some r := by first | (rw [hy117]; with_reducible exact H) | (have H2_ := (Option.bind_some _ _).symm.trans H; rw [hy117]; with_reducible exact H2_) | (have H2_ := (Option.bind_some _ _).symm.trans H; with_reducible exact H2_) | with_reducible exact H | (rw [hy117]; exact H) | exact H
    have Ny117 := Aside0.mk hy117
    clear hy117
    by_cases c5 : y117.length + l0.length < 17592186044416
    · rw [if_pos c5] at H
      have LMc5 := Aside0.mk c5
      clear c5
      obtain ⟨y120, hy120⟩ : ∃ y_ : List Int, y_ = (y117 ++ l0) := ⟨_, rfl⟩
      replace H : (some y120) = some r := by first | (rw [hy120]; with_reducible exact H) | (have H2_ := (Option.bind_some _ _).symm.trans H; rw [hy120]; with_reducible exact H2_) | (have H2_ := (Option.bind_some _ _).symm.trans H; with_reducible exact H2_) | with_reducible exact H | (rw [hy120]; exact H) | exact H
      have Ny120 := Aside0.mk hy120
      clear hy120
      obtain rfl := Option.some.inj H
      go_enter Try.func38, Try.ntmps38
      go_wp2_with (first | ((with_reducible refine gate_callee (f := 29) rfl ?_); refine goesL_ (some 9) rfl rfl Try.func29 (by kernel_rfl) rfl #[.slice A0 l0.length c0, .int .i64 a1] rfl (by (try simp only [List.map_toArray, List.map_cons, List.map_nil]); first | done | rfl | (simp only [List.length_drop, List.length_take]; rfl)) ?_; (with_reducible refine (spec_SetHas.calls k _ _ l0 a1 true _ ?side1 ?side2 A3.out).mono ?_); (case side1 => repeat (first | exact HR0.out | (with_reducible refine Kd.C_alloc ?_ _) | (with_reducible refine Kd.C_drewN ?_ _) | (with_reducible refine Kd.C_drew ?_))); (case side2 => exact HC0.out); rintro e w' ⟨rfl, ⟨nd, rfl⟩⟩; refine ⟨_, rfl, ?_⟩) | ((with_reducible refine gate_dst (N := 10) rfl ?_); refine Kd.R_lit (Kd.int .i64) _ 3 ?hg (N := 10) ?hd (xs := ([] : List Int)) (inner := []) (ok := fun _ => True) (okp := fun _ => True) ?hr ?hp (fun _ hk => hk) trivial (Below.refl _ _) (Nat.le_refl _) (by simp) ?_; (case hd => rfl); (case hg => rfl); (case hr => first | (go_simp; done) | (go_simp; rfl)); (case hp => exact (Reps.none _ _)); intro v118 w6 ho7 hb hg_ hnew_; clear hg_ hnew_; (first | rw [← Ny117.out] at ho7 | (simp only [Int.reduceToNat] at ho7; rw [← Ny117.out] at ho7)); have n0_ := Aside0.mk (Kd.R_lower ho7 (below_size (by repeat (first | (with_reducible first | exact HB.out | apply below_alloc | apply pw_below_drewN | apply below_drew1) | exact HB.out)))); have n1_ := Aside0.mk (below_step (by repeat (first | (with_reducible first | exact HB.out | apply below_alloc | apply pw_below_drewN | apply below_drew1) | exact HB.out)) hb); clear HB; have HO119 := n0_; have HB := n1_; clear n0_ n1_; clear hb ho7) | ((with_reducible refine gate_builtin (b := .append) (xs := #[.tmp 10, .tmp 11]) rfl ?_); at_builtin; refine Kd.R_append_rows (Kd.int .i64) (w0 := w) w.heap.size rfl (.tmp 10) (.tmp 11) 36 3 (.int .i64 0) 8 rfl Try.underlying36 info3 rfl (by decide) (by omega) v118 y117 l0 _ _ _ (fun _ => True) (fun _ => False) rfl rfl ?aO ?aR (fun _ _ h => h) (fun _ h => h.elim) ?aF ?aB ?aS ?aL ?_; (case aR => repeat (first | exact (Kd.C_below HR0.out HB.out) | (with_reducible refine Kd.C_alloc ?_ _) | (with_reducible refine Kd.C_drewN ?_ _) | (with_reducible refine Kd.C_drew ?_))); (case aB => exact (by repeat (first | (with_reducible first | exact HB.out | apply below_alloc | apply pw_below_drewN | apply below_drew1) | exact HB.out))); (case aF => exact (fun _ _ => trivial)); (case aO => exact (by (with_reducible repeat (first | apply Kd.R_alloc | apply Kd.R_drewN | apply Kd.R_drew)); exact HO119.out)); (case aS => exact (below_size (by repeat (first | (with_reducible first | exact HB.out | apply below_alloc | apply pw_below_drewN | apply below_drew1) | exact HB.out)))); (case aL => have := LMc5.out; omega); intro v121 w8 ho hb hg hat; rw [← Ny120.out] at ho; have n0_ := Aside0.mk (hb); have n1_ := Aside0.mk (ho); clear HB; clear HO119; have HB := n0_; have HO122 := n1_; clear n0_ n1_; clear ho hb hg hat))
      go_ret
      exact ⟨_, by first | rfl | (simp [errW_none, errW_some] <;> rfl) | (simp [*, errW_none, errW_some] <;> rfl), by (with_reducible repeat (first | apply Kd.R_alloc | apply Kd.R_drewN | apply Kd.R_drew)); exact HO122.out, by repeat (first | (with_reducible first | exact HB.out | apply below_alloc | apply pw_below_drewN | apply below_drew1) | exact HB.out)⟩
    · rw [if_neg c5] at H
      exact absurd H (by simp)
  · replace c4 := Bool.eq_false_iff.mpr c4
    subst c4
    have H1 : (spec_SetAdd.l0 k l0 a1 0) = some r := by rw [if_neg (show ¬ (false = true) by decide)] at H; exact H
    clear H
    have H := H1
    clear H1
    have H' := Aside0.mk H
    clear H
    go_enter Try.func38, Try.ntmps38
    go_wp2_with (first | ((with_reducible refine gate_callee (f := 29) rfl ?_); refine goesL_ (some 9) rfl rfl Try.func29 (by kernel_rfl) rfl #[.slice A0 l0.length c0, .int .i64 a1] rfl (by (try simp only [List.map_toArray, List.map_cons, List.map_nil]); first | done | rfl | (simp only [List.length_drop, List.length_take]; rfl)) ?_; (with_reducible refine (spec_SetHas.calls k _ _ l0 a1 false _ ?side1 ?side2 A3.out).mono ?_); (case side1 => repeat (first | exact HR0.out | (with_reducible refine Kd.C_alloc ?_ _) | (with_reducible refine Kd.C_drewN ?_ _) | (with_reducible refine Kd.C_drew ?_))); (case side2 => exact HC0.out); rintro e w' ⟨rfl, ⟨nd, rfl⟩⟩; refine ⟨_, rfl, ?_⟩))
    go_loopg [5] k (fun kq v5 w' => ∃ (x5_1 : Int), v5 = .int .i64 x5_1 ∧ Aside0 (spec_SetAdd.l0 kq l0 a1 x5_1 = some r) ∧ Aside0 (kq ≤ k) ∧ Aside0 (Below w.heap.size w w'))
    case atStart => exact ⟨(0), (by first | rfl | (simp; done) | (simp [*]; done)), H', ⟨Nat.le_refl _⟩, ⟨by repeat (first | (with_reducible first | exact HB.out | apply below_alloc | apply pw_below_drewN | apply below_drew1) | exact HB.out)⟩⟩
    case round =>
      clear H'
      try clear c2
      try clear p2
      try clear c3
      try clear c4
      try clear c5
      obtain ⟨x5_1, rfl, HA, HK1, HB⟩ := hrel
      cases gk with
      | zero => exact absurd HA.out (by simp [spec_SetAdd.l0])
      | succ k1 =>
        have H := HA.out
        clear HA
        simp only [spec_SetAdd.l0] at H
        by_cases c9 : x5_1 < (l0.length : Int)
        · rw [if_pos c9] at H
          have c9b0 : decide (x5_1 < (l0.length : Int)) = true := decide_eq_true c9
          clear c9
          by_cases c10 : 0 ≤ x5_1
          · rw [if_pos c10] at H
            have c10b0 : decide (0 ≤ x5_1) = true := decide_eq_true c10
            clear c10
            by_cases c11 : (rd l0 x5_1) < a1
            · rw [if_pos c11] at H
              have c11b0 : decide ((rd l0 x5_1) < a1) = true := decide_eq_true c11
              clear c11
              have H' := Aside0.mk H
              clear H
              have p123 : 0 ≤ (x5_1 : Int) := of_decide_eq_true (by first | (with_reducible assumption) | assumption)
              have q123 : x5_1 < (l0.length : Int) := of_decide_eq_true (by first | (with_reducible assumption) | assumption)
              obtain ⟨ad123, e123, hx123_0⟩ := Kd.at_int HR0.out x5_1 p123 q123
              cases e123
              replace hx123_0 := (HB.out.cell (World.block_lt_of_cell? w _ hx123_0)).trans hx123_0
              replace p123 := eq_true p123
              replace q123 := eq_true q123
              go_wp2
              go_roundg k1
              case measure => have := HK1.out; omega
              case rel => exact ⟨(wrap64 (x5_1 + 1)), (by first | rfl | (simp; done) | (simp [*]; done)), H', ⟨by have := HK1.out; omega⟩, ⟨by repeat (first | (with_reducible first | exact HB.out | apply below_alloc | apply pw_below_drewN | apply below_drew1) | exact HB.out)⟩⟩
            · rw [if_neg c11] at H
              have c11b0 : decide ((rd l0 x5_1) < a1) = false := decide_eq_false c11
              clear c11
              obtain ⟨y124, hy124⟩ : ∃ y_ : List Int, y_ = (([] : List Int)) := ⟨_, rfl⟩
              replace H : (if x5_1 ≤ (l0.length : Int) then (if y124.length + (l0.take (x5_1 : Int).toNat).length < 17592186044416 then ((some (y124 ++ (l0.take (x5_1 : Int).toNat) : List Int)).bind fun y128 => (if y128.length < 17592186044416 then ((some (y128 ++ [a1] : List Int)).bind fun y131 => (if y131.length + (l0.drop (x5_1 : Int).toNat).length < 17592186044416 then (some (y131 ++ (l0.drop (x5_1 : Int).toNat))) else (none))) else (none))) else (none)) else (none)) = some r := by first | (rw [hy124]; with_reducible exact H) | (have H2_ := (Option.bind_some _ _).symm.trans H; rw [hy124]; with_reducible exact H2_) | (have H2_ := (Option.bind_some _ _).symm.trans H; with_reducible exact H2_) | with_reducible exact H | (rw [hy124]; exact H) | exact H
              have Ny124 := Aside0.mk hy124
              clear hy124
              have c12b0 := eq_true (of_decide_eq_true (by first | (with_reducible assumption) | assumption) : 0 ≤ x5_1)
              by_cases c13 : x5_1 ≤ (l0.length : Int)
              · rw [if_pos c13] at H
                have c13b0 := eq_true c13
                have c13b1 : decide (x5_1 ≤ (l0.length : Int)) = true := decide_eq_true c13
                clear c13
                by_cases c14 : y124.length + (l0.take (x5_1 : Int).toNat).length < 17592186044416
                · rw [if_pos c14] at H
                  have LMc14 := Aside0.mk c14
                  clear c14
                  obtain ⟨y128, hy128⟩ : ∃ y_ : List Int, y_ = (y124 ++ (l0.take (x5_1 : Int).toNat)) := ⟨_, rfl⟩
                  replace H : (if y128.length < 17592186044416 then ((some (y128 ++ [a1] : List Int)).bind fun y131 => (if y131.length + (l0.drop (x5_1 : Int).toNat).length < 17592186044416 then (some (y131 ++ (l0.drop (x5_1 : Int).toNat))) else (none))) else (none)) = some r := by first | (rw [hy128]; with_reducible exact H) | (have H2_ := (Option.bind_some _ _).symm.trans H; rw [hy128]; with_reducible exact H2_) | (have H2_ := (Option.bind_some _ _).symm.trans H; with_reducible exact H2_) | with_reducible exact H | (rw [hy128]; exact H) | exact H
                  have Ny128 := Aside0.mk hy128
                  clear hy128
                  by_cases c15 : y128.length < 17592186044416
                  · rw [if_pos c15] at H
                    have LMc15 := Aside0.mk c15
                    clear c15
                    obtain ⟨y131, hy131⟩ : ∃ y_ : List Int, y_ = (y128 ++ [a1]) := ⟨_, rfl⟩
                    replace H : (if y131.length + (l0.drop (x5_1 : Int).toNat).length < 17592186044416 then (some (y131 ++ (l0.drop (x5_1 : Int).toNat))) else (none)) = some r := by first | (rw [hy131]; with_reducible exact H) | (have H2_ := (Option.bind_some _ _).symm.trans H; rw [hy131]; with_reducible exact H2_) | (have H2_ := (Option.bind_some _ _).symm.trans H; with_reducible exact H2_) | with_reducible exact H | (rw [hy131]; exact H) | exact H
                    have Ny131 := Aside0.mk hy131
                    clear hy131
                    have c16b0 := eq_true (of_decide_eq_true (by first | (with_reducible assumption) | assumption) : 0 ≤ x5_1)
                    have c17b0 := eq_true (of_decide_eq_true (by first | (with_reducible assumption) | assumption) : x5_1 ≤ (l0.length : Int))
                    by_cases c18 : y131.length + (l0.drop (x5_1 : Int).toNat).length < 17592186044416
                    · rw [if_pos c18] at H
                      have LMc18 := Aside0.mk c18
                      clear c18
                      obtain ⟨y135, hy135⟩ : ∃ y_ : List Int, y_ = (y131 ++ (l0.drop (x5_1 : Int).toNat)) := ⟨_, rfl⟩
                      replace H : (some y135) = some r := by first | (rw [hy135]; with_reducible exact H) | (have H2_ := (Option.bind_some _ _).symm.trans H; rw [hy135]; with_reducible exact H2_) | (have H2_ := (Option.bind_some _ _).symm.trans H; with_reducible exact H2_) | with_reducible exact H | (rw [hy135]; exact H) | exact H
                      have Ny135 := Aside0.mk hy135
                      clear hy135
                      obtain rfl := Option.some.inj H
                      have p123 : 0 ≤ (x5_1 : Int) := of_decide_eq_true (by first | (with_reducible assumption) | assumption)
                      have q123 : x5_1 < (l0.length : Int) := of_decide_eq_true (by first | (with_reducible assumption) | assumption)
                      obtain ⟨ad123, e123, hx123_0⟩ := Kd.at_int HR0.out x5_1 p123 q123
                      cases e123
                      replace hx123_0 := (HB.out.cell (World.block_lt_of_cell? w _ hx123_0)).trans hx123_0
                      replace p123 := eq_true p123
                      replace q123 := eq_true q123
                      go_wp2_with (first | ((with_reducible refine gate_dst (N := 27) rfl ?_); refine Kd.R_lit (Kd.int .i64) _ 3 ?hg (N := 27) ?hd (xs := ([] : List Int)) (inner := []) (ok := fun _ => True) (okp := fun _ => True) ?hr ?hp (fun _ hk => hk) trivial (Below.refl _ _) (Nat.le_refl _) (by simp) ?_; (case hd => rfl); (case hg => rfl); (case hr => first | (go_simp; done) | (go_simp; rfl)); (case hp => exact (Reps.none _ _)); intro v125 w19 ho20 hb hg_ hnew_; clear hg_ hnew_; (first | rw [← Ny124.out] at ho20 | (simp only [Int.reduceToNat] at ho20; rw [← Ny124.out] at ho20)); have n0_ := Aside0.mk (Kd.R_lower ho20 (below_size (by repeat (first | (with_reducible first | exact HB.out | apply below_alloc | apply pw_below_drewN | apply below_drew1) | exact HB.out)))); have n1_ := Aside0.mk (below_step (by repeat (first | (with_reducible first | exact HB.out | apply below_alloc | apply pw_below_drewN | apply below_drew1) | exact HB.out)) hb); clear HB; have HO126 := n0_; have HB := n1_; clear n0_ n1_; clear hb ho20; obtain ⟨i021, hi021, _, hsz21, _⟩ := info_parts info3; obtain ⟨hcut21, hA21, hC21⟩ := print_take_of (P := Try.prog) (Value.int .i64) 0 36 3 .i64 Try.underlying36 hi021 hsz21 (some ad123) c0 l0 x5_1 (of_decide_eq_true (by first | (with_reducible assumption) | assumption)) (of_decide_eq_true (by first | (with_reducible assumption) | assumption)) HC0.out; have HR127 := Aside0.mk (Kd.C_of_reads (h1 := fun _ => rfl) (hA21 _ (Kd.reads_of_C HR0.out))); have HC127 := Aside0.mk hC21; clear hA21 hC21 hi021 hsz21) | ((with_reducible refine gate_builtin (b := .append) (xs := #[.tmp 27, .tmp 30]) rfl ?_); at_builtin; refine Kd.R_append_rows (Kd.int .i64) (w0 := w) w.heap.size rfl (.tmp 27) (.tmp 30) 36 3 (.int .i64 0) 8 rfl Try.underlying36 info3 rfl (by decide) (by omega) v125 y124 (l0.take (x5_1 : Int).toNat) _ _ _ (fun _ => True) (fun _ => False) rfl rfl ?aO ?aR (fun _ _ h => h) (fun _ h => h.elim) ?aF ?aB ?aS ?aL ?_; (case aR => first | ((conv => (arg 5; rw [← show (l0.take (x5_1 : Int).toNat).length = x5_1.toNat from (by rw [List.length_take]; have h_ : (x5_1 : Int) ≤ (l0.length : Int) := of_decide_eq_true (by first | (with_reducible assumption) | assumption); omega)])); repeat (first | exact (Kd.C_below HR127.out HB.out) | (with_reducible refine Kd.C_alloc ?_ _) | (with_reducible refine Kd.C_drewN ?_ _) | (with_reducible refine Kd.C_drew ?_))) | (repeat (first | exact (Kd.C_below HR127.out HB.out) | (with_reducible refine Kd.C_alloc ?_ _) | (with_reducible refine Kd.C_drewN ?_ _) | (with_reducible refine Kd.C_drew ?_)))); (case aB => exact (by repeat (first | (with_reducible first | exact HB.out | apply below_alloc | apply pw_below_drewN | apply below_drew1) | exact HB.out))); (case aF => exact (fun _ _ => trivial)); (case aO => exact (by (with_reducible repeat (first | apply Kd.R_alloc | apply Kd.R_drewN | apply Kd.R_drew)); exact HO126.out)); (case aS => exact (below_size (by repeat (first | (with_reducible first | exact HB.out | apply below_alloc | apply pw_below_drewN | apply below_drew1) | exact HB.out)))); (case aL => have := LMc14.out; have hlx_ := (show (l0.take (x5_1 : Int).toNat).length = x5_1.toNat from (by rw [List.length_take]; have h_ : (x5_1 : Int) ≤ (l0.length : Int) := of_decide_eq_true (by first | (with_reducible assumption) | assumption); omega)); omega); intro v129 w22 ho hb hg hat; rw [← Ny128.out] at ho; have n0_ := Aside0.mk (hb); have n1_ := Aside0.mk (ho); clear HB; clear HO126; have HB := n0_; have HO130 := n1_; clear n0_ n1_; clear ho hb hg hat) | ((with_reducible refine gate_builtin (b := .append) (xs := #[.tmp 32, .tmp 34]) rfl ?_); at_builtin; refine Kd.R_append (Kd.int .i64) (w0 := w) w.heap.size rfl (.tmp 32) (.tmp 34) 36 3 (.int .i64 0) 8 rfl Try.underlying36 info3 rfl (by decide) (by omega) v129 y128 a1 [.int .i64 a1] (fun _ => True) (fun _ => False) rfl rfl ?aP (fun _ hk => hk.elim) ?aF ?aO ?aB ?aS ?aL ?_; (case aP => exact rfl); (case aB => exact (by repeat (first | (with_reducible first | exact HB.out | apply below_alloc | apply pw_below_drewN | apply below_drew1) | exact HB.out))); (case aF => exact (fun _ _ => trivial)); (case aO => exact (by (with_reducible repeat (first | apply Kd.R_alloc | apply Kd.R_drewN | apply Kd.R_drew)); exact HO130.out)); (case aS => exact (below_size (by repeat (first | (with_reducible first | exact HB.out | apply below_alloc | apply pw_below_drewN | apply below_drew1) | exact HB.out)))); (case aL => have := LMc15.out; omega); intro v132 w23 ho hb hg hat; rw [← Ny131.out] at ho; have n0_ := Aside0.mk (hb); have n1_ := Aside0.mk (ho); clear HB; clear HO130; have HB := n0_; have HO133 := n1_; clear n0_ n1_; clear ho hb hg hat; obtain ⟨i024, hi024, _, hsz24, _⟩ := info_parts info3; obtain ⟨A24, hcut24, hA24, hC24⟩ := print_drop_of (P := Try.prog) (Value.int .i64) 0 36 3 .i64 Try.underlying36 hi024 hsz24 (some ad123) c0 l0 x5_1 (of_decide_eq_true (by first | (with_reducible assumption) | assumption)) (of_decide_eq_true (by first | (with_reducible assumption) | assumption)) HC0.out; have HR134 := Aside0.mk (Kd.C_of_reads (h1 := fun _ => rfl) (hA24 _ (Kd.reads_of_C HR0.out))); have HC134 := Aside0.mk hC24; clear hA24 hC24 hi024 hsz24) | ((with_reducible refine gate_builtin (b := .append) (xs := #[.tmp 36, .tmp 39]) rfl ?_); at_builtin; refine Kd.R_append_rows (Kd.int .i64) (w0 := w) w.heap.size rfl (.tmp 36) (.tmp 39) 36 3 (.int .i64 0) 8 rfl Try.underlying36 info3 rfl (by decide) (by omega) v132 y131 (l0.drop (x5_1 : Int).toNat) _ _ _ (fun _ => True) (fun _ => False) rfl rfl ?aO ?aR (fun _ _ h => h) (fun _ h => h.elim) ?aF ?aB ?aS ?aL ?_; (case aR => first | ((conv => (arg 5; rw [← show (l0.drop (x5_1 : Int).toNat).length = (l0.length - x5_1.toNat) from List.length_drop])); repeat (first | exact (Kd.C_below HR134.out HB.out) | (with_reducible refine Kd.C_alloc ?_ _) | (with_reducible refine Kd.C_drewN ?_ _) | (with_reducible refine Kd.C_drew ?_))) | (repeat (first | exact (Kd.C_below HR134.out HB.out) | (with_reducible refine Kd.C_alloc ?_ _) | (with_reducible refine Kd.C_drewN ?_ _) | (with_reducible refine Kd.C_drew ?_)))); (case aB => exact (by repeat (first | (with_reducible first | exact HB.out | apply below_alloc | apply pw_below_drewN | apply below_drew1) | exact HB.out))); (case aF => exact (fun _ _ => trivial)); (case aO => exact (by (with_reducible repeat (first | apply Kd.R_alloc | apply Kd.R_drewN | apply Kd.R_drew)); exact HO133.out)); (case aS => exact (below_size (by repeat (first | (with_reducible first | exact HB.out | apply below_alloc | apply pw_below_drewN | apply below_drew1) | exact HB.out)))); (case aL => have := LMc18.out; have hlx_ := (show (l0.drop (x5_1 : Int).toNat).length = (l0.length - x5_1.toNat) from List.length_drop); omega); intro v136 w25 ho hb hg hat; rw [← Ny135.out] at ho; have n0_ := Aside0.mk (hb); have n1_ := Aside0.mk (ho); clear HB; clear HO133; have HB := n0_; have HO137 := n1_; clear n0_ n1_; clear ho hb hg hat))
                      go_ret
                      exact ⟨_, by first | rfl | (simp [errW_none, errW_some] <;> rfl) | (simp [*, errW_none, errW_some] <;> rfl), by (with_reducible repeat (first | apply Kd.R_alloc | apply Kd.R_drewN | apply Kd.R_drew)); exact HO137.out, by repeat (first | (with_reducible first | exact HB.out | apply below_alloc | apply pw_below_drewN | apply below_drew1) | exact HB.out)⟩
                    · rw [if_neg c18] at H
                      exact absurd H (by simp)
                  · rw [if_neg c15] at H
                    exact absurd H (by simp)
                · rw [if_neg c14] at H
                  exact absurd H (by simp)
              · rw [if_neg c13] at H
                exact absurd H (by simp)
          · rw [if_neg c10] at H
            exact absurd H (by simp)
        · rw [if_neg c9] at H
          have c9b0 : decide (x5_1 < (l0.length : Int)) = false := decide_eq_false c9
          clear c9
          obtain ⟨y138, hy138⟩ : ∃ y_ : List Int, y_ = (([] : List Int)) := ⟨_, rfl⟩
          replace H : (if 0 ≤ x5_1 then (if x5_1 ≤ (l0.length : Int) then (if y138.length + (l0.take (x5_1 : Int).toNat).length < 17592186044416 then ((some (y138 ++ (l0.take (x5_1 : Int).toNat) : List Int)).bind fun y142 => (if y142.length < 17592186044416 then ((some (y142 ++ [a1] : List Int)).bind fun y145 => (if y145.length + (l0.drop (x5_1 : Int).toNat).length < 17592186044416 then (some (y145 ++ (l0.drop (x5_1 : Int).toNat))) else (none))) else (none))) else (none)) else (none)) else (none)) = some r := by first | (rw [hy138]; with_reducible exact H) | (have H2_ := (Option.bind_some _ _).symm.trans H; rw [hy138]; with_reducible exact H2_) | (have H2_ := (Option.bind_some _ _).symm.trans H; with_reducible exact H2_) | with_reducible exact H | (rw [hy138]; exact H) | exact H
          have Ny138 := Aside0.mk hy138
          clear hy138
          by_cases c26 : 0 ≤ x5_1
          · rw [if_pos c26] at H
            have c26b0 := eq_true c26
            have c26b1 : decide (0 ≤ x5_1) = true := decide_eq_true c26
            clear c26
            by_cases c27 : x5_1 ≤ (l0.length : Int)
            · rw [if_pos c27] at H
              have c27b0 := eq_true c27
              have c27b1 : decide (x5_1 ≤ (l0.length : Int)) = true := decide_eq_true c27
              clear c27
              by_cases c28 : y138.length + (l0.take (x5_1 : Int).toNat).length < 17592186044416
              · rw [if_pos c28] at H
                have LMc28 := Aside0.mk c28
                clear c28
                obtain ⟨y142, hy142⟩ : ∃ y_ : List Int, y_ = (y138 ++ (l0.take (x5_1 : Int).toNat)) := ⟨_, rfl⟩
                replace H : (if y142.length < 17592186044416 then ((some (y142 ++ [a1] : List Int)).bind fun y145 => (if y145.length + (l0.drop (x5_1 : Int).toNat).length < 17592186044416 then (some (y145 ++ (l0.drop (x5_1 : Int).toNat))) else (none))) else (none)) = some r := by first | (rw [hy142]; with_reducible exact H) | (have H2_ := (Option.bind_some _ _).symm.trans H; rw [hy142]; with_reducible exact H2_) | (have H2_ := (Option.bind_some _ _).symm.trans H; with_reducible exact H2_) | with_reducible exact H | (rw [hy142]; exact H) | exact H
                have Ny142 := Aside0.mk hy142
                clear hy142
                by_cases c29 : y142.length < 17592186044416
                · rw [if_pos c29] at H
                  have LMc29 := Aside0.mk c29
                  clear c29
                  obtain ⟨y145, hy145⟩ : ∃ y_ : List Int, y_ = (y142 ++ [a1]) := ⟨_, rfl⟩
                  replace H : (if y145.length + (l0.drop (x5_1 : Int).toNat).length < 17592186044416 then (some (y145 ++ (l0.drop (x5_1 : Int).toNat))) else (none)) = some r := by first | (rw [hy145]; with_reducible exact H) | (have H2_ := (Option.bind_some _ _).symm.trans H; rw [hy145]; with_reducible exact H2_) | (have H2_ := (Option.bind_some _ _).symm.trans H; with_reducible exact H2_) | with_reducible exact H | (rw [hy145]; exact H) | exact H
                  have Ny145 := Aside0.mk hy145
                  clear hy145
                  have c30b0 := eq_true (of_decide_eq_true (by first | (with_reducible assumption) | assumption) : 0 ≤ x5_1)
                  have c31b0 := eq_true (of_decide_eq_true (by first | (with_reducible assumption) | assumption) : x5_1 ≤ (l0.length : Int))
                  by_cases c32 : y145.length + (l0.drop (x5_1 : Int).toNat).length < 17592186044416
                  · rw [if_pos c32] at H
                    have LMc32 := Aside0.mk c32
                    clear c32
                    obtain ⟨y149, hy149⟩ : ∃ y_ : List Int, y_ = (y145 ++ (l0.drop (x5_1 : Int).toNat)) := ⟨_, rfl⟩
                    replace H : (some y149) = some r := by first | (rw [hy149]; with_reducible exact H) | (have H2_ := (Option.bind_some _ _).symm.trans H; rw [hy149]; with_reducible exact H2_) | (have H2_ := (Option.bind_some _ _).symm.trans H; with_reducible exact H2_) | with_reducible exact H | (rw [hy149]; exact H) | exact H
                    have Ny149 := Aside0.mk hy149
                    clear hy149
                    obtain rfl := Option.some.inj H
                    go_wp2_with (first | ((with_reducible refine gate_dst (N := 27) rfl ?_); refine Kd.R_lit (Kd.int .i64) _ 3 ?hg (N := 27) ?hd (xs := ([] : List Int)) (inner := []) (ok := fun _ => True) (okp := fun _ => True) ?hr ?hp (fun _ hk => hk) trivial (Below.refl _ _) (Nat.le_refl _) (by simp) ?_; (case hd => rfl); (case hg => rfl); (case hr => first | (go_simp; done) | (go_simp; rfl)); (case hp => exact (Reps.none _ _)); intro v139 w33 ho34 hb hg_ hnew_; clear hg_ hnew_; (first | rw [← Ny138.out] at ho34 | (simp only [Int.reduceToNat] at ho34; rw [← Ny138.out] at ho34)); have n0_ := Aside0.mk (Kd.R_lower ho34 (below_size (by repeat (first | (with_reducible first | exact HB.out | apply below_alloc | apply pw_below_drewN | apply below_drew1) | exact HB.out)))); have n1_ := Aside0.mk (below_step (by repeat (first | (with_reducible first | exact HB.out | apply below_alloc | apply pw_below_drewN | apply below_drew1) | exact HB.out)) hb); clear HB; have HO140 := n0_; have HB := n1_; clear n0_ n1_; clear hb ho34; obtain ⟨i035, hi035, _, hsz35, _⟩ := info_parts info3; obtain ⟨hcut35, hA35, hC35⟩ := print_take_of (P := Try.prog) (Value.int .i64) 0 36 3 .i64 Try.underlying36 hi035 hsz35 A0 c0 l0 x5_1 (of_decide_eq_true (by first | (with_reducible assumption) | assumption)) (of_decide_eq_true (by first | (with_reducible assumption) | assumption)) HC0.out; have HR141 := Aside0.mk (Kd.C_of_reads (h1 := fun _ => rfl) (hA35 _ (Kd.reads_of_C HR0.out))); have HC141 := Aside0.mk hC35; clear hA35 hC35 hi035 hsz35) | ((with_reducible refine gate_builtin (b := .append) (xs := #[.tmp 27, .tmp 30]) rfl ?_); at_builtin; refine Kd.R_append_rows (Kd.int .i64) (w0 := w) w.heap.size rfl (.tmp 27) (.tmp 30) 36 3 (.int .i64 0) 8 rfl Try.underlying36 info3 rfl (by decide) (by omega) v139 y138 (l0.take (x5_1 : Int).toNat) _ _ _ (fun _ => True) (fun _ => False) rfl rfl ?aO ?aR (fun _ _ h => h) (fun _ h => h.elim) ?aF ?aB ?aS ?aL ?_; (case aR => first | ((conv => (arg 5; rw [← show (l0.take (x5_1 : Int).toNat).length = x5_1.toNat from (by rw [List.length_take]; have h_ : (x5_1 : Int) ≤ (l0.length : Int) := of_decide_eq_true (by first | (with_reducible assumption) | assumption); omega)])); repeat (first | exact (Kd.C_below HR141.out HB.out) | (with_reducible refine Kd.C_alloc ?_ _) | (with_reducible refine Kd.C_drewN ?_ _) | (with_reducible refine Kd.C_drew ?_))) | (repeat (first | exact (Kd.C_below HR141.out HB.out) | (with_reducible refine Kd.C_alloc ?_ _) | (with_reducible refine Kd.C_drewN ?_ _) | (with_reducible refine Kd.C_drew ?_)))); (case aB => exact (by repeat (first | (with_reducible first | exact HB.out | apply below_alloc | apply pw_below_drewN | apply below_drew1) | exact HB.out))); (case aF => exact (fun _ _ => trivial)); (case aO => exact (by (with_reducible repeat (first | apply Kd.R_alloc | apply Kd.R_drewN | apply Kd.R_drew)); exact HO140.out)); (case aS => exact (below_size (by repeat (first | (with_reducible first | exact HB.out | apply below_alloc | apply pw_below_drewN | apply below_drew1) | exact HB.out)))); (case aL => have := LMc28.out; have hlx_ := (show (l0.take (x5_1 : Int).toNat).length = x5_1.toNat from (by rw [List.length_take]; have h_ : (x5_1 : Int) ≤ (l0.length : Int) := of_decide_eq_true (by first | (with_reducible assumption) | assumption); omega)); omega); intro v143 w36 ho hb hg hat; rw [← Ny142.out] at ho; have n0_ := Aside0.mk (hb); have n1_ := Aside0.mk (ho); clear HB; clear HO140; have HB := n0_; have HO144 := n1_; clear n0_ n1_; clear ho hb hg hat) | ((with_reducible refine gate_builtin (b := .append) (xs := #[.tmp 32, .tmp 34]) rfl ?_); at_builtin; refine Kd.R_append (Kd.int .i64) (w0 := w) w.heap.size rfl (.tmp 32) (.tmp 34) 36 3 (.int .i64 0) 8 rfl Try.underlying36 info3 rfl (by decide) (by omega) v143 y142 a1 [.int .i64 a1] (fun _ => True) (fun _ => False) rfl rfl ?aP (fun _ hk => hk.elim) ?aF ?aO ?aB ?aS ?aL ?_; (case aP => exact rfl); (case aB => exact (by repeat (first | (with_reducible first | exact HB.out | apply below_alloc | apply pw_below_drewN | apply below_drew1) | exact HB.out))); (case aF => exact (fun _ _ => trivial)); (case aO => exact (by (with_reducible repeat (first | apply Kd.R_alloc | apply Kd.R_drewN | apply Kd.R_drew)); exact HO144.out)); (case aS => exact (below_size (by repeat (first | (with_reducible first | exact HB.out | apply below_alloc | apply pw_below_drewN | apply below_drew1) | exact HB.out)))); (case aL => have := LMc29.out; omega); intro v146 w37 ho hb hg hat; rw [← Ny145.out] at ho; have n0_ := Aside0.mk (hb); have n1_ := Aside0.mk (ho); clear HB; clear HO144; have HB := n0_; have HO147 := n1_; clear n0_ n1_; clear ho hb hg hat; obtain ⟨i038, hi038, _, hsz38, _⟩ := info_parts info3; obtain ⟨A38, hcut38, hA38, hC38⟩ := print_drop_of (P := Try.prog) (Value.int .i64) 0 36 3 .i64 Try.underlying36 hi038 hsz38 A0 c0 l0 x5_1 (of_decide_eq_true (by first | (with_reducible assumption) | assumption)) (of_decide_eq_true (by first | (with_reducible assumption) | assumption)) HC0.out; have HR148 := Aside0.mk (Kd.C_of_reads (h1 := fun _ => rfl) (hA38 _ (Kd.reads_of_C HR0.out))); have HC148 := Aside0.mk hC38; clear hA38 hC38 hi038 hsz38) | ((with_reducible refine gate_builtin (b := .append) (xs := #[.tmp 36, .tmp 39]) rfl ?_); at_builtin; refine Kd.R_append_rows (Kd.int .i64) (w0 := w) w.heap.size rfl (.tmp 36) (.tmp 39) 36 3 (.int .i64 0) 8 rfl Try.underlying36 info3 rfl (by decide) (by omega) v146 y145 (l0.drop (x5_1 : Int).toNat) _ _ _ (fun _ => True) (fun _ => False) rfl rfl ?aO ?aR (fun _ _ h => h) (fun _ h => h.elim) ?aF ?aB ?aS ?aL ?_; (case aR => first | ((conv => (arg 5; rw [← show (l0.drop (x5_1 : Int).toNat).length = (l0.length - x5_1.toNat) from List.length_drop])); repeat (first | exact (Kd.C_below HR148.out HB.out) | (with_reducible refine Kd.C_alloc ?_ _) | (with_reducible refine Kd.C_drewN ?_ _) | (with_reducible refine Kd.C_drew ?_))) | (repeat (first | exact (Kd.C_below HR148.out HB.out) | (with_reducible refine Kd.C_alloc ?_ _) | (with_reducible refine Kd.C_drewN ?_ _) | (with_reducible refine Kd.C_drew ?_)))); (case aB => exact (by repeat (first | (with_reducible first | exact HB.out | apply below_alloc | apply pw_below_drewN | apply below_drew1) | exact HB.out))); (case aF => exact (fun _ _ => trivial)); (case aO => exact (by (with_reducible repeat (first | apply Kd.R_alloc | apply Kd.R_drewN | apply Kd.R_drew)); exact HO147.out)); (case aS => exact (below_size (by repeat (first | (with_reducible first | exact HB.out | apply below_alloc | apply pw_below_drewN | apply below_drew1) | exact HB.out)))); (case aL => have := LMc32.out; have hlx_ := (show (l0.drop (x5_1 : Int).toNat).length = (l0.length - x5_1.toNat) from List.length_drop); omega); intro v150 w39 ho hb hg hat; rw [← Ny149.out] at ho; have n0_ := Aside0.mk (hb); have n1_ := Aside0.mk (ho); clear HB; clear HO147; have HB := n0_; have HO151 := n1_; clear n0_ n1_; clear ho hb hg hat))
                    go_ret
                    exact ⟨_, by first | rfl | (simp [errW_none, errW_some] <;> rfl) | (simp [*, errW_none, errW_some] <;> rfl), by (with_reducible repeat (first | apply Kd.R_alloc | apply Kd.R_drewN | apply Kd.R_drew)); exact HO151.out, by repeat (first | (with_reducible first | exact HB.out | apply below_alloc | apply pw_below_drewN | apply below_drew1) | exact HB.out)⟩
                  · rw [if_neg c32] at H
                    exact absurd H (by simp)
                · rw [if_neg c29] at H
                  exact absurd H (by simp)
              · rw [if_neg c28] at H
                exact absurd H (by simp)
            · rw [if_neg c27] at H
              exact absurd H (by simp)
          · rw [if_neg c26] at H
            exact absurd H (by simp)

/-! ### impl_copyInts: function 53 -/
def impl_copyInts.f (l0 : List Int) : Option (List Int) := if ([] : List Int).length + l0.length < 17592186044416 then (some (([] : List Int) ++ l0)) else (none)
set_option maxHeartbeats 8000000 in
set_option maxRecDepth 100000 in
theorem impl_copyInts.calls (A0 : Option Addr) (c0 : Nat) (l0 : List Int) (r : List Int) (w : World) (hr0 : Kd.C (Kd.int .i64) w A0 l0.length l0) (hc0 : l0.length ≤ c0) (h : impl_copyInts.f l0 = some r) :
    Calls Try.prog 53 #[.slice A0 l0.length c0] w fun e w' => ∃ v0_ : Value, e = .returned (v0_) ∧ Kd.R (Kd.int .i64) 3 w' w.heap.size (fun _ => True) v0_ r ∧ Below w.heap.size w w' := by
  have HR0 := Aside0.mk hr0
  have HC0 := Aside0.mk hc0
  clear hr0 hc0
  have HB := Aside0.mk (Below.refl w.heap.size w)
  have H : (if ([] : List Int).length + l0.length < 17592186044416 then (some (([] : List Int) ++ l0)) else (none)) = some r := h
  clear h
  by_cases c2 : ([] : List Int).length + l0.length < 17592186044416
  · rw [if_pos c2] at H
    have LMc2 := Aside0.mk c2
    clear c2
    obtain ⟨y152, hy152⟩ : ∃ y_ : List Int, y_ = (([] : List Int) ++ l0) := ⟨_, rfl⟩
    replace H : (some y152) = some r := by first | (rw [hy152]; with_reducible exact H) | (have H2_ := (Option.bind_some _ _).symm.trans H; rw [hy152]; with_reducible exact H2_) | (have H2_ := (Option.bind_some _ _).symm.trans H; with_reducible exact H2_) | with_reducible exact H | (rw [hy152]; exact H) | exact H
    have Ny152 := Aside0.mk hy152
    clear hy152
    obtain rfl := Option.some.inj H
    go_enter Try.func53, Try.ntmps53
    go_wp2_with (first | ((with_reducible refine gate_builtin (b := .append) (xs := #[.const (.slice none 0 0), .tmp 3]) rfl ?_); at_builtin; refine Kd.R_append_rows (Kd.int .i64) (w0 := w) w.heap.size rfl (.const (.slice none 0 0)) (.tmp 3) 36 3 (.int .i64 0) 8 rfl Try.underlying36 info3 rfl (by decide) (by omega) (.slice none 0 0) ([] : List Int) l0 _ _ _ (fun _ => True) (fun _ => False) rfl rfl ?aO ?aR (fun _ _ h => h) (fun _ h => h.elim) ?aF ?aB ?aS ?aL ?_; (case aR => repeat (first | exact HR0.out | (with_reducible refine Kd.C_alloc ?_ _) | (with_reducible refine Kd.C_drewN ?_ _) | (with_reducible refine Kd.C_drew ?_))); (case aB => exact (by repeat (first | (with_reducible first | exact HB.out | apply below_alloc | apply pw_below_drewN | apply below_drew1) | exact HB.out))); (case aF => exact (fun _ _ => trivial)); (case aO => exact ((Kd.R_nil _ _ _ _ (fun _ => True)))); (case aS => exact (below_size (by repeat (first | (with_reducible first | exact HB.out | apply below_alloc | apply pw_below_drewN | apply below_drew1) | exact HB.out)))); (case aL => have := LMc2.out; omega); intro v153 w3 ho hb hg hat; rw [← Ny152.out] at ho; have n0_ := Aside0.mk (hb); have n1_ := Aside0.mk (ho); clear HB; have HB := n0_; have HO154 := n1_; clear n0_ n1_; clear ho hb hg hat))
    go_ret
    exact ⟨_, by first | rfl | (simp [errW_none, errW_some] <;> rfl) | (simp [*, errW_none, errW_some] <;> rfl), by (with_reducible repeat (first | apply Kd.R_alloc | apply Kd.R_drewN | apply Kd.R_drew)); exact HO154.out, by repeat (first | (with_reducible first | exact HB.out | apply below_alloc | apply pw_below_drewN | apply below_drew1) | exact HB.out)⟩
  · rw [if_neg c2] at H
    exact absurd H (by simp)

/-! ### impl_SetAdd: function 39 -/
def laysIns_ren : Go.Shelf.Ren := ⟨fun | 21 => 56 | 27 => 62 | 28 => 63 | 35 => 66 | 39 => 68 | n => n, fun | 22 => 36 | 3 => 3 | 4 => 4 | 0 => 0 | n => n, fun | n => n⟩
theorem laysIns : Lays2.n21 Try.prog laysIns_ren := {
  mixed := by kernel_rfl
  f21 := Try.func56.trans (congrArg some (by kernel_rfl))
  f27 := Try.func62.trans (congrArg some (by kernel_rfl))
  f28 := Try.func63.trans (congrArg some (by kernel_rfl))
  f35 := Try.func66.trans (congrArg some (by kernel_rfl))
  f39 := Try.func68.trans (congrArg some (by kernel_rfl))
  t0 := Try.underlying0
  a0 := Try.isAgg0
  z0 := Try.sizeOf0
  v0 := Try.zeroValue0
  t3 := Try.underlying3
  a3 := Try.isAgg3
  z3 := Try.sizeOf3
  v3 := Try.zeroValue3
  t4 := Try.underlying4
  a4 := Try.isAgg4
  z4 := Try.sizeOf4
  v4 := Try.zeroValue4
  t22 := Try.underlying36
  a22 := Try.isAgg36
  z22 := Try.sizeOf36
  v22 := Try.zeroValue36
  i3 := by kernel_rfl }
def putL (cur : Array Value) : Nat → List Value → Array Value
  | _, [] => cur
  | o, v :: r => putL (cur.setIfInBounds o v) (o + 1) r
theorem putL_size : ∀ (vs : List Value) (cur : Array Value) (o : Nat), (putL cur o vs).size = cur.size
  | [], _, _ => rfl
  | v :: r, cur, o => by rw [putL, putL_size r]; simp
theorem putL_list : ∀ (vs : List Value) (cur : Array Value) (o : Nat), o + vs.length ≤ cur.size → (putL cur o vs).toList = cur.toList.take o ++ vs ++ cur.toList.drop (o + vs.length)
  | [], cur, o, h => by simp [putL]
  | v :: r, cur, o, h => by
    have h1 : o < cur.size := by simp at h; omega
    rw [putL, putL_list r _ _ (by simp at h ⊢; omega)]
    simp only [Array.toList_setIfInBounds, List.length_cons]
    have e1 : (cur.toList.set o v).take (o + 1) = cur.toList.take o ++ [v] := by
      rw [List.take_succ_eq_append_getElem (by simpa using h1)]
      simp [List.take_set_of_le]
    rw [e1, List.drop_set_of_lt (by omega), show o + 1 + r.length = o + (r.length + 1) by omega]
    simp
theorem heap_setCells_at (g : Nat) (t : TypeId) : ∀ (vs : List Value) (o : Nat) (w : World) (cur : Array Value), w.heap[g]? = some (.cells cur t (0, 0)) → (w.setCells g o vs).heap[g]? = some (.cells (putL cur o vs) t (0, 0))
  | [], _, _, _, h => h
  | v :: r, o, w, cur, h => by
    rw [World.setCells, putL]
    exact heap_setCells_at g t r (o + 1) _ _ (Go.Joins.block_setCell h v)
theorem below_setCells_at {B g : Nat} (hB : B ≤ g) : ∀ (vs : List Value) (o : Nat) (a w : World), Below B a w → Below B a (w.setCells g o vs)
  | [], _, _, _, h => h
  | v :: r, o, a, w, h => by
    rw [World.setCells]
    exact below_setCells_at hB r (o + 1) a _ (h.setCell (p := ⟨g, o, none⟩) hB v)
theorem nums_take (l : List Int) (i : Nat) : nums .i64 (l.take i) = (nums .i64 l).take i := by simp [nums]
theorem nums_drop (l : List Int) (i : Nat) : nums .i64 (l.drop i) = (nums .i64 l).drop i := by simp [nums]
theorem nums_one (l : List Int) : ∀ v ∈ nums .i64 l, v.oneCell' = true := by
  intro v hv
  obtain ⟨x, _, rfl⟩ := List.mem_map.1 hv
  rfl
theorem nums_ins (l : List Int) (x : Int) (i : Nat) : nums .i64 (l.take i ++ x :: l.drop i) = (nums .i64 l).take i ++ Value.int .i64 x :: (nums .i64 l).drop i := by simp [nums]
theorem heap_new (w : World) (o : Obj) : (w.drew.alloc o).heap[w.heap.size]? = some o := by
  show (w.heap.push o)[w.heap.size]? = _
  exact Array.getElem?_push_size
set_option maxHeartbeats 4000000 in
/-- slices.Insert(s, i, x) at ints, s a row of the caller's own, x in a fresh block: a row that holds the elements with x at place i; what lay below the base stays. -/
theorem insert_own (B : Nat) (W : World) (v : Value) (l : List Int) (x : Int) (i : Nat) (vb : Nat) (hown : W.ownsRow B 3 1 v l.length (nums .i64 l)) (hi : i ≤ l.length) (hvb : W.heap[vb]? = some (.cells #[.int .i64 x] 3 (0, 0)))
    (hne : v.ownBlock ≠ some vb) (hB : B ≤ W.heap.size) (hbig : l.length + 1 < 17592186044416) :
    Calls Try.prog 56 #[v, .int .i64 i, .slice (some ⟨vb, 0, none⟩) 1 1] W fun e w' => ∃ v', e = .returned v' ∧ w'.ownsRow B 3 1 v' (l.length + 1) (nums .i64 (l.take i ++ x :: l.drop i)) ∧ Below B W w' := by
  have hvlt : vb < W.heap.size := (Array.getElem?_eq_some_iff.1 hvb).1
  have hvs : ∀ j (u : Value), ([Value.int .i64 x] : List Value)[j]? = some u → W.cell? ⟨vb, 0 + j, none⟩ = some u := by
    intro j u hj
    rw [Go.Joins.cell_of_block hvb]
    rcases j with _ | j
    · simpa using hj
    · simp at hj
  have h1v : ∀ u ∈ [Value.int .i64 x], u.oneCell' = true := by
    intro u hu
    rw [List.mem_singleton] at hu
    subst hu; rfl
  have hnl : (nums .i64 l).length = l.length := nums_length _ _
  obtain ⟨hlen, hv⟩ := hown
  rcases hv with ⟨rfl, hn⟩ | ⟨g, cap, cur, rfl, hg, hh, hnc, hcm, hcs, htk⟩
  · -- nil
    obtain rfl : l = [] := List.eq_nil_of_length_eq_zero hn
    obtain rfl : i = 0 := by simpa using hi
    refine (Any2.slices_Insert_int_end_grow laysIns none 0 0 vb 0 1 1 [] [.int .i64 x] W (by omega) (by omega) (by omega) (by omega) rfl rfl (fun _ => rfl) (fun _ h => by cases h) hvs h1v).mono ?_
    rintro e w' ⟨rfl, rfl⟩
    have hge := grownCap_ge W 1 0 3
    have hle := grownCap_le_maxLen W 1 0 3 (by unfold maxLen; omega)
    refine ⟨_, rfl, ⟨by simp [nums], .inr ⟨_, _, _, rfl, hB, heap_new W _, hge, hle, ?_, ?_⟩⟩, ((Below.refl _ _).drew).alloc (by simpa using hB) _⟩
    · simp [Builtin.zeroCells, laysIns_ren, Value.cells]
      omega
    · simp [nums]
  · have hcl : ∀ j u, (nums .i64 l)[j]? = some u → W.cell? ⟨g, 0 + j, none⟩ = some u := by
      intro j u hj
      rw [Go.Joins.cell_of_block hh, Nat.zero_add]
      rw [← htk, Nat.mul_one] at hj
      have hjl : j < l.length := by
        have := (List.getElem?_eq_some_iff.1 hj).1
        rw [List.length_take] at this
        omega
      rw [List.getElem?_take_of_lt hjl] at hj
      simpa using hj
    have hsome : ∀ j, j < cap → (W.cell? ⟨g, 0 + j, none⟩).isSome = true := by
      intro j hj
      rw [Go.Joins.cell_of_block hh, Nat.zero_add]
      rw [Nat.mul_one] at hcs
      simp [hcs, hj]
    have hfz : ∀ j, W.frozen? ⟨g, j, none⟩ = false := fun j => Go.Joins.unfrozen_of_block hh j
    have hgv : vb ≠ g := by
      rintro rfl
      exact hne rfl
    have hcur : cur.toList.take l.length = nums .i64 l := by rw [Nat.mul_one] at htk; exact htk
    have hcsz : cur.size = cap := by rw [hcs, Nat.mul_one]
    have hl0 : (nums .i64 l).length = l.length := nums_length _ _
    unfold maxLen at hcm
    by_cases hin : i = l.length
    · subst hin
      by_cases hroom : l.length + 1 ≤ cap
      · refine (Any2.slices_Insert_int_end_room laysIns g 0 l.length cap vb 0 1 1 [.int .i64 x] W (by omega) hroom hcm rfl (fun j hj => by rw [show 0 + l.length + j = 0 + (l.length + j) by omega]; exact hsome _ (by omega)) (fun j hj => hfz _) hvs h1v).mono ?_
        rintro e w' ⟨rfl, rfl⟩
        refine ⟨_, rfl, ⟨by simp [nums], .inr ⟨g, cap, _, rfl, hg, heap_setCells_at g 3 _ _ _ _ hh, hroom, by unfold maxLen; omega, by rw [putL_size]; exact hcs, ?_⟩⟩, below_setCells_at hg _ _ _ _ (Below.refl _ _)⟩
        have t1 : (nums .i64 l).take l.length = nums .i64 l := List.take_of_length_le (by omega)
        have d1 : (nums .i64 l).drop l.length = [] := List.drop_of_length_le (by omega)
        rw [putL_list _ _ _ (by simp; omega), Nat.zero_add, Nat.mul_one, hcur, nums_ins, t1, d1]
        rw [List.take_append_of_le_length (by simp [hl0]), List.take_of_length_le (by simp [hl0])]
      · have hce : cap = l.length := by omega
        subst hce
        refine (Any2.slices_Insert_int_end_grow laysIns (some ⟨g, 0, none⟩) l.length l.length vb 0 1 1 (nums .i64 l) [.int .i64 x] W (by omega) (by omega) (by omega) (by omega) hl0 rfl (fun h => by cases h) (fun a h j u hj => by
          obtain rfl := Option.some.inj h
          have := hcl j u hj
          rw [add_plain]; simpa using this) hvs h1v).mono ?_
        rintro e w' ⟨rfl, rfl⟩
        have hge := grownCap_ge W (l.length + 1) l.length 3
        have hle := grownCap_le_maxLen W (l.length + 1) l.length 3 (by unfold maxLen; omega)
        refine ⟨_, rfl, ⟨by simp [nums], .inr ⟨_, _, _, rfl, hB, heap_new W _, hge, hle, ?_, ?_⟩⟩, ((Below.refl _ _).drew).alloc (by simpa using hB) _⟩
        · simp [Builtin.zeroCells, laysIns_ren, Value.cells, hl0]
          omega
        · have t1 : (nums .i64 l).take l.length = nums .i64 l := List.take_of_length_le (by omega)
          have d1 : (nums .i64 l).drop l.length = [] := List.drop_of_length_le (by omega)
          rw [nums_ins, t1, d1]
          simp
          rw [List.take_append, hl0, List.take_of_length_le (by omega)]
          simp
    · have hlt : i < l.length := by omega
      by_cases hroom : l.length + 1 ≤ cap
      · refine (Any2.slices_Insert_int_shift laysIns g 0 l.length cap i vb 0 1 1 (nums .i64 l) [.int .i64 x] W hlt (by omega) hroom hcm hgv hl0 rfl hcl (fun j hj => hsome j (by omega)) (fun j hj => hfz _) hvs (nums_one l) h1v
          3 3 1 cap (by simp [World.shape?, hvb]) (by simp [World.shape?, hh, hcsz]) (by omega) (Go.Joins.unfrozen_of_block hvb _) (Go.Joins.unfrozen_of_block hvb _)).mono ?_
        rintro e w' ⟨rfl, rfl⟩
        have hh' : W.drew.heap[g]? = some (.cells cur 3 (0, 0)) := hh
        refine ⟨_, rfl, ⟨by simp [nums]; omega, .inr ⟨g, cap, _, rfl, hg, heap_setCells_at g 3 _ _ _ _ (heap_setCells_at g 3 _ _ _ _ hh'), hroom, by unfold maxLen; omega, by rw [putL_size, putL_size]; exact hcs, ?_⟩⟩, below_setCells_at hg _ _ _ _ (below_setCells_at hg _ _ _ _ (Below.refl _ _).drew)⟩
        have hd : ((nums .i64 l).drop i).length = l.length - i := by rw [List.length_drop, hl0]
        rw [putL_list _ _ _ (by rw [putL_size]; simp; omega), putL_list _ _ _ (by rw [hd]; omega), Nat.mul_one, nums_ins]
        have e1 : cur.toList.take i = (nums .i64 l).take i := by rw [← hcur, List.take_take, Nat.min_eq_left (by omega)]
        have l1 : (cur.toList.take (0 + (i + 1))).length = i + 1 := by rw [List.length_take]; simp; omega
        have l2 : (cur.toList.take (0 + (i + 1)) ++ (nums .i64 l).drop i).length = l.length + 1 := by rw [List.length_append, l1, hd]; omega
        have e2 : ((cur.toList.take (0 + (i + 1)) ++ (nums .i64 l).drop i) ++ cur.toList.drop (0 + (i + 1) + ((nums .i64 l).drop i).length)).take (0 + i) = (nums .i64 l).take i := by
          rw [List.take_append_of_le_length (by rw [l2]; omega), List.take_append_of_le_length (by rw [l1]; omega), List.take_take, Nat.zero_add, Nat.zero_add, Nat.min_eq_left (by omega), e1]
        have e3 : (((cur.toList.take (0 + (i + 1)) ++ (nums .i64 l).drop i) ++ cur.toList.drop (0 + (i + 1) + ((nums .i64 l).drop i).length)).drop (0 + i + 1)).take (l.length - i) = (nums .i64 l).drop i := by
          rw [List.append_assoc, List.drop_append_of_le_length (by rw [l1]; omega), List.drop_of_length_le (by rw [l1]; omega), List.nil_append, List.take_append_of_le_length (by rw [hd]; omega), List.take_of_length_le (by rw [hd]; omega)]
        rw [e2]
        have l3 : ((nums .i64 l).take i).length = i := by rw [List.length_take, hl0]; omega
        rw [List.append_assoc, List.take_append, List.take_of_length_le (by rw [l3]; omega), l3]
        congr 1
        rw [show l.length + 1 - i = (l.length - i) + 1 by omega]
        simp only [List.singleton_append, List.take_succ_cons, List.length_singleton]
        rw [e3]
      · refine (Any2.slices_Insert_int_grow laysIns g 0 l.length cap i vb 0 1 1 (nums .i64 l) [.int .i64 x] W hlt (by omega) hnc (by omega) (by omega) hl0 rfl hcl hvs (nums_one l) h1v).mono ?_
        rintro e w' ⟨rfl, rfl⟩
        have hge := grownCap_ge W (l.length + 1) cap 3
        have hle := grownCap_le_maxLen W (l.length + 1) cap 3 (by unfold maxLen; omega)
        have hd : ((nums .i64 l).drop i).length = l.length - i := by rw [List.length_drop, hl0]
        have l3 : ((nums .i64 l).take i).length = i := by rw [List.length_take, hl0]; omega
        generalize hgc : grownCap W (l.length + 1) cap 3 = gc at hge hle
        have hz : ∀ q : Nat, (Builtin.zeroCells (Value.int .i64 0).cells q).size = q := by intro q; simp [Builtin.zeroCells, Value.cells]
        obtain ⟨z1, hz1⟩ : ∃ z1, z1 = Builtin.zeroCells (Value.int .i64 0).cells (l.length + 1 - i) := ⟨_, rfl⟩
        obtain ⟨z2, hz2⟩ : ∃ z2, z2 = Builtin.zeroCells (Value.int .i64 0).cells (gc - (l.length + 1)) := ⟨_, rfl⟩
        have s1 : z1.toList.length = l.length + 1 - i := by rw [hz1]; simp [hz]
        have s2 : z2.toList.length = gc - (l.length + 1) := by rw [hz2]; simp [hz]
        have hH : ∀ C : Array Value, ((W.alloc (.cells C 3 (0, 0))).drew).heap[W.heap.size]? = some (.cells C 3 (0, 0)) := fun C => by
          show (W.heap.push _)[W.heap.size]? = _
          exact Array.getElem?_push_size
        have hnew : ((nums .i64 l).take i).toArray.size = i := by simp [l3]
        refine ⟨_, rfl, ⟨by simp [nums]; omega, .inr ⟨W.heap.size, gc, _, by simp [laysIns_ren, hgc], hB, heap_setCells_at _ 3 _ _ _ _ (heap_setCells_at _ 3 _ _ _ _ (hH _)), hge, hle, ?_, ?_⟩⟩, below_setCells_at hB _ _ _ _ ((below_setCells_at hB _ _ _ _ ((Below.refl _ _).alloc hB _).drew).drew)⟩
        · rw [putL_size, putL_size]
          simp only [laysIns_ren, hgc, ← hz1, ← hz2, Array.size_append, hnew]
          simp only [← Array.length_toList, s1, s2]
          omega
        · have hN : (((nums .i64 l).take i).toArray ++ z1 ++ z2).toList = (nums .i64 l).take i ++ z1.toList ++ z2.toList := by simp
          simp only [laysIns_ren, hgc, ← hz1, ← hz2]
          rw [putL_list _ _ _ (by rw [putL_size]; simp only [Array.size_append, hnew]; simp only [← Array.length_toList, s1, s2, hd]; omega), putL_list _ _ _ (by simp only [Array.size_append, hnew]; simp only [← Array.length_toList, s1, s2, List.length_singleton]; omega), hN, Nat.mul_one, nums_ins]
          have a1 : ((nums .i64 l).take i ++ z1.toList ++ z2.toList).take i = (nums .i64 l).take i := by
            rw [List.append_assoc, List.take_append_of_le_length (by omega), List.take_of_length_le (by omega)]
          rw [a1]
          have a2 : (((nums .i64 l).take i ++ [Value.int .i64 x]) ++ ((nums .i64 l).take i ++ z1.toList ++ z2.toList).drop (i + [Value.int .i64 x].length)).take (i + 1) = (nums .i64 l).take i ++ [Value.int .i64 x] := by
            rw [List.take_append_of_le_length (by simp [l3]), List.take_of_length_le (by simp [l3])]
          rw [a2]
          rw [List.take_append_of_le_length (by simp [hl0]; omega), List.take_of_length_le (by simp [hl0]; omega)]
          simp
set_option maxHeartbeats 400000 in
theorem geq_call (a x : Int) (b : Nat) (W : World) (hb : W.cell? ⟨b, 0, none⟩ = some (.int .i64 a)) :
    Calls Try.prog 55 #[.int .i64 x, .pointer (some ⟨b, 0, none⟩)] W fun e w' => e = .returned (.bool (decide (a ≤ x))) ∧ w' = W := by
  go_enter Try.func55, Try.ntmps55
  go_wp2
  go_ret
  exact ⟨rfl, rfl⟩
theorem reads_at {w : World} {A : Option Addr} {l : List Int} (hr : Kd.C (Kd.int .i64) w A l.length l) (h0 : 0 < l.length) : ∃ ad, A = some ad ∧ ∀ j (hj : j < l.length), w.cell? (ad.add j) = some (.int .i64 l[j]) := by
  obtain ⟨_, _, h⟩ := Kd.reads_of_C (d := (0 : Int)) hr
  obtain ⟨ad, e, hc⟩ := h h0
  refine ⟨ad, e, fun j hj => ?_⟩
  have := hc j hj
  simpa [List.getD_eq_getElem?_getD, hj] using this
def firstGeq (l : List Int) (a : Int) : Nat := l.findIdx (fun x => decide (a ≤ x))
def retGeq (l : List Int) (a : Int) : Int := if firstGeq l a < l.length then (firstGeq l a : Int) else -1
theorem retGeq_hit (l : List Int) (a : Int) (j : Nat) (hj : j < l.length) (h : a ≤ l[j]) (hb : ∀ i (hi : i < j), ¬ a ≤ l[i]) : retGeq l a = (j : Int) := by
  have e : firstGeq l a = j := by
    unfold firstGeq
    rw [List.findIdx_eq hj]
    exact ⟨by simpa using h, fun i hi => by simpa using hb i hi⟩
  unfold retGeq
  rw [e, if_pos hj]
theorem retGeq_none (l : List Int) (a : Int) (hb : ∀ i (hi : i < l.length), ¬ a ≤ l[i]) : retGeq l a = -1 := by
  unfold retGeq firstGeq
  rw [if_neg]
  rw [List.findIdx_lt_length]
  rintro ⟨x, hx, hp⟩
  obtain ⟨i, hi, rfl⟩ := List.getElem_of_mem hx
  exact hb i hi (by simpa using hp)
set_option maxHeartbeats 1000000 in
theorem indexFunc_geq (A : Option Addr) (c : Nat) (l : List Int) (a : Int) (b : Nat) (w : World) (hr : Kd.C (Kd.int .i64) w A l.length l) (hl : l.length < 4611686018427387904) (hb : w.cell? ⟨b, 0, none⟩ = some (.int .i64 a)) :
    Calls Try.prog 54 #[.slice A l.length c, .func (.func 55) #[] #[.pointer (some ⟨b, 0, none⟩)]] w fun e w' => e = .returned (.int .i64 (retGeq l a)) ∧ w' = w := by
  obtain ⟨n, hn⟩ : ∃ n, n = l.length := ⟨_, rfl⟩
  have HN := Aside0.mk hn
  have HC : Aside0 (∀ i (hi : i < l.length), ∃ ad, A = some ad ∧ w.cell? (ad.add i) = some (.int .i64 l[i])) := ⟨fun i hi => by
    obtain ⟨ad, e, hc⟩ := reads_at hr (by omega)
    exact ⟨ad, e, hc i hi⟩⟩
  rw [← hn] at hl ⊢
  clear hr hn
  rcases A with _ | ad
  · go_enter Try.func54, Try.ntmps54
    go_wp2
    go_loop [5, 8] (fun _ s8 => ∃ kk : Nat, kk ≤ n ∧ s8 = .int .i64 kk) (fun _ s8 => n - (intOf s8).toNat)
    case atStart => exact ⟨0, by omega, rfl⟩
    case round =>
      obtain ⟨kk, hkk, rfl⟩ := hrel
      by_cases hlt : kk < n
      · obtain ⟨_, h, _⟩ := HC.out kk (by have := HN.out; omega)
        cases h
      · have HR := Aside0.mk (retGeq_none l a (fun i hi => by obtain ⟨_, h, _⟩ := HC.out i hi; cases h))
        go_wp2
        go_ret
        exact ⟨by rw [HR.out]; rfl, rfl⟩
  · go_enter Try.func54, Try.ntmps54
    go_wp2
    go_loop [5, 8] (fun _ s8 => ∃ kk : Nat, kk ≤ n ∧ s8 = .int .i64 kk ∧ Aside0 (∀ i (hi : i < kk) (h2 : i < l.length), l[i] < a)) (fun _ s8 => n - (intOf s8).toNat)
    case atStart => exact ⟨0, by omega, rfl, ⟨fun i hi => absurd hi (by omega)⟩⟩
    case round =>
      obtain ⟨kk, hkk, rfl, HB⟩ := hrel
      by_cases hlt : kk < n
      · have hlt2 : kk < l.length := by rw [← HN.out]; exact hlt
        have hcell : w.cell? (ad.add kk) = some (.int .i64 l[kk]) := by
          obtain ⟨ad', e, hc⟩ := HC.out kk hlt2
          obtain rfl := Option.some.inj e
          exact hc
        by_cases hge : a ≤ l[kk]
        · have hd : decide (a ≤ l[kk]) = true := decide_eq_true hge
          have HR := Aside0.mk (retGeq_hit l a kk hlt2 hge (fun i hi => by have := HB.out i hi (by omega); omega))
          generalize l[kk] = z at hcell hge hd
          clear hge
          have hk := geq_call a z b w hb
          rw [hd] at hk
          clear hd hlt2 HB
          have HK := Aside0.mk hk
          clear hk
          go_wp2_with fail
          (with_reducible refine HK.out.mono ?_)
          rintro e w' ⟨rfl, rfl⟩
          go_wp2_with fail
          go_ret
          exact ⟨by rw [HR.out]; rfl, rfl⟩
        · have hd : decide (a ≤ l[kk]) = false := decide_eq_false hge
          have HB2 : Aside0 (∀ i (hi : i < kk + 1) (h2 : i < l.length), l[i] < a) := ⟨fun i hi h2 => by
            rcases Nat.lt_or_ge i kk with h | h
            · exact HB.out i h h2
            · obtain rfl : i = kk := by omega
              omega⟩
          generalize l[kk] = z at hcell hge hd
          clear hge
          have hk := geq_call a z b w hb
          rw [hd] at hk
          clear hd hlt2 HB
          have HK := Aside0.mk hk
          clear hk
          go_wp2_with fail
          (with_reducible refine HK.out.mono ?_)
          rintro e w' ⟨rfl, rfl⟩
          go_wp2_with fail
          go_round
          case rel => exact ⟨kk + 1, by omega, by go_num, HB2⟩
          case measure => simp [intOf]; omega
      · have HR := Aside0.mk (retGeq_none l a (fun i hi => by have := HB.out i (by have := HN.out; omega) hi; omega))
        go_wp2
        go_ret
        exact ⟨by rw [HR.out]; rfl, rfl⟩
theorem heap_new0 (w : World) (o : Obj) : (w.alloc o).heap[w.heap.size]? = some o := by
  show (w.heap.push o)[w.heap.size]? = _
  exact Array.getElem?_push_size
theorem heap_new2 (w : World) (o o' : Obj) (nd : Nat) : (((w.alloc o).drewN (nd + 1)).alloc o').heap[w.heap.size + 1]? = some o' := by
  have e : w.heap.size + 1 = ((w.alloc o).drewN (nd + 1)).heap.size := by simp
  rw [e]; exact heap_new0 _ _
theorem below_alloc' {w W : World} {B : Nat} (h : Below B w W) (hB : B ≤ W.heap.size) (o : Obj) : Below B w (W.alloc o) := h.alloc hB o
theorem own_far {w : World} {B g : Nat} {ok : Nat → Prop} {v : Value} {l : List Int} (h : Kd.R (Kd.int .i64) 3 w B ok v l) (hg : g < B) : v.ownBlock ≠ some g := by
  intro e
  have := own_base (Kd.own_of_R h) _ e
  omega
theorem own_new {w : World} {B : Nat} {ok : Nat → Prop} {v : Value} {l : List Int} (h : Kd.R (Kd.int .i64) 3 w B ok v l) : v.ownBlock ≠ some w.heap.size := by
  intro e
  have := own_lt (Kd.own_of_R h) _ e
  omega
def impl_SetAdd.f (k : Nat) (l0 : List Int) (a1 : Int) : Option (List Int) := (impl_SetHas.f k l0 a1).bind fun t => if t = true then impl_copyInts.f l0 else if l0.length + 1 < 17592186044416 then some (l0.take (firstGeq l0 a1) ++ a1 :: l0.drop (firstGeq l0 a1)) else none
theorem impl_SetAdd.mono : ∀ a0 a1 k, LeO (impl_SetAdd.f k a0 a1) (impl_SetAdd.f (k + 1) a0 a1) := fun a0 a1 k => LeO.bind (impl_SetHas.mono a0 a1 k) (fun _ => LeO.refl _)
set_option maxHeartbeats 8000000 in
set_option maxRecDepth 100000 in
theorem impl_SetAdd.calls (k : Nat) (A0 : Option Addr) (c0 : Nat) (l0 : List Int) (a1 : Int) (r : List Int) (w : World) (hr0 : Kd.C (Kd.int .i64) w A0 l0.length l0) (hc0 : l0.length ≤ c0) (h : impl_SetAdd.f k l0 a1 = some r) :
    Calls Try.prog 39 #[.slice A0 l0.length c0, .int .i64 a1] w fun e w' => ∃ v0_ : Value, e = .returned v0_ ∧ Kd.R (Kd.int .i64) 3 w' w.heap.size (fun _ => True) v0_ r ∧ Below w.heap.size w w' := by
  unfold impl_SetAdd.f at h
  obtain ⟨t, hA, h⟩ := Option.bind_eq_some_iff.mp h
  have HA := Aside0.mk hA
  have HR := Aside0.mk hr0
  have HC := Aside0.mk hc0
  clear hA hr0 hc0
  cases t with
  | true =>
    rw [if_pos rfl] at h
    have H := Aside0.mk h
    clear h
    go_enter Try.func39, Try.ntmps39
    go_wp2_with fail
    (with_reducible refine (impl_SetHas.calls k A0 c0 l0 a1 true _ (Kd.C_alloc HR.out _) HC.out HA.out).mono ?_)
    rintro e w' ⟨rfl, ⟨nd, rfl⟩⟩
    go_wp2_with fail
    (with_reducible refine (impl_copyInts.calls A0 c0 l0 r _ (Kd.C_drewN (Kd.C_alloc HR.out _) _) HC.out H.out).mono ?_)
    rintro e w2 ⟨v0, rfl, hR, hb⟩
    go_wp2_with fail
    go_ret
    exact ⟨v0, rfl, Kd.R_lower hR (by simp), below_then (pw_below_drewN (below_alloc (Below.refl _ _) _) _) (by simp) hb⟩
  | false =>
    rw [if_neg (by decide)] at h
    by_cases hl : l0.length + 1 < 17592186044416
    · rw [if_pos hl] at h
      have H := Aside0.mk (Option.some.inj h)
      clear h
      go_enter Try.func39, Try.ntmps39
      go_wp2_with fail
      (with_reducible refine (impl_SetHas.calls k A0 c0 l0 a1 false _ (Kd.C_alloc HR.out _) HC.out HA.out).mono ?_)
      rintro e w' ⟨rfl, ⟨nd, rfl⟩⟩
      go_wp2_with fail
      have hI := fun W hr hb => indexFunc_geq A0 c0 l0 a1 w.heap.size W hr (by omega) hb
      have HI := Aside0.mk hI
      clear hI
      (with_reducible refine (HI.out _ (Kd.C_drewN (Kd.C_alloc HR.out _) _) ?cell).mono ?_)
      case cell => simp
      rintro e w' ⟨rfl, rfl⟩
      by_cases hf : firstGeq l0 a1 < l0.length
      · have hret : retGeq l0 a1 = (firstGeq l0 a1 : Int) := by unfold retGeq; rw [if_pos hf]
        rw [hret]
        clear hret
        generalize hfg : firstGeq l0 a1 = fg at hf H ⊢
        have HF := Aside0.mk hfg
        clear hfg
        go_wp2_with fail
        have hcp : impl_copyInts.f l0 = some l0 := by unfold impl_copyInts.f; rw [if_pos (by simp; omega)]; simp
        have HCP := Aside0.mk hcp
        clear hcp
        go_region_with (first | (go_at_call 53; (with_reducible refine (impl_copyInts.calls A0 c0 l0 l0 _ (Kd.C_drewN (Kd.C_alloc HR.out _) _) HC.out HCP.out).mono ?_); rintro e w2 ⟨v0, rfl, hR, hb⟩; have hb0 : Below w.heap.size w w2 := below_then (pw_below_drewN (below_alloc (Below.refl _ _) _) _) (by simp) hb; have hc2 : w2.cell? ⟨w.heap.size, 0, none⟩ = some (.int .i64 a1) := (hb.cell (p := ⟨w.heap.size, 0, none⟩) (by simp)).trans (by simp)) | (go_at_call 53; (with_reducible refine (impl_copyInts.calls A0 c0 l0 l0 _ (Kd.C_alloc (Kd.C_drewN (Kd.C_alloc HR.out _) _) _) HC.out HCP.out).mono ?_); rintro e w2 ⟨v0, rfl, hR2, hb2⟩; have hb0 : Below w.heap.size w w2 := below_then (below_alloc' (pw_below_drewN (below_alloc (Below.refl _ _) _) _) (by simp <;> omega) _) (by simp <;> omega) hb2; have hv2 : w2.heap[w.heap.size + 1]? = some (.cells #[.int .i64 a1] 3 (0, 0)) := (hb2.block _ (by simp)).trans (heap_new2 w _ _ nd)) | (go_at_call 56; (refine (insert_own w.heap.size (w2.alloc _) v0 l0 a1 fg w2.heap.size (own_less (own_alloc (Kd.own_of_R hR) _) (by simp)) (by omega) (heap_new0 w2 _) (own_new hR) (by have := hb.size; simp at this ⊢; omega) hl).mono ?_); rintro e w3 ⟨v1, rfl, ho, hb3⟩; have hb4 : Below w.heap.size w w3 := hb0.trans (((Below.refl _ _).alloc hb0.size _).trans hb3)) | (go_at_call 56; (refine (insert_own w.heap.size w2 v0 l0 a1 fg (w.heap.size + 1) (own_less (Kd.own_of_R hR2) (by simp <;> omega)) (by omega) hv2 (own_far hR2 (by simp)) (by have := hb2.size; simp at this ⊢; omega) hl).mono ?_); rintro e w3 ⟨v1, rfl, ho, hb3⟩; have hb4 : Below w.heap.size w w3 := hb0.trans hb3))
        all_goals
          go_wp2_with fail
          go_ret
          refine ⟨v1, rfl, Kd.R_of_own ?_ (fun _ _ => trivial), by first | exact hb4 | exact hb4.drew⟩
          rw [← H.out, show (List.take fg l0 ++ a1 :: List.drop fg l0).length = l0.length + 1 by simp <;> omega]
          exact ho
      · have hret : retGeq l0 a1 = -1 := by unfold retGeq; rw [if_neg hf]
        have hfl : firstGeq l0 a1 = l0.length := by
          have : firstGeq l0 a1 ≤ l0.length := List.findIdx_le_length
          omega
        rw [hret]
        rw [hfl] at H
        clear hret hfl hf
        go_wp2_with fail
        have hcp : impl_copyInts.f l0 = some l0 := by unfold impl_copyInts.f; rw [if_pos (by simp; omega)]; simp
        have HCP := Aside0.mk hcp
        clear hcp
        go_region_with (first | (go_at_call 53; (with_reducible refine (impl_copyInts.calls A0 c0 l0 l0 _ (Kd.C_drewN (Kd.C_alloc HR.out _) _) HC.out HCP.out).mono ?_); rintro e w2 ⟨v0, rfl, hR, hb⟩; have hb0 : Below w.heap.size w w2 := below_then (pw_below_drewN (below_alloc (Below.refl _ _) _) _) (by simp) hb; have hc2 : w2.cell? ⟨w.heap.size, 0, none⟩ = some (.int .i64 a1) := (hb.cell (p := ⟨w.heap.size, 0, none⟩) (by simp)).trans (by simp)) | (go_at_call 53; (with_reducible refine (impl_copyInts.calls A0 c0 l0 l0 _ (Kd.C_alloc (Kd.C_drewN (Kd.C_alloc HR.out _) _) _) HC.out HCP.out).mono ?_); rintro e w2 ⟨v0, rfl, hR2, hb2⟩; have hb0 : Below w.heap.size w w2 := below_then (below_alloc' (pw_below_drewN (below_alloc (Below.refl _ _) _) _) (by simp <;> omega) _) (by simp <;> omega) hb2; have hv2 : w2.heap[w.heap.size + 1]? = some (.cells #[.int .i64 a1] 3 (0, 0)) := (hb2.block _ (by simp)).trans (heap_new2 w _ _ nd)) | (go_at_call 56; (refine (insert_own w.heap.size (w2.alloc _) v0 l0 a1 l0.length w2.heap.size (own_less (own_alloc (Kd.own_of_R hR) _) (by simp)) (by omega) (heap_new0 w2 _) (own_new hR) (by have := hb.size; simp at this ⊢; omega) hl).mono ?_); rintro e w3 ⟨v1, rfl, ho, hb3⟩; have hb4 : Below w.heap.size w w3 := hb0.trans (((Below.refl _ _).alloc hb0.size _).trans hb3)) | (go_at_call 56; (refine (insert_own w.heap.size w2 v0 l0 a1 l0.length (w.heap.size + 1) (own_less (Kd.own_of_R hR2) (by simp <;> omega)) (by omega) hv2 (own_far hR2 (by simp)) (by have := hb2.size; simp at this ⊢; omega) hl).mono ?_); rintro e w3 ⟨v1, rfl, ho, hb3⟩; have hb4 : Below w.heap.size w w3 := hb0.trans hb3))
        all_goals
          go_wp2_with fail
          go_ret
          refine ⟨v1, rfl, Kd.R_of_own ?_ (fun _ _ => trivial), by first | exact hb4 | exact hb4.drew⟩
          rw [← H.out, show (List.take l0.length l0 ++ a1 :: List.drop l0.length l0).length = l0.length + 1 by simp <;> omega]
          exact ho
    · rw [if_neg hl] at h; cases h

end Go.Proofs.Ytppggjkffgjhkaa.PFnSets
