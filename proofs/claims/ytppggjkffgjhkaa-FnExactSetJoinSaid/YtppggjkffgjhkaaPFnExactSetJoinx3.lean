/- Walks of the functions that a law of seat Ytppggjkffgjhkaa reaches, each against a Lean function, printed by this session's wip/myprint.py; no condition of their own. -/
import Derived.Test.YtppggjkffgjhkaaPFnExactSetJoinx0
import Derived.Test.YtppggjkffgjhkaaPFnExactSetJoinx1
import Derived.Test.YtppggjkffgjhkaaPFnExactSetJoinx2
namespace Go.Proofs.Ytppggjkffgjhkaa.PFnExactSetJoin
open Go.RowKit Go.Proofs.YtppggjkffgjhkaaW.PrintWords Go.Proofs.YtppggjkffgjhkaaW.PrintLast Go.Proofs.YtppggjkffgjhkaaW.PrintMore
attribute [local go_sem] max2_int min2_int max_two min_two max_three min_three max_four min_four   -- for this text's walks alone
set_option linter.unusedVariables false
set_option linter.unusedSimpArgs false

/-! ### impl_SetJoin: function 43 -/
mutual
def impl_SetJoin.l0 : Nat → List Int → List Int → List Int → Int → Int → Option (List Int)
  | 0, _, _, _, _, _ => none
  | k + 1, x1, x5, x10, x11, x12 => if x12 < x11 then (if 0 ≤ x12 then (if x12 < (x10.length : Int) then ((impl_SetAdd.f k x5 (rd x10 x12)).bind fun t165 => (impl_SetJoin.l0 k x1 t165 x10 x11 (wrap64 (x12 + 1)))) else (none)) else (none)) else (impl_SetJoin.l1 k x5 x1 (x1.length : Int) 0)
def impl_SetJoin.l1 : Nat → List Int → List Int → Int → Int → Option (List Int)
  | 0, _, _, _, _ => none
  | k + 1, x5, x20, x21, x22 => if x22 < x21 then (if 0 ≤ x22 then (if x22 < (x20.length : Int) then ((impl_SetAdd.f k x5 (rd x20 x22)).bind fun t169 => (impl_SetJoin.l1 k t169 x20 x21 (wrap64 (x22 + 1)))) else (none)) else (none)) else (some x5)
end
def impl_SetJoin.f (k : Nat) (l0 : List Int) (l1 : List Int) : Option (List Int) := impl_SetJoin.l0 k l1 ([] : List Int) l0 (l0.length : Int) 0
theorem impl_SetJoin.mono_l : ∀ k, (∀ y0 y1 y2 y3 y4, LeO (impl_SetJoin.l0 k y0 y1 y2 y3 y4) (impl_SetJoin.l0 (k + 1) y0 y1 y2 y3 y4)) ∧ (∀ y0 y1 y2 y3, LeO (impl_SetJoin.l1 k y0 y1 y2 y3) (impl_SetJoin.l1 (k + 1) y0 y1 y2 y3))
  | 0 => ⟨fun _ _ _ _ _ r h => by simp [impl_SetJoin.l0] at h, fun _ _ _ _ r h => by simp [impl_SetJoin.l1] at h⟩
  | k + 1 => by
    obtain ⟨ih0, ih1⟩ := impl_SetJoin.mono_l k
    refine ⟨?_, ?_⟩
    · intro y0 y1 y2 y3 y4
      unfold impl_SetJoin.l0
      repeat' first
      | (with_reducible exact ih0 _ _ _ _ _)
      | (with_reducible exact ih1 _ _ _ _)
      | (with_reducible exact impl_SetAdd.mono _ _ _)
      | (with_reducible exact LeO.refl _)
      | (with_reducible exact LeO.none _)
      | (with_reducible refine LeO.ite ?_ ?_)
      | (with_reducible refine LeO.bind ?_ (fun _ => ?_))
      | exact ih0 _ _ _ _ _
      | exact ih1 _ _ _ _
      | exact impl_SetAdd.mono _ _ _
      | exact LeO.none _
      | refine LeO.ite ?_ ?_
      | refine LeO.bind ?_ (fun _ => ?_)
    · intro y0 y1 y2 y3
      unfold impl_SetJoin.l1
      repeat' first
      | (with_reducible exact ih0 _ _ _ _ _)
      | (with_reducible exact ih1 _ _ _ _)
      | (with_reducible exact impl_SetAdd.mono _ _ _)
      | (with_reducible exact LeO.refl _)
      | (with_reducible exact LeO.none _)
      | (with_reducible refine LeO.ite ?_ ?_)
      | (with_reducible refine LeO.bind ?_ (fun _ => ?_))
      | exact ih0 _ _ _ _ _
      | exact ih1 _ _ _ _
      | exact impl_SetAdd.mono _ _ _
      | exact LeO.none _
      | refine LeO.ite ?_ ?_
      | refine LeO.bind ?_ (fun _ => ?_)
theorem impl_SetJoin.mono : ∀ a0 a1 k, LeO (impl_SetJoin.f k a0 a1) (impl_SetJoin.f (k + 1) a0 a1) := by
  intro a0 a1 k
  obtain ⟨ih0, ih1⟩ := impl_SetJoin.mono_l k
  unfold impl_SetJoin.f
  repeat' first
      | (with_reducible exact ih0 _ _ _ _ _)
      | (with_reducible exact ih1 _ _ _ _)
      | (with_reducible exact impl_SetAdd.mono _ _ _)
      | (with_reducible exact LeO.refl _)
      | (with_reducible exact LeO.none _)
      | (with_reducible refine LeO.ite ?_ ?_)
      | (with_reducible refine LeO.bind ?_ (fun _ => ?_))
      | exact ih0 _ _ _ _ _
      | exact ih1 _ _ _ _
      | exact impl_SetAdd.mono _ _ _
      | exact LeO.none _
      | refine LeO.ite ?_ ?_
      | refine LeO.bind ?_ (fun _ => ?_)
set_option maxHeartbeats 8000000 in
set_option maxRecDepth 100000 in
theorem impl_SetJoin.calls (k : Nat) (A0 : Option Addr) (c0 : Nat) (l0 : List Int) (A1 : Option Addr) (c1 : Nat) (l1 : List Int) (r : List Int) (w : World) (hr0 : Kd.C (Kd.int .i64) w A0 l0.length l0) (hc0 : l0.length ≤ c0) (hr1 : Kd.C (Kd.int .i64) w A1 l1.length l1) (hc1 : l1.length ≤ c1) (h : impl_SetJoin.f k l0 l1 = some r) :
    Calls Try.prog 43 #[.slice A0 l0.length c0, .slice A1 l1.length c1] w fun e w' => ∃ v0_ : Value, e = .returned (v0_) ∧ Kd.R (Kd.int .i64) 3 w' w.heap.size (fun _ => True) v0_ r ∧ Below w.heap.size w w' := by
  have HR0 := Aside0.mk hr0
  have HC0 := Aside0.mk hc0
  clear hr0 hc0
  have HR1 := Aside0.mk hr1
  have HC1 := Aside0.mk hc1
  clear hr1 hc1
  have HB := Aside0.mk (Below.refl w.heap.size w)
  have H : (impl_SetJoin.l0 k l1 ([] : List Int) l0 (l0.length : Int) 0) = some r := h
  clear h
  have H' := Aside0.mk H
  clear H
  go_enter Try.func43, Try.ntmps43
  go_wp2
  go_loopg [5, 12] k (fun kq v5 v12 w' => ∃ (x5_1 : List Int) (x12_1 : Int), v12 = .int .i64 x12_1 ∧ Aside0 (impl_SetJoin.l0 kq l1 x5_1 l0 (l0.length : Int) x12_1 = some r) ∧ Aside0 (kq ≤ k) ∧ Aside0 (Kd.R (Kd.int .i64) 3 w' w.heap.size (fun _ => True) v5 x5_1) ∧ Aside0 (Below w.heap.size w w'))
  case atStart => exact ⟨(([] : List Int)), (0), (by first | rfl | (simp; done) | (simp [*]; done)), H', ⟨Nat.le_refl _⟩, ⟨by first | exact Kd.R_nil _ _ _ _ _ | exact Kd.N_nil _ _ _ _ _ | exact Kd.V_nil _ _ _ _ _ | exact Kd.Q_nil _ _ _ _ _ | exact Kd.S_nil _ _ _ _ _⟩, ⟨by repeat (first | (with_reducible first | exact HB.out | apply below_alloc | apply pw_below_drewN | apply below_drew1) | exact HB.out)⟩⟩
  case round =>
    clear H'
    try clear c1
    try clear p2
    obtain ⟨x5_1, x12_1, rfl, HA, HK1, HO_5, HB⟩ := hrel
    cases gk with
    | zero => exact absurd HA.out (by simp [impl_SetJoin.l0])
    | succ k1 =>
      have H := HA.out
      clear HA
      simp only [impl_SetJoin.l0] at H
      by_cases c3 : x12_1 < (l0.length : Int)
      · rw [if_pos c3] at H
        have c3b0 : decide (x12_1 < (l0.length : Int)) = true := decide_eq_true c3
        clear c3
        by_cases c4 : 0 ≤ x12_1
        · rw [if_pos c4] at H
          have c4b0 : decide (0 ≤ x12_1) = true := decide_eq_true c4
          clear c4
          by_cases c5 : x12_1 < (l0.length : Int)
          · rw [if_pos c5] at H
            have c5b0 : decide (x12_1 < (l0.length : Int)) = true := decide_eq_true c5
            clear c5
            replace H := Option.bind_eq_some_iff.mp H
            obtain ⟨t165, A60, H⟩ := H
            replace H : (impl_SetJoin.l0 k1 l1 t165 l0 (l0.length : Int) (wrap64 (x12_1 + 1))) = some r := H
            have A6 := Aside0.mk A60
            clear A60
            have H' := Aside0.mk H
            clear H
            have p164 : 0 ≤ (x12_1 : Int) := of_decide_eq_true (by first | (with_reducible assumption) | assumption)
            have q164 : x12_1 < (l0.length : Int) := of_decide_eq_true (by first | (with_reducible assumption) | assumption)
            obtain ⟨ad164, e164, hx164_0⟩ := Kd.at_int HR0.out x12_1 p164 q164
            cases e164
            replace hx164_0 := (HB.out.cell (World.block_lt_of_cell? w _ hx164_0)).trans hx164_0
            replace p164 := eq_true p164
            replace q164 := eq_true q164
            obtain ⟨Ao7, co7, eo7⟩ := Kd.R_slice HO_5.out
            subst eo7
            go_wp2_with (first | ((with_reducible refine gate_callee (f := 39) rfl ?_); refine goesL_ (some 18) rfl rfl Try.func39 (by kernel_rfl) rfl #[.slice Ao7 x5_1.length co7, .int .i64 (rd l0 x12_1)] rfl (by (try simp only [List.map_toArray, List.map_cons, List.map_nil]); first | done | rfl | (simp only [List.length_drop, List.length_take]; rfl)) ?_; (with_reducible refine (impl_SetAdd.calls k1 _ _ x5_1 (rd l0 x12_1) t165 _ ?side1 ?side2 A6.out).mono ?_); (case side1 => repeat (first | exact (Kd.R_reads' HO_5.out).2.2 | (with_reducible refine Kd.C_alloc ?_ _) | (with_reducible refine Kd.C_drewN ?_ _) | (with_reducible refine Kd.C_drew ?_))); (case side2 => exact (Kd.R_reads' HO_5.out).2.1); rintro e w8 ⟨v166, rfl, ho0, hb⟩; refine ⟨_, rfl, ?_⟩; have n0_ := Aside0.mk (Kd.R_elder' (by (with_reducible repeat (first | apply Kd.R_alloc | apply Kd.R_drewN | apply Kd.R_drew)); exact HO_5.out) (Kd.R_base ho0) hb); have n1_ := Aside0.mk (Kd.R_lower (Kd.R_new' ho0 (Kd.R_lt (by (with_reducible repeat (first | apply Kd.R_alloc | apply Kd.R_drewN | apply Kd.R_drew)); exact HO_5.out))) (below_size (by repeat (first | (with_reducible first | exact HB.out | apply below_alloc | apply pw_below_drewN | apply below_drew1) | exact HB.out)))); have n2_ := Aside0.mk (below_step (by repeat (first | (with_reducible first | exact HB.out | apply below_alloc | apply pw_below_drewN | apply below_drew1) | exact HB.out)) hb); clear HO_5; clear HB; have HO_5 := n0_; have HO167 := n1_; have HB := n2_; clear n0_ n1_ n2_; (try clear hb); (try clear hb2); (try clear hk); (try clear hi); (try clear ho0)))
            go_roundg k1
            case measure => have := HK1.out; omega
            case rel => exact ⟨(t165), (wrap64 (x12_1 + 1)), (by first | rfl | (simp; done) | (simp [*]; done)), H', ⟨by have := HK1.out; omega⟩, ⟨by (with_reducible repeat (first | apply Kd.R_alloc | apply Kd.R_drewN | apply Kd.R_drew)); exact Kd.R_mono HO167.out (fun _ hk => trivial)⟩, ⟨by repeat (first | (with_reducible first | exact HB.out | apply below_alloc | apply pw_below_drewN | apply below_drew1) | exact HB.out)⟩⟩
          · rw [if_neg c5] at H
            exact absurd H (by simp)
        · rw [if_neg c4] at H
          exact absurd H (by simp)
      · rw [if_neg c3] at H
        have c3b0 : decide (x12_1 < (l0.length : Int)) = false := decide_eq_false c3
        clear c3
        have H' := Aside0.mk H
        clear H
        go_wp2
        go_loopg [5, 22] k1 (fun kq v5 v22 w' => ∃ (x5_2 : List Int) (x22_2 : Int), v22 = .int .i64 x22_2 ∧ Aside0 (impl_SetJoin.l1 kq x5_2 l1 (l1.length : Int) x22_2 = some r) ∧ Aside0 (kq ≤ k1) ∧ Aside0 (Kd.R (Kd.int .i64) 3 w' w.heap.size (fun _ => True) v5 x5_2) ∧ Aside0 (Below w.heap.size w w'))
        case atStart => exact ⟨(x5_1), (0), (by first | rfl | (simp; done) | (simp [*]; done)), H', ⟨Nat.le_refl _⟩, ⟨by (with_reducible repeat (first | apply Kd.R_alloc | apply Kd.R_drewN | apply Kd.R_drew)); exact HO_5.out⟩, ⟨by repeat (first | (with_reducible first | exact HB.out | apply below_alloc | apply pw_below_drewN | apply below_drew1) | exact HB.out)⟩⟩
        case round =>
          clear H'
          try clear c1
          try clear p1
          try clear q1
          try clear hx1
          try clear p2
          try clear c3
          try clear c3b0
          try clear c4
          try clear c4b0
          try clear c5
          try clear c5b0
          try clear p6
          try clear hx164_0
          try clear p164
          try clear p2
          try clear q164
          obtain ⟨x5_2, x22_2, rfl, HA, HK2, HO_5, HB⟩ := hrel
          cases gk with
          | zero => exact absurd HA.out (by simp [impl_SetJoin.l1])
          | succ k2 =>
            have H := HA.out
            clear HA
            simp only [impl_SetJoin.l1] at H
            by_cases c9 : x22_2 < (l1.length : Int)
            · rw [if_pos c9] at H
              have c9b0 : decide (x22_2 < (l1.length : Int)) = true := decide_eq_true c9
              clear c9
              by_cases c10 : 0 ≤ x22_2
              · rw [if_pos c10] at H
                have c10b0 : decide (0 ≤ x22_2) = true := decide_eq_true c10
                clear c10
                by_cases c11 : x22_2 < (l1.length : Int)
                · rw [if_pos c11] at H
                  have c11b0 : decide (x22_2 < (l1.length : Int)) = true := decide_eq_true c11
                  clear c11
                  replace H := Option.bind_eq_some_iff.mp H
                  obtain ⟨t169, A120, H⟩ := H
                  replace H : (impl_SetJoin.l1 k2 t169 l1 (l1.length : Int) (wrap64 (x22_2 + 1))) = some r := H
                  have A12 := Aside0.mk A120
                  clear A120
                  have H' := Aside0.mk H
                  clear H
                  have p168 : 0 ≤ (x22_2 : Int) := of_decide_eq_true (by first | (with_reducible assumption) | assumption)
                  have q168 : x22_2 < (l1.length : Int) := of_decide_eq_true (by first | (with_reducible assumption) | assumption)
                  obtain ⟨ad168, e168, hx168_0⟩ := Kd.at_int HR1.out x22_2 p168 q168
                  cases e168
                  replace hx168_0 := (HB.out.cell (World.block_lt_of_cell? w _ hx168_0)).trans hx168_0
                  replace p168 := eq_true p168
                  replace q168 := eq_true q168
                  obtain ⟨Ao13, co13, eo13⟩ := Kd.R_slice HO_5.out
                  subst eo13
                  go_wp2_with (first | ((with_reducible refine gate_callee (f := 39) rfl ?_); refine goesL_ (some 28) rfl rfl Try.func39 (by kernel_rfl) rfl #[.slice Ao13 x5_2.length co13, .int .i64 (rd l1 x22_2)] rfl (by (try simp only [List.map_toArray, List.map_cons, List.map_nil]); first | done | rfl | (simp only [List.length_drop, List.length_take]; rfl)) ?_; (with_reducible refine (impl_SetAdd.calls k2 _ _ x5_2 (rd l1 x22_2) t169 _ ?side1 ?side2 A12.out).mono ?_); (case side1 => repeat (first | exact (Kd.R_reads' HO_5.out).2.2 | (with_reducible refine Kd.C_alloc ?_ _) | (with_reducible refine Kd.C_drewN ?_ _) | (with_reducible refine Kd.C_drew ?_))); (case side2 => exact (Kd.R_reads' HO_5.out).2.1); rintro e w14 ⟨v170, rfl, ho0, hb⟩; refine ⟨_, rfl, ?_⟩; have n0_ := Aside0.mk (Kd.R_elder' (by (with_reducible repeat (first | apply Kd.R_alloc | apply Kd.R_drewN | apply Kd.R_drew)); exact HO_5.out) (Kd.R_base ho0) hb); have n1_ := Aside0.mk (Kd.R_lower (Kd.R_new' ho0 (Kd.R_lt (by (with_reducible repeat (first | apply Kd.R_alloc | apply Kd.R_drewN | apply Kd.R_drew)); exact HO_5.out))) (below_size (by repeat (first | (with_reducible first | exact HB.out | apply below_alloc | apply pw_below_drewN | apply below_drew1) | exact HB.out)))); have n2_ := Aside0.mk (below_step (by repeat (first | (with_reducible first | exact HB.out | apply below_alloc | apply pw_below_drewN | apply below_drew1) | exact HB.out)) hb); clear HO_5; clear HB; have HO_5 := n0_; have HO171 := n1_; have HB := n2_; clear n0_ n1_ n2_; (try clear hb); (try clear hb2); (try clear hk); (try clear hi); (try clear ho0)))
                  go_roundg k2
                  case measure => have := HK1.out; have := HK2.out; omega
                  case rel => exact ⟨(t169), (wrap64 (x22_2 + 1)), (by first | rfl | (simp; done) | (simp [*]; done)), H', ⟨by have := HK1.out; have := HK2.out; omega⟩, ⟨by (with_reducible repeat (first | apply Kd.R_alloc | apply Kd.R_drewN | apply Kd.R_drew)); exact Kd.R_mono HO171.out (fun _ hk => trivial)⟩, ⟨by repeat (first | (with_reducible first | exact HB.out | apply below_alloc | apply pw_below_drewN | apply below_drew1) | exact HB.out)⟩⟩
                · rw [if_neg c11] at H
                  exact absurd H (by simp)
              · rw [if_neg c10] at H
                exact absurd H (by simp)
            · rw [if_neg c9] at H
              have c9b0 : decide (x22_2 < (l1.length : Int)) = false := decide_eq_false c9
              clear c9
              obtain rfl := Option.some.inj H
              go_wp2
              go_ret
              exact ⟨_, by first | rfl | (simp [errW_none, errW_some] <;> rfl) | (simp [*, errW_none, errW_some] <;> rfl), by (with_reducible repeat (first | apply Kd.R_alloc | apply Kd.R_drewN | apply Kd.R_drew)); exact HO_5.out, by repeat (first | (with_reducible first | exact HB.out | apply below_alloc | apply pw_below_drewN | apply below_drew1) | exact HB.out)⟩

/-! ### laws_FnExactSetJoin: function 13 -/
def laws_FnExactSetJoin.j0 : Nat → List Int → List Int → List Int → List Int → Bool → Option (Bool)
  | 0, _, _, _, _, _ => none
  | k + 1, x0, x1, x5, x8, x58 => if x58 = true then (some false) else ((laws_markIntS.f k x8 1).bind fun bt204 => ((laws_heldIntS.f k bt204.2 1).bind fun t206 => (if t206 < 0 then (some false) else (if t206 = bt204.1 then ((laws_toIntS.f k x0).bind fun t207 => ((laws_toIntS.f k x1).bind fun t210 => ((impl_SetJoin.f k t207 t210).bind fun t213 => ((laws_eqIntS.f k t213 x5).bind fun t216 => (if t216 = true then ((laws_heldIntS.f k bt204.2 1).bind fun t217 => (if t217 < 0 then (some false) else (if t217 = bt204.1 then (some true) else (some false)))) else (some false)))))) else (some false)))))
def laws_FnExactSetJoin.f (k : Nat) (l0 : List Int) (l1 : List Int) : Option (Bool) := if (l0.length : Int) > 1048576 then (some true) else (if (l1.length : Int) > 1048576 then (some true) else ((laws_toIntS.f k l0).bind fun t172 => ((laws_toIntS.f k l1).bind fun t175 => ((spec_SetJoin.f k t172 t175).bind fun t178 => ((laws_toIntS.f k l0).bind fun t181 => ((laws_toIntS.f k l1).bind fun t184 => ((impl_SetJoin.f k t181 t184).bind fun t187 => ((laws_eqIntS.f k t187 t178).bind fun t190 => (if t190 = true then ((laws_toIntS.f k l0).bind fun t191 => ((laws_eqIntS.f k t181 t191).bind fun t194 => (if t194 = true then ((laws_toIntS.f k l1).bind fun t195 => ((laws_eqIntS.f k t184 t195).bind fun t198 => (if t198 = true then ((laws_markIntS.f k t181 1).bind fun bt199 => ((laws_markIntS.f k t184 bt199.1).bind fun bt201 => (if bt201.1 < 0 then (laws_FnExactSetJoin.j0 k l0 l1 t178 t187 true) else ((laws_eqIntS.f k t187 t178).bind fun t203 => (laws_FnExactSetJoin.j0 k l0 l1 t178 t187 (!t203)))))) else (some false)))) else (some false)))) else (some false))))))))))
theorem laws_FnExactSetJoin.mono_l : ∀ k, (∀ y0 y1 y2 y3 y4, LeO (laws_FnExactSetJoin.j0 k y0 y1 y2 y3 y4) (laws_FnExactSetJoin.j0 (k + 1) y0 y1 y2 y3 y4))
  | 0 => fun _ _ _ _ _ r h => by simp [laws_FnExactSetJoin.j0] at h
  | k + 1 => by
    have ih0 := laws_FnExactSetJoin.mono_l k
    · intro y0 y1 y2 y3 y4
      unfold laws_FnExactSetJoin.j0
      repeat' first
      | (with_reducible exact ih0 _ _ _ _ _)
      | (with_reducible exact impl_SetJoin.mono _ _ _)
      | (with_reducible exact laws_eqIntS.mono _ _ _)
      | (with_reducible exact laws_heldIntS.mono _ _ _)
      | (with_reducible exact laws_markIntS.mono _ _ _)
      | (with_reducible exact laws_toIntS.mono _ _)
      | (with_reducible exact spec_SetJoin.mono _ _ _)
      | (with_reducible exact LeO.refl _)
      | (with_reducible exact LeO.none _)
      | (with_reducible refine LeO.ite ?_ ?_)
      | (with_reducible refine LeO.bind ?_ (fun _ => ?_))
      | exact ih0 _ _ _ _ _
      | exact impl_SetJoin.mono _ _ _
      | exact laws_eqIntS.mono _ _ _
      | exact laws_heldIntS.mono _ _ _
      | exact laws_markIntS.mono _ _ _
      | exact laws_toIntS.mono _ _
      | exact spec_SetJoin.mono _ _ _
      | exact LeO.none _
      | refine LeO.ite ?_ ?_
      | refine LeO.bind ?_ (fun _ => ?_)
theorem laws_FnExactSetJoin.mono : ∀ a0 a1 k, LeO (laws_FnExactSetJoin.f k a0 a1) (laws_FnExactSetJoin.f (k + 1) a0 a1) := by
  intro a0 a1 k
  have ih0 := laws_FnExactSetJoin.mono_l k
  unfold laws_FnExactSetJoin.f
  repeat' first
      | (with_reducible exact ih0 _ _ _ _ _)
      | (with_reducible exact impl_SetJoin.mono _ _ _)
      | (with_reducible exact laws_eqIntS.mono _ _ _)
      | (with_reducible exact laws_heldIntS.mono _ _ _)
      | (with_reducible exact laws_markIntS.mono _ _ _)
      | (with_reducible exact laws_toIntS.mono _ _)
      | (with_reducible exact spec_SetJoin.mono _ _ _)
      | (with_reducible exact LeO.refl _)
      | (with_reducible exact LeO.none _)
      | (with_reducible refine LeO.ite ?_ ?_)
      | (with_reducible refine LeO.bind ?_ (fun _ => ?_))
      | exact ih0 _ _ _ _ _
      | exact impl_SetJoin.mono _ _ _
      | exact laws_eqIntS.mono _ _ _
      | exact laws_heldIntS.mono _ _ _
      | exact laws_markIntS.mono _ _ _
      | exact laws_toIntS.mono _ _
      | exact spec_SetJoin.mono _ _ _
      | exact LeO.none _
      | refine LeO.ite ?_ ?_
      | refine LeO.bind ?_ (fun _ => ?_)
set_option maxHeartbeats 8000000 in
set_option maxRecDepth 100000 in
theorem laws_FnExactSetJoin.calls (k : Nat) (A0 : Option Addr) (c0 : Nat) (l0 : List Int) (A1 : Option Addr) (c1 : Nat) (l1 : List Int) (r : Bool) (w : World) (hr0 : Kd.C (Kd.int .i64) w A0 l0.length l0) (hc0 : l0.length ≤ c0) (hr1 : Kd.C (Kd.int .i64) w A1 l1.length l1) (hc1 : l1.length ≤ c1) (hT : r = true) (h : laws_FnExactSetJoin.f k l0 l1 = some r) :
    Calls Try.prog 13 #[.slice A0 l0.length c0, .slice A1 l1.length c1] w fun e w' => e = .returned (.bool r) ∧ Below w.heap.size w w' := by
  have HR0 := Aside0.mk hr0
  have HC0 := Aside0.mk hc0
  clear hr0 hc0
  have HR1 := Aside0.mk hr1
  have HC1 := Aside0.mk hc1
  clear hr1 hc1
  have HRT := Aside0.mk hT
  clear hT
  have HB := Aside0.mk (Below.refl w.heap.size w)
  have H : (if (l0.length : Int) > 1048576 then (some true) else (if (l1.length : Int) > 1048576 then (some true) else ((laws_toIntS.f k l0).bind fun t172 => ((laws_toIntS.f k l1).bind fun t175 => ((spec_SetJoin.f k t172 t175).bind fun t178 => ((laws_toIntS.f k l0).bind fun t181 => ((laws_toIntS.f k l1).bind fun t184 => ((impl_SetJoin.f k t181 t184).bind fun t187 => ((laws_eqIntS.f k t187 t178).bind fun t190 => (if t190 = true then ((laws_toIntS.f k l0).bind fun t191 => ((laws_eqIntS.f k t181 t191).bind fun t194 => (if t194 = true then ((laws_toIntS.f k l1).bind fun t195 => ((laws_eqIntS.f k t184 t195).bind fun t198 => (if t198 = true then ((laws_markIntS.f k t181 1).bind fun bt199 => ((laws_markIntS.f k t184 bt199.1).bind fun bt201 => (if bt201.1 < 0 then (laws_FnExactSetJoin.j0 k l0 l1 t178 t187 true) else ((laws_eqIntS.f k t187 t178).bind fun t203 => (laws_FnExactSetJoin.j0 k l0 l1 t178 t187 (!t203)))))) else (some false)))) else (some false)))) else (some false))))))))))) = some r := h
  clear h
  by_cases c3 : (l0.length : Int) > 1048576
  · rw [if_pos c3] at H
    have c3b0 : decide (1048576 < (l0.length : Int)) = true := decide_eq_true c3
    have c3b1 : decide (1048576 < l0.length) = true := decide_eq_true (by omega)
    clear c3
    obtain rfl := Option.some.inj H
    go_enter Try.func13, Try.ntmps13
    go_wp2
    go_ret
    exact ⟨by first | rfl | (simp [errW_none, errW_some] <;> rfl) | (simp [*, errW_none, errW_some] <;> rfl), by repeat (first | (with_reducible first | exact HB.out | apply below_alloc | apply pw_below_drewN | apply below_drew1) | exact HB.out)⟩
  · rw [if_neg c3] at H
    have c3b0 : decide (1048576 < (l0.length : Int)) = false := decide_eq_false c3
    have c3b1 : decide (1048576 < l0.length) = false := decide_eq_false (by omega)
    clear c3
    by_cases c4 : (l1.length : Int) > 1048576
    · rw [if_pos c4] at H
      have c4b0 : decide (1048576 < (l1.length : Int)) = true := decide_eq_true c4
      have c4b1 : decide (1048576 < l1.length) = true := decide_eq_true (by omega)
      clear c4
      obtain rfl := Option.some.inj H
      go_enter Try.func13, Try.ntmps13
      go_wp2
      go_ret
      exact ⟨by first | rfl | (simp [errW_none, errW_some] <;> rfl) | (simp [*, errW_none, errW_some] <;> rfl), by repeat (first | (with_reducible first | exact HB.out | apply below_alloc | apply pw_below_drewN | apply below_drew1) | exact HB.out)⟩
    · rw [if_neg c4] at H
      have c4b0 : decide (1048576 < (l1.length : Int)) = false := decide_eq_false c4
      have c4b1 : decide (1048576 < l1.length) = false := decide_eq_false (by omega)
      clear c4
      replace H := Option.bind_eq_some_iff.mp H
      obtain ⟨t172, A50, H⟩ := H
      replace H : ((laws_toIntS.f k l1).bind fun t175 => ((spec_SetJoin.f k t172 t175).bind fun t178 => ((laws_toIntS.f k l0).bind fun t181 => ((laws_toIntS.f k l1).bind fun t184 => ((impl_SetJoin.f k t181 t184).bind fun t187 => ((laws_eqIntS.f k t187 t178).bind fun t190 => (if t190 = true then ((laws_toIntS.f k l0).bind fun t191 => ((laws_eqIntS.f k t181 t191).bind fun t194 => (if t194 = true then ((laws_toIntS.f k l1).bind fun t195 => ((laws_eqIntS.f k t184 t195).bind fun t198 => (if t198 = true then ((laws_markIntS.f k t181 1).bind fun bt199 => ((laws_markIntS.f k t184 bt199.1).bind fun bt201 => (if bt201.1 < 0 then (laws_FnExactSetJoin.j0 k l0 l1 t178 t187 true) else ((laws_eqIntS.f k t187 t178).bind fun t203 => (laws_FnExactSetJoin.j0 k l0 l1 t178 t187 (!t203)))))) else (some false)))) else (some false)))) else (some false)))))))) = some r := H
      have A5 := Aside0.mk A50
      clear A50
      replace H := Option.bind_eq_some_iff.mp H
      obtain ⟨t175, A60, H⟩ := H
      replace H : ((spec_SetJoin.f k t172 t175).bind fun t178 => ((laws_toIntS.f k l0).bind fun t181 => ((laws_toIntS.f k l1).bind fun t184 => ((impl_SetJoin.f k t181 t184).bind fun t187 => ((laws_eqIntS.f k t187 t178).bind fun t190 => (if t190 = true then ((laws_toIntS.f k l0).bind fun t191 => ((laws_eqIntS.f k t181 t191).bind fun t194 => (if t194 = true then ((laws_toIntS.f k l1).bind fun t195 => ((laws_eqIntS.f k t184 t195).bind fun t198 => (if t198 = true then ((laws_markIntS.f k t181 1).bind fun bt199 => ((laws_markIntS.f k t184 bt199.1).bind fun bt201 => (if bt201.1 < 0 then (laws_FnExactSetJoin.j0 k l0 l1 t178 t187 true) else ((laws_eqIntS.f k t187 t178).bind fun t203 => (laws_FnExactSetJoin.j0 k l0 l1 t178 t187 (!t203)))))) else (some false)))) else (some false)))) else (some false))))))) = some r := H
      have A6 := Aside0.mk A60
      clear A60
      replace H := Option.bind_eq_some_iff.mp H
      obtain ⟨t178, A70, H⟩ := H
      replace H : ((laws_toIntS.f k l0).bind fun t181 => ((laws_toIntS.f k l1).bind fun t184 => ((impl_SetJoin.f k t181 t184).bind fun t187 => ((laws_eqIntS.f k t187 t178).bind fun t190 => (if t190 = true then ((laws_toIntS.f k l0).bind fun t191 => ((laws_eqIntS.f k t181 t191).bind fun t194 => (if t194 = true then ((laws_toIntS.f k l1).bind fun t195 => ((laws_eqIntS.f k t184 t195).bind fun t198 => (if t198 = true then ((laws_markIntS.f k t181 1).bind fun bt199 => ((laws_markIntS.f k t184 bt199.1).bind fun bt201 => (if bt201.1 < 0 then (laws_FnExactSetJoin.j0 k l0 l1 t178 t187 true) else ((laws_eqIntS.f k t187 t178).bind fun t203 => (laws_FnExactSetJoin.j0 k l0 l1 t178 t187 (!t203)))))) else (some false)))) else (some false)))) else (some false)))))) = some r := H
      have A7 := Aside0.mk A70
      clear A70
      replace H := Option.bind_eq_some_iff.mp H
      obtain ⟨t181, A80, H⟩ := H
      replace H : ((laws_toIntS.f k l1).bind fun t184 => ((impl_SetJoin.f k t181 t184).bind fun t187 => ((laws_eqIntS.f k t187 t178).bind fun t190 => (if t190 = true then ((laws_toIntS.f k l0).bind fun t191 => ((laws_eqIntS.f k t181 t191).bind fun t194 => (if t194 = true then ((laws_toIntS.f k l1).bind fun t195 => ((laws_eqIntS.f k t184 t195).bind fun t198 => (if t198 = true then ((laws_markIntS.f k t181 1).bind fun bt199 => ((laws_markIntS.f k t184 bt199.1).bind fun bt201 => (if bt201.1 < 0 then (laws_FnExactSetJoin.j0 k l0 l1 t178 t187 true) else ((laws_eqIntS.f k t187 t178).bind fun t203 => (laws_FnExactSetJoin.j0 k l0 l1 t178 t187 (!t203)))))) else (some false)))) else (some false)))) else (some false))))) = some r := H
      have A8 := Aside0.mk A80
      clear A80
      replace H := Option.bind_eq_some_iff.mp H
      obtain ⟨t184, A90, H⟩ := H
      replace H : ((impl_SetJoin.f k t181 t184).bind fun t187 => ((laws_eqIntS.f k t187 t178).bind fun t190 => (if t190 = true then ((laws_toIntS.f k l0).bind fun t191 => ((laws_eqIntS.f k t181 t191).bind fun t194 => (if t194 = true then ((laws_toIntS.f k l1).bind fun t195 => ((laws_eqIntS.f k t184 t195).bind fun t198 => (if t198 = true then ((laws_markIntS.f k t181 1).bind fun bt199 => ((laws_markIntS.f k t184 bt199.1).bind fun bt201 => (if bt201.1 < 0 then (laws_FnExactSetJoin.j0 k l0 l1 t178 t187 true) else ((laws_eqIntS.f k t187 t178).bind fun t203 => (laws_FnExactSetJoin.j0 k l0 l1 t178 t187 (!t203)))))) else (some false)))) else (some false)))) else (some false)))) = some r := H
      have A9 := Aside0.mk A90
      clear A90
      replace H := Option.bind_eq_some_iff.mp H
      obtain ⟨t187, A100, H⟩ := H
      replace H : ((laws_eqIntS.f k t187 t178).bind fun t190 => (if t190 = true then ((laws_toIntS.f k l0).bind fun t191 => ((laws_eqIntS.f k t181 t191).bind fun t194 => (if t194 = true then ((laws_toIntS.f k l1).bind fun t195 => ((laws_eqIntS.f k t184 t195).bind fun t198 => (if t198 = true then ((laws_markIntS.f k t181 1).bind fun bt199 => ((laws_markIntS.f k t184 bt199.1).bind fun bt201 => (if bt201.1 < 0 then (laws_FnExactSetJoin.j0 k l0 l1 t178 t187 true) else ((laws_eqIntS.f k t187 t178).bind fun t203 => (laws_FnExactSetJoin.j0 k l0 l1 t178 t187 (!t203)))))) else (some false)))) else (some false)))) else (some false))) = some r := H
      have A10 := Aside0.mk A100
      clear A100
      replace H := Option.bind_eq_some_iff.mp H
      obtain ⟨t190, A110, H⟩ := H
      replace H : (if t190 = true then ((laws_toIntS.f k l0).bind fun t191 => ((laws_eqIntS.f k t181 t191).bind fun t194 => (if t194 = true then ((laws_toIntS.f k l1).bind fun t195 => ((laws_eqIntS.f k t184 t195).bind fun t198 => (if t198 = true then ((laws_markIntS.f k t181 1).bind fun bt199 => ((laws_markIntS.f k t184 bt199.1).bind fun bt201 => (if bt201.1 < 0 then (laws_FnExactSetJoin.j0 k l0 l1 t178 t187 true) else ((laws_eqIntS.f k t187 t178).bind fun t203 => (laws_FnExactSetJoin.j0 k l0 l1 t178 t187 (!t203)))))) else (some false)))) else (some false)))) else (some false)) = some r := H
      have A11 := Aside0.mk A110
      clear A110
      by_cases c12 : t190 = true
      · subst c12
        have H1 : ((laws_toIntS.f k l0).bind fun t191 => ((laws_eqIntS.f k t181 t191).bind fun t194 => (if t194 = true then ((laws_toIntS.f k l1).bind fun t195 => ((laws_eqIntS.f k t184 t195).bind fun t198 => (if t198 = true then ((laws_markIntS.f k t181 1).bind fun bt199 => ((laws_markIntS.f k t184 bt199.1).bind fun bt201 => (if bt201.1 < 0 then (laws_FnExactSetJoin.j0 k l0 l1 t178 t187 true) else ((laws_eqIntS.f k t187 t178).bind fun t203 => (laws_FnExactSetJoin.j0 k l0 l1 t178 t187 (!t203)))))) else (some false)))) else (some false)))) = some r := by rw [if_pos rfl] at H; exact H
        clear H
        have H := H1
        clear H1
        replace H := Option.bind_eq_some_iff.mp H
        obtain ⟨t191, A130, H⟩ := H
        replace H : ((laws_eqIntS.f k t181 t191).bind fun t194 => (if t194 = true then ((laws_toIntS.f k l1).bind fun t195 => ((laws_eqIntS.f k t184 t195).bind fun t198 => (if t198 = true then ((laws_markIntS.f k t181 1).bind fun bt199 => ((laws_markIntS.f k t184 bt199.1).bind fun bt201 => (if bt201.1 < 0 then (laws_FnExactSetJoin.j0 k l0 l1 t178 t187 true) else ((laws_eqIntS.f k t187 t178).bind fun t203 => (laws_FnExactSetJoin.j0 k l0 l1 t178 t187 (!t203)))))) else (some false)))) else (some false))) = some r := H
        have A13 := Aside0.mk A130
        clear A130
        replace H := Option.bind_eq_some_iff.mp H
        obtain ⟨t194, A140, H⟩ := H
        replace H : (if t194 = true then ((laws_toIntS.f k l1).bind fun t195 => ((laws_eqIntS.f k t184 t195).bind fun t198 => (if t198 = true then ((laws_markIntS.f k t181 1).bind fun bt199 => ((laws_markIntS.f k t184 bt199.1).bind fun bt201 => (if bt201.1 < 0 then (laws_FnExactSetJoin.j0 k l0 l1 t178 t187 true) else ((laws_eqIntS.f k t187 t178).bind fun t203 => (laws_FnExactSetJoin.j0 k l0 l1 t178 t187 (!t203)))))) else (some false)))) else (some false)) = some r := H
        have A14 := Aside0.mk A140
        clear A140
        by_cases c15 : t194 = true
        · subst c15
          have H1 : ((laws_toIntS.f k l1).bind fun t195 => ((laws_eqIntS.f k t184 t195).bind fun t198 => (if t198 = true then ((laws_markIntS.f k t181 1).bind fun bt199 => ((laws_markIntS.f k t184 bt199.1).bind fun bt201 => (if bt201.1 < 0 then (laws_FnExactSetJoin.j0 k l0 l1 t178 t187 true) else ((laws_eqIntS.f k t187 t178).bind fun t203 => (laws_FnExactSetJoin.j0 k l0 l1 t178 t187 (!t203)))))) else (some false)))) = some r := by rw [if_pos rfl] at H; exact H
          clear H
          have H := H1
          clear H1
          replace H := Option.bind_eq_some_iff.mp H
          obtain ⟨t195, A160, H⟩ := H
          replace H : ((laws_eqIntS.f k t184 t195).bind fun t198 => (if t198 = true then ((laws_markIntS.f k t181 1).bind fun bt199 => ((laws_markIntS.f k t184 bt199.1).bind fun bt201 => (if bt201.1 < 0 then (laws_FnExactSetJoin.j0 k l0 l1 t178 t187 true) else ((laws_eqIntS.f k t187 t178).bind fun t203 => (laws_FnExactSetJoin.j0 k l0 l1 t178 t187 (!t203)))))) else (some false))) = some r := H
          have A16 := Aside0.mk A160
          clear A160
          replace H := Option.bind_eq_some_iff.mp H
          obtain ⟨t198, A170, H⟩ := H
          replace H : (if t198 = true then ((laws_markIntS.f k t181 1).bind fun bt199 => ((laws_markIntS.f k t184 bt199.1).bind fun bt201 => (if bt201.1 < 0 then (laws_FnExactSetJoin.j0 k l0 l1 t178 t187 true) else ((laws_eqIntS.f k t187 t178).bind fun t203 => (laws_FnExactSetJoin.j0 k l0 l1 t178 t187 (!t203)))))) else (some false)) = some r := H
          have A17 := Aside0.mk A170
          clear A170
          by_cases c18 : t198 = true
          · subst c18
            have H1 : ((laws_markIntS.f k t181 1).bind fun bt199 => ((laws_markIntS.f k t184 bt199.1).bind fun bt201 => (if bt201.1 < 0 then (laws_FnExactSetJoin.j0 k l0 l1 t178 t187 true) else ((laws_eqIntS.f k t187 t178).bind fun t203 => (laws_FnExactSetJoin.j0 k l0 l1 t178 t187 (!t203)))))) = some r := by rw [if_pos rfl] at H; exact H
            clear H
            have H := H1
            clear H1
            replace H := Option.bind_eq_some_iff.mp H
            obtain ⟨⟨t199, t200⟩, A190, H⟩ := H
            replace H : ((laws_markIntS.f k t184 t199).bind fun bt201 => (if bt201.1 < 0 then (laws_FnExactSetJoin.j0 k l0 l1 t178 t187 true) else ((laws_eqIntS.f k t187 t178).bind fun t203 => (laws_FnExactSetJoin.j0 k l0 l1 t178 t187 (!t203))))) = some r := H
            have A19 := Aside0.mk A190
            clear A190
            replace H := Option.bind_eq_some_iff.mp H
            obtain ⟨⟨t201, t202⟩, A200, H⟩ := H
            replace H : (if t201 < 0 then (laws_FnExactSetJoin.j0 k l0 l1 t178 t187 true) else ((laws_eqIntS.f k t187 t178).bind fun t203 => (laws_FnExactSetJoin.j0 k l0 l1 t178 t187 (!t203)))) = some r := H
            have A20 := Aside0.mk A200
            clear A200
            have HC21 := Aside0.mk H
            clear H
            go_enter Try.func13, Try.ntmps13
            go_upto_region 18 with (first | ((with_reducible refine gate_callee (f := 26) rfl ?_); refine goesL_ (some 20) rfl rfl Try.func26 (by kernel_rfl) rfl #[.slice A0 l0.length c0] rfl (by (try simp only [List.map_toArray, List.map_cons, List.map_nil]); first | done | rfl | (simp only [List.length_drop, List.length_take]; rfl)) ?_; (with_reducible refine (laws_toIntS.calls k _ _ l0 t172 _ ?side1 ?side2 A5.out).mono ?_); (case side1 => repeat (first | exact HR0.out | (with_reducible refine Kd.C_alloc ?_ _) | (with_reducible refine Kd.C_drewN ?_ _) | (with_reducible refine Kd.C_drew ?_))); (case side2 => exact HC0.out); rintro e w22 ⟨v173, rfl, ho0, hb⟩; refine ⟨_, rfl, ?_⟩; have n0_ := Aside0.mk (Kd.R_lower ho0 (below_size (by repeat (first | (with_reducible first | exact HB.out | apply below_alloc | apply pw_below_drewN | apply below_drew1) | exact HB.out)))); have n1_ := Aside0.mk (below_step (by repeat (first | (with_reducible first | exact HB.out | apply below_alloc | apply pw_below_drewN | apply below_drew1) | exact HB.out)) hb); clear HB; have HO174 := n0_; have HB := n1_; clear n0_ n1_; (try clear hb); (try clear hb2); (try clear hk); (try clear hi); (try clear ho0)) | ((with_reducible refine gate_callee (f := 26) rfl ?_); refine goesL_ (some 22) rfl rfl Try.func26 (by kernel_rfl) rfl #[.slice A1 l1.length c1] rfl (by (try simp only [List.map_toArray, List.map_cons, List.map_nil]); first | done | rfl | (simp only [List.length_drop, List.length_take]; rfl)) ?_; (with_reducible refine (laws_toIntS.calls k _ _ l1 t175 _ ?side1 ?side2 A6.out).mono ?_); (case side1 => repeat (first | exact (Kd.C_below HR1.out HB.out) | (with_reducible refine Kd.C_alloc ?_ _) | (with_reducible refine Kd.C_drewN ?_ _) | (with_reducible refine Kd.C_drew ?_))); (case side2 => exact HC1.out); rintro e w23 ⟨v176, rfl, ho0, hb⟩; refine ⟨_, rfl, ?_⟩; have n0_ := Aside0.mk (Kd.R_elder' (by (with_reducible repeat (first | apply Kd.R_alloc | apply Kd.R_drewN | apply Kd.R_drew)); exact HO174.out) (Kd.R_base ho0) hb); have n1_ := Aside0.mk (Kd.R_lower (Kd.R_new' ho0 (Kd.R_lt (by (with_reducible repeat (first | apply Kd.R_alloc | apply Kd.R_drewN | apply Kd.R_drew)); exact HO174.out))) (below_size (by repeat (first | (with_reducible first | exact HB.out | apply below_alloc | apply pw_below_drewN | apply below_drew1) | exact HB.out)))); have n2_ := Aside0.mk (below_step (by repeat (first | (with_reducible first | exact HB.out | apply below_alloc | apply pw_below_drewN | apply below_drew1) | exact HB.out)) hb); clear HO174; clear HB; have HO174 := n0_; have HO177 := n1_; have HB := n2_; clear n0_ n1_ n2_; (try clear hb); (try clear hb2); (try clear hk); (try clear hi); (try clear ho0); obtain ⟨Ao24, co24, eo24⟩ := Kd.R_slice HO174.out; subst eo24; obtain ⟨Ao25, co25, eo25⟩ := Kd.R_slice HO177.out; subst eo25) | ((with_reducible refine gate_callee (f := 42) rfl ?_); refine goesL_ (some 23) rfl rfl Try.func42 (by kernel_rfl) rfl #[.slice Ao24 t172.length co24, .slice Ao25 t175.length co25] rfl (by (try simp only [List.map_toArray, List.map_cons, List.map_nil]); first | done | rfl | (simp only [List.length_drop, List.length_take]; rfl)) ?_; (with_reducible refine (spec_SetJoin.calls k _ _ t172 _ _ t175 t178 _ ?side1 ?side2 ?side3 ?side4 A7.out).mono ?_); (case side1 => repeat (first | exact (Kd.R_reads' HO174.out).2.2 | (with_reducible refine Kd.C_alloc ?_ _) | (with_reducible refine Kd.C_drewN ?_ _) | (with_reducible refine Kd.C_drew ?_))); (case side2 => exact (Kd.R_reads' HO174.out).2.1); (case side3 => repeat (first | exact (Kd.R_reads' HO177.out).2.2 | (with_reducible refine Kd.C_alloc ?_ _) | (with_reducible refine Kd.C_drewN ?_ _) | (with_reducible refine Kd.C_drew ?_))); (case side4 => exact (Kd.R_reads' HO177.out).2.1); rintro e w26 ⟨v179, rfl, ho0, hb⟩; refine ⟨_, rfl, ?_⟩; have n0_ := Aside0.mk (Kd.R_elder' (by (with_reducible repeat (first | apply Kd.R_alloc | apply Kd.R_drewN | apply Kd.R_drew)); exact HO174.out) (Kd.R_base ho0) hb); have n1_ := Aside0.mk (Kd.R_elder' (by (with_reducible repeat (first | apply Kd.R_alloc | apply Kd.R_drewN | apply Kd.R_drew)); exact HO177.out) (Kd.R_base ho0) hb); have n2_ := Aside0.mk (Kd.R_lower (Kd.R_new' (Kd.R_new' ho0 (Kd.R_lt (by (with_reducible repeat (first | apply Kd.R_alloc | apply Kd.R_drewN | apply Kd.R_drew)); exact HO174.out))) (Kd.R_lt (by (with_reducible repeat (first | apply Kd.R_alloc | apply Kd.R_drewN | apply Kd.R_drew)); exact HO177.out))) (below_size (by repeat (first | (with_reducible first | exact HB.out | apply below_alloc | apply pw_below_drewN | apply below_drew1) | exact HB.out)))); have n3_ := Aside0.mk (below_step (by repeat (first | (with_reducible first | exact HB.out | apply below_alloc | apply pw_below_drewN | apply below_drew1) | exact HB.out)) hb); clear HO174; clear HO177; clear HB; have HO174 := n0_; have HO177 := n1_; have HO180 := n2_; have HB := n3_; clear n0_ n1_ n2_ n3_; (try clear hb); (try clear hb2); (try clear hk); (try clear hi); (try clear ho0)) | ((with_reducible refine gate_callee (f := 26) rfl ?_); refine goesL_ (some 25) rfl rfl Try.func26 (by kernel_rfl) rfl #[.slice A0 l0.length c0] rfl (by (try simp only [List.map_toArray, List.map_cons, List.map_nil]); first | done | rfl | (simp only [List.length_drop, List.length_take]; rfl)) ?_; (with_reducible refine (laws_toIntS.calls k _ _ l0 t181 _ ?side1 ?side2 A8.out).mono ?_); (case side1 => repeat (first | exact (Kd.C_below HR0.out HB.out) | (with_reducible refine Kd.C_alloc ?_ _) | (with_reducible refine Kd.C_drewN ?_ _) | (with_reducible refine Kd.C_drew ?_))); (case side2 => exact HC0.out); rintro e w27 ⟨v182, rfl, ho0, hb⟩; refine ⟨_, rfl, ?_⟩; have n0_ := Aside0.mk (Kd.R_elder' (by (with_reducible repeat (first | apply Kd.R_alloc | apply Kd.R_drewN | apply Kd.R_drew)); exact HO174.out) (Kd.R_base ho0) hb); have n1_ := Aside0.mk (Kd.R_elder' (by (with_reducible repeat (first | apply Kd.R_alloc | apply Kd.R_drewN | apply Kd.R_drew)); exact HO177.out) (Kd.R_base ho0) hb); have n2_ := Aside0.mk (Kd.R_elder' (by (with_reducible repeat (first | apply Kd.R_alloc | apply Kd.R_drewN | apply Kd.R_drew)); exact HO180.out) (Kd.R_base ho0) hb); have n3_ := Aside0.mk (Kd.R_lower (Kd.R_new' (Kd.R_new' (Kd.R_new' ho0 (Kd.R_lt (by (with_reducible repeat (first | apply Kd.R_alloc | apply Kd.R_drewN | apply Kd.R_drew)); exact HO174.out))) (Kd.R_lt (by (with_reducible repeat (first | apply Kd.R_alloc | apply Kd.R_drewN | apply Kd.R_drew)); exact HO177.out))) (Kd.R_lt (by (with_reducible repeat (first | apply Kd.R_alloc | apply Kd.R_drewN | apply Kd.R_drew)); exact HO180.out))) (below_size (by repeat (first | (with_reducible first | exact HB.out | apply below_alloc | apply pw_below_drewN | apply below_drew1) | exact HB.out)))); have n4_ := Aside0.mk (below_step (by repeat (first | (with_reducible first | exact HB.out | apply below_alloc | apply pw_below_drewN | apply below_drew1) | exact HB.out)) hb); clear HO174; clear HO177; clear HO180; clear HB; have HO174 := n0_; have HO177 := n1_; have HO180 := n2_; have HO183 := n3_; have HB := n4_; clear n0_ n1_ n2_ n3_ n4_; (try clear hb); (try clear hb2); (try clear hk); (try clear hi); (try clear ho0)) | ((with_reducible refine gate_callee (f := 26) rfl ?_); refine goesL_ (some 27) rfl rfl Try.func26 (by kernel_rfl) rfl #[.slice A1 l1.length c1] rfl (by (try simp only [List.map_toArray, List.map_cons, List.map_nil]); first | done | rfl | (simp only [List.length_drop, List.length_take]; rfl)) ?_; (with_reducible refine (laws_toIntS.calls k _ _ l1 t184 _ ?side1 ?side2 A9.out).mono ?_); (case side1 => repeat (first | exact (Kd.C_below HR1.out HB.out) | (with_reducible refine Kd.C_alloc ?_ _) | (with_reducible refine Kd.C_drewN ?_ _) | (with_reducible refine Kd.C_drew ?_))); (case side2 => exact HC1.out); rintro e w28 ⟨v185, rfl, ho0, hb⟩; refine ⟨_, rfl, ?_⟩; have n0_ := Aside0.mk (Kd.R_elder' (by (with_reducible repeat (first | apply Kd.R_alloc | apply Kd.R_drewN | apply Kd.R_drew)); exact HO174.out) (Kd.R_base ho0) hb); have n1_ := Aside0.mk (Kd.R_elder' (by (with_reducible repeat (first | apply Kd.R_alloc | apply Kd.R_drewN | apply Kd.R_drew)); exact HO177.out) (Kd.R_base ho0) hb); have n2_ := Aside0.mk (Kd.R_elder' (by (with_reducible repeat (first | apply Kd.R_alloc | apply Kd.R_drewN | apply Kd.R_drew)); exact HO180.out) (Kd.R_base ho0) hb); have n3_ := Aside0.mk (Kd.R_elder' (by (with_reducible repeat (first | apply Kd.R_alloc | apply Kd.R_drewN | apply Kd.R_drew)); exact HO183.out) (Kd.R_base ho0) hb); have n4_ := Aside0.mk (Kd.R_lower (Kd.R_new' (Kd.R_new' (Kd.R_new' (Kd.R_new' ho0 (Kd.R_lt (by (with_reducible repeat (first | apply Kd.R_alloc | apply Kd.R_drewN | apply Kd.R_drew)); exact HO174.out))) (Kd.R_lt (by (with_reducible repeat (first | apply Kd.R_alloc | apply Kd.R_drewN | apply Kd.R_drew)); exact HO177.out))) (Kd.R_lt (by (with_reducible repeat (first | apply Kd.R_alloc | apply Kd.R_drewN | apply Kd.R_drew)); exact HO180.out))) (Kd.R_lt (by (with_reducible repeat (first | apply Kd.R_alloc | apply Kd.R_drewN | apply Kd.R_drew)); exact HO183.out))) (below_size (by repeat (first | (with_reducible first | exact HB.out | apply below_alloc | apply pw_below_drewN | apply below_drew1) | exact HB.out)))); have n5_ := Aside0.mk (below_step (by repeat (first | (with_reducible first | exact HB.out | apply below_alloc | apply pw_below_drewN | apply below_drew1) | exact HB.out)) hb); clear HO174; clear HO177; clear HO180; clear HO183; clear HB; have HO174 := n0_; have HO177 := n1_; have HO180 := n2_; have HO183 := n3_; have HO186 := n4_; have HB := n5_; clear n0_ n1_ n2_ n3_ n4_ n5_; (try clear hb); (try clear hb2); (try clear hk); (try clear hi); (try clear ho0); obtain ⟨Ao29, co29, eo29⟩ := Kd.R_slice HO183.out; subst eo29; obtain ⟨Ao30, co30, eo30⟩ := Kd.R_slice HO186.out; subst eo30) | ((with_reducible refine gate_callee (f := 43) rfl ?_); refine goesL_ (some 30) rfl rfl Try.func43 (by kernel_rfl) rfl #[.slice Ao29 t181.length co29, .slice Ao30 t184.length co30] rfl (by (try simp only [List.map_toArray, List.map_cons, List.map_nil]); first | done | rfl | (simp only [List.length_drop, List.length_take]; rfl)) ?_; (with_reducible refine (impl_SetJoin.calls k _ _ t181 _ _ t184 t187 _ ?side1 ?side2 ?side3 ?side4 A10.out).mono ?_); (case side1 => repeat (first | exact (Kd.R_reads' HO183.out).2.2 | (with_reducible refine Kd.C_alloc ?_ _) | (with_reducible refine Kd.C_drewN ?_ _) | (with_reducible refine Kd.C_drew ?_))); (case side2 => exact (Kd.R_reads' HO183.out).2.1); (case side3 => repeat (first | exact (Kd.R_reads' HO186.out).2.2 | (with_reducible refine Kd.C_alloc ?_ _) | (with_reducible refine Kd.C_drewN ?_ _) | (with_reducible refine Kd.C_drew ?_))); (case side4 => exact (Kd.R_reads' HO186.out).2.1); rintro e w31 ⟨v188, rfl, ho0, hb⟩; refine ⟨_, rfl, ?_⟩; have n0_ := Aside0.mk (Kd.R_elder' (by (with_reducible repeat (first | apply Kd.R_alloc | apply Kd.R_drewN | apply Kd.R_drew)); exact HO174.out) (Kd.R_base ho0) hb); have n1_ := Aside0.mk (Kd.R_elder' (by (with_reducible repeat (first | apply Kd.R_alloc | apply Kd.R_drewN | apply Kd.R_drew)); exact HO177.out) (Kd.R_base ho0) hb); have n2_ := Aside0.mk (Kd.R_elder' (by (with_reducible repeat (first | apply Kd.R_alloc | apply Kd.R_drewN | apply Kd.R_drew)); exact HO180.out) (Kd.R_base ho0) hb); have n3_ := Aside0.mk (Kd.R_elder' (by (with_reducible repeat (first | apply Kd.R_alloc | apply Kd.R_drewN | apply Kd.R_drew)); exact HO183.out) (Kd.R_base ho0) hb); have n4_ := Aside0.mk (Kd.R_elder' (by (with_reducible repeat (first | apply Kd.R_alloc | apply Kd.R_drewN | apply Kd.R_drew)); exact HO186.out) (Kd.R_base ho0) hb); have n5_ := Aside0.mk (Kd.R_lower (Kd.R_new' (Kd.R_new' (Kd.R_new' (Kd.R_new' (Kd.R_new' ho0 (Kd.R_lt (by (with_reducible repeat (first | apply Kd.R_alloc | apply Kd.R_drewN | apply Kd.R_drew)); exact HO174.out))) (Kd.R_lt (by (with_reducible repeat (first | apply Kd.R_alloc | apply Kd.R_drewN | apply Kd.R_drew)); exact HO177.out))) (Kd.R_lt (by (with_reducible repeat (first | apply Kd.R_alloc | apply Kd.R_drewN | apply Kd.R_drew)); exact HO180.out))) (Kd.R_lt (by (with_reducible repeat (first | apply Kd.R_alloc | apply Kd.R_drewN | apply Kd.R_drew)); exact HO183.out))) (Kd.R_lt (by (with_reducible repeat (first | apply Kd.R_alloc | apply Kd.R_drewN | apply Kd.R_drew)); exact HO186.out))) (below_size (by repeat (first | (with_reducible first | exact HB.out | apply below_alloc | apply pw_below_drewN | apply below_drew1) | exact HB.out)))); have n6_ := Aside0.mk (below_step (by repeat (first | (with_reducible first | exact HB.out | apply below_alloc | apply pw_below_drewN | apply below_drew1) | exact HB.out)) hb); clear HO174; clear HO177; clear HO180; clear HO183; clear HO186; clear HB; have HO174 := n0_; have HO177 := n1_; have HO180 := n2_; have HO183 := n3_; have HO186 := n4_; have HO189 := n5_; have HB := n6_; clear n0_ n1_ n2_ n3_ n4_ n5_ n6_; (try clear hb); (try clear hb2); (try clear hk); (try clear hi); (try clear ho0); obtain ⟨Ao32, co32, eo32⟩ := Kd.R_slice HO189.out; subst eo32; obtain ⟨Ao33, co33, eo33⟩ := Kd.R_slice HO180.out; subst eo33) | ((with_reducible refine gate_callee (f := 28) rfl ?_); refine goesL_ (some 33) rfl rfl Try.func28 (by kernel_rfl) rfl #[.slice Ao32 t187.length co32, .slice Ao33 t178.length co33] rfl (by (try simp only [List.map_toArray, List.map_cons, List.map_nil]); first | done | rfl | (simp only [List.length_drop, List.length_take]; rfl)) ?_; (with_reducible refine (laws_eqIntS.calls k _ _ t187 _ _ t178 true _ ?side1 ?side2 ?side3 ?side4 A11.out).mono ?_); (case side1 => repeat (first | exact (Kd.R_reads' HO189.out).2.2 | (with_reducible refine Kd.C_alloc ?_ _) | (with_reducible refine Kd.C_drewN ?_ _) | (with_reducible refine Kd.C_drew ?_))); (case side2 => exact (Kd.R_reads' HO189.out).2.1); (case side3 => repeat (first | exact (Kd.R_reads' HO180.out).2.2 | (with_reducible refine Kd.C_alloc ?_ _) | (with_reducible refine Kd.C_drewN ?_ _) | (with_reducible refine Kd.C_drew ?_))); (case side4 => exact (Kd.R_reads' HO180.out).2.1); rintro e w' ⟨rfl, ⟨nd, rfl⟩⟩; refine ⟨_, rfl, ?_⟩) | ((with_reducible refine gate_callee (f := 26) rfl ?_); refine goesL_ (some 37) rfl rfl Try.func26 (by kernel_rfl) rfl #[.slice A0 l0.length c0] rfl (by (try simp only [List.map_toArray, List.map_cons, List.map_nil]); first | done | rfl | (simp only [List.length_drop, List.length_take]; rfl)) ?_; (with_reducible refine (laws_toIntS.calls k _ _ l0 t191 _ ?side1 ?side2 A13.out).mono ?_); (case side1 => repeat (first | exact (Kd.C_below HR0.out (by repeat (first | (with_reducible first | exact HB.out | apply below_alloc | apply pw_below_drewN | apply below_drew1) | exact HB.out))) | (with_reducible refine Kd.C_alloc ?_ _) | (with_reducible refine Kd.C_drewN ?_ _) | (with_reducible refine Kd.C_drew ?_))); (case side2 => exact HC0.out); rintro e w34 ⟨v192, rfl, ho0, hb⟩; refine ⟨_, rfl, ?_⟩; have n0_ := Aside0.mk (Kd.R_elder' (by (with_reducible repeat (first | apply Kd.R_alloc | apply Kd.R_drewN | apply Kd.R_drew)); exact HO174.out) (Kd.R_base ho0) hb); have n1_ := Aside0.mk (Kd.R_elder' (by (with_reducible repeat (first | apply Kd.R_alloc | apply Kd.R_drewN | apply Kd.R_drew)); exact HO177.out) (Kd.R_base ho0) hb); have n2_ := Aside0.mk (Kd.R_elder' (by (with_reducible repeat (first | apply Kd.R_alloc | apply Kd.R_drewN | apply Kd.R_drew)); exact HO180.out) (Kd.R_base ho0) hb); have n3_ := Aside0.mk (Kd.R_elder' (by (with_reducible repeat (first | apply Kd.R_alloc | apply Kd.R_drewN | apply Kd.R_drew)); exact HO183.out) (Kd.R_base ho0) hb); have n4_ := Aside0.mk (Kd.R_elder' (by (with_reducible repeat (first | apply Kd.R_alloc | apply Kd.R_drewN | apply Kd.R_drew)); exact HO186.out) (Kd.R_base ho0) hb); have n5_ := Aside0.mk (Kd.R_elder' (by (with_reducible repeat (first | apply Kd.R_alloc | apply Kd.R_drewN | apply Kd.R_drew)); exact HO189.out) (Kd.R_base ho0) hb); have n6_ := Aside0.mk (Kd.R_lower (Kd.R_new' (Kd.R_new' (Kd.R_new' (Kd.R_new' (Kd.R_new' (Kd.R_new' ho0 (Kd.R_lt (by (with_reducible repeat (first | apply Kd.R_alloc | apply Kd.R_drewN | apply Kd.R_drew)); exact HO174.out))) (Kd.R_lt (by (with_reducible repeat (first | apply Kd.R_alloc | apply Kd.R_drewN | apply Kd.R_drew)); exact HO177.out))) (Kd.R_lt (by (with_reducible repeat (first | apply Kd.R_alloc | apply Kd.R_drewN | apply Kd.R_drew)); exact HO180.out))) (Kd.R_lt (by (with_reducible repeat (first | apply Kd.R_alloc | apply Kd.R_drewN | apply Kd.R_drew)); exact HO183.out))) (Kd.R_lt (by (with_reducible repeat (first | apply Kd.R_alloc | apply Kd.R_drewN | apply Kd.R_drew)); exact HO186.out))) (Kd.R_lt (by (with_reducible repeat (first | apply Kd.R_alloc | apply Kd.R_drewN | apply Kd.R_drew)); exact HO189.out))) (below_size (by repeat (first | (with_reducible first | exact HB.out | apply below_alloc | apply pw_below_drewN | apply below_drew1) | exact HB.out)))); have n7_ := Aside0.mk (below_step (by repeat (first | (with_reducible first | exact HB.out | apply below_alloc | apply pw_below_drewN | apply below_drew1) | exact HB.out)) hb); clear HO174; clear HO177; clear HO180; clear HO183; clear HO186; clear HO189; clear HB; have HO174 := n0_; have HO177 := n1_; have HO180 := n2_; have HO183 := n3_; have HO186 := n4_; have HO189 := n5_; have HO193 := n6_; have HB := n7_; clear n0_ n1_ n2_ n3_ n4_ n5_ n6_ n7_; (try clear hb); (try clear hb2); (try clear hk); (try clear hi); (try clear ho0); obtain ⟨Ao35, co35, eo35⟩ := Kd.R_slice HO193.out; subst eo35) | ((with_reducible refine gate_callee (f := 28) rfl ?_); refine goesL_ (some 38) rfl rfl Try.func28 (by kernel_rfl) rfl #[.slice Ao29 t181.length co29, .slice Ao35 t191.length co35] rfl (by (try simp only [List.map_toArray, List.map_cons, List.map_nil]); first | done | rfl | (simp only [List.length_drop, List.length_take]; rfl)) ?_; (with_reducible refine (laws_eqIntS.calls k _ _ t181 _ _ t191 true _ ?side1 ?side2 ?side3 ?side4 A14.out).mono ?_); (case side1 => repeat (first | exact (Kd.R_reads' HO183.out).2.2 | (with_reducible refine Kd.C_alloc ?_ _) | (with_reducible refine Kd.C_drewN ?_ _) | (with_reducible refine Kd.C_drew ?_))); (case side2 => exact (Kd.R_reads' HO183.out).2.1); (case side3 => repeat (first | exact (Kd.R_reads' HO193.out).2.2 | (with_reducible refine Kd.C_alloc ?_ _) | (with_reducible refine Kd.C_drewN ?_ _) | (with_reducible refine Kd.C_drew ?_))); (case side4 => exact (Kd.R_reads' HO193.out).2.1); rintro e w' ⟨rfl, ⟨nd, rfl⟩⟩; refine ⟨_, rfl, ?_⟩) | ((with_reducible refine gate_callee (f := 26) rfl ?_); refine goesL_ (some 42) rfl rfl Try.func26 (by kernel_rfl) rfl #[.slice A1 l1.length c1] rfl (by (try simp only [List.map_toArray, List.map_cons, List.map_nil]); first | done | rfl | (simp only [List.length_drop, List.length_take]; rfl)) ?_; (with_reducible refine (laws_toIntS.calls k _ _ l1 t195 _ ?side1 ?side2 A16.out).mono ?_); (case side1 => repeat (first | exact (Kd.C_below HR1.out (by repeat (first | (with_reducible first | exact HB.out | apply below_alloc | apply pw_below_drewN | apply below_drew1) | exact HB.out))) | (with_reducible refine Kd.C_alloc ?_ _) | (with_reducible refine Kd.C_drewN ?_ _) | (with_reducible refine Kd.C_drew ?_))); (case side2 => exact HC1.out); rintro e w36 ⟨v196, rfl, ho0, hb⟩; refine ⟨_, rfl, ?_⟩; have n0_ := Aside0.mk (Kd.R_elder' (by (with_reducible repeat (first | apply Kd.R_alloc | apply Kd.R_drewN | apply Kd.R_drew)); exact HO174.out) (Kd.R_base ho0) hb); have n1_ := Aside0.mk (Kd.R_elder' (by (with_reducible repeat (first | apply Kd.R_alloc | apply Kd.R_drewN | apply Kd.R_drew)); exact HO177.out) (Kd.R_base ho0) hb); have n2_ := Aside0.mk (Kd.R_elder' (by (with_reducible repeat (first | apply Kd.R_alloc | apply Kd.R_drewN | apply Kd.R_drew)); exact HO180.out) (Kd.R_base ho0) hb); have n3_ := Aside0.mk (Kd.R_elder' (by (with_reducible repeat (first | apply Kd.R_alloc | apply Kd.R_drewN | apply Kd.R_drew)); exact HO183.out) (Kd.R_base ho0) hb); have n4_ := Aside0.mk (Kd.R_elder' (by (with_reducible repeat (first | apply Kd.R_alloc | apply Kd.R_drewN | apply Kd.R_drew)); exact HO186.out) (Kd.R_base ho0) hb); have n5_ := Aside0.mk (Kd.R_elder' (by (with_reducible repeat (first | apply Kd.R_alloc | apply Kd.R_drewN | apply Kd.R_drew)); exact HO189.out) (Kd.R_base ho0) hb); have n6_ := Aside0.mk (Kd.R_elder' (by (with_reducible repeat (first | apply Kd.R_alloc | apply Kd.R_drewN | apply Kd.R_drew)); exact HO193.out) (Kd.R_base ho0) hb); have n7_ := Aside0.mk (Kd.R_lower (Kd.R_new' (Kd.R_new' (Kd.R_new' (Kd.R_new' (Kd.R_new' (Kd.R_new' (Kd.R_new' ho0 (Kd.R_lt (by (with_reducible repeat (first | apply Kd.R_alloc | apply Kd.R_drewN | apply Kd.R_drew)); exact HO174.out))) (Kd.R_lt (by (with_reducible repeat (first | apply Kd.R_alloc | apply Kd.R_drewN | apply Kd.R_drew)); exact HO177.out))) (Kd.R_lt (by (with_reducible repeat (first | apply Kd.R_alloc | apply Kd.R_drewN | apply Kd.R_drew)); exact HO180.out))) (Kd.R_lt (by (with_reducible repeat (first | apply Kd.R_alloc | apply Kd.R_drewN | apply Kd.R_drew)); exact HO183.out))) (Kd.R_lt (by (with_reducible repeat (first | apply Kd.R_alloc | apply Kd.R_drewN | apply Kd.R_drew)); exact HO186.out))) (Kd.R_lt (by (with_reducible repeat (first | apply Kd.R_alloc | apply Kd.R_drewN | apply Kd.R_drew)); exact HO189.out))) (Kd.R_lt (by (with_reducible repeat (first | apply Kd.R_alloc | apply Kd.R_drewN | apply Kd.R_drew)); exact HO193.out))) (below_size (by repeat (first | (with_reducible first | exact HB.out | apply below_alloc | apply pw_below_drewN | apply below_drew1) | exact HB.out)))); have n8_ := Aside0.mk (below_step (by repeat (first | (with_reducible first | exact HB.out | apply below_alloc | apply pw_below_drewN | apply below_drew1) | exact HB.out)) hb); clear HO174; clear HO177; clear HO180; clear HO183; clear HO186; clear HO189; clear HO193; clear HB; have HO174 := n0_; have HO177 := n1_; have HO180 := n2_; have HO183 := n3_; have HO186 := n4_; have HO189 := n5_; have HO193 := n6_; have HO197 := n7_; have HB := n8_; clear n0_ n1_ n2_ n3_ n4_ n5_ n6_ n7_ n8_; (try clear hb); (try clear hb2); (try clear hk); (try clear hi); (try clear ho0); obtain ⟨Ao37, co37, eo37⟩ := Kd.R_slice HO197.out; subst eo37) | ((with_reducible refine gate_callee (f := 28) rfl ?_); refine goesL_ (some 43) rfl rfl Try.func28 (by kernel_rfl) rfl #[.slice Ao30 t184.length co30, .slice Ao37 t195.length co37] rfl (by (try simp only [List.map_toArray, List.map_cons, List.map_nil]); first | done | rfl | (simp only [List.length_drop, List.length_take]; rfl)) ?_; (with_reducible refine (laws_eqIntS.calls k _ _ t184 _ _ t195 true _ ?side1 ?side2 ?side3 ?side4 A17.out).mono ?_); (case side1 => repeat (first | exact (Kd.R_reads' HO186.out).2.2 | (with_reducible refine Kd.C_alloc ?_ _) | (with_reducible refine Kd.C_drewN ?_ _) | (with_reducible refine Kd.C_drew ?_))); (case side2 => exact (Kd.R_reads' HO186.out).2.1); (case side3 => repeat (first | exact (Kd.R_reads' HO197.out).2.2 | (with_reducible refine Kd.C_alloc ?_ _) | (with_reducible refine Kd.C_drewN ?_ _) | (with_reducible refine Kd.C_drew ?_))); (case side4 => exact (Kd.R_reads' HO197.out).2.1); rintro e w' ⟨rfl, ⟨nd, rfl⟩⟩; refine ⟨_, rfl, ?_⟩) | ((with_reducible refine gate_callee (f := 40) rfl ?_); refine goesL_ (some 47) rfl rfl Try.func40 (by kernel_rfl) rfl #[.slice Ao29 t181.length co29, .int .i64 1] rfl (by (try simp only [List.map_toArray, List.map_cons, List.map_nil]); first | done | rfl | (simp only [List.length_drop, List.length_take]; rfl)) ?_; (with_reducible refine (laws_markIntS.calls k (fun k_ => some k_ = (.slice Ao29 t181.length co29 : Value).ownBlock) (.slice Ao29 t181.length co29) t181 1 t199 t200 w _ ?side1 ?side2 A19.out).mono ?_); (case side1 => repeat (first | (with_reducible first | exact HB.out | apply below_alloc | apply pw_below_drewN | apply below_drew1) | exact HB.out)); (case side2 => exact Kd.R_tight rfl HO183.out); rintro e w38 ⟨rfl, hy0, hb, hkp⟩; refine ⟨_, rfl, ?_⟩; have n0_ := Aside0.mk (Kd.R_mono (ok' := fun k_ => some k_ ≠ (.slice Ao25 t175.length co25 : Value).ownBlock ∧ some k_ ≠ (.slice Ao33 t178.length co33 : Value).ownBlock ∧ some k_ ≠ (.slice Ao29 t181.length co29 : Value).ownBlock ∧ some k_ ≠ (.slice Ao30 t184.length co30 : Value).ownBlock ∧ some k_ ≠ (.slice Ao32 t187.length co32 : Value).ownBlock ∧ some k_ ≠ (.slice Ao35 t191.length co35 : Value).ownBlock ∧ some k_ ≠ (.slice Ao37 t195.length co37 : Value).ownBlock) (Kd.R_keptB (HO174.out) hkp (fun k_ hk_ hs_ => (hk_.1.1.1.1.2) hs_)) (fun k_ hk_ => ⟨hk_.1.1.1.1.1.1.1.2, hk_.1.1.1.1.1.1.2, hk_.1.1.1.1.1.2, hk_.1.1.1.1.2, hk_.1.1.1.2, hk_.1.1.2, hk_.1.2⟩)); have n1_ := Aside0.mk (Kd.R_mono (ok' := fun k_ => some k_ ≠ (.slice Ao24 t172.length co24 : Value).ownBlock ∧ some k_ ≠ (.slice Ao33 t178.length co33 : Value).ownBlock ∧ some k_ ≠ (.slice Ao29 t181.length co29 : Value).ownBlock ∧ some k_ ≠ (.slice Ao30 t184.length co30 : Value).ownBlock ∧ some k_ ≠ (.slice Ao32 t187.length co32 : Value).ownBlock ∧ some k_ ≠ (.slice Ao35 t191.length co35 : Value).ownBlock ∧ some k_ ≠ (.slice Ao37 t195.length co37 : Value).ownBlock) (Kd.R_keptB (HO177.out) hkp (fun k_ hk_ hs_ => (hk_.1.1.1.1.2) hs_)) (fun k_ hk_ => ⟨hk_.1.1.1.1.1.1.1.2, hk_.1.1.1.1.1.1.2, hk_.1.1.1.1.1.2, hk_.1.1.1.1.2, hk_.1.1.1.2, hk_.1.1.2, hk_.1.2⟩)); have n2_ := Aside0.mk (Kd.R_mono (ok' := fun k_ => some k_ ≠ (.slice Ao24 t172.length co24 : Value).ownBlock ∧ some k_ ≠ (.slice Ao25 t175.length co25 : Value).ownBlock ∧ some k_ ≠ (.slice Ao29 t181.length co29 : Value).ownBlock ∧ some k_ ≠ (.slice Ao30 t184.length co30 : Value).ownBlock ∧ some k_ ≠ (.slice Ao32 t187.length co32 : Value).ownBlock ∧ some k_ ≠ (.slice Ao35 t191.length co35 : Value).ownBlock ∧ some k_ ≠ (.slice Ao37 t195.length co37 : Value).ownBlock) (Kd.R_keptB (HO180.out) hkp (fun k_ hk_ hs_ => (hk_.1.1.1.1.2) hs_)) (fun k_ hk_ => ⟨hk_.1.1.1.1.1.1.1.2, hk_.1.1.1.1.1.1.2, hk_.1.1.1.1.1.2, hk_.1.1.1.1.2, hk_.1.1.1.2, hk_.1.1.2, hk_.1.2⟩)); have n3_ := Aside0.mk (Kd.R_reok rfl hy0 (fun k_ e_ => HO183.out.1 k_ e_)); have n4_ := Aside0.mk (Kd.R_mono (ok' := fun k_ => some k_ ≠ (.slice Ao24 t172.length co24 : Value).ownBlock ∧ some k_ ≠ (.slice Ao25 t175.length co25 : Value).ownBlock ∧ some k_ ≠ (.slice Ao33 t178.length co33 : Value).ownBlock ∧ some k_ ≠ (.slice Ao29 t181.length co29 : Value).ownBlock ∧ some k_ ≠ (.slice Ao32 t187.length co32 : Value).ownBlock ∧ some k_ ≠ (.slice Ao35 t191.length co35 : Value).ownBlock ∧ some k_ ≠ (.slice Ao37 t195.length co37 : Value).ownBlock) (Kd.R_keptB (HO186.out) hkp (fun k_ hk_ hs_ => (hk_.1.1.1.2) hs_)) (fun k_ hk_ => ⟨hk_.1.1.1.1.1.1.1.2, hk_.1.1.1.1.1.1.2, hk_.1.1.1.1.1.2, hk_.1.1.1.1.2, hk_.1.1.1.2, hk_.1.1.2, hk_.1.2⟩)); have n5_ := Aside0.mk (Kd.R_mono (ok' := fun k_ => some k_ ≠ (.slice Ao24 t172.length co24 : Value).ownBlock ∧ some k_ ≠ (.slice Ao25 t175.length co25 : Value).ownBlock ∧ some k_ ≠ (.slice Ao33 t178.length co33 : Value).ownBlock ∧ some k_ ≠ (.slice Ao29 t181.length co29 : Value).ownBlock ∧ some k_ ≠ (.slice Ao30 t184.length co30 : Value).ownBlock ∧ some k_ ≠ (.slice Ao35 t191.length co35 : Value).ownBlock ∧ some k_ ≠ (.slice Ao37 t195.length co37 : Value).ownBlock) (Kd.R_keptB (HO189.out) hkp (fun k_ hk_ hs_ => (hk_.1.1.1.2) hs_)) (fun k_ hk_ => ⟨hk_.1.1.1.1.1.1.1.2, hk_.1.1.1.1.1.1.2, hk_.1.1.1.1.1.2, hk_.1.1.1.1.2, hk_.1.1.1.2, hk_.1.1.2, hk_.1.2⟩)); have n6_ := Aside0.mk (Kd.R_mono (ok' := fun k_ => some k_ ≠ (.slice Ao24 t172.length co24 : Value).ownBlock ∧ some k_ ≠ (.slice Ao25 t175.length co25 : Value).ownBlock ∧ some k_ ≠ (.slice Ao33 t178.length co33 : Value).ownBlock ∧ some k_ ≠ (.slice Ao29 t181.length co29 : Value).ownBlock ∧ some k_ ≠ (.slice Ao30 t184.length co30 : Value).ownBlock ∧ some k_ ≠ (.slice Ao32 t187.length co32 : Value).ownBlock ∧ some k_ ≠ (.slice Ao37 t195.length co37 : Value).ownBlock) (Kd.R_keptB (HO193.out) hkp (fun k_ hk_ hs_ => (hk_.1.1.1.2) hs_)) (fun k_ hk_ => ⟨hk_.1.1.1.1.1.1.1.2, hk_.1.1.1.1.1.1.2, hk_.1.1.1.1.1.2, hk_.1.1.1.1.2, hk_.1.1.1.2, hk_.1.1.2, hk_.1.2⟩)); have n7_ := Aside0.mk (Kd.R_mono (ok' := fun k_ => some k_ ≠ (.slice Ao24 t172.length co24 : Value).ownBlock ∧ some k_ ≠ (.slice Ao25 t175.length co25 : Value).ownBlock ∧ some k_ ≠ (.slice Ao33 t178.length co33 : Value).ownBlock ∧ some k_ ≠ (.slice Ao29 t181.length co29 : Value).ownBlock ∧ some k_ ≠ (.slice Ao30 t184.length co30 : Value).ownBlock ∧ some k_ ≠ (.slice Ao32 t187.length co32 : Value).ownBlock ∧ some k_ ≠ (.slice Ao35 t191.length co35 : Value).ownBlock) (Kd.R_keptB (HO197.out) hkp (fun k_ hk_ hs_ => (hk_.1.1.1.2) hs_)) (fun k_ hk_ => ⟨hk_.1.1.1.1.1.1.1.2, hk_.1.1.1.1.1.1.2, hk_.1.1.1.1.1.2, hk_.1.1.1.1.2, hk_.1.1.1.2, hk_.1.1.2, hk_.1.2⟩)); have n8_ := Aside0.mk (hb); clear HO174; clear HO177; clear HO180; clear HO183; clear HO186; clear HO189; clear HO193; clear HO197; clear HB; have HO174 := n0_; have HO177 := n1_; have HO180 := n2_; have HO183 := n3_; have HO186 := n4_; have HO189 := n5_; have HO193 := n6_; have HO197 := n7_; have HB := n8_; clear n0_ n1_ n2_ n3_ n4_ n5_ n6_ n7_ n8_; (try clear hb); (try clear hkp); (try clear hy0)) | ((with_reducible refine gate_callee (f := 40) rfl ?_); refine goesL_ (some 50) rfl rfl Try.func40 (by kernel_rfl) rfl #[.slice Ao30 t184.length co30, .int .i64 t199] rfl (by (try simp only [List.map_toArray, List.map_cons, List.map_nil]); first | done | rfl | (simp only [List.length_drop, List.length_take]; rfl)) ?_; (with_reducible refine (laws_markIntS.calls k (fun k_ => some k_ = (.slice Ao30 t184.length co30 : Value).ownBlock) (.slice Ao30 t184.length co30) t184 t199 t201 t202 w _ ?side1 ?side2 A20.out).mono ?_); (case side1 => repeat (first | (with_reducible first | exact HB.out | apply below_alloc | apply pw_below_drewN | apply below_drew1) | exact HB.out)); (case side2 => exact Kd.R_tight rfl HO186.out); rintro e w39 ⟨rfl, hy0, hb, hkp⟩; refine ⟨_, rfl, ?_⟩; have n0_ := Aside0.mk (Kd.R_mono (ok' := fun k_ => some k_ ≠ (.slice Ao25 t175.length co25 : Value).ownBlock ∧ some k_ ≠ (.slice Ao33 t178.length co33 : Value).ownBlock ∧ some k_ ≠ (.slice Ao29 t181.length co29 : Value).ownBlock ∧ some k_ ≠ (.slice Ao30 t184.length co30 : Value).ownBlock ∧ some k_ ≠ (.slice Ao32 t187.length co32 : Value).ownBlock ∧ some k_ ≠ (.slice Ao35 t191.length co35 : Value).ownBlock ∧ some k_ ≠ (.slice Ao37 t195.length co37 : Value).ownBlock) (Kd.R_keptB (HO174.out) hkp (fun k_ hk_ hs_ => (hk_.2.2.2.1) hs_)) (fun k_ hk_ => ⟨hk_.1.1, hk_.1.2.1, hk_.1.2.2.1, hk_.1.2.2.2.1, hk_.1.2.2.2.2.1, hk_.1.2.2.2.2.2.1, hk_.1.2.2.2.2.2.2⟩)); have n1_ := Aside0.mk (Kd.R_mono (ok' := fun k_ => some k_ ≠ (.slice Ao24 t172.length co24 : Value).ownBlock ∧ some k_ ≠ (.slice Ao33 t178.length co33 : Value).ownBlock ∧ some k_ ≠ (.slice Ao29 t181.length co29 : Value).ownBlock ∧ some k_ ≠ (.slice Ao30 t184.length co30 : Value).ownBlock ∧ some k_ ≠ (.slice Ao32 t187.length co32 : Value).ownBlock ∧ some k_ ≠ (.slice Ao35 t191.length co35 : Value).ownBlock ∧ some k_ ≠ (.slice Ao37 t195.length co37 : Value).ownBlock) (Kd.R_keptB (HO177.out) hkp (fun k_ hk_ hs_ => (hk_.2.2.2.1) hs_)) (fun k_ hk_ => ⟨hk_.1.1, hk_.1.2.1, hk_.1.2.2.1, hk_.1.2.2.2.1, hk_.1.2.2.2.2.1, hk_.1.2.2.2.2.2.1, hk_.1.2.2.2.2.2.2⟩)); have n2_ := Aside0.mk (Kd.R_mono (ok' := fun k_ => some k_ ≠ (.slice Ao24 t172.length co24 : Value).ownBlock ∧ some k_ ≠ (.slice Ao25 t175.length co25 : Value).ownBlock ∧ some k_ ≠ (.slice Ao29 t181.length co29 : Value).ownBlock ∧ some k_ ≠ (.slice Ao30 t184.length co30 : Value).ownBlock ∧ some k_ ≠ (.slice Ao32 t187.length co32 : Value).ownBlock ∧ some k_ ≠ (.slice Ao35 t191.length co35 : Value).ownBlock ∧ some k_ ≠ (.slice Ao37 t195.length co37 : Value).ownBlock) (Kd.R_keptB (HO180.out) hkp (fun k_ hk_ hs_ => (hk_.2.2.2.1) hs_)) (fun k_ hk_ => ⟨hk_.1.1, hk_.1.2.1, hk_.1.2.2.1, hk_.1.2.2.2.1, hk_.1.2.2.2.2.1, hk_.1.2.2.2.2.2.1, hk_.1.2.2.2.2.2.2⟩)); have n3_ := Aside0.mk (Kd.R_mono (ok' := fun k_ => some k_ ≠ (.slice Ao24 t172.length co24 : Value).ownBlock ∧ some k_ ≠ (.slice Ao25 t175.length co25 : Value).ownBlock ∧ some k_ ≠ (.slice Ao33 t178.length co33 : Value).ownBlock ∧ some k_ ≠ (.slice Ao30 t184.length co30 : Value).ownBlock ∧ some k_ ≠ (.slice Ao32 t187.length co32 : Value).ownBlock ∧ some k_ ≠ (.slice Ao35 t191.length co35 : Value).ownBlock ∧ some k_ ≠ (.slice Ao37 t195.length co37 : Value).ownBlock) (Kd.R_keptB (HO183.out) hkp (fun k_ hk_ hs_ => (hk_.1.1.1.2) hs_)) (fun k_ hk_ => ⟨hk_.1.1.1.1.1.1.1.2, hk_.1.1.1.1.1.1.2, hk_.1.1.1.1.1.2, hk_.1.1.1.1.2, hk_.1.1.1.2, hk_.1.1.2, hk_.1.2⟩)); have n4_ := Aside0.mk (Kd.R_reok rfl hy0 (fun k_ e_ => HO186.out.1 k_ e_)); have n5_ := Aside0.mk (Kd.R_mono (ok' := fun k_ => some k_ ≠ (.slice Ao24 t172.length co24 : Value).ownBlock ∧ some k_ ≠ (.slice Ao25 t175.length co25 : Value).ownBlock ∧ some k_ ≠ (.slice Ao33 t178.length co33 : Value).ownBlock ∧ some k_ ≠ (.slice Ao29 t181.length co29 : Value).ownBlock ∧ some k_ ≠ (.slice Ao30 t184.length co30 : Value).ownBlock ∧ some k_ ≠ (.slice Ao35 t191.length co35 : Value).ownBlock ∧ some k_ ≠ (.slice Ao37 t195.length co37 : Value).ownBlock) (Kd.R_keptB (HO189.out) hkp (fun k_ hk_ hs_ => (hk_.2.2.2.2.1) hs_)) (fun k_ hk_ => ⟨hk_.1.1, hk_.1.2.1, hk_.1.2.2.1, hk_.1.2.2.2.1, hk_.1.2.2.2.2.1, hk_.1.2.2.2.2.2.1, hk_.1.2.2.2.2.2.2⟩)); have n6_ := Aside0.mk (Kd.R_mono (ok' := fun k_ => some k_ ≠ (.slice Ao24 t172.length co24 : Value).ownBlock ∧ some k_ ≠ (.slice Ao25 t175.length co25 : Value).ownBlock ∧ some k_ ≠ (.slice Ao33 t178.length co33 : Value).ownBlock ∧ some k_ ≠ (.slice Ao29 t181.length co29 : Value).ownBlock ∧ some k_ ≠ (.slice Ao30 t184.length co30 : Value).ownBlock ∧ some k_ ≠ (.slice Ao32 t187.length co32 : Value).ownBlock ∧ some k_ ≠ (.slice Ao37 t195.length co37 : Value).ownBlock) (Kd.R_keptB (HO193.out) hkp (fun k_ hk_ hs_ => (hk_.2.2.2.2.1) hs_)) (fun k_ hk_ => ⟨hk_.1.1, hk_.1.2.1, hk_.1.2.2.1, hk_.1.2.2.2.1, hk_.1.2.2.2.2.1, hk_.1.2.2.2.2.2.1, hk_.1.2.2.2.2.2.2⟩)); have n7_ := Aside0.mk (Kd.R_mono (ok' := fun k_ => some k_ ≠ (.slice Ao24 t172.length co24 : Value).ownBlock ∧ some k_ ≠ (.slice Ao25 t175.length co25 : Value).ownBlock ∧ some k_ ≠ (.slice Ao33 t178.length co33 : Value).ownBlock ∧ some k_ ≠ (.slice Ao29 t181.length co29 : Value).ownBlock ∧ some k_ ≠ (.slice Ao30 t184.length co30 : Value).ownBlock ∧ some k_ ≠ (.slice Ao32 t187.length co32 : Value).ownBlock ∧ some k_ ≠ (.slice Ao35 t191.length co35 : Value).ownBlock) (Kd.R_keptB (HO197.out) hkp (fun k_ hk_ hs_ => (hk_.2.2.2.2.1) hs_)) (fun k_ hk_ => ⟨hk_.1.1, hk_.1.2.1, hk_.1.2.2.1, hk_.1.2.2.2.1, hk_.1.2.2.2.2.1, hk_.1.2.2.2.2.2.1, hk_.1.2.2.2.2.2.2⟩)); have n8_ := Aside0.mk (hb); clear HO174; clear HO177; clear HO180; clear HO183; clear HO186; clear HO189; clear HO193; clear HO197; clear HB; have HO174 := n0_; have HO177 := n1_; have HO180 := n2_; have HO183 := n3_; have HO186 := n4_; have HO189 := n5_; have HO193 := n6_; have HO197 := n7_; have HB := n8_; clear n0_ n1_ n2_ n3_ n4_ n5_ n6_ n7_ n8_; (try clear hb); (try clear hkp); (try clear hy0)))
            (try simp only [Act.put, List.setIfInBounds_toArray, List.set_cons_zero, List.set_cons_succ])
            go_cut [58] (fun v58 wc => ∃ (kq : Nat) (x58_20 : Bool), v58 = .bool x58_20 ∧ Aside0 (laws_FnExactSetJoin.j0 kq l0 l1 t178 t187 x58_20 = some r) ∧ Aside0 (kq ≤ k) ∧ Aside0 (Kd.R (Kd.int .i64) 3 wc w.heap.size (fun k_ => some k_ ≠ ((.slice Ao32 t187.length co32) : Value).ownBlock) (.slice Ao33 t178.length co33) t178) ∧ Aside0 (Kd.R (Kd.int .i64) 3 wc w.heap.size (fun k_ => some k_ ≠ ((.slice Ao33 t178.length co33) : Value).ownBlock) (.slice Ao32 t187.length co32) t187) ∧ Aside0 (Below w.heap.size w wc))
            case first =>
              have H := HC21.out
              clear HC21
              by_cases c40 : t201 < 0
              · rw [if_pos c40] at H
                have c40b0 : decide (t201 < 0) = true := decide_eq_true c40
                clear c40
                (first | rw [c40b0] | (simp only [i64_w, i32_w]; rw [c40b0]) | skip)
                have H' := Aside0.mk H
                clear H
                go_wp2
                go_meet
                case rel => exact ⟨_, (true), (by first | rfl | (simp; done) | (simp [*]; done)), H', ⟨by first | omega | exact Nat.le_refl _⟩, ⟨by (with_reducible repeat (first | apply Kd.R_alloc | apply Kd.R_drewN | apply Kd.R_drew)); exact Kd.R_mono HO180.out (fun _ hk => hk.2.2.2.2.1)⟩, ⟨by (with_reducible repeat (first | apply Kd.R_alloc | apply Kd.R_drewN | apply Kd.R_drew)); exact Kd.R_mono HO189.out (fun _ hk => hk.2.2.1)⟩, ⟨by repeat (first | (with_reducible first | exact HB.out | apply below_alloc | apply pw_below_drewN | apply below_drew1) | exact HB.out)⟩⟩
              · rw [if_neg c40] at H
                have c40b0 : decide (t201 < 0) = false := decide_eq_false c40
                clear c40
                (first | rw [c40b0] | (simp only [i64_w, i32_w]; rw [c40b0]) | skip)
                replace H := Option.bind_eq_some_iff.mp H
                obtain ⟨t203, A410, H⟩ := H
                replace H : (laws_FnExactSetJoin.j0 k l0 l1 t178 t187 (!t203)) = some r := H
                have A41 := Aside0.mk A410
                clear A410
                have H' := Aside0.mk H
                clear H
                go_wp2_with (first | (go_at_call 28; (with_reducible refine (laws_eqIntS.calls k _ _ t187 _ _ t178 t203 _ ?side1 ?side2 ?side3 ?side4 A41.out).mono ?_); (case side1 => repeat (first | exact (Kd.R_reads' HO189.out).2.2 | (with_reducible refine Kd.C_alloc ?_ _) | (with_reducible refine Kd.C_drewN ?_ _) | (with_reducible refine Kd.C_drew ?_))); (case side2 => exact (Kd.R_reads' HO189.out).2.1); (case side3 => repeat (first | exact (Kd.R_reads' HO180.out).2.2 | (with_reducible refine Kd.C_alloc ?_ _) | (with_reducible refine Kd.C_drewN ?_ _) | (with_reducible refine Kd.C_drew ?_))); (case side4 => exact (Kd.R_reads' HO180.out).2.1); rintro e w' ⟨rfl, ⟨nd, rfl⟩⟩))
                go_meet
                case rel => exact ⟨_, (!t203), (by first | rfl | (simp; done) | (simp [*]; done)), H', ⟨by first | omega | exact Nat.le_refl _⟩, ⟨by (with_reducible repeat (first | apply Kd.R_alloc | apply Kd.R_drewN | apply Kd.R_drew)); exact Kd.R_mono HO180.out (fun _ hk => hk.2.2.2.2.1)⟩, ⟨by (with_reducible repeat (first | apply Kd.R_alloc | apply Kd.R_drewN | apply Kd.R_drew)); exact Kd.R_mono HO189.out (fun _ hk => hk.2.2.1)⟩, ⟨by repeat (first | (with_reducible first | exact HB.out | apply below_alloc | apply pw_below_drewN | apply below_drew1) | exact HB.out)⟩⟩
            case rest =>
              clear HC21
              try clear c1
              try clear c2
              try clear p2
              try clear c3
              try clear c3b0
              try clear c3b1
              try clear c4
              try clear c4b0
              try clear c4b1
              try clear c12
              try clear c13
              try clear c15
              try clear c18
              try clear c26
              try clear c28
              try clear c40
              try clear c40b0
              obtain ⟨kq, x58_20, rfl, HA, HJ20, HO_5, HO_8, HB⟩ := hcut
              cases kq with
              | zero => exact absurd HA.out (by simp [laws_FnExactSetJoin.j0])
              | succ kj20 =>
                have H := HA.out
                clear HA
                simp only [laws_FnExactSetJoin.j0] at H
                by_cases c42 : x58_20 = true
                · subst c42
                  have H1 : (some false) = some r := by rw [if_pos rfl] at H; exact H
                  clear H
                  have H := H1
                  clear H1
                  exact absurd ((Option.some.inj H).trans HRT.out) (by decide)
                · replace c42 := Bool.eq_false_iff.mpr c42
                  subst c42
                  have H1 : ((laws_markIntS.f kj20 t187 1).bind fun bt204 => ((laws_heldIntS.f kj20 bt204.2 1).bind fun t206 => (if t206 < 0 then (some false) else (if t206 = bt204.1 then ((laws_toIntS.f kj20 l0).bind fun t207 => ((laws_toIntS.f kj20 l1).bind fun t210 => ((impl_SetJoin.f kj20 t207 t210).bind fun t213 => ((laws_eqIntS.f kj20 t213 t178).bind fun t216 => (if t216 = true then ((laws_heldIntS.f kj20 bt204.2 1).bind fun t217 => (if t217 < 0 then (some false) else (if t217 = bt204.1 then (some true) else (some false)))) else (some false)))))) else (some false))))) = some r := by rw [if_neg (show ¬ (false = true) by decide)] at H; exact H
                  clear H
                  have H := H1
                  clear H1
                  replace H := Option.bind_eq_some_iff.mp H
                  obtain ⟨⟨t204, t205⟩, A430, H⟩ := H
                  replace H : ((laws_heldIntS.f kj20 t205 1).bind fun t206 => (if t206 < 0 then (some false) else (if t206 = t204 then ((laws_toIntS.f kj20 l0).bind fun t207 => ((laws_toIntS.f kj20 l1).bind fun t210 => ((impl_SetJoin.f kj20 t207 t210).bind fun t213 => ((laws_eqIntS.f kj20 t213 t178).bind fun t216 => (if t216 = true then ((laws_heldIntS.f kj20 t205 1).bind fun t217 => (if t217 < 0 then (some false) else (if t217 = t204 then (some true) else (some false)))) else (some false)))))) else (some false)))) = some r := H
                  have A43 := Aside0.mk A430
                  clear A430
                  replace H := Option.bind_eq_some_iff.mp H
                  obtain ⟨t206, A440, H⟩ := H
                  replace H : (if t206 < 0 then (some false) else (if t206 = t204 then ((laws_toIntS.f kj20 l0).bind fun t207 => ((laws_toIntS.f kj20 l1).bind fun t210 => ((impl_SetJoin.f kj20 t207 t210).bind fun t213 => ((laws_eqIntS.f kj20 t213 t178).bind fun t216 => (if t216 = true then ((laws_heldIntS.f kj20 t205 1).bind fun t217 => (if t217 < 0 then (some false) else (if t217 = t204 then (some true) else (some false)))) else (some false)))))) else (some false))) = some r := H
                  have A44 := Aside0.mk A440
                  clear A440
                  by_cases c45 : t206 < 0
                  · rw [if_pos c45] at H
                    have c45b0 : decide (t206 < 0) = true := decide_eq_true c45
                    clear c45
                    exact absurd ((Option.some.inj H).trans HRT.out) (by decide)
                  · rw [if_neg c45] at H
                    have c45b0 : decide (t206 < 0) = false := decide_eq_false c45
                    clear c45
                    by_cases c46 : t206 = t204
                    · rw [if_pos c46] at H
                      have c46b0 : (t206 == t204) = true := beq_iff_eq.mpr c46
                      have c46b1 : (t206 != t204) = false := bne_eq_false_iff_eq.mpr c46
                      clear c46
                      replace H := Option.bind_eq_some_iff.mp H
                      obtain ⟨t207, A470, H⟩ := H
                      replace H : ((laws_toIntS.f kj20 l1).bind fun t210 => ((impl_SetJoin.f kj20 t207 t210).bind fun t213 => ((laws_eqIntS.f kj20 t213 t178).bind fun t216 => (if t216 = true then ((laws_heldIntS.f kj20 t205 1).bind fun t217 => (if t217 < 0 then (some false) else (if t217 = t204 then (some true) else (some false)))) else (some false))))) = some r := H
                      have A47 := Aside0.mk A470
                      clear A470
                      replace H := Option.bind_eq_some_iff.mp H
                      obtain ⟨t210, A480, H⟩ := H
                      replace H : ((impl_SetJoin.f kj20 t207 t210).bind fun t213 => ((laws_eqIntS.f kj20 t213 t178).bind fun t216 => (if t216 = true then ((laws_heldIntS.f kj20 t205 1).bind fun t217 => (if t217 < 0 then (some false) else (if t217 = t204 then (some true) else (some false)))) else (some false)))) = some r := H
                      have A48 := Aside0.mk A480
                      clear A480
                      replace H := Option.bind_eq_some_iff.mp H
                      obtain ⟨t213, A490, H⟩ := H
                      replace H : ((laws_eqIntS.f kj20 t213 t178).bind fun t216 => (if t216 = true then ((laws_heldIntS.f kj20 t205 1).bind fun t217 => (if t217 < 0 then (some false) else (if t217 = t204 then (some true) else (some false)))) else (some false))) = some r := H
                      have A49 := Aside0.mk A490
                      clear A490
                      replace H := Option.bind_eq_some_iff.mp H
                      obtain ⟨t216, A500, H⟩ := H
                      replace H : (if t216 = true then ((laws_heldIntS.f kj20 t205 1).bind fun t217 => (if t217 < 0 then (some false) else (if t217 = t204 then (some true) else (some false)))) else (some false)) = some r := H
                      have A50 := Aside0.mk A500
                      clear A500
                      by_cases c51 : t216 = true
                      · subst c51
                        have H1 : ((laws_heldIntS.f kj20 t205 1).bind fun t217 => (if t217 < 0 then (some false) else (if t217 = t204 then (some true) else (some false)))) = some r := by rw [if_pos rfl] at H; exact H
                        clear H
                        have H := H1
                        clear H1
                        replace H := Option.bind_eq_some_iff.mp H
                        obtain ⟨t217, A520, H⟩ := H
                        replace H : (if t217 < 0 then (some false) else (if t217 = t204 then (some true) else (some false))) = some r := H
                        have A52 := Aside0.mk A520
                        clear A520
                        by_cases c53 : t217 < 0
                        · rw [if_pos c53] at H
                          have c53b0 : decide (t217 < 0) = true := decide_eq_true c53
                          clear c53
                          exact absurd ((Option.some.inj H).trans HRT.out) (by decide)
                        · rw [if_neg c53] at H
                          have c53b0 : decide (t217 < 0) = false := decide_eq_false c53
                          clear c53
                          by_cases c54 : t217 = t204
                          · rw [if_pos c54] at H
                            have c54b0 : (t217 == t204) = true := beq_iff_eq.mpr c54
                            have c54b1 : (t217 != t204) = false := bne_eq_false_iff_eq.mpr c54
                            clear c54
                            obtain rfl := Option.some.inj H
                            go_wp2_with (first | ((with_reducible refine gate_callee (f := 40) rfl ?_); refine goesL_ (some 61) rfl rfl Try.func40 (by kernel_rfl) rfl #[.slice Ao32 t187.length co32, .int .i64 1] rfl (by (try simp only [List.map_toArray, List.map_cons, List.map_nil]); first | done | rfl | (simp only [List.length_drop, List.length_take]; rfl)) ?_; (with_reducible refine (laws_markIntS.calls kj20 (fun k_ => some k_ = (.slice Ao32 t187.length co32 : Value).ownBlock) (.slice Ao32 t187.length co32) t187 1 t204 t205 w _ ?side1 ?side2 A43.out).mono ?_); (case side1 => repeat (first | (with_reducible first | exact HB.out | apply below_alloc | apply pw_below_drewN | apply below_drew1) | exact HB.out)); (case side2 => exact Kd.R_tight rfl HO_8.out); rintro e w55 ⟨rfl, hy0, hb, hkp⟩; refine ⟨_, rfl, ?_⟩; have n0_ := Aside0.mk (Kd.R_mono (ok' := fun k_ => some k_ ≠ (.slice Ao32 t187.length co32 : Value).ownBlock) (Kd.R_keptB (HO_5.out) hkp (fun k_ hk_ hs_ => (hk_) hs_)) (fun k_ hk_ => hk_.1)); have n1_ := Aside0.mk (Kd.R_reok rfl hy0 (fun k_ e_ => HO_8.out.1 k_ e_)); have n2_ := Aside0.mk (hb); clear HO_5; clear HO_8; clear HB; have HO_5 := n0_; have HO_8 := n1_; have HB := n2_; clear n0_ n1_ n2_; (try clear hb); (try clear hkp); (try clear hy0)) | ((with_reducible refine gate_callee (f := 41) rfl ?_); refine goesL_ (some 64) rfl rfl Try.func41 (by kernel_rfl) rfl #[.slice Ao32 t205.length co32, .int .i64 1] rfl (by (try simp only [List.map_toArray, List.map_cons, List.map_nil]); first | done | (rw [show t205.length = t187.length from (Kd.R_reads' HO_8.out).1.symm] <;> rfl) | rfl | (simp only [List.length_drop, List.length_take]; rfl)) ?_; (with_reducible refine (laws_heldIntS.calls kj20 _ _ t205 1 t206 _ ?side1 ?side2 A44.out).mono ?_); (case side1 => repeat (first | exact (Kd.R_reads' HO_8.out).2.2 | (with_reducible refine Kd.C_alloc ?_ _) | (with_reducible refine Kd.C_drewN ?_ _) | (with_reducible refine Kd.C_drew ?_))); (case side2 => rw [show t205.length = t187.length from (Kd.R_reads' HO_8.out).1.symm]; exact (Kd.R_reads' HO_8.out).2.1); rintro e w' ⟨rfl, ⟨nd, rfl⟩⟩; refine ⟨_, rfl, ?_⟩) | ((with_reducible refine gate_callee (f := 26) rfl ?_); refine goesL_ (some 71) rfl rfl Try.func26 (by kernel_rfl) rfl #[.slice A0 l0.length c0] rfl (by (try simp only [List.map_toArray, List.map_cons, List.map_nil]); first | done | rfl | (simp only [List.length_drop, List.length_take]; rfl)) ?_; (with_reducible refine (laws_toIntS.calls kj20 _ _ l0 t207 _ ?side1 ?side2 A47.out).mono ?_); (case side1 => repeat (first | exact (Kd.C_below HR0.out (by repeat (first | (with_reducible first | exact HB.out | apply below_alloc | apply pw_below_drewN | apply below_drew1) | exact HB.out))) | (with_reducible refine Kd.C_alloc ?_ _) | (with_reducible refine Kd.C_drewN ?_ _) | (with_reducible refine Kd.C_drew ?_))); (case side2 => exact HC0.out); rintro e w56 ⟨v208, rfl, ho0, hb⟩; refine ⟨_, rfl, ?_⟩; have n0_ := Aside0.mk (Kd.R_elder' (by (with_reducible repeat (first | apply Kd.R_alloc | apply Kd.R_drewN | apply Kd.R_drew)); exact HO_5.out) (Kd.R_base ho0) hb); have n1_ := Aside0.mk (Kd.R_elder' (by (with_reducible repeat (first | apply Kd.R_alloc | apply Kd.R_drewN | apply Kd.R_drew)); exact HO_8.out) (Kd.R_base ho0) hb); have n2_ := Aside0.mk (Kd.R_lower (Kd.R_new' (Kd.R_new' ho0 (Kd.R_lt (by (with_reducible repeat (first | apply Kd.R_alloc | apply Kd.R_drewN | apply Kd.R_drew)); exact HO_5.out))) (Kd.R_lt (by (with_reducible repeat (first | apply Kd.R_alloc | apply Kd.R_drewN | apply Kd.R_drew)); exact HO_8.out))) (below_size (by repeat (first | (with_reducible first | exact HB.out | apply below_alloc | apply pw_below_drewN | apply below_drew1) | exact HB.out)))); have n3_ := Aside0.mk (below_step (by repeat (first | (with_reducible first | exact HB.out | apply below_alloc | apply pw_below_drewN | apply below_drew1) | exact HB.out)) hb); clear HO_5; clear HO_8; clear HB; have HO_5 := n0_; have HO_8 := n1_; have HO209 := n2_; have HB := n3_; clear n0_ n1_ n2_ n3_; (try clear hb); (try clear hb2); (try clear hk); (try clear hi); (try clear ho0)) | ((with_reducible refine gate_callee (f := 26) rfl ?_); refine goesL_ (some 73) rfl rfl Try.func26 (by kernel_rfl) rfl #[.slice A1 l1.length c1] rfl (by (try simp only [List.map_toArray, List.map_cons, List.map_nil]); first | done | rfl | (simp only [List.length_drop, List.length_take]; rfl)) ?_; (with_reducible refine (laws_toIntS.calls kj20 _ _ l1 t210 _ ?side1 ?side2 A48.out).mono ?_); (case side1 => repeat (first | exact (Kd.C_below HR1.out HB.out) | (with_reducible refine Kd.C_alloc ?_ _) | (with_reducible refine Kd.C_drewN ?_ _) | (with_reducible refine Kd.C_drew ?_))); (case side2 => exact HC1.out); rintro e w57 ⟨v211, rfl, ho0, hb⟩; refine ⟨_, rfl, ?_⟩; have n0_ := Aside0.mk (Kd.R_elder' (by (with_reducible repeat (first | apply Kd.R_alloc | apply Kd.R_drewN | apply Kd.R_drew)); exact HO_5.out) (Kd.R_base ho0) hb); have n1_ := Aside0.mk (Kd.R_elder' (by (with_reducible repeat (first | apply Kd.R_alloc | apply Kd.R_drewN | apply Kd.R_drew)); exact HO_8.out) (Kd.R_base ho0) hb); have n2_ := Aside0.mk (Kd.R_elder' (by (with_reducible repeat (first | apply Kd.R_alloc | apply Kd.R_drewN | apply Kd.R_drew)); exact HO209.out) (Kd.R_base ho0) hb); have n3_ := Aside0.mk (Kd.R_lower (Kd.R_new' (Kd.R_new' (Kd.R_new' ho0 (Kd.R_lt (by (with_reducible repeat (first | apply Kd.R_alloc | apply Kd.R_drewN | apply Kd.R_drew)); exact HO_5.out))) (Kd.R_lt (by (with_reducible repeat (first | apply Kd.R_alloc | apply Kd.R_drewN | apply Kd.R_drew)); exact HO_8.out))) (Kd.R_lt (by (with_reducible repeat (first | apply Kd.R_alloc | apply Kd.R_drewN | apply Kd.R_drew)); exact HO209.out))) (below_size (by repeat (first | (with_reducible first | exact HB.out | apply below_alloc | apply pw_below_drewN | apply below_drew1) | exact HB.out)))); have n4_ := Aside0.mk (below_step (by repeat (first | (with_reducible first | exact HB.out | apply below_alloc | apply pw_below_drewN | apply below_drew1) | exact HB.out)) hb); clear HO_5; clear HO_8; clear HO209; clear HB; have HO_5 := n0_; have HO_8 := n1_; have HO209 := n2_; have HO212 := n3_; have HB := n4_; clear n0_ n1_ n2_ n3_ n4_; (try clear hb); (try clear hb2); (try clear hk); (try clear hi); (try clear ho0); obtain ⟨Ao58, co58, eo58⟩ := Kd.R_slice HO209.out; subst eo58; obtain ⟨Ao59, co59, eo59⟩ := Kd.R_slice HO212.out; subst eo59) | ((with_reducible refine gate_callee (f := 43) rfl ?_); refine goesL_ (some 74) rfl rfl Try.func43 (by kernel_rfl) rfl #[.slice Ao58 t207.length co58, .slice Ao59 t210.length co59] rfl (by (try simp only [List.map_toArray, List.map_cons, List.map_nil]); first | done | rfl | (simp only [List.length_drop, List.length_take]; rfl)) ?_; (with_reducible refine (impl_SetJoin.calls kj20 _ _ t207 _ _ t210 t213 _ ?side1 ?side2 ?side3 ?side4 A49.out).mono ?_); (case side1 => repeat (first | exact (Kd.R_reads' HO209.out).2.2 | (with_reducible refine Kd.C_alloc ?_ _) | (with_reducible refine Kd.C_drewN ?_ _) | (with_reducible refine Kd.C_drew ?_))); (case side2 => exact (Kd.R_reads' HO209.out).2.1); (case side3 => repeat (first | exact (Kd.R_reads' HO212.out).2.2 | (with_reducible refine Kd.C_alloc ?_ _) | (with_reducible refine Kd.C_drewN ?_ _) | (with_reducible refine Kd.C_drew ?_))); (case side4 => exact (Kd.R_reads' HO212.out).2.1); rintro e w60 ⟨v214, rfl, ho0, hb⟩; refine ⟨_, rfl, ?_⟩; have n0_ := Aside0.mk (Kd.R_elder' (by (with_reducible repeat (first | apply Kd.R_alloc | apply Kd.R_drewN | apply Kd.R_drew)); exact HO_5.out) (Kd.R_base ho0) hb); have n1_ := Aside0.mk (Kd.R_elder' (by (with_reducible repeat (first | apply Kd.R_alloc | apply Kd.R_drewN | apply Kd.R_drew)); exact HO_8.out) (Kd.R_base ho0) hb); have n2_ := Aside0.mk (Kd.R_elder' (by (with_reducible repeat (first | apply Kd.R_alloc | apply Kd.R_drewN | apply Kd.R_drew)); exact HO209.out) (Kd.R_base ho0) hb); have n3_ := Aside0.mk (Kd.R_elder' (by (with_reducible repeat (first | apply Kd.R_alloc | apply Kd.R_drewN | apply Kd.R_drew)); exact HO212.out) (Kd.R_base ho0) hb); have n4_ := Aside0.mk (Kd.R_lower (Kd.R_new' (Kd.R_new' (Kd.R_new' (Kd.R_new' ho0 (Kd.R_lt (by (with_reducible repeat (first | apply Kd.R_alloc | apply Kd.R_drewN | apply Kd.R_drew)); exact HO_5.out))) (Kd.R_lt (by (with_reducible repeat (first | apply Kd.R_alloc | apply Kd.R_drewN | apply Kd.R_drew)); exact HO_8.out))) (Kd.R_lt (by (with_reducible repeat (first | apply Kd.R_alloc | apply Kd.R_drewN | apply Kd.R_drew)); exact HO209.out))) (Kd.R_lt (by (with_reducible repeat (first | apply Kd.R_alloc | apply Kd.R_drewN | apply Kd.R_drew)); exact HO212.out))) (below_size (by repeat (first | (with_reducible first | exact HB.out | apply below_alloc | apply pw_below_drewN | apply below_drew1) | exact HB.out)))); have n5_ := Aside0.mk (below_step (by repeat (first | (with_reducible first | exact HB.out | apply below_alloc | apply pw_below_drewN | apply below_drew1) | exact HB.out)) hb); clear HO_5; clear HO_8; clear HO209; clear HO212; clear HB; have HO_5 := n0_; have HO_8 := n1_; have HO209 := n2_; have HO212 := n3_; have HO215 := n4_; have HB := n5_; clear n0_ n1_ n2_ n3_ n4_ n5_; (try clear hb); (try clear hb2); (try clear hk); (try clear hi); (try clear ho0); obtain ⟨Ao61, co61, eo61⟩ := Kd.R_slice HO215.out; subst eo61) | ((with_reducible refine gate_callee (f := 28) rfl ?_); refine goesL_ (some 77) rfl rfl Try.func28 (by kernel_rfl) rfl #[.slice Ao61 t213.length co61, .slice Ao33 t178.length co33] rfl (by (try simp only [List.map_toArray, List.map_cons, List.map_nil]); first | done | rfl | (simp only [List.length_drop, List.length_take]; rfl)) ?_; (with_reducible refine (laws_eqIntS.calls kj20 _ _ t213 _ _ t178 true _ ?side1 ?side2 ?side3 ?side4 A50.out).mono ?_); (case side1 => repeat (first | exact (Kd.R_reads' HO215.out).2.2 | (with_reducible refine Kd.C_alloc ?_ _) | (with_reducible refine Kd.C_drewN ?_ _) | (with_reducible refine Kd.C_drew ?_))); (case side2 => exact (Kd.R_reads' HO215.out).2.1); (case side3 => repeat (first | exact (Kd.R_reads' HO_5.out).2.2 | (with_reducible refine Kd.C_alloc ?_ _) | (with_reducible refine Kd.C_drewN ?_ _) | (with_reducible refine Kd.C_drew ?_))); (case side4 => exact (Kd.R_reads' HO_5.out).2.1); rintro e w' ⟨rfl, ⟨nd, rfl⟩⟩; refine ⟨_, rfl, ?_⟩) | ((with_reducible refine gate_callee (f := 41) rfl ?_); refine goesL_ (some 81) rfl rfl Try.func41 (by kernel_rfl) rfl #[.slice Ao32 t205.length co32, .int .i64 1] rfl (by (try simp only [List.map_toArray, List.map_cons, List.map_nil]); first | done | (rw [show t205.length = t187.length from (Kd.R_reads' HO_8.out).1.symm] <;> rfl) | rfl | (simp only [List.length_drop, List.length_take]; rfl)) ?_; (with_reducible refine (laws_heldIntS.calls kj20 _ _ t205 1 t217 _ ?side1 ?side2 A52.out).mono ?_); (case side1 => repeat (first | exact (Kd.R_reads' HO_8.out).2.2 | (with_reducible refine Kd.C_alloc ?_ _) | (with_reducible refine Kd.C_drewN ?_ _) | (with_reducible refine Kd.C_drew ?_))); (case side2 => rw [show t205.length = t187.length from (Kd.R_reads' HO_8.out).1.symm]; exact (Kd.R_reads' HO_8.out).2.1); rintro e w' ⟨rfl, ⟨nd, rfl⟩⟩; refine ⟨_, rfl, ?_⟩))
                            go_ret
                            exact ⟨by first | rfl | (simp [errW_none, errW_some] <;> rfl) | (simp [*, errW_none, errW_some] <;> rfl), by repeat (first | (with_reducible first | exact HB.out | apply below_alloc | apply pw_below_drewN | apply below_drew1) | exact HB.out)⟩
                          · rw [if_neg c54] at H
                            have c54b0 : (t217 == t204) = false := beq_eq_false_iff_ne.mpr c54
                            have c54b1 : (t217 != t204) = true := bne_iff_ne.mpr c54
                            exact absurd ((Option.some.inj H).trans HRT.out) (by decide)
                      · replace c51 := Bool.eq_false_iff.mpr c51
                        subst c51
                        have H1 : (some false) = some r := by rw [if_neg (show ¬ (false = true) by decide)] at H; exact H
                        clear H
                        have H := H1
                        clear H1
                        exact absurd ((Option.some.inj H).trans HRT.out) (by decide)
                    · rw [if_neg c46] at H
                      have c46b0 : (t206 == t204) = false := beq_eq_false_iff_ne.mpr c46
                      have c46b1 : (t206 != t204) = true := bne_iff_ne.mpr c46
                      exact absurd ((Option.some.inj H).trans HRT.out) (by decide)
          · replace c18 := Bool.eq_false_iff.mpr c18
            subst c18
            have H1 : (some false) = some r := by rw [if_neg (show ¬ (false = true) by decide)] at H; exact H
            clear H
            have H := H1
            clear H1
            exact absurd ((Option.some.inj H).trans HRT.out) (by decide)
        · replace c15 := Bool.eq_false_iff.mpr c15
          subst c15
          have H1 : (some false) = some r := by rw [if_neg (show ¬ (false = true) by decide)] at H; exact H
          clear H
          have H := H1
          clear H1
          exact absurd ((Option.some.inj H).trans HRT.out) (by decide)
      · replace c12 := Bool.eq_false_iff.mpr c12
        subst c12
        have H1 : (some false) = some r := by rw [if_neg (show ¬ (false = true) by decide)] at H; exact H
        clear H
        have H := H1
        clear H1
        exact absurd ((Option.some.inj H).trans HRT.out) (by decide)

end Go.Proofs.Ytppggjkffgjhkaa.PFnExactSetJoin
