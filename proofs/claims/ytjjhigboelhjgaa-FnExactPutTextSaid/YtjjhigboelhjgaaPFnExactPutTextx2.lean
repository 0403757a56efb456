/- Walks of the functions that a law of seat Ytjjhigboelhjgaa reaches, each against a Lean function, printed by this session's wip/myprint.py; no condition of their own. -/
import Derived.Test.YtjjhigboelhjgaaPFnExactPutTextx0
import Derived.Test.YtjjhigboelhjgaaPFnExactPutTextx1
namespace Go.Proofs.Ytjjhigboelhjgaa.PFnExactPutText
open Go.RowKit Go.Proofs.YtjjhigboelhjgaaW.PrintWords Go.Proofs.YtjjhigboelhjgaaW.PrintLast Go.Proofs.YtjjhigboelhjgaaW.PrintMore
attribute [local go_sem] max2_int min2_int max_two min_two max_three min_three max_four min_four   -- for this text's walks alone
set_option linter.unusedVariables false
set_option linter.unusedSimpArgs false

/-! ### laws_FnExactPutText: function 4 -/
def laws_FnExactPutText.f (k : Nat) (a0 : ByteArray) : Option (Bool) := if (a0.size : Int) > 1048576 then (some true) else ((spec_PutText.f k a0).bind fun t128 => ((impl_PutText.f k a0).bind fun t131 => ((laws_eqByteS.f k t131 t128).bind fun t134 => (if t134 = true then ((laws_markByteS.f k t131 1).bind fun bt135 => ((laws_heldByteS.f k bt135.2 1).bind fun t137 => (if t137 < 0 then (some false) else (if t137 = bt135.1 then ((impl_PutText.f k a0).bind fun t138 => ((laws_eqByteS.f k t138 t128).bind fun t141 => (if t141 = true then ((laws_heldByteS.f k bt135.2 1).bind fun t142 => (if t142 < 0 then (some false) else (if t142 = bt135.1 then (some true) else (some false)))) else (some false)))) else (some false))))) else (some false)))))
theorem laws_FnExactPutText.mono : ∀ a0 k, LeO (laws_FnExactPutText.f k a0) (laws_FnExactPutText.f (k + 1) a0) := by
  intro a0 k
  unfold laws_FnExactPutText.f
  repeat' first
      | (with_reducible exact impl_PutText.mono _ _)
      | (with_reducible exact laws_eqByteS.mono _ _ _)
      | (with_reducible exact laws_heldByteS.mono _ _ _)
      | (with_reducible exact laws_markByteS.mono _ _ _)
      | (with_reducible exact spec_PutText.mono _ _)
      | (with_reducible exact LeO.refl _)
      | (with_reducible exact LeO.none _)
      | (with_reducible refine LeO.ite ?_ ?_)
      | (with_reducible refine LeO.bind ?_ (fun _ => ?_))
      | exact impl_PutText.mono _ _
      | exact laws_eqByteS.mono _ _ _
      | exact laws_heldByteS.mono _ _ _
      | exact laws_markByteS.mono _ _ _
      | exact spec_PutText.mono _ _
      | exact LeO.none _
      | refine LeO.ite ?_ ?_
      | refine LeO.bind ?_ (fun _ => ?_)
set_option maxHeartbeats 8000000 in
set_option maxRecDepth 100000 in
theorem laws_FnExactPutText.calls (k : Nat) (a0 : ByteArray) (r : Bool) (w : World) (hT : r = true) (h : laws_FnExactPutText.f k a0 = some r) :
    Calls Try.prog 4 #[.string a0] w fun e w' => e = .returned (.bool r) ∧ Below w.heap.size w w' := by
  have HRT := Aside0.mk hT
  clear hT
  have HB := Aside0.mk (Below.refl w.heap.size w)
  have H : (if (a0.size : Int) > 1048576 then (some true) else ((spec_PutText.f k a0).bind fun t128 => ((impl_PutText.f k a0).bind fun t131 => ((laws_eqByteS.f k t131 t128).bind fun t134 => (if t134 = true then ((laws_markByteS.f k t131 1).bind fun bt135 => ((laws_heldByteS.f k bt135.2 1).bind fun t137 => (if t137 < 0 then (some false) else (if t137 = bt135.1 then ((impl_PutText.f k a0).bind fun t138 => ((laws_eqByteS.f k t138 t128).bind fun t141 => (if t141 = true then ((laws_heldByteS.f k bt135.2 1).bind fun t142 => (if t142 < 0 then (some false) else (if t142 = bt135.1 then (some true) else (some false)))) else (some false)))) else (some false))))) else (some false)))))) = some r := h
  clear h
  by_cases c2 : (a0.size : Int) > 1048576
  · rw [if_pos c2] at H
    have c2b0 : decide (1048576 < (a0.size : Int)) = true := decide_eq_true c2
    have c2b1 : decide (1048576 < a0.size) = true := decide_eq_true (by omega)
    clear c2
    obtain rfl := Option.some.inj H
    go_enter Try.func4, Try.ntmps4
    go_wp2
    go_ret
    exact ⟨by first | rfl | (simp [errW_none, errW_some] <;> rfl) | (simp [*, errW_none, errW_some] <;> rfl), by repeat (first | (with_reducible first | exact HB.out | apply below_alloc | apply pw_below_drewN | apply below_drew1) | exact HB.out)⟩
  · rw [if_neg c2] at H
    have c2b0 : decide (1048576 < (a0.size : Int)) = false := decide_eq_false c2
    have c2b1 : decide (1048576 < a0.size) = false := decide_eq_false (by omega)
    clear c2
    replace H := Option.bind_eq_some_iff.mp H
    obtain ⟨t128, A30, H⟩ := H
    replace H : ((impl_PutText.f k a0).bind fun t131 => ((laws_eqByteS.f k t131 t128).bind fun t134 => (if t134 = true then ((laws_markByteS.f k t131 1).bind fun bt135 => ((laws_heldByteS.f k bt135.2 1).bind fun t137 => (if t137 < 0 then (some false) else (if t137 = bt135.1 then ((impl_PutText.f k a0).bind fun t138 => ((laws_eqByteS.f k t138 t128).bind fun t141 => (if t141 = true then ((laws_heldByteS.f k bt135.2 1).bind fun t142 => (if t142 < 0 then (some false) else (if t142 = bt135.1 then (some true) else (some false)))) else (some false)))) else (some false))))) else (some false)))) = some r := H
    have A3 := Aside0.mk A30
    clear A30
    replace H := Option.bind_eq_some_iff.mp H
    obtain ⟨t131, A40, H⟩ := H
    replace H : ((laws_eqByteS.f k t131 t128).bind fun t134 => (if t134 = true then ((laws_markByteS.f k t131 1).bind fun bt135 => ((laws_heldByteS.f k bt135.2 1).bind fun t137 => (if t137 < 0 then (some false) else (if t137 = bt135.1 then ((impl_PutText.f k a0).bind fun t138 => ((laws_eqByteS.f k t138 t128).bind fun t141 => (if t141 = true then ((laws_heldByteS.f k bt135.2 1).bind fun t142 => (if t142 < 0 then (some false) else (if t142 = bt135.1 then (some true) else (some false)))) else (some false)))) else (some false))))) else (some false))) = some r := H
    have A4 := Aside0.mk A40
    clear A40
    replace H := Option.bind_eq_some_iff.mp H
    obtain ⟨t134, A50, H⟩ := H
    replace H : (if t134 = true then ((laws_markByteS.f k t131 1).bind fun bt135 => ((laws_heldByteS.f k bt135.2 1).bind fun t137 => (if t137 < 0 then (some false) else (if t137 = bt135.1 then ((impl_PutText.f k a0).bind fun t138 => ((laws_eqByteS.f k t138 t128).bind fun t141 => (if t141 = true then ((laws_heldByteS.f k bt135.2 1).bind fun t142 => (if t142 < 0 then (some false) else (if t142 = bt135.1 then (some true) else (some false)))) else (some false)))) else (some false))))) else (some false)) = some r := H
    have A5 := Aside0.mk A50
    clear A50
    by_cases c6 : t134 = true
    · subst c6
      have H1 : ((laws_markByteS.f k t131 1).bind fun bt135 => ((laws_heldByteS.f k bt135.2 1).bind fun t137 => (if t137 < 0 then (some false) else (if t137 = bt135.1 then ((impl_PutText.f k a0).bind fun t138 => ((laws_eqByteS.f k t138 t128).bind fun t141 => (if t141 = true then ((laws_heldByteS.f k bt135.2 1).bind fun t142 => (if t142 < 0 then (some false) else (if t142 = bt135.1 then (some true) else (some false)))) else (some false)))) else (some false))))) = some r := by rw [if_pos rfl] at H; exact H
      clear H
      have H := H1
      clear H1
      replace H := Option.bind_eq_some_iff.mp H
      obtain ⟨⟨t135, t136⟩, A70, H⟩ := H
      replace H : ((laws_heldByteS.f k t136 1).bind fun t137 => (if t137 < 0 then (some false) else (if t137 = t135 then ((impl_PutText.f k a0).bind fun t138 => ((laws_eqByteS.f k t138 t128).bind fun t141 => (if t141 = true then ((laws_heldByteS.f k t136 1).bind fun t142 => (if t142 < 0 then (some false) else (if t142 = t135 then (some true) else (some false)))) else (some false)))) else (some false)))) = some r := H
      have A7 := Aside0.mk A70
      clear A70
      replace H := Option.bind_eq_some_iff.mp H
      obtain ⟨t137, A80, H⟩ := H
      replace H : (if t137 < 0 then (some false) else (if t137 = t135 then ((impl_PutText.f k a0).bind fun t138 => ((laws_eqByteS.f k t138 t128).bind fun t141 => (if t141 = true then ((laws_heldByteS.f k t136 1).bind fun t142 => (if t142 < 0 then (some false) else (if t142 = t135 then (some true) else (some false)))) else (some false)))) else (some false))) = some r := H
      have A8 := Aside0.mk A80
      clear A80
      by_cases c9 : t137 < 0
      · rw [if_pos c9] at H
        have c9b0 : decide (t137 < 0) = true := decide_eq_true c9
        clear c9
        exact absurd ((Option.some.inj H).trans HRT.out) (by decide)
      · rw [if_neg c9] at H
        have c9b0 : decide (t137 < 0) = false := decide_eq_false c9
        clear c9
        by_cases c10 : t137 = t135
        · rw [if_pos c10] at H
          have c10b0 : (t137 == t135) = true := beq_iff_eq.mpr c10
          have c10b1 : (t137 != t135) = false := bne_eq_false_iff_eq.mpr c10
          clear c10
          replace H := Option.bind_eq_some_iff.mp H
          obtain ⟨t138, A110, H⟩ := H
          replace H : ((laws_eqByteS.f k t138 t128).bind fun t141 => (if t141 = true then ((laws_heldByteS.f k t136 1).bind fun t142 => (if t142 < 0 then (some false) else (if t142 = t135 then (some true) else (some false)))) else (some false))) = some r := H
          have A11 := Aside0.mk A110
          clear A110
          replace H := Option.bind_eq_some_iff.mp H
          obtain ⟨t141, A120, H⟩ := H
          replace H : (if t141 = true then ((laws_heldByteS.f k t136 1).bind fun t142 => (if t142 < 0 then (some false) else (if t142 = t135 then (some true) else (some false)))) else (some false)) = some r := H
          have A12 := Aside0.mk A120
          clear A120
          by_cases c13 : t141 = true
          · subst c13
            have H1 : ((laws_heldByteS.f k t136 1).bind fun t142 => (if t142 < 0 then (some false) else (if t142 = t135 then (some true) else (some false)))) = some r := by rw [if_pos rfl] at H; exact H
            clear H
            have H := H1
            clear H1
            replace H := Option.bind_eq_some_iff.mp H
            obtain ⟨t142, A140, H⟩ := H
            replace H : (if t142 < 0 then (some false) else (if t142 = t135 then (some true) else (some false))) = some r := H
            have A14 := Aside0.mk A140
            clear A140
            by_cases c15 : t142 < 0
            · rw [if_pos c15] at H
              have c15b0 : decide (t142 < 0) = true := decide_eq_true c15
              have c15b0_a : decide (t137 < 0) = true := by have e_ := Option.some.inj (A8.out.symm.trans A14.out); rw [e_]; exact c15b0
              clear c15
              exact absurd ((Option.some.inj H).trans HRT.out) (by decide)
            · rw [if_neg c15] at H
              have c15b0 : decide (t142 < 0) = false := decide_eq_false c15
              have c15b0_a : decide (t137 < 0) = false := by have e_ := Option.some.inj (A8.out.symm.trans A14.out); rw [e_]; exact c15b0
              clear c15
              by_cases c16 : t142 = t135
              · rw [if_pos c16] at H
                have c16b0 : (t142 == t135) = true := beq_iff_eq.mpr c16
                have c16b0_a : (t137 == t135) = true := by have e_ := Option.some.inj (A8.out.symm.trans A14.out); rw [e_]; exact c16b0
                have c16b1 : (t142 != t135) = false := bne_eq_false_iff_eq.mpr c16
                have c16b1_a : (t137 != t135) = false := by have e_ := Option.some.inj (A8.out.symm.trans A14.out); rw [e_]; exact c16b1
                clear c16
                obtain rfl := Option.some.inj H
                go_enter Try.func4, Try.ntmps4
                go_wp2_with (first | ((with_reducible refine gate_callee (f := 12) rfl ?_); refine goesL_ (some 12) rfl rfl Try.func12 (by kernel_rfl) rfl #[.string a0] rfl (by (try simp only [List.map_toArray, List.map_cons, List.map_nil]); first | done | rfl | (simp only [List.length_drop, List.length_take]; rfl)) ?_; (with_reducible refine (spec_PutText.calls k a0 t128 _ A3.out).mono ?_); rintro e w17 ⟨v129, rfl, ho0, hb⟩; refine ⟨_, rfl, ?_⟩; have n0_ := Aside0.mk (Kd.R_lower ho0 (below_size (by repeat (first | (with_reducible first | exact HB.out | apply below_alloc | apply pw_below_drewN | apply below_drew1) | exact HB.out)))); have n1_ := Aside0.mk (below_step (by repeat (first | (with_reducible first | exact HB.out | apply below_alloc | apply pw_below_drewN | apply below_drew1) | exact HB.out)) hb); clear HB; have HO130 := n0_; have HB := n1_; clear n0_ n1_; (try clear hb); (try clear hb2); (try clear hk); (try clear hi); (try clear ho0)) | ((with_reducible refine gate_callee (f := 13) rfl ?_); refine goesL_ (some 14) rfl rfl Try.func13 (by kernel_rfl) rfl #[.string a0] rfl (by (try simp only [List.map_toArray, List.map_cons, List.map_nil]); first | done | rfl | (simp only [List.length_drop, List.length_take]; rfl)) ?_; (with_reducible refine (impl_PutText.calls k a0 t131 _ A4.out).mono ?_); rintro e w18 ⟨v132, rfl, ho0, hb⟩; refine ⟨_, rfl, ?_⟩; have n0_ := Aside0.mk (Kd.R_elder' (by (with_reducible repeat (first | apply Kd.R_alloc | apply Kd.R_drewN | apply Kd.R_drew)); exact HO130.out) (Kd.R_base ho0) hb); have n1_ := Aside0.mk (Kd.R_lower (Kd.R_new' ho0 (Kd.R_lt (by (with_reducible repeat (first | apply Kd.R_alloc | apply Kd.R_drewN | apply Kd.R_drew)); exact HO130.out))) (below_size (by repeat (first | (with_reducible first | exact HB.out | apply below_alloc | apply pw_below_drewN | apply below_drew1) | exact HB.out)))); have n2_ := Aside0.mk (below_step (by repeat (first | (with_reducible first | exact HB.out | apply below_alloc | apply pw_below_drewN | apply below_drew1) | exact HB.out)) hb); clear HO130; clear HB; have HO130 := n0_; have HO133 := n1_; have HB := n2_; clear n0_ n1_ n2_; (try clear hb); (try clear hb2); (try clear hk); (try clear hi); (try clear ho0); obtain ⟨Ao19, co19, eo19⟩ := Kd.R_slice HO133.out; subst eo19; obtain ⟨Ao20, co20, eo20⟩ := Kd.R_slice HO130.out; subst eo20) | ((with_reducible refine gate_callee (f := 9) rfl ?_); refine goesL_ (some 17) rfl rfl Try.func9 (by kernel_rfl) rfl #[.slice Ao19 t131.length co19, .slice Ao20 t128.length co20] rfl (by (try simp only [List.map_toArray, List.map_cons, List.map_nil]); first | done | rfl | (simp only [List.length_drop, List.length_take]; rfl)) ?_; (with_reducible refine (laws_eqByteS.calls k _ _ t131 _ _ t128 true _ ?side1 ?side2 ?side3 ?side4 A5.out).mono ?_); (case side1 => repeat (first | exact (Kd.R_reads' HO133.out).2.2 | (with_reducible refine Kd.C_alloc ?_ _) | (with_reducible refine Kd.C_drewN ?_ _) | (with_reducible refine Kd.C_drew ?_))); (case side2 => exact (Kd.R_reads' HO133.out).2.1); (case side3 => repeat (first | exact (Kd.R_reads' HO130.out).2.2 | (with_reducible refine Kd.C_alloc ?_ _) | (with_reducible refine Kd.C_drewN ?_ _) | (with_reducible refine Kd.C_drew ?_))); (case side4 => exact (Kd.R_reads' HO130.out).2.1); rintro e w' ⟨rfl, ⟨nd, rfl⟩⟩; refine ⟨_, rfl, ?_⟩) | ((with_reducible refine gate_callee (f := 10) rfl ?_); refine goesL_ (some 21) rfl rfl Try.func10 (by kernel_rfl) rfl #[.slice Ao19 t131.length co19, .int .i64 1] rfl (by (try simp only [List.map_toArray, List.map_cons, List.map_nil]); first | done | rfl | (simp only [List.length_drop, List.length_take]; rfl)) ?_; (with_reducible refine (laws_markByteS.calls k (fun k_ => some k_ = (.slice Ao19 t131.length co19 : Value).ownBlock) (.slice Ao19 t131.length co19) t131 1 t135 t136 w _ ?side1 ?side2 A7.out).mono ?_); (case side1 => repeat (first | (with_reducible first | exact HB.out | apply below_alloc | apply pw_below_drewN | apply below_drew1) | exact HB.out)); (case side2 => exact Kd.R_tight rfl HO133.out); rintro e w21 ⟨rfl, hy0, hb, hkp⟩; refine ⟨_, rfl, ?_⟩; have n0_ := Aside0.mk (Kd.R_mono (ok' := fun k_ => some k_ ≠ (.slice Ao19 t131.length co19 : Value).ownBlock) (Kd.R_keptB (HO130.out) hkp (fun k_ hk_ hs_ => (hk_.2) hs_)) (fun k_ hk_ => hk_.1.2)); have n1_ := Aside0.mk (Kd.R_reok rfl hy0 (fun k_ e_ => HO133.out.1 k_ e_)); have n2_ := Aside0.mk (hb); clear HO130; clear HO133; clear HB; have HO130 := n0_; have HO133 := n1_; have HB := n2_; clear n0_ n1_ n2_; (try clear hb); (try clear hkp); (try clear hy0)) | ((with_reducible refine gate_callee (f := 11) rfl ?_); refine goesL_ (some 24) rfl rfl Try.func11 (by kernel_rfl) rfl #[.slice Ao19 t136.length co19, .int .i64 1] rfl (by (try simp only [List.map_toArray, List.map_cons, List.map_nil]); first | done | (rw [show t136.length = t131.length from (Kd.R_reads' HO133.out).1.symm] <;> rfl) | rfl | (simp only [List.length_drop, List.length_take]; rfl)) ?_; (with_reducible refine (laws_heldByteS.calls k _ _ t136 1 t137 _ ?side1 ?side2 A8.out).mono ?_); (case side1 => repeat (first | exact (Kd.R_reads' HO133.out).2.2 | (with_reducible refine Kd.C_alloc ?_ _) | (with_reducible refine Kd.C_drewN ?_ _) | (with_reducible refine Kd.C_drew ?_))); (case side2 => rw [show t136.length = t131.length from (Kd.R_reads' HO133.out).1.symm]; exact (Kd.R_reads' HO133.out).2.1); rintro e w' ⟨rfl, ⟨nd, rfl⟩⟩; refine ⟨_, rfl, ?_⟩) | ((with_reducible refine gate_callee (f := 13) rfl ?_); refine goesL_ (some 31) rfl rfl Try.func13 (by kernel_rfl) rfl #[.string a0] rfl (by (try simp only [List.map_toArray, List.map_cons, List.map_nil]); first | done | rfl | (simp only [List.length_drop, List.length_take]; rfl)) ?_; (with_reducible refine (impl_PutText.calls k a0 t138 _ A11.out).mono ?_); rintro e w22 ⟨v139, rfl, ho0, hb⟩; refine ⟨_, rfl, ?_⟩; have n0_ := Aside0.mk (Kd.R_elder' (by (with_reducible repeat (first | apply Kd.R_alloc | apply Kd.R_drewN | apply Kd.R_drew)); exact HO130.out) (Kd.R_base ho0) hb); have n1_ := Aside0.mk (Kd.R_elder' (by (with_reducible repeat (first | apply Kd.R_alloc | apply Kd.R_drewN | apply Kd.R_drew)); exact HO133.out) (Kd.R_base ho0) hb); have n2_ := Aside0.mk (Kd.R_lower (Kd.R_new' (Kd.R_new' ho0 (Kd.R_lt (by (with_reducible repeat (first | apply Kd.R_alloc | apply Kd.R_drewN | apply Kd.R_drew)); exact HO130.out))) (Kd.R_lt (by (with_reducible repeat (first | apply Kd.R_alloc | apply Kd.R_drewN | apply Kd.R_drew)); exact HO133.out))) (below_size (by repeat (first | (with_reducible first | exact HB.out | apply below_alloc | apply pw_below_drewN | apply below_drew1) | exact HB.out)))); have n3_ := Aside0.mk (below_step (by repeat (first | (with_reducible first | exact HB.out | apply below_alloc | apply pw_below_drewN | apply below_drew1) | exact HB.out)) hb); clear HO130; clear HO133; clear HB; have HO130 := n0_; have HO133 := n1_; have HO140 := n2_; have HB := n3_; clear n0_ n1_ n2_ n3_; (try clear hb); (try clear hb2); (try clear hk); (try clear hi); (try clear ho0); obtain ⟨Ao23, co23, eo23⟩ := Kd.R_slice HO140.out; subst eo23) | ((with_reducible refine gate_callee (f := 9) rfl ?_); refine goesL_ (some 34) rfl rfl Try.func9 (by kernel_rfl) rfl #[.slice Ao23 t138.length co23, .slice Ao20 t128.length co20] rfl (by (try simp only [List.map_toArray, List.map_cons, List.map_nil]); first | done | rfl | (simp only [List.length_drop, List.length_take]; rfl)) ?_; (with_reducible refine (laws_eqByteS.calls k _ _ t138 _ _ t128 true _ ?side1 ?side2 ?side3 ?side4 A12.out).mono ?_); (case side1 => repeat (first | exact (Kd.R_reads' HO140.out).2.2 | (with_reducible refine Kd.C_alloc ?_ _) | (with_reducible refine Kd.C_drewN ?_ _) | (with_reducible refine Kd.C_drew ?_))); (case side2 => exact (Kd.R_reads' HO140.out).2.1); (case side3 => repeat (first | exact (Kd.R_reads' HO130.out).2.2 | (with_reducible refine Kd.C_alloc ?_ _) | (with_reducible refine Kd.C_drewN ?_ _) | (with_reducible refine Kd.C_drew ?_))); (case side4 => exact (Kd.R_reads' HO130.out).2.1); rintro e w' ⟨rfl, ⟨nd, rfl⟩⟩; refine ⟨_, rfl, ?_⟩) | ((with_reducible refine gate_callee (f := 11) rfl ?_); refine goesL_ (some 38) rfl rfl Try.func11 (by kernel_rfl) rfl #[.slice Ao19 t136.length co19, .int .i64 1] rfl (by (try simp only [List.map_toArray, List.map_cons, List.map_nil]); first | done | (rw [show t136.length = t131.length from (Kd.R_reads' HO133.out).1.symm] <;> rfl) | rfl | (simp only [List.length_drop, List.length_take]; rfl)) ?_; (with_reducible refine (laws_heldByteS.calls k _ _ t136 1 t142 _ ?side1 ?side2 A14.out).mono ?_); (case side1 => repeat (first | exact (Kd.R_reads' HO133.out).2.2 | (with_reducible refine Kd.C_alloc ?_ _) | (with_reducible refine Kd.C_drewN ?_ _) | (with_reducible refine Kd.C_drew ?_))); (case side2 => rw [show t136.length = t131.length from (Kd.R_reads' HO133.out).1.symm]; exact (Kd.R_reads' HO133.out).2.1); rintro e w' ⟨rfl, ⟨nd, rfl⟩⟩; refine ⟨_, rfl, ?_⟩))
                go_ret
                exact ⟨by first | rfl | (simp [errW_none, errW_some] <;> rfl) | (simp [*, errW_none, errW_some] <;> rfl), by repeat (first | (with_reducible first | exact HB.out | apply below_alloc | apply pw_below_drewN | apply below_drew1) | exact HB.out)⟩
              · rw [if_neg c16] at H
                have c16b0 : (t142 == t135) = false := beq_eq_false_iff_ne.mpr c16
                have c16b0_a : (t137 == t135) = false := by have e_ := Option.some.inj (A8.out.symm.trans A14.out); rw [e_]; exact c16b0
                have c16b1 : (t142 != t135) = true := bne_iff_ne.mpr c16
                have c16b1_a : (t137 != t135) = true := by have e_ := Option.some.inj (A8.out.symm.trans A14.out); rw [e_]; exact c16b1
                exact absurd ((Option.some.inj H).trans HRT.out) (by decide)
          · replace c13 := Bool.eq_false_iff.mpr c13
            subst c13
            have H1 : (some false) = some r := by rw [if_neg (show ¬ (false = true) by decide)] at H; exact H
            clear H
            have H := H1
            clear H1
            exact absurd ((Option.some.inj H).trans HRT.out) (by decide)
        · rw [if_neg c10] at H
          have c10b0 : (t137 == t135) = false := beq_eq_false_iff_ne.mpr c10
          have c10b1 : (t137 != t135) = true := bne_iff_ne.mpr c10
          exact absurd ((Option.some.inj H).trans HRT.out) (by decide)
    · replace c6 := Bool.eq_false_iff.mpr c6
      subst c6
      have H1 : (some false) = some r := by rw [if_neg (show ¬ (false = true) by decide)] at H; exact H
      clear H
      have H := H1
      clear H1
      exact absurd ((Option.some.inj H).trans HRT.out) (by decide)

end Go.Proofs.Ytjjhigboelhjgaa.PFnExactPutText
