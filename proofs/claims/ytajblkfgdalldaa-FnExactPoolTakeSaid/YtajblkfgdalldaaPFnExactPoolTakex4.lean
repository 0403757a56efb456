/- Walks of the functions that a law of seat Ytajblkfgdalldaa reaches, each against a Lean function, printed by this session's wip/myprint.py; no condition of their own. -/
import Derived.Test.YtajblkfgdalldaaPFnExactPoolTakex0
import Derived.Test.YtajblkfgdalldaaPFnExactPoolTakex3
namespace Go.Proofs.Ytajblkfgdalldaa.PFnExactPoolTake
open Go.RowKit Go.Proofs.YtajblkfgdalldaaW.PrintWords Go.Proofs.YtajblkfgdalldaaW.PrintLast Go.Proofs.YtajblkfgdalldaaW.PrintMore
attribute [local go_sem] max2_int min2_int max_two min_two max_three min_three max_four min_four   -- for this text's walks alone
set_option linter.unusedVariables false
set_option linter.unusedSimpArgs false

/-! ### spec_LedgerOk: function 24 -/
mutual
def spec_LedgerOk.j0 : Nat → Bool → List Int → List Int → Option (Bool)
  | 0, _, _, _ => none
  | k + 1, x13, x170000, x170001 => if x13 = true then (some false) else (spec_LedgerOk.l0 k 0 x170000 x170001)
def spec_LedgerOk.l0 : Nat → Int → List Int → List Int → Option (Bool)
  | 0, _, _, _ => none
  | k + 1, x3, x170000, x170001 => if x3 < 4 then (if 0 ≤ x3 then (if x3 < (x170000.length : Int) then ((spec_l1In.f (rd x170000 x3) 0 400).bind fun t171 => (if t171 = true then (if x3 < (x170001.length : Int) then ((spec_l1In.f (rd x170001 x3) 0 100).bind fun t173 => (if t173 = true then (spec_LedgerOk.l0 k (wrap64 (x3 + 1)) x170000 x170001) else (some false))) else (none)) else (some false))) else (none)) else (none)) else (some true)
end
def spec_LedgerOk.f (k : Nat) (l0_0 : List Int) (l0_1 : List Int) : Option (Bool) := if (l0_0.length : Int) = 4 then (spec_LedgerOk.j0 k ((l0_1.length : Int) != 4) l0_0 l0_1) else (spec_LedgerOk.j0 k true l0_0 l0_1)
theorem spec_LedgerOk.mono_l : ∀ k, (∀ y0 y1 y2, LeO (spec_LedgerOk.j0 k y0 y1 y2) (spec_LedgerOk.j0 (k + 1) y0 y1 y2)) ∧ (∀ y0 y1 y2, LeO (spec_LedgerOk.l0 k y0 y1 y2) (spec_LedgerOk.l0 (k + 1) y0 y1 y2))
  | 0 => ⟨fun _ _ _ r h => by simp [spec_LedgerOk.j0] at h, fun _ _ _ r h => by simp [spec_LedgerOk.l0] at h⟩
  | k + 1 => by
    obtain ⟨ih0, ih1⟩ := spec_LedgerOk.mono_l k
    refine ⟨?_, ?_⟩
    · intro y0 y1 y2
      unfold spec_LedgerOk.j0
      repeat' first
      | (with_reducible exact ih0 _ _ _)
      | (with_reducible exact ih1 _ _ _)
      | (with_reducible exact LeO.refl _)
      | (with_reducible exact LeO.none _)
      | (with_reducible refine LeO.ite ?_ ?_)
      | (with_reducible refine LeO.bind ?_ (fun _ => ?_))
      | exact ih0 _ _ _
      | exact ih1 _ _ _
      | exact LeO.none _
      | refine LeO.ite ?_ ?_
      | refine LeO.bind ?_ (fun _ => ?_)
    · intro y0 y1 y2
      unfold spec_LedgerOk.l0
      repeat' first
      | (with_reducible exact ih0 _ _ _)
      | (with_reducible exact ih1 _ _ _)
      | (with_reducible exact LeO.refl _)
      | (with_reducible exact LeO.none _)
      | (with_reducible refine LeO.ite ?_ ?_)
      | (with_reducible refine LeO.bind ?_ (fun _ => ?_))
      | exact ih0 _ _ _
      | exact ih1 _ _ _
      | exact LeO.none _
      | refine LeO.ite ?_ ?_
      | refine LeO.bind ?_ (fun _ => ?_)
theorem spec_LedgerOk.mono : ∀ a0 a1 k, LeO (spec_LedgerOk.f k a0 a1) (spec_LedgerOk.f (k + 1) a0 a1) := by
  intro a0 a1 k
  obtain ⟨ih0, ih1⟩ := spec_LedgerOk.mono_l k
  unfold spec_LedgerOk.f
  repeat' first
      | (with_reducible exact ih0 _ _ _)
      | (with_reducible exact ih1 _ _ _)
      | (with_reducible exact LeO.refl _)
      | (with_reducible exact LeO.none _)
      | (with_reducible refine LeO.ite ?_ ?_)
      | (with_reducible refine LeO.bind ?_ (fun _ => ?_))
      | exact ih0 _ _ _
      | exact ih1 _ _ _
      | exact LeO.none _
      | refine LeO.ite ?_ ?_
      | refine LeO.bind ?_ (fun _ => ?_)
set_option maxHeartbeats 8000000 in
set_option maxRecDepth 100000 in
theorem spec_LedgerOk.calls (k : Nat) (A0_0 : Option Addr) (c0_0 : Nat) (l0_0 : List Int) (A0_1 : Option Addr) (c0_1 : Nat) (l0_1 : List Int) (r : Bool) (w : World) (hr0_0 : Kd.C (Kd.int .i64) w A0_0 l0_0.length l0_0) (hc0_0 : l0_0.length ≤ c0_0) (hr0_1 : Kd.C (Kd.int .i64) w A0_1 l0_1.length l0_1) (hc0_1 : l0_1.length ≤ c0_1) (h : spec_LedgerOk.f k l0_0 l0_1 = some r) :
    Calls Try.prog 24 #[.agg #[.slice A0_0 l0_0.length c0_0, .slice A0_1 l0_1.length c0_1]] w fun e w' => e = .returned (.bool r) ∧ Below w.heap.size w w' := by
  have hu27 := Try.underlying27
  have HR0_0 := Aside0.mk hr0_0
  have HC0_0 := Aside0.mk hc0_0
  clear hr0_0 hc0_0
  have HR0_1 := Aside0.mk hr0_1
  have HC0_1 := Aside0.mk hc0_1
  clear hr0_1 hc0_1
  have HB := Aside0.mk (Below.refl w.heap.size w)
  have H : (if (l0_0.length : Int) = 4 then (spec_LedgerOk.j0 k ((l0_1.length : Int) != 4) l0_0 l0_1) else (spec_LedgerOk.j0 k true l0_0 l0_1)) = some r := h
  clear h
  have HC2 := Aside0.mk H
  clear H
  go_enter Try.func24, Try.ntmps24
  go_upto_region 1 with (first | ((with_reducible refine gate_dst (N := 1) rfl ?_); (try (refine gate_guard (by rfl) ?_; dsimp only)); refine box_event ?hg (N := 1) ?hd (cs := #[.slice A0_0 l0_0.length c0_0, .slice A0_1 l0_1.length c0_1]) (t := 27) ?hr ?_; (case hd => rfl); (case hg => rfl); (case hr => first | (go_simp; done) | (go_simp; rfl)); intro gb169 hg w3 hbox hb; have n0_ := Aside0.mk (below_step (by repeat (first | (with_reducible first | exact HB.out | apply below_alloc | apply pw_below_drewN | apply below_drew1) | exact HB.out)) hb); have n1_ := Aside0.mk (hbox); have n2_ := Aside0.mk ((by rw [hg]; exact (below_size (by repeat (first | (with_reducible first | exact HB.out | apply below_alloc | apply pw_below_drewN | apply below_drew1) | exact HB.out))) : w.heap.size ≤ gb169)); have n3_ := Aside0.mk ((by rw [hg]; exact (below_size (by repeat (first | (with_reducible first | exact HB.out | apply below_alloc | apply pw_below_drewN | apply below_drew1) | exact HB.out))) : w.heap.size ≤ gb169)); clear HB; have HB := n0_; have BK169 := n1_; have GW169 := n2_; have GE169 := n3_; clear n0_ n1_ n2_ n3_; clear hb hbox hg))
  (try simp only [Act.put, List.setIfInBounds_toArray, List.set_cons_zero, List.set_cons_succ])
  go_cut [13] (fun v13 wc => ∃ (kq : Nat) (x13_1 : Bool), v13 = .bool x13_1 ∧ Aside0 (spec_LedgerOk.j0 kq x13_1 l0_0 l0_1 = some r) ∧ Aside0 (kq ≤ k) ∧ Aside0 (wc.heap[gb169]? = some (.cells #[(.slice A0_0 l0_0.length c0_0), (.slice A0_1 l0_1.length c0_1)] 27 (0, 0))) ∧ Aside0 (Below w.heap.size w wc))
  case first =>
    have H := HC2.out
    clear HC2
    by_cases c4 : (l0_0.length : Int) = 4
    · rw [if_pos c4] at H
      have c4b0 : ((l0_0.length : Int) == 4) = true := beq_iff_eq.mpr c4
      have c4b1 : ((l0_0.length : Int) != 4) = false := bne_eq_false_iff_eq.mpr c4
      clear c4
      (first | rw [c4b0] | (simp only [i64_w, i32_w]; rw [c4b0]) | skip)
      have H' := Aside0.mk H
      clear H
      have hcz5_0 : w3.cell? ⟨gb169, 0, none⟩ = some (.slice A0_0 l0_0.length c0_0) := (blk_cell BK169.out 0).trans rfl
      have hcz5_1 : w3.cell? ⟨gb169, 1, none⟩ = some (.slice A0_1 l0_1.length c0_1) := (blk_cell BK169.out 1).trans rfl
      have hfz5_0 := blk_frozen BK169.out 0
      have hfz5_1 := blk_frozen BK169.out 1
      go_wp2
      go_meet
      case rel => exact ⟨_, (((l0_1.length : Int) != 4)), (by first | rfl | (simp; done) | (simp [*]; done)), H', ⟨by first | omega | exact Nat.le_refl _⟩, ⟨by (with_reducible repeat (first | refine blk_drewN ?_ _ | refine blk_drew ?_ | refine blk_alloc ?_ _)); exact BK169.out⟩, ⟨by repeat (first | (with_reducible first | exact HB.out | apply below_alloc | apply pw_below_drewN | apply below_drew1 | refine below_set ?_ GE169.out) | exact HB.out)⟩⟩
    · rw [if_neg c4] at H
      have c4b0 : ((l0_0.length : Int) == 4) = false := beq_eq_false_iff_ne.mpr c4
      have c4b1 : ((l0_0.length : Int) != 4) = true := bne_iff_ne.mpr c4
      (first | rw [c4b0] | (simp only [i64_w, i32_w]; rw [c4b0]) | skip)
      have H' := Aside0.mk H
      clear H
      have hcz6_0 : w3.cell? ⟨gb169, 0, none⟩ = some (.slice A0_0 l0_0.length c0_0) := (blk_cell BK169.out 0).trans rfl
      have hcz6_1 : w3.cell? ⟨gb169, 1, none⟩ = some (.slice A0_1 l0_1.length c0_1) := (blk_cell BK169.out 1).trans rfl
      have hfz6_0 := blk_frozen BK169.out 0
      have hfz6_1 := blk_frozen BK169.out 1
      go_wp2
      go_meet
      case rel => exact ⟨_, (true), (by first | rfl | (simp; done) | (simp [*]; done)), H', ⟨by first | omega | exact Nat.le_refl _⟩, ⟨by (with_reducible repeat (first | refine blk_drewN ?_ _ | refine blk_drew ?_ | refine blk_alloc ?_ _)); exact BK169.out⟩, ⟨by repeat (first | (with_reducible first | exact HB.out | apply below_alloc | apply pw_below_drewN | apply below_drew1 | refine below_set ?_ GE169.out) | exact HB.out)⟩⟩
  case rest =>
    clear HC2
    try clear c2
    try clear p2
    try clear c4
    try clear c4b0
    try clear c4b1
    try clear hcz5_0
    try clear hcz5_1
    try clear hcz6_0
    try clear hcz6_1
    try clear hfz5_0
    try clear hfz5_1
    try clear hfz6_0
    try clear hfz6_1
    obtain ⟨kq, x13_1, rfl, HA, HJ1, BK169, HB⟩ := hcut
    cases kq with
    | zero => exact absurd HA.out (by simp [spec_LedgerOk.j0])
    | succ kj1 =>
      have H := HA.out
      clear HA
      simp only [spec_LedgerOk.j0] at H
      have HF := Aside0.mk H
      clear H
      go_upto_if 13 with (fail)
      have H := HF.out
      clear HF
      by_cases c7 : x13_1 = true
      · subst c7
        have H1 : (some false) = some r := by rw [if_pos rfl] at H; exact H
        clear H
        have H := H1
        clear H1
        obtain rfl := Option.some.inj H
        go_wp2
        go_ret
        exact ⟨by first | rfl | (simp [errW_none, errW_some] <;> rfl) | (simp [*, errW_none, errW_some] <;> rfl), by repeat (first | (with_reducible first | exact HB.out | apply below_alloc | apply pw_below_drewN | apply below_drew1 | refine below_set ?_ GE169.out) | exact HB.out)⟩
      · replace c7 := Bool.eq_false_iff.mpr c7
        subst c7
        have H1 : (spec_LedgerOk.l0 kj1 0 l0_0 l0_1) = some r := by rw [if_neg (show ¬ (false = true) by decide)] at H; exact H
        clear H
        have H := H1
        clear H1
        have H' := Aside0.mk H
        clear H
        go_wp2
        go_loopg [3] kj1 (fun kq v3 w' => ∃ (x3_2 : Int), v3 = .int .i64 x3_2 ∧ Aside0 (spec_LedgerOk.l0 kq x3_2 l0_0 l0_1 = some r) ∧ Aside0 (kq ≤ kj1) ∧ Aside0 (w'.heap[gb169]? = some (.cells #[(.slice A0_0 l0_0.length c0_0), (.slice A0_1 l0_1.length c0_1)] 27 (0, 0))) ∧ Aside0 (Below w.heap.size w w'))
        case atStart => exact ⟨(0), (by first | rfl | (simp; done) | (simp [*]; done)), H', ⟨Nat.le_refl _⟩, ⟨by (with_reducible repeat (first | refine blk_drewN ?_ _ | refine blk_drew ?_ | refine blk_alloc ?_ _)); exact BK169.out⟩, ⟨by repeat (first | (with_reducible first | exact HB.out | apply below_alloc | apply pw_below_drewN | apply below_drew1 | refine below_set ?_ GE169.out) | exact HB.out)⟩⟩
        case round =>
          clear H'
          try clear c2
          try clear p2
          try clear c4
          try clear c4b0
          try clear c4b1
          try clear c7
          try clear hcz5_0
          try clear hcz5_1
          try clear hcz6_0
          try clear hcz6_1
          try clear hfz5_0
          try clear hfz5_1
          try clear hfz6_0
          try clear hfz6_1
          try clear p2
          obtain ⟨x3_2, rfl, HA, HK2, BK169, HB⟩ := hrel
          cases gk with
          | zero => exact absurd HA.out (by simp [spec_LedgerOk.l0])
          | succ k2 =>
            have H := HA.out
            clear HA
            simp only [spec_LedgerOk.l0] at H
            have HF := Aside0.mk H
            clear H
            go_upto_if 15 with (fail)
            have H := HF.out
            clear HF
            by_cases c8 : x3_2 < 4
            · rw [if_pos c8] at H
              have c8b0 : decide (x3_2 < 4) = true := decide_eq_true c8
              clear c8
              (first | rw [c8b0] | (simp only [i64_w, i32_w]; rw [c8b0]) | skip)
              by_cases c9 : 0 ≤ x3_2
              · rw [if_pos c9] at H
                have c9b0 : decide (0 ≤ x3_2) = true := decide_eq_true c9
                clear c9
                by_cases c10 : x3_2 < (l0_0.length : Int)
                · rw [if_pos c10] at H
                  have c10b0 : decide (x3_2 < (l0_0.length : Int)) = true := decide_eq_true c10
                  clear c10
                  replace H := Option.bind_eq_some_iff.mp H
                  obtain ⟨t171, A110, H⟩ := H
                  replace H : (if t171 = true then (if x3_2 < (l0_1.length : Int) then ((spec_l1In.f (rd l0_1 x3_2) 0 100).bind fun t173 => (if t173 = true then (spec_LedgerOk.l0 k2 (wrap64 (x3_2 + 1)) l0_0 l0_1) else (some false))) else (none)) else (some false)) = some r := H
                  have A11 := Aside0.mk A110
                  clear A110
                  by_cases c12 : t171 = true
                  · subst c12
                    have H1 : (if x3_2 < (l0_1.length : Int) then ((spec_l1In.f (rd l0_1 x3_2) 0 100).bind fun t173 => (if t173 = true then (spec_LedgerOk.l0 k2 (wrap64 (x3_2 + 1)) l0_0 l0_1) else (some false))) else (none)) = some r := by rw [if_pos rfl] at H; exact H
                    clear H
                    have H := H1
                    clear H1
                    by_cases c13 : x3_2 < (l0_1.length : Int)
                    · rw [if_pos c13] at H
                      have c13b0 : decide (x3_2 < (l0_1.length : Int)) = true := decide_eq_true c13
                      clear c13
                      replace H := Option.bind_eq_some_iff.mp H
                      obtain ⟨t173, A140, H⟩ := H
                      replace H : (if t173 = true then (spec_LedgerOk.l0 k2 (wrap64 (x3_2 + 1)) l0_0 l0_1) else (some false)) = some r := H
                      have A14 := Aside0.mk A140
                      clear A140
                      have HF := Aside0.mk H
                      clear H
                      have hcz15_0 : wr.cell? ⟨gb169, 0, none⟩ = some (.slice A0_0 l0_0.length c0_0) := (blk_cell BK169.out 0).trans rfl
                      have hcz15_1 : wr.cell? ⟨gb169, 1, none⟩ = some (.slice A0_1 l0_1.length c0_1) := (blk_cell BK169.out 1).trans rfl
                      have hfz15_0 := blk_frozen BK169.out 0
                      have hfz15_1 := blk_frozen BK169.out 1
                      have p170 : 0 ≤ (x3_2 : Int) := of_decide_eq_true (by first | (with_reducible assumption) | assumption)
                      have q170 : x3_2 < (l0_0.length : Int) := of_decide_eq_true (by first | (with_reducible assumption) | assumption)
                      obtain ⟨ad170, e170, hx170_0⟩ := Kd.at_int HR0_0.out x3_2 p170 q170
                      cases e170
                      replace hx170_0 := (HB.out.cell (World.block_lt_of_cell? w _ hx170_0)).trans hx170_0
                      replace p170 := eq_true p170
                      replace q170 := eq_true q170
                      go_upto_if 33 with (go_big_may; first | ((with_reducible refine gate_callee (f := 54) rfl ?_); refine goesL_ (some 23) rfl rfl Try.func54 (by kernel_rfl) rfl #[.int .i64 (rd l0_0 x3_2), .int .i64 0, .int .i64 400] rfl (by (try simp only [List.map_toArray, List.map_cons, List.map_nil]); first | done | rfl | (simp only [List.length_drop, List.length_take]; rfl)) ?_; (with_reducible refine (spec_l1In.calls (rd l0_0 x3_2) 0 400 true _ A11.out).mono ?_); rintro e w' ⟨rfl, ⟨nd, rfl⟩⟩; refine ⟨_, rfl, ?_⟩; have p172 : 0 ≤ (x3_2 : Int) := of_decide_eq_true (by first | (with_reducible assumption) | assumption); have q172 : x3_2 < (l0_1.length : Int) := of_decide_eq_true (by first | (with_reducible assumption) | assumption); obtain ⟨ad172, e172, hx172_0⟩ := Kd.at_int HR0_1.out x3_2 p172 q172; cases e172; replace hx172_0 := (HB.out.cell (World.block_lt_of_cell? w _ hx172_0)).trans hx172_0; replace p172 := eq_true p172; replace q172 := eq_true q172) | (go_at_call 54; (with_reducible refine (spec_l1In.calls (rd l0_1 x3_2) 0 100 t173 _ A14.out).mono ?_); rintro e w' ⟨rfl, ⟨nd, rfl⟩⟩))
                      have H := HF.out
                      clear HF
                      by_cases c16 : t173 = true
                      · subst c16
                        have H1 : (spec_LedgerOk.l0 k2 (wrap64 (x3_2 + 1)) l0_0 l0_1) = some r := by rw [if_pos rfl] at H; exact H
                        clear H
                        have H := H1
                        clear H1
                        have H' := Aside0.mk H
                        clear H
                        go_wp2
                        go_roundg k2
                        case measure => have := HJ1.out; have := HK2.out; omega
                        case rel => exact ⟨(wrap64 (x3_2 + 1)), (by first | rfl | (simp; done) | (simp [*]; done)), H', ⟨by have := HJ1.out; have := HK2.out; omega⟩, ⟨by (with_reducible repeat (first | refine blk_drewN ?_ _ | refine blk_drew ?_ | refine blk_alloc ?_ _)); exact BK169.out⟩, ⟨by repeat (first | (with_reducible first | exact HB.out | apply below_alloc | apply pw_below_drewN | apply below_drew1 | refine below_set ?_ GE169.out) | exact HB.out)⟩⟩
                      · replace c16 := Bool.eq_false_iff.mpr c16
                        subst c16
                        have H1 : (some false) = some r := by rw [if_neg (show ¬ (false = true) by decide)] at H; exact H
                        clear H
                        have H := H1
                        clear H1
                        obtain rfl := Option.some.inj H
                        go_wp2
                        go_ret
                        exact ⟨by first | rfl | (simp [errW_none, errW_some] <;> rfl) | (simp [*, errW_none, errW_some] <;> rfl), by repeat (first | (with_reducible first | exact HB.out | apply below_alloc | apply pw_below_drewN | apply below_drew1 | refine below_set ?_ GE169.out) | exact HB.out)⟩
                    · rw [if_neg c13] at H
                      exact absurd H (by simp)
                  · replace c12 := Bool.eq_false_iff.mpr c12
                    subst c12
                    have H1 : (some false) = some r := by rw [if_neg (show ¬ (false = true) by decide)] at H; exact H
                    clear H
                    have H := H1
                    clear H1
                    obtain rfl := Option.some.inj H
                    have hcz17_0 : wr.cell? ⟨gb169, 0, none⟩ = some (.slice A0_0 l0_0.length c0_0) := (blk_cell BK169.out 0).trans rfl
                    have hcz17_1 : wr.cell? ⟨gb169, 1, none⟩ = some (.slice A0_1 l0_1.length c0_1) := (blk_cell BK169.out 1).trans rfl
                    have hfz17_0 := blk_frozen BK169.out 0
                    have hfz17_1 := blk_frozen BK169.out 1
                    have p170 : 0 ≤ (x3_2 : Int) := of_decide_eq_true (by first | (with_reducible assumption) | assumption)
                    have q170 : x3_2 < (l0_0.length : Int) := of_decide_eq_true (by first | (with_reducible assumption) | assumption)
                    obtain ⟨ad170, e170, hx170_0⟩ := Kd.at_int HR0_0.out x3_2 p170 q170
                    cases e170
                    replace hx170_0 := (HB.out.cell (World.block_lt_of_cell? w _ hx170_0)).trans hx170_0
                    replace p170 := eq_true p170
                    replace q170 := eq_true q170
                    go_wp2_with (first | ((with_reducible refine gate_callee (f := 54) rfl ?_); refine goesL_ (some 23) rfl rfl Try.func54 (by kernel_rfl) rfl #[.int .i64 (rd l0_0 x3_2), .int .i64 0, .int .i64 400] rfl (by (try simp only [List.map_toArray, List.map_cons, List.map_nil]); first | done | rfl | (simp only [List.length_drop, List.length_take]; rfl)) ?_; (with_reducible refine (spec_l1In.calls (rd l0_0 x3_2) 0 400 false _ A11.out).mono ?_); rintro e w' ⟨rfl, ⟨nd, rfl⟩⟩; refine ⟨_, rfl, ?_⟩))
                    go_ret
                    exact ⟨by first | rfl | (simp [errW_none, errW_some] <;> rfl) | (simp [*, errW_none, errW_some] <;> rfl), by repeat (first | (with_reducible first | exact HB.out | apply below_alloc | apply pw_below_drewN | apply below_drew1 | refine below_set ?_ GE169.out) | exact HB.out)⟩
                · rw [if_neg c10] at H
                  exact absurd H (by simp)
              · rw [if_neg c9] at H
                exact absurd H (by simp)
            · rw [if_neg c8] at H
              have c8b0 : decide (x3_2 < 4) = false := decide_eq_false c8
              clear c8
              (first | rw [c8b0] | (simp only [i64_w, i32_w]; rw [c8b0]) | skip)
              obtain rfl := Option.some.inj H
              go_wp2
              go_ret
              exact ⟨by first | rfl | (simp [errW_none, errW_some] <;> rfl) | (simp [*, errW_none, errW_some] <;> rfl), by repeat (first | (with_reducible first | exact HB.out | apply below_alloc | apply pw_below_drewN | apply below_drew1 | refine below_set ?_ GE169.out) | exact HB.out)⟩

/-! ### spec_TxOk: function 56 -/
def spec_TxOk.f (a0_0 : Int) (a0_1 : Int) (a0_2 : Int) (a0_3 : Int) : Option (Bool) := (spec_l1In.f a0_0 0 3).bind fun t175 => (if t175 = true then ((spec_l1In.f a0_1 0 3).bind fun t176 => (if t176 = true then ((spec_l1In.f a0_2 0 1000).bind fun t177 => (if t177 = true then ((spec_l1In.f a0_3 0 99).bind fun t178 => (some t178)) else (some false))) else (some false))) else (some false))
set_option maxHeartbeats 8000000 in
set_option maxRecDepth 100000 in
theorem spec_TxOk.calls (a0_0 : Int) (a0_1 : Int) (a0_2 : Int) (a0_3 : Int) (r : Bool) (w : World) (h : spec_TxOk.f a0_0 a0_1 a0_2 a0_3 = some r) :
    Calls Try.prog 56 #[.agg #[.int .i64 a0_0, .int .i64 a0_1, .int .i64 a0_2, .int .i64 a0_3]] w fun e w' => e = .returned (.bool r) ∧ Below w.heap.size w w' := by
  have hu45 := Try.underlying45
  have HB := Aside0.mk (Below.refl w.heap.size w)
  have H : ((spec_l1In.f a0_0 0 3).bind fun t175 => (if t175 = true then ((spec_l1In.f a0_1 0 3).bind fun t176 => (if t176 = true then ((spec_l1In.f a0_2 0 1000).bind fun t177 => (if t177 = true then ((spec_l1In.f a0_3 0 99).bind fun t178 => (some t178)) else (some false))) else (some false))) else (some false))) = some r := h
  clear h
  replace H := Option.bind_eq_some_iff.mp H
  obtain ⟨t175, A20, H⟩ := H
  replace H : (if t175 = true then ((spec_l1In.f a0_1 0 3).bind fun t176 => (if t176 = true then ((spec_l1In.f a0_2 0 1000).bind fun t177 => (if t177 = true then ((spec_l1In.f a0_3 0 99).bind fun t178 => (some t178)) else (some false))) else (some false))) else (some false)) = some r := H
  have A2 := Aside0.mk A20
  clear A20
  by_cases c3 : t175 = true
  · subst c3
    have H1 : ((spec_l1In.f a0_1 0 3).bind fun t176 => (if t176 = true then ((spec_l1In.f a0_2 0 1000).bind fun t177 => (if t177 = true then ((spec_l1In.f a0_3 0 99).bind fun t178 => (some t178)) else (some false))) else (some false))) = some r := by rw [if_pos rfl] at H; exact H
    clear H
    have H := H1
    clear H1
    replace H := Option.bind_eq_some_iff.mp H
    obtain ⟨t176, A40, H⟩ := H
    replace H : (if t176 = true then ((spec_l1In.f a0_2 0 1000).bind fun t177 => (if t177 = true then ((spec_l1In.f a0_3 0 99).bind fun t178 => (some t178)) else (some false))) else (some false)) = some r := H
    have A4 := Aside0.mk A40
    clear A40
    by_cases c5 : t176 = true
    · subst c5
      have H1 : ((spec_l1In.f a0_2 0 1000).bind fun t177 => (if t177 = true then ((spec_l1In.f a0_3 0 99).bind fun t178 => (some t178)) else (some false))) = some r := by rw [if_pos rfl] at H; exact H
      clear H
      have H := H1
      clear H1
      replace H := Option.bind_eq_some_iff.mp H
      obtain ⟨t177, A60, H⟩ := H
      replace H : (if t177 = true then ((spec_l1In.f a0_3 0 99).bind fun t178 => (some t178)) else (some false)) = some r := H
      have A6 := Aside0.mk A60
      clear A60
      by_cases c7 : t177 = true
      · subst c7
        have H1 : ((spec_l1In.f a0_3 0 99).bind fun t178 => (some t178)) = some r := by rw [if_pos rfl] at H; exact H
        clear H
        have H := H1
        clear H1
        replace H := Option.bind_eq_some_iff.mp H
        obtain ⟨t178, A80, H⟩ := H
        replace H : (some t178) = some r := H
        have A8 := Aside0.mk A80
        clear A80
        obtain rfl := Option.some.inj H
        go_enter Try.func56, Try.ntmps56
        go_wp2_with (first | ((with_reducible refine gate_dst (N := 1) rfl ?_); refine box_event ?hg (N := 1) ?hd (cs := #[.int .i64 a0_0, .int .i64 a0_1, .int .i64 a0_2, .int .i64 a0_3]) (t := 45) ?hr ?_; (case hd => rfl); (case hg => rfl); (case hr => first | (go_simp; done) | (go_simp; rfl)); intro gb174 hg w9 hbox hb; have n0_ := Aside0.mk (below_step (by repeat (first | (with_reducible first | exact HB.out | apply below_alloc | apply pw_below_drewN | apply below_drew1) | exact HB.out)) hb); have n1_ := Aside0.mk (hbox); have n2_ := Aside0.mk ((by rw [hg]; exact (below_size (by repeat (first | (with_reducible first | exact HB.out | apply below_alloc | apply pw_below_drewN | apply below_drew1) | exact HB.out))) : w.heap.size ≤ gb174)); have n3_ := Aside0.mk ((by rw [hg]; exact (below_size (by repeat (first | (with_reducible first | exact HB.out | apply below_alloc | apply pw_below_drewN | apply below_drew1) | exact HB.out))) : w.heap.size ≤ gb174)); clear HB; have HB := n0_; have BK174 := n1_; have GW174 := n2_; have GE174 := n3_; clear n0_ n1_ n2_ n3_; clear hb hbox hg; have hcz10_0 : w9.cell? ⟨gb174, 0, none⟩ = some (.int .i64 a0_0) := (blk_cell BK174.out 0).trans rfl; have hcz10_1 : w9.cell? ⟨gb174, 1, none⟩ = some (.int .i64 a0_1) := (blk_cell BK174.out 1).trans rfl; have hcz10_2 : w9.cell? ⟨gb174, 2, none⟩ = some (.int .i64 a0_2) := (blk_cell BK174.out 2).trans rfl; have hcz10_3 : w9.cell? ⟨gb174, 3, none⟩ = some (.int .i64 a0_3) := (blk_cell BK174.out 3).trans rfl; have hfz10_0 := blk_frozen BK174.out 0; have hfz10_1 := blk_frozen BK174.out 1; have hfz10_2 := blk_frozen BK174.out 2; have hfz10_3 := blk_frozen BK174.out 3) | ((with_reducible refine gate_callee (f := 54) rfl ?_); refine goesL_ (some 5) rfl rfl Try.func54 (by kernel_rfl) rfl #[.int .i64 a0_0, .int .i64 0, .int .i64 3] rfl (by (try simp only [List.map_toArray, List.map_cons, List.map_nil]); first | done | rfl | (simp only [List.length_drop, List.length_take]; rfl)) ?_; (with_reducible refine (spec_l1In.calls a0_0 0 3 true _ A2.out).mono ?_); rintro e w' ⟨rfl, ⟨nd, rfl⟩⟩; refine ⟨_, rfl, ?_⟩) | (go_at_call 54; (with_reducible refine (spec_l1In.calls a0_1 0 3 true _ A4.out).mono ?_); rintro e w' ⟨rfl, ⟨nd, rfl⟩⟩) | (go_at_call 54; (with_reducible refine (spec_l1In.calls a0_2 0 1000 true _ A6.out).mono ?_); rintro e w' ⟨rfl, ⟨nd, rfl⟩⟩) | (go_at_call 54; (with_reducible refine (spec_l1In.calls a0_3 0 99 t178 _ A8.out).mono ?_); rintro e w' ⟨rfl, ⟨nd, rfl⟩⟩))
        go_ret
        exact ⟨by first | rfl | (simp [errW_none, errW_some] <;> rfl) | (simp [*, errW_none, errW_some] <;> rfl), by repeat (first | (with_reducible first | exact HB.out | apply below_alloc | apply pw_below_drewN | apply below_drew1 | refine below_set ?_ GE174.out) | exact HB.out)⟩
      · replace c7 := Bool.eq_false_iff.mpr c7
        subst c7
        have H1 : (some false) = some r := by rw [if_neg (show ¬ (false = true) by decide)] at H; exact H
        clear H
        have H := H1
        clear H1
        obtain rfl := Option.some.inj H
        go_enter Try.func56, Try.ntmps56
        go_wp2_with (first | ((with_reducible refine gate_dst (N := 1) rfl ?_); refine box_event ?hg (N := 1) ?hd (cs := #[.int .i64 a0_0, .int .i64 a0_1, .int .i64 a0_2, .int .i64 a0_3]) (t := 45) ?hr ?_; (case hd => rfl); (case hg => rfl); (case hr => first | (go_simp; done) | (go_simp; rfl)); intro gb174 hg w11 hbox hb; have n0_ := Aside0.mk (below_step (by repeat (first | (with_reducible first | exact HB.out | apply below_alloc | apply pw_below_drewN | apply below_drew1) | exact HB.out)) hb); have n1_ := Aside0.mk (hbox); have n2_ := Aside0.mk ((by rw [hg]; exact (below_size (by repeat (first | (with_reducible first | exact HB.out | apply below_alloc | apply pw_below_drewN | apply below_drew1) | exact HB.out))) : w.heap.size ≤ gb174)); have n3_ := Aside0.mk ((by rw [hg]; exact (below_size (by repeat (first | (with_reducible first | exact HB.out | apply below_alloc | apply pw_below_drewN | apply below_drew1) | exact HB.out))) : w.heap.size ≤ gb174)); clear HB; have HB := n0_; have BK174 := n1_; have GW174 := n2_; have GE174 := n3_; clear n0_ n1_ n2_ n3_; clear hb hbox hg; have hcz12_0 : w11.cell? ⟨gb174, 0, none⟩ = some (.int .i64 a0_0) := (blk_cell BK174.out 0).trans rfl; have hcz12_1 : w11.cell? ⟨gb174, 1, none⟩ = some (.int .i64 a0_1) := (blk_cell BK174.out 1).trans rfl; have hcz12_2 : w11.cell? ⟨gb174, 2, none⟩ = some (.int .i64 a0_2) := (blk_cell BK174.out 2).trans rfl; have hcz12_3 : w11.cell? ⟨gb174, 3, none⟩ = some (.int .i64 a0_3) := (blk_cell BK174.out 3).trans rfl; have hfz12_0 := blk_frozen BK174.out 0; have hfz12_1 := blk_frozen BK174.out 1; have hfz12_2 := blk_frozen BK174.out 2; have hfz12_3 := blk_frozen BK174.out 3) | ((with_reducible refine gate_callee (f := 54) rfl ?_); refine goesL_ (some 5) rfl rfl Try.func54 (by kernel_rfl) rfl #[.int .i64 a0_0, .int .i64 0, .int .i64 3] rfl (by (try simp only [List.map_toArray, List.map_cons, List.map_nil]); first | done | rfl | (simp only [List.length_drop, List.length_take]; rfl)) ?_; (with_reducible refine (spec_l1In.calls a0_0 0 3 true _ A2.out).mono ?_); rintro e w' ⟨rfl, ⟨nd, rfl⟩⟩; refine ⟨_, rfl, ?_⟩) | (go_at_call 54; (with_reducible refine (spec_l1In.calls a0_1 0 3 true _ A4.out).mono ?_); rintro e w' ⟨rfl, ⟨nd, rfl⟩⟩) | (go_at_call 54; (with_reducible refine (spec_l1In.calls a0_2 0 1000 false _ A6.out).mono ?_); rintro e w' ⟨rfl, ⟨nd, rfl⟩⟩))
        go_ret
        exact ⟨by first | rfl | (simp [errW_none, errW_some] <;> rfl) | (simp [*, errW_none, errW_some] <;> rfl), by repeat (first | (with_reducible first | exact HB.out | apply below_alloc | apply pw_below_drewN | apply below_drew1 | refine below_set ?_ GE174.out) | exact HB.out)⟩
    · replace c5 := Bool.eq_false_iff.mpr c5
      subst c5
      have H1 : (some false) = some r := by rw [if_neg (show ¬ (false = true) by decide)] at H; exact H
      clear H
      have H := H1
      clear H1
      obtain rfl := Option.some.inj H
      go_enter Try.func56, Try.ntmps56
      go_wp2_with (first | ((with_reducible refine gate_dst (N := 1) rfl ?_); refine box_event ?hg (N := 1) ?hd (cs := #[.int .i64 a0_0, .int .i64 a0_1, .int .i64 a0_2, .int .i64 a0_3]) (t := 45) ?hr ?_; (case hd => rfl); (case hg => rfl); (case hr => first | (go_simp; done) | (go_simp; rfl)); intro gb174 hg w13 hbox hb; have n0_ := Aside0.mk (below_step (by repeat (first | (with_reducible first | exact HB.out | apply below_alloc | apply pw_below_drewN | apply below_drew1) | exact HB.out)) hb); have n1_ := Aside0.mk (hbox); have n2_ := Aside0.mk ((by rw [hg]; exact (below_size (by repeat (first | (with_reducible first | exact HB.out | apply below_alloc | apply pw_below_drewN | apply below_drew1) | exact HB.out))) : w.heap.size ≤ gb174)); have n3_ := Aside0.mk ((by rw [hg]; exact (below_size (by repeat (first | (with_reducible first | exact HB.out | apply below_alloc | apply pw_below_drewN | apply below_drew1) | exact HB.out))) : w.heap.size ≤ gb174)); clear HB; have HB := n0_; have BK174 := n1_; have GW174 := n2_; have GE174 := n3_; clear n0_ n1_ n2_ n3_; clear hb hbox hg; have hcz14_0 : w13.cell? ⟨gb174, 0, none⟩ = some (.int .i64 a0_0) := (blk_cell BK174.out 0).trans rfl; have hcz14_1 : w13.cell? ⟨gb174, 1, none⟩ = some (.int .i64 a0_1) := (blk_cell BK174.out 1).trans rfl; have hcz14_2 : w13.cell? ⟨gb174, 2, none⟩ = some (.int .i64 a0_2) := (blk_cell BK174.out 2).trans rfl; have hcz14_3 : w13.cell? ⟨gb174, 3, none⟩ = some (.int .i64 a0_3) := (blk_cell BK174.out 3).trans rfl; have hfz14_0 := blk_frozen BK174.out 0; have hfz14_1 := blk_frozen BK174.out 1; have hfz14_2 := blk_frozen BK174.out 2; have hfz14_3 := blk_frozen BK174.out 3) | ((with_reducible refine gate_callee (f := 54) rfl ?_); refine goesL_ (some 5) rfl rfl Try.func54 (by kernel_rfl) rfl #[.int .i64 a0_0, .int .i64 0, .int .i64 3] rfl (by (try simp only [List.map_toArray, List.map_cons, List.map_nil]); first | done | rfl | (simp only [List.length_drop, List.length_take]; rfl)) ?_; (with_reducible refine (spec_l1In.calls a0_0 0 3 true _ A2.out).mono ?_); rintro e w' ⟨rfl, ⟨nd, rfl⟩⟩; refine ⟨_, rfl, ?_⟩) | (go_at_call 54; (with_reducible refine (spec_l1In.calls a0_1 0 3 false _ A4.out).mono ?_); rintro e w' ⟨rfl, ⟨nd, rfl⟩⟩))
      go_ret
      exact ⟨by first | rfl | (simp [errW_none, errW_some] <;> rfl) | (simp [*, errW_none, errW_some] <;> rfl), by repeat (first | (with_reducible first | exact HB.out | apply below_alloc | apply pw_below_drewN | apply below_drew1 | refine below_set ?_ GE174.out) | exact HB.out)⟩
  · replace c3 := Bool.eq_false_iff.mpr c3
    subst c3
    have H1 : (some false) = some r := by rw [if_neg (show ¬ (false = true) by decide)] at H; exact H
    clear H
    have H := H1
    clear H1
    obtain rfl := Option.some.inj H
    go_enter Try.func56, Try.ntmps56
    go_wp2_with (first | ((with_reducible refine gate_dst (N := 1) rfl ?_); refine box_event ?hg (N := 1) ?hd (cs := #[.int .i64 a0_0, .int .i64 a0_1, .int .i64 a0_2, .int .i64 a0_3]) (t := 45) ?hr ?_; (case hd => rfl); (case hg => rfl); (case hr => first | (go_simp; done) | (go_simp; rfl)); intro gb174 hg w15 hbox hb; have n0_ := Aside0.mk (below_step (by repeat (first | (with_reducible first | exact HB.out | apply below_alloc | apply pw_below_drewN | apply below_drew1) | exact HB.out)) hb); have n1_ := Aside0.mk (hbox); have n2_ := Aside0.mk ((by rw [hg]; exact (below_size (by repeat (first | (with_reducible first | exact HB.out | apply below_alloc | apply pw_below_drewN | apply below_drew1) | exact HB.out))) : w.heap.size ≤ gb174)); have n3_ := Aside0.mk ((by rw [hg]; exact (below_size (by repeat (first | (with_reducible first | exact HB.out | apply below_alloc | apply pw_below_drewN | apply below_drew1) | exact HB.out))) : w.heap.size ≤ gb174)); clear HB; have HB := n0_; have BK174 := n1_; have GW174 := n2_; have GE174 := n3_; clear n0_ n1_ n2_ n3_; clear hb hbox hg; have hcz16_0 : w15.cell? ⟨gb174, 0, none⟩ = some (.int .i64 a0_0) := (blk_cell BK174.out 0).trans rfl; have hcz16_1 : w15.cell? ⟨gb174, 1, none⟩ = some (.int .i64 a0_1) := (blk_cell BK174.out 1).trans rfl; have hcz16_2 : w15.cell? ⟨gb174, 2, none⟩ = some (.int .i64 a0_2) := (blk_cell BK174.out 2).trans rfl; have hcz16_3 : w15.cell? ⟨gb174, 3, none⟩ = some (.int .i64 a0_3) := (blk_cell BK174.out 3).trans rfl; have hfz16_0 := blk_frozen BK174.out 0; have hfz16_1 := blk_frozen BK174.out 1; have hfz16_2 := blk_frozen BK174.out 2; have hfz16_3 := blk_frozen BK174.out 3) | ((with_reducible refine gate_callee (f := 54) rfl ?_); refine goesL_ (some 5) rfl rfl Try.func54 (by kernel_rfl) rfl #[.int .i64 a0_0, .int .i64 0, .int .i64 3] rfl (by (try simp only [List.map_toArray, List.map_cons, List.map_nil]); first | done | rfl | (simp only [List.length_drop, List.length_take]; rfl)) ?_; (with_reducible refine (spec_l1In.calls a0_0 0 3 false _ A2.out).mono ?_); rintro e w' ⟨rfl, ⟨nd, rfl⟩⟩; refine ⟨_, rfl, ?_⟩))
    go_ret
    exact ⟨by first | rfl | (simp [errW_none, errW_some] <;> rfl) | (simp [*, errW_none, errW_some] <;> rfl), by repeat (first | (with_reducible first | exact HB.out | apply below_alloc | apply pw_below_drewN | apply below_drew1 | refine below_set ?_ GE174.out) | exact HB.out)⟩

/-! ### spec_Pay: function 34 -/
-- included common.lean
theorem up1 (n : Nat) (h : n < 4611686018427387904) : wrap64 ((n : Int) + 1) = ((n + 1 : Nat) : Int) := by
  unfold wrap64; omega
theorem up1' (a : Int) (h0 : -4611686018427387904 ≤ a) (h : a < 4611686018427387904) : wrap64 (a + 1) = a + 1 := by
  unfold wrap64; omega
theorem dn1 (a : Int) (h0 : -4611686018427387904 ≤ a) (h : a < 4611686018427387904) : wrap64 (a - 1) = a - 1 := by
  unfold wrap64; omega
theorem wrapI (a : Int) (h0 : -4611686018427387904 ≤ a) (h : a < 4611686018427387904) : wrap64 a = a := by
  unfold wrap64; omega
theorem rd_nat (xs : List Int) (n : Nat) (h : n < xs.length) : rd xs (n : Int) = xs[n] := by
  unfold rd; simp [List.getD_eq_getElem?_getD, h]
theorem ev_eq {α : Type} {g : Nat → Option α} {r s : α} (h : Ev g r) (e : r = s) : Ev g s := e ▸ h
theorem ev_ite {α : Type} {c : Prop} [Decidable c] {g f : Nat → Option α} {r s : α} (hg : c → Ev g r) (hf : ¬ c → Ev f s) : Ev (fun k => if c then g k else f k) (if c then r else s) := by
  by_cases h : c
  · simp only [if_pos h]; exact hg h
  · simp only [if_neg h]; exact hf h
theorem ev_pos {α : Type} {c : Prop} [Decidable c] {g f : Nat → Option α} {r : α} (h : c) (hg : Ev g r) : Ev (fun k => if c then g k else f k) r := by
  simp only [if_pos h]; exact hg
theorem ev_neg {α : Type} {c : Prop} [Decidable c] {g f : Nat → Option α} {r : α} (h : ¬ c) (hf : Ev f r) : Ev (fun k => if c then g k else f k) r := by
  simp only [if_neg h]; exact hf
theorem ev_some {α : Type} {r s : α} (e : r = s) : Ev (fun _ => some r) s := e ▸ Ev.now r
theorem ev_const {α β : Type} {o : Option α} {f : Nat → α → Option β} {a : α} {r : β} (h : o = some a) (k : Ev (fun n => f n a) r) : Ev (fun n => o.bind (f n)) r := by
  subst h; exact k
theorem ev_up {α : Type} {g : Nat → Option α} {r : α} (h : Ev (fun k => g (k + 1)) r) : Ev g r := by
  obtain ⟨K, hK⟩ := h
  refine ⟨K + 1, fun k hk => ?_⟩
  obtain ⟨m, rfl⟩ : ∃ m, k = m + 1 := ⟨k - 1, by omega⟩
  exact hK m (by omega)
theorem wNat (c : Nat) (h : c < 4611686018427387904) : wrap64 (c : Int) = (c : Int) := by unfold wrap64; omega
theorem wAdd (a i : Nat) (h : a + i < 4611686018427387904) : wrap64 ((a : Int) + (i : Int)) = ((a + i : Nat) : Int) := by unfold wrap64; omega
theorem wAdd1 (a i : Nat) (h : a + i < 4611686018427387904) : wrap64 (((a + i : Nat) : Int) + 1) = (a : Int) + ((i + 1 : Nat) : Int) := by unfold wrap64; omega
theorem wSub (a i : Nat) (h : a < 4611686018427387904) (h' : i < 4611686018427387904) : wrap64 ((a : Int) - (i : Int)) = (a : Int) - (i : Int) := by unfold wrap64; omega
theorem tmod128 (c : Nat) : Int.tmod (c : Int) 128 = ((c % 128 : Nat) : Int) := by rw [Int.tmod_eq_emod_of_nonneg (by omega)]; omega
theorem all_drop {α : Type} {P : α → Prop} {l : List α} {i : Nat} (h : i < l.length) : (∀ x ∈ l.drop i, P x) ↔ P l[i] ∧ ∀ x ∈ l.drop (i + 1), P x := by
  rw [List.drop_eq_getElem_cons h, List.forall_mem_cons]
-- included spec_l1In.lean
theorem spec_l1In_val (a b c : Int) : spec_l1In.f a b c = some (decide (b ≤ a ∧ a ≤ c)) := by
  unfold spec_l1In.f
  by_cases h : a ≥ b <;> by_cases h2 : a ≤ c <;> simp [h, h2] <;> omega
-- included spec_l3Copy.lean
theorem spec_l3Copy_val (h n : List Int) (b1 : h.length ≤ 1048576) (b2 : n.length ≤ 1048576) : spec_l3Copy.f h n = some (h, n) := by
  unfold spec_l3Copy.f
  simp only [Option.bind_some, List.length_nil, List.nil_append]
  rw [if_pos (by omega), if_pos (by omega)]
-- included spec_LedgerOk.lean
-- included ledger.inc
def ledgerIs (h n : List Int) : Prop := (h.length = 4 ∧ n.length = 4) ∧ (∀ x ∈ h, 0 ≤ x ∧ x ≤ 400) ∧ ∀ x ∈ n, 0 ≤ x ∧ x ≤ 100
instance (h n : List Int) : Decidable (ledgerIs h n) := by unfold ledgerIs; infer_instance
theorem spec_LedgerOk_loop (h n : List Int) (hh : h.length = 4) (hn : n.length = 4) : ∀ (d i : Nat), i + d = 4 → Ev (fun k => spec_LedgerOk.l0 k (i : Int) h n) (decide ((∀ x ∈ h.drop i, 0 ≤ x ∧ x ≤ 400) ∧ ∀ x ∈ n.drop i, 0 ≤ x ∧ x ≤ 100)) := by
  intro d
  induction d with
  | zero =>
    intro i hi
    refine Ev.step (f := fun _ => some true) (fun k => by simp only [spec_LedgerOk.l0]; rw [if_neg (by omega)]) (ev_some ?_)
    rw [List.drop_of_length_le (by omega), List.drop_of_length_le (by omega)]; simp
  | succ d ih =>
    intro i hi
    have h1 : i < h.length := by omega
    have h2 : i < n.length := by omega
    refine Ev.step (f := fun k => (spec_l1In.f h[i] 0 400).bind fun t => if t = true then ((spec_l1In.f n[i] 0 100).bind fun u => if u = true then spec_LedgerOk.l0 k ((i + 1 : Nat) : Int) h n else some false) else some false) (fun k => by simp only [spec_LedgerOk.l0]; rw [if_pos (by omega), if_pos (by omega), if_pos (by omega), if_pos (by omega), rd_nat h i h1, rd_nat n i h2, up1 i (by omega)]) ?_
    refine ev_const (spec_l1In_val _ _ _) ?_
    by_cases c1 : 0 ≤ h[i] ∧ h[i] ≤ 400
    · refine ev_pos (by simpa using c1) (ev_const (spec_l1In_val _ _ _) ?_)
      by_cases c2 : 0 ≤ n[i] ∧ n[i] ≤ 100
      · exact ev_pos (by simpa using c2) (ev_eq (ih (i + 1) (by omega)) (decide_eq_decide.mpr (by rw [all_drop h1, all_drop h2]; exact ⟨fun z => ⟨⟨c1, z.1⟩, c2, z.2⟩, fun z => ⟨z.1.2, z.2.2⟩⟩)))
      · exact ev_neg (by simpa using c2) (ev_some (decide_eq_false (by rw [all_drop h2]; exact fun z => c2 z.2.1)).symm)
    · exact ev_neg (by simpa using c1) (ev_some (decide_eq_false (by rw [all_drop h1]; exact fun z => c1 z.1.1)).symm)
theorem spec_LedgerOk_ev (h n : List Int) : Ev (fun k => spec_LedgerOk.f k h n) (decide (ledgerIs h n)) := by
  unfold spec_LedgerOk.f ledgerIs
  have tr : ∀ b : Bool, b = true → Ev (fun k => spec_LedgerOk.j0 k b h n) false := fun b hb => Ev.step (f := fun _ => some false) (fun k => by simp only [spec_LedgerOk.j0]; rw [if_pos hb]) (ev_some rfl)
  by_cases hh : h.length = 4
  · refine ev_pos (by omega) ?_
    by_cases hn : n.length = 4
    · rw [show ((n.length : Int) != 4) = false by simp; omega]
      refine Ev.step (f := fun k => spec_LedgerOk.l0 k 0 h n) (fun k => by simp only [spec_LedgerOk.j0]; rw [if_neg (by decide)]) ?_
      refine ev_eq (spec_LedgerOk_loop h n hh hn 4 0 rfl) (decide_eq_decide.mpr ?_)
      simp [hh, hn]
    · exact ev_eq (tr _ (by simp; omega)) (decide_eq_false (fun z => hn z.1.2)).symm
  · exact ev_neg (by omega) (ev_eq (tr true rfl) (decide_eq_false (fun z => hh z.1.1)).symm)
-- included spec_TxOk.lean
-- included txis.inc
def txIs (f t a n : Int) : Prop := (0 ≤ f ∧ f ≤ 3) ∧ (0 ≤ t ∧ t ≤ 3) ∧ (0 ≤ a ∧ a ≤ 1000) ∧ 0 ≤ n ∧ n ≤ 99
instance (f t a n : Int) : Decidable (txIs f t a n) := by unfold txIs; infer_instance
theorem spec_TxOk_val (f t a n : Int) : spec_TxOk.f f t a n = some (decide (txIs f t a n)) := by
  unfold spec_TxOk.f txIs
  simp only [spec_l1In_val, Option.bind_some, decide_eq_true_eq]
  by_cases h1 : 0 ≤ f ∧ f ≤ 3 <;> by_cases h2 : 0 ≤ t ∧ t ≤ 3 <;> by_cases h3 : 0 ≤ a ∧ a ≤ 1000 <;> simp only [h1, h2, h3, if_true, if_false, true_and, false_and, and_false, and_self, decide_false]
-- included pay.inc
def mvL (h : List Int) (f t a : Int) : List Int := (h.set f.toNat (wrap64 (rd h f - a))).set t.toNat (wrap64 (rd (h.set f.toNat (wrap64 (rd h f - a))) t + a))
def payL (h n : List Int) (f t a m : Int) : List Int × List Int × Int :=
  if ¬ (ledgerIs h n ∧ txIs f t a m) then (h, n, 1) else if m < rd n f then (h, n, 2) else if m > rd n f then (h, n, 3) else if a > rd h f then (h, n.set f.toNat (wrap64 (m + 1)), 4) else if ledgerIs (mvL h f t a) (n.set f.toNat (wrap64 (m + 1))) then (mvL h f t a, n.set f.toNat (wrap64 (m + 1)), 0) else (h, n, 1)
-- included sl_ledger.inc
theorem wrapEq (x : Int) : IntKind.i64.wrap x = wrap64 x := by rw [IntKind.wrap_i64]; unfold wrap64; rfl
theorem mvL_len (h : List Int) (f t a : Int) : h.length = (mvL h f t a).length := by unfold mvL; rw [List.length_set, List.length_set]
def payF (b : Bool) (h n : List Int) (f t a m : Int) : List Int × List Int × Int :=
  if m < rd n f then (h, n, 2) else if m > rd n f then (h, n, 3) else if a > rd h f then (h, n.set f.toNat (wrap64 (m + 1)), 4) else if b = true then (mvL h f t a, n.set f.toNat (wrap64 (m + 1)), 0) else (h, n, 1)
instance : Go.Proofs.YtajblkfgdalldaaH.ZeroT Try.prog 27 #[.slice none 0 0, .slice none 0 0] := ⟨by kernel_rfl⟩
instance : Go.Proofs.YtajblkfgdalldaaH.AggT Try.prog 27 2 := ⟨by kernel_rfl, by kernel_rfl⟩
instance : Go.Proofs.YtajblkfgdalldaaH.AggT Try.prog 45 4 := ⟨by kernel_rfl, by kernel_rfl⟩
instance : Go.Proofs.YtajblkfgdalldaaH.CellT Try.prog 3 := ⟨by kernel_rfl, by kernel_rfl⟩
instance : Go.Proofs.YtajblkfgdalldaaH.CellT Try.prog 22 := ⟨by kernel_rfl, by kernel_rfl⟩
theorem spec_Pay.lok (k : Nat) (A0 : Option Addr) (c0 : Nat) (l0 : List Int) (n0 : Nat) (A1 : Option Addr) (c1 : Nat) (l1 : List Int) (n1 : Nat) (r : Bool) (w : World) (e0 : n0 = l0.length) (e1 : n1 = l1.length) (hr0 : Kd.C (Kd.int .i64) w A0 l0.length l0) (hc0 : l0.length ≤ c0) (hr1 : Kd.C (Kd.int .i64) w A1 l1.length l1) (hc1 : l1.length ≤ c1) (h : spec_LedgerOk.f k l0 l1 = some r) :
    Calls Try.prog 24 #[.agg #[.slice A0 n0 c0, .slice A1 n1 c1]] w fun e w' => e = .returned (.bool r) ∧ Below w.heap.size w w' := by
  subst e0
  subst e1
  exact spec_LedgerOk.calls _ _ _ _ _ _ _ _ _ hr0 hc0 hr1 hc1 h
open Go.Proofs.YtajblkfgdalldaaH in
set_option maxHeartbeats 4000000 in
set_option maxRecDepth 100000 in
theorem spec_Pay.bad (k : Nat) (A0_0 : Option Addr) (c0_0 : Nat) (l0_0 : List Int) (A0_1 : Option Addr) (c0_1 : Nat) (l0_1 : List Int) (a1_0 a1_1 a1_2 a1_3 : Int) (b0 b1 : Bool) (w : World) (hr0 : Aside0 (Kd.C (Kd.int .i64) w A0_0 l0_0.length l0_0)) (hc0 : Aside0 (l0_0.length ≤ c0_0)) (hr1 : Aside0 (Kd.C (Kd.int .i64) w A0_1 l0_1.length l0_1)) (hc1 : Aside0 (l0_1.length ≤ c0_1)) (hcp : Aside0 (spec_l3Copy.f l0_0 l0_1 = some (l0_0, l0_1))) (hk : Aside0 (spec_LedgerOk.f k l0_0 l0_1 = some b0)) (hx : Aside0 (spec_TxOk.f a1_0 a1_1 a1_2 a1_3 = some b1)) (hb : (b0 && b1) = false) :
    Calls Try.prog 34 #[.agg #[.slice A0_0 l0_0.length c0_0, .slice A0_1 l0_1.length c0_1], .agg #[.int .i64 a1_0, .int .i64 a1_1, .int .i64 a1_2, .int .i64 a1_3]] w fun e w' => ∃ v0_ v1_ : Value, e = .returned (.tuple #[.agg #[v0_, v1_], .int .i64 (1)]) ∧ Kd.R (Kd.int .i64) 3 w' w.heap.size (fun k_ => some k_ ≠ (v1_ : Value).ownBlock) v0_ (l0_0) ∧ Kd.R (Kd.int .i64) 3 w' w.heap.size (fun k_ => some k_ ≠ (v0_ : Value).ownBlock) v1_ (l0_1) ∧ Below w.heap.size w w' := by
  have HS := SS.nil w
  rcases b0 with _ | _
  · clear hb
    go_enter Try.func34, Try.ntmps34
    go_wp2_with (first | ((with_reducible refine gate_dst (N := 4) rfl ?_); refine ev_alloc HS rfl rfl ?_; clear HS; intro g4 w1 HS) | ((with_reducible refine gate_dst (N := 6) rfl ?_); refine ev_alloc HS rfl rfl ?_; clear HS; intro g6 w1 HS) | ((with_reducible refine gate_dst (N := 2) rfl ?_); refine ev_box HS (cs := #[.slice A0_0 l0_0.length c0_0, .slice A0_1 l0_1.length c0_1]) rfl rfl rfl ?_; clear HS; intro g2 w1 HS) | ((with_reducible refine gate_dst (N := 3) rfl ?_); refine ev_box HS (cs := #[.int .i64 a1_0, .int .i64 a1_1, .int .i64 a1_2, .int .i64 a1_3]) rfl rfl rfl ?_; clear HS; intro g3 w1 HS) | ((with_reducible refine gate_load rfl ?_); first | refine ev_loadC HS rfl rfl rfl (by rfl) ?_ | refine ev_loadS HS rfl rfl rfl (by rfl) ?_) | ((with_reducible refine gate_put rfl ?_); (first | refine ev_storeC HS rfl rfl rfl rfl rfl (by rfl) (by rfl) ?_ | refine ev_storeS HS rfl rfl rfl rfl rfl (by rfl) (by rfl) (by rfl) ?_); clear HS; intro w1 HS) | (go_at_call 65; refine (spec_l3Copy.calls _ _ _ _ _ _ _ _ _ (Kd.C_below hr0.out HS.below) hc0.out (Kd.C_below hr1.out HS.below) hc1.out hcp.out).mono ?_; rintro e w1 ⟨v0, v1, rfl, ho0, ho1, hb⟩; obtain ⟨Ao0, co0, Ao1, co1, rfl, rfl, HS1⟩ := HS.got2 hb ho0 ho1 (fun _ h => h); clear HS ho0 ho1 hb; have HS := HS1; clear HS1) | (go_at_call 24; refine (spec_LedgerOk.calls _ _ _ _ _ _ _ _ _ (Kd.C_below hr0.out HS.below) hc0.out (Kd.C_below hr1.out HS.below) hc1.out hk.out).mono ?_; rintro e w1 ⟨rfl, hb⟩; have HS1 := HS.later hb; clear HS hb; have HS := HS1; clear HS1) | (go_at_call 56; refine (spec_TxOk.calls _ _ _ _ _ _ hx.out).mono ?_; rintro e w1 ⟨rfl, hb⟩; have HS1 := HS.later hb; clear HS hb; have HS := HS1; clear HS1))
    refine bodyPost_ret (results_ct rfl _ _ g4 27 #[.slice Ao0 l0_0.length co0, .slice Ao1 l0_1.length co1] (0, 0) _ rfl (HS.box g4) Try.underlying27 rfl (by kernel_rfl)) rfl ?_
    exact ⟨_, _, rfl, HS.out2 Ao0 Ao1 (by decide), HS.out2 Ao1 Ao0 (by decide), HS.below⟩
  · obtain rfl : b1 = false := by simpa using hb
    clear hb
    go_enter Try.func34, Try.ntmps34
    go_wp2_with (first | ((with_reducible refine gate_dst (N := 4) rfl ?_); refine ev_alloc HS rfl rfl ?_; clear HS; intro g4 w1 HS) | ((with_reducible refine gate_dst (N := 6) rfl ?_); refine ev_alloc HS rfl rfl ?_; clear HS; intro g6 w1 HS) | ((with_reducible refine gate_dst (N := 2) rfl ?_); refine ev_box HS (cs := #[.slice A0_0 l0_0.length c0_0, .slice A0_1 l0_1.length c0_1]) rfl rfl rfl ?_; clear HS; intro g2 w1 HS) | ((with_reducible refine gate_dst (N := 3) rfl ?_); refine ev_box HS (cs := #[.int .i64 a1_0, .int .i64 a1_1, .int .i64 a1_2, .int .i64 a1_3]) rfl rfl rfl ?_; clear HS; intro g3 w1 HS) | ((with_reducible refine gate_load rfl ?_); first | refine ev_loadC HS rfl rfl rfl (by rfl) ?_ | refine ev_loadS HS rfl rfl rfl (by rfl) ?_) | ((with_reducible refine gate_put rfl ?_); (first | refine ev_storeC HS rfl rfl rfl rfl rfl (by rfl) (by rfl) ?_ | refine ev_storeS HS rfl rfl rfl rfl rfl (by rfl) (by rfl) (by rfl) ?_); clear HS; intro w1 HS) | (go_at_call 65; refine (spec_l3Copy.calls _ _ _ _ _ _ _ _ _ (Kd.C_below hr0.out HS.below) hc0.out (Kd.C_below hr1.out HS.below) hc1.out hcp.out).mono ?_; rintro e w1 ⟨v0, v1, rfl, ho0, ho1, hb⟩; obtain ⟨Ao0, co0, Ao1, co1, rfl, rfl, HS1⟩ := HS.got2 hb ho0 ho1 (fun _ h => h); clear HS ho0 ho1 hb; have HS := HS1; clear HS1) | (go_at_call 24; refine (spec_LedgerOk.calls _ _ _ _ _ _ _ _ _ (Kd.C_below hr0.out HS.below) hc0.out (Kd.C_below hr1.out HS.below) hc1.out hk.out).mono ?_; rintro e w1 ⟨rfl, hb⟩; have HS1 := HS.later hb; clear HS hb; have HS := HS1; clear HS1) | (go_at_call 56; refine (spec_TxOk.calls _ _ _ _ _ _ hx.out).mono ?_; rintro e w1 ⟨rfl, hb⟩; have HS1 := HS.later hb; clear HS hb; have HS := HS1; clear HS1))
    refine bodyPost_ret (results_ct rfl _ _ g4 27 #[.slice Ao0 l0_0.length co0, .slice Ao1 l0_1.length co1] (0, 0) _ rfl (HS.box g4) Try.underlying27 rfl (by kernel_rfl)) rfl ?_
    exact ⟨_, _, rfl, HS.out2 Ao0 Ao1 (by decide), HS.out2 Ao1 Ao0 (by decide), HS.below⟩

open Go.Proofs.YtajblkfgdalldaaH in
set_option maxHeartbeats 4000000 in
set_option maxRecDepth 100000 in
theorem spec_Pay.fine (k k2 : Nat) (ad0 ad1 : Addr) (c0_0 : Nat) (l0_0 : List Int) (c0_1 : Nat) (l0_1 : List Int) (a1_0 a1_1 a1_2 a1_3 : Int) (w : World) (hr0 : Aside0 (Kd.C (Kd.int .i64) w (some ad0) l0_0.length l0_0)) (hc0 : Aside0 (l0_0.length ≤ c0_0)) (hr1 : Aside0 (Kd.C (Kd.int .i64) w (some ad1) l0_1.length l0_1)) (hc1 : Aside0 (l0_1.length ≤ c0_1)) (hcp : Aside0 (spec_l3Copy.f l0_0 l0_1 = some (l0_0, l0_1))) (hk : Aside0 (spec_LedgerOk.f k l0_0 l0_1 = some true)) (hx : Aside0 (spec_TxOk.f a1_0 a1_1 a1_2 a1_3 = some true))
    (hx0 : Aside0 (w.cell? (ad0.add a1_0.toNat) = some (.int .i64 (rd l0_0 a1_0)))) (hx1 : Aside0 (w.cell? (ad1.add a1_0.toNat) = some (.int .i64 (rd l0_1 a1_0)))) (f0 : 0 ≤ a1_0) (f1 : a1_0 < (l0_0.length : Int)) (f2 : a1_0 < (l0_1.length : Int)) (t0 : 0 ≤ a1_1) (t1 : a1_1 < (l0_0.length : Int)) (t1' : a1_1 < ((l0_0.set a1_0.toNat (wrap64 (rd l0_0 a1_0 - a1_2))).length : Int)) (b6 : Bool) (hk2 : Aside0 (spec_LedgerOk.f k2 (mvL l0_0 a1_0 a1_1 a1_2) (l0_1.set a1_0.toNat (wrap64 (a1_3 + 1))) = some b6)) (r1 r2 : List Int) (r3 : Int) (hR : Aside0 (payF b6 l0_0 l0_1 a1_0 a1_1 a1_2 a1_3 = (r1, r2, r3))) :
    Calls Try.prog 34 #[.agg #[.slice (some ad0) l0_0.length c0_0, .slice (some ad1) l0_1.length c0_1], .agg #[.int .i64 a1_0, .int .i64 a1_1, .int .i64 a1_2, .int .i64 a1_3]] w fun e w' => ∃ v0_ v1_ : Value, e = .returned (.tuple #[.agg #[v0_, v1_], .int .i64 (r3)]) ∧ Kd.R (Kd.int .i64) 3 w' w.heap.size (fun k_ => some k_ ≠ (v1_ : Value).ownBlock) v0_ (r1) ∧ Kd.R (Kd.int .i64) 3 w' w.heap.size (fun k_ => some k_ ≠ (v0_ : Value).ownBlock) v1_ (r2) ∧ Below w.heap.size w w' := by
  have HS := SS.nil w
  go_enter Try.func34, Try.ntmps34
  go_upto_region 4 with (first | ((with_reducible refine gate_dst (N := 4) rfl ?_); refine ev_alloc HS rfl rfl ?_; clear HS; intro g4 w1 HS) | ((with_reducible refine gate_dst (N := 6) rfl ?_); refine ev_alloc HS rfl rfl ?_; clear HS; intro g6 w1 HS) | ((with_reducible refine gate_dst (N := 2) rfl ?_); refine ev_box HS (cs := #[.slice (some ad0) l0_0.length c0_0, .slice (some ad1) l0_1.length c0_1]) rfl rfl rfl ?_; clear HS; intro g2 w1 HS) | ((with_reducible refine gate_dst (N := 3) rfl ?_); refine ev_box HS (cs := #[.int .i64 a1_0, .int .i64 a1_1, .int .i64 a1_2, .int .i64 a1_3]) rfl rfl rfl ?_; clear HS; intro g3 w1 HS) | ((with_reducible refine gate_load rfl ?_); first | refine ev_loadC HS rfl rfl rfl (by rfl) ?_ | refine ev_loadS HS rfl rfl rfl (by rfl) ?_) | ((with_reducible refine gate_put rfl ?_); (first | refine ev_storeC HS rfl rfl rfl rfl rfl (by rfl) (by rfl) ?_ | refine ev_storeS HS rfl rfl rfl rfl rfl (by rfl) (by rfl) (by rfl) ?_); clear HS; intro w1 HS) | (go_at_call 65; refine (spec_l3Copy.calls _ _ _ _ _ _ _ _ _ (Kd.C_below hr0.out HS.below) hc0.out (Kd.C_below hr1.out HS.below) hc1.out hcp.out).mono ?_; rintro e w1 ⟨v0, v1, rfl, ho0, ho1, hb⟩; obtain ⟨Ao0, co0, Ao1, co1, rfl, rfl, HS1⟩ := HS.got2 hb ho0 ho1 (fun _ h => h); clear HS ho0 ho1 hb; have HS := HS1; clear HS1) | (go_at_call 24; refine (spec_LedgerOk.calls _ _ _ _ _ _ _ _ _ (Kd.C_below hr0.out HS.below) hc0.out (Kd.C_below hr1.out HS.below) hc1.out hk.out).mono ?_; rintro e w1 ⟨rfl, hb⟩; have HS1 := HS.later hb; clear HS hb; have HS := HS1; clear HS1) | (go_at_call 56; refine (spec_TxOk.calls _ _ _ _ _ _ hx.out).mono ?_; rintro e w1 ⟨rfl, hb⟩; have HS1 := HS.later hb; clear HS hb; have HS := HS1; clear HS1))
  have o1 := (HS.below.cell (World.block_lt_of_cell? w _ hx1.out)).trans hx1.out
  have b2 := fun j => HS.cell g2 j
  have b3 := fun j => HS.cell g3 j
  by_cases c3 : a1_3 < rd l0_1 a1_0
  · have c3b : decide (a1_3 < rd l0_1 a1_0) = true := decide_eq_true c3
    have hp := hR.out; unfold payF at hp; rw [if_pos c3] at hp; simp only [Prod.mk.injEq] at hp; obtain ⟨rfl, rfl, rfl⟩ := hp
    clear c3 hR
    go_quiet (fail)
    rename_i nq
    replace HS := HS.drewN nq
    generalize w1.drewN nq = w1 at HS ⊢
    clear b2 b3 o1
    go_wp2_with (first | ((with_reducible refine gate_load rfl ?_); first | refine ev_loadC HS rfl rfl rfl (by rfl) ?_ | refine ev_loadS HS rfl rfl rfl (by rfl) ?_) | ((with_reducible refine gate_put rfl ?_); (first | refine ev_storeC HS rfl rfl rfl rfl rfl (by rfl) (by rfl) ?_ | refine ev_storeS HS rfl rfl rfl rfl rfl (by rfl) (by rfl) (by rfl) ?_); clear HS; intro w1 HS))
    refine bodyPost_ret (results_ct rfl _ _ g4 27 #[.slice Ao0 l0_0.length co0, .slice Ao1 l0_1.length co1] (0, 0) _ rfl (HS.box g4) Try.underlying27 rfl (by kernel_rfl)) rfl ?_
    exact ⟨_, _, rfl, HS.out2 Ao0 Ao1 (by decide), HS.out2 Ao1 Ao0 (by decide), HS.below⟩
  have c3b : decide (a1_3 < rd l0_1 a1_0) = false := decide_eq_false c3
  go_quiet (fail)
  rename_i nq
  replace HS := HS.drewN nq
  generalize w1.drewN nq = w1 at HS ⊢
  clear b2 b3 o1
  go_upto_region 6 with (fail)
  have o1 := (HS.below.cell (World.block_lt_of_cell? w _ hx1.out)).trans hx1.out
  have b2 := fun j => HS.cell g2 j
  have b3 := fun j => HS.cell g3 j
  by_cases c4 : a1_3 > rd l0_1 a1_0
  · have c4b : decide (rd l0_1 a1_0 < a1_3) = true := decide_eq_true c4
    have hp := hR.out; unfold payF at hp; rw [if_neg c3, if_pos c4] at hp; simp only [Prod.mk.injEq] at hp; obtain ⟨rfl, rfl, rfl⟩ := hp
    clear c3 c4 hR
    go_quiet (fail)
    rename_i nq
    replace HS := HS.drewN nq
    generalize w1.drewN nq = w1 at HS ⊢
    clear b2 b3 o1
    go_wp2_with (first | ((with_reducible refine gate_load rfl ?_); first | refine ev_loadC HS rfl rfl rfl (by rfl) ?_ | refine ev_loadS HS rfl rfl rfl (by rfl) ?_) | ((with_reducible refine gate_put rfl ?_); (first | refine ev_storeC HS rfl rfl rfl rfl rfl (by rfl) (by rfl) ?_ | refine ev_storeS HS rfl rfl rfl rfl rfl (by rfl) (by rfl) (by rfl) ?_); clear HS; intro w1 HS))
    refine bodyPost_ret (results_ct rfl _ _ g4 27 #[.slice Ao0 l0_0.length co0, .slice Ao1 l0_1.length co1] (0, 0) _ rfl (HS.box g4) Try.underlying27 rfl (by kernel_rfl)) rfl ?_
    exact ⟨_, _, rfl, HS.out2 Ao0 Ao1 (by decide), HS.out2 Ao1 Ao0 (by decide), HS.below⟩
  have c4b : decide (rd l0_1 a1_0 < a1_3) = false := decide_eq_false c4
  go_quiet (fail)
  rename_i nq
  replace HS := HS.drewN nq
  generalize w1.drewN nq = w1 at HS ⊢
  clear b2 b3 o1
  obtain ⟨b1, rfl⟩ := HS.form Ao1 (by omega)
  go_upto_region 9 with (first | ((with_reducible refine gate_load rfl ?_); first | refine ev_loadC HS rfl rfl rfl (by rfl) ?_ | refine ev_loadS HS rfl rfl rfl (by rfl) ?_ | refine ev_loadI HS rfl rfl rfl (by assumption) (by assumption) ?_) | ((with_reducible refine gate_put rfl ?_); (first | refine ev_storeC HS rfl rfl rfl rfl rfl (by rfl) (by rfl) ?_ | refine ev_storeS HS rfl rfl rfl rfl rfl (by rfl) (by rfl) (by rfl) ?_ | refine ev_storeI HS rfl rfl rfl rfl rfl (by assumption) (by assumption) ?_); clear HS; intro w1 HS))
  have o1 := (HS.below.cell (World.block_lt_of_cell? w _ hx0.out)).trans hx0.out
  have b2 := fun j => HS.cell g2 j
  have b3 := fun j => HS.cell g3 j
  by_cases c5 : a1_2 > rd l0_0 a1_0
  · have c5b : decide (rd l0_0 a1_0 < a1_2) = true := decide_eq_true c5
    have hp := hR.out; unfold payF at hp; rw [if_neg c3, if_neg c4, if_pos c5] at hp; simp only [Prod.mk.injEq] at hp; obtain ⟨rfl, rfl, rfl⟩ := hp
    clear c3 c4 c5 hR
    go_quiet (fail)
    rename_i nq
    replace HS := HS.drewN nq
    generalize w1.drewN nq = w1 at HS ⊢
    clear b2 b3 o1
    go_wp2_with (first | ((with_reducible refine gate_load rfl ?_); first | refine ev_loadC HS rfl rfl rfl (by rfl) ?_ | refine ev_loadS HS rfl rfl rfl (by rfl) ?_) | ((with_reducible refine gate_put rfl ?_); (first | refine ev_storeC HS rfl rfl rfl rfl rfl (by rfl) (by rfl) ?_ | refine ev_storeS HS rfl rfl rfl rfl rfl (by rfl) (by rfl) (by rfl) ?_); clear HS; intro w1 HS))
    refine bodyPost_ret (results_ct rfl _ _ g4 27 #[.slice Ao0 l0_0.length co0, .slice (some ⟨b1, 0, none⟩) l0_1.length co1] (0, 0) _ rfl (HS.box g4) Try.underlying27 rfl (by kernel_rfl)) rfl ?_
    exact ⟨_, _, rfl, HS.out2 Ao0 (some ⟨b1, 0, none⟩) (by decide), HS.out2 (some ⟨b1, 0, none⟩) Ao0 (by decide), HS.below⟩
  have c5b : decide (rd l0_0 a1_0 < a1_2) = false := decide_eq_false c5
  go_quiet (fail)
  rename_i nq
  replace HS := HS.drewN nq
  generalize w1.drewN nq = w1 at HS ⊢
  clear b2 b3 o1
  obtain ⟨b0, rfl⟩ := HS.form Ao0 (by omega)
  go_upto_region 11 with (fail)
  have r0 := HS.cellI b0 a1_0 f0 f1
  have b3 := fun j => HS.cell g3 j
  have b6 := fun j => HS.cell g6 j
  go_still_tail 14, (by kernel_rfl)
  clear r0 b3 b6
  replace HS := HS.drew
  change wpList _ _ _ _ _ w1.drew
  generalize w1.drew = w1 at HS ⊢
  go_upto_region 12 with ((with_reducible refine gate_put rfl ?_); (first | refine ev_storeC HS rfl rfl rfl rfl rfl (by rfl) (by rfl) ?_ | refine ev_storeS HS rfl rfl rfl rfl rfl (by rfl) (by rfl) (by rfl) ?_ | refine ev_storeI HS rfl rfl rfl rfl rfl (by assumption) (by assumption) ?_); clear HS; intro w1 HS)
  try rw [wrapEq] at HS
  go_upto_region 12 with (fail)
  have r0 := HS.cellI b0 a1_1 t0 t1'
  have b3 := fun j => HS.cell g3 j
  have b6 := fun j => HS.cell g6 j
  go_still_tail 14, (by kernel_rfl)
  clear r0 b3 b6
  replace HS := HS.drew
  change wpList _ _ _ _ _ w1.drew
  generalize w1.drew = w1 at HS ⊢
  go_upto_region 13 with ((with_reducible refine gate_put rfl ?_); (first | refine ev_storeC HS rfl rfl rfl rfl rfl (by rfl) (by rfl) ?_ | refine ev_storeS HS rfl rfl rfl rfl rfl (by rfl) (by rfl) (by rfl) ?_ | refine ev_storeI HS rfl rfl rfl rfl rfl (by assumption) (by assumption) ?_); clear HS; intro w1 HS)
  try rw [wrapEq] at HS
  rcases b6 with _ | _
  · have hp := hR.out; unfold payF at hp; rw [if_neg c3, if_neg c4, if_neg c5] at hp; rw [if_neg (by decide)] at hp; simp only [Prod.mk.injEq] at hp; obtain ⟨rfl, rfl, rfl⟩ := hp
    clear c3 c4 c5 hR
    go_wp2_with (first | ((with_reducible refine gate_load rfl ?_); first | refine ev_loadC HS rfl rfl rfl (by rfl) ?_ | refine ev_loadS HS rfl rfl rfl (by rfl) ?_) | ((with_reducible refine gate_put rfl ?_); (first | refine ev_storeC HS rfl rfl rfl rfl rfl (by rfl) (by rfl) ?_ | refine ev_storeS HS rfl rfl rfl rfl rfl (by rfl) (by rfl) (by rfl) ?_); clear HS; intro w1 HS) | (go_at_call 65; refine (spec_l3Copy.calls _ _ _ _ _ _ _ _ _ (Kd.C_below hr0.out HS.below) hc0.out (Kd.C_below hr1.out HS.below) hc1.out hcp.out).mono ?_; rintro e w1 ⟨v0, v1, rfl, ho0, ho1, hb⟩; obtain ⟨Aq0, cq0, Aq1, cq1, rfl, rfl, HS1⟩ := HS.got2 hb ho0 ho1 (fun _ h => h); clear HS ho0 ho1 hb; have HS := HS1; clear HS1) | (go_at_call 24; refine (spec_Pay.lok _ _ _ (mvL l0_0 a1_0 a1_1 a1_2) _ _ _ (l0_1.set a1_0.toNat (wrap64 (a1_3 + 1))) _ _ _ (mvL_len _ _ _ _) (List.length_set ..).symm (HS.reads (some ⟨b0, 0, none⟩)) (HS.cap (some ⟨b0, 0, none⟩)) (HS.reads (some ⟨b1, 0, none⟩)) (HS.cap (some ⟨b1, 0, none⟩)) hk2.out).mono ?_; rintro e w1 ⟨rfl, hb⟩; have HS1 := HS.later hb; clear HS hb; have HS := HS1; clear HS1))
    refine bodyPost_ret (results_ct rfl _ _ g4 27 #[.slice Aq0 l0_0.length cq0, .slice Aq1 l0_1.length cq1] (0, 0) _ rfl (HS.box g4) Try.underlying27 rfl (by kernel_rfl)) rfl ?_
    exact ⟨_, _, rfl, HS.out2 Aq0 Aq1 (by decide), HS.out2 Aq1 Aq0 (by decide), HS.below⟩
  · have hp := hR.out; unfold payF at hp; rw [if_neg c3, if_neg c4, if_neg c5] at hp; rw [if_pos rfl] at hp; simp only [Prod.mk.injEq] at hp; obtain ⟨rfl, rfl, rfl⟩ := hp
    clear c3 c4 c5 hR
    go_wp2_with (first | ((with_reducible refine gate_load rfl ?_); first | refine ev_loadC HS rfl rfl rfl (by rfl) ?_ | refine ev_loadS HS rfl rfl rfl (by rfl) ?_) | ((with_reducible refine gate_put rfl ?_); (first | refine ev_storeC HS rfl rfl rfl rfl rfl (by rfl) (by rfl) ?_ | refine ev_storeS HS rfl rfl rfl rfl rfl (by rfl) (by rfl) (by rfl) ?_); clear HS; intro w1 HS) | (go_at_call 24; refine (spec_Pay.lok _ _ _ (mvL l0_0 a1_0 a1_1 a1_2) _ _ _ (l0_1.set a1_0.toNat (wrap64 (a1_3 + 1))) _ _ _ (mvL_len _ _ _ _) (List.length_set ..).symm (HS.reads (some ⟨b0, 0, none⟩)) (HS.cap (some ⟨b0, 0, none⟩)) (HS.reads (some ⟨b1, 0, none⟩)) (HS.cap (some ⟨b1, 0, none⟩)) hk2.out).mono ?_; rintro e w1 ⟨rfl, hb⟩; have HS1 := HS.later hb; clear HS hb; have HS := HS1; clear HS1))
    refine bodyPost_ret (results_ct rfl _ _ g4 27 #[.slice (some ⟨b0, 0, none⟩) l0_0.length co0, .slice (some ⟨b1, 0, none⟩) l0_1.length co1] (0, 0) _ rfl (HS.box g4) Try.underlying27 rfl (by kernel_rfl)) rfl ?_
    exact ⟨_, _, rfl, HS.out2 (some ⟨b0, 0, none⟩) (some ⟨b1, 0, none⟩) (by decide), HS.out2 (some ⟨b1, 0, none⟩) (some ⟨b0, 0, none⟩) (by decide), HS.below⟩
/-- Pay: what it comes to (rounds of its own it has none). -/
def spec_Pay.f (k : Nat) (l0_0 l0_1 : List Int) (a1_0 a1_1 a1_2 a1_3 : Int) : Option (List Int × List Int × Int) := if l0_0.length ≤ 1048576 ∧ l0_1.length ≤ 1048576 then some (payL l0_0 l0_1 a1_0 a1_1 a1_2 a1_3) else none
theorem spec_Pay.mono : ∀ a0 a1 a2 a3 a4 a5 k, LeO (spec_Pay.f k a0 a1 a2 a3 a4 a5) (spec_Pay.f (k + 1) a0 a1 a2 a3 a4 a5) := fun _ _ _ _ _ _ _ => LeO.refl _
theorem spec_Pay.calls (k : Nat) (A0_0 : Option Addr) (c0_0 : Nat) (l0_0 : List Int) (A0_1 : Option Addr) (c0_1 : Nat) (l0_1 : List Int) (a1_0 a1_1 a1_2 a1_3 : Int) (r1 r2 : List Int) (r3 : Int) (w : World) (hr0_0 : Kd.C (Kd.int .i64) w A0_0 l0_0.length l0_0) (hc0_0 : l0_0.length ≤ c0_0) (hr0_1 : Kd.C (Kd.int .i64) w A0_1 l0_1.length l0_1) (hc0_1 : l0_1.length ≤ c0_1) (h : spec_Pay.f k l0_0 l0_1 a1_0 a1_1 a1_2 a1_3 = some (r1, r2, r3)) :
    Calls Try.prog 34 #[.agg #[.slice A0_0 l0_0.length c0_0, .slice A0_1 l0_1.length c0_1], .agg #[.int .i64 a1_0, .int .i64 a1_1, .int .i64 a1_2, .int .i64 a1_3]] w fun e w' => ∃ v0_ v1_ : Value, e = .returned (.tuple #[.agg #[v0_, v1_], .int .i64 (r3)]) ∧ Kd.R (Kd.int .i64) 3 w' w.heap.size (fun k_ => some k_ ≠ (v1_ : Value).ownBlock) v0_ (r1) ∧ Kd.R (Kd.int .i64) 3 w' w.heap.size (fun k_ => some k_ ≠ (v0_ : Value).ownBlock) v1_ (r2) ∧ Below w.heap.size w w' := by
  unfold spec_Pay.f at h
  by_cases hb : l0_0.length ≤ 1048576 ∧ l0_1.length ≤ 1048576
  · rw [if_pos hb] at h
    replace h := Option.some.inj h
    obtain ⟨hz0, hz1⟩ := hb
    have hcp := Aside0.mk (spec_l3Copy_val l0_0 l0_1 hz0 hz1)
    obtain ⟨k1, hk⟩ := (spec_LedgerOk_ev l0_0 l0_1).rounds
    have hx := spec_TxOk_val a1_0 a1_1 a1_2 a1_3
    by_cases c1 : ledgerIs l0_0 l0_1 ∧ txIs a1_0 a1_1 a1_2 a1_3
    · obtain ⟨c1, c2⟩ := c1
      rw [decide_eq_true c1] at hk
      rw [decide_eq_true c2] at hx
      have l1 : l0_0.length = 4 := c1.1.1
      have l2 : l0_1.length = 4 := c1.1.2
      have f0 : 0 ≤ a1_0 := c2.1.1
      have f3 : a1_0 ≤ 3 := c2.1.2
      have t0 : 0 ≤ a1_1 := c2.2.1.1
      have t3 : a1_1 ≤ 3 := c2.2.1.2
      obtain ⟨k2, hk2⟩ := (spec_LedgerOk_ev (mvL l0_0 a1_0 a1_1 a1_2) (l0_1.set a1_0.toNat (wrap64 (a1_3 + 1)))).rounds
      obtain ⟨ad0, rfl, hx0⟩ := Kd.at_int hr0_0 a1_0 f0 (by omega)
      obtain ⟨ad1, rfl, hx1⟩ := Kd.at_int hr0_1 a1_0 f0 (by omega)
      have e : payF (decide (ledgerIs (mvL l0_0 a1_0 a1_1 a1_2) (l0_1.set a1_0.toNat (wrap64 (a1_3 + 1))))) l0_0 l0_1 a1_0 a1_1 a1_2 a1_3 = (r1, r2, r3) := by
        rw [← h]
        unfold payL
        rw [if_neg (fun z => z ⟨c1, c2⟩)]
        unfold payF
        by_cases c6 : ledgerIs (mvL l0_0 a1_0 a1_1 a1_2) (l0_1.set a1_0.toNat (wrap64 (a1_3 + 1))) <;> simp only [c6, decide_true, decide_false, if_true, if_false, Bool.false_eq_true]
      exact spec_Pay.fine k1 k2 ad0 ad1 c0_0 l0_0 c0_1 l0_1 a1_0 a1_1 a1_2 a1_3 w ⟨hr0_0⟩ ⟨hc0_0⟩ ⟨hr0_1⟩ ⟨hc0_1⟩ hcp ⟨hk⟩ ⟨hx⟩ ⟨hx0⟩ ⟨hx1⟩ f0 (by omega) (by omega) t0 (by omega) (by rw [List.length_set]; omega) _ ⟨hk2⟩ r1 r2 r3 ⟨e⟩
    · have hp : payL l0_0 l0_1 a1_0 a1_1 a1_2 a1_3 = (l0_0, l0_1, 1) := by unfold payL; rw [if_pos c1]
      rw [hp] at h
      simp only [Prod.mk.injEq] at h
      obtain ⟨rfl, rfl, rfl⟩ := h
      exact spec_Pay.bad k1 A0_0 c0_0 l0_0 A0_1 c0_1 l0_1 a1_0 a1_1 a1_2 a1_3 _ _ w ⟨hr0_0⟩ ⟨hc0_0⟩ ⟨hr0_1⟩ ⟨hc0_1⟩ hcp ⟨hk⟩ ⟨hx⟩ (by rw [Bool.and_eq_false_iff, decide_eq_false_iff_not, decide_eq_false_iff_not]; exact Classical.or_iff_not_imp_left.2 (fun c3 c4 => c1 ⟨Classical.not_not.1 c3, c4⟩))
  · rw [if_neg hb] at h
    cases h

end Go.Proofs.Ytajblkfgdalldaa.PFnExactPoolTake
