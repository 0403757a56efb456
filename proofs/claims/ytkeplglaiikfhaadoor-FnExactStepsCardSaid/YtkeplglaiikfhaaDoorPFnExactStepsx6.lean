/- Walks of the functions that a law of seat YtkeplglaiikfhaaDoor reaches, each against a Lean function, printed by this session's wip/myprint.py; no condition of their own. -/
import Derived.Test.YtkeplglaiikfhaaDoorPFnExactStepsx0
import Derived.Test.YtkeplglaiikfhaaDoorPFnExactStepsx5
namespace Go.Proofs.YtkeplglaiikfhaaDoor.PFnExactSteps
open Go.RowKit Go.Proofs.YtkeplglaiikfhaaDoorW.PrintWords Go.Proofs.YtkeplglaiikfhaaDoorW.PrintLast Go.Proofs.YtkeplglaiikfhaaDoorW.PrintMore
attribute [local go_sem] max2_int min2_int max_two min_two max_three min_three max_four min_four   -- for this text's walks alone
set_option linter.unusedVariables false
set_option linter.unusedSimpArgs false

/-! ### laws_eqTxS: function 27 -/
def laws_eqTxS.l0 : Nat → List (S45) → List (S45) → Int → Option (Bool)
  | 0, _, _, _ => none
  | k + 1, x0, x1, x5 => if x5 < (x0.length : Int) then (if 0 ≤ x5 then (if x5 < (x1.length : Int) then ((laws_eqTx.f ((rd_T45 x0 x5).f0) ((rd_T45 x0 x5).f1) ((rd_T45 x0 x5).f2) ((rd_T45 x0 x5).f3) ((rd_T45 x1 x5).f0) ((rd_T45 x1 x5).f1) ((rd_T45 x1 x5).f2) ((rd_T45 x1 x5).f3)).bind fun t248 => (if t248 = true then (laws_eqTxS.l0 k x0 x1 (wrap64 (x5 + 1))) else (some false))) else (none)) else (none)) else (some true)
def laws_eqTxS.f (k : Nat) (l0 : List (S45)) (l1 : List (S45)) : Option (Bool) := if (l0.length : Int) = (l1.length : Int) then (laws_eqTxS.l0 k l0 l1 0) else (some false)
theorem laws_eqTxS.mono_l : ∀ k, (∀ y0 y1 y2, LeO (laws_eqTxS.l0 k y0 y1 y2) (laws_eqTxS.l0 (k + 1) y0 y1 y2))
  | 0 => fun _ _ _ r h => by simp [laws_eqTxS.l0] at h
  | k + 1 => by
    have ih0 := laws_eqTxS.mono_l k
    · intro y0 y1 y2
      unfold laws_eqTxS.l0
      repeat' first
      | (with_reducible exact ih0 _ _ _)
      | (with_reducible exact LeO.refl _)
      | (with_reducible exact LeO.none _)
      | (with_reducible refine LeO.ite ?_ ?_)
      | (with_reducible refine LeO.bind ?_ (fun _ => ?_))
      | exact ih0 _ _ _
      | exact LeO.none _
      | refine LeO.ite ?_ ?_
      | refine LeO.bind ?_ (fun _ => ?_)
theorem laws_eqTxS.mono : ∀ a0 a1 k, LeO (laws_eqTxS.f k a0 a1) (laws_eqTxS.f (k + 1) a0 a1) := by
  intro a0 a1 k
  have ih0 := laws_eqTxS.mono_l k
  unfold laws_eqTxS.f
  repeat' first
      | (with_reducible exact ih0 _ _ _)
      | (with_reducible exact LeO.refl _)
      | (with_reducible exact LeO.none _)
      | (with_reducible refine LeO.ite ?_ ?_)
      | (with_reducible refine LeO.bind ?_ (fun _ => ?_))
      | exact ih0 _ _ _
      | exact LeO.none _
      | refine LeO.ite ?_ ?_
      | refine LeO.bind ?_ (fun _ => ?_)
def laws_eqTxS.T6 : Bool × List (List Nat × List Nat) := (true, [([], []), ([], []), ([0, 1], [0, 1]), ([2], [2]), ([], []), ([], []), ([4, 5], [4, 5]), ([6], [6]), ([3, 7], [3, 7]), ([8], [8])])
def laws_eqTxS.B6 : List Nat := [0, 0, 3, 7, 0, 0, 48, 112, 255, 511]
theorem laws_eqTxS.tab6 : rtab .any (opsOf Tryd.f27 6) = laws_eqTxS.T6 := by kernel_rfl
theorem laws_eqTxS.bits6 : waitsOk laws_eqTxS.T6.2 laws_eqTxS.B6 = true := by kernel_rfl
set_option maxHeartbeats 8000000 in
set_option maxRecDepth 100000 in
theorem laws_eqTxS.calls (k : Nat) (A0 : Option Addr) (c0 : Nat) (l0 : List (S45)) (A1 : Option Addr) (c1 : Nat) (l1 : List (S45)) (r : Bool) (w : World) (hr0 : Kd.C k45 w A0 l0.length l0) (hc0 : l0.length ≤ c0) (hr1 : Kd.C k45 w A1 l1.length l1) (hc1 : l1.length ≤ c1) (h : laws_eqTxS.f k l0 l1 = some r) :
    Calls Tryd.prog 27 #[.slice A0 l0.length c0, .slice A1 l1.length c1] w fun e w' => e = .returned (.bool r) ∧ Below w.heap.size w w' := by
  have hu45 := Tryd.underlying45
  have HR0 := Aside0.mk hr0
  have HC0 := Aside0.mk hc0
  clear hr0 hc0
  have HR1 := Aside0.mk hr1
  have HC1 := Aside0.mk hc1
  clear hr1 hc1
  have HB := Aside0.mk (Below.refl w.heap.size w)
  have H : (if (l0.length : Int) = (l1.length : Int) then (laws_eqTxS.l0 k l0 l1 0) else (some false)) = some r := h
  clear h
  have HF := Aside0.mk H
  clear H
  go_enter Tryd.func27, Tryd.ntmps27
  go_upto_if 10 with (fail)
  have H := HF.out
  clear HF
  by_cases c3 : (l0.length : Int) = (l1.length : Int)
  · rw [if_pos c3] at H
    have c3b0 : ((l0.length : Int) == (l1.length : Int)) = true := beq_iff_eq.mpr c3
    have c3b1 : ((l0.length : Int) != (l1.length : Int)) = false := bne_eq_false_iff_eq.mpr c3
    have c3b2 : (l0.length == l1.length) = true := by first | simpa using c3 | (simp at c3 ⊢; omega)
    clear c3
    (first | rw [c3b0] | (simp only [i64_w, i32_w]; rw [c3b0]) | skip)
    have H' := Aside0.mk H
    clear H
    go_wp2
    go_loopg [5] k (fun kq v5 w' => ∃ (x5_1 : Int), v5 = .int .i64 x5_1 ∧ Aside0 (laws_eqTxS.l0 kq l0 l1 x5_1 = some r) ∧ Aside0 (kq ≤ k) ∧ Aside0 (Below w.heap.size w w'))
    case atStart => exact ⟨(0), (by first | rfl | (simp; done) | (simp [*]; done)), H', ⟨Nat.le_refl _⟩, ⟨by repeat (first | (with_reducible first | exact HB.out | apply below_alloc | apply pw_below_drewN | apply below_drew1) | exact HB.out)⟩⟩
    case round =>
      clear H'
      try clear c1
      try clear c2
      try clear p2
      try clear c3
      try clear c3b0
      try clear c3b1
      try clear c3b2
      obtain ⟨x5_1, rfl, HA, HK1, HB⟩ := hrel
      cases gk with
      | zero => exact absurd HA.out (by simp [laws_eqTxS.l0])
      | succ k1 =>
        have H := HA.out
        clear HA
        simp only [laws_eqTxS.l0] at H
        have HF := Aside0.mk H
        clear H
        go_upto_if 14 with (fail)
        have H := HF.out
        clear HF
        by_cases c4 : x5_1 < (l0.length : Int)
        · rw [if_pos c4] at H
          have c4b0 : decide (x5_1 < (l0.length : Int)) = true := decide_eq_true c4
          clear c4
          (first | rw [c4b0] | (simp only [i64_w, i32_w]; rw [c4b0]) | skip)
          by_cases c5 : 0 ≤ x5_1
          · rw [if_pos c5] at H
            have c5b0 : decide (0 ≤ x5_1) = true := decide_eq_true c5
            clear c5
            by_cases c6 : x5_1 < (l1.length : Int)
            · rw [if_pos c6] at H
              have c6b0 : decide (x5_1 < (l1.length : Int)) = true := decide_eq_true c6
              clear c6
              replace H := Option.bind_eq_some_iff.mp H
              obtain ⟨t248, A70, H⟩ := H
              replace H : (if t248 = true then (laws_eqTxS.l0 k1 l0 l1 (wrap64 (x5_1 + 1))) else (some false)) = some r := H
              have A7 := Aside0.mk A70
              clear A70
              have HF := Aside0.mk H
              clear H
              try go_wp2
              have n0_ := Aside0.mk (below_drew1 HB.out)
              clear HB
              have HB := n0_
              clear n0_
              have p246 : 0 ≤ (x5_1 : Int) := of_decide_eq_true (by first | (with_reducible assumption) | assumption)
              have q246 : x5_1 < (l0.length : Int) := of_decide_eq_true (by first | (with_reducible assumption) | assumption)
              obtain ⟨ad246, e246, hx246_0, hx246_1, hx246_2, hx246_3⟩ := at_T45 HR0.out x5_1 p246 q246
              have hw246_3 := hx246_3
              have hw246_2 := hx246_2
              have hw246_1 := hx246_1
              have hw246_0 := hx246_0
              cases e246
              replace hx246_0 := (HB.out.cell (World.block_lt_of_cell? w _ hx246_0)).trans hx246_0
              replace hx246_1 := (HB.out.cell (World.block_lt_of_cell? w _ hx246_1)).trans hx246_1
              replace hx246_2 := (HB.out.cell (World.block_lt_of_cell? w _ hx246_2)).trans hx246_2
              replace hx246_3 := (HB.out.cell (World.block_lt_of_cell? w _ hx246_3)).trans hx246_3
              replace p246 := eq_true p246
              replace q246 := eq_true q246
              have p247 : 0 ≤ (x5_1 : Int) := of_decide_eq_true (by first | (with_reducible assumption) | assumption)
              have q247 : x5_1 < (l1.length : Int) := of_decide_eq_true (by first | (with_reducible assumption) | assumption)
              obtain ⟨ad247, e247, hx247_0, hx247_1, hx247_2, hx247_3⟩ := at_T45 HR1.out x5_1 p247 q247
              have hw247_3 := hx247_3
              have hw247_2 := hx247_2
              have hw247_1 := hx247_1
              have hw247_0 := hx247_0
              cases e247
              replace hx247_0 := (HB.out.cell (World.block_lt_of_cell? w _ hx247_0)).trans hx247_0
              replace hx247_1 := (HB.out.cell (World.block_lt_of_cell? w _ hx247_1)).trans hx247_1
              replace hx247_2 := (HB.out.cell (World.block_lt_of_cell? w _ hx247_2)).trans hx247_2
              replace hx247_3 := (HB.out.cell (World.block_lt_of_cell? w _ hx247_3)).trans hx247_3
              replace p247 := eq_true p247
              replace q247 := eq_true q247
              refine start_ (n := 10) (S := fun w' => w'.cell? (ad246.add ((x5_1).toNat * 4)) = some (.int .i64 ((rd_T45 l0 x5_1).f0)) ∧ w'.cell? ⟨(ad246.add ((x5_1).toNat * 4)).block, (ad246.add ((x5_1).toNat * 4)).off + 1, none⟩ = some (.int .i64 ((rd_T45 l0 x5_1).f1)) ∧ w'.cell? ⟨(ad246.add ((x5_1).toNat * 4)).block, (ad246.add ((x5_1).toNat * 4)).off + 2, none⟩ = some (.int .i64 ((rd_T45 l0 x5_1).f2)) ∧ w'.cell? ⟨(ad246.add ((x5_1).toNat * 4)).block, (ad246.add ((x5_1).toNat * 4)).off + 3, none⟩ = some (.int .i64 ((rd_T45 l0 x5_1).f3)) ∧ w'.cell? (ad247.add ((x5_1).toNat * 4)) = some (.int .i64 ((rd_T45 l1 x5_1).f0)) ∧ w'.cell? ⟨(ad247.add ((x5_1).toNat * 4)).block, (ad247.add ((x5_1).toNat * 4)).off + 1, none⟩ = some (.int .i64 ((rd_T45 l1 x5_1).f1)) ∧ w'.cell? ⟨(ad247.add ((x5_1).toNat * 4)).block, (ad247.add ((x5_1).toNat * 4)).off + 2, none⟩ = some (.int .i64 ((rd_T45 l1 x5_1).f2)) ∧ w'.cell? ⟨(ad247.add ((x5_1).toNat * 4)).block, (ad247.add ((x5_1).toNat * 4)).off + 3, none⟩ = some (.int .i64 ((rd_T45 l1 x5_1).f3))) (ds := []) #[false, false, false, false, false, false, false, false, false, false] (by kernel_rfl) rfl rfl ⟨((HB.out.cell (World.block_lt_of_cell? w _ hw246_0)).trans hw246_0), ((HB.out.cell (World.block_lt_of_cell? w _ hw246_1)).trans hw246_1), ((HB.out.cell (World.block_lt_of_cell? w _ hw246_2)).trans hw246_2), ((HB.out.cell (World.block_lt_of_cell? w _ hw246_3)).trans hw246_3), ((HB.out.cell (World.block_lt_of_cell? w _ hw247_0)).trans hw247_0), ((HB.out.cell (World.block_lt_of_cell? w _ hw247_1)).trans hw247_1), ((HB.out.cell (World.block_lt_of_cell? w _ hw247_2)).trans hw247_2), ((HB.out.cell (World.block_lt_of_cell? w _ hw247_3)).trans hw247_3)⟩ (fun hHeld => ?_); refine with_tabW laws_eqTxS.tab6 laws_eqTxS.bits6 (fun HT_ HW_ => ?_)
              generalize wr.drew = w8 at HB hx246_0 hx246_1 hx246_2 hx246_3 hx247_0 hx247_1 hx247_2 hx247_3 hHeld ⊢
              refine pure_ (i := 0) (N := some 17) (v := ?_) (a' := ?_) #[true, false, false, false, false, false, false, false, false, false] rfl rfl (any_of HT_.out (by kernel_rfl)) (fun _ _ _ h => h) (Or.inl ⟨by rfl, ?_⟩) ?_ ?_
              rotate_left
              · intro w'
                go_simp
                with_reducible rfl
              rotate_left
              · simp only [Act.put, List.setIfInBounds_toArray, List.set_cons_zero, List.set_cons_succ, i64_w, i32_w]
                rfl
              refine pure_ (i := 1) (N := some 18) (v := ?_) (a' := ?_) #[true, true, false, false, false, false, false, false, false, false] rfl rfl (any_of HT_.out (by kernel_rfl)) (fun _ _ _ h => h) (Or.inl ⟨by rfl, ?_⟩) ?_ ?_
              rotate_left
              · intro w'
                go_simp
                with_reducible rfl
              rotate_left
              · simp only [Act.put, List.setIfInBounds_toArray, List.set_cons_zero, List.set_cons_succ, i64_w, i32_w]
                rfl
              refine pure_ (i := 2) (N := some 19) (v := ?_) (a' := ?_) #[true, true, true, false, false, false, false, false, false, false] rfl rfl (any_of HT_.out (by kernel_rfl)) (fun _ _ _ h => h) (Or.inl ⟨by rfl, ?_⟩) ?_ ?_
              rotate_left
              · intro w'
                go_simp
                with_reducible rfl
              rotate_left
              · simp only [Act.put, List.setIfInBounds_toArray, List.set_cons_zero, List.set_cons_succ, i64_w, i32_w]
                rfl
              refine pure_ (i := 4) (N := some 21) (v := ?_) (a' := ?_) #[true, true, true, false, true, false, false, false, false, false] rfl rfl (any_of HT_.out (by kernel_rfl)) (fun _ _ _ h => h) (Or.inl ⟨by rfl, ?_⟩) ?_ ?_
              rotate_left
              · intro w'
                go_simp
                with_reducible rfl
              rotate_left
              · simp only [Act.put, List.setIfInBounds_toArray, List.set_cons_zero, List.set_cons_succ, i64_w, i32_w]
                rfl
              refine pure_ (i := 5) (N := some 22) (v := ?_) (a' := ?_) #[true, true, true, false, true, true, false, false, false, false] rfl rfl (any_of HT_.out (by kernel_rfl)) (fun _ _ _ h => h) (Or.inl ⟨by rfl, ?_⟩) ?_ ?_
              rotate_left
              · intro w'
                go_simp
                with_reducible rfl
              rotate_left
              · simp only [Act.put, List.setIfInBounds_toArray, List.set_cons_zero, List.set_cons_succ, i64_w, i32_w]
                rfl
              refine pure_ (i := 6) (N := some 23) (v := ?_) (a' := ?_) #[true, true, true, false, true, true, true, false, false, false] rfl rfl (any_of HT_.out (by kernel_rfl)) (fun _ _ _ h => h) (Or.inl ⟨by rfl, ?_⟩) ?_ ?_
              rotate_left
              · intro w'
                go_simp
                with_reducible rfl
              rotate_left
              · simp only [Act.put, List.setIfInBounds_toArray, List.set_cons_zero, List.set_cons_succ, i64_w, i32_w]
                rfl
              refine take_ (i := 3) (N := some 20) (v := ?_) (a' := ?_) #[true, true, true, true, true, true, true, false, false, false] rfl rfl (take_ofW HT_.out HW_.out (by kernel_rfl)) (fun _ _ _ h => h) (Or.inl ⟨by rfl, ?_⟩) hHeld ?_ ?_
              rotate_left
              · rintro w' ⟨s0, s1, s2, s3, s4, s5, s6, s7⟩
                go_simp
                with_reducible rfl
              rotate_left
              · simp only [Act.put, List.setIfInBounds_toArray, List.set_cons_zero, List.set_cons_succ, i64_w, i32_w]
                rfl
              refine take_ (i := 7) (N := some 24) (v := ?_) (a' := ?_) #[true, true, true, true, true, true, true, true, false, false] rfl rfl (take_ofW HT_.out HW_.out (by kernel_rfl)) (fun _ _ _ h => h) (Or.inl ⟨by rfl, ?_⟩) hHeld ?_ ?_
              rotate_left
              · rintro w' ⟨s0, s1, s2, s3, s4, s5, s6, s7⟩
                go_simp
                with_reducible rfl
              rotate_left
              · simp only [Act.put, List.setIfInBounds_toArray, List.set_cons_zero, List.set_cons_succ, i64_w, i32_w]
                rfl
              refine one_ (i := 8) (N := some 25) #[true, true, true, true, true, true, true, true, true, false] rfl rfl (one_of HT_.out (by kernel_rfl)) (by decide) (fun K hK => ?_)
              refine goes_ Tryd.func34 (by kernel_rfl) rfl #[.agg #[.int .i64 ((rd_T45 l0 x5_1).f0), .int .i64 ((rd_T45 l0 x5_1).f1), .int .i64 ((rd_T45 l0 x5_1).f2), .int .i64 ((rd_T45 l0 x5_1).f3)], .agg #[.int .i64 ((rd_T45 l1 x5_1).f0), .int .i64 ((rd_T45 l1 x5_1).f1), .int .i64 ((rd_T45 l1 x5_1).f2), .int .i64 ((rd_T45 l1 x5_1).f3)]] (by rfl) rfl rfl (by (try simp only [List.map_toArray, List.map_cons, List.map_nil]); first | done | rfl | (simp only [List.length_drop, List.length_take]; rfl)) ?_
              with_reducible refine (laws_eqTx.calls ((rd_T45 l0 x5_1).f0) ((rd_T45 l0 x5_1).f1) ((rd_T45 l0 x5_1).f2) ((rd_T45 l0 x5_1).f3) ((rd_T45 l1 x5_1).f0) ((rd_T45 l1 x5_1).f1) ((rd_T45 l1 x5_1).f2) ((rd_T45 l1 x5_1).f3) t248 _ A7.out).mono ?_
              rintro e w9 ⟨rfl, hb⟩
              refine ⟨_, rfl, ?_⟩
              have n0_ := Aside0.mk (below_step (by repeat (first | (with_reducible first | exact HB.out | apply below_alloc | apply pw_below_drewN | apply below_drew1) | exact HB.out)) hb)
              clear HB
              have HB := n0_
              clear n0_
              (try clear hb)
              (try clear hb2)
              (try clear hk)
              (try clear hi)
              refine hK.out _ _ ⟨((HB.out.cell (World.block_lt_of_cell? w _ hw246_0)).trans hw246_0), ((HB.out.cell (World.block_lt_of_cell? w _ hw246_1)).trans hw246_1), ((HB.out.cell (World.block_lt_of_cell? w _ hw246_2)).trans hw246_2), ((HB.out.cell (World.block_lt_of_cell? w _ hw246_3)).trans hw246_3), ((HB.out.cell (World.block_lt_of_cell? w _ hw247_0)).trans hw247_0), ((HB.out.cell (World.block_lt_of_cell? w _ hw247_1)).trans hw247_1), ((HB.out.cell (World.block_lt_of_cell? w _ hw247_2)).trans hw247_2), ((HB.out.cell (World.block_lt_of_cell? w _ hw247_3)).trans hw247_3)⟩ (fun hHeld => ?_)
              clear hK K
              refine norm_ (a' := ?_) ?_ ?_
              rotate_left
              · show Act.put _ (some 25) _ = _
                simp only [Act.put, List.setIfInBounds_toArray, List.set_cons_zero, List.set_cons_succ, i64_w, i32_w]
                rfl
              refine pure_ (i := 9) (N := some 26) (v := ?_) (a' := ?_) #[true, true, true, true, true, true, true, true, true, true] rfl rfl (any_of HT_.out (by kernel_rfl)) (fun _ _ _ h => h) (Or.inl ⟨by rfl, ?_⟩) ?_ ?_
              rotate_left
              · intro w'
                go_simp
                with_reducible rfl
              rotate_left
              · simp only [Act.put, List.setIfInBounds_toArray, List.set_cons_zero, List.set_cons_succ, i64_w, i32_w]
                rfl
              refine done_ (done_of HT_.out (by kernel_rfl)) ?_
              go_upto_if 26 with (fail)
              have H := HF.out
              clear HF
              by_cases c10 : t248 = true
              · subst c10
                have H1 : (laws_eqTxS.l0 k1 l0 l1 (wrap64 (x5_1 + 1))) = some r := by rw [if_pos rfl] at H; exact H
                clear H
                have H := H1
                clear H1
                have H' := Aside0.mk H
                clear H
                go_wp2
                go_roundg k1
                case measure => have := HK1.out; omega
                case rel => exact ⟨(wrap64 (x5_1 + 1)), (by first | rfl | (simp; done) | (simp [*]; done)), H', ⟨by have := HK1.out; omega⟩, ⟨by repeat (first | (with_reducible first | exact HB.out | apply below_alloc | apply pw_below_drewN | apply below_drew1) | exact HB.out)⟩⟩
              · replace c10 := Bool.eq_false_iff.mpr c10
                subst c10
                have H1 : (some false) = some r := by rw [if_neg (show ¬ (false = true) by decide)] at H; exact H
                clear H
                have H := H1
                clear H1
                obtain rfl := Option.some.inj H
                go_wp2
                go_ret
                exact ⟨by first | rfl | (simp [errW_none, errW_some] <;> rfl) | (simp [*, errW_none, errW_some] <;> rfl), by repeat (first | (with_reducible first | exact HB.out | apply below_alloc | apply pw_below_drewN | apply below_drew1) | exact HB.out)⟩
            · rw [if_neg c6] at H
              exact absurd H (by simp)
          · rw [if_neg c5] at H
            exact absurd H (by simp)
        · rw [if_neg c4] at H
          have c4b0 : decide (x5_1 < (l0.length : Int)) = false := decide_eq_false c4
          clear c4
          (first | rw [c4b0] | (simp only [i64_w, i32_w]; rw [c4b0]) | skip)
          obtain rfl := Option.some.inj H
          go_wp2
          go_ret
          exact ⟨by first | rfl | (simp [errW_none, errW_some] <;> rfl) | (simp [*, errW_none, errW_some] <;> rfl), by repeat (first | (with_reducible first | exact HB.out | apply below_alloc | apply pw_below_drewN | apply below_drew1) | exact HB.out)⟩
  · rw [if_neg c3] at H
    have c3b0 : ((l0.length : Int) == (l1.length : Int)) = false := beq_eq_false_iff_ne.mpr c3
    have c3b1 : ((l0.length : Int) != (l1.length : Int)) = true := bne_iff_ne.mpr c3
    have c3b2 : (l0.length == l1.length) = false := by first | simpa using c3 | (simp at c3 ⊢; omega)
    (first | rw [c3b0] | (simp only [i64_w, i32_w]; rw [c3b0]) | skip)
    obtain rfl := Option.some.inj H
    go_wp2
    go_ret
    exact ⟨by first | rfl | (simp [errW_none, errW_some] <;> rfl) | (simp [*, errW_none, errW_some] <;> rfl), by repeat (first | (with_reducible first | exact HB.out | apply below_alloc | apply pw_below_drewN | apply below_drew1) | exact HB.out)⟩

/-! ### laws_eqStep: function 18 -/
def laws_eqStep.f (k : Nat) (a0_0 : Int) (l0_1 : List (S45)) (a1_0 : Int) (l1_1 : List (S45)) : Option (Bool) := if a0_0 = a1_0 then ((laws_eqTxS.f k l0_1 l1_1).bind fun t251 => (if t251 = true then (some true) else (some false))) else (some false)
theorem laws_eqStep.mono : ∀ a0 a1 a2 a3 k, LeO (laws_eqStep.f k a0 a1 a2 a3) (laws_eqStep.f (k + 1) a0 a1 a2 a3) := by
  intro a0 a1 a2 a3 k
  unfold laws_eqStep.f
  repeat' first
      | (with_reducible exact laws_eqTxS.mono _ _ _)
      | (with_reducible exact LeO.refl _)
      | (with_reducible exact LeO.none _)
      | (with_reducible refine LeO.ite ?_ ?_)
      | (with_reducible refine LeO.bind ?_ (fun _ => ?_))
      | exact laws_eqTxS.mono _ _ _
      | exact LeO.none _
      | refine LeO.ite ?_ ?_
      | refine LeO.bind ?_ (fun _ => ?_)
set_option maxHeartbeats 8000000 in
set_option maxRecDepth 100000 in
theorem laws_eqStep.calls (k : Nat) (a0_0 : Int) (A0_1 : Option Addr) (c0_1 : Nat) (l0_1 : List (S45)) (a1_0 : Int) (A1_1 : Option Addr) (c1_1 : Nat) (l1_1 : List (S45)) (r : Bool) (w : World) (hr0_1 : Kd.C k45 w A0_1 l0_1.length l0_1) (hc0_1 : l0_1.length ≤ c0_1) (hr1_1 : Kd.C k45 w A1_1 l1_1.length l1_1) (hc1_1 : l1_1.length ≤ c1_1) (h : laws_eqStep.f k a0_0 l0_1 a1_0 l1_1 = some r) :
    Calls Tryd.prog 18 #[.agg #[.int .i64 a0_0, .slice A0_1 l0_1.length c0_1], .agg #[.int .i64 a1_0, .slice A1_1 l1_1.length c1_1]] w fun e w' => e = .returned (.bool r) ∧ Below w.heap.size w w' := by
  have hu38 := Tryd.underlying38
  have HR0_1 := Aside0.mk hr0_1
  have HC0_1 := Aside0.mk hc0_1
  clear hr0_1 hc0_1
  have HR1_1 := Aside0.mk hr1_1
  have HC1_1 := Aside0.mk hc1_1
  clear hr1_1 hc1_1
  have HB := Aside0.mk (Below.refl w.heap.size w)
  have H : (if a0_0 = a1_0 then ((laws_eqTxS.f k l0_1 l1_1).bind fun t251 => (if t251 = true then (some true) else (some false))) else (some false)) = some r := h
  clear h
  have HF := Aside0.mk H
  clear H
  go_enter Tryd.func18, Tryd.ntmps18
  go_upto_if 9 with (go_big_may; first | ((with_reducible refine gate_dst (N := 2) rfl ?_); refine box_event ?hg (N := 2) ?hd (cs := #[.int .i64 a0_0, .slice A0_1 l0_1.length c0_1]) (t := 38) ?hr ?_; (case hd => rfl); (case hg => rfl); (case hr => first | (go_simp; done) | (go_simp; rfl)); intro gb249 hg w3 hbox hb; have n0_ := Aside0.mk (below_step (by repeat (first | (with_reducible first | exact HB.out | apply below_alloc | apply pw_below_drewN | apply below_drew1) | exact HB.out)) hb); have n1_ := Aside0.mk (hbox); have n2_ := Aside0.mk ((by rw [hg]; exact (below_size (by repeat (first | (with_reducible first | exact HB.out | apply below_alloc | apply pw_below_drewN | apply below_drew1) | exact HB.out))) : w.heap.size ≤ gb249)); have n3_ := Aside0.mk ((by rw [hg]; exact (below_size (by repeat (first | (with_reducible first | exact HB.out | apply below_alloc | apply pw_below_drewN | apply below_drew1) | exact HB.out))) : w.heap.size ≤ gb249)); clear HB; have HB := n0_; have BK249 := n1_; have GW249 := n2_; have GE249 := n3_; clear n0_ n1_ n2_ n3_; clear hb hbox hg) | ((with_reducible refine gate_dst (N := 3) rfl ?_); refine box_event ?hg (N := 3) ?hd (cs := #[.int .i64 a1_0, .slice A1_1 l1_1.length c1_1]) (t := 38) ?hr ?_; (case hd => rfl); (case hg => rfl); (case hr => first | (go_simp; done) | (go_simp; rfl)); intro gb250 hg w4 hbox hb; have n0_ := Aside0.mk (blk_below (g := gb249) (o := .cells #[.int .i64 a0_0, .slice A0_1 l0_1.length c0_1] 38 (0, 0)) (by (with_reducible repeat (first | refine blk_drewN ?_ _ | refine blk_drew ?_ | refine blk_alloc ?_ _)); exact BK249.out) hb); have n1_ := Aside0.mk (below_step (by repeat (first | (with_reducible first | exact HB.out | apply below_alloc | apply pw_below_drewN | apply below_drew1 | refine below_set ?_ GE249.out) | exact HB.out)) hb); have n2_ := Aside0.mk (hbox); have n3_ := Aside0.mk ((by rw [hg]; exact (below_size (by repeat (first | (with_reducible first | exact HB.out | apply below_alloc | apply pw_below_drewN | apply below_drew1 | refine below_set ?_ GE249.out) | exact HB.out))) : w.heap.size ≤ gb250)); have n4_ := Aside0.mk ((by rw [hg]; exact (below_size (by repeat (first | (with_reducible first | exact HB.out | apply below_alloc | apply pw_below_drewN | apply below_drew1 | refine below_set ?_ GE249.out) | exact HB.out))) : w.heap.size ≤ gb250)); have n5_ := Aside0.mk ((by rw [hg]; exact Nat.ne_of_lt (blk_lt (g := gb249) (o := .cells #[.int .i64 a0_0, .slice A0_1 l0_1.length c0_1] 38 (0, 0)) (by (with_reducible repeat (first | refine blk_drewN ?_ _ | refine blk_drew ?_ | refine blk_alloc ?_ _)); exact BK249.out)) : gb249 ≠ gb250)); have n6_ := Aside0.mk ((by rw [hg]; exact Nat.ne_of_gt (blk_lt (g := gb249) (o := .cells #[.int .i64 a0_0, .slice A0_1 l0_1.length c0_1] 38 (0, 0)) (by (with_reducible repeat (first | refine blk_drewN ?_ _ | refine blk_drew ?_ | refine blk_alloc ?_ _)); exact BK249.out)) : gb250 ≠ gb249)); clear BK249; clear HB; have BK249 := n0_; have HB := n1_; have BK250 := n2_; have GW250 := n3_; have GE250 := n4_; have NB249_250 := n5_; have NB250_249 := n6_; clear n0_ n1_ n2_ n3_ n4_ n5_ n6_; clear hb hbox hg; have hnb5 := NB249_250.out; have hnc5 := NB250_249.out; have hcz6_0 : w4.cell? ⟨gb249, 0, none⟩ = some (.int .i64 a0_0) := (blk_cell BK249.out 0).trans rfl; have hcz6_1 : w4.cell? ⟨gb249, 1, none⟩ = some (.slice A0_1 l0_1.length c0_1) := (blk_cell BK249.out 1).trans rfl; have hfz6_0 := blk_frozen BK249.out 0; have hfz6_1 := blk_frozen BK249.out 1; have hcz7_0 : w4.cell? ⟨gb250, 0, none⟩ = some (.int .i64 a1_0) := (blk_cell BK250.out 0).trans rfl; have hcz7_1 : w4.cell? ⟨gb250, 1, none⟩ = some (.slice A1_1 l1_1.length c1_1) := (blk_cell BK250.out 1).trans rfl; have hfz7_0 := blk_frozen BK250.out 0; have hfz7_1 := blk_frozen BK250.out 1))
  have H := HF.out
  clear HF
  by_cases c8 : a0_0 = a1_0
  · rw [if_pos c8] at H
    have c8b0 : (a0_0 == a1_0) = true := beq_iff_eq.mpr c8
    have c8b1 : (a0_0 != a1_0) = false := bne_eq_false_iff_eq.mpr c8
    clear c8
    (first | rw [c8b0] | (simp only [i64_w, i32_w]; rw [c8b0]) | skip)
    replace H := Option.bind_eq_some_iff.mp H
    obtain ⟨t251, A90, H⟩ := H
    replace H : (if t251 = true then (some true) else (some false)) = some r := H
    have A9 := Aside0.mk A90
    clear A90
    have HF := Aside0.mk H
    clear H
    have hnb10 := NB249_250.out
    have hnc10 := NB250_249.out
    have hcz11_0 : w4.cell? ⟨gb249, 0, none⟩ = some (.int .i64 a0_0) := (blk_cell BK249.out 0).trans rfl
    have hcz11_1 : w4.cell? ⟨gb249, 1, none⟩ = some (.slice A0_1 l0_1.length c0_1) := (blk_cell BK249.out 1).trans rfl
    have hfz11_0 := blk_frozen BK249.out 0
    have hfz11_1 := blk_frozen BK249.out 1
    have hcz12_0 : w4.cell? ⟨gb250, 0, none⟩ = some (.int .i64 a1_0) := (blk_cell BK250.out 0).trans rfl
    have hcz12_1 : w4.cell? ⟨gb250, 1, none⟩ = some (.slice A1_1 l1_1.length c1_1) := (blk_cell BK250.out 1).trans rfl
    have hfz12_0 := blk_frozen BK250.out 0
    have hfz12_1 := blk_frozen BK250.out 1
    go_upto_if 15 with (go_big_may; first | ((with_reducible refine gate_callee (f := 27) rfl ?_); refine goesL_ (some 14) rfl rfl Tryd.func27 (by kernel_rfl) rfl #[.slice A0_1 l0_1.length c0_1, .slice A1_1 l1_1.length c1_1] rfl (by (try simp only [List.map_toArray, List.map_cons, List.map_nil]); first | done | rfl | (simp only [List.length_drop, List.length_take]; rfl)) ?_; (with_reducible refine (laws_eqTxS.calls k _ _ l0_1 _ _ l1_1 t251 _ ?side1 ?side2 ?side3 ?side4 A9.out).mono ?_); (case side1 => repeat (first | exact (Kd.C_below HR0_1.out HB.out) | (with_reducible refine Kd.C_alloc ?_ _) | (with_reducible refine Kd.C_drewN ?_ _) | (with_reducible refine Kd.C_drew ?_))); (case side2 => exact HC0_1.out); (case side3 => repeat (first | exact (Kd.C_below HR1_1.out HB.out) | (with_reducible refine Kd.C_alloc ?_ _) | (with_reducible refine Kd.C_drewN ?_ _) | (with_reducible refine Kd.C_drew ?_))); (case side4 => exact HC1_1.out); rintro e w13 ⟨rfl, hb⟩; refine ⟨_, rfl, ?_⟩; have n0_ := Aside0.mk (blk_below (g := gb249) (o := .cells #[.int .i64 a0_0, .slice A0_1 l0_1.length c0_1] 38 (0, 0)) (by (with_reducible repeat (first | refine blk_drewN ?_ _ | refine blk_drew ?_ | refine blk_alloc ?_ _)); exact BK249.out) hb); have n1_ := Aside0.mk (blk_below (g := gb250) (o := .cells #[.int .i64 a1_0, .slice A1_1 l1_1.length c1_1] 38 (0, 0)) (by (with_reducible repeat (first | refine blk_drewN ?_ _ | refine blk_drew ?_ | refine blk_alloc ?_ _)); exact BK250.out) hb); have n2_ := Aside0.mk (below_step (by repeat (first | (with_reducible first | exact HB.out | apply below_alloc | apply pw_below_drewN | apply below_drew1 | refine below_set ?_ GE249.out | refine below_set ?_ GE250.out) | exact HB.out)) hb); clear BK249; clear BK250; clear HB; have BK249 := n0_; have BK250 := n1_; have HB := n2_; clear n0_ n1_ n2_; (try clear hb); (try clear hb2); (try clear hk); (try clear hi)))
    have H := HF.out
    clear HF
    by_cases c14 : t251 = true
    · subst c14
      have H1 : (some true) = some r := by rw [if_pos rfl] at H; exact H
      clear H
      have H := H1
      clear H1
      obtain rfl := Option.some.inj H
      go_wp2
      go_ret
      exact ⟨by first | rfl | (simp [errW_none, errW_some] <;> rfl) | (simp [*, errW_none, errW_some] <;> rfl), by repeat (first | (with_reducible first | exact HB.out | apply below_alloc | apply pw_below_drewN | apply below_drew1 | refine below_set ?_ GE249.out | refine below_set ?_ GE250.out) | exact HB.out)⟩
    · replace c14 := Bool.eq_false_iff.mpr c14
      subst c14
      have H1 : (some false) = some r := by rw [if_neg (show ¬ (false = true) by decide)] at H; exact H
      clear H
      have H := H1
      clear H1
      obtain rfl := Option.some.inj H
      go_wp2
      go_ret
      exact ⟨by first | rfl | (simp [errW_none, errW_some] <;> rfl) | (simp [*, errW_none, errW_some] <;> rfl), by repeat (first | (with_reducible first | exact HB.out | apply below_alloc | apply pw_below_drewN | apply below_drew1 | refine below_set ?_ GE249.out | refine below_set ?_ GE250.out) | exact HB.out)⟩
  · rw [if_neg c8] at H
    have c8b0 : (a0_0 == a1_0) = false := beq_eq_false_iff_ne.mpr c8
    have c8b1 : (a0_0 != a1_0) = true := bne_iff_ne.mpr c8
    (first | rw [c8b0] | (simp only [i64_w, i32_w]; rw [c8b0]) | skip)
    obtain rfl := Option.some.inj H
    go_wp2
    go_ret
    exact ⟨by first | rfl | (simp [errW_none, errW_some] <;> rfl) | (simp [*, errW_none, errW_some] <;> rfl), by repeat (first | (with_reducible first | exact HB.out | apply below_alloc | apply pw_below_drewN | apply below_drew1 | refine below_set ?_ GE249.out | refine below_set ?_ GE250.out) | exact HB.out)⟩

/-! ### laws_eqStepS: function 6 -/
def laws_eqStepS.l0 : Nat → List (S38) → List (S38) → Int → Option (Bool)
  | 0, _, _, _ => none
  | k + 1, x0, x1, x5 => if x5 < (x0.length : Int) then (if 0 ≤ x5 then (if x5 < (x1.length : Int) then ((laws_eqStep.f k ((rd_T38 x0 x5).f0) ((rd_T38 x0 x5).f1) ((rd_T38 x1 x5).f0) ((rd_T38 x1 x5).f1)).bind fun t254 => (if t254 = true then (laws_eqStepS.l0 k x0 x1 (wrap64 (x5 + 1))) else (some false))) else (none)) else (none)) else (some true)
def laws_eqStepS.f (k : Nat) (l0 : List (S38)) (l1 : List (S38)) : Option (Bool) := if (l0.length : Int) = (l1.length : Int) then (laws_eqStepS.l0 k l0 l1 0) else (some false)
theorem laws_eqStepS.mono_l : ∀ k, (∀ y0 y1 y2, LeO (laws_eqStepS.l0 k y0 y1 y2) (laws_eqStepS.l0 (k + 1) y0 y1 y2))
  | 0 => fun _ _ _ r h => by simp [laws_eqStepS.l0] at h
  | k + 1 => by
    have ih0 := laws_eqStepS.mono_l k
    · intro y0 y1 y2
      unfold laws_eqStepS.l0
      repeat' first
      | (with_reducible exact ih0 _ _ _)
      | (with_reducible exact laws_eqStep.mono _ _ _ _ _)
      | (with_reducible exact LeO.refl _)
      | (with_reducible exact LeO.none _)
      | (with_reducible refine LeO.ite ?_ ?_)
      | (with_reducible refine LeO.bind ?_ (fun _ => ?_))
      | exact ih0 _ _ _
      | exact laws_eqStep.mono _ _ _ _ _
      | exact LeO.none _
      | refine LeO.ite ?_ ?_
      | refine LeO.bind ?_ (fun _ => ?_)
theorem laws_eqStepS.mono : ∀ a0 a1 k, LeO (laws_eqStepS.f k a0 a1) (laws_eqStepS.f (k + 1) a0 a1) := by
  intro a0 a1 k
  have ih0 := laws_eqStepS.mono_l k
  unfold laws_eqStepS.f
  repeat' first
      | (with_reducible exact ih0 _ _ _)
      | (with_reducible exact laws_eqStep.mono _ _ _ _ _)
      | (with_reducible exact LeO.refl _)
      | (with_reducible exact LeO.none _)
      | (with_reducible refine LeO.ite ?_ ?_)
      | (with_reducible refine LeO.bind ?_ (fun _ => ?_))
      | exact ih0 _ _ _
      | exact laws_eqStep.mono _ _ _ _ _
      | exact LeO.none _
      | refine LeO.ite ?_ ?_
      | refine LeO.bind ?_ (fun _ => ?_)
def laws_eqStepS.T6 : Bool × List (List Nat × List Nat) := (true, [([], []), ([], []), ([0, 1], [0, 1]), ([2], [2]), ([], []), ([], []), ([4, 5], [4, 5]), ([6], [6]), ([3, 7], [3, 7]), ([8], [8])])
def laws_eqStepS.B6 : List Nat := [0, 0, 3, 7, 0, 0, 48, 112, 255, 511]
theorem laws_eqStepS.tab6 : rtab .any (opsOf Tryd.f6 6) = laws_eqStepS.T6 := by kernel_rfl
theorem laws_eqStepS.bits6 : waitsOk laws_eqStepS.T6.2 laws_eqStepS.B6 = true := by kernel_rfl
set_option maxHeartbeats 8000000 in
set_option maxRecDepth 100000 in
theorem laws_eqStepS.calls (k : Nat) (A0 : Option Addr) (c0 : Nat) (l0 : List (S38)) (A1 : Option Addr) (c1 : Nat) (l1 : List (S38)) (r : Bool) (w : World) (hr0 : Kd.C k38 w A0 l0.length l0) (hc0 : l0.length ≤ c0) (hr1 : Kd.C k38 w A1 l1.length l1) (hc1 : l1.length ≤ c1) (h : laws_eqStepS.f k l0 l1 = some r) :
    Calls Tryd.prog 6 #[.slice A0 l0.length c0, .slice A1 l1.length c1] w fun e w' => e = .returned (.bool r) ∧ Below w.heap.size w w' := by
  have hu38 := Tryd.underlying38
  have HR0 := Aside0.mk hr0
  have HC0 := Aside0.mk hc0
  clear hr0 hc0
  have HR1 := Aside0.mk hr1
  have HC1 := Aside0.mk hc1
  clear hr1 hc1
  have HB := Aside0.mk (Below.refl w.heap.size w)
  have H : (if (l0.length : Int) = (l1.length : Int) then (laws_eqStepS.l0 k l0 l1 0) else (some false)) = some r := h
  clear h
  have HF := Aside0.mk H
  clear H
  go_enter Tryd.func6, Tryd.ntmps6
  go_upto_if 10 with (fail)
  have H := HF.out
  clear HF
  by_cases c3 : (l0.length : Int) = (l1.length : Int)
  · rw [if_pos c3] at H
    have c3b0 : ((l0.length : Int) == (l1.length : Int)) = true := beq_iff_eq.mpr c3
    have c3b1 : ((l0.length : Int) != (l1.length : Int)) = false := bne_eq_false_iff_eq.mpr c3
    have c3b2 : (l0.length == l1.length) = true := by first | simpa using c3 | (simp at c3 ⊢; omega)
    clear c3
    (first | rw [c3b0] | (simp only [i64_w, i32_w]; rw [c3b0]) | skip)
    have H' := Aside0.mk H
    clear H
    go_wp2
    go_loopg [5] k (fun kq v5 w' => ∃ (x5_1 : Int), v5 = .int .i64 x5_1 ∧ Aside0 (laws_eqStepS.l0 kq l0 l1 x5_1 = some r) ∧ Aside0 (kq ≤ k) ∧ Aside0 (Below w.heap.size w w'))
    case atStart => exact ⟨(0), (by first | rfl | (simp; done) | (simp [*]; done)), H', ⟨Nat.le_refl _⟩, ⟨by repeat (first | (with_reducible first | exact HB.out | apply below_alloc | apply pw_below_drewN | apply below_drew1) | exact HB.out)⟩⟩
    case round =>
      clear H'
      try clear c1
      try clear p2
      try clear c3
      try clear c3b0
      try clear c3b1
      try clear c3b2
      obtain ⟨x5_1, rfl, HA, HK1, HB⟩ := hrel
      cases gk with
      | zero => exact absurd HA.out (by simp [laws_eqStepS.l0])
      | succ k1 =>
        have H := HA.out
        clear HA
        simp only [laws_eqStepS.l0] at H
        have HF := Aside0.mk H
        clear H
        go_upto_if 14 with (fail)
        have H := HF.out
        clear HF
        by_cases c4 : x5_1 < (l0.length : Int)
        · rw [if_pos c4] at H
          have c4b0 : decide (x5_1 < (l0.length : Int)) = true := decide_eq_true c4
          clear c4
          (first | rw [c4b0] | (simp only [i64_w, i32_w]; rw [c4b0]) | skip)
          by_cases c5 : 0 ≤ x5_1
          · rw [if_pos c5] at H
            have c5b0 : decide (0 ≤ x5_1) = true := decide_eq_true c5
            clear c5
            by_cases c6 : x5_1 < (l1.length : Int)
            · rw [if_pos c6] at H
              have c6b0 : decide (x5_1 < (l1.length : Int)) = true := decide_eq_true c6
              clear c6
              replace H := Option.bind_eq_some_iff.mp H
              obtain ⟨t254, A70, H⟩ := H
              replace H : (if t254 = true then (laws_eqStepS.l0 k1 l0 l1 (wrap64 (x5_1 + 1))) else (some false)) = some r := H
              have A7 := Aside0.mk A70
              clear A70
              have HF := Aside0.mk H
              clear H
              try go_wp2
              have n0_ := Aside0.mk (below_drew1 HB.out)
              clear HB
              have HB := n0_
              clear n0_
              have p252 : 0 ≤ (x5_1 : Int) := of_decide_eq_true (by first | (with_reducible assumption) | assumption)
              have q252 : x5_1 < (l0.length : Int) := of_decide_eq_true (by first | (with_reducible assumption) | assumption)
              obtain ⟨ad252, A252_1, c252_1, e252, hx252_0, hx252_1, hl252_1, hi252_1⟩ := at_T38 HR0.out x5_1 p252 q252
              have hw252_1 := hx252_1
              have hw252_0 := hx252_0
              cases e252
              replace hx252_0 := (HB.out.cell (World.block_lt_of_cell? w _ hx252_0)).trans hx252_0
              replace hx252_1 := (HB.out.cell (World.block_lt_of_cell? w _ hx252_1)).trans hx252_1
              have HR252_1 := Aside0.mk hi252_1
              have HC252_1 := Aside0.mk hl252_1
              clear hi252_1 hl252_1
              replace p252 := eq_true p252
              replace q252 := eq_true q252
              have p253 : 0 ≤ (x5_1 : Int) := of_decide_eq_true (by first | (with_reducible assumption) | assumption)
              have q253 : x5_1 < (l1.length : Int) := of_decide_eq_true (by first | (with_reducible assumption) | assumption)
              obtain ⟨ad253, A253_1, c253_1, e253, hx253_0, hx253_1, hl253_1, hi253_1⟩ := at_T38 HR1.out x5_1 p253 q253
              have hw253_1 := hx253_1
              have hw253_0 := hx253_0
              cases e253
              replace hx253_0 := (HB.out.cell (World.block_lt_of_cell? w _ hx253_0)).trans hx253_0
              replace hx253_1 := (HB.out.cell (World.block_lt_of_cell? w _ hx253_1)).trans hx253_1
              have HR253_1 := Aside0.mk hi253_1
              have HC253_1 := Aside0.mk hl253_1
              clear hi253_1 hl253_1
              replace p253 := eq_true p253
              replace q253 := eq_true q253
              refine start_ (n := 10) (S := fun w' => w'.cell? (ad252.add ((x5_1).toNat * 2)) = some (.int .i64 ((rd_T38 l0 x5_1).f0)) ∧ w'.cell? ⟨(ad252.add ((x5_1).toNat * 2)).block, (ad252.add ((x5_1).toNat * 2)).off + 1, none⟩ = some (.slice A252_1 ((rd_T38 l0 x5_1).f1).length c252_1) ∧ w'.cell? (ad253.add ((x5_1).toNat * 2)) = some (.int .i64 ((rd_T38 l1 x5_1).f0)) ∧ w'.cell? ⟨(ad253.add ((x5_1).toNat * 2)).block, (ad253.add ((x5_1).toNat * 2)).off + 1, none⟩ = some (.slice A253_1 ((rd_T38 l1 x5_1).f1).length c253_1)) (ds := []) #[false, false, false, false, false, false, false, false, false, false] (by kernel_rfl) rfl rfl ⟨((HB.out.cell (World.block_lt_of_cell? w _ hw252_0)).trans hw252_0), ((HB.out.cell (World.block_lt_of_cell? w _ hw252_1)).trans hw252_1), ((HB.out.cell (World.block_lt_of_cell? w _ hw253_0)).trans hw253_0), ((HB.out.cell (World.block_lt_of_cell? w _ hw253_1)).trans hw253_1)⟩ (fun hHeld => ?_); refine with_tabW laws_eqStepS.tab6 laws_eqStepS.bits6 (fun HT_ HW_ => ?_)
              generalize wr.drew = w8 at HB HR252_1 HR253_1 hx252_0 hx252_1 hx253_0 hx253_1 hHeld ⊢
              refine pure_ (i := 0) (N := some 17) (v := ?_) (a' := ?_) #[true, false, false, false, false, false, false, false, false, false] rfl rfl (any_of HT_.out (by kernel_rfl)) (fun _ _ _ h => h) (Or.inl ⟨by rfl, ?_⟩) ?_ ?_
              rotate_left
              · intro w'
                go_simp
                with_reducible rfl
              rotate_left
              · simp only [Act.put, List.setIfInBounds_toArray, List.set_cons_zero, List.set_cons_succ, i64_w, i32_w]
                rfl
              refine pure_ (i := 1) (N := some 18) (v := ?_) (a' := ?_) #[true, true, false, false, false, false, false, false, false, false] rfl rfl (any_of HT_.out (by kernel_rfl)) (fun _ _ _ h => h) (Or.inl ⟨by rfl, ?_⟩) ?_ ?_
              rotate_left
              · intro w'
                go_simp
                with_reducible rfl
              rotate_left
              · simp only [Act.put, List.setIfInBounds_toArray, List.set_cons_zero, List.set_cons_succ, i64_w, i32_w]
                rfl
              refine pure_ (i := 2) (N := some 19) (v := ?_) (a' := ?_) #[true, true, true, false, false, false, false, false, false, false] rfl rfl (any_of HT_.out (by kernel_rfl)) (fun _ _ _ h => h) (Or.inl ⟨by rfl, ?_⟩) ?_ ?_
              rotate_left
              · intro w'
                go_simp
                with_reducible rfl
              rotate_left
              · simp only [Act.put, List.setIfInBounds_toArray, List.set_cons_zero, List.set_cons_succ, i64_w, i32_w]
                rfl
              refine pure_ (i := 4) (N := some 21) (v := ?_) (a' := ?_) #[true, true, true, false, true, false, false, false, false, false] rfl rfl (any_of HT_.out (by kernel_rfl)) (fun _ _ _ h => h) (Or.inl ⟨by rfl, ?_⟩) ?_ ?_
              rotate_left
              · intro w'
                go_simp
                with_reducible rfl
              rotate_left
              · simp only [Act.put, List.setIfInBounds_toArray, List.set_cons_zero, List.set_cons_succ, i64_w, i32_w]
                rfl
              refine pure_ (i := 5) (N := some 22) (v := ?_) (a' := ?_) #[true, true, true, false, true, true, false, false, false, false] rfl rfl (any_of HT_.out (by kernel_rfl)) (fun _ _ _ h => h) (Or.inl ⟨by rfl, ?_⟩) ?_ ?_
              rotate_left
              · intro w'
                go_simp
                with_reducible rfl
              rotate_left
              · simp only [Act.put, List.setIfInBounds_toArray, List.set_cons_zero, List.set_cons_succ, i64_w, i32_w]
                rfl
              refine pure_ (i := 6) (N := some 23) (v := ?_) (a' := ?_) #[true, true, true, false, true, true, true, false, false, false] rfl rfl (any_of HT_.out (by kernel_rfl)) (fun _ _ _ h => h) (Or.inl ⟨by rfl, ?_⟩) ?_ ?_
              rotate_left
              · intro w'
                go_simp
                with_reducible rfl
              rotate_left
              · simp only [Act.put, List.setIfInBounds_toArray, List.set_cons_zero, List.set_cons_succ, i64_w, i32_w]
                rfl
              refine take_ (i := 3) (N := some 20) (v := ?_) (a' := ?_) #[true, true, true, true, true, true, true, false, false, false] rfl rfl (take_ofW HT_.out HW_.out (by kernel_rfl)) (fun _ _ _ h => h) (Or.inl ⟨by rfl, ?_⟩) hHeld ?_ ?_
              rotate_left
              · rintro w' ⟨s0, s1, s2, s3⟩
                go_simp
                with_reducible rfl
              rotate_left
              · simp only [Act.put, List.setIfInBounds_toArray, List.set_cons_zero, List.set_cons_succ, i64_w, i32_w]
                rfl
              refine take_ (i := 7) (N := some 24) (v := ?_) (a' := ?_) #[true, true, true, true, true, true, true, true, false, false] rfl rfl (take_ofW HT_.out HW_.out (by kernel_rfl)) (fun _ _ _ h => h) (Or.inl ⟨by rfl, ?_⟩) hHeld ?_ ?_
              rotate_left
              · rintro w' ⟨s0, s1, s2, s3⟩
                go_simp
                with_reducible rfl
              rotate_left
              · simp only [Act.put, List.setIfInBounds_toArray, List.set_cons_zero, List.set_cons_succ, i64_w, i32_w]
                rfl
              refine one_ (i := 8) (N := some 25) #[true, true, true, true, true, true, true, true, true, false] rfl rfl (one_of HT_.out (by kernel_rfl)) (by decide) (fun K hK => ?_)
              refine goes_ Tryd.func18 (by kernel_rfl) rfl #[.agg #[.int .i64 ((rd_T38 l0 x5_1).f0), .slice A252_1 ((rd_T38 l0 x5_1).f1).length c252_1], .agg #[.int .i64 ((rd_T38 l1 x5_1).f0), .slice A253_1 ((rd_T38 l1 x5_1).f1).length c253_1]] (by rfl) rfl rfl (by (try simp only [List.map_toArray, List.map_cons, List.map_nil]); first | done | rfl | (simp only [List.length_drop, List.length_take]; rfl)) ?_
              with_reducible refine (laws_eqStep.calls k1 ((rd_T38 l0 x5_1).f0) _ _ ((rd_T38 l0 x5_1).f1) ((rd_T38 l1 x5_1).f0) _ _ ((rd_T38 l1 x5_1).f1) t254 _ ?side1 ?side2 ?side3 ?side4 A7.out).mono ?_
              (case side1 => repeat (first | exact (Kd.C_below HR252_1.out HB.out) | (with_reducible refine Kd.C_alloc ?_ _) | (with_reducible refine Kd.C_drewN ?_ _) | (with_reducible refine Kd.C_drew ?_)))
              (case side2 => exact HC252_1.out)
              (case side3 => repeat (first | exact (Kd.C_below HR253_1.out HB.out) | (with_reducible refine Kd.C_alloc ?_ _) | (with_reducible refine Kd.C_drewN ?_ _) | (with_reducible refine Kd.C_drew ?_)))
              (case side4 => exact HC253_1.out)
              rintro e w9 ⟨rfl, hb⟩
              refine ⟨_, rfl, ?_⟩
              have n0_ := Aside0.mk (below_step (by repeat (first | (with_reducible first | exact HB.out | apply below_alloc | apply pw_below_drewN | apply below_drew1) | exact HB.out)) hb)
              clear HB
              have HB := n0_
              clear n0_
              (try clear hb)
              (try clear hb2)
              (try clear hk)
              (try clear hi)
              refine hK.out _ _ ⟨((HB.out.cell (World.block_lt_of_cell? w _ hw252_0)).trans hw252_0), ((HB.out.cell (World.block_lt_of_cell? w _ hw252_1)).trans hw252_1), ((HB.out.cell (World.block_lt_of_cell? w _ hw253_0)).trans hw253_0), ((HB.out.cell (World.block_lt_of_cell? w _ hw253_1)).trans hw253_1)⟩ (fun hHeld => ?_)
              clear hK K
              refine norm_ (a' := ?_) ?_ ?_
              rotate_left
              · show Act.put _ (some 25) _ = _
                simp only [Act.put, List.setIfInBounds_toArray, List.set_cons_zero, List.set_cons_succ, i64_w, i32_w]
                rfl
              refine pure_ (i := 9) (N := some 26) (v := ?_) (a' := ?_) #[true, true, true, true, true, true, true, true, true, true] rfl rfl (any_of HT_.out (by kernel_rfl)) (fun _ _ _ h => h) (Or.inl ⟨by rfl, ?_⟩) ?_ ?_
              rotate_left
              · intro w'
                go_simp
                with_reducible rfl
              rotate_left
              · simp only [Act.put, List.setIfInBounds_toArray, List.set_cons_zero, List.set_cons_succ, i64_w, i32_w]
                rfl
              refine done_ (done_of HT_.out (by kernel_rfl)) ?_
              go_upto_if 26 with (fail)
              have H := HF.out
              clear HF
              by_cases c10 : t254 = true
              · subst c10
                have H1 : (laws_eqStepS.l0 k1 l0 l1 (wrap64 (x5_1 + 1))) = some r := by rw [if_pos rfl] at H; exact H
                clear H
                have H := H1
                clear H1
                have H' := Aside0.mk H
                clear H
                go_wp2
                go_roundg k1
                case measure => have := HK1.out; omega
                case rel => exact ⟨(wrap64 (x5_1 + 1)), (by first | rfl | (simp; done) | (simp [*]; done)), H', ⟨by have := HK1.out; omega⟩, ⟨by repeat (first | (with_reducible first | exact HB.out | apply below_alloc | apply pw_below_drewN | apply below_drew1) | exact HB.out)⟩⟩
              · replace c10 := Bool.eq_false_iff.mpr c10
                subst c10
                have H1 : (some false) = some r := by rw [if_neg (show ¬ (false = true) by decide)] at H; exact H
                clear H
                have H := H1
                clear H1
                obtain rfl := Option.some.inj H
                go_wp2
                go_ret
                exact ⟨by first | rfl | (simp [errW_none, errW_some] <;> rfl) | (simp [*, errW_none, errW_some] <;> rfl), by repeat (first | (with_reducible first | exact HB.out | apply below_alloc | apply pw_below_drewN | apply below_drew1) | exact HB.out)⟩
            · rw [if_neg c6] at H
              exact absurd H (by simp)
          · rw [if_neg c5] at H
            exact absurd H (by simp)
        · rw [if_neg c4] at H
          have c4b0 : decide (x5_1 < (l0.length : Int)) = false := decide_eq_false c4
          clear c4
          (first | rw [c4b0] | (simp only [i64_w, i32_w]; rw [c4b0]) | skip)
          obtain rfl := Option.some.inj H
          go_wp2
          go_ret
          exact ⟨by first | rfl | (simp [errW_none, errW_some] <;> rfl) | (simp [*, errW_none, errW_some] <;> rfl), by repeat (first | (with_reducible first | exact HB.out | apply below_alloc | apply pw_below_drewN | apply below_drew1) | exact HB.out)⟩
  · rw [if_neg c3] at H
    have c3b0 : ((l0.length : Int) == (l1.length : Int)) = false := beq_eq_false_iff_ne.mpr c3
    have c3b1 : ((l0.length : Int) != (l1.length : Int)) = true := bne_iff_ne.mpr c3
    have c3b2 : (l0.length == l1.length) = false := by first | simpa using c3 | (simp at c3 ⊢; omega)
    (first | rw [c3b0] | (simp only [i64_w, i32_w]; rw [c3b0]) | skip)
    obtain rfl := Option.some.inj H
    go_wp2
    go_ret
    exact ⟨by first | rfl | (simp [errW_none, errW_some] <;> rfl) | (simp [*, errW_none, errW_some] <;> rfl), by repeat (first | (with_reducible first | exact HB.out | apply below_alloc | apply pw_below_drewN | apply below_drew1) | exact HB.out)⟩

/-! ### laws_markTxS: function 19 -/
def laws_markTxS.l0 : Nat → List (S45) → Int → Int → Option (Int × (List (S45)))
  | 0, _, _, _ => none
  | k + 1, x0, x1, x5 => if x5 < (x0.length : Int) then (if 0 ≤ x5 then ((some (x0.set (x5 : Int).toNat (⟨x1, (rd_T45 x0 x5).f1, (rd_T45 x0 x5).f2, (rd_T45 x0 x5).f3⟩ : S45) : List (S45))).bind fun y255 => ((some (y255.set (x5 : Int).toNat (⟨(rd_T45 y255 x5).f0, wrap64 (x1 + 1), (rd_T45 y255 x5).f2, (rd_T45 y255 x5).f3⟩ : S45) : List (S45))).bind fun y256 => ((some (y256.set (x5 : Int).toNat (⟨(rd_T45 y256 x5).f0, (rd_T45 y256 x5).f1, wrap64 ((wrap64 (x1 + 1)) + 1), (rd_T45 y256 x5).f3⟩ : S45) : List (S45))).bind fun y257 => (laws_markTxS.l0 k (y257.set (x5 : Int).toNat (⟨(rd_T45 y257 x5).f0, (rd_T45 y257 x5).f1, (rd_T45 y257 x5).f2, wrap64 ((wrap64 ((wrap64 (x1 + 1)) + 1)) + 1)⟩ : S45)) (wrap64 ((wrap64 ((wrap64 ((wrap64 (x1 + 1)) + 1)) + 1)) + 1)) (wrap64 (x5 + 1)))))) else (none)) else (some (x1, x0))
def laws_markTxS.f (k : Nat) (l0 : List (S45)) (a1 : Int) : Option (Int × (List (S45))) := laws_markTxS.l0 k l0 a1 0
theorem laws_markTxS.mono_l : ∀ k, (∀ y0 y1 y2, LeO (laws_markTxS.l0 k y0 y1 y2) (laws_markTxS.l0 (k + 1) y0 y1 y2))
  | 0 => fun _ _ _ r h => by simp [laws_markTxS.l0] at h
  | k + 1 => by
    have ih0 := laws_markTxS.mono_l k
    · intro y0 y1 y2
      unfold laws_markTxS.l0
      repeat' first
      | (with_reducible exact ih0 _ _ _)
      | (with_reducible exact LeO.refl _)
      | (with_reducible exact LeO.none _)
      | (with_reducible refine LeO.ite ?_ ?_)
      | (with_reducible refine LeO.bind ?_ (fun _ => ?_))
      | exact ih0 _ _ _
      | exact LeO.none _
      | refine LeO.ite ?_ ?_
      | refine LeO.bind ?_ (fun _ => ?_)
theorem laws_markTxS.mono : ∀ a0 a1 k, LeO (laws_markTxS.f k a0 a1) (laws_markTxS.f (k + 1) a0 a1) := by
  intro a0 a1 k
  have ih0 := laws_markTxS.mono_l k
  unfold laws_markTxS.f
  repeat' first
      | (with_reducible exact ih0 _ _ _)
      | (with_reducible exact LeO.refl _)
      | (with_reducible exact LeO.none _)
      | (with_reducible refine LeO.ite ?_ ?_)
      | (with_reducible refine LeO.bind ?_ (fun _ => ?_))
      | exact ih0 _ _ _
      | exact LeO.none _
      | refine LeO.ite ?_ ?_
      | refine LeO.bind ?_ (fun _ => ?_)
set_option maxHeartbeats 8000000 in
set_option maxRecDepth 100000 in
theorem laws_markTxS.calls (k : Nat) (P0_ : Nat → Prop) (u9000_ : Value) (l0 : List (S45)) (a1 : Int) (r1 : Int) (r2 : List (S45)) (w0 w : World) (hB : Below w0.heap.size w0 w) (ho0 : Kd.R k45 45 w w0.heap.size P0_ u9000_ l0) (h : laws_markTxS.f k l0 a1 = some (r1, r2)) :
    Calls Tryd.prog 19 #[u9000_, .int .i64 a1] w fun e w' => e = .returned (.int .i64 r1) ∧ Kd.R k45 45 w' w0.heap.size (fun k_ => (P0_ k_ ∨ w.heap.size ≤ k_)) u9000_ r2 ∧ Below w0.heap.size w0 w' ∧ Kept w w' (fun k_ => P0_ k_) := by
  have HO0 := Aside0.mk (show Kd.R k45 45 w w0.heap.size (fun k_ => (P0_ k_ ∨ w.heap.size ≤ k_)) u9000_ l0 from Kd.R_mono ho0 (fun k_ hk => (.inl hk)))
  have HK := Aside0.mk (Kept.refl w (fun k_ => P0_ k_))
  have HW0 := Aside0.mk hB.size
  have HB := Aside0.mk hB
  clear hB
  have H : (laws_markTxS.l0 k l0 a1 0) = some (r1, r2) := h
  clear h
  have H' := Aside0.mk H
  clear H
  go_enter Tryd.func19, Tryd.ntmps19
  go_wp2
  go_loopg [1, 5] k (fun kq v1 v5 w' => ∃ (x0_1 : List (S45)) (x1_1 : Int) (x5_1 : Int), v1 = .int .i64 x1_1 ∧ v5 = .int .i64 x5_1 ∧ Aside0 (laws_markTxS.l0 kq x0_1 x1_1 x5_1 = some (r1, r2)) ∧ Aside0 (kq ≤ k) ∧ Aside0 (Kd.R k45 45 w' w0.heap.size (fun k_ => (P0_ k_ ∨ w.heap.size ≤ k_)) u9000_ x0_1) ∧ Aside0 (Kept w w' (fun k_ => P0_ k_)) ∧ Aside0 (Below w0.heap.size w0 w'))
  case atStart => exact ⟨(l0), (a1), (0), (by first | rfl | (simp; done) | (simp [*]; done)), (by first | rfl | (simp; done) | (simp [*]; done)), H', ⟨Nat.le_refl _⟩, ⟨by (with_reducible repeat (first | apply Kd.R_alloc | apply Kd.R_drewN | apply Kd.R_drew)); exact HO0.out⟩, ⟨by repeat (first | (with_reducible first | exact HK.out | apply Kept.alloc | apply Kept.drewN | apply Kept.drew) | exact HK.out)⟩, ⟨by repeat (first | (with_reducible first | exact HB.out | apply below_alloc | apply pw_below_drewN | apply below_drew1) | exact HB.out)⟩⟩
  case round =>
    clear H'
    try clear c1
    try clear p2
    obtain ⟨x0_1, x1_1, x5_1, rfl, rfl, HA, HK1, HO_0, HK, HB⟩ := hrel
    cases gk with
    | zero => exact absurd HA.out (by simp [laws_markTxS.l0])
    | succ k1 =>
      have H := HA.out
      clear HA
      simp only [laws_markTxS.l0] at H
      have HF := Aside0.mk H
      clear H
      obtain ⟨Ao3, co3, eo3⟩ := Kd.R_slice HO_0.out
      subst eo3
      go_upto_if 9 with (fail)
      have H := HF.out
      clear HF
      by_cases c4 : x5_1 < (x0_1.length : Int)
      · rw [if_pos c4] at H
        have c4b0 : decide (x5_1 < (x0_1.length : Int)) = true := decide_eq_true c4
        clear c4
        (first | rw [c4b0] | (simp only [i64_w, i32_w]; rw [c4b0]) | skip)
        by_cases c5 : 0 ≤ x5_1
        · rw [if_pos c5] at H
          have c5b0 : decide (0 ≤ x5_1) = true := decide_eq_true c5
          clear c5
          obtain ⟨y255, hy255⟩ : ∃ y_ : List (S45), y_ = (x0_1.set (x5_1 : Int).toNat (⟨x1_1, (rd_T45 x0_1 x5_1).f1, (rd_T45 x0_1 x5_1).f2, (rd_T45 x0_1 x5_1).f3⟩ : S45)) := ⟨_, rfl⟩
          replace H : ((some (y255.set (x5_1 : Int).toNat (⟨(rd_T45 y255 x5_1).f0, wrap64 (x1_1 + 1), (rd_T45 y255 x5_1).f2, (rd_T45 y255 x5_1).f3⟩ : S45) : List (S45))).bind fun y256 => ((some (y256.set (x5_1 : Int).toNat (⟨(rd_T45 y256 x5_1).f0, (rd_T45 y256 x5_1).f1, wrap64 ((wrap64 (x1_1 + 1)) + 1), (rd_T45 y256 x5_1).f3⟩ : S45) : List (S45))).bind fun y257 => (laws_markTxS.l0 k1 (y257.set (x5_1 : Int).toNat (⟨(rd_T45 y257 x5_1).f0, (rd_T45 y257 x5_1).f1, (rd_T45 y257 x5_1).f2, wrap64 ((wrap64 ((wrap64 (x1_1 + 1)) + 1)) + 1)⟩ : S45)) (wrap64 ((wrap64 ((wrap64 ((wrap64 (x1_1 + 1)) + 1)) + 1)) + 1)) (wrap64 (x5_1 + 1))))) = some (r1, r2) := by first | (rw [hy255]; with_reducible exact H) | (have H2_ := (Option.bind_some _ _).symm.trans H; rw [hy255]; with_reducible exact H2_) | (have H2_ := (Option.bind_some _ _).symm.trans H; with_reducible exact H2_) | with_reducible exact H | (rw [hy255]; exact H) | exact H
          have Ny255 := Aside0.mk hy255
          clear hy255
          obtain ⟨y256, hy256⟩ : ∃ y_ : List (S45), y_ = (y255.set (x5_1 : Int).toNat (⟨(rd_T45 y255 x5_1).f0, wrap64 (x1_1 + 1), (rd_T45 y255 x5_1).f2, (rd_T45 y255 x5_1).f3⟩ : S45)) := ⟨_, rfl⟩
          replace H : ((some (y256.set (x5_1 : Int).toNat (⟨(rd_T45 y256 x5_1).f0, (rd_T45 y256 x5_1).f1, wrap64 ((wrap64 (x1_1 + 1)) + 1), (rd_T45 y256 x5_1).f3⟩ : S45) : List (S45))).bind fun y257 => (laws_markTxS.l0 k1 (y257.set (x5_1 : Int).toNat (⟨(rd_T45 y257 x5_1).f0, (rd_T45 y257 x5_1).f1, (rd_T45 y257 x5_1).f2, wrap64 ((wrap64 ((wrap64 (x1_1 + 1)) + 1)) + 1)⟩ : S45)) (wrap64 ((wrap64 ((wrap64 ((wrap64 (x1_1 + 1)) + 1)) + 1)) + 1)) (wrap64 (x5_1 + 1)))) = some (r1, r2) := by first | (rw [hy256]; with_reducible exact H) | (have H2_ := (Option.bind_some _ _).symm.trans H; rw [hy256]; with_reducible exact H2_) | (have H2_ := (Option.bind_some _ _).symm.trans H; with_reducible exact H2_) | with_reducible exact H | (rw [hy256]; exact H) | exact H
          have Ny256 := Aside0.mk hy256
          clear hy256
          obtain ⟨y257, hy257⟩ : ∃ y_ : List (S45), y_ = (y256.set (x5_1 : Int).toNat (⟨(rd_T45 y256 x5_1).f0, (rd_T45 y256 x5_1).f1, wrap64 ((wrap64 (x1_1 + 1)) + 1), (rd_T45 y256 x5_1).f3⟩ : S45)) := ⟨_, rfl⟩
          replace H : (laws_markTxS.l0 k1 (y257.set (x5_1 : Int).toNat (⟨(rd_T45 y257 x5_1).f0, (rd_T45 y257 x5_1).f1, (rd_T45 y257 x5_1).f2, wrap64 ((wrap64 ((wrap64 (x1_1 + 1)) + 1)) + 1)⟩ : S45)) (wrap64 ((wrap64 ((wrap64 ((wrap64 (x1_1 + 1)) + 1)) + 1)) + 1)) (wrap64 (x5_1 + 1))) = some (r1, r2) := by first | (rw [hy257]; with_reducible exact H) | (have H2_ := (Option.bind_some _ _).symm.trans H; rw [hy257]; with_reducible exact H2_) | (have H2_ := (Option.bind_some _ _).symm.trans H; with_reducible exact H2_) | with_reducible exact H | (rw [hy257]; exact H) | exact H
          have Ny257 := Aside0.mk hy257
          clear hy257
          obtain ⟨y258, hy258⟩ : ∃ y_ : List (S45), y_ = (y257.set (x5_1 : Int).toNat (⟨(rd_T45 y257 x5_1).f0, (rd_T45 y257 x5_1).f1, (rd_T45 y257 x5_1).f2, wrap64 ((wrap64 ((wrap64 (x1_1 + 1)) + 1)) + 1)⟩ : S45)) := ⟨_, rfl⟩
          replace H : (laws_markTxS.l0 k1 y258 (wrap64 ((wrap64 ((wrap64 ((wrap64 (x1_1 + 1)) + 1)) + 1)) + 1)) (wrap64 (x5_1 + 1))) = some (r1, r2) := by first | (rw [hy258]; with_reducible exact H) | (have H2_ := (Option.bind_some _ _).symm.trans H; rw [hy258]; with_reducible exact H2_) | (have H2_ := (Option.bind_some _ _).symm.trans H; with_reducible exact H2_) | with_reducible exact H | (rw [hy258]; exact H) | exact H
          have Ny258 := Aside0.mk hy258
          clear hy258
          have H' := Aside0.mk H
          clear H
          have p6 : 0 ≤ (x5_1 : Int) := of_decide_eq_true (by first | (with_reducible assumption) | assumption)
          have q6 : (x5_1 : Int) < ((x0_1.length : Int) : Int) := of_decide_eq_true (by first | (with_reducible assumption) | assumption)
          obtain ⟨go6, co6, eo6, gb6, gl6, cl6, HG6⟩ := Kd.R_form HO_0.out (by omega)
          (first | cases eo6 | (injection eo6 with ea_ en_ ec_; (first | subst ea_ | (injection ea_ with ea_; subst ea_)); subst ec_; clear en_))
          have GB6 := Aside0.mk gb6
          have GG6 := Aside0.mk HG6
          clear gb6 gl6 HG6
          have HMgo6 := Aside0.mk (show (P0_ go6 ∨ w.heap.size ≤ go6) from (HO_0.out.1 _ rfl))
          obtain ⟨ce6, hcl6, hM6, hcc6, hfr6⟩ := Kd.R_elem HO_0.out z45 (x5_1 : Int) p6 q6
          obtain rfl := k45_openM hM6
          have hx6_0 : wr.cell? ⟨go6, (x5_1 : Int).toNat * 4, none⟩ = some (.int .i64 ((rd_T45 x0_1 x5_1).f0)) := hcc6 0 _ rfl
          have hx6_1 : wr.cell? ⟨go6, (x5_1 : Int).toNat * 4 + 1, none⟩ = some (.int .i64 ((rd_T45 x0_1 x5_1).f1)) := hcc6 1 _ rfl
          have hx6_2 : wr.cell? ⟨go6, (x5_1 : Int).toNat * 4 + 2, none⟩ = some (.int .i64 ((rd_T45 x0_1 x5_1).f2)) := hcc6 2 _ rfl
          have hx6_3 : wr.cell? ⟨go6, (x5_1 : Int).toNat * 4 + 3, none⟩ = some (.int .i64 ((rd_T45 x0_1 x5_1).f3)) := hcc6 3 _ rfl
          have hf6_0 : wr.frozen? ⟨go6, (x5_1 : Int).toNat * 4, none⟩ = false := hfr6 0
          have hf6_1 : wr.frozen? ⟨go6, (x5_1 : Int).toNat * 4 + 1, none⟩ = false := hfr6 1
          have hf6_2 : wr.frozen? ⟨go6, (x5_1 : Int).toNat * 4 + 2, none⟩ = false := hfr6 2
          have hf6_3 : wr.frozen? ⟨go6, (x5_1 : Int).toNat * 4 + 3, none⟩ = false := hfr6 3
          clear hcl6 hcc6 hfr6 hM6
          replace p6 := eq_true p6
          replace q6 := eq_true q6
          have HX10 := Aside0.mk (show Kd.R k45 45 wr w0.heap.size (fun k_ => (P0_ k_ ∨ w.heap.size ≤ k_)) (.slice (some ⟨go6, 0, none⟩) x0_1.length co3) x0_1 from (by (with_reducible repeat (first | apply Kd.R_alloc | apply Kd.R_drewN | apply Kd.R_drew)); exact HO_0.out))
          obtain ⟨ce10, hcl10, hM10, hcc10, hfr10⟩ := Kd.R_elem HX10.out z45 (x5_1 : Int) (of_decide_eq_true (by first | (with_reducible assumption) | assumption)) (by have h_ : (x5_1 : Int) < ((x0_1.length : Int) : Int) := of_decide_eq_true (by first | (with_reducible assumption) | assumption); first | exact h_ | (have e_ := (Kd.R_reads' HO_0.out).1; omega) | simpa using h_)
          obtain rfl := k45_openM hM10
          have HP10 := Kd.R_seg HX10.out (x5_1 : Int) (of_decide_eq_true (by first | (with_reducible assumption) | assumption)) (by have h_ : (x5_1 : Int) < ((x0_1.length : Int) : Int) := of_decide_eq_true (by first | (with_reducible assumption) | assumption); first | exact h_ | (have e_ := (Kd.R_reads' HO_0.out).1; omega) | simpa using h_) (seg := [.int .i64 x1_1]) (j := 0) hcl10 hcc10 (show 1 ≤ 4 from by decide) (x' := (⟨x1_1, (rd_T45 x0_1 x5_1).f1, (rd_T45 x0_1 x5_1).f2, (rd_T45 x0_1 x5_1).f3⟩ : S45)) (k45_mkM _ _ _ (⟨x1_1, (rd_T45 x0_1 x5_1).f1, (rd_T45 x0_1 x5_1).f2, (rd_T45 x0_1 x5_1).f3⟩ : S45) ) (fun _ hk => hk)
          have hx10_0 := hcc10 0 _ rfl
          (try simp only [show (k45).sz = 4 from rfl, Nat.mul_one, Nat.add_zero] at hx10_0)
          have hf10_0 := hfr10 0
          (try simp only [show (k45).sz = 4 from rfl, Nat.mul_one, Nat.add_zero] at hf10_0)
          clear hcl10 hcc10 hfr10 hM10
          go_wp2_with (first | ((with_reducible refine gate_store (t := 3) (p := 16) rfl ?_); refine store_event (t := 3) (p := 16) (v := ?vo_w11) (w1 := (wr.setCell ⟨go6, (x5_1 : Int).toNat * 4, none⟩ (.int .i64 x1_1))) ?hg ?ho ?hn ?hr ?_; (case ho => rfl); (case hg => rfl); (case hn => rfl); (case hr => first | (go_simp; done) | (go_simp; rfl)); intro w11 hw; have hg : wr.grownBy w11 (some go6) := (by rw [hw]; exact HP10.2); have hp_ : Kd.R k45 45 w11 w0.heap.size (fun k_ => (P0_ k_ ∨ w.heap.size ≤ k_)) (.slice (some ⟨go6, 0, none⟩) x0_1.length co3) y255 := (by rw [hw, Ny255.out]; exact HP10.1); clear HP10; have n0_ := Aside0.mk (hp_); have n1_ := Aside0.mk ((by rw [hw]; exact below_set (HB.out) GB6.out : Below w0.heap.size w0 w11)); have n2_ := Aside0.mk (Kept.of_grown (S := (fun k_ => P0_ k_)) hg (by repeat (first | (with_reducible first | exact HK.out | apply Kept.alloc | apply Kept.drewN | apply Kept.drew) | exact HK.out)) (fun k_ e_ => (HO_0.out.1 k_ e_))); clear HO_0; clear HB; clear HK; have HO_0 := n0_; have HB := n1_; have HK := n2_; clear n0_ n1_ n2_; clear hg hw hp_; have p7 : 0 ≤ (x5_1 : Int) := of_decide_eq_true (by first | (with_reducible assumption) | assumption); have q7 : (x5_1 : Int) < ((x0_1.length : Int) : Int) := of_decide_eq_true (by first | (with_reducible assumption) | assumption); obtain ⟨ce7, hcl7, hM7, hcc7, hfr7⟩ := Kd.R_elem HO_0.out z45 (x5_1 : Int) p7 q7; obtain rfl := k45_openM hM7; have hx7_0 : w11.cell? ⟨go6, (x5_1 : Int).toNat * 4, none⟩ = some (.int .i64 ((rd_T45 y255 x5_1).f0)) := hcc7 0 _ rfl; have hx7_1 : w11.cell? ⟨go6, (x5_1 : Int).toNat * 4 + 1, none⟩ = some (.int .i64 ((rd_T45 y255 x5_1).f1)) := hcc7 1 _ rfl; have hx7_2 : w11.cell? ⟨go6, (x5_1 : Int).toNat * 4 + 2, none⟩ = some (.int .i64 ((rd_T45 y255 x5_1).f2)) := hcc7 2 _ rfl; have hx7_3 : w11.cell? ⟨go6, (x5_1 : Int).toNat * 4 + 3, none⟩ = some (.int .i64 ((rd_T45 y255 x5_1).f3)) := hcc7 3 _ rfl; have hf7_0 : w11.frozen? ⟨go6, (x5_1 : Int).toNat * 4, none⟩ = false := hfr7 0; have hf7_1 : w11.frozen? ⟨go6, (x5_1 : Int).toNat * 4 + 1, none⟩ = false := hfr7 1; have hf7_2 : w11.frozen? ⟨go6, (x5_1 : Int).toNat * 4 + 2, none⟩ = false := hfr7 2; have hf7_3 : w11.frozen? ⟨go6, (x5_1 : Int).toNat * 4 + 3, none⟩ = false := hfr7 3; clear hcl7 hcc7 hfr7 hM7; replace p7 := eq_true p7; replace q7 := eq_true q7; have HX12 := Aside0.mk (show Kd.R k45 45 w11 w0.heap.size (fun k_ => (P0_ k_ ∨ w.heap.size ≤ k_)) (.slice (some ⟨go6, 0, none⟩) x0_1.length co3) y255 from (by (with_reducible repeat (first | apply Kd.R_alloc | apply Kd.R_drewN | apply Kd.R_drew)); exact HO_0.out)); obtain ⟨ce12, hcl12, hM12, hcc12, hfr12⟩ := Kd.R_elem HX12.out z45 (x5_1 : Int) (of_decide_eq_true (by first | (with_reducible assumption) | assumption)) (by have h_ : (x5_1 : Int) < ((x0_1.length : Int) : Int) := of_decide_eq_true (by first | (with_reducible assumption) | assumption); first | exact h_ | (have e_ := (Kd.R_reads' HO_0.out).1; omega) | simpa using h_); obtain rfl := k45_openM hM12; have HP12 := Kd.R_seg HX12.out (x5_1 : Int) (of_decide_eq_true (by first | (with_reducible assumption) | assumption)) (by have h_ : (x5_1 : Int) < ((x0_1.length : Int) : Int) := of_decide_eq_true (by first | (with_reducible assumption) | assumption); first | exact h_ | (have e_ := (Kd.R_reads' HO_0.out).1; omega) | simpa using h_) (seg := [.int .i64 (wrap64 (x1_1 + 1))]) (j := 1) hcl12 hcc12 (show 2 ≤ 4 from by decide) (x' := (⟨(rd_T45 y255 x5_1).f0, wrap64 (x1_1 + 1), (rd_T45 y255 x5_1).f2, (rd_T45 y255 x5_1).f3⟩ : S45)) (k45_mkM _ _ _ (⟨(rd_T45 y255 x5_1).f0, wrap64 (x1_1 + 1), (rd_T45 y255 x5_1).f2, (rd_T45 y255 x5_1).f3⟩ : S45) ) (fun _ hk => hk); have hx12_1 := hcc12 1 _ rfl; (try simp only [show (k45).sz = 4 from rfl, Nat.mul_one, Nat.add_zero] at hx12_1); have hf12_1 := hfr12 1; (try simp only [show (k45).sz = 4 from rfl, Nat.mul_one, Nat.add_zero] at hf12_1); clear hcl12 hcc12 hfr12 hM12) | ((with_reducible refine gate_store (t := 3) (p := 23) rfl ?_); refine store_event (t := 3) (p := 23) (v := ?vo_w13) (w1 := (w11.setCell ⟨go6, (x5_1 : Int).toNat * 4 + 1, none⟩ (.int .i64 (wrap64 (x1_1 + 1))))) ?hg ?ho ?hn ?hr ?_; (case ho => rfl); (case hg => rfl); (case hn => rfl); (case hr => first | (go_simp; done) | (go_simp; rfl)); intro w13 hw; have hg : w11.grownBy w13 (some go6) := (by rw [hw]; exact HP12.2); have hp_ : Kd.R k45 45 w13 w0.heap.size (fun k_ => (P0_ k_ ∨ w.heap.size ≤ k_)) (.slice (some ⟨go6, 0, none⟩) x0_1.length co3) y256 := (by rw [hw, Ny256.out]; exact HP12.1); clear HP12; have n0_ := Aside0.mk (hp_); have n1_ := Aside0.mk ((by rw [hw]; exact below_set (HB.out) GB6.out : Below w0.heap.size w0 w13)); have n2_ := Aside0.mk (Kept.of_grown (S := (fun k_ => P0_ k_)) hg (by repeat (first | (with_reducible first | exact HK.out | apply Kept.alloc | apply Kept.drewN | apply Kept.drew) | exact HK.out)) (fun k_ e_ => (HO_0.out.1 k_ e_))); clear HO_0; clear HB; clear HK; have HO_0 := n0_; have HB := n1_; have HK := n2_; clear n0_ n1_ n2_; clear hg hw hp_; have p8 : 0 ≤ (x5_1 : Int) := of_decide_eq_true (by first | (with_reducible assumption) | assumption); have q8 : (x5_1 : Int) < ((x0_1.length : Int) : Int) := of_decide_eq_true (by first | (with_reducible assumption) | assumption); obtain ⟨ce8, hcl8, hM8, hcc8, hfr8⟩ := Kd.R_elem HO_0.out z45 (x5_1 : Int) p8 q8; obtain rfl := k45_openM hM8; have hx8_0 : w13.cell? ⟨go6, (x5_1 : Int).toNat * 4, none⟩ = some (.int .i64 ((rd_T45 y256 x5_1).f0)) := hcc8 0 _ rfl; have hx8_1 : w13.cell? ⟨go6, (x5_1 : Int).toNat * 4 + 1, none⟩ = some (.int .i64 ((rd_T45 y256 x5_1).f1)) := hcc8 1 _ rfl; have hx8_2 : w13.cell? ⟨go6, (x5_1 : Int).toNat * 4 + 2, none⟩ = some (.int .i64 ((rd_T45 y256 x5_1).f2)) := hcc8 2 _ rfl; have hx8_3 : w13.cell? ⟨go6, (x5_1 : Int).toNat * 4 + 3, none⟩ = some (.int .i64 ((rd_T45 y256 x5_1).f3)) := hcc8 3 _ rfl; have hf8_0 : w13.frozen? ⟨go6, (x5_1 : Int).toNat * 4, none⟩ = false := hfr8 0; have hf8_1 : w13.frozen? ⟨go6, (x5_1 : Int).toNat * 4 + 1, none⟩ = false := hfr8 1; have hf8_2 : w13.frozen? ⟨go6, (x5_1 : Int).toNat * 4 + 2, none⟩ = false := hfr8 2; have hf8_3 : w13.frozen? ⟨go6, (x5_1 : Int).toNat * 4 + 3, none⟩ = false := hfr8 3; clear hcl8 hcc8 hfr8 hM8; replace p8 := eq_true p8; replace q8 := eq_true q8; have HX14 := Aside0.mk (show Kd.R k45 45 w13 w0.heap.size (fun k_ => (P0_ k_ ∨ w.heap.size ≤ k_)) (.slice (some ⟨go6, 0, none⟩) x0_1.length co3) y256 from (by (with_reducible repeat (first | apply Kd.R_alloc | apply Kd.R_drewN | apply Kd.R_drew)); exact HO_0.out)); obtain ⟨ce14, hcl14, hM14, hcc14, hfr14⟩ := Kd.R_elem HX14.out z45 (x5_1 : Int) (of_decide_eq_true (by first | (with_reducible assumption) | assumption)) (by have h_ : (x5_1 : Int) < ((x0_1.length : Int) : Int) := of_decide_eq_true (by first | (with_reducible assumption) | assumption); first | exact h_ | (have e_ := (Kd.R_reads' HO_0.out).1; omega) | simpa using h_); obtain rfl := k45_openM hM14; have HP14 := Kd.R_seg HX14.out (x5_1 : Int) (of_decide_eq_true (by first | (with_reducible assumption) | assumption)) (by have h_ : (x5_1 : Int) < ((x0_1.length : Int) : Int) := of_decide_eq_true (by first | (with_reducible assumption) | assumption); first | exact h_ | (have e_ := (Kd.R_reads' HO_0.out).1; omega) | simpa using h_) (seg := [.int .i64 (wrap64 ((wrap64 (x1_1 + 1)) + 1))]) (j := 2) hcl14 hcc14 (show 3 ≤ 4 from by decide) (x' := (⟨(rd_T45 y256 x5_1).f0, (rd_T45 y256 x5_1).f1, wrap64 ((wrap64 (x1_1 + 1)) + 1), (rd_T45 y256 x5_1).f3⟩ : S45)) (k45_mkM _ _ _ (⟨(rd_T45 y256 x5_1).f0, (rd_T45 y256 x5_1).f1, wrap64 ((wrap64 (x1_1 + 1)) + 1), (rd_T45 y256 x5_1).f3⟩ : S45) ) (fun _ hk => hk); have hx14_2 := hcc14 2 _ rfl; (try simp only [show (k45).sz = 4 from rfl, Nat.mul_one, Nat.add_zero] at hx14_2); have hf14_2 := hfr14 2; (try simp only [show (k45).sz = 4 from rfl, Nat.mul_one, Nat.add_zero] at hf14_2); clear hcl14 hcc14 hfr14 hM14) | ((with_reducible refine gate_store (t := 3) (p := 30) rfl ?_); refine store_event (t := 3) (p := 30) (v := ?vo_w15) (w1 := (w13.setCell ⟨go6, (x5_1 : Int).toNat * 4 + 2, none⟩ (.int .i64 (wrap64 ((wrap64 (x1_1 + 1)) + 1))))) ?hg ?ho ?hn ?hr ?_; (case ho => rfl); (case hg => rfl); (case hn => rfl); (case hr => first | (go_simp; done) | (go_simp; rfl)); intro w15 hw; have hg : w13.grownBy w15 (some go6) := (by rw [hw]; exact HP14.2); have hp_ : Kd.R k45 45 w15 w0.heap.size (fun k_ => (P0_ k_ ∨ w.heap.size ≤ k_)) (.slice (some ⟨go6, 0, none⟩) x0_1.length co3) y257 := (by rw [hw, Ny257.out]; exact HP14.1); clear HP14; have n0_ := Aside0.mk (hp_); have n1_ := Aside0.mk ((by rw [hw]; exact below_set (HB.out) GB6.out : Below w0.heap.size w0 w15)); have n2_ := Aside0.mk (Kept.of_grown (S := (fun k_ => P0_ k_)) hg (by repeat (first | (with_reducible first | exact HK.out | apply Kept.alloc | apply Kept.drewN | apply Kept.drew) | exact HK.out)) (fun k_ e_ => (HO_0.out.1 k_ e_))); clear HO_0; clear HB; clear HK; have HO_0 := n0_; have HB := n1_; have HK := n2_; clear n0_ n1_ n2_; clear hg hw hp_; have p9 : 0 ≤ (x5_1 : Int) := of_decide_eq_true (by first | (with_reducible assumption) | assumption); have q9 : (x5_1 : Int) < ((x0_1.length : Int) : Int) := of_decide_eq_true (by first | (with_reducible assumption) | assumption); obtain ⟨ce9, hcl9, hM9, hcc9, hfr9⟩ := Kd.R_elem HO_0.out z45 (x5_1 : Int) p9 q9; obtain rfl := k45_openM hM9; have hx9_0 : w15.cell? ⟨go6, (x5_1 : Int).toNat * 4, none⟩ = some (.int .i64 ((rd_T45 y257 x5_1).f0)) := hcc9 0 _ rfl; have hx9_1 : w15.cell? ⟨go6, (x5_1 : Int).toNat * 4 + 1, none⟩ = some (.int .i64 ((rd_T45 y257 x5_1).f1)) := hcc9 1 _ rfl; have hx9_2 : w15.cell? ⟨go6, (x5_1 : Int).toNat * 4 + 2, none⟩ = some (.int .i64 ((rd_T45 y257 x5_1).f2)) := hcc9 2 _ rfl; have hx9_3 : w15.cell? ⟨go6, (x5_1 : Int).toNat * 4 + 3, none⟩ = some (.int .i64 ((rd_T45 y257 x5_1).f3)) := hcc9 3 _ rfl; have hf9_0 : w15.frozen? ⟨go6, (x5_1 : Int).toNat * 4, none⟩ = false := hfr9 0; have hf9_1 : w15.frozen? ⟨go6, (x5_1 : Int).toNat * 4 + 1, none⟩ = false := hfr9 1; have hf9_2 : w15.frozen? ⟨go6, (x5_1 : Int).toNat * 4 + 2, none⟩ = false := hfr9 2; have hf9_3 : w15.frozen? ⟨go6, (x5_1 : Int).toNat * 4 + 3, none⟩ = false := hfr9 3; clear hcl9 hcc9 hfr9 hM9; replace p9 := eq_true p9; replace q9 := eq_true q9; have HX16 := Aside0.mk (show Kd.R k45 45 w15 w0.heap.size (fun k_ => (P0_ k_ ∨ w.heap.size ≤ k_)) (.slice (some ⟨go6, 0, none⟩) x0_1.length co3) y257 from (by (with_reducible repeat (first | apply Kd.R_alloc | apply Kd.R_drewN | apply Kd.R_drew)); exact HO_0.out)); obtain ⟨ce16, hcl16, hM16, hcc16, hfr16⟩ := Kd.R_elem HX16.out z45 (x5_1 : Int) (of_decide_eq_true (by first | (with_reducible assumption) | assumption)) (by have h_ : (x5_1 : Int) < ((x0_1.length : Int) : Int) := of_decide_eq_true (by first | (with_reducible assumption) | assumption); first | exact h_ | (have e_ := (Kd.R_reads' HO_0.out).1; omega) | simpa using h_); obtain rfl := k45_openM hM16; have HP16 := Kd.R_seg HX16.out (x5_1 : Int) (of_decide_eq_true (by first | (with_reducible assumption) | assumption)) (by have h_ : (x5_1 : Int) < ((x0_1.length : Int) : Int) := of_decide_eq_true (by first | (with_reducible assumption) | assumption); first | exact h_ | (have e_ := (Kd.R_reads' HO_0.out).1; omega) | simpa using h_) (seg := [.int .i64 (wrap64 ((wrap64 ((wrap64 (x1_1 + 1)) + 1)) + 1))]) (j := 3) hcl16 hcc16 (show 4 ≤ 4 from by decide) (x' := (⟨(rd_T45 y257 x5_1).f0, (rd_T45 y257 x5_1).f1, (rd_T45 y257 x5_1).f2, wrap64 ((wrap64 ((wrap64 (x1_1 + 1)) + 1)) + 1)⟩ : S45)) (k45_mkM _ _ _ (⟨(rd_T45 y257 x5_1).f0, (rd_T45 y257 x5_1).f1, (rd_T45 y257 x5_1).f2, wrap64 ((wrap64 ((wrap64 (x1_1 + 1)) + 1)) + 1)⟩ : S45) ) (fun _ hk => hk); have hx16_3 := hcc16 3 _ rfl; (try simp only [show (k45).sz = 4 from rfl, Nat.mul_one, Nat.add_zero] at hx16_3); have hf16_3 := hfr16 3; (try simp only [show (k45).sz = 4 from rfl, Nat.mul_one, Nat.add_zero] at hf16_3); clear hcl16 hcc16 hfr16 hM16) | ((with_reducible refine gate_store (t := 3) (p := 37) rfl ?_); refine store_event (t := 3) (p := 37) (v := ?vo_w17) (w1 := (w15.setCell ⟨go6, (x5_1 : Int).toNat * 4 + 3, none⟩ (.int .i64 (wrap64 ((wrap64 ((wrap64 (x1_1 + 1)) + 1)) + 1))))) ?hg ?ho ?hn ?hr ?_; (case ho => rfl); (case hg => rfl); (case hn => rfl); (case hr => first | (go_simp; done) | (go_simp; rfl)); intro w17 hw; have hg : w15.grownBy w17 (some go6) := (by rw [hw]; exact HP16.2); have hp_ : Kd.R k45 45 w17 w0.heap.size (fun k_ => (P0_ k_ ∨ w.heap.size ≤ k_)) (.slice (some ⟨go6, 0, none⟩) x0_1.length co3) y258 := (by rw [hw, Ny258.out]; exact HP16.1); clear HP16; have n0_ := Aside0.mk (hp_); have n1_ := Aside0.mk ((by rw [hw]; exact below_set (HB.out) GB6.out : Below w0.heap.size w0 w17)); have n2_ := Aside0.mk (Kept.of_grown (S := (fun k_ => P0_ k_)) hg (by repeat (first | (with_reducible first | exact HK.out | apply Kept.alloc | apply Kept.drewN | apply Kept.drew) | exact HK.out)) (fun k_ e_ => (HO_0.out.1 k_ e_))); clear HO_0; clear HB; clear HK; have HO_0 := n0_; have HB := n1_; have HK := n2_; clear n0_ n1_ n2_; clear hg hw hp_))
          go_roundg k1
          case measure => have := HK1.out; omega
          case rel => exact ⟨(y258), (wrap64 ((wrap64 ((wrap64 ((wrap64 (x1_1 + 1)) + 1)) + 1)) + 1)), (wrap64 (x5_1 + 1)), (by first | rfl | (simp; done) | (simp [*]; done)), (by first | rfl | (simp; done) | (simp [*]; done)), H', ⟨by have := HK1.out; omega⟩, ⟨by (with_reducible repeat (first | apply Kd.R_alloc | apply Kd.R_drewN | apply Kd.R_drew)); exact HO_0.out⟩, ⟨by repeat (first | (with_reducible first | exact HK.out | apply Kept.alloc | apply Kept.drewN | apply Kept.drew) | exact HK.out)⟩, ⟨by repeat (first | (with_reducible first | exact HB.out | apply below_alloc | apply pw_below_drewN | apply below_drew1) | exact HB.out)⟩⟩
        · rw [if_neg c5] at H
          exact absurd H (by simp)
      · rw [if_neg c4] at H
        have c4b0 : decide (x5_1 < (x0_1.length : Int)) = false := decide_eq_false c4
        clear c4
        (first | rw [c4b0] | (simp only [i64_w, i32_w]; rw [c4b0]) | skip)
        simp only [Option.some.injEq, Prod.mk.injEq] at H
        obtain ⟨rfl, rfl⟩ := H
        go_wp2
        go_ret
        exact ⟨by first | rfl | (simp [errW_none, errW_some] <;> rfl) | (simp [*, errW_none, errW_some] <;> rfl), by (with_reducible repeat (first | apply Kd.R_alloc | apply Kd.R_drewN | apply Kd.R_drew)); exact HO_0.out, by repeat (first | (with_reducible first | exact HB.out | apply below_alloc | apply pw_below_drewN | apply below_drew1) | exact HB.out), by repeat (first | (with_reducible first | exact HK.out | apply Kept.alloc | apply Kept.drewN | apply Kept.drew) | exact HK.out)⟩

-- NOT PRINTED: function 7 (laws_markStepS)

end Go.Proofs.YtkeplglaiikfhaaDoor.PFnExactSteps
