/- Walks of the functions that a law of seat YtnlakfbbbnkcpaaDoor reaches, each against a Lean function, printed by this session's wip/myprint.py; no condition of their own. -/
import Derived.Test.YtnlakfbbbnkcpaaDoorPFnPoolsx0
import Derived.Test.YtnlakfbbbnkcpaaDoorPFnPoolsx2
namespace Go.Proofs.YtnlakfbbbnkcpaaDoor.PFnPools
open Go.RowKit Go.Proofs.YtnlakfbbbnkcpaaDoorW.PrintWords Go.Proofs.YtnlakfbbbnkcpaaDoorW.PrintLast Go.Proofs.YtnlakfbbbnkcpaaDoorW.PrintMore
attribute [local go_sem] max2_int min2_int max_two min_two max_three min_three max_four min_four   -- for this text's walks alone
set_option linter.unusedVariables false
set_option linter.unusedSimpArgs false

/-! ### spec_PoolOk: function 17 -/
def spec_PoolOk.l0 : Nat → List (S26) → Int → Option (Bool)
  | 0, _, _ => none
  | k + 1, x0, x3 => if x3 < (x0.length : Int) then (if 0 ≤ x3 then ((spec_TxOk.f ((rd_T26 x0 x3).f0) ((rd_T26 x0 x3).f1) ((rd_T26 x0 x3).f2) ((rd_T26 x0 x3).f3)).bind fun t112 => (if t112 = true then (if x3 > 0 then (if 0 ≤ (wrap64 (x3 - 1)) then (if (wrap64 (x3 - 1)) < (x0.length : Int) then ((spec_l4Before.f ((rd_T26 x0 (wrap64 (x3 - 1))).f0) ((rd_T26 x0 (wrap64 (x3 - 1))).f1) ((rd_T26 x0 (wrap64 (x3 - 1))).f2) ((rd_T26 x0 (wrap64 (x3 - 1))).f3) ((rd_T26 x0 x3).f0) ((rd_T26 x0 x3).f1) ((rd_T26 x0 x3).f2) ((rd_T26 x0 x3).f3)).bind fun t115 => (if t115 = true then (spec_PoolOk.l0 k x0 (wrap64 (x3 + 1))) else (some false))) else (none)) else (none)) else (spec_PoolOk.l0 k x0 (wrap64 (x3 + 1)))) else (some false))) else (none)) else (some (decide ((x0.length : Int) ≤ 12)))
def spec_PoolOk.f (k : Nat) (l0 : List (S26)) : Option (Bool) := spec_PoolOk.l0 k l0 0
theorem spec_PoolOk.mono_l : ∀ k, (∀ y0 y1, LeO (spec_PoolOk.l0 k y0 y1) (spec_PoolOk.l0 (k + 1) y0 y1))
  | 0 => fun _ _ r h => by simp [spec_PoolOk.l0] at h
  | k + 1 => by
    have ih0 := spec_PoolOk.mono_l k
    · intro y0 y1
      unfold spec_PoolOk.l0
      repeat' first
      | (with_reducible exact ih0 _ _)
      | (with_reducible exact LeO.refl _)
      | (with_reducible exact LeO.none _)
      | (with_reducible refine LeO.ite ?_ ?_)
      | (with_reducible refine LeO.bind ?_ (fun _ => ?_))
      | exact ih0 _ _
      | exact LeO.none _
      | refine LeO.ite ?_ ?_
      | refine LeO.bind ?_ (fun _ => ?_)
theorem spec_PoolOk.mono : ∀ a0 k, LeO (spec_PoolOk.f k a0) (spec_PoolOk.f (k + 1) a0) := by
  intro a0 k
  have ih0 := spec_PoolOk.mono_l k
  unfold spec_PoolOk.f
  repeat' first
      | (with_reducible exact ih0 _ _)
      | (with_reducible exact LeO.refl _)
      | (with_reducible exact LeO.none _)
      | (with_reducible refine LeO.ite ?_ ?_)
      | (with_reducible refine LeO.bind ?_ (fun _ => ?_))
      | exact ih0 _ _
      | exact LeO.none _
      | refine LeO.ite ?_ ?_
      | refine LeO.bind ?_ (fun _ => ?_)
def spec_PoolOk.T4 : Bool × List (List Nat × List Nat) := (true, [([], []), ([], []), ([0, 1], [0, 1]), ([2], [2]), ([3], [3]), ([4], [4]), ([5, 4], [5]), ([6], [6]), ([7, 6], [6, 7]), ([8, 6, 6], [6, 8]), ([9], [9]), ([9], [9]), ([11, 9], [9, 11]), ([10, 12, 9], [9, 10, 12]), ([13, 9], [9, 13]), ([9], [9]), ([9], [9]), ([15, 16, 9], [9, 15, 16]), ([17, 9], [9, 17]), ([14, 18, 9, 9], [9, 14, 18]), ([19, 9], [9, 19]), ([9, 20, 6], [6, 9, 20]), ([6, 21], [6, 21])])
def spec_PoolOk.B4 : List Nat := [0, 0, 3, 7, 15, 31, 63, 127, 255, 511, 1023, 1023, 3071, 8191, 16383, 1023, 1023, 99327, 230399, 524287, 1048575, 2097151, 4194303]
theorem spec_PoolOk.tab4 : rtab .any (opsOf Tryd.f17 4) = spec_PoolOk.T4 := by kernel_rfl
theorem spec_PoolOk.bits4 : waitsOk spec_PoolOk.T4.2 spec_PoolOk.B4 = true := by kernel_rfl
set_option maxHeartbeats 8000000 in
set_option maxRecDepth 100000 in
theorem spec_PoolOk.calls (k : Nat) (A0 : Option Addr) (c0 : Nat) (l0 : List (S26)) (r : Bool) (w : World) (hr0 : Kd.C k26 w A0 l0.length l0) (hc0 : l0.length ≤ c0) (h : spec_PoolOk.f k l0 = some r) :
    Calls Tryd.prog 17 #[.slice A0 l0.length c0] w fun e w' => e = .returned (.bool r) ∧ Below w.heap.size w w' := by
  have hu26 := Tryd.underlying26
  have HR0 := Aside0.mk hr0
  have HC0 := Aside0.mk hc0
  clear hr0 hc0
  have HB := Aside0.mk (Below.refl w.heap.size w)
  have H : (spec_PoolOk.l0 k l0 0) = some r := h
  clear h
  have H' := Aside0.mk H
  clear H
  go_enter Tryd.func17, Tryd.ntmps17
  go_wp2
  go_loopg [3] k (fun kq v3 w' => ∃ (x3_1 : Int), v3 = .int .i64 x3_1 ∧ Aside0 (spec_PoolOk.l0 kq l0 x3_1 = some r) ∧ Aside0 (kq ≤ k) ∧ Aside0 (Below w.heap.size w w'))
  case atStart => exact ⟨(0), (by first | rfl | (simp; done) | (simp [*]; done)), H', ⟨Nat.le_refl _⟩, ⟨HB.out⟩⟩
  case round =>
    clear H'
    try clear c1
    obtain ⟨x3_1, rfl, HA, HK1, HB⟩ := hrel
    cases gk with
    | zero => exact absurd HA.out (by simp [spec_PoolOk.l0])
    | succ k1 =>
      have H := HA.out
      clear HA
      simp only [spec_PoolOk.l0] at H
      have HF := Aside0.mk H
      clear H
      go_upto_if 7 with (fail)
      have H := HF.out
      clear HF
      by_cases c2 : x3_1 < (l0.length : Int)
      · rw [if_pos c2] at H
        have c2b0 : decide (x3_1 < (l0.length : Int)) = true := decide_eq_true c2
        clear c2
        (first | rw [c2b0] | (simp only [i64_w, i32_w]; rw [c2b0]) | skip)
        by_cases c3 : 0 ≤ x3_1
        · rw [if_pos c3] at H
          have c3b0 : decide (0 ≤ x3_1) = true := decide_eq_true c3
          clear c3
          replace H := Option.bind_eq_some_iff.mp H
          obtain ⟨t112, A40, H⟩ := H
          replace H : (if t112 = true then (if x3_1 > 0 then (if 0 ≤ (wrap64 (x3_1 - 1)) then (if (wrap64 (x3_1 - 1)) < (l0.length : Int) then ((spec_l4Before.f ((rd_T26 l0 (wrap64 (x3_1 - 1))).f0) ((rd_T26 l0 (wrap64 (x3_1 - 1))).f1) ((rd_T26 l0 (wrap64 (x3_1 - 1))).f2) ((rd_T26 l0 (wrap64 (x3_1 - 1))).f3) ((rd_T26 l0 x3_1).f0) ((rd_T26 l0 x3_1).f1) ((rd_T26 l0 x3_1).f2) ((rd_T26 l0 x3_1).f3)).bind fun t115 => (if t115 = true then (spec_PoolOk.l0 k1 l0 (wrap64 (x3_1 + 1))) else (some false))) else (none)) else (none)) else (spec_PoolOk.l0 k1 l0 (wrap64 (x3_1 + 1)))) else (some false)) = some r := H
          have A4 := Aside0.mk A40
          clear A40
          by_cases c5 : t112 = true
          · subst c5
            have H1 : (if x3_1 > 0 then (if 0 ≤ (wrap64 (x3_1 - 1)) then (if (wrap64 (x3_1 - 1)) < (l0.length : Int) then ((spec_l4Before.f ((rd_T26 l0 (wrap64 (x3_1 - 1))).f0) ((rd_T26 l0 (wrap64 (x3_1 - 1))).f1) ((rd_T26 l0 (wrap64 (x3_1 - 1))).f2) ((rd_T26 l0 (wrap64 (x3_1 - 1))).f3) ((rd_T26 l0 x3_1).f0) ((rd_T26 l0 x3_1).f1) ((rd_T26 l0 x3_1).f2) ((rd_T26 l0 x3_1).f3)).bind fun t115 => (if t115 = true then (spec_PoolOk.l0 k1 l0 (wrap64 (x3_1 + 1))) else (some false))) else (none)) else (none)) else (spec_PoolOk.l0 k1 l0 (wrap64 (x3_1 + 1)))) = some r := by rw [if_pos rfl] at H; exact H
            clear H
            have H := H1
            clear H1
            by_cases c6 : x3_1 > 0
            · rw [if_pos c6] at H
              have c6b0 : decide (0 < x3_1) = true := decide_eq_true c6
              clear c6
              obtain ⟨ji7, hji7⟩ : ∃ j_ : Int, (wrap64 (x3_1 - 1)) = j_ := ⟨_, rfl⟩
              replace H : (if 0 ≤ (ji7) then (if (ji7) < (l0.length : Int) then ((spec_l4Before.f ((rd_T26 l0 (ji7)).f0) ((rd_T26 l0 (ji7)).f1) ((rd_T26 l0 (ji7)).f2) ((rd_T26 l0 (ji7)).f3) ((rd_T26 l0 x3_1).f0) ((rd_T26 l0 x3_1).f1) ((rd_T26 l0 x3_1).f2) ((rd_T26 l0 x3_1).f3)).bind fun t115 => (if t115 = true then (spec_PoolOk.l0 k1 l0 (wrap64 (x3_1 + 1))) else (some false))) else (none)) else (none)) = some r := by first | (rw [hji7] at H; exact H) | (simp only [hji7] at H ⊢; exact H)
              (try rw [hji7] at A4)
              have hji7w : (IntKind.i64.wrap (x3_1 - 1)) = ji7 := (i64_w _).trans hji7
              by_cases c8 : 0 ≤ (ji7)
              · rw [if_pos c8] at H
                have c8b0 : decide (0 ≤ (ji7)) = true := decide_eq_true c8
                clear c8
                by_cases c9 : (ji7) < (l0.length : Int)
                · rw [if_pos c9] at H
                  have c9b0 : decide ((ji7) < (l0.length : Int)) = true := decide_eq_true c9
                  clear c9
                  replace H := Option.bind_eq_some_iff.mp H
                  obtain ⟨t115, A100, H⟩ := H
                  replace H : (if t115 = true then (spec_PoolOk.l0 k1 l0 (wrap64 (x3_1 + 1))) else (some false)) = some r := H
                  have A10 := Aside0.mk A100
                  clear A100
                  have HF := Aside0.mk H
                  clear H
                  try go_wp2
                  have n0_ := Aside0.mk (below_drew1 HB.out)
                  clear HB
                  have HB := n0_
                  clear n0_
                  have p111 : 0 ≤ (x3_1 : Int) := of_decide_eq_true (by first | (with_reducible assumption) | assumption)
                  have q111 : x3_1 < (l0.length : Int) := of_decide_eq_true (by first | (with_reducible assumption) | assumption)
                  obtain ⟨ad111, e111, hx111_0, hx111_1, hx111_2, hx111_3⟩ := at_T26 HR0.out x3_1 p111 q111
                  have hw111_3 := hx111_3
                  have hw111_2 := hx111_2
                  have hw111_1 := hx111_1
                  have hw111_0 := hx111_0
                  cases e111
                  replace hx111_0 := (HB.out.cell (World.block_lt_of_cell? w _ hx111_0)).trans hx111_0
                  replace hx111_1 := (HB.out.cell (World.block_lt_of_cell? w _ hx111_1)).trans hx111_1
                  replace hx111_2 := (HB.out.cell (World.block_lt_of_cell? w _ hx111_2)).trans hx111_2
                  replace hx111_3 := (HB.out.cell (World.block_lt_of_cell? w _ hx111_3)).trans hx111_3
                  replace p111 := eq_true p111
                  replace q111 := eq_true q111
                  have p113 : 0 ≤ ((ji7) : Int) := of_decide_eq_true (by first | (with_reducible assumption) | assumption)
                  have q113 : (ji7) < (l0.length : Int) := of_decide_eq_true (by first | (with_reducible assumption) | assumption)
                  obtain ⟨ad113, e113, hx113_0, hx113_1, hx113_2, hx113_3⟩ := at_T26 HR0.out (ji7) p113 q113
                  have hw113_3 := hx113_3
                  have hw113_2 := hx113_2
                  have hw113_1 := hx113_1
                  have hw113_0 := hx113_0
                  obtain rfl : ad111 = ad113 := (by injection e113)
                  replace hx113_0 := (HB.out.cell (World.block_lt_of_cell? w _ hx113_0)).trans hx113_0
                  replace hx113_1 := (HB.out.cell (World.block_lt_of_cell? w _ hx113_1)).trans hx113_1
                  replace hx113_2 := (HB.out.cell (World.block_lt_of_cell? w _ hx113_2)).trans hx113_2
                  replace hx113_3 := (HB.out.cell (World.block_lt_of_cell? w _ hx113_3)).trans hx113_3
                  replace p113 := eq_true p113
                  replace q113 := eq_true q113
                  have p114 : 0 ≤ (x3_1 : Int) := of_decide_eq_true (by first | (with_reducible assumption) | assumption)
                  have q114 : x3_1 < (l0.length : Int) := of_decide_eq_true (by first | (with_reducible assumption) | assumption)
                  obtain ⟨ad114, e114, hx114_0, hx114_1, hx114_2, hx114_3⟩ := at_T26 HR0.out x3_1 p114 q114
                  have hw114_3 := hx114_3
                  have hw114_2 := hx114_2
                  have hw114_1 := hx114_1
                  have hw114_0 := hx114_0
                  obtain rfl : ad111 = ad114 := (by injection e114)
                  replace hx114_0 := (HB.out.cell (World.block_lt_of_cell? w _ hx114_0)).trans hx114_0
                  replace hx114_1 := (HB.out.cell (World.block_lt_of_cell? w _ hx114_1)).trans hx114_1
                  replace hx114_2 := (HB.out.cell (World.block_lt_of_cell? w _ hx114_2)).trans hx114_2
                  replace hx114_3 := (HB.out.cell (World.block_lt_of_cell? w _ hx114_3)).trans hx114_3
                  replace p114 := eq_true p114
                  replace q114 := eq_true q114
                  refine start_ (n := 23) (S := fun w' => w'.cell? (ad111.add ((x3_1).toNat * 4)) = some (.int .i64 ((rd_T26 l0 x3_1).f0)) ∧ w'.cell? ⟨(ad111.add ((x3_1).toNat * 4)).block, (ad111.add ((x3_1).toNat * 4)).off + 1, none⟩ = some (.int .i64 ((rd_T26 l0 x3_1).f1)) ∧ w'.cell? ⟨(ad111.add ((x3_1).toNat * 4)).block, (ad111.add ((x3_1).toNat * 4)).off + 2, none⟩ = some (.int .i64 ((rd_T26 l0 x3_1).f2)) ∧ w'.cell? ⟨(ad111.add ((x3_1).toNat * 4)).block, (ad111.add ((x3_1).toNat * 4)).off + 3, none⟩ = some (.int .i64 ((rd_T26 l0 x3_1).f3)) ∧ w'.cell? (ad111.add (((ji7)).toNat * 4)) = some (.int .i64 ((rd_T26 l0 (ji7)).f0)) ∧ w'.cell? ⟨(ad111.add (((ji7)).toNat * 4)).block, (ad111.add (((ji7)).toNat * 4)).off + 1, none⟩ = some (.int .i64 ((rd_T26 l0 (ji7)).f1)) ∧ w'.cell? ⟨(ad111.add (((ji7)).toNat * 4)).block, (ad111.add (((ji7)).toNat * 4)).off + 2, none⟩ = some (.int .i64 ((rd_T26 l0 (ji7)).f2)) ∧ w'.cell? ⟨(ad111.add (((ji7)).toNat * 4)).block, (ad111.add (((ji7)).toNat * 4)).off + 3, none⟩ = some (.int .i64 ((rd_T26 l0 (ji7)).f3)) ∧ w'.cell? (ad111.add ((x3_1).toNat * 4)) = some (.int .i64 ((rd_T26 l0 x3_1).f0)) ∧ w'.cell? ⟨(ad111.add ((x3_1).toNat * 4)).block, (ad111.add ((x3_1).toNat * 4)).off + 1, none⟩ = some (.int .i64 ((rd_T26 l0 x3_1).f1)) ∧ w'.cell? ⟨(ad111.add ((x3_1).toNat * 4)).block, (ad111.add ((x3_1).toNat * 4)).off + 2, none⟩ = some (.int .i64 ((rd_T26 l0 x3_1).f2)) ∧ w'.cell? ⟨(ad111.add ((x3_1).toNat * 4)).block, (ad111.add ((x3_1).toNat * 4)).off + 3, none⟩ = some (.int .i64 ((rd_T26 l0 x3_1).f3))) (ds := []) #[false, false, false, false, false, false, false, false, false, false, false, false, false, false, false, false, false, false, false, false, false, false, false] (by kernel_rfl) rfl rfl ⟨((HB.out.cell (World.block_lt_of_cell? w _ hw111_0)).trans hw111_0), ((HB.out.cell (World.block_lt_of_cell? w _ hw111_1)).trans hw111_1), ((HB.out.cell (World.block_lt_of_cell? w _ hw111_2)).trans hw111_2), ((HB.out.cell (World.block_lt_of_cell? w _ hw111_3)).trans hw111_3), ((HB.out.cell (World.block_lt_of_cell? w _ hw113_0)).trans hw113_0), ((HB.out.cell (World.block_lt_of_cell? w _ hw113_1)).trans hw113_1), ((HB.out.cell (World.block_lt_of_cell? w _ hw113_2)).trans hw113_2), ((HB.out.cell (World.block_lt_of_cell? w _ hw113_3)).trans hw113_3), ((HB.out.cell (World.block_lt_of_cell? w _ hw114_0)).trans hw114_0), ((HB.out.cell (World.block_lt_of_cell? w _ hw114_1)).trans hw114_1), ((HB.out.cell (World.block_lt_of_cell? w _ hw114_2)).trans hw114_2), ((HB.out.cell (World.block_lt_of_cell? w _ hw114_3)).trans hw114_3)⟩ (fun hHeld => ?_); refine with_tabW spec_PoolOk.tab4 spec_PoolOk.bits4 (fun HT_ HW_ => ?_)
                  generalize wr.drew = w11 at HB hx111_0 hx111_1 hx111_2 hx111_3 hx113_0 hx113_1 hx113_2 hx113_3 hx114_0 hx114_1 hx114_2 hx114_3 hHeld ⊢
                  refine pA 0 10 ?_ rfl rfl (any_of HT_.out (by kernel_rfl)) (fun _ _ _ h => h) ⟨by rfl, ?_⟩ ?_ ?_ ?_
                  rotate_left
                  · intro w'
                    go_simp
                    with_reducible rfl
                  rotate_left
                  · simp only [Act.put, nm]
                    rfl
                  refine pA 1 11 ?_ rfl rfl (any_of HT_.out (by kernel_rfl)) (fun _ _ _ h => h) ⟨by rfl, ?_⟩ ?_ ?_ ?_
                  rotate_left
                  · intro w'
                    go_simp
                    with_reducible rfl
                  rotate_left
                  · simp only [Act.put, nm]
                    rfl
                  refine pA 2 12 ?_ rfl rfl (any_of HT_.out (by kernel_rfl)) (fun _ _ _ h => h) ⟨by rfl, ?_⟩ ?_ ?_ ?_
                  rotate_left
                  · intro w'
                    go_simp
                    with_reducible rfl
                  rotate_left
                  · simp only [Act.put, nm]
                    rfl
                  refine take_ (i := 3) (N := some 13) (v := ?_) (a' := ?_) #[true, true, true, true, false, false, false, false, false, false, false, false, false, false, false, false, false, false, false, false, false, false, false] rfl rfl (take_ofW HT_.out HW_.out (by kernel_rfl)) (fun _ _ _ h => h) (Or.inl ⟨by rfl, ?_⟩) hHeld ?_ ?_
                  rotate_left
                  · rintro w' ⟨s0, s1, s2, s3, s4, s5, s6, s7, s8, s9, s10, s11⟩
                    go_simp
                    with_reducible rfl
                  rotate_left
                  · simp only [Act.put, nm]
                    rfl
                  refine one_ (i := 4) (N := some 14) #[true, true, true, true, true, false, false, false, false, false, false, false, false, false, false, false, false, false, false, false, false, false, false] rfl rfl (one_of HT_.out (by kernel_rfl)) (by decide) (fun K hK => ?_)
                  refine goes_ Tryd.func33 (by kernel_rfl) rfl #[.agg #[.int .i64 ((rd_T26 l0 x3_1).f0), .int .i64 ((rd_T26 l0 x3_1).f1), .int .i64 ((rd_T26 l0 x3_1).f2), .int .i64 ((rd_T26 l0 x3_1).f3)]] (by rfl) rfl rfl (by (try simp only [mp]); first | done | rfl) ?_
                  with_reducible refine (spec_TxOk.calls ((rd_T26 l0 x3_1).f0) ((rd_T26 l0 x3_1).f1) ((rd_T26 l0 x3_1).f2) ((rd_T26 l0 x3_1).f3) true _ A4.out).mono ?_
                  rintro e w12 ⟨rfl, hb⟩
                  refine ⟨_, rfl, ?_⟩
                  have n0_ := Aside0.mk (below_step (HB.out) hb)
                  clear HB
                  have HB := n0_
                  clear n0_
                  (try clear hb)
                  (try clear hb2)
                  (try clear hk)
                  (try clear hi)
                  refine hK.out _ _ ⟨((HB.out.cell (World.block_lt_of_cell? w _ hw111_0)).trans hw111_0), ((HB.out.cell (World.block_lt_of_cell? w _ hw111_1)).trans hw111_1), ((HB.out.cell (World.block_lt_of_cell? w _ hw111_2)).trans hw111_2), ((HB.out.cell (World.block_lt_of_cell? w _ hw111_3)).trans hw111_3), ((HB.out.cell (World.block_lt_of_cell? w _ hw113_0)).trans hw113_0), ((HB.out.cell (World.block_lt_of_cell? w _ hw113_1)).trans hw113_1), ((HB.out.cell (World.block_lt_of_cell? w _ hw113_2)).trans hw113_2), ((HB.out.cell (World.block_lt_of_cell? w _ hw113_3)).trans hw113_3), ((HB.out.cell (World.block_lt_of_cell? w _ hw114_0)).trans hw114_0), ((HB.out.cell (World.block_lt_of_cell? w _ hw114_1)).trans hw114_1), ((HB.out.cell (World.block_lt_of_cell? w _ hw114_2)).trans hw114_2), ((HB.out.cell (World.block_lt_of_cell? w _ hw114_3)).trans hw114_3)⟩ (fun hHeld => ?_)
                  clear hK K
                  refine norm_ (a' := ?_) ?_ ?_
                  rotate_left
                  · show Act.put _ (some 14) _ = _
                    simp only [Act.put, nm]
                    rfl
                  refine pA 5 15 ?_ rfl rfl (any_of HT_.out (by kernel_rfl)) (fun _ _ _ h => h) ⟨by rfl, ?_⟩ ?_ ?_ ?_
                  rotate_left
                  · intro w'
                    go_simp
                    with_reducible rfl
                  rotate_left
                  · simp only [Act.put, nm]
                    rfl
                  refine pA 6 16 ?_ rfl rfl (any_of HT_.out (by kernel_rfl)) (fun _ _ _ h => h) ⟨by rfl, ?_⟩ ?_ ?_ ?_
                  rotate_left
                  · intro w'
                    go_simp
                    with_reducible rfl
                  rotate_left
                  · simp only [Act.put, nm]
                    rfl
                  refine pA 7 17 ?_ rfl rfl (any_of HT_.out (by kernel_rfl)) (fun _ _ _ h => h) ⟨by rfl, ?_⟩ ?_ ?_ ?_
                  rotate_left
                  · intro w'
                    go_simp
                    with_reducible rfl
                  rotate_left
                  · simp only [Act.put, nm]
                    rfl
                  refine pA 8 18 ?_ rfl rfl (any_of HT_.out (by kernel_rfl)) (fun _ _ _ h => h) ⟨by rfl, ?_⟩ ?_ ?_ ?_
                  rotate_left
                  · intro w'
                    go_simp
                    with_reducible rfl
                  rotate_left
                  · simp only [Act.put, nm]
                    rfl
                  refine pA 9 19 ?_ rfl rfl (any_of HT_.out (by kernel_rfl)) (fun _ _ _ h => h) ⟨by rfl, ?_⟩ ?_ ?_ ?_
                  rotate_left
                  · intro w'
                    go_simp
                    with_reducible rfl
                  rotate_left
                  · simp only [Act.put, nm]
                    rfl
                  refine pA 10 20 ?_ rfl rfl (any_of HT_.out (by kernel_rfl)) (fun _ _ _ h => h) ⟨by rfl, ?_⟩ ?_ ?_ ?_
                  rotate_left
                  · intro w'
                    go_simp
                    with_reducible rfl
                  rotate_left
                  · simp only [Act.put, nm]
                    rfl
                  refine pA 11 21 ?_ rfl rfl (any_of HT_.out (by kernel_rfl)) (fun _ _ _ h => h) ⟨by rfl, ?_⟩ ?_ ?_ ?_
                  rotate_left
                  · intro w'
                    go_simp
                    with_reducible rfl
                  rotate_left
                  · simp only [Act.put, nm]
                    rfl
                  refine pA 12 22 ?_ rfl rfl (any_of HT_.out (by kernel_rfl)) (fun _ _ _ h => h) ⟨by rfl, ?_⟩ ?_ ?_ ?_
                  rotate_left
                  · intro w'
                    go_simp
                    with_reducible rfl
                  rotate_left
                  · simp only [Act.put, nm]
                    rfl
                  refine pA 13 23 ?_ rfl rfl (any_of HT_.out (by kernel_rfl)) (fun _ _ _ h => h) ⟨by rfl, ?_⟩ ?_ ?_ ?_
                  rotate_left
                  · intro w'
                    go_simp
                    with_reducible rfl
                  rotate_left
                  · simp only [Act.put, nm]
                    rfl
                  refine pA 15 25 ?_ rfl rfl (any_of HT_.out (by kernel_rfl)) (fun _ _ _ h => h) ⟨by rfl, ?_⟩ ?_ ?_ ?_
                  rotate_left
                  · intro w'
                    go_simp
                    with_reducible rfl
                  rotate_left
                  · simp only [Act.put, nm]
                    rfl
                  refine pA 16 26 ?_ rfl rfl (any_of HT_.out (by kernel_rfl)) (fun _ _ _ h => h) ⟨by rfl, ?_⟩ ?_ ?_ ?_
                  rotate_left
                  · intro w'
                    go_simp
                    with_reducible rfl
                  rotate_left
                  · simp only [Act.put, nm]
                    rfl
                  refine pA 17 27 ?_ rfl rfl (any_of HT_.out (by kernel_rfl)) (fun _ _ _ h => h) ⟨by rfl, ?_⟩ ?_ ?_ ?_
                  rotate_left
                  · intro w'
                    go_simp
                    with_reducible rfl
                  rotate_left
                  · simp only [Act.put, nm]
                    rfl
                  refine take_ (i := 14) (N := some 24) (v := ?_) (a' := ?_) #[true, true, true, true, true, true, true, true, true, true, true, true, true, true, true, true, true, true, false, false, false, false, false] rfl rfl (take_ofW HT_.out HW_.out (by kernel_rfl)) (fun _ _ _ h => h) (Or.inl ⟨by rfl, ?_⟩) hHeld ?_ ?_
                  rotate_left
                  · rintro w' ⟨s0, s1, s2, s3, s4, s5, s6, s7, s8, s9, s10, s11⟩
                    go_simp
                    with_reducible rfl
                  rotate_left
                  · simp only [Act.put, nm]
                    rfl
                  refine take_ (i := 18) (N := some 28) (v := ?_) (a' := ?_) #[true, true, true, true, true, true, true, true, true, true, true, true, true, true, true, true, true, true, true, false, false, false, false] rfl rfl (take_ofW HT_.out HW_.out (by kernel_rfl)) (fun _ _ _ h => h) (Or.inl ⟨by rfl, ?_⟩) hHeld ?_ ?_
                  rotate_left
                  · rintro w' ⟨s0, s1, s2, s3, s4, s5, s6, s7, s8, s9, s10, s11⟩
                    go_simp
                    with_reducible rfl
                  rotate_left
                  · simp only [Act.put, nm]
                    rfl
                  refine one_ (i := 19) (N := some 29) #[true, true, true, true, true, true, true, true, true, true, true, true, true, true, true, true, true, true, true, true, false, false, false] rfl rfl (one_of HT_.out (by kernel_rfl)) (by decide) (fun K hK => ?_)
                  refine goes_ Tryd.func27 (by kernel_rfl) rfl #[.agg #[.int .i64 ((rd_T26 l0 (ji7)).f0), .int .i64 ((rd_T26 l0 (ji7)).f1), .int .i64 ((rd_T26 l0 (ji7)).f2), .int .i64 ((rd_T26 l0 (ji7)).f3)], .agg #[.int .i64 ((rd_T26 l0 x3_1).f0), .int .i64 ((rd_T26 l0 x3_1).f1), .int .i64 ((rd_T26 l0 x3_1).f2), .int .i64 ((rd_T26 l0 x3_1).f3)]] (by rfl) rfl rfl (by (try simp only [List.map_toArray, List.map_cons, List.map_nil]); first | done | (simp only [hji7]; rfl) | rfl | (simp only [List.length_drop, List.length_take]; rfl)) ?_
                  with_reducible refine (spec_l4Before.calls ((rd_T26 l0 (ji7)).f0) ((rd_T26 l0 (ji7)).f1) ((rd_T26 l0 (ji7)).f2) ((rd_T26 l0 (ji7)).f3) ((rd_T26 l0 x3_1).f0) ((rd_T26 l0 x3_1).f1) ((rd_T26 l0 x3_1).f2) ((rd_T26 l0 x3_1).f3) t115 _ A10.out).mono ?_
                  rintro e w13 ⟨rfl, hb⟩
                  refine ⟨_, rfl, ?_⟩
                  have n0_ := Aside0.mk (below_step (HB.out) hb)
                  clear HB
                  have HB := n0_
                  clear n0_
                  (try clear hb)
                  (try clear hb2)
                  (try clear hk)
                  (try clear hi)
                  refine hK.out _ _ ⟨((HB.out.cell (World.block_lt_of_cell? w _ hw111_0)).trans hw111_0), ((HB.out.cell (World.block_lt_of_cell? w _ hw111_1)).trans hw111_1), ((HB.out.cell (World.block_lt_of_cell? w _ hw111_2)).trans hw111_2), ((HB.out.cell (World.block_lt_of_cell? w _ hw111_3)).trans hw111_3), ((HB.out.cell (World.block_lt_of_cell? w _ hw113_0)).trans hw113_0), ((HB.out.cell (World.block_lt_of_cell? w _ hw113_1)).trans hw113_1), ((HB.out.cell (World.block_lt_of_cell? w _ hw113_2)).trans hw113_2), ((HB.out.cell (World.block_lt_of_cell? w _ hw113_3)).trans hw113_3), ((HB.out.cell (World.block_lt_of_cell? w _ hw114_0)).trans hw114_0), ((HB.out.cell (World.block_lt_of_cell? w _ hw114_1)).trans hw114_1), ((HB.out.cell (World.block_lt_of_cell? w _ hw114_2)).trans hw114_2), ((HB.out.cell (World.block_lt_of_cell? w _ hw114_3)).trans hw114_3)⟩ (fun hHeld => ?_)
                  clear hK K
                  refine norm_ (a' := ?_) ?_ ?_
                  rotate_left
                  · show Act.put _ (some 29) _ = _
                    simp only [Act.put, nm]
                    rfl
                  refine pA 20 30 ?_ rfl rfl (any_of HT_.out (by kernel_rfl)) (fun _ _ _ h => h) ⟨by rfl, ?_⟩ ?_ ?_ ?_
                  rotate_left
                  · intro w'
                    go_simp
                    with_reducible rfl
                  rotate_left
                  · simp only [Act.put, nm]
                    rfl
                  refine pA 21 31 ?_ rfl rfl (any_of HT_.out (by kernel_rfl)) (fun _ _ _ h => h) ⟨by rfl, ?_⟩ ?_ ?_ ?_
                  rotate_left
                  · intro w'
                    go_simp
                    with_reducible rfl
                  rotate_left
                  · simp only [Act.put, nm]
                    rfl
                  refine pA 22 32 ?_ rfl rfl (any_of HT_.out (by kernel_rfl)) (fun _ _ _ h => h) ⟨by rfl, ?_⟩ ?_ ?_ ?_
                  rotate_left
                  · intro w'
                    go_simp
                    with_reducible rfl
                  rotate_left
                  · simp only [Act.put, nm]
                    rfl
                  refine done_ (done_of HT_.out (by kernel_rfl)) ?_
                  go_upto_if 32 with (fail)
                  have H := HF.out
                  clear HF
                  by_cases c14 : t115 = true
                  · subst c14
                    have H1 : (spec_PoolOk.l0 k1 l0 (wrap64 (x3_1 + 1))) = some r := by rw [if_pos rfl] at H; exact H
                    clear H
                    have H := H1
                    clear H1
                    have H' := Aside0.mk H
                    clear H
                    go_wp2
                    go_roundg k1
                    case measure => have := HK1.out; omega
                    case rel => exact ⟨(wrap64 (x3_1 + 1)), (by first | rfl | (simp; done) | (simp [*]; done)), H', ⟨by have := HK1.out; omega⟩, ⟨HB.out⟩⟩
                  · replace c14 := Bool.eq_false_iff.mpr c14
                    subst c14
                    have H1 : (some false) = some r := by rw [if_neg (show ¬ (false = true) by decide)] at H; exact H
                    clear H
                    have H := H1
                    clear H1
                    obtain rfl := Option.some.inj H
                    go_wp2
                    go_ret
                    exact ⟨by first | rfl | (simp [errW_none, errW_some] <;> rfl) | (simp only [← hji7]; first | rfl | (simp [errW_none, errW_some] <;> rfl)) | (simp [*, errW_none, errW_some] <;> rfl), HB.out⟩
                · rw [if_neg c9] at H
                  exact absurd H (by simp)
              · rw [if_neg c8] at H
                exact absurd H (by simp)
            · rw [if_neg c6] at H
              have c6b0 : decide (0 < x3_1) = false := decide_eq_false c6
              clear c6
              have H' := Aside0.mk H
              clear H
              try go_wp2
              have n0_ := Aside0.mk (below_drew1 HB.out)
              clear HB
              have HB := n0_
              clear n0_
              have p111 : 0 ≤ (x3_1 : Int) := of_decide_eq_true (by first | (with_reducible assumption) | assumption)
              have q111 : x3_1 < (l0.length : Int) := of_decide_eq_true (by first | (with_reducible assumption) | assumption)
              obtain ⟨ad111, e111, hx111_0, hx111_1, hx111_2, hx111_3⟩ := at_T26 HR0.out x3_1 p111 q111
              have hw111_3 := hx111_3
              have hw111_2 := hx111_2
              have hw111_1 := hx111_1
              have hw111_0 := hx111_0
              cases e111
              replace hx111_0 := (HB.out.cell (World.block_lt_of_cell? w _ hx111_0)).trans hx111_0
              replace hx111_1 := (HB.out.cell (World.block_lt_of_cell? w _ hx111_1)).trans hx111_1
              replace hx111_2 := (HB.out.cell (World.block_lt_of_cell? w _ hx111_2)).trans hx111_2
              replace hx111_3 := (HB.out.cell (World.block_lt_of_cell? w _ hx111_3)).trans hx111_3
              replace p111 := eq_true p111
              replace q111 := eq_true q111
              refine start_ (n := 23) (S := fun w' => w'.cell? (ad111.add ((x3_1).toNat * 4)) = some (.int .i64 ((rd_T26 l0 x3_1).f0)) ∧ w'.cell? ⟨(ad111.add ((x3_1).toNat * 4)).block, (ad111.add ((x3_1).toNat * 4)).off + 1, none⟩ = some (.int .i64 ((rd_T26 l0 x3_1).f1)) ∧ w'.cell? ⟨(ad111.add ((x3_1).toNat * 4)).block, (ad111.add ((x3_1).toNat * 4)).off + 2, none⟩ = some (.int .i64 ((rd_T26 l0 x3_1).f2)) ∧ w'.cell? ⟨(ad111.add ((x3_1).toNat * 4)).block, (ad111.add ((x3_1).toNat * 4)).off + 3, none⟩ = some (.int .i64 ((rd_T26 l0 x3_1).f3))) (ds := []) #[false, false, false, false, false, false, false, false, false, false, false, false, false, false, false, false, false, false, false, false, false, false, false] (by kernel_rfl) rfl rfl ⟨((HB.out.cell (World.block_lt_of_cell? w _ hw111_0)).trans hw111_0), ((HB.out.cell (World.block_lt_of_cell? w _ hw111_1)).trans hw111_1), ((HB.out.cell (World.block_lt_of_cell? w _ hw111_2)).trans hw111_2), ((HB.out.cell (World.block_lt_of_cell? w _ hw111_3)).trans hw111_3)⟩ (fun hHeld => ?_); refine with_tabW spec_PoolOk.tab4 spec_PoolOk.bits4 (fun HT_ HW_ => ?_)
              generalize wr.drew = w15 at HB hx111_0 hx111_1 hx111_2 hx111_3 hHeld ⊢
              refine pA 0 10 ?_ rfl rfl (any_of HT_.out (by kernel_rfl)) (fun _ _ _ h => h) ⟨by rfl, ?_⟩ ?_ ?_ ?_
              rotate_left
              · intro w'
                go_simp
                with_reducible rfl
              rotate_left
              · simp only [Act.put, nm]
                rfl
              refine pA 1 11 ?_ rfl rfl (any_of HT_.out (by kernel_rfl)) (fun _ _ _ h => h) ⟨by rfl, ?_⟩ ?_ ?_ ?_
              rotate_left
              · intro w'
                go_simp
                with_reducible rfl
              rotate_left
              · simp only [Act.put, nm]
                rfl
              refine pA 2 12 ?_ rfl rfl (any_of HT_.out (by kernel_rfl)) (fun _ _ _ h => h) ⟨by rfl, ?_⟩ ?_ ?_ ?_
              rotate_left
              · intro w'
                go_simp
                with_reducible rfl
              rotate_left
              · simp only [Act.put, nm]
                rfl
              refine take_ (i := 3) (N := some 13) (v := ?_) (a' := ?_) #[true, true, true, true, false, false, false, false, false, false, false, false, false, false, false, false, false, false, false, false, false, false, false] rfl rfl (take_ofW HT_.out HW_.out (by kernel_rfl)) (fun _ _ _ h => h) (Or.inl ⟨by rfl, ?_⟩) hHeld ?_ ?_
              rotate_left
              · rintro w' ⟨s0, s1, s2, s3⟩
                go_simp
                with_reducible rfl
              rotate_left
              · simp only [Act.put, nm]
                rfl
              refine one_ (i := 4) (N := some 14) #[true, true, true, true, true, false, false, false, false, false, false, false, false, false, false, false, false, false, false, false, false, false, false] rfl rfl (one_of HT_.out (by kernel_rfl)) (by decide) (fun K hK => ?_)
              refine goes_ Tryd.func33 (by kernel_rfl) rfl #[.agg #[.int .i64 ((rd_T26 l0 x3_1).f0), .int .i64 ((rd_T26 l0 x3_1).f1), .int .i64 ((rd_T26 l0 x3_1).f2), .int .i64 ((rd_T26 l0 x3_1).f3)]] (by rfl) rfl rfl (by (try simp only [mp]); first | done | rfl) ?_
              with_reducible refine (spec_TxOk.calls ((rd_T26 l0 x3_1).f0) ((rd_T26 l0 x3_1).f1) ((rd_T26 l0 x3_1).f2) ((rd_T26 l0 x3_1).f3) true _ A4.out).mono ?_
              rintro e w16 ⟨rfl, hb⟩
              refine ⟨_, rfl, ?_⟩
              have n0_ := Aside0.mk (below_step (HB.out) hb)
              clear HB
              have HB := n0_
              clear n0_
              (try clear hb)
              (try clear hb2)
              (try clear hk)
              (try clear hi)
              refine hK.out _ _ ⟨((HB.out.cell (World.block_lt_of_cell? w _ hw111_0)).trans hw111_0), ((HB.out.cell (World.block_lt_of_cell? w _ hw111_1)).trans hw111_1), ((HB.out.cell (World.block_lt_of_cell? w _ hw111_2)).trans hw111_2), ((HB.out.cell (World.block_lt_of_cell? w _ hw111_3)).trans hw111_3)⟩ (fun hHeld => ?_)
              clear hK K
              refine norm_ (a' := ?_) ?_ ?_
              rotate_left
              · show Act.put _ (some 14) _ = _
                simp only [Act.put, nm]
                rfl
              refine pA 5 15 ?_ rfl rfl (any_of HT_.out (by kernel_rfl)) (fun _ _ _ h => h) ⟨by rfl, ?_⟩ ?_ ?_ ?_
              rotate_left
              · intro w'
                go_simp
                with_reducible rfl
              rotate_left
              · simp only [Act.put, nm]
                rfl
              refine pA 6 16 ?_ rfl rfl (any_of HT_.out (by kernel_rfl)) (fun _ _ _ h => h) ⟨by rfl, ?_⟩ ?_ ?_ ?_
              rotate_left
              · intro w'
                go_simp
                with_reducible rfl
              rotate_left
              · simp only [Act.put, nm]
                rfl
              refine pA 7 17 ?_ rfl rfl (any_of HT_.out (by kernel_rfl)) (fun _ _ _ h => h) ⟨by rfl, ?_⟩ ?_ ?_ ?_
              rotate_left
              · intro w'
                go_simp
                with_reducible rfl
              rotate_left
              · simp only [Act.put, nm]
                rfl
              refine pA 8 18 ?_ rfl rfl (any_of HT_.out (by kernel_rfl)) (fun _ _ _ h => h) ⟨by rfl, ?_⟩ ?_ ?_ ?_
              rotate_left
              · intro w'
                go_simp
                with_reducible rfl
              rotate_left
              · simp only [Act.put, nm]
                rfl
              refine pA 9 19 ?_ rfl rfl (any_of HT_.out (by kernel_rfl)) (fun _ _ _ h => h) ⟨by rfl, ?_⟩ ?_ ?_ ?_
              rotate_left
              · intro w'
                go_simp
                with_reducible rfl
              rotate_left
              · simp only [Act.put, nm]
                rfl
              refine pU 10 20 rfl rfl (any_of HT_.out (by kernel_rfl)) (fun _ _ _ h => h) (by rfl) ?_ ?_ ?_
              rotate_left
              · simp only [Act.put, nm]
                rfl
              refine pU 11 21 rfl rfl (any_of HT_.out (by kernel_rfl)) (fun _ _ _ h => h) (by rfl) ?_ ?_ ?_
              rotate_left
              · simp only [Act.put, nm]
                rfl
              refine pU 12 22 rfl rfl (any_of HT_.out (by kernel_rfl)) (fun _ _ _ h => h) (by rfl) ?_ ?_ ?_
              rotate_left
              · simp only [Act.put, nm]
                rfl
              refine pU 13 23 rfl rfl (any_of HT_.out (by kernel_rfl)) (fun _ _ _ h => h) (by rfl) ?_ ?_ ?_
              rotate_left
              · simp only [Act.put, nm]
                rfl
              refine pU 14 24 rfl rfl (any_of HT_.out (by kernel_rfl)) (fun _ _ _ h => h) (by rfl) ?_ ?_ ?_
              rotate_left
              · simp only [Act.put, nm]
                rfl
              refine pU 15 25 rfl rfl (any_of HT_.out (by kernel_rfl)) (fun _ _ _ h => h) (by rfl) ?_ ?_ ?_
              rotate_left
              · simp only [Act.put, nm]
                rfl
              refine pU 16 26 rfl rfl (any_of HT_.out (by kernel_rfl)) (fun _ _ _ h => h) (by rfl) ?_ ?_ ?_
              rotate_left
              · simp only [Act.put, nm]
                rfl
              refine pU 17 27 rfl rfl (any_of HT_.out (by kernel_rfl)) (fun _ _ _ h => h) (by rfl) ?_ ?_ ?_
              rotate_left
              · simp only [Act.put, nm]
                rfl
              refine pU 18 28 rfl rfl (any_of HT_.out (by kernel_rfl)) (fun _ _ _ h => h) (by rfl) ?_ ?_ ?_
              rotate_left
              · simp only [Act.put, nm]
                rfl
              refine pU 19 29 rfl rfl (any_of HT_.out (by kernel_rfl)) (fun _ _ _ h => h) (by rfl) ?_ ?_ ?_
              rotate_left
              · simp only [Act.put, nm]
                rfl
              refine pU 20 30 rfl rfl (any_of HT_.out (by kernel_rfl)) (fun _ _ _ h => h) (by rfl) ?_ ?_ ?_
              rotate_left
              · simp only [Act.put, nm]
                rfl
              refine pA 21 31 ?_ rfl rfl (any_of HT_.out (by kernel_rfl)) (fun _ _ _ h => h) ⟨by rfl, ?_⟩ ?_ ?_ ?_
              rotate_left
              · intro w'
                go_simp
                with_reducible rfl
              rotate_left
              · simp only [Act.put, nm]
                rfl
              refine pA 22 32 ?_ rfl rfl (any_of HT_.out (by kernel_rfl)) (fun _ _ _ h => h) ⟨by rfl, ?_⟩ ?_ ?_ ?_
              rotate_left
              · intro w'
                go_simp
                with_reducible rfl
              rotate_left
              · simp only [Act.put, nm]
                rfl
              refine done_ (done_of HT_.out (by kernel_rfl)) ?_
              try go_wp2
              go_roundg k1
              case measure => have := HK1.out; omega
              case rel => exact ⟨(wrap64 (x3_1 + 1)), (by first | rfl | (simp; done) | (simp [*]; done)), H', ⟨by have := HK1.out; omega⟩, ⟨HB.out⟩⟩
          · replace c5 := Bool.eq_false_iff.mpr c5
            subst c5
            have H1 : (some false) = some r := by rw [if_neg (show ¬ (false = true) by decide)] at H; exact H
            clear H
            have H := H1
            clear H1
            obtain rfl := Option.some.inj H
            try go_wp2
            have n0_ := Aside0.mk (below_drew1 HB.out)
            clear HB
            have HB := n0_
            clear n0_
            have p111 : 0 ≤ (x3_1 : Int) := of_decide_eq_true (by first | (with_reducible assumption) | assumption)
            have q111 : x3_1 < (l0.length : Int) := of_decide_eq_true (by first | (with_reducible assumption) | assumption)
            obtain ⟨ad111, e111, hx111_0, hx111_1, hx111_2, hx111_3⟩ := at_T26 HR0.out x3_1 p111 q111
            have hw111_3 := hx111_3
            have hw111_2 := hx111_2
            have hw111_1 := hx111_1
            have hw111_0 := hx111_0
            cases e111
            replace hx111_0 := (HB.out.cell (World.block_lt_of_cell? w _ hx111_0)).trans hx111_0
            replace hx111_1 := (HB.out.cell (World.block_lt_of_cell? w _ hx111_1)).trans hx111_1
            replace hx111_2 := (HB.out.cell (World.block_lt_of_cell? w _ hx111_2)).trans hx111_2
            replace hx111_3 := (HB.out.cell (World.block_lt_of_cell? w _ hx111_3)).trans hx111_3
            replace p111 := eq_true p111
            replace q111 := eq_true q111
            refine start_ (n := 23) (S := fun w' => w'.cell? (ad111.add ((x3_1).toNat * 4)) = some (.int .i64 ((rd_T26 l0 x3_1).f0)) ∧ w'.cell? ⟨(ad111.add ((x3_1).toNat * 4)).block, (ad111.add ((x3_1).toNat * 4)).off + 1, none⟩ = some (.int .i64 ((rd_T26 l0 x3_1).f1)) ∧ w'.cell? ⟨(ad111.add ((x3_1).toNat * 4)).block, (ad111.add ((x3_1).toNat * 4)).off + 2, none⟩ = some (.int .i64 ((rd_T26 l0 x3_1).f2)) ∧ w'.cell? ⟨(ad111.add ((x3_1).toNat * 4)).block, (ad111.add ((x3_1).toNat * 4)).off + 3, none⟩ = some (.int .i64 ((rd_T26 l0 x3_1).f3))) (ds := []) #[false, false, false, false, false, false, false, false, false, false, false, false, false, false, false, false, false, false, false, false, false, false, false] (by kernel_rfl) rfl rfl ⟨((HB.out.cell (World.block_lt_of_cell? w _ hw111_0)).trans hw111_0), ((HB.out.cell (World.block_lt_of_cell? w _ hw111_1)).trans hw111_1), ((HB.out.cell (World.block_lt_of_cell? w _ hw111_2)).trans hw111_2), ((HB.out.cell (World.block_lt_of_cell? w _ hw111_3)).trans hw111_3)⟩ (fun hHeld => ?_); refine with_tabW spec_PoolOk.tab4 spec_PoolOk.bits4 (fun HT_ HW_ => ?_)
            generalize wr.drew = w17 at HB hx111_0 hx111_1 hx111_2 hx111_3 hHeld ⊢
            refine pA 0 10 ?_ rfl rfl (any_of HT_.out (by kernel_rfl)) (fun _ _ _ h => h) ⟨by rfl, ?_⟩ ?_ ?_ ?_
            rotate_left
            · intro w'
              go_simp
              with_reducible rfl
            rotate_left
            · simp only [Act.put, nm]
              rfl
            refine pA 1 11 ?_ rfl rfl (any_of HT_.out (by kernel_rfl)) (fun _ _ _ h => h) ⟨by rfl, ?_⟩ ?_ ?_ ?_
            rotate_left
            · intro w'
              go_simp
              with_reducible rfl
            rotate_left
            · simp only [Act.put, nm]
              rfl
            refine pA 2 12 ?_ rfl rfl (any_of HT_.out (by kernel_rfl)) (fun _ _ _ h => h) ⟨by rfl, ?_⟩ ?_ ?_ ?_
            rotate_left
            · intro w'
              go_simp
              with_reducible rfl
            rotate_left
            · simp only [Act.put, nm]
              rfl
            refine take_ (i := 3) (N := some 13) (v := ?_) (a' := ?_) #[true, true, true, true, false, false, false, false, false, false, false, false, false, false, false, false, false, false, false, false, false, false, false] rfl rfl (take_ofW HT_.out HW_.out (by kernel_rfl)) (fun _ _ _ h => h) (Or.inl ⟨by rfl, ?_⟩) hHeld ?_ ?_
            rotate_left
            · rintro w' ⟨s0, s1, s2, s3⟩
              go_simp
              with_reducible rfl
            rotate_left
            · simp only [Act.put, nm]
              rfl
            refine one_ (i := 4) (N := some 14) #[true, true, true, true, true, false, false, false, false, false, false, false, false, false, false, false, false, false, false, false, false, false, false] rfl rfl (one_of HT_.out (by kernel_rfl)) (by decide) (fun K hK => ?_)
            refine goes_ Tryd.func33 (by kernel_rfl) rfl #[.agg #[.int .i64 ((rd_T26 l0 x3_1).f0), .int .i64 ((rd_T26 l0 x3_1).f1), .int .i64 ((rd_T26 l0 x3_1).f2), .int .i64 ((rd_T26 l0 x3_1).f3)]] (by rfl) rfl rfl (by (try simp only [mp]); first | done | rfl) ?_
            with_reducible refine (spec_TxOk.calls ((rd_T26 l0 x3_1).f0) ((rd_T26 l0 x3_1).f1) ((rd_T26 l0 x3_1).f2) ((rd_T26 l0 x3_1).f3) false _ A4.out).mono ?_
            rintro e w18 ⟨rfl, hb⟩
            refine ⟨_, rfl, ?_⟩
            have n0_ := Aside0.mk (below_step (HB.out) hb)
            clear HB
            have HB := n0_
            clear n0_
            (try clear hb)
            (try clear hb2)
            (try clear hk)
            (try clear hi)
            refine hK.out _ _ ⟨((HB.out.cell (World.block_lt_of_cell? w _ hw111_0)).trans hw111_0), ((HB.out.cell (World.block_lt_of_cell? w _ hw111_1)).trans hw111_1), ((HB.out.cell (World.block_lt_of_cell? w _ hw111_2)).trans hw111_2), ((HB.out.cell (World.block_lt_of_cell? w _ hw111_3)).trans hw111_3)⟩ (fun hHeld => ?_)
            clear hK K
            refine norm_ (a' := ?_) ?_ ?_
            rotate_left
            · show Act.put _ (some 14) _ = _
              simp only [Act.put, nm]
              rfl
            refine pA 5 15 ?_ rfl rfl (any_of HT_.out (by kernel_rfl)) (fun _ _ _ h => h) ⟨by rfl, ?_⟩ ?_ ?_ ?_
            rotate_left
            · intro w'
              go_simp
              with_reducible rfl
            rotate_left
            · simp only [Act.put, nm]
              rfl
            refine pA 6 16 ?_ rfl rfl (any_of HT_.out (by kernel_rfl)) (fun _ _ _ h => h) ⟨by rfl, ?_⟩ ?_ ?_ ?_
            rotate_left
            · intro w'
              go_simp
              with_reducible rfl
            rotate_left
            · simp only [Act.put, nm]
              rfl
            refine pU 7 17 rfl rfl (any_of HT_.out (by kernel_rfl)) (fun _ _ _ h => h) (by rfl) ?_ ?_ ?_
            rotate_left
            · simp only [Act.put, nm]
              rfl
            refine pU 8 18 rfl rfl (any_of HT_.out (by kernel_rfl)) (fun _ _ _ h => h) (by rfl) ?_ ?_ ?_
            rotate_left
            · simp only [Act.put, nm]
              rfl
            refine pU 9 19 rfl rfl (any_of HT_.out (by kernel_rfl)) (fun _ _ _ h => h) (by rfl) ?_ ?_ ?_
            rotate_left
            · simp only [Act.put, nm]
              rfl
            refine pU 10 20 rfl rfl (any_of HT_.out (by kernel_rfl)) (fun _ _ _ h => h) (by rfl) ?_ ?_ ?_
            rotate_left
            · simp only [Act.put, nm]
              rfl
            refine pU 11 21 rfl rfl (any_of HT_.out (by kernel_rfl)) (fun _ _ _ h => h) (by rfl) ?_ ?_ ?_
            rotate_left
            · simp only [Act.put, nm]
              rfl
            refine pU 12 22 rfl rfl (any_of HT_.out (by kernel_rfl)) (fun _ _ _ h => h) (by rfl) ?_ ?_ ?_
            rotate_left
            · simp only [Act.put, nm]
              rfl
            refine pU 13 23 rfl rfl (any_of HT_.out (by kernel_rfl)) (fun _ _ _ h => h) (by rfl) ?_ ?_ ?_
            rotate_left
            · simp only [Act.put, nm]
              rfl
            refine pU 14 24 rfl rfl (any_of HT_.out (by kernel_rfl)) (fun _ _ _ h => h) (by rfl) ?_ ?_ ?_
            rotate_left
            · simp only [Act.put, nm]
              rfl
            refine pU 15 25 rfl rfl (any_of HT_.out (by kernel_rfl)) (fun _ _ _ h => h) (by rfl) ?_ ?_ ?_
            rotate_left
            · simp only [Act.put, nm]
              rfl
            refine pU 16 26 rfl rfl (any_of HT_.out (by kernel_rfl)) (fun _ _ _ h => h) (by rfl) ?_ ?_ ?_
            rotate_left
            · simp only [Act.put, nm]
              rfl
            refine pU 17 27 rfl rfl (any_of HT_.out (by kernel_rfl)) (fun _ _ _ h => h) (by rfl) ?_ ?_ ?_
            rotate_left
            · simp only [Act.put, nm]
              rfl
            refine pU 18 28 rfl rfl (any_of HT_.out (by kernel_rfl)) (fun _ _ _ h => h) (by rfl) ?_ ?_ ?_
            rotate_left
            · simp only [Act.put, nm]
              rfl
            refine pU 19 29 rfl rfl (any_of HT_.out (by kernel_rfl)) (fun _ _ _ h => h) (by rfl) ?_ ?_ ?_
            rotate_left
            · simp only [Act.put, nm]
              rfl
            refine pU 20 30 rfl rfl (any_of HT_.out (by kernel_rfl)) (fun _ _ _ h => h) (by rfl) ?_ ?_ ?_
            rotate_left
            · simp only [Act.put, nm]
              rfl
            refine pU 21 31 rfl rfl (any_of HT_.out (by kernel_rfl)) (fun _ _ _ h => h) (by rfl) ?_ ?_ ?_
            rotate_left
            · simp only [Act.put, nm]
              rfl
            refine pA 22 32 ?_ rfl rfl (any_of HT_.out (by kernel_rfl)) (fun _ _ _ h => h) ⟨by rfl, ?_⟩ ?_ ?_ ?_
            rotate_left
            · intro w'
              go_simp
              with_reducible rfl
            rotate_left
            · simp only [Act.put, nm]
              rfl
            refine done_ (done_of HT_.out (by kernel_rfl)) ?_
            try go_wp2
            go_ret
            exact ⟨rfl, HB.out⟩
        · rw [if_neg c3] at H
          exact absurd H (by simp)
      · rw [if_neg c2] at H
        have c2b0 : decide (x3_1 < (l0.length : Int)) = false := decide_eq_false c2
        clear c2
        (first | rw [c2b0] | (simp only [i64_w, i32_w]; rw [c2b0]) | skip)
        obtain rfl := Option.some.inj H
        go_wp2
        go_ret
        exact ⟨rfl, HB.out⟩

end Go.Proofs.YtnlakfbbbnkcpaaDoor.PFnPools
