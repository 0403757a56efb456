/- Walks of the functions that a law of seat YtnlakfbbbnkcpaaDoor reaches, each against a Lean function, printed by this session's wip/myprint.py; no condition of their own. -/
import Derived.Test.YtnlakfbbbnkcpaaDoorPFnPoolsx0
import Derived.Test.YtnlakfbbbnkcpaaDoorPFnPoolsx5
namespace Go.Proofs.YtnlakfbbbnkcpaaDoor.PFnPools
open Go.RowKit Go.Proofs.YtnlakfbbbnkcpaaDoorW.PrintWords Go.Proofs.YtnlakfbbbnkcpaaDoorW.PrintLast Go.Proofs.YtnlakfbbbnkcpaaDoorW.PrintMore
attribute [local go_sem] max2_int min2_int max_two min_two max_three min_three max_four min_four   -- for this text's walks alone
set_option linter.unusedVariables false
set_option linter.unusedSimpArgs false

/-! ### impl_PoolOk: function 16 -/
def impl_PoolOk.l0 : Nat → List (S26) → List (S26) → Int → Int → Option (Bool)
  | 0, _, _, _, _ => none
  | k + 1, x0, x5, x6, x7 => if x7 < x6 then (if 0 ≤ x7 then (if x7 < (x5.length : Int) then ((impl_TxOk.f ((rd_T26 x5 x7).f0) ((rd_T26 x5 x7).f1) ((rd_T26 x5 x7).f2) ((rd_T26 x5 x7).f3)).bind fun t306 => (if t306 = true then (if x7 > 0 then (if 0 ≤ (wrap64 (x7 - 1)) then (if (wrap64 (x7 - 1)) < (x0.length : Int) then ((impl_beforeTx.f ((rd_T26 x0 (wrap64 (x7 - 1))).f0) ((rd_T26 x0 (wrap64 (x7 - 1))).f1) ((rd_T26 x0 (wrap64 (x7 - 1))).f2) ((rd_T26 x0 (wrap64 (x7 - 1))).f3) ((rd_T26 x5 x7).f0) ((rd_T26 x5 x7).f1) ((rd_T26 x5 x7).f2) ((rd_T26 x5 x7).f3)).bind fun t308 => (if t308 = true then (impl_PoolOk.l0 k x0 x5 x6 (wrap64 (x7 + 1))) else (some false))) else (none)) else (none)) else (impl_PoolOk.l0 k x0 x5 x6 (wrap64 (x7 + 1)))) else (some false))) else (none)) else (none)) else (some (decide ((x0.length : Int) ≤ 12)))
def impl_PoolOk.f (k : Nat) (l0 : List (S26)) : Option (Bool) := impl_PoolOk.l0 k l0 l0 (l0.length : Int) 0
theorem impl_PoolOk.mono_l : ∀ k, (∀ y0 y1 y2 y3, LeO (impl_PoolOk.l0 k y0 y1 y2 y3) (impl_PoolOk.l0 (k + 1) y0 y1 y2 y3))
  | 0 => fun _ _ _ _ r h => by simp [impl_PoolOk.l0] at h
  | k + 1 => by
    have ih0 := impl_PoolOk.mono_l k
    · intro y0 y1 y2 y3
      unfold impl_PoolOk.l0
      repeat' first
      | (with_reducible exact ih0 _ _ _ _)
      | (with_reducible exact LeO.refl _)
      | (with_reducible exact LeO.none _)
      | (with_reducible refine LeO.ite ?_ ?_)
      | (with_reducible refine LeO.bind ?_ (fun _ => ?_))
      | exact ih0 _ _ _ _
      | exact LeO.none _
      | refine LeO.ite ?_ ?_
      | refine LeO.bind ?_ (fun _ => ?_)
theorem impl_PoolOk.mono : ∀ a0 k, LeO (impl_PoolOk.f k a0) (impl_PoolOk.f (k + 1) a0) := by
  intro a0 k
  have ih0 := impl_PoolOk.mono_l k
  unfold impl_PoolOk.f
  repeat' first
      | (with_reducible exact ih0 _ _ _ _)
      | (with_reducible exact LeO.refl _)
      | (with_reducible exact LeO.none _)
      | (with_reducible refine LeO.ite ?_ ?_)
      | (with_reducible refine LeO.bind ?_ (fun _ => ?_))
      | exact ih0 _ _ _ _
      | exact LeO.none _
      | refine LeO.ite ?_ ?_
      | refine LeO.bind ?_ (fun _ => ?_)
def impl_PoolOk.T4 : Bool × List (List Nat × List Nat) := (true, [([], []), ([0], [0]), ([1], [1]), ([2, 1], [2]), ([3], [3]), ([4, 3], [3, 4]), ([5, 3, 3], [3, 5]), ([6], [6]), ([6], [6]), ([8, 6], [6, 8]), ([7, 9, 6], [6, 7, 9]), ([10, 6], [6, 10]), ([6], [6]), ([11, 12, 6, 6], [6, 11, 12]), ([13, 6], [6, 13]), ([6, 14, 3], [3, 6, 14]), ([3, 15], [3, 15])])
def impl_PoolOk.B4 : List Nat := [0, 1, 3, 7, 15, 31, 63, 127, 127, 383, 1023, 2047, 127, 8191, 16383, 32767, 65535]
theorem impl_PoolOk.tab4 : rtab .any (opsOf Tryd.f16 4) = impl_PoolOk.T4 := by kernel_rfl
theorem impl_PoolOk.bits4 : waitsOk impl_PoolOk.T4.2 impl_PoolOk.B4 = true := by kernel_rfl
set_option maxHeartbeats 8000000 in
set_option maxRecDepth 100000 in
theorem impl_PoolOk.calls (k : Nat) (A0 : Option Addr) (c0 : Nat) (l0 : List (S26)) (r : Bool) (w : World) (hr0 : Kd.C k26 w A0 l0.length l0) (hc0 : l0.length ≤ c0) (h : impl_PoolOk.f k l0 = some r) :
    Calls Tryd.prog 16 #[.slice A0 l0.length c0] w fun e w' => e = .returned (.bool r) ∧ Below w.heap.size w w' := by
  have hu26 := Tryd.underlying26
  have HR0 := Aside0.mk hr0
  have HC0 := Aside0.mk hc0
  clear hr0 hc0
  have HB := Aside0.mk (Below.refl w.heap.size w)
  have H : (impl_PoolOk.l0 k l0 l0 (l0.length : Int) 0) = some r := h
  clear h
  have H' := Aside0.mk H
  clear H
  go_enter Tryd.func16, Tryd.ntmps16
  go_wp2
  go_loopg [7] k (fun kq v7 w' => ∃ (x7_1 : Int), v7 = .int .i64 x7_1 ∧ Aside0 (impl_PoolOk.l0 kq l0 l0 (l0.length : Int) x7_1 = some r) ∧ Aside0 (kq ≤ k) ∧ Aside0 (Below w.heap.size w w'))
  case atStart => exact ⟨(0), (by first | rfl | (simp; done) | (simp [*]; done)), H', ⟨Nat.le_refl _⟩, ⟨HB.out⟩⟩
  case round =>
    clear H'
    try clear c1
    obtain ⟨x7_1, rfl, HA, HK1, HB⟩ := hrel
    cases gk with
    | zero => exact absurd HA.out (by simp [impl_PoolOk.l0])
    | succ k1 =>
      have H := HA.out
      clear HA
      simp only [impl_PoolOk.l0] at H
      have HF := Aside0.mk H
      clear H
      go_upto_if 8 with (fail)
      have H := HF.out
      clear HF
      by_cases c2 : x7_1 < (l0.length : Int)
      · rw [if_pos c2] at H
        have c2b0 : decide (x7_1 < (l0.length : Int)) = true := decide_eq_true c2
        clear c2
        (first | rw [c2b0] | (simp only [i64_w, i32_w]; rw [c2b0]) | skip)
        by_cases c3 : 0 ≤ x7_1
        · rw [if_pos c3] at H
          have c3b0 : decide (0 ≤ x7_1) = true := decide_eq_true c3
          clear c3
          by_cases c4 : x7_1 < (l0.length : Int)
          · rw [if_pos c4] at H
            have c4b0 : decide (x7_1 < (l0.length : Int)) = true := decide_eq_true c4
            clear c4
            replace H := Option.bind_eq_some_iff.mp H
            obtain ⟨t306, A50, H⟩ := H
            replace H : (if t306 = true then (if x7_1 > 0 then (if 0 ≤ (wrap64 (x7_1 - 1)) then (if (wrap64 (x7_1 - 1)) < (l0.length : Int) then ((impl_beforeTx.f ((rd_T26 l0 (wrap64 (x7_1 - 1))).f0) ((rd_T26 l0 (wrap64 (x7_1 - 1))).f1) ((rd_T26 l0 (wrap64 (x7_1 - 1))).f2) ((rd_T26 l0 (wrap64 (x7_1 - 1))).f3) ((rd_T26 l0 x7_1).f0) ((rd_T26 l0 x7_1).f1) ((rd_T26 l0 x7_1).f2) ((rd_T26 l0 x7_1).f3)).bind fun t308 => (if t308 = true then (impl_PoolOk.l0 k1 l0 l0 (l0.length : Int) (wrap64 (x7_1 + 1))) else (some false))) else (none)) else (none)) else (impl_PoolOk.l0 k1 l0 l0 (l0.length : Int) (wrap64 (x7_1 + 1)))) else (some false)) = some r := H
            have A5 := Aside0.mk A50
            clear A50
            by_cases c6 : t306 = true
            · subst c6
              have H1 : (if x7_1 > 0 then (if 0 ≤ (wrap64 (x7_1 - 1)) then (if (wrap64 (x7_1 - 1)) < (l0.length : Int) then ((impl_beforeTx.f ((rd_T26 l0 (wrap64 (x7_1 - 1))).f0) ((rd_T26 l0 (wrap64 (x7_1 - 1))).f1) ((rd_T26 l0 (wrap64 (x7_1 - 1))).f2) ((rd_T26 l0 (wrap64 (x7_1 - 1))).f3) ((rd_T26 l0 x7_1).f0) ((rd_T26 l0 x7_1).f1) ((rd_T26 l0 x7_1).f2) ((rd_T26 l0 x7_1).f3)).bind fun t308 => (if t308 = true then (impl_PoolOk.l0 k1 l0 l0 (l0.length : Int) (wrap64 (x7_1 + 1))) else (some false))) else (none)) else (none)) else (impl_PoolOk.l0 k1 l0 l0 (l0.length : Int) (wrap64 (x7_1 + 1)))) = some r := by rw [if_pos rfl] at H; exact H
              clear H
              have H := H1
              clear H1
              by_cases c7 : x7_1 > 0
              · rw [if_pos c7] at H
                have c7b0 : decide (0 < x7_1) = true := decide_eq_true c7
                clear c7
                obtain ⟨ji8, hji8⟩ : ∃ j_ : Int, (wrap64 (x7_1 - 1)) = j_ := ⟨_, rfl⟩
                replace H : (if 0 ≤ (ji8) then (if (ji8) < (l0.length : Int) then ((impl_beforeTx.f ((rd_T26 l0 (ji8)).f0) ((rd_T26 l0 (ji8)).f1) ((rd_T26 l0 (ji8)).f2) ((rd_T26 l0 (ji8)).f3) ((rd_T26 l0 x7_1).f0) ((rd_T26 l0 x7_1).f1) ((rd_T26 l0 x7_1).f2) ((rd_T26 l0 x7_1).f3)).bind fun t308 => (if t308 = true then (impl_PoolOk.l0 k1 l0 l0 (l0.length : Int) (wrap64 (x7_1 + 1))) else (some false))) else (none)) else (none)) = some r := by first | (rw [hji8] at H; exact H) | (simp only [hji8] at H ⊢; exact H)
                (try rw [hji8] at A5)
                have hji8w : (IntKind.i64.wrap (x7_1 - 1)) = ji8 := (i64_w _).trans hji8
                by_cases c9 : 0 ≤ (ji8)
                · rw [if_pos c9] at H
                  have c9b0 : decide (0 ≤ (ji8)) = true := decide_eq_true c9
                  clear c9
                  by_cases c10 : (ji8) < (l0.length : Int)
                  · rw [if_pos c10] at H
                    have c10b0 : decide ((ji8) < (l0.length : Int)) = true := decide_eq_true c10
                    clear c10
                    replace H := Option.bind_eq_some_iff.mp H
                    obtain ⟨t308, A110, H⟩ := H
                    replace H : (if t308 = true then (impl_PoolOk.l0 k1 l0 l0 (l0.length : Int) (wrap64 (x7_1 + 1))) else (some false)) = some r := H
                    have A11 := Aside0.mk A110
                    clear A110
                    have HF := Aside0.mk H
                    clear H
                    have p304 : 0 ≤ (x7_1 : Int) := of_decide_eq_true (by first | (with_reducible assumption) | assumption)
                    have q304 : x7_1 < (l0.length : Int) := of_decide_eq_true (by first | (with_reducible assumption) | assumption)
                    obtain ⟨ad304, e304, hx304_0, hx304_1, hx304_2, hx304_3⟩ := at_T26 HR0.out x7_1 p304 q304
                    cases e304
                    replace hx304_0 := (HB.out.cell (World.block_lt_of_cell? w _ hx304_0)).trans hx304_0
                    replace hx304_1 := (HB.out.cell (World.block_lt_of_cell? w _ hx304_1)).trans hx304_1
                    replace hx304_2 := (HB.out.cell (World.block_lt_of_cell? w _ hx304_2)).trans hx304_2
                    replace hx304_3 := (HB.out.cell (World.block_lt_of_cell? w _ hx304_3)).trans hx304_3
                    replace p304 := eq_true p304
                    replace q304 := eq_true q304
                    try go_wp2_with (first | ((with_reducible refine gate_dst (N := 4) rfl ?_); refine box_event ?hg (N := 4) ?hd (cs := #[.int .i64 0, .int .i64 0, .int .i64 0, .int .i64 0]) (t := 26) ?hr ?_; (case hd => rfl); (case hg => rfl); (case hr => go_simp <;> rfl); intro gb305 hg w12 hbox hb; have n0_ := Aside0.mk (below_step (HB.out) hb); have n1_ := Aside0.mk (hbox); have n2_ := Aside0.mk ((by rw [hg]; exact (below_size (HB.out)) : w.heap.size ≤ gb305)); have n3_ := Aside0.mk ((by rw [hg]; exact (below_size (HB.out)) : w.heap.size ≤ gb305)); clear HB; have HB := n0_; have BK305 := n1_; have GW305 := n2_; have GE305 := n3_; clear n0_ n1_ n2_ n3_; clear hb hbox hg; have hcz13_0 : w12.cell? ⟨gb305, 0, none⟩ = some (.int .i64 0) := (blk_cell BK305.out 0).trans rfl; have hcz13_1 : w12.cell? ⟨gb305, 1, none⟩ = some (.int .i64 0) := (blk_cell BK305.out 1).trans rfl; have hcz13_2 : w12.cell? ⟨gb305, 2, none⟩ = some (.int .i64 0) := (blk_cell BK305.out 2).trans rfl; have hcz13_3 : w12.cell? ⟨gb305, 3, none⟩ = some (.int .i64 0) := (blk_cell BK305.out 3).trans rfl; have hfz13_0 := blk_frozen BK305.out 0; have hfz13_1 := blk_frozen BK305.out 1; have hfz13_2 := blk_frozen BK305.out 2; have hfz13_3 := blk_frozen BK305.out 3))
                    have n0_ : Aside0 (((((w12.setCell ⟨gb305, 0, none⟩ (.int .i64 ((rd_T26 l0 x7_1).f0))).setCell ⟨gb305, 1, none⟩ (.int .i64 ((rd_T26 l0 x7_1).f1))).setCell ⟨gb305, 2, none⟩ (.int .i64 ((rd_T26 l0 x7_1).f2))).setCell ⟨gb305, 3, none⟩ (.int .i64 ((rd_T26 l0 x7_1).f3))).heap[gb305]? = some (.cells #[.int .i64 ((rd_T26 l0 x7_1).f0), .int .i64 ((rd_T26 l0 x7_1).f1), .int .i64 ((rd_T26 l0 x7_1).f2), .int .i64 ((rd_T26 l0 x7_1).f3)] 26 (0, 0))) := ⟨by refine blk_put (cs := #[.int .i64 ((rd_T26 l0 x7_1).f0), .int .i64 ((rd_T26 l0 x7_1).f1), .int .i64 ((rd_T26 l0 x7_1).f2), .int .i64 0]) ?_ 3 _ rfl; refine blk_put (cs := #[.int .i64 ((rd_T26 l0 x7_1).f0), .int .i64 ((rd_T26 l0 x7_1).f1), .int .i64 0, .int .i64 0]) ?_ 2 _ rfl; refine blk_put (cs := #[.int .i64 ((rd_T26 l0 x7_1).f0), .int .i64 0, .int .i64 0, .int .i64 0]) ?_ 1 _ rfl; refine blk_put (cs := #[.int .i64 0, .int .i64 0, .int .i64 0, .int .i64 0]) ?_ 0 _ rfl; exact BK305.out⟩
                    have n1_ : Aside0 (Below w.heap.size w ((((w12.setCell ⟨gb305, 0, none⟩ (.int .i64 ((rd_T26 l0 x7_1).f0))).setCell ⟨gb305, 1, none⟩ (.int .i64 ((rd_T26 l0 x7_1).f1))).setCell ⟨gb305, 2, none⟩ (.int .i64 ((rd_T26 l0 x7_1).f2))).setCell ⟨gb305, 3, none⟩ (.int .i64 ((rd_T26 l0 x7_1).f3)))) := ⟨by repeat (first | (with_reducible first | exact HB.out | apply below_alloc | apply pw_below_drewN | apply below_drew1 | refine below_set ?_ GE305.out) | exact HB.out)⟩
                    (try clear BK305)
                    (try clear HB)
                    generalize ((((w12.setCell ⟨gb305, 0, none⟩ (.int .i64 ((rd_T26 l0 x7_1).f0))).setCell ⟨gb305, 1, none⟩ (.int .i64 ((rd_T26 l0 x7_1).f1))).setCell ⟨gb305, 2, none⟩ (.int .i64 ((rd_T26 l0 x7_1).f2))).setCell ⟨gb305, 3, none⟩ (.int .i64 ((rd_T26 l0 x7_1).f3))) = w14 at n0_ n1_ ⊢
                    have BK305 := n0_
                    have HB := n1_
                    clear n0_ n1_
                    have n0_ := Aside0.mk (blk_drew BK305.out)
                    have n1_ := Aside0.mk (below_drew1 HB.out)
                    clear BK305 HB
                    have BK305 := n0_
                    have HB := n1_
                    clear n0_ n1_
                    have p307 : 0 ≤ ((ji8) : Int) := of_decide_eq_true (by first | (with_reducible assumption) | assumption)
                    have q307 : (ji8) < (l0.length : Int) := of_decide_eq_true (by first | (with_reducible assumption) | assumption)
                    obtain ⟨ad307, e307, hx307_0, hx307_1, hx307_2, hx307_3⟩ := at_T26 HR0.out (ji8) p307 q307
                    have hw307_3 := hx307_3
                    have hw307_2 := hx307_2
                    have hw307_1 := hx307_1
                    have hw307_0 := hx307_0
                    obtain rfl : ad304 = ad307 := (by injection e307)
                    replace hx307_0 := (HB.out.cell (World.block_lt_of_cell? w _ hx307_0)).trans hx307_0
                    replace hx307_1 := (HB.out.cell (World.block_lt_of_cell? w _ hx307_1)).trans hx307_1
                    replace hx307_2 := (HB.out.cell (World.block_lt_of_cell? w _ hx307_2)).trans hx307_2
                    replace hx307_3 := (HB.out.cell (World.block_lt_of_cell? w _ hx307_3)).trans hx307_3
                    replace p307 := eq_true p307
                    replace q307 := eq_true q307
                    refine start_ (n := 17) (S := fun w' => w'.cell? ⟨gb305, 0, none⟩ = some (.int .i64 ((rd_T26 l0 x7_1).f0)) ∧ w'.cell? ⟨gb305, 1, none⟩ = some (.int .i64 ((rd_T26 l0 x7_1).f1)) ∧ w'.cell? ⟨gb305, 2, none⟩ = some (.int .i64 ((rd_T26 l0 x7_1).f2)) ∧ w'.cell? ⟨gb305, 3, none⟩ = some (.int .i64 ((rd_T26 l0 x7_1).f3)) ∧ w'.cell? (ad304.add (((ji8)).toNat * 4)) = some (.int .i64 ((rd_T26 l0 (ji8)).f0)) ∧ w'.cell? ⟨(ad304.add (((ji8)).toNat * 4)).block, (ad304.add (((ji8)).toNat * 4)).off + 1, none⟩ = some (.int .i64 ((rd_T26 l0 (ji8)).f1)) ∧ w'.cell? ⟨(ad304.add (((ji8)).toNat * 4)).block, (ad304.add (((ji8)).toNat * 4)).off + 2, none⟩ = some (.int .i64 ((rd_T26 l0 (ji8)).f2)) ∧ w'.cell? ⟨(ad304.add (((ji8)).toNat * 4)).block, (ad304.add (((ji8)).toNat * 4)).off + 3, none⟩ = some (.int .i64 ((rd_T26 l0 (ji8)).f3))) (ds := []) #[false, false, false, false, false, false, false, false, false, false, false, false, false, false, false, false, false] (by kernel_rfl) rfl rfl ⟨(blk_cell BK305.out 0).trans rfl, (blk_cell BK305.out 1).trans rfl, (blk_cell BK305.out 2).trans rfl, (blk_cell BK305.out 3).trans rfl, ((HB.out.cell (World.block_lt_of_cell? w _ hw307_0)).trans hw307_0), ((HB.out.cell (World.block_lt_of_cell? w _ hw307_1)).trans hw307_1), ((HB.out.cell (World.block_lt_of_cell? w _ hw307_2)).trans hw307_2), ((HB.out.cell (World.block_lt_of_cell? w _ hw307_3)).trans hw307_3)⟩ (fun hHeld => ?_); refine with_tabW impl_PoolOk.tab4 impl_PoolOk.bits4 (fun HT_ HW_ => ?_)
                    generalize w14.drew = w15 at BK305 HB hx307_0 hx307_1 hx307_2 hx307_3 hHeld ⊢
                    refine take_ (i := 0) (N := some 12) (v := ?_) (a' := ?_) #[true, false, false, false, false, false, false, false, false, false, false, false, false, false, false, false, false] rfl rfl (take_ofW HT_.out HW_.out (by kernel_rfl)) (fun _ _ _ h => h) (Or.inl ⟨by rfl, ?_⟩) hHeld ?_ ?_
                    rotate_left
                    · rintro w' ⟨s0, s1, s2, s3, s4, s5, s6, s7⟩
                      go_simp
                      with_reducible rfl
                    rotate_left
                    · simp only [Act.put, nm]
                      rfl
                    refine one_ (i := 1) (N := some 13) #[true, true, false, false, false, false, false, false, false, false, false, false, false, false, false, false, false] rfl rfl (one_of HT_.out (by kernel_rfl)) (by decide) (fun K hK => ?_)
                    refine goes_ Tryd.func30 (by kernel_rfl) rfl #[.agg #[.int .i64 ((rd_T26 l0 x7_1).f0), .int .i64 ((rd_T26 l0 x7_1).f1), .int .i64 ((rd_T26 l0 x7_1).f2), .int .i64 ((rd_T26 l0 x7_1).f3)]] (by rfl) rfl rfl (by (try simp only [mp]); first | done | rfl) ?_
                    with_reducible refine (impl_TxOk.calls ((rd_T26 l0 x7_1).f0) ((rd_T26 l0 x7_1).f1) ((rd_T26 l0 x7_1).f2) ((rd_T26 l0 x7_1).f3) true _ A5.out).mono ?_
                    rintro e w16 ⟨rfl, hb⟩
                    refine ⟨_, rfl, ?_⟩
                    have n0_ := Aside0.mk (blk_below (g := gb305) (o := .cells #[.int .i64 ((rd_T26 l0 x7_1).f0), .int .i64 ((rd_T26 l0 x7_1).f1), .int .i64 ((rd_T26 l0 x7_1).f2), .int .i64 ((rd_T26 l0 x7_1).f3)] 26 (0, 0)) (by exact BK305.out) hb)
                    have n1_ := Aside0.mk (below_step (HB.out) hb)
                    clear BK305 HB
                    have BK305 := n0_
                    have HB := n1_
                    clear n0_ n1_
                    (try clear hb)
                    (try clear hb2)
                    (try clear hk)
                    (try clear hi)
                    refine hK.out _ _ ⟨(blk_cell BK305.out 0).trans rfl, (blk_cell BK305.out 1).trans rfl, (blk_cell BK305.out 2).trans rfl, (blk_cell BK305.out 3).trans rfl, ((HB.out.cell (World.block_lt_of_cell? w _ hw307_0)).trans hw307_0), ((HB.out.cell (World.block_lt_of_cell? w _ hw307_1)).trans hw307_1), ((HB.out.cell (World.block_lt_of_cell? w _ hw307_2)).trans hw307_2), ((HB.out.cell (World.block_lt_of_cell? w _ hw307_3)).trans hw307_3)⟩ (fun hHeld => ?_)
                    clear hK K
                    refine norm_ (a' := ?_) ?_ ?_
                    rotate_left
                    · show Act.put _ (some 13) _ = _
                      simp only [Act.put, nm]
                      rfl
                    refine pA 2 14 ?_ rfl rfl (any_of HT_.out (by kernel_rfl)) (fun _ _ _ h => h) ⟨by rfl, ?_⟩ ?_ ?_ ?_
                    rotate_left
                    · intro w'
                      go_simp
                      with_reducible rfl
                    rotate_left
                    · simp only [Act.put, nm]
                      rfl
                    refine pA 3 15 ?_ rfl rfl (any_of HT_.out (by kernel_rfl)) (fun _ _ _ h => h) ⟨by rfl, ?_⟩ ?_ ?_ ?_
                    rotate_left
                    · intro w'
                      go_simp
                      with_reducible rfl
                    rotate_left
                    · simp only [Act.put, nm]
                      rfl
                    refine pA 4 16 ?_ rfl rfl (any_of HT_.out (by kernel_rfl)) (fun _ _ _ h => h) ⟨by rfl, ?_⟩ ?_ ?_ ?_
                    rotate_left
                    · intro w'
                      go_simp
                      with_reducible rfl
                    rotate_left
                    · simp only [Act.put, nm]
                      rfl
                    refine pA 5 17 ?_ rfl rfl (any_of HT_.out (by kernel_rfl)) (fun _ _ _ h => h) ⟨by rfl, ?_⟩ ?_ ?_ ?_
                    rotate_left
                    · intro w'
                      go_simp
                      with_reducible rfl
                    rotate_left
                    · simp only [Act.put, nm]
                      rfl
                    refine pA 6 18 ?_ rfl rfl (any_of HT_.out (by kernel_rfl)) (fun _ _ _ h => h) ⟨by rfl, ?_⟩ ?_ ?_ ?_
                    rotate_left
                    · intro w'
                      go_simp
                      with_reducible rfl
                    rotate_left
                    · simp only [Act.put, nm]
                      rfl
                    refine pA 7 19 ?_ rfl rfl (any_of HT_.out (by kernel_rfl)) (fun _ _ _ h => h) ⟨by rfl, ?_⟩ ?_ ?_ ?_
                    rotate_left
                    · intro w'
                      go_simp
                      with_reducible rfl
                    rotate_left
                    · simp only [Act.put, nm]
                      rfl
                    refine pA 8 20 ?_ rfl rfl (any_of HT_.out (by kernel_rfl)) (fun _ _ _ h => h) ⟨by rfl, ?_⟩ ?_ ?_ ?_
                    rotate_left
                    · intro w'
                      go_simp
                      with_reducible rfl
                    rotate_left
                    · simp only [Act.put, nm]
                      rfl
                    refine pA 9 21 ?_ rfl rfl (any_of HT_.out (by kernel_rfl)) (fun _ _ _ h => h) ⟨by rfl, ?_⟩ ?_ ?_ ?_
                    rotate_left
                    · intro w'
                      go_simp
                      with_reducible rfl
                    rotate_left
                    · simp only [Act.put, nm]
                      rfl
                    refine pA 10 22 ?_ rfl rfl (any_of HT_.out (by kernel_rfl)) (fun _ _ _ h => h) ⟨by rfl, ?_⟩ ?_ ?_ ?_
                    rotate_left
                    · intro w'
                      go_simp
                      with_reducible rfl
                    rotate_left
                    · simp only [Act.put, nm]
                      rfl
                    refine take_ (i := 11) (N := some 23) (v := ?_) (a' := ?_) #[true, true, true, true, true, true, true, true, true, true, true, true, false, false, false, false, false] rfl rfl (take_ofW HT_.out HW_.out (by kernel_rfl)) (fun _ _ _ h => h) (Or.inl ⟨by rfl, ?_⟩) hHeld ?_ ?_
                    rotate_left
                    · rintro w' ⟨s0, s1, s2, s3, s4, s5, s6, s7⟩
                      go_simp
                      with_reducible rfl
                    rotate_left
                    · simp only [Act.put, nm]
                      rfl
                    refine take_ (i := 12) (N := some 24) (v := ?_) (a' := ?_) #[true, true, true, true, true, true, true, true, true, true, true, true, true, false, false, false, false] rfl rfl (take_ofW HT_.out HW_.out (by kernel_rfl)) (fun _ _ _ h => h) (Or.inl ⟨by rfl, ?_⟩) hHeld ?_ ?_
                    rotate_left
                    · rintro w' ⟨s0, s1, s2, s3, s4, s5, s6, s7⟩
                      go_simp
                      with_reducible rfl
                    rotate_left
                    · simp only [Act.put, nm]
                      rfl
                    refine one_ (i := 13) (N := some 25) #[true, true, true, true, true, true, true, true, true, true, true, true, true, true, false, false, false] rfl rfl (one_of HT_.out (by kernel_rfl)) (by decide) (fun K hK => ?_)
                    refine goes_ Tryd.func24 (by kernel_rfl) rfl #[.agg #[.int .i64 ((rd_T26 l0 (ji8)).f0), .int .i64 ((rd_T26 l0 (ji8)).f1), .int .i64 ((rd_T26 l0 (ji8)).f2), .int .i64 ((rd_T26 l0 (ji8)).f3)], .agg #[.int .i64 ((rd_T26 l0 x7_1).f0), .int .i64 ((rd_T26 l0 x7_1).f1), .int .i64 ((rd_T26 l0 x7_1).f2), .int .i64 ((rd_T26 l0 x7_1).f3)]] (by rfl) rfl rfl (by (try simp only [List.map_toArray, List.map_cons, List.map_nil]); first | done | (simp only [hji8]; rfl) | rfl | (simp only [List.length_drop, List.length_take]; rfl)) ?_
                    with_reducible refine (impl_beforeTx.calls ((rd_T26 l0 (ji8)).f0) ((rd_T26 l0 (ji8)).f1) ((rd_T26 l0 (ji8)).f2) ((rd_T26 l0 (ji8)).f3) ((rd_T26 l0 x7_1).f0) ((rd_T26 l0 x7_1).f1) ((rd_T26 l0 x7_1).f2) ((rd_T26 l0 x7_1).f3) t308 _ A11.out).mono ?_
                    rintro e w17 ⟨rfl, hb⟩
                    refine ⟨_, rfl, ?_⟩
                    have n0_ := Aside0.mk (blk_below (g := gb305) (o := .cells #[.int .i64 ((rd_T26 l0 x7_1).f0), .int .i64 ((rd_T26 l0 x7_1).f1), .int .i64 ((rd_T26 l0 x7_1).f2), .int .i64 ((rd_T26 l0 x7_1).f3)] 26 (0, 0)) (by exact BK305.out) hb)
                    have n1_ := Aside0.mk (below_step (HB.out) hb)
                    clear BK305 HB
                    have BK305 := n0_
                    have HB := n1_
                    clear n0_ n1_
                    (try clear hb)
                    (try clear hb2)
                    (try clear hk)
                    (try clear hi)
                    refine hK.out _ _ ⟨(blk_cell BK305.out 0).trans rfl, (blk_cell BK305.out 1).trans rfl, (blk_cell BK305.out 2).trans rfl, (blk_cell BK305.out 3).trans rfl, ((HB.out.cell (World.block_lt_of_cell? w _ hw307_0)).trans hw307_0), ((HB.out.cell (World.block_lt_of_cell? w _ hw307_1)).trans hw307_1), ((HB.out.cell (World.block_lt_of_cell? w _ hw307_2)).trans hw307_2), ((HB.out.cell (World.block_lt_of_cell? w _ hw307_3)).trans hw307_3)⟩ (fun hHeld => ?_)
                    clear hK K
                    refine norm_ (a' := ?_) ?_ ?_
                    rotate_left
                    · show Act.put _ (some 25) _ = _
                      simp only [Act.put, nm]
                      rfl
                    refine pA 14 26 ?_ rfl rfl (any_of HT_.out (by kernel_rfl)) (fun _ _ _ h => h) ⟨by rfl, ?_⟩ ?_ ?_ ?_
                    rotate_left
                    · intro w'
                      go_simp
                      with_reducible rfl
                    rotate_left
                    · simp only [Act.put, nm]
                      rfl
                    refine pA 15 27 ?_ rfl rfl (any_of HT_.out (by kernel_rfl)) (fun _ _ _ h => h) ⟨by rfl, ?_⟩ ?_ ?_ ?_
                    rotate_left
                    · intro w'
                      go_simp
                      with_reducible rfl
                    rotate_left
                    · simp only [Act.put, nm]
                      rfl
                    refine pA 16 28 ?_ rfl rfl (any_of HT_.out (by kernel_rfl)) (fun _ _ _ h => h) ⟨by rfl, ?_⟩ ?_ ?_ ?_
                    rotate_left
                    · intro w'
                      go_simp
                      with_reducible rfl
                    rotate_left
                    · simp only [Act.put, nm]
                      rfl
                    refine done_ (done_of HT_.out (by kernel_rfl)) ?_
                    go_upto_if 28 with (fail)
                    have H := HF.out
                    clear HF
                    by_cases c18 : t308 = true
                    · subst c18
                      have H1 : (impl_PoolOk.l0 k1 l0 l0 (l0.length : Int) (wrap64 (x7_1 + 1))) = some r := by rw [if_pos rfl] at H; exact H
                      clear H
                      have H := H1
                      clear H1
                      have H' := Aside0.mk H
                      clear H
                      go_wp2
                      go_roundg k1
                      case measure => have := HK1.out; omega
                      case rel => exact ⟨(wrap64 (x7_1 + 1)), (by first | rfl | (simp; done) | (simp [*]; done)), H', ⟨by have := HK1.out; omega⟩, ⟨HB.out⟩⟩
                    · replace c18 := Bool.eq_false_iff.mpr c18
                      subst c18
                      have H1 : (some false) = some r := by rw [if_neg (show ¬ (false = true) by decide)] at H; exact H
                      clear H
                      have H := H1
                      clear H1
                      obtain rfl := Option.some.inj H
                      go_wp2
                      go_ret
                      exact ⟨by first | rfl | (simp [errW_none, errW_some] <;> rfl) | (simp only [← hji8]; first | rfl | (simp [errW_none, errW_some] <;> rfl)) | (simp [*, errW_none, errW_some] <;> rfl), HB.out⟩
                  · rw [if_neg c10] at H
                    exact absurd H (by simp)
                · rw [if_neg c9] at H
                  exact absurd H (by simp)
              · rw [if_neg c7] at H
                have c7b0 : decide (0 < x7_1) = false := decide_eq_false c7
                clear c7
                have H' := Aside0.mk H
                clear H
                have p304 : 0 ≤ (x7_1 : Int) := of_decide_eq_true (by first | (with_reducible assumption) | assumption)
                have q304 : x7_1 < (l0.length : Int) := of_decide_eq_true (by first | (with_reducible assumption) | assumption)
                obtain ⟨ad304, e304, hx304_0, hx304_1, hx304_2, hx304_3⟩ := at_T26 HR0.out x7_1 p304 q304
                cases e304
                replace hx304_0 := (HB.out.cell (World.block_lt_of_cell? w _ hx304_0)).trans hx304_0
                replace hx304_1 := (HB.out.cell (World.block_lt_of_cell? w _ hx304_1)).trans hx304_1
                replace hx304_2 := (HB.out.cell (World.block_lt_of_cell? w _ hx304_2)).trans hx304_2
                replace hx304_3 := (HB.out.cell (World.block_lt_of_cell? w _ hx304_3)).trans hx304_3
                replace p304 := eq_true p304
                replace q304 := eq_true q304
                try go_wp2_with (first | ((with_reducible refine gate_dst (N := 4) rfl ?_); refine box_event ?hg (N := 4) ?hd (cs := #[.int .i64 0, .int .i64 0, .int .i64 0, .int .i64 0]) (t := 26) ?hr ?_; (case hd => rfl); (case hg => rfl); (case hr => go_simp <;> rfl); intro gb305 hg w19 hbox hb; have n0_ := Aside0.mk (below_step (HB.out) hb); have n1_ := Aside0.mk (hbox); have n2_ := Aside0.mk ((by rw [hg]; exact (below_size (HB.out)) : w.heap.size ≤ gb305)); have n3_ := Aside0.mk ((by rw [hg]; exact (below_size (HB.out)) : w.heap.size ≤ gb305)); clear HB; have HB := n0_; have BK305 := n1_; have GW305 := n2_; have GE305 := n3_; clear n0_ n1_ n2_ n3_; clear hb hbox hg; have hcz20_0 : w19.cell? ⟨gb305, 0, none⟩ = some (.int .i64 0) := (blk_cell BK305.out 0).trans rfl; have hcz20_1 : w19.cell? ⟨gb305, 1, none⟩ = some (.int .i64 0) := (blk_cell BK305.out 1).trans rfl; have hcz20_2 : w19.cell? ⟨gb305, 2, none⟩ = some (.int .i64 0) := (blk_cell BK305.out 2).trans rfl; have hcz20_3 : w19.cell? ⟨gb305, 3, none⟩ = some (.int .i64 0) := (blk_cell BK305.out 3).trans rfl; have hfz20_0 := blk_frozen BK305.out 0; have hfz20_1 := blk_frozen BK305.out 1; have hfz20_2 := blk_frozen BK305.out 2; have hfz20_3 := blk_frozen BK305.out 3))
                have n0_ : Aside0 (((((w19.setCell ⟨gb305, 0, none⟩ (.int .i64 ((rd_T26 l0 x7_1).f0))).setCell ⟨gb305, 1, none⟩ (.int .i64 ((rd_T26 l0 x7_1).f1))).setCell ⟨gb305, 2, none⟩ (.int .i64 ((rd_T26 l0 x7_1).f2))).setCell ⟨gb305, 3, none⟩ (.int .i64 ((rd_T26 l0 x7_1).f3))).heap[gb305]? = some (.cells #[.int .i64 ((rd_T26 l0 x7_1).f0), .int .i64 ((rd_T26 l0 x7_1).f1), .int .i64 ((rd_T26 l0 x7_1).f2), .int .i64 ((rd_T26 l0 x7_1).f3)] 26 (0, 0))) := ⟨by refine blk_put (cs := #[.int .i64 ((rd_T26 l0 x7_1).f0), .int .i64 ((rd_T26 l0 x7_1).f1), .int .i64 ((rd_T26 l0 x7_1).f2), .int .i64 0]) ?_ 3 _ rfl; refine blk_put (cs := #[.int .i64 ((rd_T26 l0 x7_1).f0), .int .i64 ((rd_T26 l0 x7_1).f1), .int .i64 0, .int .i64 0]) ?_ 2 _ rfl; refine blk_put (cs := #[.int .i64 ((rd_T26 l0 x7_1).f0), .int .i64 0, .int .i64 0, .int .i64 0]) ?_ 1 _ rfl; refine blk_put (cs := #[.int .i64 0, .int .i64 0, .int .i64 0, .int .i64 0]) ?_ 0 _ rfl; exact BK305.out⟩
                have n1_ : Aside0 (Below w.heap.size w ((((w19.setCell ⟨gb305, 0, none⟩ (.int .i64 ((rd_T26 l0 x7_1).f0))).setCell ⟨gb305, 1, none⟩ (.int .i64 ((rd_T26 l0 x7_1).f1))).setCell ⟨gb305, 2, none⟩ (.int .i64 ((rd_T26 l0 x7_1).f2))).setCell ⟨gb305, 3, none⟩ (.int .i64 ((rd_T26 l0 x7_1).f3)))) := ⟨by repeat (first | (with_reducible first | exact HB.out | apply below_alloc | apply pw_below_drewN | apply below_drew1 | refine below_set ?_ GE305.out) | exact HB.out)⟩
                (try clear BK305)
                (try clear HB)
                generalize ((((w19.setCell ⟨gb305, 0, none⟩ (.int .i64 ((rd_T26 l0 x7_1).f0))).setCell ⟨gb305, 1, none⟩ (.int .i64 ((rd_T26 l0 x7_1).f1))).setCell ⟨gb305, 2, none⟩ (.int .i64 ((rd_T26 l0 x7_1).f2))).setCell ⟨gb305, 3, none⟩ (.int .i64 ((rd_T26 l0 x7_1).f3))) = w21 at n0_ n1_ ⊢
                have BK305 := n0_
                have HB := n1_
                clear n0_ n1_
                have n0_ := Aside0.mk (blk_drew BK305.out)
                have n1_ := Aside0.mk (below_drew1 HB.out)
                clear BK305 HB
                have BK305 := n0_
                have HB := n1_
                clear n0_ n1_
                refine start_ (n := 17) (S := fun w' => w'.cell? ⟨gb305, 0, none⟩ = some (.int .i64 ((rd_T26 l0 x7_1).f0)) ∧ w'.cell? ⟨gb305, 1, none⟩ = some (.int .i64 ((rd_T26 l0 x7_1).f1)) ∧ w'.cell? ⟨gb305, 2, none⟩ = some (.int .i64 ((rd_T26 l0 x7_1).f2)) ∧ w'.cell? ⟨gb305, 3, none⟩ = some (.int .i64 ((rd_T26 l0 x7_1).f3))) (ds := []) #[false, false, false, false, false, false, false, false, false, false, false, false, false, false, false, false, false] (by kernel_rfl) rfl rfl ⟨(blk_cell BK305.out 0).trans rfl, (blk_cell BK305.out 1).trans rfl, (blk_cell BK305.out 2).trans rfl, (blk_cell BK305.out 3).trans rfl⟩ (fun hHeld => ?_); refine with_tabW impl_PoolOk.tab4 impl_PoolOk.bits4 (fun HT_ HW_ => ?_)
                generalize w21.drew = w22 at BK305 HB hHeld ⊢
                refine take_ (i := 0) (N := some 12) (v := ?_) (a' := ?_) #[true, false, false, false, false, false, false, false, false, false, false, false, false, false, false, false, false] rfl rfl (take_ofW HT_.out HW_.out (by kernel_rfl)) (fun _ _ _ h => h) (Or.inl ⟨by rfl, ?_⟩) hHeld ?_ ?_
                rotate_left
                · rintro w' ⟨s0, s1, s2, s3⟩
                  go_simp
                  with_reducible rfl
                rotate_left
                · simp only [Act.put, nm]
                  rfl
                refine one_ (i := 1) (N := some 13) #[true, true, false, false, false, false, false, false, false, false, false, false, false, false, false, false, false] rfl rfl (one_of HT_.out (by kernel_rfl)) (by decide) (fun K hK => ?_)
                refine goes_ Tryd.func30 (by kernel_rfl) rfl #[.agg #[.int .i64 ((rd_T26 l0 x7_1).f0), .int .i64 ((rd_T26 l0 x7_1).f1), .int .i64 ((rd_T26 l0 x7_1).f2), .int .i64 ((rd_T26 l0 x7_1).f3)]] (by rfl) rfl rfl (by (try simp only [mp]); first | done | rfl) ?_
                with_reducible refine (impl_TxOk.calls ((rd_T26 l0 x7_1).f0) ((rd_T26 l0 x7_1).f1) ((rd_T26 l0 x7_1).f2) ((rd_T26 l0 x7_1).f3) true _ A5.out).mono ?_
                rintro e w23 ⟨rfl, hb⟩
                refine ⟨_, rfl, ?_⟩
                have n0_ := Aside0.mk (blk_below (g := gb305) (o := .cells #[.int .i64 ((rd_T26 l0 x7_1).f0), .int .i64 ((rd_T26 l0 x7_1).f1), .int .i64 ((rd_T26 l0 x7_1).f2), .int .i64 ((rd_T26 l0 x7_1).f3)] 26 (0, 0)) (by exact BK305.out) hb)
                have n1_ := Aside0.mk (below_step (HB.out) hb)
                clear BK305 HB
                have BK305 := n0_
                have HB := n1_
                clear n0_ n1_
                (try clear hb)
                (try clear hb2)
                (try clear hk)
                (try clear hi)
                refine hK.out _ _ ⟨(blk_cell BK305.out 0).trans rfl, (blk_cell BK305.out 1).trans rfl, (blk_cell BK305.out 2).trans rfl, (blk_cell BK305.out 3).trans rfl⟩ (fun hHeld => ?_)
                clear hK K
                refine norm_ (a' := ?_) ?_ ?_
                rotate_left
                · show Act.put _ (some 13) _ = _
                  simp only [Act.put, nm]
                  rfl
                refine pA 2 14 ?_ rfl rfl (any_of HT_.out (by kernel_rfl)) (fun _ _ _ h => h) ⟨by rfl, ?_⟩ ?_ ?_ ?_
                rotate_left
                · intro w'
                  go_simp
                  with_reducible rfl
                rotate_left
                · simp only [Act.put, nm]
                  rfl
                refine pA 3 15 ?_ rfl rfl (any_of HT_.out (by kernel_rfl)) (fun _ _ _ h => h) ⟨by rfl, ?_⟩ ?_ ?_ ?_
                rotate_left
                · intro w'
                  go_simp
                  with_reducible rfl
                rotate_left
                · simp only [Act.put, nm]
                  rfl
                refine pA 4 16 ?_ rfl rfl (any_of HT_.out (by kernel_rfl)) (fun _ _ _ h => h) ⟨by rfl, ?_⟩ ?_ ?_ ?_
                rotate_left
                · intro w'
                  go_simp
                  with_reducible rfl
                rotate_left
                · simp only [Act.put, nm]
                  rfl
                refine pA 5 17 ?_ rfl rfl (any_of HT_.out (by kernel_rfl)) (fun _ _ _ h => h) ⟨by rfl, ?_⟩ ?_ ?_ ?_
                rotate_left
                · intro w'
                  go_simp
                  with_reducible rfl
                rotate_left
                · simp only [Act.put, nm]
                  rfl
                refine pA 6 18 ?_ rfl rfl (any_of HT_.out (by kernel_rfl)) (fun _ _ _ h => h) ⟨by rfl, ?_⟩ ?_ ?_ ?_
                rotate_left
                · intro w'
                  go_simp
                  with_reducible rfl
                rotate_left
                · simp only [Act.put, nm]
                  rfl
                refine pU 7 19 rfl rfl (any_of HT_.out (by kernel_rfl)) (fun _ _ _ h => h) (by rfl) ?_ ?_ ?_
                rotate_left
                · simp only [Act.put, nm]
                  rfl
                refine pU 8 20 rfl rfl (any_of HT_.out (by kernel_rfl)) (fun _ _ _ h => h) (by rfl) ?_ ?_ ?_
                rotate_left
                · simp only [Act.put, nm]
                  rfl
                refine pU 9 21 rfl rfl (any_of HT_.out (by kernel_rfl)) (fun _ _ _ h => h) (by rfl) ?_ ?_ ?_
                rotate_left
                · simp only [Act.put, nm]
                  rfl
                refine pU 10 22 rfl rfl (any_of HT_.out (by kernel_rfl)) (fun _ _ _ h => h) (by rfl) ?_ ?_ ?_
                rotate_left
                · simp only [Act.put, nm]
                  rfl
                refine pU 11 23 rfl rfl (any_of HT_.out (by kernel_rfl)) (fun _ _ _ h => h) (by rfl) ?_ ?_ ?_
                rotate_left
                · simp only [Act.put, nm]
                  rfl
                refine pU 12 24 rfl rfl (any_of HT_.out (by kernel_rfl)) (fun _ _ _ h => h) (by rfl) ?_ ?_ ?_
                rotate_left
                · simp only [Act.put, nm]
                  rfl
                refine pU 13 25 rfl rfl (any_of HT_.out (by kernel_rfl)) (fun _ _ _ h => h) (by rfl) ?_ ?_ ?_
                rotate_left
                · simp only [Act.put, nm]
                  rfl
                refine pU 14 26 rfl rfl (any_of HT_.out (by kernel_rfl)) (fun _ _ _ h => h) (by rfl) ?_ ?_ ?_
                rotate_left
                · simp only [Act.put, nm]
                  rfl
                refine pA 15 27 ?_ rfl rfl (any_of HT_.out (by kernel_rfl)) (fun _ _ _ h => h) ⟨by rfl, ?_⟩ ?_ ?_ ?_
                rotate_left
                · intro w'
                  go_simp
                  with_reducible rfl
                rotate_left
                · simp only [Act.put, nm]
                  rfl
                refine pA 16 28 ?_ rfl rfl (any_of HT_.out (by kernel_rfl)) (fun _ _ _ h => h) ⟨by rfl, ?_⟩ ?_ ?_ ?_
                rotate_left
                · intro w'
                  go_simp
                  with_reducible rfl
                rotate_left
                · simp only [Act.put, nm]
                  rfl
                refine done_ (done_of HT_.out (by kernel_rfl)) ?_
                try go_wp2
                go_roundg k1
                case measure => have := HK1.out; omega
                case rel => exact ⟨(wrap64 (x7_1 + 1)), (by first | rfl | (simp; done) | (simp [*]; done)), H', ⟨by have := HK1.out; omega⟩, ⟨HB.out⟩⟩
            · replace c6 := Bool.eq_false_iff.mpr c6
              subst c6
              have H1 : (some false) = some r := by rw [if_neg (show ¬ (false = true) by decide)] at H; exact H
              clear H
              have H := H1
              clear H1
              obtain rfl := Option.some.inj H
              have p304 : 0 ≤ (x7_1 : Int) := of_decide_eq_true (by first | (with_reducible assumption) | assumption)
              have q304 : x7_1 < (l0.length : Int) := of_decide_eq_true (by first | (with_reducible assumption) | assumption)
              obtain ⟨ad304, e304, hx304_0, hx304_1, hx304_2, hx304_3⟩ := at_T26 HR0.out x7_1 p304 q304
              cases e304
              replace hx304_0 := (HB.out.cell (World.block_lt_of_cell? w _ hx304_0)).trans hx304_0
              replace hx304_1 := (HB.out.cell (World.block_lt_of_cell? w _ hx304_1)).trans hx304_1
              replace hx304_2 := (HB.out.cell (World.block_lt_of_cell? w _ hx304_2)).trans hx304_2
              replace hx304_3 := (HB.out.cell (World.block_lt_of_cell? w _ hx304_3)).trans hx304_3
              replace p304 := eq_true p304
              replace q304 := eq_true q304
              try go_wp2_with (first | ((with_reducible refine gate_dst (N := 4) rfl ?_); refine box_event ?hg (N := 4) ?hd (cs := #[.int .i64 0, .int .i64 0, .int .i64 0, .int .i64 0]) (t := 26) ?hr ?_; (case hd => rfl); (case hg => rfl); (case hr => go_simp <;> rfl); intro gb305 hg w24 hbox hb; have n0_ := Aside0.mk (below_step (HB.out) hb); have n1_ := Aside0.mk (hbox); have n2_ := Aside0.mk ((by rw [hg]; exact (below_size (HB.out)) : w.heap.size ≤ gb305)); have n3_ := Aside0.mk ((by rw [hg]; exact (below_size (HB.out)) : w.heap.size ≤ gb305)); clear HB; have HB := n0_; have BK305 := n1_; have GW305 := n2_; have GE305 := n3_; clear n0_ n1_ n2_ n3_; clear hb hbox hg; have hcz25_0 : w24.cell? ⟨gb305, 0, none⟩ = some (.int .i64 0) := (blk_cell BK305.out 0).trans rfl; have hcz25_1 : w24.cell? ⟨gb305, 1, none⟩ = some (.int .i64 0) := (blk_cell BK305.out 1).trans rfl; have hcz25_2 : w24.cell? ⟨gb305, 2, none⟩ = some (.int .i64 0) := (blk_cell BK305.out 2).trans rfl; have hcz25_3 : w24.cell? ⟨gb305, 3, none⟩ = some (.int .i64 0) := (blk_cell BK305.out 3).trans rfl; have hfz25_0 := blk_frozen BK305.out 0; have hfz25_1 := blk_frozen BK305.out 1; have hfz25_2 := blk_frozen BK305.out 2; have hfz25_3 := blk_frozen BK305.out 3))
              have n0_ : Aside0 (((((w24.setCell ⟨gb305, 0, none⟩ (.int .i64 ((rd_T26 l0 x7_1).f0))).setCell ⟨gb305, 1, none⟩ (.int .i64 ((rd_T26 l0 x7_1).f1))).setCell ⟨gb305, 2, none⟩ (.int .i64 ((rd_T26 l0 x7_1).f2))).setCell ⟨gb305, 3, none⟩ (.int .i64 ((rd_T26 l0 x7_1).f3))).heap[gb305]? = some (.cells #[.int .i64 ((rd_T26 l0 x7_1).f0), .int .i64 ((rd_T26 l0 x7_1).f1), .int .i64 ((rd_T26 l0 x7_1).f2), .int .i64 ((rd_T26 l0 x7_1).f3)] 26 (0, 0))) := ⟨by refine blk_put (cs := #[.int .i64 ((rd_T26 l0 x7_1).f0), .int .i64 ((rd_T26 l0 x7_1).f1), .int .i64 ((rd_T26 l0 x7_1).f2), .int .i64 0]) ?_ 3 _ rfl; refine blk_put (cs := #[.int .i64 ((rd_T26 l0 x7_1).f0), .int .i64 ((rd_T26 l0 x7_1).f1), .int .i64 0, .int .i64 0]) ?_ 2 _ rfl; refine blk_put (cs := #[.int .i64 ((rd_T26 l0 x7_1).f0), .int .i64 0, .int .i64 0, .int .i64 0]) ?_ 1 _ rfl; refine blk_put (cs := #[.int .i64 0, .int .i64 0, .int .i64 0, .int .i64 0]) ?_ 0 _ rfl; exact BK305.out⟩
              have n1_ : Aside0 (Below w.heap.size w ((((w24.setCell ⟨gb305, 0, none⟩ (.int .i64 ((rd_T26 l0 x7_1).f0))).setCell ⟨gb305, 1, none⟩ (.int .i64 ((rd_T26 l0 x7_1).f1))).setCell ⟨gb305, 2, none⟩ (.int .i64 ((rd_T26 l0 x7_1).f2))).setCell ⟨gb305, 3, none⟩ (.int .i64 ((rd_T26 l0 x7_1).f3)))) := ⟨by repeat (first | (with_reducible first | exact HB.out | apply below_alloc | apply pw_below_drewN | apply below_drew1 | refine below_set ?_ GE305.out) | exact HB.out)⟩
              (try clear BK305)
              (try clear HB)
              generalize ((((w24.setCell ⟨gb305, 0, none⟩ (.int .i64 ((rd_T26 l0 x7_1).f0))).setCell ⟨gb305, 1, none⟩ (.int .i64 ((rd_T26 l0 x7_1).f1))).setCell ⟨gb305, 2, none⟩ (.int .i64 ((rd_T26 l0 x7_1).f2))).setCell ⟨gb305, 3, none⟩ (.int .i64 ((rd_T26 l0 x7_1).f3))) = w26 at n0_ n1_ ⊢
              have BK305 := n0_
              have HB := n1_
              clear n0_ n1_
              have n0_ := Aside0.mk (blk_drew BK305.out)
              have n1_ := Aside0.mk (below_drew1 HB.out)
              clear BK305 HB
              have BK305 := n0_
              have HB := n1_
              clear n0_ n1_
              refine start_ (n := 17) (S := fun w' => w'.cell? ⟨gb305, 0, none⟩ = some (.int .i64 ((rd_T26 l0 x7_1).f0)) ∧ w'.cell? ⟨gb305, 1, none⟩ = some (.int .i64 ((rd_T26 l0 x7_1).f1)) ∧ w'.cell? ⟨gb305, 2, none⟩ = some (.int .i64 ((rd_T26 l0 x7_1).f2)) ∧ w'.cell? ⟨gb305, 3, none⟩ = some (.int .i64 ((rd_T26 l0 x7_1).f3))) (ds := []) #[false, false, false, false, false, false, false, false, false, false, false, false, false, false, false, false, false] (by kernel_rfl) rfl rfl ⟨(blk_cell BK305.out 0).trans rfl, (blk_cell BK305.out 1).trans rfl, (blk_cell BK305.out 2).trans rfl, (blk_cell BK305.out 3).trans rfl⟩ (fun hHeld => ?_); refine with_tabW impl_PoolOk.tab4 impl_PoolOk.bits4 (fun HT_ HW_ => ?_)
              generalize w26.drew = w27 at BK305 HB hHeld ⊢
              refine take_ (i := 0) (N := some 12) (v := ?_) (a' := ?_) #[true, false, false, false, false, false, false, false, false, false, false, false, false, false, false, false, false] rfl rfl (take_ofW HT_.out HW_.out (by kernel_rfl)) (fun _ _ _ h => h) (Or.inl ⟨by rfl, ?_⟩) hHeld ?_ ?_
              rotate_left
              · rintro w' ⟨s0, s1, s2, s3⟩
                go_simp
                with_reducible rfl
              rotate_left
              · simp only [Act.put, nm]
                rfl
              refine one_ (i := 1) (N := some 13) #[true, true, false, false, false, false, false, false, false, false, false, false, false, false, false, false, false] rfl rfl (one_of HT_.out (by kernel_rfl)) (by decide) (fun K hK => ?_)
              refine goes_ Tryd.func30 (by kernel_rfl) rfl #[.agg #[.int .i64 ((rd_T26 l0 x7_1).f0), .int .i64 ((rd_T26 l0 x7_1).f1), .int .i64 ((rd_T26 l0 x7_1).f2), .int .i64 ((rd_T26 l0 x7_1).f3)]] (by rfl) rfl rfl (by (try simp only [mp]); first | done | rfl) ?_
              with_reducible refine (impl_TxOk.calls ((rd_T26 l0 x7_1).f0) ((rd_T26 l0 x7_1).f1) ((rd_T26 l0 x7_1).f2) ((rd_T26 l0 x7_1).f3) false _ A5.out).mono ?_
              rintro e w28 ⟨rfl, hb⟩
              refine ⟨_, rfl, ?_⟩
              have n0_ := Aside0.mk (blk_below (g := gb305) (o := .cells #[.int .i64 ((rd_T26 l0 x7_1).f0), .int .i64 ((rd_T26 l0 x7_1).f1), .int .i64 ((rd_T26 l0 x7_1).f2), .int .i64 ((rd_T26 l0 x7_1).f3)] 26 (0, 0)) (by exact BK305.out) hb)
              have n1_ := Aside0.mk (below_step (HB.out) hb)
              clear BK305 HB
              have BK305 := n0_
              have HB := n1_
              clear n0_ n1_
              (try clear hb)
              (try clear hb2)
              (try clear hk)
              (try clear hi)
              refine hK.out _ _ ⟨(blk_cell BK305.out 0).trans rfl, (blk_cell BK305.out 1).trans rfl, (blk_cell BK305.out 2).trans rfl, (blk_cell BK305.out 3).trans rfl⟩ (fun hHeld => ?_)
              clear hK K
              refine norm_ (a' := ?_) ?_ ?_
              rotate_left
              · show Act.put _ (some 13) _ = _
                simp only [Act.put, nm]
                rfl
              refine pA 2 14 ?_ rfl rfl (any_of HT_.out (by kernel_rfl)) (fun _ _ _ h => h) ⟨by rfl, ?_⟩ ?_ ?_ ?_
              rotate_left
              · intro w'
                go_simp
                with_reducible rfl
              rotate_left
              · simp only [Act.put, nm]
                rfl
              refine pA 3 15 ?_ rfl rfl (any_of HT_.out (by kernel_rfl)) (fun _ _ _ h => h) ⟨by rfl, ?_⟩ ?_ ?_ ?_
              rotate_left
              · intro w'
                go_simp
                with_reducible rfl
              rotate_left
              · simp only [Act.put, nm]
                rfl
              refine pU 4 16 rfl rfl (any_of HT_.out (by kernel_rfl)) (fun _ _ _ h => h) (by rfl) ?_ ?_ ?_
              rotate_left
              · simp only [Act.put, nm]
                rfl
              refine pU 5 17 rfl rfl (any_of HT_.out (by kernel_rfl)) (fun _ _ _ h => h) (by rfl) ?_ ?_ ?_
              rotate_left
              · simp only [Act.put, nm]
                rfl
              refine pU 6 18 rfl rfl (any_of HT_.out (by kernel_rfl)) (fun _ _ _ h => h) (by rfl) ?_ ?_ ?_
              rotate_left
              · simp only [Act.put, nm]
                rfl
              refine pU 7 19 rfl rfl (any_of HT_.out (by kernel_rfl)) (fun _ _ _ h => h) (by rfl) ?_ ?_ ?_
              rotate_left
              · simp only [Act.put, nm]
                rfl
              refine pU 8 20 rfl rfl (any_of HT_.out (by kernel_rfl)) (fun _ _ _ h => h) (by rfl) ?_ ?_ ?_
              rotate_left
              · simp only [Act.put, nm]
                rfl
              refine pU 9 21 rfl rfl (any_of HT_.out (by kernel_rfl)) (fun _ _ _ h => h) (by rfl) ?_ ?_ ?_
              rotate_left
              · simp only [Act.put, nm]
                rfl
              refine pU 10 22 rfl rfl (any_of HT_.out (by kernel_rfl)) (fun _ _ _ h => h) (by rfl) ?_ ?_ ?_
              rotate_left
              · simp only [Act.put, nm]
                rfl
              refine pU 11 23 rfl rfl (any_of HT_.out (by kernel_rfl)) (fun _ _ _ h => h) (by rfl) ?_ ?_ ?_
              rotate_left
              · simp only [Act.put, nm]
                rfl
              refine pU 12 24 rfl rfl (any_of HT_.out (by kernel_rfl)) (fun _ _ _ h => h) (by rfl) ?_ ?_ ?_
              rotate_left
              · simp only [Act.put, nm]
                rfl
              refine pU 13 25 rfl rfl (any_of HT_.out (by kernel_rfl)) (fun _ _ _ h => h) (by rfl) ?_ ?_ ?_
              rotate_left
              · simp only [Act.put, nm]
                rfl
              refine pU 14 26 rfl rfl (any_of HT_.out (by kernel_rfl)) (fun _ _ _ h => h) (by rfl) ?_ ?_ ?_
              rotate_left
              · simp only [Act.put, nm]
                rfl
              refine pU 15 27 rfl rfl (any_of HT_.out (by kernel_rfl)) (fun _ _ _ h => h) (by rfl) ?_ ?_ ?_
              rotate_left
              · simp only [Act.put, nm]
                rfl
              refine pA 16 28 ?_ rfl rfl (any_of HT_.out (by kernel_rfl)) (fun _ _ _ h => h) ⟨by rfl, ?_⟩ ?_ ?_ ?_
              rotate_left
              · intro w'
                go_simp
                with_reducible rfl
              rotate_left
              · simp only [Act.put, nm]
                rfl
              refine done_ (done_of HT_.out (by kernel_rfl)) ?_
              try go_wp2
              go_ret
              exact ⟨rfl, HB.out⟩
          · rw [if_neg c4] at H
            exact absurd H (by simp)
        · rw [if_neg c3] at H
          exact absurd H (by simp)
      · rw [if_neg c2] at H
        have c2b0 : decide (x7_1 < (l0.length : Int)) = false := decide_eq_false c2
        clear c2
        (first | rw [c2b0] | (simp only [i64_w, i32_w]; rw [c2b0]) | skip)
        obtain rfl := Option.some.inj H
        go_wp2
        go_ret
        exact ⟨rfl, HB.out⟩

/-! ### impl_copyTxs: function 26 -/
def impl_copyTxs.f (l0 : List (S26)) : Option ((List (S26))) := if ([] : List (S26)).length + l0.length < 4398046511104 then (some (([] : List (S26)) ++ l0)) else (none)
set_option maxHeartbeats 8000000 in
set_option maxRecDepth 100000 in
theorem impl_copyTxs.calls (A0 : Option Addr) (c0 : Nat) (l0 : List (S26)) (r : List (S26)) (w : World) (hr0 : Kd.C k26 w A0 l0.length l0) (hc0 : l0.length ≤ c0) (h : impl_copyTxs.f l0 = some r) :
    Calls Tryd.prog 26 #[.slice A0 l0.length c0] w fun e w' => ∃ v0_ : Value, e = .returned (v0_) ∧ Kd.R k26 26 w' w.heap.size (fun _ => True) v0_ r ∧ Below w.heap.size w w' := by
  have HR0 := Aside0.mk hr0
  have HC0 := Aside0.mk hc0
  clear hr0 hc0
  have HB := Aside0.mk (Below.refl w.heap.size w)
  have H : (if ([] : List (S26)).length + l0.length < 4398046511104 then (some (([] : List (S26)) ++ l0)) else (none)) = some r := h
  clear h
  by_cases c2 : ([] : List (S26)).length + l0.length < 4398046511104
  · rw [if_pos c2] at H
    have LMc2 := Aside0.mk c2
    clear c2
    obtain ⟨y309, hy309⟩ : ∃ y_ : List (S26), y_ = (([] : List (S26)) ++ l0) := ⟨_, rfl⟩
    replace H : (some y309) = some r := by rw [hy309]; exact H
    have Ny309 := Aside0.mk hy309
    clear hy309
    obtain rfl := Option.some.inj H
    go_enter Tryd.func26, Tryd.ntmps26
    go_wp2_with (first | ((with_reducible refine gate_builtin (b := .append) (xs := #[.const (.slice none 0 0), .tmp 3]) rfl ?_); at_builtin; refine Kd.R_append_rows k26 (w0 := w) w.heap.size rfl (.const (.slice none 0 0)) (.tmp 3) 24 26 (.agg #[(.int .i64 0), (.int .i64 0), (.int .i64 0), (.int .i64 0)]) 32 rfl Tryd.underlying24 info26 rfl (by decide) (by omega) (.slice none 0 0) ([] : List (S26)) l0 _ _ _ (fun _ => True) (fun _ => False) rfl rfl ?aO ?aR (fun _ _ h => h) (fun _ h => h.elim) ?aF ?aB ?aS ?aL ?_; (case aR => exact HR0.out); (case aB => exact (HB.out)); (case aF => exact (fun _ _ => trivial)); (case aO => exact ((Kd.R_nil _ _ _ _ (fun _ => True)))); (case aS => exact (below_size (HB.out))); (case aL => have := LMc2.out; omega); intro v310 w3 ho hb hg hat; rw [← Ny309.out] at ho; have n0_ := Aside0.mk (hb); have n1_ := Aside0.mk (ho); clear HB; have HB := n0_; have HO311 := n1_; clear n0_ n1_; clear ho hb hg hat))
    go_ret
    exact ⟨_, rfl, by exact HO311.out, HB.out⟩
  · rw [if_neg c2] at H
    exact absurd H (by simp)

end Go.Proofs.YtnlakfbbbnkcpaaDoor.PFnPools
