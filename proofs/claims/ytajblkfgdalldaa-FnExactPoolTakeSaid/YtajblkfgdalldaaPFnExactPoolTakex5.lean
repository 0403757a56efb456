/- Walks of the functions that a law of seat Ytajblkfgdalldaa reaches, each against a Lean function, printed by this session's wip/myprint.py; no condition of their own. -/
import Derived.Test.YtajblkfgdalldaaPFnExactPoolTakex0
import Derived.Test.YtajblkfgdalldaaPFnExactPoolTakex3
import Derived.Test.YtajblkfgdalldaaPFnExactPoolTakex4
namespace Go.Proofs.Ytajblkfgdalldaa.PFnExactPoolTake
open Go.RowKit Go.Proofs.YtajblkfgdalldaaW.PrintWords Go.Proofs.YtajblkfgdalldaaW.PrintLast Go.Proofs.YtajblkfgdalldaaW.PrintMore
attribute [local go_sem] max2_int min2_int max_two min_two max_three min_three max_four min_four   -- for this text's walks alone
set_option linter.unusedVariables false
set_option linter.unusedSimpArgs false

/-! ### spec_PoolTake: function 48 -/
mutual
def spec_PoolTake.l0 : Nat → List (S45) → List (S45) → Int → List Int → List Int → Option ((List (S45)))
  | 0, _, _, _, _, _ => none
  | k + 1, x0, x5, x7, x190000, x190001 => if x7 < (x0.length : Int) then (spec_PoolTake.j1 k x0 x5 x7 (decide ((x5.length : Int) < 2)) x190000 x190001) else (spec_PoolTake.j1 k x0 x5 x7 false x190000 x190001)
def spec_PoolTake.j1 : Nat → List (S45) → List (S45) → Int → Bool → List Int → List Int → Option ((List (S45)))
  | 0, _, _, _, _, _, _ => none
  | k + 1, x0, x5, x7, x21, x190000, x190001 => if x21 = true then (if 0 ≤ x7 then (if x7 < (x0.length : Int) then ((spec_Pay.f k x190000 x190001 ((rd_T45 x0 x7).f0) ((rd_T45 x0 x7).f1) ((rd_T45 x0 x7).f2) ((rd_T45 x0 x7).f3)).bind fun bt191 => (if bt191.2.2 = 0 then (if x5.length < 4398046511104 then (spec_PoolTake.l0 k x0 (x5 ++ [(⟨(rd_T45 x0 x7).f0, (rd_T45 x0 x7).f1, (rd_T45 x0 x7).f2, (rd_T45 x0 x7).f3⟩ : S45)]) (wrap64 (x7 + 1)) bt191.1 bt191.2.1) else (none)) else (if bt191.2.2 = 4 then (if x5.length < 4398046511104 then (spec_PoolTake.l0 k x0 (x5 ++ [(⟨(rd_T45 x0 x7).f0, (rd_T45 x0 x7).f1, (rd_T45 x0 x7).f2, (rd_T45 x0 x7).f3⟩ : S45)]) (wrap64 (x7 + 1)) bt191.1 bt191.2.1) else (none)) else (spec_PoolTake.l0 k x0 x5 (wrap64 (x7 + 1)) x190000 x190001)))) else (none)) else (none)) else (some x5)
end
def spec_PoolTake.f (k : Nat) (l0 : List (S45)) (l1_0 : List Int) (l1_1 : List Int) : Option ((List (S45))) := (spec_l3Copy.f l1_0 l1_1).bind fun bt183 => (spec_PoolTake.l0 k l0 (([] : List (S45))) 0 bt183.1 bt183.2)
theorem spec_PoolTake.mono_l : ∀ k, (∀ y0 y1 y2 y3 y4, LeO (spec_PoolTake.l0 k y0 y1 y2 y3 y4) (spec_PoolTake.l0 (k + 1) y0 y1 y2 y3 y4)) ∧ (∀ y0 y1 y2 y3 y4 y5, LeO (spec_PoolTake.j1 k y0 y1 y2 y3 y4 y5) (spec_PoolTake.j1 (k + 1) y0 y1 y2 y3 y4 y5))
  | 0 => ⟨fun _ _ _ _ _ r h => by simp [spec_PoolTake.l0] at h, fun _ _ _ _ _ _ r h => by simp [spec_PoolTake.j1] at h⟩
  | k + 1 => by
    obtain ⟨ih0, ih1⟩ := spec_PoolTake.mono_l k
    refine ⟨?_, ?_⟩
    · intro y0 y1 y2 y3 y4
      unfold spec_PoolTake.l0
      repeat' first
      | (with_reducible exact ih0 _ _ _ _ _)
      | (with_reducible exact ih1 _ _ _ _ _ _)
      | (with_reducible exact spec_Pay.mono _ _ _ _ _ _ _)
      | (with_reducible exact LeO.refl _)
      | (with_reducible exact LeO.none _)
      | (with_reducible refine LeO.ite ?_ ?_)
      | (with_reducible refine LeO.bind ?_ (fun _ => ?_))
      | exact ih0 _ _ _ _ _
      | exact ih1 _ _ _ _ _ _
      | exact spec_Pay.mono _ _ _ _ _ _ _
      | exact LeO.none _
      | refine LeO.ite ?_ ?_
      | refine LeO.bind ?_ (fun _ => ?_)
    · intro y0 y1 y2 y3 y4 y5
      unfold spec_PoolTake.j1
      repeat' first
      | (with_reducible exact ih0 _ _ _ _ _)
      | (with_reducible exact ih1 _ _ _ _ _ _)
      | (with_reducible exact spec_Pay.mono _ _ _ _ _ _ _)
      | (with_reducible exact LeO.refl _)
      | (with_reducible exact LeO.none _)
      | (with_reducible refine LeO.ite ?_ ?_)
      | (with_reducible refine LeO.bind ?_ (fun _ => ?_))
      | exact ih0 _ _ _ _ _
      | exact ih1 _ _ _ _ _ _
      | exact spec_Pay.mono _ _ _ _ _ _ _
      | exact LeO.none _
      | refine LeO.ite ?_ ?_
      | refine LeO.bind ?_ (fun _ => ?_)
theorem spec_PoolTake.mono : ∀ a0 a1 a2 k, LeO (spec_PoolTake.f k a0 a1 a2) (spec_PoolTake.f (k + 1) a0 a1 a2) := by
  intro a0 a1 a2 k
  obtain ⟨ih0, ih1⟩ := spec_PoolTake.mono_l k
  unfold spec_PoolTake.f
  repeat' first
      | (with_reducible exact ih0 _ _ _ _ _)
      | (with_reducible exact ih1 _ _ _ _ _ _)
      | (with_reducible exact spec_Pay.mono _ _ _ _ _ _ _)
      | (with_reducible exact LeO.refl _)
      | (with_reducible exact LeO.none _)
      | (with_reducible refine LeO.ite ?_ ?_)
      | (with_reducible refine LeO.bind ?_ (fun _ => ?_))
      | exact ih0 _ _ _ _ _
      | exact ih1 _ _ _ _ _ _
      | exact spec_Pay.mono _ _ _ _ _ _ _
      | exact LeO.none _
      | refine LeO.ite ?_ ?_
      | refine LeO.bind ?_ (fun _ => ?_)
def spec_PoolTake.T6 : Bool × List (List Nat × List Nat) := (true, [([], []), ([], []), ([], []), ([1, 2], [1, 2]), ([3], [3]), ([0, 4], [0, 4]), ([5], [5]), ([6], [6]), ([6], [6]), ([], []), ([9, 7, 5, 0, 1, 2, 3, 4, 5, 6, 7, 9], [7, 9]), ([8, 10, 0, 1, 2, 3, 4, 5, 6, 7, 8, 9, 10], [8])])
def spec_PoolTake.B6 : List Nat := [0, 0, 0, 6, 14, 31, 63, 127, 127, 0, 767, 2047]
theorem spec_PoolTake.tab6 : rtab .any (opsOf Try.f48 6) = spec_PoolTake.T6 := by kernel_rfl
theorem spec_PoolTake.bits6 : waitsOk spec_PoolTake.T6.2 spec_PoolTake.B6 = true := by kernel_rfl
set_option maxHeartbeats 8000000 in
set_option maxRecDepth 100000 in
theorem spec_PoolTake.calls (k : Nat) (A0 : Option Addr) (c0 : Nat) (l0 : List (S45)) (A1_0 : Option Addr) (c1_0 : Nat) (l1_0 : List Int) (A1_1 : Option Addr) (c1_1 : Nat) (l1_1 : List Int) (r : List (S45)) (w : World) (hr0 : Kd.C k45 w A0 l0.length l0) (hc0 : l0.length ≤ c0) (hr1_0 : Kd.C (Kd.int .i64) w A1_0 l1_0.length l1_0) (hc1_0 : l1_0.length ≤ c1_0) (hr1_1 : Kd.C (Kd.int .i64) w A1_1 l1_1.length l1_1) (hc1_1 : l1_1.length ≤ c1_1) (h : spec_PoolTake.f k l0 l1_0 l1_1 = some r) :
    Calls Try.prog 48 #[.slice A0 l0.length c0, .agg #[.slice A1_0 l1_0.length c1_0, .slice A1_1 l1_1.length c1_1]] w fun e w' => ∃ v0_ : Value, e = .returned (v0_) ∧ Kd.R k45 45 w' w.heap.size (fun _ => True) v0_ r ∧ Below w.heap.size w w' := by
  have hu27 := Try.underlying27
  have hu45 := Try.underlying45
  have HR0 := Aside0.mk hr0
  have HC0 := Aside0.mk hc0
  clear hr0 hc0
  have HR1_0 := Aside0.mk hr1_0
  have HC1_0 := Aside0.mk hc1_0
  clear hr1_0 hc1_0
  have HR1_1 := Aside0.mk hr1_1
  have HC1_1 := Aside0.mk hc1_1
  clear hr1_1 hc1_1
  have HB := Aside0.mk (Below.refl w.heap.size w)
  have H : ((spec_l3Copy.f l1_0 l1_1).bind fun bt183 => (spec_PoolTake.l0 k l0 (([] : List (S45))) 0 bt183.1 bt183.2)) = some r := h
  clear h
  obtain ⟨y180, hy180⟩ : ∃ y_ : List (S45), y_ = (([] : List (S45))) := ⟨_, rfl⟩
  replace H : ((spec_l3Copy.f l1_0 l1_1).bind fun bt183 => (spec_PoolTake.l0 k l0 y180 0 bt183.1 bt183.2)) = some r := by first | (rw [hy180]; with_reducible exact H) | (have H2_ := (Option.bind_some _ _).symm.trans H; rw [hy180]; with_reducible exact H2_) | (have H2_ := (Option.bind_some _ _).symm.trans H; with_reducible exact H2_) | with_reducible exact H | (rw [hy180]; exact H) | exact H
  have Ny180 := Aside0.mk hy180
  clear hy180
  replace H := Option.bind_eq_some_iff.mp H
  obtain ⟨⟨t183, t186⟩, A30, H⟩ := H
  replace H : (spec_PoolTake.l0 k l0 y180 0 t183 t186) = some r := H
  have A3 := Aside0.mk A30
  clear A30
  have H' := Aside0.mk H
  clear H
  go_enter Try.func48, Try.ntmps48
  go_wp2_with (first | ((with_reducible refine gate_dst (N := 3) rfl ?_); (try (refine gate_guard (by rfl) ?_; dsimp only)); refine box_event ?hg (N := 3) ?hd (cs := #[.slice A1_0 l1_0.length c1_0, .slice A1_1 l1_1.length c1_1]) (t := 27) ?hr ?_; (case hd => rfl); (case hg => rfl); (case hr => first | (go_simp; done) | (go_simp; rfl)); intro gb179 hg w4 hbox hb; have n0_ := Aside0.mk (below_step (by repeat (first | (with_reducible first | exact HB.out | apply below_alloc | apply pw_below_drewN | apply below_drew1) | exact HB.out)) hb); have n1_ := Aside0.mk (hbox); have n2_ := Aside0.mk ((by rw [hg]; exact (below_size (by repeat (first | (with_reducible first | exact HB.out | apply below_alloc | apply pw_below_drewN | apply below_drew1) | exact HB.out))) : w.heap.size ≤ gb179)); have n3_ := Aside0.mk ((by rw [hg]; exact (below_size (by repeat (first | (with_reducible first | exact HB.out | apply below_alloc | apply pw_below_drewN | apply below_drew1) | exact HB.out))) : w.heap.size ≤ gb179)); clear HB; have HB := n0_; have BK179 := n1_; have GW179 := n2_; have GE179 := n3_; clear n0_ n1_ n2_ n3_; clear hb hbox hg) | ((with_reducible refine gate_dst (N := 10) rfl ?_); (try (refine gate_guard (by rfl) ?_; dsimp only)); refine Kd.R_lit k45 _ 45 ?hg (N := 10) ?hd (xs := ([] : List (S45))) (inner := []) (ok := fun _ => True) (okp := fun _ => True) ?hr ?hp (fun _ hk => hk) trivial (Below.refl _ _) (Nat.le_refl _) (by simp) ?_; (case hd => rfl); (case hg => rfl); (case hr => first | (go_simp; done) | (go_simp; rfl)); (case hp => exact (Reps.none _ _)); intro v181 w5 ho6 hb hg_ hnew_; clear hg_ hnew_; (first | rw [← Ny180.out] at ho6 | (simp only [Int.reduceToNat] at ho6; rw [← Ny180.out] at ho6)); have n0_ := Aside0.mk (Kd.R_lower ho6 (below_size (by repeat (first | (with_reducible first | exact HB.out | apply below_alloc | apply pw_below_drewN | apply below_drew1 | refine below_set ?_ GE179.out) | exact HB.out)))); have n1_ := Aside0.mk (blk_below (g := gb179) (o := .cells #[.slice A1_0 l1_0.length c1_0, .slice A1_1 l1_1.length c1_1] 27 (0, 0)) (by (with_reducible repeat (first | refine blk_drewN ?_ _ | refine blk_drew ?_ | refine blk_alloc ?_ _)); exact BK179.out) hb); have n2_ := Aside0.mk (below_step (by repeat (first | (with_reducible first | exact HB.out | apply below_alloc | apply pw_below_drewN | apply below_drew1 | refine below_set ?_ GE179.out) | exact HB.out)) hb); clear BK179; clear HB; have HO182 := n0_; have BK179 := n1_; have HB := n2_; clear n0_ n1_ n2_; clear hb ho6; have hcz7_0 : w5.cell? ⟨gb179, 0, none⟩ = some (.slice A1_0 l1_0.length c1_0) := (blk_cell BK179.out 0).trans rfl; have hcz7_1 : w5.cell? ⟨gb179, 1, none⟩ = some (.slice A1_1 l1_1.length c1_1) := (blk_cell BK179.out 1).trans rfl; have hfz7_0 := blk_frozen BK179.out 0; have hfz7_1 := blk_frozen BK179.out 1) | ((with_reducible refine gate_callee (f := 65) rfl ?_); refine goesL_ (some 12) rfl rfl Try.func65 (by kernel_rfl) rfl #[.agg #[.slice A1_0 l1_0.length c1_0, .slice A1_1 l1_1.length c1_1]] rfl (by (try simp only [List.map_toArray, List.map_cons, List.map_nil]); first | done | rfl | (simp only [List.length_drop, List.length_take]; rfl)) ?_; (with_reducible refine (spec_l3Copy.calls _ _ l1_0 _ _ l1_1 t183 t186 _ ?side1 ?side2 ?side3 ?side4 A3.out).mono ?_); (case side1 => repeat (first | exact (Kd.C_below HR1_0.out HB.out) | (with_reducible refine Kd.C_alloc ?_ _) | (with_reducible refine Kd.C_drewN ?_ _) | (with_reducible refine Kd.C_drew ?_))); (case side2 => exact HC1_0.out); (case side3 => repeat (first | exact (Kd.C_below HR1_1.out HB.out) | (with_reducible refine Kd.C_alloc ?_ _) | (with_reducible refine Kd.C_drewN ?_ _) | (with_reducible refine Kd.C_drew ?_))); (case side4 => exact HC1_1.out); rintro e w8 ⟨v184, v187, rfl, ho0, ho1, hb⟩; refine ⟨_, rfl, ?_⟩; have n0_ := Aside0.mk (Kd.R_below (by (with_reducible repeat (first | apply Kd.R_alloc | apply Kd.R_drewN | apply Kd.R_drew)); exact HO182.out) hb); have n1_ := Aside0.mk (Kd.R_lower ho0 (below_size (by repeat (first | (with_reducible first | exact HB.out | apply below_alloc | apply pw_below_drewN | apply below_drew1 | refine below_set ?_ GE179.out) | exact HB.out)))); have n2_ := Aside0.mk (Kd.R_lower ho1 (below_size (by repeat (first | (with_reducible first | exact HB.out | apply below_alloc | apply pw_below_drewN | apply below_drew1 | refine below_set ?_ GE179.out) | exact HB.out)))); have n3_ := Aside0.mk (blk_below (g := gb179) (o := .cells #[.slice A1_0 l1_0.length c1_0, .slice A1_1 l1_1.length c1_1] 27 (0, 0)) (by (with_reducible repeat (first | refine blk_drewN ?_ _ | refine blk_drew ?_ | refine blk_alloc ?_ _)); exact BK179.out) hb); have n4_ := Aside0.mk (below_step (by repeat (first | (with_reducible first | exact HB.out | apply below_alloc | apply pw_below_drewN | apply below_drew1 | refine below_set ?_ GE179.out) | exact HB.out)) hb); clear HO182; clear BK179; clear HB; have HO182 := n0_; have HO185 := n1_; have HO188 := n2_; have BK179 := n3_; have HB := n4_; clear n0_ n1_ n2_ n3_ n4_; (try clear hb); (try clear hb2); (try clear hk); (try clear hi); (try clear ho0); (try clear ho1)) | ((with_reducible refine gate_dst (N := 6) rfl ?_); (try (refine gate_guard (by rfl) ?_; dsimp only)); refine box_event ?hg (N := 6) ?hd (cs := #[.slice none 0 0, .slice none 0 0]) (t := 27) ?hr ?_; (case hd => rfl); (case hg => rfl); (case hr => first | (go_simp; done) | (go_simp; rfl)); intro gb189 hg w9 hbox hb; have n0_ := Aside0.mk (Kd.R_below (by (with_reducible repeat (first | apply Kd.R_alloc | apply Kd.R_drewN | apply Kd.R_drew)); exact HO182.out) hb); have n1_ := Aside0.mk (Kd.R_below (by (with_reducible repeat (first | apply Kd.R_alloc | apply Kd.R_drewN | apply Kd.R_drew)); exact HO185.out) hb); have n2_ := Aside0.mk (Kd.R_below (by (with_reducible repeat (first | apply Kd.R_alloc | apply Kd.R_drewN | apply Kd.R_drew)); exact HO188.out) hb); have n3_ := Aside0.mk (blk_below (g := gb179) (o := .cells #[.slice A1_0 l1_0.length c1_0, .slice A1_1 l1_1.length c1_1] 27 (0, 0)) (by (with_reducible repeat (first | refine blk_drewN ?_ _ | refine blk_drew ?_ | refine blk_alloc ?_ _)); exact BK179.out) hb); have n4_ := Aside0.mk (below_step (by repeat (first | (with_reducible first | exact HB.out | apply below_alloc | apply pw_below_drewN | apply below_drew1 | refine below_set ?_ GE179.out) | exact HB.out)) hb); have n5_ := Aside0.mk (hbox); have n6_ := Aside0.mk ((by rw [hg]; exact (below_size (by repeat (first | (with_reducible first | exact HB.out | apply below_alloc | apply pw_below_drewN | apply below_drew1 | refine below_set ?_ GE179.out) | exact HB.out))) : w.heap.size ≤ gb189)); have n7_ := Aside0.mk ((by rw [hg]; exact (below_size (by repeat (first | (with_reducible first | exact HB.out | apply below_alloc | apply pw_below_drewN | apply below_drew1 | refine below_set ?_ GE179.out) | exact HB.out))) : w.heap.size ≤ gb189)); have n8_ := Aside0.mk ((by rw [hg]; exact Nat.ne_of_lt (blk_lt (g := gb179) (o := .cells #[.slice A1_0 l1_0.length c1_0, .slice A1_1 l1_1.length c1_1] 27 (0, 0)) (by (with_reducible repeat (first | refine blk_drewN ?_ _ | refine blk_drew ?_ | refine blk_alloc ?_ _)); exact BK179.out)) : gb179 ≠ gb189)); have n9_ := Aside0.mk ((by rw [hg]; exact Nat.ne_of_gt (blk_lt (g := gb179) (o := .cells #[.slice A1_0 l1_0.length c1_0, .slice A1_1 l1_1.length c1_1] 27 (0, 0)) (by (with_reducible repeat (first | refine blk_drewN ?_ _ | refine blk_drew ?_ | refine blk_alloc ?_ _)); exact BK179.out)) : gb189 ≠ gb179)); clear HO182; clear HO185; clear HO188; clear BK179; clear HB; have HO182 := n0_; have HO185 := n1_; have HO188 := n2_; have BK179 := n3_; have HB := n4_; have BK189 := n5_; have GW189 := n6_; have GE189 := n7_; have NB179_189 := n8_; have NB189_179 := n9_; clear n0_ n1_ n2_ n3_ n4_ n5_ n6_ n7_ n8_ n9_; clear hb hbox hg; obtain ⟨Ao10, co10, eo10⟩ := Kd.R_slice HO185.out; subst eo10; have hnb11 := NB189_179.out; have hnc11 := NB179_189.out; have hcz12_0 : w9.cell? ⟨gb189, 0, none⟩ = some (.slice none 0 0) := (blk_cell BK189.out 0).trans rfl; have hcz12_1 : w9.cell? ⟨gb189, 1, none⟩ = some (.slice none 0 0) := (blk_cell BK189.out 1).trans rfl; have hfz12_0 := blk_frozen BK189.out 0; have hfz12_1 := blk_frozen BK189.out 1; obtain ⟨Ao13, co13, eo13⟩ := Kd.R_slice HO188.out; subst eo13))
  go_loopg [5, 7] k (fun kq v5 v7 w' => ∃ (x5_1 : List (S45)) (x7_1 : Int) (x190000_1 : List Int) (x190001_1 : List Int) (u190000 : Value) (u190001 : Value), v7 = .int .i64 x7_1 ∧ Aside0 (spec_PoolTake.l0 kq l0 x5_1 x7_1 x190000_1 x190001_1 = some r) ∧ Aside0 (kq ≤ k) ∧ Aside0 (Kd.R k45 45 w' w.heap.size (fun _ => True) v5 x5_1) ∧ Aside0 (Kd.R (Kd.int .i64) 3 w' w.heap.size (fun k_ => some k_ ≠ (u190001 : Value).ownBlock) u190000 x190000_1) ∧ Aside0 (Kd.R (Kd.int .i64) 3 w' w.heap.size (fun k_ => some k_ ≠ (u190000 : Value).ownBlock) u190001 x190001_1) ∧ Aside0 (w'.heap[gb179]? = some (.cells #[(.slice A1_0 l1_0.length c1_0), (.slice A1_1 l1_1.length c1_1)] 27 (0, 0))) ∧ Aside0 (w'.heap[gb189]? = some (.cells #[u190000, u190001] 27 (0, 0))) ∧ Aside0 (Below w.heap.size w w'))
  case atStart => exact ⟨(y180), (0), (t183), (t186), (.slice Ao10 t183.length co10), (.slice Ao13 t186.length co13), (by first | rfl | (simp; done) | (simp [*]; done)), H', ⟨Nat.le_refl _⟩, ⟨by (with_reducible repeat (first | apply Kd.R_alloc | apply Kd.R_drewN | apply Kd.R_drew)); exact Kd.R_mono (Kd.R_far (p := ⟨gb189, 1, none⟩) (Kd.R_far (p := ⟨gb189, 0, none⟩) (Kd.R_types HO182.out BK189.out (by decide)) (fun _ hk => hk.2) (.slice Ao10 t183.length co10)) (fun _ hk => hk.2) (.slice Ao13 t186.length co13)) (fun _ hk => trivial)⟩, ⟨by (with_reducible repeat (first | apply Kd.R_alloc | apply Kd.R_drewN | apply Kd.R_drew)); exact Kd.R_mono (Kd.R_far (p := ⟨gb189, 1, none⟩) (Kd.R_far (p := ⟨gb189, 0, none⟩) (Kd.R_types HO185.out BK189.out (by decide)) (fun _ hk => hk.2) (.slice Ao10 t183.length co10)) (fun _ hk => hk.2) (.slice Ao13 t186.length co13)) (fun _ hk => hk.1)⟩, ⟨by (with_reducible repeat (first | apply Kd.R_alloc | apply Kd.R_drewN | apply Kd.R_drew)); exact Kd.R_mono (Kd.R_far (p := ⟨gb189, 1, none⟩) (Kd.R_far (p := ⟨gb189, 0, none⟩) (Kd.R_types HO188.out BK189.out (by decide)) (fun _ hk => hk.2) (.slice Ao10 t183.length co10)) (fun _ hk => hk.2) (.slice Ao13 t186.length co13)) (fun _ hk => hk.1)⟩, ⟨by (with_reducible repeat (first | refine blk_drewN ?_ _ | refine blk_drew ?_ | refine blk_alloc ?_ _)); refine blk_far ?_ NB179_189.out _; (with_reducible repeat (first | refine blk_drewN ?_ _ | refine blk_drew ?_ | refine blk_alloc ?_ _)); refine blk_far ?_ NB179_189.out _; (with_reducible repeat (first | refine blk_drewN ?_ _ | refine blk_drew ?_ | refine blk_alloc ?_ _)); exact BK179.out⟩, ⟨by (with_reducible repeat (first | refine blk_drewN ?_ _ | refine blk_drew ?_ | refine blk_alloc ?_ _)); refine blk_put (cs := #[.slice Ao10 t183.length co10, .slice none 0 0]) ?_ 1 _ rfl; (with_reducible repeat (first | refine blk_drewN ?_ _ | refine blk_drew ?_ | refine blk_alloc ?_ _)); refine blk_put (cs := #[.slice none 0 0, .slice none 0 0]) ?_ 0 _ rfl; (with_reducible repeat (first | refine blk_drewN ?_ _ | refine blk_drew ?_ | refine blk_alloc ?_ _)); exact BK189.out⟩, ⟨by repeat (first | (with_reducible first | exact HB.out | apply below_alloc | apply pw_below_drewN | apply below_drew1 | refine below_set ?_ GE179.out | refine below_set ?_ GE189.out) | exact HB.out)⟩⟩
  case round =>
    clear H'
    try clear c1
    try clear p2
    try clear c4
    try clear c6
    try clear c11
    try clear hcz12_0
    try clear hcz12_1
    try clear hcz7_0
    try clear hcz7_1
    try clear hfz12_0
    try clear hfz12_1
    try clear hfz7_0
    try clear hfz7_1
    obtain ⟨x5_1, x7_1, x190000_1, x190001_1, u190000, u190001, rfl, HA, HK1, HO_5, HO_190000, HO_190001, BK179, BK189, HB⟩ := hrel
    cases gk with
    | zero => exact absurd HA.out (by simp [spec_PoolTake.l0])
    | succ k1 =>
      have H := HA.out
      clear HA
      simp only [spec_PoolTake.l0] at H
      have HC14 := Aside0.mk H
      clear H
      go_upto_region 4 with (fail)
      go_cut [21] (fun v21 wc => ∃ (kq : Nat) (x21_13 : Bool), v21 = .bool x21_13 ∧ Aside0 (spec_PoolTake.j1 kq l0 x5_1 x7_1 x21_13 x190000_1 x190001_1 = some r) ∧ Aside0 (kq ≤ k1) ∧ Aside0 (Kd.R k45 45 wc w.heap.size (fun _ => True) u5 x5_1) ∧ Aside0 (Kd.R (Kd.int .i64) 3 wc w.heap.size (fun k_ => some k_ ≠ (u190001 : Value).ownBlock) u190000 x190000_1) ∧ Aside0 (Kd.R (Kd.int .i64) 3 wc w.heap.size (fun k_ => some k_ ≠ (u190000 : Value).ownBlock) u190001 x190001_1) ∧ Aside0 (wc.heap[gb179]? = some (.cells #[(.slice A1_0 l1_0.length c1_0), (.slice A1_1 l1_1.length c1_1)] 27 (0, 0))) ∧ Aside0 (wc.heap[gb189]? = some (.cells #[u190000, u190001] 27 (0, 0))) ∧ Aside0 (Below w.heap.size w wc))
      case first =>
        have H := HC14.out
        clear HC14
        by_cases c15 : x7_1 < (l0.length : Int)
        · rw [if_pos c15] at H
          have c15b0 : decide (x7_1 < (l0.length : Int)) = true := decide_eq_true c15
          clear c15
          (first | rw [c15b0] | (simp only [i64_w, i32_w]; rw [c15b0]) | skip)
          have H' := Aside0.mk H
          clear H
          obtain ⟨Ao16, co16, eo16⟩ := Kd.R_slice HO_5.out
          subst eo16
          go_wp2
          go_meet
          case rel => exact ⟨_, (decide ((x5_1.length : Int) < 2)), (by first | rfl | (simp; done) | (simp [*]; done)), H', ⟨by have := HK1.out; first | omega | exact Nat.le_refl _⟩, ⟨by (with_reducible repeat (first | apply Kd.R_alloc | apply Kd.R_drewN | apply Kd.R_drew)); exact HO_5.out⟩, ⟨by (with_reducible repeat (first | apply Kd.R_alloc | apply Kd.R_drewN | apply Kd.R_drew)); exact HO_190000.out⟩, ⟨by (with_reducible repeat (first | apply Kd.R_alloc | apply Kd.R_drewN | apply Kd.R_drew)); exact HO_190001.out⟩, ⟨by (with_reducible repeat (first | refine blk_drewN ?_ _ | refine blk_drew ?_ | refine blk_alloc ?_ _)); exact BK179.out⟩, ⟨by (with_reducible repeat (first | refine blk_drewN ?_ _ | refine blk_drew ?_ | refine blk_alloc ?_ _)); exact BK189.out⟩, ⟨by repeat (first | (with_reducible first | exact HB.out | apply below_alloc | apply pw_below_drewN | apply below_drew1 | refine below_set ?_ GE179.out | refine below_set ?_ GE189.out) | exact HB.out)⟩⟩
        · rw [if_neg c15] at H
          have c15b0 : decide (x7_1 < (l0.length : Int)) = false := decide_eq_false c15
          clear c15
          (first | rw [c15b0] | (simp only [i64_w, i32_w]; rw [c15b0]) | skip)
          have H' := Aside0.mk H
          clear H
          go_wp2
          go_meet
          case rel => exact ⟨_, (false), (by first | rfl | (simp; done) | (simp [*]; done)), H', ⟨by have := HK1.out; first | omega | exact Nat.le_refl _⟩, ⟨by (with_reducible repeat (first | apply Kd.R_alloc | apply Kd.R_drewN | apply Kd.R_drew)); exact HO_5.out⟩, ⟨by (with_reducible repeat (first | apply Kd.R_alloc | apply Kd.R_drewN | apply Kd.R_drew)); exact HO_190000.out⟩, ⟨by (with_reducible repeat (first | apply Kd.R_alloc | apply Kd.R_drewN | apply Kd.R_drew)); exact HO_190001.out⟩, ⟨by (with_reducible repeat (first | refine blk_drewN ?_ _ | refine blk_drew ?_ | refine blk_alloc ?_ _)); exact BK179.out⟩, ⟨by (with_reducible repeat (first | refine blk_drewN ?_ _ | refine blk_drew ?_ | refine blk_alloc ?_ _)); exact BK189.out⟩, ⟨by repeat (first | (with_reducible first | exact HB.out | apply below_alloc | apply pw_below_drewN | apply below_drew1 | refine below_set ?_ GE179.out | refine below_set ?_ GE189.out) | exact HB.out)⟩⟩
      case rest =>
        clear HC14
        try clear c1
        try clear p2
        try clear c4
        try clear c6
        try clear c11
        try clear c15
        try clear c15b0
        try clear hcz12_0
        try clear hcz12_1
        try clear hcz7_0
        try clear hcz7_1
        try clear hfz12_0
        try clear hfz12_1
        try clear hfz7_0
        try clear hfz7_1
        try clear p2
        obtain ⟨kq, x21_13, rfl, HA, HJ13, HO_5, HO_190000, HO_190001, BK179, BK189, HB⟩ := hcut
        cases kq with
        | zero => exact absurd HA.out (by simp [spec_PoolTake.j1])
        | succ kj13 =>
          have H := HA.out
          clear HA
          simp only [spec_PoolTake.j1] at H
          have HF := Aside0.mk H
          clear H
          go_upto_if 21 with (fail)
          have H := HF.out
          clear HF
          by_cases c17 : x21_13 = true
          · subst c17
            have H1 : (if 0 ≤ x7_1 then (if x7_1 < (l0.length : Int) then ((spec_Pay.f kj13 x190000_1 x190001_1 ((rd_T45 l0 x7_1).f0) ((rd_T45 l0 x7_1).f1) ((rd_T45 l0 x7_1).f2) ((rd_T45 l0 x7_1).f3)).bind fun bt191 => (if bt191.2.2 = 0 then (if x5_1.length < 4398046511104 then (spec_PoolTake.l0 kj13 l0 (x5_1 ++ [(⟨(rd_T45 l0 x7_1).f0, (rd_T45 l0 x7_1).f1, (rd_T45 l0 x7_1).f2, (rd_T45 l0 x7_1).f3⟩ : S45)]) (wrap64 (x7_1 + 1)) bt191.1 bt191.2.1) else (none)) else (if bt191.2.2 = 4 then (if x5_1.length < 4398046511104 then (spec_PoolTake.l0 kj13 l0 (x5_1 ++ [(⟨(rd_T45 l0 x7_1).f0, (rd_T45 l0 x7_1).f1, (rd_T45 l0 x7_1).f2, (rd_T45 l0 x7_1).f3⟩ : S45)]) (wrap64 (x7_1 + 1)) bt191.1 bt191.2.1) else (none)) else (spec_PoolTake.l0 kj13 l0 x5_1 (wrap64 (x7_1 + 1)) x190000_1 x190001_1)))) else (none)) else (none)) = some r := by rw [if_pos rfl] at H; exact H
            clear H
            have H := H1
            clear H1
            by_cases c18 : 0 ≤ x7_1
            · rw [if_pos c18] at H
              have c18b0 : decide (0 ≤ x7_1) = true := decide_eq_true c18
              clear c18
              (first | rw [c18b0] | (simp only [i64_w, i32_w]; rw [c18b0]) | skip)
              by_cases c19 : x7_1 < (l0.length : Int)
              · rw [if_pos c19] at H
                have c19b0 : decide (x7_1 < (l0.length : Int)) = true := decide_eq_true c19
                clear c19
                replace H := Option.bind_eq_some_iff.mp H
                obtain ⟨⟨t191, t194, t197⟩, A200, H⟩ := H
                replace H : (if t197 = 0 then (if x5_1.length < 4398046511104 then (spec_PoolTake.l0 kj13 l0 (x5_1 ++ [(⟨(rd_T45 l0 x7_1).f0, (rd_T45 l0 x7_1).f1, (rd_T45 l0 x7_1).f2, (rd_T45 l0 x7_1).f3⟩ : S45)]) (wrap64 (x7_1 + 1)) t191 t194) else (none)) else (if t197 = 4 then (if x5_1.length < 4398046511104 then (spec_PoolTake.l0 kj13 l0 (x5_1 ++ [(⟨(rd_T45 l0 x7_1).f0, (rd_T45 l0 x7_1).f1, (rd_T45 l0 x7_1).f2, (rd_T45 l0 x7_1).f3⟩ : S45)]) (wrap64 (x7_1 + 1)) t191 t194) else (none)) else (spec_PoolTake.l0 kj13 l0 x5_1 (wrap64 (x7_1 + 1)) x190000_1 x190001_1))) = some r := H
                have A20 := Aside0.mk A200
                clear A200
                by_cases c21 : t197 = 0
                · rw [if_pos c21] at H
                  have c21b0 : (t197 == 0) = true := beq_iff_eq.mpr c21
                  have c21b1 : (t197 != 0) = false := bne_eq_false_iff_eq.mpr c21
                  clear c21
                  by_cases c22 : x5_1.length < 4398046511104
                  · rw [if_pos c22] at H
                    have LMc22 := Aside0.mk c22
                    clear c22
                    obtain ⟨y200, hy200⟩ : ∃ y_ : List (S45), y_ = (x5_1 ++ [(⟨(rd_T45 l0 x7_1).f0, (rd_T45 l0 x7_1).f1, (rd_T45 l0 x7_1).f2, (rd_T45 l0 x7_1).f3⟩ : S45)]) := ⟨_, rfl⟩
                    replace H : (spec_PoolTake.l0 kj13 l0 y200 (wrap64 (x7_1 + 1)) t191 t194) = some r := by first | (rw [hy200]; with_reducible exact H) | (have H2_ := (Option.bind_some _ _).symm.trans H; rw [hy200]; with_reducible exact H2_) | (have H2_ := (Option.bind_some _ _).symm.trans H; with_reducible exact H2_) | with_reducible exact H | (rw [hy200]; exact H) | exact H
                    have Ny200 := Aside0.mk hy200
                    clear hy200
                    have H' := Aside0.mk H
                    clear H
                    obtain ⟨Ao23, co23, eo23⟩ := Kd.R_slice HO_190000.out
                    subst eo23
                    obtain ⟨Ao24, co24, eo24⟩ := Kd.R_slice HO_190001.out
                    subst eo24
                    try go_wp2
                    have n0_ := Aside0.mk (Kd.R_drew HO_5.out)
                    have n1_ := Aside0.mk (Kd.R_drew HO_190000.out)
                    have n2_ := Aside0.mk (Kd.R_drew HO_190001.out)
                    have n3_ := Aside0.mk (blk_drew BK179.out)
                    have n4_ := Aside0.mk (blk_drew BK189.out)
                    have n5_ := Aside0.mk (below_drew1 HB.out)
                    clear HO_5
                    clear HO_190000
                    clear HO_190001
                    clear BK179
                    clear BK189
                    clear HB
                    have HO_5 := n0_
                    have HO_190000 := n1_
                    have HO_190001 := n2_
                    have BK179 := n3_
                    have BK189 := n4_
                    have HB := n5_
                    clear n0_ n1_ n2_ n3_ n4_ n5_
                    have p190 : 0 ≤ (x7_1 : Int) := of_decide_eq_true (by first | (with_reducible assumption) | assumption)
                    have q190 : x7_1 < (l0.length : Int) := of_decide_eq_true (by first | (with_reducible assumption) | assumption)
                    obtain ⟨ad190, e190, hx190_0, hx190_1, hx190_2, hx190_3⟩ := at_T45 HR0.out x7_1 p190 q190
                    have hw190_3 := hx190_3
                    have hw190_2 := hx190_2
                    have hw190_1 := hx190_1
                    have hw190_0 := hx190_0
                    cases e190
                    replace hx190_0 := (HB.out.cell (World.block_lt_of_cell? w _ hx190_0)).trans hx190_0
                    replace hx190_1 := (HB.out.cell (World.block_lt_of_cell? w _ hx190_1)).trans hx190_1
                    replace hx190_2 := (HB.out.cell (World.block_lt_of_cell? w _ hx190_2)).trans hx190_2
                    replace hx190_3 := (HB.out.cell (World.block_lt_of_cell? w _ hx190_3)).trans hx190_3
                    replace p190 := eq_true p190
                    replace q190 := eq_true q190
                    refine start_ (n := 12) (S := fun w' => w'.cell? ⟨gb189, 0, none⟩ = some (.slice Ao23 x190000_1.length co23) ∧ w'.cell? ⟨gb189, 1, none⟩ = some (.slice Ao24 x190001_1.length co24) ∧ w'.cell? (ad190.add ((x7_1).toNat * 4)) = some (.int .i64 ((rd_T45 l0 x7_1).f0)) ∧ w'.cell? ⟨(ad190.add ((x7_1).toNat * 4)).block, (ad190.add ((x7_1).toNat * 4)).off + 1, none⟩ = some (.int .i64 ((rd_T45 l0 x7_1).f1)) ∧ w'.cell? ⟨(ad190.add ((x7_1).toNat * 4)).block, (ad190.add ((x7_1).toNat * 4)).off + 2, none⟩ = some (.int .i64 ((rd_T45 l0 x7_1).f2)) ∧ w'.cell? ⟨(ad190.add ((x7_1).toNat * 4)).block, (ad190.add ((x7_1).toNat * 4)).off + 3, none⟩ = some (.int .i64 ((rd_T45 l0 x7_1).f3))) (ds := []) #[false, false, false, false, false, false, false, false, false, false, false, false] (by kernel_rfl) rfl rfl ⟨(blk_cell BK189.out 0).trans rfl, (blk_cell BK189.out 1).trans rfl, ((HB.out.cell (World.block_lt_of_cell? w _ hw190_0)).trans hw190_0), ((HB.out.cell (World.block_lt_of_cell? w _ hw190_1)).trans hw190_1), ((HB.out.cell (World.block_lt_of_cell? w _ hw190_2)).trans hw190_2), ((HB.out.cell (World.block_lt_of_cell? w _ hw190_3)).trans hw190_3)⟩ (fun hHeld => ?_); refine with_tabW spec_PoolTake.tab6 spec_PoolTake.bits6 (fun HT_ HW_ => ?_)
                    generalize wc.drew = w25 at HO_5 HO_190000 HO_190001 BK179 BK189 HB hx190_0 hx190_1 hx190_2 hx190_3 hHeld ⊢
                    refine pure_ (i := 1) (N := some 26) (v := ?_) (a' := ?_) #[false, true, false, false, false, false, false, false, false, false, false, false] rfl rfl (any_of HT_.out (by kernel_rfl)) (fun _ _ _ h => h) (Or.inl ⟨by rfl, ?_⟩) ?_ ?_
                    rotate_left
                    · intro w'
                      go_simp
                      with_reducible rfl
                    rotate_left
                    · simp only [Act.put, List.setIfInBounds_toArray, List.set_cons_zero, List.set_cons_succ, i64_w, i32_w]
                      rfl
                    refine pure_ (i := 2) (N := some 27) (v := ?_) (a' := ?_) #[false, true, true, false, false, false, false, false, false, false, false, false] rfl rfl (any_of HT_.out (by kernel_rfl)) (fun _ _ _ h => h) (Or.inl ⟨by rfl, ?_⟩) ?_ ?_
                    rotate_left
                    · intro w'
                      go_simp
                      with_reducible rfl
                    rotate_left
                    · simp only [Act.put, List.setIfInBounds_toArray, List.set_cons_zero, List.set_cons_succ, i64_w, i32_w]
                      rfl
                    refine pure_ (i := 3) (N := some 28) (v := ?_) (a' := ?_) #[false, true, true, true, false, false, false, false, false, false, false, false] rfl rfl (any_of HT_.out (by kernel_rfl)) (fun _ _ _ h => h) (Or.inl ⟨by rfl, ?_⟩) ?_ ?_
                    rotate_left
                    · intro w'
                      go_simp
                      with_reducible rfl
                    rotate_left
                    · simp only [Act.put, List.setIfInBounds_toArray, List.set_cons_zero, List.set_cons_succ, i64_w, i32_w]
                      rfl
                    refine take_ (i := 0) (N := some 25) (v := ?_) (a' := ?_) #[true, true, true, true, false, false, false, false, false, false, false, false] rfl rfl (take_ofW HT_.out HW_.out (by kernel_rfl)) (fun _ _ _ h => h) (Or.inl ⟨by rfl, ?_⟩) hHeld ?_ ?_
                    rotate_left
                    · rintro w' ⟨s0, s1, s2, s3, s4, s5⟩
                      go_simp
                      with_reducible rfl
                    rotate_left
                    · simp only [Act.put, List.setIfInBounds_toArray, List.set_cons_zero, List.set_cons_succ, i64_w, i32_w]
                      rfl
                    refine take_ (i := 4) (N := some 29) (v := ?_) (a' := ?_) #[true, true, true, true, true, false, false, false, false, false, false, false] rfl rfl (take_ofW HT_.out HW_.out (by kernel_rfl)) (fun _ _ _ h => h) (Or.inl ⟨by rfl, ?_⟩) hHeld ?_ ?_
                    rotate_left
                    · rintro w' ⟨s0, s1, s2, s3, s4, s5⟩
                      go_simp
                      with_reducible rfl
                    rotate_left
                    · simp only [Act.put, List.setIfInBounds_toArray, List.set_cons_zero, List.set_cons_succ, i64_w, i32_w]
                      rfl
                    refine join_ (σ := Value × Value × Nat) 2 #[true, true, true, true, true, true, true, true, true, true, false, false] (fun s_ => [(30, .tuple #[.agg #[s_.1, s_.2.1], .int .i64 t197]), (8, .pointer (some ⟨s_.2.2, 0, none⟩)), (24, .tuple #[.agg #[s_.1, s_.2.1], .int .i64 t197]), (31, .agg #[s_.1, s_.2.1]), (32, .int .i64 t197)]) (fun s_ w' => (w'.cell? ⟨gb189, 0, none⟩ = some (.slice Ao23 x190000_1.length co23) ∧ w'.cell? ⟨gb189, 1, none⟩ = some (.slice Ao24 x190001_1.length co24) ∧ w'.cell? (ad190.add ((x7_1).toNat * 4)) = some (.int .i64 ((rd_T45 l0 x7_1).f0)) ∧ w'.cell? ⟨(ad190.add ((x7_1).toNat * 4)).block, (ad190.add ((x7_1).toNat * 4)).off + 1, none⟩ = some (.int .i64 ((rd_T45 l0 x7_1).f1)) ∧ w'.cell? ⟨(ad190.add ((x7_1).toNat * 4)).block, (ad190.add ((x7_1).toNat * 4)).off + 2, none⟩ = some (.int .i64 ((rd_T45 l0 x7_1).f2)) ∧ w'.cell? ⟨(ad190.add ((x7_1).toNat * 4)).block, (ad190.add ((x7_1).toNat * 4)).off + 3, none⟩ = some (.int .i64 ((rd_T45 l0 x7_1).f3))) ∧ (Kd.R (Kd.int .i64) 3 w' w.heap.size (fun k_ => some k_ ≠ (s_.2.1 : Value).ownBlock ∧ some k_ ≠ (.slice Ao23 x190000_1.length co23 : Value).ownBlock ∧ some k_ ≠ (.slice Ao24 x190001_1.length co24 : Value).ownBlock) s_.1 t191) ∧ (Kd.R (Kd.int .i64) 3 w' w.heap.size (fun k_ => some k_ ≠ (s_.1 : Value).ownBlock ∧ some k_ ≠ (.slice Ao23 x190000_1.length co23 : Value).ownBlock ∧ some k_ ≠ (.slice Ao24 x190001_1.length co24 : Value).ownBlock) s_.2.1 t194) ∧ (Kd.R (Kd.int .i64) 3 w' w.heap.size (fun k_ => some k_ ≠ (s_.1 : Value).ownBlock ∧ some k_ ≠ (s_.2.1 : Value).ownBlock ∧ some k_ ≠ (.slice Ao24 x190001_1.length co24 : Value).ownBlock) (.slice Ao23 x190000_1.length co23) x190000_1) ∧ (Kd.R (Kd.int .i64) 3 w' w.heap.size (fun k_ => some k_ ≠ (s_.1 : Value).ownBlock ∧ some k_ ≠ (s_.2.1 : Value).ownBlock ∧ some k_ ≠ (.slice Ao23 x190000_1.length co23 : Value).ownBlock) (.slice Ao24 x190001_1.length co24) x190001_1) ∧ (Kd.R k45 45 w' w.heap.size (fun _ => True) u5 x5_1) ∧ (w'.heap[gb179]? = some (.cells #[.slice A1_0 l1_0.length c1_0, .slice A1_1 l1_1.length c1_1] 27 (0, 0))) ∧ (w'.heap[gb189]? = some (.cells #[.slice Ao23 x190000_1.length co23, .slice Ao24 x190001_1.length co24] 27 (0, 0))) ∧ (w'.heap[s_.2.2]? = some (.cells #[.slice none 0 0, .slice none 0 0] 27 (0, 0))) ∧ (w.heap.size ≤ s_.2.2) ∧ (w.heap.size ≤ s_.2.2) ∧ (gb179 ≠ s_.2.2) ∧ (s_.2.2 ≠ gb179) ∧ (gb189 ≠ s_.2.2) ∧ (s_.2.2 ≠ gb189) ∧ (Below w.heap.size w w')) ?_ ?_
                    rotate_left
                    · intro hCont
                      refine two_ (i := 5) (j := 9) (Ni := some 30) (Nj := some 8) #[true, true, true, true, true, true, false, false, false, false, false, false] #[true, true, true, true, true, false, false, false, false, true, false, false] rfl rfl rfl rfl (two_of HT_.out (by kernel_rfl)) (by decide) (by decide) (fun K hK => ?_) (fun K hK => ?_)
                      · skip
                        refine goes_ Try.func34 (by kernel_rfl) rfl #[.agg #[.slice Ao23 x190000_1.length co23, .slice Ao24 x190001_1.length co24], .agg #[.int .i64 ((rd_T45 l0 x7_1).f0), .int .i64 ((rd_T45 l0 x7_1).f1), .int .i64 ((rd_T45 l0 x7_1).f2), .int .i64 ((rd_T45 l0 x7_1).f3)]] (by rfl) rfl rfl (by (try simp only [List.map_toArray, List.map_cons, List.map_nil]); first | done | rfl | (simp only [List.length_drop, List.length_take]; rfl)) ?_
                        with_reducible refine (spec_Pay.calls kj13 _ _ x190000_1 _ _ x190001_1 ((rd_T45 l0 x7_1).f0) ((rd_T45 l0 x7_1).f1) ((rd_T45 l0 x7_1).f2) ((rd_T45 l0 x7_1).f3) t191 t194 t197 _ ?side1 ?side2 ?side3 ?side4 A20.out).mono ?_
                        (case side1 => repeat (first | exact (Kd.R_reads' HO_190000.out).2.2 | (with_reducible refine Kd.C_alloc ?_ _) | (with_reducible refine Kd.C_drewN ?_ _) | (with_reducible refine Kd.C_drew ?_)))
                        (case side2 => exact (Kd.R_reads' HO_190000.out).2.1)
                        (case side3 => repeat (first | exact (Kd.R_reads' HO_190001.out).2.2 | (with_reducible refine Kd.C_alloc ?_ _) | (with_reducible refine Kd.C_drewN ?_ _) | (with_reducible refine Kd.C_drew ?_)))
                        (case side4 => exact (Kd.R_reads' HO_190001.out).2.1)
                        rintro e w26 ⟨v192, v195, rfl, ho0, ho1, hb⟩
                        refine ⟨_, rfl, ?_⟩
                        have n0_ := Aside0.mk (Kd.R_below (by (with_reducible repeat (first | apply Kd.R_alloc | apply Kd.R_drewN | apply Kd.R_drew)); exact HO_5.out) hb)
                        have n1_ := Aside0.mk (Kd.R_mono (Kd.R_told (Kd.R_told (Kd.R_old (by (with_reducible repeat (first | apply Kd.R_alloc | apply Kd.R_drewN | apply Kd.R_drew)); exact HO_190000.out) hb) (Kd.R_base ho0)) (Kd.R_base ho1)) (fun _ h_ => h_.1))
                        have n2_ := Aside0.mk (Kd.R_mono (Kd.R_told (Kd.R_told (Kd.R_old (by (with_reducible repeat (first | apply Kd.R_alloc | apply Kd.R_drewN | apply Kd.R_drew)); exact HO_190001.out) hb) (Kd.R_base ho0)) (Kd.R_base ho1)) (fun _ h_ => h_.1))
                        have n3_ := Aside0.mk (Kd.R_lower (Kd.R_new' (Kd.R_new' ho0 (Kd.R_lt (by (with_reducible repeat (first | apply Kd.R_alloc | apply Kd.R_drewN | apply Kd.R_drew)); exact HO_190000.out))) (Kd.R_lt (by (with_reducible repeat (first | apply Kd.R_alloc | apply Kd.R_drewN | apply Kd.R_drew)); exact HO_190001.out))) (below_size (by repeat (first | (with_reducible first | exact HB.out | apply below_alloc | apply pw_below_drewN | apply below_drew1 | refine below_set ?_ GE179.out | refine below_set ?_ GE189.out) | exact HB.out))))
                        have n4_ := Aside0.mk (Kd.R_lower (Kd.R_new' (Kd.R_new' ho1 (Kd.R_lt (by (with_reducible repeat (first | apply Kd.R_alloc | apply Kd.R_drewN | apply Kd.R_drew)); exact HO_190000.out))) (Kd.R_lt (by (with_reducible repeat (first | apply Kd.R_alloc | apply Kd.R_drewN | apply Kd.R_drew)); exact HO_190001.out))) (below_size (by repeat (first | (with_reducible first | exact HB.out | apply below_alloc | apply pw_below_drewN | apply below_drew1 | refine below_set ?_ GE179.out | refine below_set ?_ GE189.out) | exact HB.out))))
                        have n5_ := Aside0.mk (blk_below (g := gb179) (o := .cells #[.slice A1_0 l1_0.length c1_0, .slice A1_1 l1_1.length c1_1] 27 (0, 0)) (by (with_reducible repeat (first | refine blk_drewN ?_ _ | refine blk_drew ?_ | refine blk_alloc ?_ _)); exact BK179.out) hb)
                        have n6_ := Aside0.mk (blk_below (g := gb189) (o := .cells #[.slice Ao23 x190000_1.length co23, .slice Ao24 x190001_1.length co24] 27 (0, 0)) (by (with_reducible repeat (first | refine blk_drewN ?_ _ | refine blk_drew ?_ | refine blk_alloc ?_ _)); exact BK189.out) hb)
                        have n7_ := Aside0.mk (below_step (by repeat (first | (with_reducible first | exact HB.out | apply below_alloc | apply pw_below_drewN | apply below_drew1 | refine below_set ?_ GE179.out | refine below_set ?_ GE189.out) | exact HB.out)) hb)
                        clear HO_5
                        clear HO_190000
                        clear HO_190001
                        clear BK179
                        clear BK189
                        clear HB
                        have HO_5 := n0_
                        have HO_190000 := n1_
                        have HO_190001 := n2_
                        have HO193 := n3_
                        have HO196 := n4_
                        have BK179 := n5_
                        have BK189 := n6_
                        have HB := n7_
                        clear n0_ n1_ n2_ n3_ n4_ n5_ n6_ n7_
                        (try clear hb)
                        (try clear hb2)
                        (try clear hk)
                        (try clear hi)
                        (try clear ho0)
                        (try clear ho1)
                        refine hK.out _ _ ⟨(blk_cell BK189.out 0).trans rfl, (blk_cell BK189.out 1).trans rfl, ((HB.out.cell (World.block_lt_of_cell? w _ hw190_0)).trans hw190_0), ((HB.out.cell (World.block_lt_of_cell? w _ hw190_1)).trans hw190_1), ((HB.out.cell (World.block_lt_of_cell? w _ hw190_2)).trans hw190_2), ((HB.out.cell (World.block_lt_of_cell? w _ hw190_3)).trans hw190_3)⟩ (fun hHeld => ?_)
                        clear hK K
                        refine norm_ (a' := ?_) ?_ ?_
                        rotate_left
                        · show Act.put _ (some 30) _ = _
                          simp only [Act.put, List.setIfInBounds_toArray, List.set_cons_zero, List.set_cons_succ, i64_w, i32_w]
                          rfl
                        refine pure_ (i := 6) (N := some 24) (v := ?_) (a' := ?_) #[true, true, true, true, true, true, true, false, false, false, false, false] rfl rfl (any_of HT_.out (by kernel_rfl)) (fun _ _ _ h => h) (Or.inl ⟨by rfl, ?_⟩) ?_ ?_
                        rotate_left
                        · intro w'
                          go_simp
                          with_reducible rfl
                        rotate_left
                        · simp only [Act.put, List.setIfInBounds_toArray, List.set_cons_zero, List.set_cons_succ, i64_w, i32_w]
                          rfl
                        refine pure_ (i := 7) (N := some 31) (v := ?_) (a' := ?_) #[true, true, true, true, true, true, true, true, false, false, false, false] rfl rfl (any_of HT_.out (by kernel_rfl)) (fun _ _ _ h => h) (Or.inl ⟨by rfl, ?_⟩) ?_ ?_
                        rotate_left
                        · intro w'
                          go_simp
                          with_reducible rfl
                        rotate_left
                        · simp only [Act.put, List.setIfInBounds_toArray, List.set_cons_zero, List.set_cons_succ, i64_w, i32_w]
                          rfl
                        refine pure_ (i := 8) (N := some 32) (v := ?_) (a' := ?_) #[true, true, true, true, true, true, true, true, true, false, false, false] rfl rfl (any_of HT_.out (by kernel_rfl)) (fun _ _ _ h => h) (Or.inl ⟨by rfl, ?_⟩) ?_ ?_
                        rotate_left
                        · intro w'
                          go_simp
                          with_reducible rfl
                        rotate_left
                        · simp only [Act.put, List.setIfInBounds_toArray, List.set_cons_zero, List.set_cons_succ, i64_w, i32_w]
                          rfl
                        refine one_ (i := 9) (N := some 8) #[true, true, true, true, true, true, true, true, true, true, false, false] rfl rfl (one_of HT_.out (by kernel_rfl)) (by decide) (fun K hK => ?_)
                        refine box_step ?hg (N := 8) ?hd (cs := #[.slice none 0 0, .slice none 0 0]) (t := 27) ?hr ?_; (case hd => rfl); (case hg => rfl); (case hr => first | (go_simp; done) | (go_simp; rfl))
                        intro gb198 hg w27 hbox hb
                        have n0_ := Aside0.mk (Kd.R_below (by (with_reducible repeat (first | apply Kd.R_alloc | apply Kd.R_drewN | apply Kd.R_drew)); exact HO_5.out) hb)
                        have n1_ := Aside0.mk (Kd.R_below (by (with_reducible repeat (first | apply Kd.R_alloc | apply Kd.R_drewN | apply Kd.R_drew)); exact HO_190000.out) hb)
                        have n2_ := Aside0.mk (Kd.R_below (by (with_reducible repeat (first | apply Kd.R_alloc | apply Kd.R_drewN | apply Kd.R_drew)); exact HO_190001.out) hb)
                        have n3_ := Aside0.mk (Kd.R_below (by (with_reducible repeat (first | apply Kd.R_alloc | apply Kd.R_drewN | apply Kd.R_drew)); exact HO193.out) hb)
                        have n4_ := Aside0.mk (Kd.R_below (by (with_reducible repeat (first | apply Kd.R_alloc | apply Kd.R_drewN | apply Kd.R_drew)); exact HO196.out) hb)
                        have n5_ := Aside0.mk (blk_below (g := gb179) (o := .cells #[.slice A1_0 l1_0.length c1_0, .slice A1_1 l1_1.length c1_1] 27 (0, 0)) (by (with_reducible repeat (first | refine blk_drewN ?_ _ | refine blk_drew ?_ | refine blk_alloc ?_ _)); exact BK179.out) hb)
                        have n6_ := Aside0.mk (blk_below (g := gb189) (o := .cells #[.slice Ao23 x190000_1.length co23, .slice Ao24 x190001_1.length co24] 27 (0, 0)) (by (with_reducible repeat (first | refine blk_drewN ?_ _ | refine blk_drew ?_ | refine blk_alloc ?_ _)); exact BK189.out) hb)
                        have n7_ := Aside0.mk (below_step (by repeat (first | (with_reducible first | exact HB.out | apply below_alloc | apply pw_below_drewN | apply below_drew1 | refine below_set ?_ GE179.out | refine below_set ?_ GE189.out) | exact HB.out)) hb)
                        have n8_ := Aside0.mk (hbox)
                        have n9_ := Aside0.mk ((by rw [hg]; exact (below_size (by repeat (first | (with_reducible first | exact HB.out | apply below_alloc | apply pw_below_drewN | apply below_drew1 | refine below_set ?_ GE179.out | refine below_set ?_ GE189.out) | exact HB.out))) : w.heap.size ≤ gb198))
                        have n10_ := Aside0.mk ((by rw [hg]; exact (below_size (by repeat (first | (with_reducible first | exact HB.out | apply below_alloc | apply pw_below_drewN | apply below_drew1 | refine below_set ?_ GE179.out | refine below_set ?_ GE189.out) | exact HB.out))) : w.heap.size ≤ gb198))
                        have n11_ := Aside0.mk ((by rw [hg]; exact Nat.ne_of_lt (blk_lt (g := gb179) (o := .cells #[.slice A1_0 l1_0.length c1_0, .slice A1_1 l1_1.length c1_1] 27 (0, 0)) (by (with_reducible repeat (first | refine blk_drewN ?_ _ | refine blk_drew ?_ | refine blk_alloc ?_ _)); exact BK179.out)) : gb179 ≠ gb198))
                        have n12_ := Aside0.mk ((by rw [hg]; exact Nat.ne_of_gt (blk_lt (g := gb179) (o := .cells #[.slice A1_0 l1_0.length c1_0, .slice A1_1 l1_1.length c1_1] 27 (0, 0)) (by (with_reducible repeat (first | refine blk_drewN ?_ _ | refine blk_drew ?_ | refine blk_alloc ?_ _)); exact BK179.out)) : gb198 ≠ gb179))
                        have n13_ := Aside0.mk ((by rw [hg]; exact Nat.ne_of_lt (blk_lt (g := gb189) (o := .cells #[.slice Ao23 x190000_1.length co23, .slice Ao24 x190001_1.length co24] 27 (0, 0)) (by (with_reducible repeat (first | refine blk_drewN ?_ _ | refine blk_drew ?_ | refine blk_alloc ?_ _)); exact BK189.out)) : gb189 ≠ gb198))
                        have n14_ := Aside0.mk ((by rw [hg]; exact Nat.ne_of_gt (blk_lt (g := gb189) (o := .cells #[.slice Ao23 x190000_1.length co23, .slice Ao24 x190001_1.length co24] 27 (0, 0)) (by (with_reducible repeat (first | refine blk_drewN ?_ _ | refine blk_drew ?_ | refine blk_alloc ?_ _)); exact BK189.out)) : gb198 ≠ gb189))
                        clear HO_5
                        clear HO_190000
                        clear HO_190001
                        clear HO193
                        clear HO196
                        clear BK179
                        clear BK189
                        clear HB
                        have HO_5 := n0_
                        have HO_190000 := n1_
                        have HO_190001 := n2_
                        have HO193 := n3_
                        have HO196 := n4_
                        have BK179 := n5_
                        have BK189 := n6_
                        have HB := n7_
                        have BK198 := n8_
                        have GW198 := n9_
                        have GE198 := n10_
                        have NB179_198 := n11_
                        have NB198_179 := n12_
                        have NB189_198 := n13_
                        have NB198_189 := n14_
                        clear n0_ n1_ n2_ n3_ n4_ n5_ n6_ n7_ n8_ n9_ n10_ n11_ n12_ n13_ n14_
                        clear hb hbox hg
                        refine hK.out _ _ ⟨(blk_cell BK189.out 0).trans rfl, (blk_cell BK189.out 1).trans rfl, ((HB.out.cell (World.block_lt_of_cell? w _ hw190_0)).trans hw190_0), ((HB.out.cell (World.block_lt_of_cell? w _ hw190_1)).trans hw190_1), ((HB.out.cell (World.block_lt_of_cell? w _ hw190_2)).trans hw190_2), ((HB.out.cell (World.block_lt_of_cell? w _ hw190_3)).trans hw190_3)⟩ (fun hHeld => ?_)
                        clear hK K
                        refine norm_ (a' := ?_) ?_ ?_
                        rotate_left
                        · show Act.put _ (some 8) _ = _
                          simp only [Act.put, List.setIfInBounds_toArray, List.set_cons_zero, List.set_cons_succ, i64_w, i32_w]
                          rfl
                        exact norm_ (by simp only [putAll, Act.put, List.setIfInBounds_toArray, List.set_cons_zero, List.set_cons_succ]) (hCont (v192, v195, gb198) _ ⟨hHeld, (by (with_reducible repeat (first | apply Kd.R_alloc | apply Kd.R_drewN | apply Kd.R_drew)); exact Kd.R_mono HO193.out (fun _ hk => ⟨hk.1.1, ⟨hk.1.2, hk.2⟩⟩)), (by (with_reducible repeat (first | apply Kd.R_alloc | apply Kd.R_drewN | apply Kd.R_drew)); exact Kd.R_mono HO196.out (fun _ hk => ⟨hk.1.1, ⟨hk.1.2, hk.2⟩⟩)), (by (with_reducible repeat (first | apply Kd.R_alloc | apply Kd.R_drewN | apply Kd.R_drew)); exact Kd.R_mono HO_190000.out (fun _ hk => ⟨hk.1.2, ⟨hk.2, hk.1.1⟩⟩)), (by (with_reducible repeat (first | apply Kd.R_alloc | apply Kd.R_drewN | apply Kd.R_drew)); exact Kd.R_mono HO_190001.out (fun _ hk => ⟨hk.1.2, ⟨hk.2, hk.1.1⟩⟩)), (by (with_reducible repeat (first | apply Kd.R_alloc | apply Kd.R_drewN | apply Kd.R_drew)); exact HO_5.out), (by (with_reducible repeat (first | refine blk_drewN ?_ _ | refine blk_drew ?_ | refine blk_alloc ?_ _)); exact BK179.out), (by (with_reducible repeat (first | refine blk_drewN ?_ _ | refine blk_drew ?_ | refine blk_alloc ?_ _)); exact BK189.out), (by (with_reducible repeat (first | refine blk_drewN ?_ _ | refine blk_drew ?_ | refine blk_alloc ?_ _)); exact BK198.out), GW198.out, GE198.out, NB179_198.out, NB198_179.out, NB189_198.out, NB198_189.out, (by repeat (first | (with_reducible first | exact HB.out | apply below_alloc | apply pw_below_drewN | apply below_drew1 | refine below_set ?_ GE179.out | refine below_set ?_ GE189.out | refine below_set ?_ GE198.out) | exact HB.out))⟩)
                      · skip
                        refine box_step ?hg (N := 8) ?hd (cs := #[.slice none 0 0, .slice none 0 0]) (t := 27) ?hr ?_; (case hd => rfl); (case hg => rfl); (case hr => first | (go_simp; done) | (go_simp; rfl))
                        intro gb198 hg w26 hbox hb
                        have n0_ := Aside0.mk (Kd.R_below (by (with_reducible repeat (first | apply Kd.R_alloc | apply Kd.R_drewN | apply Kd.R_drew)); exact HO_5.out) hb)
                        have n1_ := Aside0.mk (Kd.R_below (by (with_reducible repeat (first | apply Kd.R_alloc | apply Kd.R_drewN | apply Kd.R_drew)); exact HO_190000.out) hb)
                        have n2_ := Aside0.mk (Kd.R_below (by (with_reducible repeat (first | apply Kd.R_alloc | apply Kd.R_drewN | apply Kd.R_drew)); exact HO_190001.out) hb)
                        have n3_ := Aside0.mk (blk_below (g := gb179) (o := .cells #[.slice A1_0 l1_0.length c1_0, .slice A1_1 l1_1.length c1_1] 27 (0, 0)) (by (with_reducible repeat (first | refine blk_drewN ?_ _ | refine blk_drew ?_ | refine blk_alloc ?_ _)); exact BK179.out) hb)
                        have n4_ := Aside0.mk (blk_below (g := gb189) (o := .cells #[.slice Ao23 x190000_1.length co23, .slice Ao24 x190001_1.length co24] 27 (0, 0)) (by (with_reducible repeat (first | refine blk_drewN ?_ _ | refine blk_drew ?_ | refine blk_alloc ?_ _)); exact BK189.out) hb)
                        have n5_ := Aside0.mk (below_step (by repeat (first | (with_reducible first | exact HB.out | apply below_alloc | apply pw_below_drewN | apply below_drew1 | refine below_set ?_ GE179.out | refine below_set ?_ GE189.out) | exact HB.out)) hb)
                        have n6_ := Aside0.mk (hbox)
                        have n7_ := Aside0.mk ((by rw [hg]; exact (below_size (by repeat (first | (with_reducible first | exact HB.out | apply below_alloc | apply pw_below_drewN | apply below_drew1 | refine below_set ?_ GE179.out | refine below_set ?_ GE189.out) | exact HB.out))) : w.heap.size ≤ gb198))
                        have n8_ := Aside0.mk ((by rw [hg]; exact (below_size (by repeat (first | (with_reducible first | exact HB.out | apply below_alloc | apply pw_below_drewN | apply below_drew1 | refine below_set ?_ GE179.out | refine below_set ?_ GE189.out) | exact HB.out))) : w.heap.size ≤ gb198))
                        have n9_ := Aside0.mk ((by rw [hg]; exact Nat.ne_of_lt (blk_lt (g := gb179) (o := .cells #[.slice A1_0 l1_0.length c1_0, .slice A1_1 l1_1.length c1_1] 27 (0, 0)) (by (with_reducible repeat (first | refine blk_drewN ?_ _ | refine blk_drew ?_ | refine blk_alloc ?_ _)); exact BK179.out)) : gb179 ≠ gb198))
                        have n10_ := Aside0.mk ((by rw [hg]; exact Nat.ne_of_gt (blk_lt (g := gb179) (o := .cells #[.slice A1_0 l1_0.length c1_0, .slice A1_1 l1_1.length c1_1] 27 (0, 0)) (by (with_reducible repeat (first | refine blk_drewN ?_ _ | refine blk_drew ?_ | refine blk_alloc ?_ _)); exact BK179.out)) : gb198 ≠ gb179))
                        have n11_ := Aside0.mk ((by rw [hg]; exact Nat.ne_of_lt (blk_lt (g := gb189) (o := .cells #[.slice Ao23 x190000_1.length co23, .slice Ao24 x190001_1.length co24] 27 (0, 0)) (by (with_reducible repeat (first | refine blk_drewN ?_ _ | refine blk_drew ?_ | refine blk_alloc ?_ _)); exact BK189.out)) : gb189 ≠ gb198))
                        have n12_ := Aside0.mk ((by rw [hg]; exact Nat.ne_of_gt (blk_lt (g := gb189) (o := .cells #[.slice Ao23 x190000_1.length co23, .slice Ao24 x190001_1.length co24] 27 (0, 0)) (by (with_reducible repeat (first | refine blk_drewN ?_ _ | refine blk_drew ?_ | refine blk_alloc ?_ _)); exact BK189.out)) : gb198 ≠ gb189))
                        clear HO_5
                        clear HO_190000
                        clear HO_190001
                        clear BK179
                        clear BK189
                        clear HB
                        have HO_5 := n0_
                        have HO_190000 := n1_
                        have HO_190001 := n2_
                        have BK179 := n3_
                        have BK189 := n4_
                        have HB := n5_
                        have BK198 := n6_
                        have GW198 := n7_
                        have GE198 := n8_
                        have NB179_198 := n9_
                        have NB198_179 := n10_
                        have NB189_198 := n11_
                        have NB198_189 := n12_
                        clear n0_ n1_ n2_ n3_ n4_ n5_ n6_ n7_ n8_ n9_ n10_ n11_ n12_
                        clear hb hbox hg
                        refine hK.out _ _ ⟨(blk_cell BK189.out 0).trans rfl, (blk_cell BK189.out 1).trans rfl, ((HB.out.cell (World.block_lt_of_cell? w _ hw190_0)).trans hw190_0), ((HB.out.cell (World.block_lt_of_cell? w _ hw190_1)).trans hw190_1), ((HB.out.cell (World.block_lt_of_cell? w _ hw190_2)).trans hw190_2), ((HB.out.cell (World.block_lt_of_cell? w _ hw190_3)).trans hw190_3)⟩ (fun hHeld => ?_)
                        clear hK K
                        refine norm_ (a' := ?_) ?_ ?_
                        rotate_left
                        · show Act.put _ (some 8) _ = _
                          simp only [Act.put, List.setIfInBounds_toArray, List.set_cons_zero, List.set_cons_succ, i64_w, i32_w]
                          rfl
                        refine one_ (i := 5) (N := some 30) #[true, true, true, true, true, true, false, false, false, true, false, false] rfl rfl (one_of HT_.out (by kernel_rfl)) (by decide) (fun K hK => ?_)
                        refine goes_ Try.func34 (by kernel_rfl) rfl #[.agg #[.slice Ao23 x190000_1.length co23, .slice Ao24 x190001_1.length co24], .agg #[.int .i64 ((rd_T45 l0 x7_1).f0), .int .i64 ((rd_T45 l0 x7_1).f1), .int .i64 ((rd_T45 l0 x7_1).f2), .int .i64 ((rd_T45 l0 x7_1).f3)]] (by rfl) rfl rfl (by (try simp only [List.map_toArray, List.map_cons, List.map_nil]); first | done | rfl | (simp only [List.length_drop, List.length_take]; rfl)) ?_
                        with_reducible refine (spec_Pay.calls kj13 _ _ x190000_1 _ _ x190001_1 ((rd_T45 l0 x7_1).f0) ((rd_T45 l0 x7_1).f1) ((rd_T45 l0 x7_1).f2) ((rd_T45 l0 x7_1).f3) t191 t194 t197 _ ?side1 ?side2 ?side3 ?side4 A20.out).mono ?_
                        (case side1 => repeat (first | exact (Kd.R_reads' HO_190000.out).2.2 | (with_reducible refine Kd.C_alloc ?_ _) | (with_reducible refine Kd.C_drewN ?_ _) | (with_reducible refine Kd.C_drew ?_)))
                        (case side2 => exact (Kd.R_reads' HO_190000.out).2.1)
                        (case side3 => repeat (first | exact (Kd.R_reads' HO_190001.out).2.2 | (with_reducible refine Kd.C_alloc ?_ _) | (with_reducible refine Kd.C_drewN ?_ _) | (with_reducible refine Kd.C_drew ?_)))
                        (case side4 => exact (Kd.R_reads' HO_190001.out).2.1)
                        rintro e w27 ⟨v192, v195, rfl, ho0, ho1, hb⟩
                        refine ⟨_, rfl, ?_⟩
                        have n0_ := Aside0.mk (Kd.R_below (by (with_reducible repeat (first | apply Kd.R_alloc | apply Kd.R_drewN | apply Kd.R_drew)); exact HO_5.out) hb)
                        have n1_ := Aside0.mk (Kd.R_mono (Kd.R_told (Kd.R_told (Kd.R_old (by (with_reducible repeat (first | apply Kd.R_alloc | apply Kd.R_drewN | apply Kd.R_drew)); exact HO_190000.out) hb) (Kd.R_base ho0)) (Kd.R_base ho1)) (fun _ h_ => h_.1))
                        have n2_ := Aside0.mk (Kd.R_mono (Kd.R_told (Kd.R_told (Kd.R_old (by (with_reducible repeat (first | apply Kd.R_alloc | apply Kd.R_drewN | apply Kd.R_drew)); exact HO_190001.out) hb) (Kd.R_base ho0)) (Kd.R_base ho1)) (fun _ h_ => h_.1))
                        have n3_ := Aside0.mk (Kd.R_lower (Kd.R_new' (Kd.R_new' ho0 (Kd.R_lt (by (with_reducible repeat (first | apply Kd.R_alloc | apply Kd.R_drewN | apply Kd.R_drew)); exact HO_190000.out))) (Kd.R_lt (by (with_reducible repeat (first | apply Kd.R_alloc | apply Kd.R_drewN | apply Kd.R_drew)); exact HO_190001.out))) (below_size (by repeat (first | (with_reducible first | exact HB.out | apply below_alloc | apply pw_below_drewN | apply below_drew1 | refine below_set ?_ GE179.out | refine below_set ?_ GE189.out | refine below_set ?_ GE198.out) | exact HB.out))))
                        have n4_ := Aside0.mk (Kd.R_lower (Kd.R_new' (Kd.R_new' ho1 (Kd.R_lt (by (with_reducible repeat (first | apply Kd.R_alloc | apply Kd.R_drewN | apply Kd.R_drew)); exact HO_190000.out))) (Kd.R_lt (by (with_reducible repeat (first | apply Kd.R_alloc | apply Kd.R_drewN | apply Kd.R_drew)); exact HO_190001.out))) (below_size (by repeat (first | (with_reducible first | exact HB.out | apply below_alloc | apply pw_below_drewN | apply below_drew1 | refine below_set ?_ GE179.out | refine below_set ?_ GE189.out | refine below_set ?_ GE198.out) | exact HB.out))))
                        have n5_ := Aside0.mk (blk_below (g := gb179) (o := .cells #[.slice A1_0 l1_0.length c1_0, .slice A1_1 l1_1.length c1_1] 27 (0, 0)) (by (with_reducible repeat (first | refine blk_drewN ?_ _ | refine blk_drew ?_ | refine blk_alloc ?_ _)); exact BK179.out) hb)
                        have n6_ := Aside0.mk (blk_below (g := gb189) (o := .cells #[.slice Ao23 x190000_1.length co23, .slice Ao24 x190001_1.length co24] 27 (0, 0)) (by (with_reducible repeat (first | refine blk_drewN ?_ _ | refine blk_drew ?_ | refine blk_alloc ?_ _)); exact BK189.out) hb)
                        have n7_ := Aside0.mk (blk_below (g := gb198) (o := .cells #[.slice none 0 0, .slice none 0 0] 27 (0, 0)) (by (with_reducible repeat (first | refine blk_drewN ?_ _ | refine blk_drew ?_ | refine blk_alloc ?_ _)); exact BK198.out) hb)
                        have n8_ := Aside0.mk (below_step (by repeat (first | (with_reducible first | exact HB.out | apply below_alloc | apply pw_below_drewN | apply below_drew1 | refine below_set ?_ GE179.out | refine below_set ?_ GE189.out | refine below_set ?_ GE198.out) | exact HB.out)) hb)
                        clear HO_5
                        clear HO_190000
                        clear HO_190001
                        clear BK179
                        clear BK189
                        clear BK198
                        clear HB
                        have HO_5 := n0_
                        have HO_190000 := n1_
                        have HO_190001 := n2_
                        have HO193 := n3_
                        have HO196 := n4_
                        have BK179 := n5_
                        have BK189 := n6_
                        have BK198 := n7_
                        have HB := n8_
                        clear n0_ n1_ n2_ n3_ n4_ n5_ n6_ n7_ n8_
                        (try clear hb)
                        (try clear hb2)
                        (try clear hk)
                        (try clear hi)
                        (try clear ho0)
                        (try clear ho1)
                        refine hK.out _ _ ⟨(blk_cell BK189.out 0).trans rfl, (blk_cell BK189.out 1).trans rfl, ((HB.out.cell (World.block_lt_of_cell? w _ hw190_0)).trans hw190_0), ((HB.out.cell (World.block_lt_of_cell? w _ hw190_1)).trans hw190_1), ((HB.out.cell (World.block_lt_of_cell? w _ hw190_2)).trans hw190_2), ((HB.out.cell (World.block_lt_of_cell? w _ hw190_3)).trans hw190_3)⟩ (fun hHeld => ?_)
                        clear hK K
                        refine norm_ (a' := ?_) ?_ ?_
                        rotate_left
                        · show Act.put _ (some 30) _ = _
                          simp only [Act.put, List.setIfInBounds_toArray, List.set_cons_zero, List.set_cons_succ, i64_w, i32_w]
                          rfl
                        refine pure_ (i := 6) (N := some 24) (v := ?_) (a' := ?_) #[true, true, true, true, true, true, true, false, false, true, false, false] rfl rfl (any_of HT_.out (by kernel_rfl)) (fun _ _ _ h => h) (Or.inl ⟨by rfl, ?_⟩) ?_ ?_
                        rotate_left
                        · intro w'
                          go_simp
                          with_reducible rfl
                        rotate_left
                        · simp only [Act.put, List.setIfInBounds_toArray, List.set_cons_zero, List.set_cons_succ, i64_w, i32_w]
                          rfl
                        refine pure_ (i := 7) (N := some 31) (v := ?_) (a' := ?_) #[true, true, true, true, true, true, true, true, false, true, false, false] rfl rfl (any_of HT_.out (by kernel_rfl)) (fun _ _ _ h => h) (Or.inl ⟨by rfl, ?_⟩) ?_ ?_
                        rotate_left
                        · intro w'
                          go_simp
                          with_reducible rfl
                        rotate_left
                        · simp only [Act.put, List.setIfInBounds_toArray, List.set_cons_zero, List.set_cons_succ, i64_w, i32_w]
                          rfl
                        refine pure_ (i := 8) (N := some 32) (v := ?_) (a' := ?_) #[true, true, true, true, true, true, true, true, true, true, false, false] rfl rfl (any_of HT_.out (by kernel_rfl)) (fun _ _ _ h => h) (Or.inl ⟨by rfl, ?_⟩) ?_ ?_
                        rotate_left
                        · intro w'
                          go_simp
                          with_reducible rfl
                        rotate_left
                        · simp only [Act.put, List.setIfInBounds_toArray, List.set_cons_zero, List.set_cons_succ, i64_w, i32_w]
                          rfl
                        exact norm_ (by simp only [putAll, Act.put, List.setIfInBounds_toArray, List.set_cons_zero, List.set_cons_succ]) (hCont (v192, v195, gb198) _ ⟨hHeld, (by (with_reducible repeat (first | apply Kd.R_alloc | apply Kd.R_drewN | apply Kd.R_drew)); exact Kd.R_mono HO193.out (fun _ hk => ⟨hk.1.1, ⟨hk.1.2, hk.2⟩⟩)), (by (with_reducible repeat (first | apply Kd.R_alloc | apply Kd.R_drewN | apply Kd.R_drew)); exact Kd.R_mono HO196.out (fun _ hk => ⟨hk.1.1, ⟨hk.1.2, hk.2⟩⟩)), (by (with_reducible repeat (first | apply Kd.R_alloc | apply Kd.R_drewN | apply Kd.R_drew)); exact Kd.R_mono HO_190000.out (fun _ hk => ⟨hk.1.2, ⟨hk.2, hk.1.1⟩⟩)), (by (with_reducible repeat (first | apply Kd.R_alloc | apply Kd.R_drewN | apply Kd.R_drew)); exact Kd.R_mono HO_190001.out (fun _ hk => ⟨hk.1.2, ⟨hk.2, hk.1.1⟩⟩)), (by (with_reducible repeat (first | apply Kd.R_alloc | apply Kd.R_drewN | apply Kd.R_drew)); exact HO_5.out), (by (with_reducible repeat (first | refine blk_drewN ?_ _ | refine blk_drew ?_ | refine blk_alloc ?_ _)); exact BK179.out), (by (with_reducible repeat (first | refine blk_drewN ?_ _ | refine blk_drew ?_ | refine blk_alloc ?_ _)); exact BK189.out), (by (with_reducible repeat (first | refine blk_drewN ?_ _ | refine blk_drew ?_ | refine blk_alloc ?_ _)); exact BK198.out), GW198.out, GE198.out, NB179_198.out, NB198_179.out, NB189_198.out, NB198_189.out, (by repeat (first | (with_reducible first | exact HB.out | apply below_alloc | apply pw_below_drewN | apply below_drew1 | refine below_set ?_ GE179.out | refine below_set ?_ GE189.out | refine below_set ?_ GE198.out) | exact HB.out))⟩)
                    rintro ⟨v192, v195, gb198⟩ w28 ⟨hS_, h0_, h1_, h2_, h3_, h4_, h5_, h6_, h7_, h8_, h9_, h10_, h11_, h12_, h13_, h14_⟩
                    have n0_ : Aside0 (Kd.R (Kd.int .i64) 3 w28 w.heap.size (fun k_ => some k_ ≠ (v195 : Value).ownBlock ∧ some k_ ≠ (.slice Ao23 x190000_1.length co23 : Value).ownBlock ∧ some k_ ≠ (.slice Ao24 x190001_1.length co24 : Value).ownBlock) v192 t191) := ⟨h0_⟩
                    have n1_ : Aside0 (Kd.R (Kd.int .i64) 3 w28 w.heap.size (fun k_ => some k_ ≠ (v192 : Value).ownBlock ∧ some k_ ≠ (.slice Ao23 x190000_1.length co23 : Value).ownBlock ∧ some k_ ≠ (.slice Ao24 x190001_1.length co24 : Value).ownBlock) v195 t194) := ⟨h1_⟩
                    have n2_ : Aside0 (Kd.R (Kd.int .i64) 3 w28 w.heap.size (fun k_ => some k_ ≠ (v192 : Value).ownBlock ∧ some k_ ≠ (v195 : Value).ownBlock ∧ some k_ ≠ (.slice Ao24 x190001_1.length co24 : Value).ownBlock) (.slice Ao23 x190000_1.length co23) x190000_1) := ⟨h2_⟩
                    have n3_ : Aside0 (Kd.R (Kd.int .i64) 3 w28 w.heap.size (fun k_ => some k_ ≠ (v192 : Value).ownBlock ∧ some k_ ≠ (v195 : Value).ownBlock ∧ some k_ ≠ (.slice Ao23 x190000_1.length co23 : Value).ownBlock) (.slice Ao24 x190001_1.length co24) x190001_1) := ⟨h3_⟩
                    have n4_ : Aside0 (Kd.R k45 45 w28 w.heap.size (fun _ => True) u5 x5_1) := ⟨h4_⟩
                    have n5_ : Aside0 (w28.heap[gb179]? = some (.cells #[.slice A1_0 l1_0.length c1_0, .slice A1_1 l1_1.length c1_1] 27 (0, 0))) := ⟨h5_⟩
                    have n6_ : Aside0 (w28.heap[gb189]? = some (.cells #[.slice Ao23 x190000_1.length co23, .slice Ao24 x190001_1.length co24] 27 (0, 0))) := ⟨h6_⟩
                    have n7_ : Aside0 (w28.heap[gb198]? = some (.cells #[.slice none 0 0, .slice none 0 0] 27 (0, 0))) := ⟨h7_⟩
                    have n8_ : Aside0 (w.heap.size ≤ gb198) := ⟨h8_⟩
                    have n9_ : Aside0 (w.heap.size ≤ gb198) := ⟨h9_⟩
                    have n10_ : Aside0 (gb179 ≠ gb198) := ⟨h10_⟩
                    have n11_ : Aside0 (gb198 ≠ gb179) := ⟨h11_⟩
                    have n12_ : Aside0 (gb189 ≠ gb198) := ⟨h12_⟩
                    have n13_ : Aside0 (gb198 ≠ gb189) := ⟨h13_⟩
                    have n14_ : Aside0 (Below w.heap.size w w28) := ⟨h14_⟩
                    clear HO_5
                    clear HO_190000
                    clear HO_190001
                    clear BK179
                    clear BK189
                    clear HB
                    clear h0_ h1_ h2_ h3_ h4_ h5_ h6_ h7_ h8_ h9_ h10_ h11_ h12_ h13_ h14_
                    have HO193 := n0_
                    have HO196 := n1_
                    have HO_190000 := n2_
                    have HO_190001 := n3_
                    have HO_5 := n4_
                    have BK179 := n5_
                    have BK189 := n6_
                    have BK198 := n7_
                    have GW198 := n8_
                    have GE198 := n9_
                    have NB179_198 := n10_
                    have NB198_179 := n11_
                    have NB189_198 := n12_
                    have NB198_189 := n13_
                    have HB := n14_
                    clear n0_ n1_ n2_ n3_ n4_ n5_ n6_ n7_ n8_ n9_ n10_ n11_ n12_ n13_ n14_
                    have hHeld : w28.cell? ⟨gb189, 0, none⟩ = some (.slice Ao23 x190000_1.length co23) ∧ w28.cell? ⟨gb189, 1, none⟩ = some (.slice Ao24 x190001_1.length co24) ∧ w28.cell? (ad190.add ((x7_1).toNat * 4)) = some (.int .i64 ((rd_T45 l0 x7_1).f0)) ∧ w28.cell? ⟨(ad190.add ((x7_1).toNat * 4)).block, (ad190.add ((x7_1).toNat * 4)).off + 1, none⟩ = some (.int .i64 ((rd_T45 l0 x7_1).f1)) ∧ w28.cell? ⟨(ad190.add ((x7_1).toNat * 4)).block, (ad190.add ((x7_1).toNat * 4)).off + 2, none⟩ = some (.int .i64 ((rd_T45 l0 x7_1).f2)) ∧ w28.cell? ⟨(ad190.add ((x7_1).toNat * 4)).block, (ad190.add ((x7_1).toNat * 4)).off + 3, none⟩ = some (.int .i64 ((rd_T45 l0 x7_1).f3)) := hS_
                    obtain ⟨Ao29, co29, eo29⟩ := Kd.R_slice HO193.out
                    (first | subst eo29 | (injection eo29 with f1_ f2_ f3_; have f4_ := f1_.symm; have f5_ := f3_.symm; clear f1_ f2_ f3_; subst f4_; subst f5_))
                    obtain ⟨Ao31, co31, eo31⟩ := Kd.R_slice HO196.out
                    (first | subst eo31 | (injection eo31 with f1_ f2_ f3_; have f4_ := f1_.symm; have f5_ := f3_.symm; clear f1_ f2_ f3_; subst f4_; subst f5_))
                    refine norm_ (a' := ?_) ?_ ?_
                    rotate_left
                    · simp only [putAll, Act.put, List.setIfInBounds_toArray, List.set_cons_zero, List.set_cons_succ]
                      rfl
                    refine one_ (i := 10) (N := none) #[true, true, true, true, true, true, true, true, true, true, true, false] rfl rfl (one_of HT_.out (by kernel_rfl)) (by decide) (fun K hK => ?_)
                    have hs30 : w28.cell? ⟨gb198, 0, none⟩ = some (.slice none 0 0) := (blk_cell BK198.out 0).trans rfl
                    have hfs30 := blk_frozen BK198.out 0
                    have hns30_0 := NB179_198.out
                    have hns30_1 := NB189_198.out
                    have hms30_0 := NB198_179.out
                    have hms30_1 := NB198_189.out
                    have hs32 : w28.cell? ⟨gb198, 1, none⟩ = some (.slice none 0 0) := (blk_cell BK198.out 1).trans rfl
                    have hfs32 := blk_frozen BK198.out 1
                    have hns32_0 := NB179_198.out
                    have hns32_1 := NB189_198.out
                    have hms32_0 := NB198_179.out
                    have hms32_1 := NB198_189.out
                    refine skip_ (w1 := ?_) (by rfl) rfl ?_ ?_
                    rotate_left
                    · go_simp
                      rfl
                    refine hK.out _ _ ⟨((cell_far (p := ⟨gb198, _, none⟩) NB189_198.out _).trans (((cell_far (p := ⟨gb198, _, none⟩) NB189_198.out _).trans (hHeld.1)))), ((cell_far (p := ⟨gb198, _, none⟩) NB189_198.out _).trans (((cell_far (p := ⟨gb198, _, none⟩) NB189_198.out _).trans (hHeld.2.1)))), ((cell_far (p := ⟨gb198, _, none⟩) (by first | exact Nat.ne_of_lt (Nat.lt_of_lt_of_le (by have := World.block_lt_of_cell? _ _ hw190_0; first | rwa [add_block] at this | exact this) GW198.out) | (rw [add_block]; exact Nat.ne_of_lt (Nat.lt_of_lt_of_le (by have := World.block_lt_of_cell? _ _ hw190_0; first | rwa [add_block] at this | exact this) GW198.out)) | (show (Addr.add _ _).block ≠ _; rw [add_block]; exact Nat.ne_of_lt (Nat.lt_of_lt_of_le (by have := World.block_lt_of_cell? _ _ hw190_0; first | rwa [add_block] at this | exact this) GW198.out)) | (dsimp only; exact Nat.ne_of_lt (Nat.lt_of_lt_of_le (by have := World.block_lt_of_cell? _ _ hw190_0; first | rwa [add_block] at this | exact this) GW198.out))) _).trans (((cell_far (p := ⟨gb198, _, none⟩) (by first | exact Nat.ne_of_lt (Nat.lt_of_lt_of_le (by have := World.block_lt_of_cell? _ _ hw190_0; first | rwa [add_block] at this | exact this) GW198.out) | (rw [add_block]; exact Nat.ne_of_lt (Nat.lt_of_lt_of_le (by have := World.block_lt_of_cell? _ _ hw190_0; first | rwa [add_block] at this | exact this) GW198.out)) | (show (Addr.add _ _).block ≠ _; rw [add_block]; exact Nat.ne_of_lt (Nat.lt_of_lt_of_le (by have := World.block_lt_of_cell? _ _ hw190_0; first | rwa [add_block] at this | exact this) GW198.out)) | (dsimp only; exact Nat.ne_of_lt (Nat.lt_of_lt_of_le (by have := World.block_lt_of_cell? _ _ hw190_0; first | rwa [add_block] at this | exact this) GW198.out))) _).trans (hHeld.2.2.1)))), ((cell_far (p := ⟨gb198, _, none⟩) (by first | exact Nat.ne_of_lt (Nat.lt_of_lt_of_le (by have := World.block_lt_of_cell? _ _ hw190_1; first | rwa [add_block] at this | exact this) GW198.out) | (rw [add_block]; exact Nat.ne_of_lt (Nat.lt_of_lt_of_le (by have := World.block_lt_of_cell? _ _ hw190_1; first | rwa [add_block] at this | exact this) GW198.out)) | (show (Addr.add _ _).block ≠ _; rw [add_block]; exact Nat.ne_of_lt (Nat.lt_of_lt_of_le (by have := World.block_lt_of_cell? _ _ hw190_1; first | rwa [add_block] at this | exact this) GW198.out)) | (dsimp only; exact Nat.ne_of_lt (Nat.lt_of_lt_of_le (by have := World.block_lt_of_cell? _ _ hw190_1; first | rwa [add_block] at this | exact this) GW198.out))) _).trans (((cell_far (p := ⟨gb198, _, none⟩) (by first | exact Nat.ne_of_lt (Nat.lt_of_lt_of_le (by have := World.block_lt_of_cell? _ _ hw190_1; first | rwa [add_block] at this | exact this) GW198.out) | (rw [add_block]; exact Nat.ne_of_lt (Nat.lt_of_lt_of_le (by have := World.block_lt_of_cell? _ _ hw190_1; first | rwa [add_block] at this | exact this) GW198.out)) | (show (Addr.add _ _).block ≠ _; rw [add_block]; exact Nat.ne_of_lt (Nat.lt_of_lt_of_le (by have := World.block_lt_of_cell? _ _ hw190_1; first | rwa [add_block] at this | exact this) GW198.out)) | (dsimp only; exact Nat.ne_of_lt (Nat.lt_of_lt_of_le (by have := World.block_lt_of_cell? _ _ hw190_1; first | rwa [add_block] at this | exact this) GW198.out))) _).trans (hHeld.2.2.2.1)))), ((cell_far (p := ⟨gb198, _, none⟩) (by first | exact Nat.ne_of_lt (Nat.lt_of_lt_of_le (by have := World.block_lt_of_cell? _ _ hw190_2; first | rwa [add_block] at this | exact this) GW198.out) | (rw [add_block]; exact Nat.ne_of_lt (Nat.lt_of_lt_of_le (by have := World.block_lt_of_cell? _ _ hw190_2; first | rwa [add_block] at this | exact this) GW198.out)) | (show (Addr.add _ _).block ≠ _; rw [add_block]; exact Nat.ne_of_lt (Nat.lt_of_lt_of_le (by have := World.block_lt_of_cell? _ _ hw190_2; first | rwa [add_block] at this | exact this) GW198.out)) | (dsimp only; exact Nat.ne_of_lt (Nat.lt_of_lt_of_le (by have := World.block_lt_of_cell? _ _ hw190_2; first | rwa [add_block] at this | exact this) GW198.out))) _).trans (((cell_far (p := ⟨gb198, _, none⟩) (by first | exact Nat.ne_of_lt (Nat.lt_of_lt_of_le (by have := World.block_lt_of_cell? _ _ hw190_2; first | rwa [add_block] at this | exact this) GW198.out) | (rw [add_block]; exact Nat.ne_of_lt (Nat.lt_of_lt_of_le (by have := World.block_lt_of_cell? _ _ hw190_2; first | rwa [add_block] at this | exact this) GW198.out)) | (show (Addr.add _ _).block ≠ _; rw [add_block]; exact Nat.ne_of_lt (Nat.lt_of_lt_of_le (by have := World.block_lt_of_cell? _ _ hw190_2; first | rwa [add_block] at this | exact this) GW198.out)) | (dsimp only; exact Nat.ne_of_lt (Nat.lt_of_lt_of_le (by have := World.block_lt_of_cell? _ _ hw190_2; first | rwa [add_block] at this | exact this) GW198.out))) _).trans (hHeld.2.2.2.2.1)))), ((cell_far (p := ⟨gb198, _, none⟩) (by first | exact Nat.ne_of_lt (Nat.lt_of_lt_of_le (by have := World.block_lt_of_cell? _ _ hw190_3; first | rwa [add_block] at this | exact this) GW198.out) | (rw [add_block]; exact Nat.ne_of_lt (Nat.lt_of_lt_of_le (by have := World.block_lt_of_cell? _ _ hw190_3; first | rwa [add_block] at this | exact this) GW198.out)) | (show (Addr.add _ _).block ≠ _; rw [add_block]; exact Nat.ne_of_lt (Nat.lt_of_lt_of_le (by have := World.block_lt_of_cell? _ _ hw190_3; first | rwa [add_block] at this | exact this) GW198.out)) | (dsimp only; exact Nat.ne_of_lt (Nat.lt_of_lt_of_le (by have := World.block_lt_of_cell? _ _ hw190_3; first | rwa [add_block] at this | exact this) GW198.out))) _).trans (((cell_far (p := ⟨gb198, _, none⟩) (by first | exact Nat.ne_of_lt (Nat.lt_of_lt_of_le (by have := World.block_lt_of_cell? _ _ hw190_3; first | rwa [add_block] at this | exact this) GW198.out) | (rw [add_block]; exact Nat.ne_of_lt (Nat.lt_of_lt_of_le (by have := World.block_lt_of_cell? _ _ hw190_3; first | rwa [add_block] at this | exact this) GW198.out)) | (show (Addr.add _ _).block ≠ _; rw [add_block]; exact Nat.ne_of_lt (Nat.lt_of_lt_of_le (by have := World.block_lt_of_cell? _ _ hw190_3; first | rwa [add_block] at this | exact this) GW198.out)) | (dsimp only; exact Nat.ne_of_lt (Nat.lt_of_lt_of_le (by have := World.block_lt_of_cell? _ _ hw190_3; first | rwa [add_block] at this | exact this) GW198.out))) _).trans (hHeld.2.2.2.2.2))))⟩ (fun hHeld => ?_)
                    clear hK K
                    refine pure_ (i := 11) (N := some 9) (v := ?_) (a' := ?_) #[true, true, true, true, true, true, true, true, true, true, true, true] rfl rfl (any_of HT_.out (by kernel_rfl)) (fun _ _ _ h => h) (Or.inl ⟨by rfl, ?_⟩) ?_ ?_
                    rotate_left
                    · intro w'
                      go_simp
                      with_reducible rfl
                    rotate_left
                    · simp only [Act.put, List.setIfInBounds_toArray, List.set_cons_zero, List.set_cons_succ, i64_w, i32_w]
                      rfl
                    refine done_ (done_of HT_.out (by kernel_rfl)) ?_
                    have p199 : 0 ≤ (x7_1 : Int) := of_decide_eq_true (by first | (with_reducible assumption) | assumption)
                    have q199 : x7_1 < (l0.length : Int) := of_decide_eq_true (by first | (with_reducible assumption) | assumption)
                    obtain ⟨ad199, e199, hx199_0, hx199_1, hx199_2, hx199_3⟩ := at_T45 HR0.out x7_1 p199 q199
                    obtain rfl : ad190 = ad199 := (by injection e199)
                    have hn199_0 : ad190.block ≠ gb198 := Nat.ne_of_lt (Nat.lt_of_lt_of_le (by have := World.block_lt_of_cell? _ _ hx199_0; first | rwa [add_block] at this | exact this) GW198.out)
                    have hn199_1 : ad190.block ≠ gb198 := Nat.ne_of_lt (Nat.lt_of_lt_of_le (by have := World.block_lt_of_cell? _ _ hx199_0; first | rwa [add_block] at this | exact this) GW198.out)
                    replace hx199_0 := (HB.out.cell (World.block_lt_of_cell? w _ hx199_0)).trans hx199_0
                    replace hx199_1 := (HB.out.cell (World.block_lt_of_cell? w _ hx199_1)).trans hx199_1
                    replace hx199_2 := (HB.out.cell (World.block_lt_of_cell? w _ hx199_2)).trans hx199_2
                    replace hx199_3 := (HB.out.cell (World.block_lt_of_cell? w _ hx199_3)).trans hx199_3
                    replace hx199_0 := (cell_far (p := ⟨gb198, 0, none⟩) (by first | (rw [add_block]; exact hn199_0) | (show (Addr.add _ _).block ≠ _; rw [add_block]; exact hn199_0) | exact hn199_0) (.slice Ao29 t191.length co29)).trans hx199_0
                    replace hx199_1 := (cell_far (p := ⟨gb198, 0, none⟩) (by first | (rw [add_block]; exact hn199_0) | (show (Addr.add _ _).block ≠ _; rw [add_block]; exact hn199_0) | exact hn199_0) (.slice Ao29 t191.length co29)).trans hx199_1
                    replace hx199_2 := (cell_far (p := ⟨gb198, 0, none⟩) (by first | (rw [add_block]; exact hn199_0) | (show (Addr.add _ _).block ≠ _; rw [add_block]; exact hn199_0) | exact hn199_0) (.slice Ao29 t191.length co29)).trans hx199_2
                    replace hx199_3 := (cell_far (p := ⟨gb198, 0, none⟩) (by first | (rw [add_block]; exact hn199_0) | (show (Addr.add _ _).block ≠ _; rw [add_block]; exact hn199_0) | exact hn199_0) (.slice Ao29 t191.length co29)).trans hx199_3
                    replace hx199_0 := (cell_far (p := ⟨gb198, 1, none⟩) (by first | (rw [add_block]; exact hn199_1) | (show (Addr.add _ _).block ≠ _; rw [add_block]; exact hn199_1) | exact hn199_1) (.slice Ao31 t194.length co31)).trans hx199_0
                    replace hx199_1 := (cell_far (p := ⟨gb198, 1, none⟩) (by first | (rw [add_block]; exact hn199_1) | (show (Addr.add _ _).block ≠ _; rw [add_block]; exact hn199_1) | exact hn199_1) (.slice Ao31 t194.length co31)).trans hx199_1
                    replace hx199_2 := (cell_far (p := ⟨gb198, 1, none⟩) (by first | (rw [add_block]; exact hn199_1) | (show (Addr.add _ _).block ≠ _; rw [add_block]; exact hn199_1) | exact hn199_1) (.slice Ao31 t194.length co31)).trans hx199_2
                    replace hx199_3 := (cell_far (p := ⟨gb198, 1, none⟩) (by first | (rw [add_block]; exact hn199_1) | (show (Addr.add _ _).block ≠ _; rw [add_block]; exact hn199_1) | exact hn199_1) (.slice Ao31 t194.length co31)).trans hx199_3
                    clear hn199_0
                    clear hn199_1
                    replace p199 := eq_true p199
                    replace q199 := eq_true q199
                    try go_wp2_with (first | ((with_reducible refine gate_builtin (b := .append) (xs := #[.tmp 39, .tmp 44]) rfl ?_); (try (refine gate_guard (by rfl) ?_; dsimp only)); at_builtin; refine Kd.R_append k45 (w0 := w) w.heap.size rfl (.tmp 39) (.tmp 44) 38 45 (.agg #[(.int .i64 0), (.int .i64 0), (.int .i64 0), (.int .i64 0)]) 32 rfl Try.underlying38 info45 rfl (by decide) (by omega) u5 x5_1 (⟨(rd_T45 l0 x7_1).f0, (rd_T45 l0 x7_1).f1, (rd_T45 l0 x7_1).f2, (rd_T45 l0 x7_1).f3⟩ : S45) [.int .i64 ((rd_T45 l0 x7_1).f0), .int .i64 ((rd_T45 l0 x7_1).f1), .int .i64 ((rd_T45 l0 x7_1).f2), .int .i64 ((rd_T45 l0 x7_1).f3)] (fun _ => True) (fun _ => False) rfl (by first | (go_simp; done) | (go_simp; rfl)) ?aP (fun _ hk => hk.elim) ?aF ?aO ?aB ?aS ?aL ?_; (case aP => exact k45_mkM _ _ _ (⟨(rd_T45 l0 x7_1).f0, (rd_T45 l0 x7_1).f1, (rd_T45 l0 x7_1).f2, (rd_T45 l0 x7_1).f3⟩ : S45)); (case aB => exact (by repeat (first | (with_reducible first | exact HB.out | apply below_alloc | apply pw_below_drewN | apply below_drew1 | refine below_set ?_ GE179.out | refine below_set ?_ GE189.out | refine below_set ?_ GE198.out) | exact HB.out))); (case aF => exact (fun _ _ => trivial)); (case aO => exact (by (with_reducible repeat (first | apply Kd.R_alloc | apply Kd.R_drewN | apply Kd.R_drew)); exact Kd.R_mono (Kd.R_far (p := ⟨gb198, 1, none⟩) (Kd.R_far (p := ⟨gb198, 0, none⟩) (Kd.R_types HO_5.out BK198.out (by decide)) (fun _ hk => hk.2) (.slice Ao29 t191.length co29)) (fun _ hk => hk.2) (.slice Ao31 t194.length co31)) (fun _ hk => trivial))); (case aS => exact (below_size (by repeat (first | (with_reducible first | exact HB.out | apply below_alloc | apply pw_below_drewN | apply below_drew1 | refine below_set ?_ GE179.out | refine below_set ?_ GE189.out | refine below_set ?_ GE198.out) | exact HB.out)))); (case aL => have := LMc22.out; omega); intro v201 w33 ho hb hg hat; rw [← Ny200.out] at ho; have n0_ := Aside0.mk (Kd.R_over' (by (with_reducible repeat (first | apply Kd.R_alloc | apply Kd.R_drewN | apply Kd.R_drew)); exact (Kd.R_mono (Kd.R_far (p := ⟨gb198, 1, none⟩) (Kd.R_far (p := ⟨gb198, 0, none⟩) (Kd.R_types HO_190000.out BK198.out (by decide)) (fun _ hk => hk.2) (.slice Ao29 t191.length co29)) (fun _ hk => hk.2) (.slice Ao31 t194.length co31)) (fun _ h_ => h_.1))) (Kd.R_typed (by (with_reducible repeat (first | apply Kd.R_alloc | apply Kd.R_drewN | apply Kd.R_drew)); exact (Kd.R_mono (Kd.R_far (p := ⟨gb198, 1, none⟩) (Kd.R_far (p := ⟨gb198, 0, none⟩) (Kd.R_types HO_5.out BK198.out (by decide)) (fun _ hk => hk.2) (.slice Ao29 t191.length co29)) (fun _ hk => hk.2) (.slice Ao31 t194.length co31)) (fun _ h_ => h_.1)))) (by decide) hg); have n1_ := Aside0.mk (Kd.R_over' (by (with_reducible repeat (first | apply Kd.R_alloc | apply Kd.R_drewN | apply Kd.R_drew)); exact (Kd.R_mono (Kd.R_far (p := ⟨gb198, 1, none⟩) (Kd.R_far (p := ⟨gb198, 0, none⟩) (Kd.R_types HO_190001.out BK198.out (by decide)) (fun _ hk => hk.2) (.slice Ao29 t191.length co29)) (fun _ hk => hk.2) (.slice Ao31 t194.length co31)) (fun _ h_ => h_.1))) (Kd.R_typed (by (with_reducible repeat (first | apply Kd.R_alloc | apply Kd.R_drewN | apply Kd.R_drew)); exact (Kd.R_mono (Kd.R_far (p := ⟨gb198, 1, none⟩) (Kd.R_far (p := ⟨gb198, 0, none⟩) (Kd.R_types HO_5.out BK198.out (by decide)) (fun _ hk => hk.2) (.slice Ao29 t191.length co29)) (fun _ hk => hk.2) (.slice Ao31 t194.length co31)) (fun _ h_ => h_.1)))) (by decide) hg); have n2_ := Aside0.mk (blk_grown (g := gb179) (o := .cells #[.slice A1_0 l1_0.length c1_0, .slice A1_1 l1_1.length c1_1] 27 (0, 0)) (by (with_reducible repeat (first | refine blk_drewN ?_ _ | refine blk_drew ?_ | refine blk_alloc ?_ _)); refine blk_far ?_ NB179_198.out _; (with_reducible repeat (first | refine blk_drewN ?_ _ | refine blk_drew ?_ | refine blk_alloc ?_ _)); refine blk_far ?_ NB179_198.out _; (with_reducible repeat (first | refine blk_drewN ?_ _ | refine blk_drew ?_ | refine blk_alloc ?_ _)); exact BK179.out) hg (Kd.R_ne HO_5.out BK179.out (by decide))); have n3_ := Aside0.mk (blk_grown (g := gb189) (o := .cells #[.slice Ao23 x190000_1.length co23, .slice Ao24 x190001_1.length co24] 27 (0, 0)) (by (with_reducible repeat (first | refine blk_drewN ?_ _ | refine blk_drew ?_ | refine blk_alloc ?_ _)); refine blk_far ?_ NB189_198.out _; (with_reducible repeat (first | refine blk_drewN ?_ _ | refine blk_drew ?_ | refine blk_alloc ?_ _)); refine blk_far ?_ NB189_198.out _; (with_reducible repeat (first | refine blk_drewN ?_ _ | refine blk_drew ?_ | refine blk_alloc ?_ _)); exact BK189.out) hg (Kd.R_ne HO_5.out BK189.out (by decide))); have n4_ := Aside0.mk (Kd.R_over' (by (with_reducible repeat (first | apply Kd.R_alloc | apply Kd.R_drewN | apply Kd.R_drew)); exact (Kd.R_mono (Kd.R_far (p := ⟨gb198, 1, none⟩) (Kd.R_far (p := ⟨gb198, 0, none⟩) (Kd.R_types HO193.out BK198.out (by decide)) (fun _ hk => hk.2) (.slice Ao29 t191.length co29)) (fun _ hk => hk.2) (.slice Ao31 t194.length co31)) (fun _ h_ => h_.1))) (Kd.R_typed (by (with_reducible repeat (first | apply Kd.R_alloc | apply Kd.R_drewN | apply Kd.R_drew)); exact (Kd.R_mono (Kd.R_far (p := ⟨gb198, 1, none⟩) (Kd.R_far (p := ⟨gb198, 0, none⟩) (Kd.R_types HO_5.out BK198.out (by decide)) (fun _ hk => hk.2) (.slice Ao29 t191.length co29)) (fun _ hk => hk.2) (.slice Ao31 t194.length co31)) (fun _ h_ => h_.1)))) (by decide) hg); have n5_ := Aside0.mk (Kd.R_over' (by (with_reducible repeat (first | apply Kd.R_alloc | apply Kd.R_drewN | apply Kd.R_drew)); exact (Kd.R_mono (Kd.R_far (p := ⟨gb198, 1, none⟩) (Kd.R_far (p := ⟨gb198, 0, none⟩) (Kd.R_types HO196.out BK198.out (by decide)) (fun _ hk => hk.2) (.slice Ao29 t191.length co29)) (fun _ hk => hk.2) (.slice Ao31 t194.length co31)) (fun _ h_ => h_.1))) (Kd.R_typed (by (with_reducible repeat (first | apply Kd.R_alloc | apply Kd.R_drewN | apply Kd.R_drew)); exact (Kd.R_mono (Kd.R_far (p := ⟨gb198, 1, none⟩) (Kd.R_far (p := ⟨gb198, 0, none⟩) (Kd.R_types HO_5.out BK198.out (by decide)) (fun _ hk => hk.2) (.slice Ao29 t191.length co29)) (fun _ hk => hk.2) (.slice Ao31 t194.length co31)) (fun _ h_ => h_.1)))) (by decide) hg); have n6_ := Aside0.mk (blk_grown (g := gb198) (o := .cells #[.slice Ao29 t191.length co29, .slice Ao31 t194.length co31] 27 (0, 0)) (by (with_reducible repeat (first | refine blk_drewN ?_ _ | refine blk_drew ?_ | refine blk_alloc ?_ _)); refine blk_put (cs := #[.slice Ao29 t191.length co29, .slice none 0 0]) ?_ 1 _ rfl; (with_reducible repeat (first | refine blk_drewN ?_ _ | refine blk_drew ?_ | refine blk_alloc ?_ _)); refine blk_put (cs := #[.slice none 0 0, .slice none 0 0]) ?_ 0 _ rfl; (with_reducible repeat (first | refine blk_drewN ?_ _ | refine blk_drew ?_ | refine blk_alloc ?_ _)); exact BK198.out) hg (Kd.R_ne HO_5.out BK198.out (by decide))); have n7_ := Aside0.mk (hb); have n8_ := Aside0.mk (ho); clear HO_190000; clear HO_190001; clear BK179; clear BK189; clear HO193; clear HO196; clear BK198; clear HB; clear HO_5; have HO_190000 := n0_; have HO_190001 := n1_; have BK179 := n2_; have BK189 := n3_; have HO193 := n4_; have HO196 := n5_; have BK198 := n6_; have HB := n7_; have HO202 := n8_; clear n0_ n1_ n2_ n3_ n4_ n5_ n6_ n7_ n8_; clear ho hb hg hat; have hnb34 := NB198_179.out; have hnc34 := NB179_198.out; have hnb35 := NB198_189.out; have hnc35 := NB189_198.out; have hcz36_0 : w33.cell? ⟨gb198, 0, none⟩ = some (.slice Ao29 t191.length co29) := (blk_cell BK198.out 0).trans rfl; have hcz36_1 : w33.cell? ⟨gb198, 1, none⟩ = some (.slice Ao31 t194.length co31) := (blk_cell BK198.out 1).trans rfl; have hfz36_0 := blk_frozen BK198.out 0; have hfz36_1 := blk_frozen BK198.out 1; have hnb37 := NB189_179.out; have hnc37 := NB179_189.out; have hcz38_0 : w33.cell? ⟨gb189, 0, none⟩ = some (.slice Ao23 x190000_1.length co23) := (blk_cell BK189.out 0).trans rfl; have hcz38_1 : w33.cell? ⟨gb189, 1, none⟩ = some (.slice Ao24 x190001_1.length co24) := (blk_cell BK189.out 1).trans rfl; have hfz38_0 := blk_frozen BK189.out 0; have hfz38_1 := blk_frozen BK189.out 1))
                    go_roundg kj13
                    case measure => have := HK1.out; have := HJ13.out; omega
                    case rel => exact ⟨(y200), (wrap64 (x7_1 + 1)), (t191), (t194), (.slice Ao29 t191.length co29), (.slice Ao31 t194.length co31), (by first | rfl | (simp; done) | (simp [*]; done)), H', ⟨by have := HK1.out; have := HJ13.out; omega⟩, ⟨by (with_reducible repeat (first | apply Kd.R_alloc | apply Kd.R_drewN | apply Kd.R_drew)); exact Kd.R_mono (Kd.R_far (p := ⟨gb189, 1, none⟩) (Kd.R_far (p := ⟨gb189, 0, none⟩) (Kd.R_types HO202.out BK189.out (by decide)) (fun _ hk => hk.2) (.slice Ao29 t191.length co29)) (fun _ hk => hk.2) (.slice Ao31 t194.length co31)) (fun _ hk => trivial)⟩, ⟨by (with_reducible repeat (first | apply Kd.R_alloc | apply Kd.R_drewN | apply Kd.R_drew)); exact Kd.R_mono (Kd.R_far (p := ⟨gb189, 1, none⟩) (Kd.R_far (p := ⟨gb189, 0, none⟩) (Kd.R_types HO193.out BK189.out (by decide)) (fun _ hk => hk.2) (.slice Ao29 t191.length co29)) (fun _ hk => hk.2) (.slice Ao31 t194.length co31)) (fun _ hk => hk.1.1)⟩, ⟨by (with_reducible repeat (first | apply Kd.R_alloc | apply Kd.R_drewN | apply Kd.R_drew)); exact Kd.R_mono (Kd.R_far (p := ⟨gb189, 1, none⟩) (Kd.R_far (p := ⟨gb189, 0, none⟩) (Kd.R_types HO196.out BK189.out (by decide)) (fun _ hk => hk.2) (.slice Ao29 t191.length co29)) (fun _ hk => hk.2) (.slice Ao31 t194.length co31)) (fun _ hk => hk.1.1)⟩, ⟨by (with_reducible repeat (first | refine blk_drewN ?_ _ | refine blk_drew ?_ | refine blk_alloc ?_ _)); refine blk_far ?_ NB179_189.out _; (with_reducible repeat (first | refine blk_drewN ?_ _ | refine blk_drew ?_ | refine blk_alloc ?_ _)); refine blk_far ?_ NB179_189.out _; (with_reducible repeat (first | refine blk_drewN ?_ _ | refine blk_drew ?_ | refine blk_alloc ?_ _)); exact BK179.out⟩, ⟨by (with_reducible repeat (first | refine blk_drewN ?_ _ | refine blk_drew ?_ | refine blk_alloc ?_ _)); refine blk_put (cs := #[.slice Ao29 t191.length co29, .slice Ao24 x190001_1.length co24]) ?_ 1 _ rfl; (with_reducible repeat (first | refine blk_drewN ?_ _ | refine blk_drew ?_ | refine blk_alloc ?_ _)); refine blk_put (cs := #[.slice Ao23 x190000_1.length co23, .slice Ao24 x190001_1.length co24]) ?_ 0 _ rfl; (with_reducible repeat (first | refine blk_drewN ?_ _ | refine blk_drew ?_ | refine blk_alloc ?_ _)); exact BK189.out⟩, ⟨by repeat (first | (with_reducible first | exact HB.out | apply below_alloc | apply pw_below_drewN | apply below_drew1 | refine below_set ?_ GE179.out | refine below_set ?_ GE189.out | refine below_set ?_ GE198.out) | exact HB.out)⟩⟩
                  · rw [if_neg c22] at H
                    exact absurd H (by simp)
                · rw [if_neg c21] at H
                  have c21b0 : (t197 == 0) = false := beq_eq_false_iff_ne.mpr c21
                  have c21b1 : (t197 != 0) = true := bne_iff_ne.mpr c21
                  have HF := Aside0.mk H
                  clear H
                  obtain ⟨Ao39, co39, eo39⟩ := Kd.R_slice HO_190000.out
                  subst eo39
                  obtain ⟨Ao40, co40, eo40⟩ := Kd.R_slice HO_190001.out
                  subst eo40
                  try go_wp2
                  have n0_ := Aside0.mk (Kd.R_drew HO_5.out)
                  have n1_ := Aside0.mk (Kd.R_drew HO_190000.out)
                  have n2_ := Aside0.mk (Kd.R_drew HO_190001.out)
                  have n3_ := Aside0.mk (blk_drew BK179.out)
                  have n4_ := Aside0.mk (blk_drew BK189.out)
                  have n5_ := Aside0.mk (below_drew1 HB.out)
                  clear HO_5
                  clear HO_190000
                  clear HO_190001
                  clear BK179
                  clear BK189
                  clear HB
                  have HO_5 := n0_
                  have HO_190000 := n1_
                  have HO_190001 := n2_
                  have BK179 := n3_
                  have BK189 := n4_
                  have HB := n5_
                  clear n0_ n1_ n2_ n3_ n4_ n5_
                  have p190 : 0 ≤ (x7_1 : Int) := of_decide_eq_true (by first | (with_reducible assumption) | assumption)
                  have q190 : x7_1 < (l0.length : Int) := of_decide_eq_true (by first | (with_reducible assumption) | assumption)
                  obtain ⟨ad190, e190, hx190_0, hx190_1, hx190_2, hx190_3⟩ := at_T45 HR0.out x7_1 p190 q190
                  have hw190_3 := hx190_3
                  have hw190_2 := hx190_2
                  have hw190_1 := hx190_1
                  have hw190_0 := hx190_0
                  cases e190
                  replace hx190_0 := (HB.out.cell (World.block_lt_of_cell? w _ hx190_0)).trans hx190_0
                  replace hx190_1 := (HB.out.cell (World.block_lt_of_cell? w _ hx190_1)).trans hx190_1
                  replace hx190_2 := (HB.out.cell (World.block_lt_of_cell? w _ hx190_2)).trans hx190_2
                  replace hx190_3 := (HB.out.cell (World.block_lt_of_cell? w _ hx190_3)).trans hx190_3
                  replace p190 := eq_true p190
                  replace q190 := eq_true q190
                  refine start_ (n := 12) (S := fun w' => w'.cell? ⟨gb189, 0, none⟩ = some (.slice Ao39 x190000_1.length co39) ∧ w'.cell? ⟨gb189, 1, none⟩ = some (.slice Ao40 x190001_1.length co40) ∧ w'.cell? (ad190.add ((x7_1).toNat * 4)) = some (.int .i64 ((rd_T45 l0 x7_1).f0)) ∧ w'.cell? ⟨(ad190.add ((x7_1).toNat * 4)).block, (ad190.add ((x7_1).toNat * 4)).off + 1, none⟩ = some (.int .i64 ((rd_T45 l0 x7_1).f1)) ∧ w'.cell? ⟨(ad190.add ((x7_1).toNat * 4)).block, (ad190.add ((x7_1).toNat * 4)).off + 2, none⟩ = some (.int .i64 ((rd_T45 l0 x7_1).f2)) ∧ w'.cell? ⟨(ad190.add ((x7_1).toNat * 4)).block, (ad190.add ((x7_1).toNat * 4)).off + 3, none⟩ = some (.int .i64 ((rd_T45 l0 x7_1).f3))) (ds := []) #[false, false, false, false, false, false, false, false, false, false, false, false] (by kernel_rfl) rfl rfl ⟨(blk_cell BK189.out 0).trans rfl, (blk_cell BK189.out 1).trans rfl, ((HB.out.cell (World.block_lt_of_cell? w _ hw190_0)).trans hw190_0), ((HB.out.cell (World.block_lt_of_cell? w _ hw190_1)).trans hw190_1), ((HB.out.cell (World.block_lt_of_cell? w _ hw190_2)).trans hw190_2), ((HB.out.cell (World.block_lt_of_cell? w _ hw190_3)).trans hw190_3)⟩ (fun hHeld => ?_); refine with_tabW spec_PoolTake.tab6 spec_PoolTake.bits6 (fun HT_ HW_ => ?_)
                  generalize wc.drew = w41 at HO_5 HO_190000 HO_190001 BK179 BK189 HB hx190_0 hx190_1 hx190_2 hx190_3 hHeld ⊢
                  refine pure_ (i := 1) (N := some 26) (v := ?_) (a' := ?_) #[false, true, false, false, false, false, false, false, false, false, false, false] rfl rfl (any_of HT_.out (by kernel_rfl)) (fun _ _ _ h => h) (Or.inl ⟨by rfl, ?_⟩) ?_ ?_
                  rotate_left
                  · intro w'
                    go_simp
                    with_reducible rfl
                  rotate_left
                  · simp only [Act.put, List.setIfInBounds_toArray, List.set_cons_zero, List.set_cons_succ, i64_w, i32_w]
                    rfl
                  refine pure_ (i := 2) (N := some 27) (v := ?_) (a' := ?_) #[false, true, true, false, false, false, false, false, false, false, false, false] rfl rfl (any_of HT_.out (by kernel_rfl)) (fun _ _ _ h => h) (Or.inl ⟨by rfl, ?_⟩) ?_ ?_
                  rotate_left
                  · intro w'
                    go_simp
                    with_reducible rfl
                  rotate_left
                  · simp only [Act.put, List.setIfInBounds_toArray, List.set_cons_zero, List.set_cons_succ, i64_w, i32_w]
                    rfl
                  refine pure_ (i := 3) (N := some 28) (v := ?_) (a' := ?_) #[false, true, true, true, false, false, false, false, false, false, false, false] rfl rfl (any_of HT_.out (by kernel_rfl)) (fun _ _ _ h => h) (Or.inl ⟨by rfl, ?_⟩) ?_ ?_
                  rotate_left
                  · intro w'
                    go_simp
                    with_reducible rfl
                  rotate_left
                  · simp only [Act.put, List.setIfInBounds_toArray, List.set_cons_zero, List.set_cons_succ, i64_w, i32_w]
                    rfl
                  refine take_ (i := 0) (N := some 25) (v := ?_) (a' := ?_) #[true, true, true, true, false, false, false, false, false, false, false, false] rfl rfl (take_ofW HT_.out HW_.out (by kernel_rfl)) (fun _ _ _ h => h) (Or.inl ⟨by rfl, ?_⟩) hHeld ?_ ?_
                  rotate_left
                  · rintro w' ⟨s0, s1, s2, s3, s4, s5⟩
                    go_simp
                    with_reducible rfl
                  rotate_left
                  · simp only [Act.put, List.setIfInBounds_toArray, List.set_cons_zero, List.set_cons_succ, i64_w, i32_w]
                    rfl
                  refine take_ (i := 4) (N := some 29) (v := ?_) (a' := ?_) #[true, true, true, true, true, false, false, false, false, false, false, false] rfl rfl (take_ofW HT_.out HW_.out (by kernel_rfl)) (fun _ _ _ h => h) (Or.inl ⟨by rfl, ?_⟩) hHeld ?_ ?_
                  rotate_left
                  · rintro w' ⟨s0, s1, s2, s3, s4, s5⟩
                    go_simp
                    with_reducible rfl
                  rotate_left
                  · simp only [Act.put, List.setIfInBounds_toArray, List.set_cons_zero, List.set_cons_succ, i64_w, i32_w]
                    rfl
                  refine join_ (σ := Value × Value × Nat) 2 #[true, true, true, true, true, true, true, true, true, true, false, false] (fun s_ => [(30, .tuple #[.agg #[s_.1, s_.2.1], .int .i64 t197]), (8, .pointer (some ⟨s_.2.2, 0, none⟩)), (24, .tuple #[.agg #[s_.1, s_.2.1], .int .i64 t197]), (31, .agg #[s_.1, s_.2.1]), (32, .int .i64 t197)]) (fun s_ w' => (w'.cell? ⟨gb189, 0, none⟩ = some (.slice Ao39 x190000_1.length co39) ∧ w'.cell? ⟨gb189, 1, none⟩ = some (.slice Ao40 x190001_1.length co40) ∧ w'.cell? (ad190.add ((x7_1).toNat * 4)) = some (.int .i64 ((rd_T45 l0 x7_1).f0)) ∧ w'.cell? ⟨(ad190.add ((x7_1).toNat * 4)).block, (ad190.add ((x7_1).toNat * 4)).off + 1, none⟩ = some (.int .i64 ((rd_T45 l0 x7_1).f1)) ∧ w'.cell? ⟨(ad190.add ((x7_1).toNat * 4)).block, (ad190.add ((x7_1).toNat * 4)).off + 2, none⟩ = some (.int .i64 ((rd_T45 l0 x7_1).f2)) ∧ w'.cell? ⟨(ad190.add ((x7_1).toNat * 4)).block, (ad190.add ((x7_1).toNat * 4)).off + 3, none⟩ = some (.int .i64 ((rd_T45 l0 x7_1).f3))) ∧ (Kd.R (Kd.int .i64) 3 w' w.heap.size (fun k_ => some k_ ≠ (s_.2.1 : Value).ownBlock ∧ some k_ ≠ (.slice Ao39 x190000_1.length co39 : Value).ownBlock ∧ some k_ ≠ (.slice Ao40 x190001_1.length co40 : Value).ownBlock) s_.1 t191) ∧ (Kd.R (Kd.int .i64) 3 w' w.heap.size (fun k_ => some k_ ≠ (s_.1 : Value).ownBlock ∧ some k_ ≠ (.slice Ao39 x190000_1.length co39 : Value).ownBlock ∧ some k_ ≠ (.slice Ao40 x190001_1.length co40 : Value).ownBlock) s_.2.1 t194) ∧ (Kd.R (Kd.int .i64) 3 w' w.heap.size (fun k_ => some k_ ≠ (s_.1 : Value).ownBlock ∧ some k_ ≠ (s_.2.1 : Value).ownBlock ∧ some k_ ≠ (.slice Ao40 x190001_1.length co40 : Value).ownBlock) (.slice Ao39 x190000_1.length co39) x190000_1) ∧ (Kd.R (Kd.int .i64) 3 w' w.heap.size (fun k_ => some k_ ≠ (s_.1 : Value).ownBlock ∧ some k_ ≠ (s_.2.1 : Value).ownBlock ∧ some k_ ≠ (.slice Ao39 x190000_1.length co39 : Value).ownBlock) (.slice Ao40 x190001_1.length co40) x190001_1) ∧ (Kd.R k45 45 w' w.heap.size (fun _ => True) u5 x5_1) ∧ (w'.heap[gb179]? = some (.cells #[.slice A1_0 l1_0.length c1_0, .slice A1_1 l1_1.length c1_1] 27 (0, 0))) ∧ (w'.heap[gb189]? = some (.cells #[.slice Ao39 x190000_1.length co39, .slice Ao40 x190001_1.length co40] 27 (0, 0))) ∧ (w'.heap[s_.2.2]? = some (.cells #[.slice none 0 0, .slice none 0 0] 27 (0, 0))) ∧ (w.heap.size ≤ s_.2.2) ∧ (w.heap.size ≤ s_.2.2) ∧ (gb179 ≠ s_.2.2) ∧ (s_.2.2 ≠ gb179) ∧ (gb189 ≠ s_.2.2) ∧ (s_.2.2 ≠ gb189) ∧ (Below w.heap.size w w')) ?_ ?_
                  rotate_left
                  · intro hCont
                    refine two_ (i := 5) (j := 9) (Ni := some 30) (Nj := some 8) #[true, true, true, true, true, true, false, false, false, false, false, false] #[true, true, true, true, true, false, false, false, false, true, false, false] rfl rfl rfl rfl (two_of HT_.out (by kernel_rfl)) (by decide) (by decide) (fun K hK => ?_) (fun K hK => ?_)
                    · skip
                      refine goes_ Try.func34 (by kernel_rfl) rfl #[.agg #[.slice Ao39 x190000_1.length co39, .slice Ao40 x190001_1.length co40], .agg #[.int .i64 ((rd_T45 l0 x7_1).f0), .int .i64 ((rd_T45 l0 x7_1).f1), .int .i64 ((rd_T45 l0 x7_1).f2), .int .i64 ((rd_T45 l0 x7_1).f3)]] (by rfl) rfl rfl (by (try simp only [List.map_toArray, List.map_cons, List.map_nil]); first | done | rfl | (simp only [List.length_drop, List.length_take]; rfl)) ?_
                      with_reducible refine (spec_Pay.calls kj13 _ _ x190000_1 _ _ x190001_1 ((rd_T45 l0 x7_1).f0) ((rd_T45 l0 x7_1).f1) ((rd_T45 l0 x7_1).f2) ((rd_T45 l0 x7_1).f3) t191 t194 t197 _ ?side1 ?side2 ?side3 ?side4 A20.out).mono ?_
                      (case side1 => repeat (first | exact (Kd.R_reads' HO_190000.out).2.2 | (with_reducible refine Kd.C_alloc ?_ _) | (with_reducible refine Kd.C_drewN ?_ _) | (with_reducible refine Kd.C_drew ?_)))
                      (case side2 => exact (Kd.R_reads' HO_190000.out).2.1)
                      (case side3 => repeat (first | exact (Kd.R_reads' HO_190001.out).2.2 | (with_reducible refine Kd.C_alloc ?_ _) | (with_reducible refine Kd.C_drewN ?_ _) | (with_reducible refine Kd.C_drew ?_)))
                      (case side4 => exact (Kd.R_reads' HO_190001.out).2.1)
                      rintro e w42 ⟨v192, v195, rfl, ho0, ho1, hb⟩
                      refine ⟨_, rfl, ?_⟩
                      have n0_ := Aside0.mk (Kd.R_below (by (with_reducible repeat (first | apply Kd.R_alloc | apply Kd.R_drewN | apply Kd.R_drew)); exact HO_5.out) hb)
                      have n1_ := Aside0.mk (Kd.R_mono (Kd.R_told (Kd.R_told (Kd.R_old (by (with_reducible repeat (first | apply Kd.R_alloc | apply Kd.R_drewN | apply Kd.R_drew)); exact HO_190000.out) hb) (Kd.R_base ho0)) (Kd.R_base ho1)) (fun _ h_ => h_.1))
                      have n2_ := Aside0.mk (Kd.R_mono (Kd.R_told (Kd.R_told (Kd.R_old (by (with_reducible repeat (first | apply Kd.R_alloc | apply Kd.R_drewN | apply Kd.R_drew)); exact HO_190001.out) hb) (Kd.R_base ho0)) (Kd.R_base ho1)) (fun _ h_ => h_.1))
                      have n3_ := Aside0.mk (Kd.R_lower (Kd.R_new' (Kd.R_new' ho0 (Kd.R_lt (by (with_reducible repeat (first | apply Kd.R_alloc | apply Kd.R_drewN | apply Kd.R_drew)); exact HO_190000.out))) (Kd.R_lt (by (with_reducible repeat (first | apply Kd.R_alloc | apply Kd.R_drewN | apply Kd.R_drew)); exact HO_190001.out))) (below_size (by repeat (first | (with_reducible first | exact HB.out | apply below_alloc | apply pw_below_drewN | apply below_drew1 | refine below_set ?_ GE179.out | refine below_set ?_ GE189.out) | exact HB.out))))
                      have n4_ := Aside0.mk (Kd.R_lower (Kd.R_new' (Kd.R_new' ho1 (Kd.R_lt (by (with_reducible repeat (first | apply Kd.R_alloc | apply Kd.R_drewN | apply Kd.R_drew)); exact HO_190000.out))) (Kd.R_lt (by (with_reducible repeat (first | apply Kd.R_alloc | apply Kd.R_drewN | apply Kd.R_drew)); exact HO_190001.out))) (below_size (by repeat (first | (with_reducible first | exact HB.out | apply below_alloc | apply pw_below_drewN | apply below_drew1 | refine below_set ?_ GE179.out | refine below_set ?_ GE189.out) | exact HB.out))))
                      have n5_ := Aside0.mk (blk_below (g := gb179) (o := .cells #[.slice A1_0 l1_0.length c1_0, .slice A1_1 l1_1.length c1_1] 27 (0, 0)) (by (with_reducible repeat (first | refine blk_drewN ?_ _ | refine blk_drew ?_ | refine blk_alloc ?_ _)); exact BK179.out) hb)
                      have n6_ := Aside0.mk (blk_below (g := gb189) (o := .cells #[.slice Ao39 x190000_1.length co39, .slice Ao40 x190001_1.length co40] 27 (0, 0)) (by (with_reducible repeat (first | refine blk_drewN ?_ _ | refine blk_drew ?_ | refine blk_alloc ?_ _)); exact BK189.out) hb)
                      have n7_ := Aside0.mk (below_step (by repeat (first | (with_reducible first | exact HB.out | apply below_alloc | apply pw_below_drewN | apply below_drew1 | refine below_set ?_ GE179.out | refine below_set ?_ GE189.out) | exact HB.out)) hb)
                      clear HO_5
                      clear HO_190000
                      clear HO_190001
                      clear BK179
                      clear BK189
                      clear HB
                      have HO_5 := n0_
                      have HO_190000 := n1_
                      have HO_190001 := n2_
                      have HO193 := n3_
                      have HO196 := n4_
                      have BK179 := n5_
                      have BK189 := n6_
                      have HB := n7_
                      clear n0_ n1_ n2_ n3_ n4_ n5_ n6_ n7_
                      (try clear hb)
                      (try clear hb2)
                      (try clear hk)
                      (try clear hi)
                      (try clear ho0)
                      (try clear ho1)
                      refine hK.out _ _ ⟨(blk_cell BK189.out 0).trans rfl, (blk_cell BK189.out 1).trans rfl, ((HB.out.cell (World.block_lt_of_cell? w _ hw190_0)).trans hw190_0), ((HB.out.cell (World.block_lt_of_cell? w _ hw190_1)).trans hw190_1), ((HB.out.cell (World.block_lt_of_cell? w _ hw190_2)).trans hw190_2), ((HB.out.cell (World.block_lt_of_cell? w _ hw190_3)).trans hw190_3)⟩ (fun hHeld => ?_)
                      clear hK K
                      refine norm_ (a' := ?_) ?_ ?_
                      rotate_left
                      · show Act.put _ (some 30) _ = _
                        simp only [Act.put, List.setIfInBounds_toArray, List.set_cons_zero, List.set_cons_succ, i64_w, i32_w]
                        rfl
                      refine pure_ (i := 6) (N := some 24) (v := ?_) (a' := ?_) #[true, true, true, true, true, true, true, false, false, false, false, false] rfl rfl (any_of HT_.out (by kernel_rfl)) (fun _ _ _ h => h) (Or.inl ⟨by rfl, ?_⟩) ?_ ?_
                      rotate_left
                      · intro w'
                        go_simp
                        with_reducible rfl
                      rotate_left
                      · simp only [Act.put, List.setIfInBounds_toArray, List.set_cons_zero, List.set_cons_succ, i64_w, i32_w]
                        rfl
                      refine pure_ (i := 7) (N := some 31) (v := ?_) (a' := ?_) #[true, true, true, true, true, true, true, true, false, false, false, false] rfl rfl (any_of HT_.out (by kernel_rfl)) (fun _ _ _ h => h) (Or.inl ⟨by rfl, ?_⟩) ?_ ?_
                      rotate_left
                      · intro w'
                        go_simp
                        with_reducible rfl
                      rotate_left
                      · simp only [Act.put, List.setIfInBounds_toArray, List.set_cons_zero, List.set_cons_succ, i64_w, i32_w]
                        rfl
                      refine pure_ (i := 8) (N := some 32) (v := ?_) (a' := ?_) #[true, true, true, true, true, true, true, true, true, false, false, false] rfl rfl (any_of HT_.out (by kernel_rfl)) (fun _ _ _ h => h) (Or.inl ⟨by rfl, ?_⟩) ?_ ?_
                      rotate_left
                      · intro w'
                        go_simp
                        with_reducible rfl
                      rotate_left
                      · simp only [Act.put, List.setIfInBounds_toArray, List.set_cons_zero, List.set_cons_succ, i64_w, i32_w]
                        rfl
                      refine one_ (i := 9) (N := some 8) #[true, true, true, true, true, true, true, true, true, true, false, false] rfl rfl (one_of HT_.out (by kernel_rfl)) (by decide) (fun K hK => ?_)
                      refine box_step ?hg (N := 8) ?hd (cs := #[.slice none 0 0, .slice none 0 0]) (t := 27) ?hr ?_; (case hd => rfl); (case hg => rfl); (case hr => first | (go_simp; done) | (go_simp; rfl))
                      intro gb198 hg w43 hbox hb
                      have n0_ := Aside0.mk (Kd.R_below (by (with_reducible repeat (first | apply Kd.R_alloc | apply Kd.R_drewN | apply Kd.R_drew)); exact HO_5.out) hb)
                      have n1_ := Aside0.mk (Kd.R_below (by (with_reducible repeat (first | apply Kd.R_alloc | apply Kd.R_drewN | apply Kd.R_drew)); exact HO_190000.out) hb)
                      have n2_ := Aside0.mk (Kd.R_below (by (with_reducible repeat (first | apply Kd.R_alloc | apply Kd.R_drewN | apply Kd.R_drew)); exact HO_190001.out) hb)
                      have n3_ := Aside0.mk (Kd.R_below (by (with_reducible repeat (first | apply Kd.R_alloc | apply Kd.R_drewN | apply Kd.R_drew)); exact HO193.out) hb)
                      have n4_ := Aside0.mk (Kd.R_below (by (with_reducible repeat (first | apply Kd.R_alloc | apply Kd.R_drewN | apply Kd.R_drew)); exact HO196.out) hb)
                      have n5_ := Aside0.mk (blk_below (g := gb179) (o := .cells #[.slice A1_0 l1_0.length c1_0, .slice A1_1 l1_1.length c1_1] 27 (0, 0)) (by (with_reducible repeat (first | refine blk_drewN ?_ _ | refine blk_drew ?_ | refine blk_alloc ?_ _)); exact BK179.out) hb)
                      have n6_ := Aside0.mk (blk_below (g := gb189) (o := .cells #[.slice Ao39 x190000_1.length co39, .slice Ao40 x190001_1.length co40] 27 (0, 0)) (by (with_reducible repeat (first | refine blk_drewN ?_ _ | refine blk_drew ?_ | refine blk_alloc ?_ _)); exact BK189.out) hb)
                      have n7_ := Aside0.mk (below_step (by repeat (first | (with_reducible first | exact HB.out | apply below_alloc | apply pw_below_drewN | apply below_drew1 | refine below_set ?_ GE179.out | refine below_set ?_ GE189.out) | exact HB.out)) hb)
                      have n8_ := Aside0.mk (hbox)
                      have n9_ := Aside0.mk ((by rw [hg]; exact (below_size (by repeat (first | (with_reducible first | exact HB.out | apply below_alloc | apply pw_below_drewN | apply below_drew1 | refine below_set ?_ GE179.out | refine below_set ?_ GE189.out) | exact HB.out))) : w.heap.size ≤ gb198))
                      have n10_ := Aside0.mk ((by rw [hg]; exact (below_size (by repeat (first | (with_reducible first | exact HB.out | apply below_alloc | apply pw_below_drewN | apply below_drew1 | refine below_set ?_ GE179.out | refine below_set ?_ GE189.out) | exact HB.out))) : w.heap.size ≤ gb198))
                      have n11_ := Aside0.mk ((by rw [hg]; exact Nat.ne_of_lt (blk_lt (g := gb179) (o := .cells #[.slice A1_0 l1_0.length c1_0, .slice A1_1 l1_1.length c1_1] 27 (0, 0)) (by (with_reducible repeat (first | refine blk_drewN ?_ _ | refine blk_drew ?_ | refine blk_alloc ?_ _)); exact BK179.out)) : gb179 ≠ gb198))
                      have n12_ := Aside0.mk ((by rw [hg]; exact Nat.ne_of_gt (blk_lt (g := gb179) (o := .cells #[.slice A1_0 l1_0.length c1_0, .slice A1_1 l1_1.length c1_1] 27 (0, 0)) (by (with_reducible repeat (first | refine blk_drewN ?_ _ | refine blk_drew ?_ | refine blk_alloc ?_ _)); exact BK179.out)) : gb198 ≠ gb179))
                      have n13_ := Aside0.mk ((by rw [hg]; exact Nat.ne_of_lt (blk_lt (g := gb189) (o := .cells #[.slice Ao39 x190000_1.length co39, .slice Ao40 x190001_1.length co40] 27 (0, 0)) (by (with_reducible repeat (first | refine blk_drewN ?_ _ | refine blk_drew ?_ | refine blk_alloc ?_ _)); exact BK189.out)) : gb189 ≠ gb198))
                      have n14_ := Aside0.mk ((by rw [hg]; exact Nat.ne_of_gt (blk_lt (g := gb189) (o := .cells #[.slice Ao39 x190000_1.length co39, .slice Ao40 x190001_1.length co40] 27 (0, 0)) (by (with_reducible repeat (first | refine blk_drewN ?_ _ | refine blk_drew ?_ | refine blk_alloc ?_ _)); exact BK189.out)) : gb198 ≠ gb189))
                      clear HO_5
                      clear HO_190000
                      clear HO_190001
                      clear HO193
                      clear HO196
                      clear BK179
                      clear BK189
                      clear HB
                      have HO_5 := n0_
                      have HO_190000 := n1_
                      have HO_190001 := n2_
                      have HO193 := n3_
                      have HO196 := n4_
                      have BK179 := n5_
                      have BK189 := n6_
                      have HB := n7_
                      have BK198 := n8_
                      have GW198 := n9_
                      have GE198 := n10_
                      have NB179_198 := n11_
                      have NB198_179 := n12_
                      have NB189_198 := n13_
                      have NB198_189 := n14_
                      clear n0_ n1_ n2_ n3_ n4_ n5_ n6_ n7_ n8_ n9_ n10_ n11_ n12_ n13_ n14_
                      clear hb hbox hg
                      refine hK.out _ _ ⟨(blk_cell BK189.out 0).trans rfl, (blk_cell BK189.out 1).trans rfl, ((HB.out.cell (World.block_lt_of_cell? w _ hw190_0)).trans hw190_0), ((HB.out.cell (World.block_lt_of_cell? w _ hw190_1)).trans hw190_1), ((HB.out.cell (World.block_lt_of_cell? w _ hw190_2)).trans hw190_2), ((HB.out.cell (World.block_lt_of_cell? w _ hw190_3)).trans hw190_3)⟩ (fun hHeld => ?_)
                      clear hK K
                      refine norm_ (a' := ?_) ?_ ?_
                      rotate_left
                      · show Act.put _ (some 8) _ = _
                        simp only [Act.put, List.setIfInBounds_toArray, List.set_cons_zero, List.set_cons_succ, i64_w, i32_w]
                        rfl
                      exact norm_ (by simp only [putAll, Act.put, List.setIfInBounds_toArray, List.set_cons_zero, List.set_cons_succ]) (hCont (v192, v195, gb198) _ ⟨hHeld, (by (with_reducible repeat (first | apply Kd.R_alloc | apply Kd.R_drewN | apply Kd.R_drew)); exact Kd.R_mono HO193.out (fun _ hk => ⟨hk.1.1, ⟨hk.1.2, hk.2⟩⟩)), (by (with_reducible repeat (first | apply Kd.R_alloc | apply Kd.R_drewN | apply Kd.R_drew)); exact Kd.R_mono HO196.out (fun _ hk => ⟨hk.1.1, ⟨hk.1.2, hk.2⟩⟩)), (by (with_reducible repeat (first | apply Kd.R_alloc | apply Kd.R_drewN | apply Kd.R_drew)); exact Kd.R_mono HO_190000.out (fun _ hk => ⟨hk.1.2, ⟨hk.2, hk.1.1⟩⟩)), (by (with_reducible repeat (first | apply Kd.R_alloc | apply Kd.R_drewN | apply Kd.R_drew)); exact Kd.R_mono HO_190001.out (fun _ hk => ⟨hk.1.2, ⟨hk.2, hk.1.1⟩⟩)), (by (with_reducible repeat (first | apply Kd.R_alloc | apply Kd.R_drewN | apply Kd.R_drew)); exact HO_5.out), (by (with_reducible repeat (first | refine blk_drewN ?_ _ | refine blk_drew ?_ | refine blk_alloc ?_ _)); exact BK179.out), (by (with_reducible repeat (first | refine blk_drewN ?_ _ | refine blk_drew ?_ | refine blk_alloc ?_ _)); exact BK189.out), (by (with_reducible repeat (first | refine blk_drewN ?_ _ | refine blk_drew ?_ | refine blk_alloc ?_ _)); exact BK198.out), GW198.out, GE198.out, NB179_198.out, NB198_179.out, NB189_198.out, NB198_189.out, (by repeat (first | (with_reducible first | exact HB.out | apply below_alloc | apply pw_below_drewN | apply below_drew1 | refine below_set ?_ GE179.out | refine below_set ?_ GE189.out | refine below_set ?_ GE198.out) | exact HB.out))⟩)
                    · skip
                      refine box_step ?hg (N := 8) ?hd (cs := #[.slice none 0 0, .slice none 0 0]) (t := 27) ?hr ?_; (case hd => rfl); (case hg => rfl); (case hr => first | (go_simp; done) | (go_simp; rfl))
                      intro gb198 hg w42 hbox hb
                      have n0_ := Aside0.mk (Kd.R_below (by (with_reducible repeat (first | apply Kd.R_alloc | apply Kd.R_drewN | apply Kd.R_drew)); exact HO_5.out) hb)
                      have n1_ := Aside0.mk (Kd.R_below (by (with_reducible repeat (first | apply Kd.R_alloc | apply Kd.R_drewN | apply Kd.R_drew)); exact HO_190000.out) hb)
                      have n2_ := Aside0.mk (Kd.R_below (by (with_reducible repeat (first | apply Kd.R_alloc | apply Kd.R_drewN | apply Kd.R_drew)); exact HO_190001.out) hb)
                      have n3_ := Aside0.mk (blk_below (g := gb179) (o := .cells #[.slice A1_0 l1_0.length c1_0, .slice A1_1 l1_1.length c1_1] 27 (0, 0)) (by (with_reducible repeat (first | refine blk_drewN ?_ _ | refine blk_drew ?_ | refine blk_alloc ?_ _)); exact BK179.out) hb)
                      have n4_ := Aside0.mk (blk_below (g := gb189) (o := .cells #[.slice Ao39 x190000_1.length co39, .slice Ao40 x190001_1.length co40] 27 (0, 0)) (by (with_reducible repeat (first | refine blk_drewN ?_ _ | refine blk_drew ?_ | refine blk_alloc ?_ _)); exact BK189.out) hb)
                      have n5_ := Aside0.mk (below_step (by repeat (first | (with_reducible first | exact HB.out | apply below_alloc | apply pw_below_drewN | apply below_drew1 | refine below_set ?_ GE179.out | refine below_set ?_ GE189.out) | exact HB.out)) hb)
                      have n6_ := Aside0.mk (hbox)
                      have n7_ := Aside0.mk ((by rw [hg]; exact (below_size (by repeat (first | (with_reducible first | exact HB.out | apply below_alloc | apply pw_below_drewN | apply below_drew1 | refine below_set ?_ GE179.out | refine below_set ?_ GE189.out) | exact HB.out))) : w.heap.size ≤ gb198))
                      have n8_ := Aside0.mk ((by rw [hg]; exact (below_size (by repeat (first | (with_reducible first | exact HB.out | apply below_alloc | apply pw_below_drewN | apply below_drew1 | refine below_set ?_ GE179.out | refine below_set ?_ GE189.out) | exact HB.out))) : w.heap.size ≤ gb198))
                      have n9_ := Aside0.mk ((by rw [hg]; exact Nat.ne_of_lt (blk_lt (g := gb179) (o := .cells #[.slice A1_0 l1_0.length c1_0, .slice A1_1 l1_1.length c1_1] 27 (0, 0)) (by (with_reducible repeat (first | refine blk_drewN ?_ _ | refine blk_drew ?_ | refine blk_alloc ?_ _)); exact BK179.out)) : gb179 ≠ gb198))
                      have n10_ := Aside0.mk ((by rw [hg]; exact Nat.ne_of_gt (blk_lt (g := gb179) (o := .cells #[.slice A1_0 l1_0.length c1_0, .slice A1_1 l1_1.length c1_1] 27 (0, 0)) (by (with_reducible repeat (first | refine blk_drewN ?_ _ | refine blk_drew ?_ | refine blk_alloc ?_ _)); exact BK179.out)) : gb198 ≠ gb179))
                      have n11_ := Aside0.mk ((by rw [hg]; exact Nat.ne_of_lt (blk_lt (g := gb189) (o := .cells #[.slice Ao39 x190000_1.length co39, .slice Ao40 x190001_1.length co40] 27 (0, 0)) (by (with_reducible repeat (first | refine blk_drewN ?_ _ | refine blk_drew ?_ | refine blk_alloc ?_ _)); exact BK189.out)) : gb189 ≠ gb198))
                      have n12_ := Aside0.mk ((by rw [hg]; exact Nat.ne_of_gt (blk_lt (g := gb189) (o := .cells #[.slice Ao39 x190000_1.length co39, .slice Ao40 x190001_1.length co40] 27 (0, 0)) (by (with_reducible repeat (first | refine blk_drewN ?_ _ | refine blk_drew ?_ | refine blk_alloc ?_ _)); exact BK189.out)) : gb198 ≠ gb189))
                      clear HO_5
                      clear HO_190000
                      clear HO_190001
                      clear BK179
                      clear BK189
                      clear HB
                      have HO_5 := n0_
                      have HO_190000 := n1_
                      have HO_190001 := n2_
                      have BK179 := n3_
                      have BK189 := n4_
                      have HB := n5_
                      have BK198 := n6_
                      have GW198 := n7_
                      have GE198 := n8_
                      have NB179_198 := n9_
                      have NB198_179 := n10_
                      have NB189_198 := n11_
                      have NB198_189 := n12_
                      clear n0_ n1_ n2_ n3_ n4_ n5_ n6_ n7_ n8_ n9_ n10_ n11_ n12_
                      clear hb hbox hg
                      refine hK.out _ _ ⟨(blk_cell BK189.out 0).trans rfl, (blk_cell BK189.out 1).trans rfl, ((HB.out.cell (World.block_lt_of_cell? w _ hw190_0)).trans hw190_0), ((HB.out.cell (World.block_lt_of_cell? w _ hw190_1)).trans hw190_1), ((HB.out.cell (World.block_lt_of_cell? w _ hw190_2)).trans hw190_2), ((HB.out.cell (World.block_lt_of_cell? w _ hw190_3)).trans hw190_3)⟩ (fun hHeld => ?_)
                      clear hK K
                      refine norm_ (a' := ?_) ?_ ?_
                      rotate_left
                      · show Act.put _ (some 8) _ = _
                        simp only [Act.put, List.setIfInBounds_toArray, List.set_cons_zero, List.set_cons_succ, i64_w, i32_w]
                        rfl
                      refine one_ (i := 5) (N := some 30) #[true, true, true, true, true, true, false, false, false, true, false, false] rfl rfl (one_of HT_.out (by kernel_rfl)) (by decide) (fun K hK => ?_)
                      refine goes_ Try.func34 (by kernel_rfl) rfl #[.agg #[.slice Ao39 x190000_1.length co39, .slice Ao40 x190001_1.length co40], .agg #[.int .i64 ((rd_T45 l0 x7_1).f0), .int .i64 ((rd_T45 l0 x7_1).f1), .int .i64 ((rd_T45 l0 x7_1).f2), .int .i64 ((rd_T45 l0 x7_1).f3)]] (by rfl) rfl rfl (by (try simp only [List.map_toArray, List.map_cons, List.map_nil]); first | done | rfl | (simp only [List.length_drop, List.length_take]; rfl)) ?_
                      with_reducible refine (spec_Pay.calls kj13 _ _ x190000_1 _ _ x190001_1 ((rd_T45 l0 x7_1).f0) ((rd_T45 l0 x7_1).f1) ((rd_T45 l0 x7_1).f2) ((rd_T45 l0 x7_1).f3) t191 t194 t197 _ ?side1 ?side2 ?side3 ?side4 A20.out).mono ?_
                      (case side1 => repeat (first | exact (Kd.R_reads' HO_190000.out).2.2 | (with_reducible refine Kd.C_alloc ?_ _) | (with_reducible refine Kd.C_drewN ?_ _) | (with_reducible refine Kd.C_drew ?_)))
                      (case side2 => exact (Kd.R_reads' HO_190000.out).2.1)
                      (case side3 => repeat (first | exact (Kd.R_reads' HO_190001.out).2.2 | (with_reducible refine Kd.C_alloc ?_ _) | (with_reducible refine Kd.C_drewN ?_ _) | (with_reducible refine Kd.C_drew ?_)))
                      (case side4 => exact (Kd.R_reads' HO_190001.out).2.1)
                      rintro e w43 ⟨v192, v195, rfl, ho0, ho1, hb⟩
                      refine ⟨_, rfl, ?_⟩
                      have n0_ := Aside0.mk (Kd.R_below (by (with_reducible repeat (first | apply Kd.R_alloc | apply Kd.R_drewN | apply Kd.R_drew)); exact HO_5.out) hb)
                      have n1_ := Aside0.mk (Kd.R_mono (Kd.R_told (Kd.R_told (Kd.R_old (by (with_reducible repeat (first | apply Kd.R_alloc | apply Kd.R_drewN | apply Kd.R_drew)); exact HO_190000.out) hb) (Kd.R_base ho0)) (Kd.R_base ho1)) (fun _ h_ => h_.1))
                      have n2_ := Aside0.mk (Kd.R_mono (Kd.R_told (Kd.R_told (Kd.R_old (by (with_reducible repeat (first | apply Kd.R_alloc | apply Kd.R_drewN | apply Kd.R_drew)); exact HO_190001.out) hb) (Kd.R_base ho0)) (Kd.R_base ho1)) (fun _ h_ => h_.1))
                      have n3_ := Aside0.mk (Kd.R_lower (Kd.R_new' (Kd.R_new' ho0 (Kd.R_lt (by (with_reducible repeat (first | apply Kd.R_alloc | apply Kd.R_drewN | apply Kd.R_drew)); exact HO_190000.out))) (Kd.R_lt (by (with_reducible repeat (first | apply Kd.R_alloc | apply Kd.R_drewN | apply Kd.R_drew)); exact HO_190001.out))) (below_size (by repeat (first | (with_reducible first | exact HB.out | apply below_alloc | apply pw_below_drewN | apply below_drew1 | refine below_set ?_ GE179.out | refine below_set ?_ GE189.out | refine below_set ?_ GE198.out) | exact HB.out))))
                      have n4_ := Aside0.mk (Kd.R_lower (Kd.R_new' (Kd.R_new' ho1 (Kd.R_lt (by (with_reducible repeat (first | apply Kd.R_alloc | apply Kd.R_drewN | apply Kd.R_drew)); exact HO_190000.out))) (Kd.R_lt (by (with_reducible repeat (first | apply Kd.R_alloc | apply Kd.R_drewN | apply Kd.R_drew)); exact HO_190001.out))) (below_size (by repeat (first | (with_reducible first | exact HB.out | apply below_alloc | apply pw_below_drewN | apply below_drew1 | refine below_set ?_ GE179.out | refine below_set ?_ GE189.out | refine below_set ?_ GE198.out) | exact HB.out))))
                      have n5_ := Aside0.mk (blk_below (g := gb179) (o := .cells #[.slice A1_0 l1_0.length c1_0, .slice A1_1 l1_1.length c1_1] 27 (0, 0)) (by (with_reducible repeat (first | refine blk_drewN ?_ _ | refine blk_drew ?_ | refine blk_alloc ?_ _)); exact BK179.out) hb)
                      have n6_ := Aside0.mk (blk_below (g := gb189) (o := .cells #[.slice Ao39 x190000_1.length co39, .slice Ao40 x190001_1.length co40] 27 (0, 0)) (by (with_reducible repeat (first | refine blk_drewN ?_ _ | refine blk_drew ?_ | refine blk_alloc ?_ _)); exact BK189.out) hb)
                      have n7_ := Aside0.mk (blk_below (g := gb198) (o := .cells #[.slice none 0 0, .slice none 0 0] 27 (0, 0)) (by (with_reducible repeat (first | refine blk_drewN ?_ _ | refine blk_drew ?_ | refine blk_alloc ?_ _)); exact BK198.out) hb)
                      have n8_ := Aside0.mk (below_step (by repeat (first | (with_reducible first | exact HB.out | apply below_alloc | apply pw_below_drewN | apply below_drew1 | refine below_set ?_ GE179.out | refine below_set ?_ GE189.out | refine below_set ?_ GE198.out) | exact HB.out)) hb)
                      clear HO_5
                      clear HO_190000
                      clear HO_190001
                      clear BK179
                      clear BK189
                      clear BK198
                      clear HB
                      have HO_5 := n0_
                      have HO_190000 := n1_
                      have HO_190001 := n2_
                      have HO193 := n3_
                      have HO196 := n4_
                      have BK179 := n5_
                      have BK189 := n6_
                      have BK198 := n7_
                      have HB := n8_
                      clear n0_ n1_ n2_ n3_ n4_ n5_ n6_ n7_ n8_
                      (try clear hb)
                      (try clear hb2)
                      (try clear hk)
                      (try clear hi)
                      (try clear ho0)
                      (try clear ho1)
                      refine hK.out _ _ ⟨(blk_cell BK189.out 0).trans rfl, (blk_cell BK189.out 1).trans rfl, ((HB.out.cell (World.block_lt_of_cell? w _ hw190_0)).trans hw190_0), ((HB.out.cell (World.block_lt_of_cell? w _ hw190_1)).trans hw190_1), ((HB.out.cell (World.block_lt_of_cell? w _ hw190_2)).trans hw190_2), ((HB.out.cell (World.block_lt_of_cell? w _ hw190_3)).trans hw190_3)⟩ (fun hHeld => ?_)
                      clear hK K
                      refine norm_ (a' := ?_) ?_ ?_
                      rotate_left
                      · show Act.put _ (some 30) _ = _
                        simp only [Act.put, List.setIfInBounds_toArray, List.set_cons_zero, List.set_cons_succ, i64_w, i32_w]
                        rfl
                      refine pure_ (i := 6) (N := some 24) (v := ?_) (a' := ?_) #[true, true, true, true, true, true, true, false, false, true, false, false] rfl rfl (any_of HT_.out (by kernel_rfl)) (fun _ _ _ h => h) (Or.inl ⟨by rfl, ?_⟩) ?_ ?_
                      rotate_left
                      · intro w'
                        go_simp
                        with_reducible rfl
                      rotate_left
                      · simp only [Act.put, List.setIfInBounds_toArray, List.set_cons_zero, List.set_cons_succ, i64_w, i32_w]
                        rfl
                      refine pure_ (i := 7) (N := some 31) (v := ?_) (a' := ?_) #[true, true, true, true, true, true, true, true, false, true, false, false] rfl rfl (any_of HT_.out (by kernel_rfl)) (fun _ _ _ h => h) (Or.inl ⟨by rfl, ?_⟩) ?_ ?_
                      rotate_left
                      · intro w'
                        go_simp
                        with_reducible rfl
                      rotate_left
                      · simp only [Act.put, List.setIfInBounds_toArray, List.set_cons_zero, List.set_cons_succ, i64_w, i32_w]
                        rfl
                      refine pure_ (i := 8) (N := some 32) (v := ?_) (a' := ?_) #[true, true, true, true, true, true, true, true, true, true, false, false] rfl rfl (any_of HT_.out (by kernel_rfl)) (fun _ _ _ h => h) (Or.inl ⟨by rfl, ?_⟩) ?_ ?_
                      rotate_left
                      · intro w'
                        go_simp
                        with_reducible rfl
                      rotate_left
                      · simp only [Act.put, List.setIfInBounds_toArray, List.set_cons_zero, List.set_cons_succ, i64_w, i32_w]
                        rfl
                      exact norm_ (by simp only [putAll, Act.put, List.setIfInBounds_toArray, List.set_cons_zero, List.set_cons_succ]) (hCont (v192, v195, gb198) _ ⟨hHeld, (by (with_reducible repeat (first | apply Kd.R_alloc | apply Kd.R_drewN | apply Kd.R_drew)); exact Kd.R_mono HO193.out (fun _ hk => ⟨hk.1.1, ⟨hk.1.2, hk.2⟩⟩)), (by (with_reducible repeat (first | apply Kd.R_alloc | apply Kd.R_drewN | apply Kd.R_drew)); exact Kd.R_mono HO196.out (fun _ hk => ⟨hk.1.1, ⟨hk.1.2, hk.2⟩⟩)), (by (with_reducible repeat (first | apply Kd.R_alloc | apply Kd.R_drewN | apply Kd.R_drew)); exact Kd.R_mono HO_190000.out (fun _ hk => ⟨hk.1.2, ⟨hk.2, hk.1.1⟩⟩)), (by (with_reducible repeat (first | apply Kd.R_alloc | apply Kd.R_drewN | apply Kd.R_drew)); exact Kd.R_mono HO_190001.out (fun _ hk => ⟨hk.1.2, ⟨hk.2, hk.1.1⟩⟩)), (by (with_reducible repeat (first | apply Kd.R_alloc | apply Kd.R_drewN | apply Kd.R_drew)); exact HO_5.out), (by (with_reducible repeat (first | refine blk_drewN ?_ _ | refine blk_drew ?_ | refine blk_alloc ?_ _)); exact BK179.out), (by (with_reducible repeat (first | refine blk_drewN ?_ _ | refine blk_drew ?_ | refine blk_alloc ?_ _)); exact BK189.out), (by (with_reducible repeat (first | refine blk_drewN ?_ _ | refine blk_drew ?_ | refine blk_alloc ?_ _)); exact BK198.out), GW198.out, GE198.out, NB179_198.out, NB198_179.out, NB189_198.out, NB198_189.out, (by repeat (first | (with_reducible first | exact HB.out | apply below_alloc | apply pw_below_drewN | apply below_drew1 | refine below_set ?_ GE179.out | refine below_set ?_ GE189.out | refine below_set ?_ GE198.out) | exact HB.out))⟩)
                  rintro ⟨v192, v195, gb198⟩ w44 ⟨hS_, h0_, h1_, h2_, h3_, h4_, h5_, h6_, h7_, h8_, h9_, h10_, h11_, h12_, h13_, h14_⟩
                  have n0_ : Aside0 (Kd.R (Kd.int .i64) 3 w44 w.heap.size (fun k_ => some k_ ≠ (v195 : Value).ownBlock ∧ some k_ ≠ (.slice Ao39 x190000_1.length co39 : Value).ownBlock ∧ some k_ ≠ (.slice Ao40 x190001_1.length co40 : Value).ownBlock) v192 t191) := ⟨h0_⟩
                  have n1_ : Aside0 (Kd.R (Kd.int .i64) 3 w44 w.heap.size (fun k_ => some k_ ≠ (v192 : Value).ownBlock ∧ some k_ ≠ (.slice Ao39 x190000_1.length co39 : Value).ownBlock ∧ some k_ ≠ (.slice Ao40 x190001_1.length co40 : Value).ownBlock) v195 t194) := ⟨h1_⟩
                  have n2_ : Aside0 (Kd.R (Kd.int .i64) 3 w44 w.heap.size (fun k_ => some k_ ≠ (v192 : Value).ownBlock ∧ some k_ ≠ (v195 : Value).ownBlock ∧ some k_ ≠ (.slice Ao40 x190001_1.length co40 : Value).ownBlock) (.slice Ao39 x190000_1.length co39) x190000_1) := ⟨h2_⟩
                  have n3_ : Aside0 (Kd.R (Kd.int .i64) 3 w44 w.heap.size (fun k_ => some k_ ≠ (v192 : Value).ownBlock ∧ some k_ ≠ (v195 : Value).ownBlock ∧ some k_ ≠ (.slice Ao39 x190000_1.length co39 : Value).ownBlock) (.slice Ao40 x190001_1.length co40) x190001_1) := ⟨h3_⟩
                  have n4_ : Aside0 (Kd.R k45 45 w44 w.heap.size (fun _ => True) u5 x5_1) := ⟨h4_⟩
                  have n5_ : Aside0 (w44.heap[gb179]? = some (.cells #[.slice A1_0 l1_0.length c1_0, .slice A1_1 l1_1.length c1_1] 27 (0, 0))) := ⟨h5_⟩
                  have n6_ : Aside0 (w44.heap[gb189]? = some (.cells #[.slice Ao39 x190000_1.length co39, .slice Ao40 x190001_1.length co40] 27 (0, 0))) := ⟨h6_⟩
                  have n7_ : Aside0 (w44.heap[gb198]? = some (.cells #[.slice none 0 0, .slice none 0 0] 27 (0, 0))) := ⟨h7_⟩
                  have n8_ : Aside0 (w.heap.size ≤ gb198) := ⟨h8_⟩
                  have n9_ : Aside0 (w.heap.size ≤ gb198) := ⟨h9_⟩
                  have n10_ : Aside0 (gb179 ≠ gb198) := ⟨h10_⟩
                  have n11_ : Aside0 (gb198 ≠ gb179) := ⟨h11_⟩
                  have n12_ : Aside0 (gb189 ≠ gb198) := ⟨h12_⟩
                  have n13_ : Aside0 (gb198 ≠ gb189) := ⟨h13_⟩
                  have n14_ : Aside0 (Below w.heap.size w w44) := ⟨h14_⟩
                  clear HO_5
                  clear HO_190000
                  clear HO_190001
                  clear BK179
                  clear BK189
                  clear HB
                  clear h0_ h1_ h2_ h3_ h4_ h5_ h6_ h7_ h8_ h9_ h10_ h11_ h12_ h13_ h14_
                  have HO193 := n0_
                  have HO196 := n1_
                  have HO_190000 := n2_
                  have HO_190001 := n3_
                  have HO_5 := n4_
                  have BK179 := n5_
                  have BK189 := n6_
                  have BK198 := n7_
                  have GW198 := n8_
                  have GE198 := n9_
                  have NB179_198 := n10_
                  have NB198_179 := n11_
                  have NB189_198 := n12_
                  have NB198_189 := n13_
                  have HB := n14_
                  clear n0_ n1_ n2_ n3_ n4_ n5_ n6_ n7_ n8_ n9_ n10_ n11_ n12_ n13_ n14_
                  have hHeld : w44.cell? ⟨gb189, 0, none⟩ = some (.slice Ao39 x190000_1.length co39) ∧ w44.cell? ⟨gb189, 1, none⟩ = some (.slice Ao40 x190001_1.length co40) ∧ w44.cell? (ad190.add ((x7_1).toNat * 4)) = some (.int .i64 ((rd_T45 l0 x7_1).f0)) ∧ w44.cell? ⟨(ad190.add ((x7_1).toNat * 4)).block, (ad190.add ((x7_1).toNat * 4)).off + 1, none⟩ = some (.int .i64 ((rd_T45 l0 x7_1).f1)) ∧ w44.cell? ⟨(ad190.add ((x7_1).toNat * 4)).block, (ad190.add ((x7_1).toNat * 4)).off + 2, none⟩ = some (.int .i64 ((rd_T45 l0 x7_1).f2)) ∧ w44.cell? ⟨(ad190.add ((x7_1).toNat * 4)).block, (ad190.add ((x7_1).toNat * 4)).off + 3, none⟩ = some (.int .i64 ((rd_T45 l0 x7_1).f3)) := hS_
                  obtain ⟨Ao45, co45, eo45⟩ := Kd.R_slice HO193.out
                  (first | subst eo45 | (injection eo45 with f1_ f2_ f3_; have f4_ := f1_.symm; have f5_ := f3_.symm; clear f1_ f2_ f3_; subst f4_; subst f5_))
                  obtain ⟨Ao47, co47, eo47⟩ := Kd.R_slice HO196.out
                  (first | subst eo47 | (injection eo47 with f1_ f2_ f3_; have f4_ := f1_.symm; have f5_ := f3_.symm; clear f1_ f2_ f3_; subst f4_; subst f5_))
                  refine norm_ (a' := ?_) ?_ ?_
                  rotate_left
                  · simp only [putAll, Act.put, List.setIfInBounds_toArray, List.set_cons_zero, List.set_cons_succ]
                    rfl
                  refine one_ (i := 10) (N := none) #[true, true, true, true, true, true, true, true, true, true, true, false] rfl rfl (one_of HT_.out (by kernel_rfl)) (by decide) (fun K hK => ?_)
                  have hs46 : w44.cell? ⟨gb198, 0, none⟩ = some (.slice none 0 0) := (blk_cell BK198.out 0).trans rfl
                  have hfs46 := blk_frozen BK198.out 0
                  have hns46_0 := NB179_198.out
                  have hns46_1 := NB189_198.out
                  have hms46_0 := NB198_179.out
                  have hms46_1 := NB198_189.out
                  have hs48 : w44.cell? ⟨gb198, 1, none⟩ = some (.slice none 0 0) := (blk_cell BK198.out 1).trans rfl
                  have hfs48 := blk_frozen BK198.out 1
                  have hns48_0 := NB179_198.out
                  have hns48_1 := NB189_198.out
                  have hms48_0 := NB198_179.out
                  have hms48_1 := NB198_189.out
                  refine skip_ (w1 := ?_) (by rfl) rfl ?_ ?_
                  rotate_left
                  · go_simp
                    rfl
                  refine hK.out _ _ ⟨((cell_far (p := ⟨gb198, _, none⟩) NB189_198.out _).trans (((cell_far (p := ⟨gb198, _, none⟩) NB189_198.out _).trans (hHeld.1)))), ((cell_far (p := ⟨gb198, _, none⟩) NB189_198.out _).trans (((cell_far (p := ⟨gb198, _, none⟩) NB189_198.out _).trans (hHeld.2.1)))), ((cell_far (p := ⟨gb198, _, none⟩) (by first | exact Nat.ne_of_lt (Nat.lt_of_lt_of_le (by have := World.block_lt_of_cell? _ _ hw190_0; first | rwa [add_block] at this | exact this) GW198.out) | (rw [add_block]; exact Nat.ne_of_lt (Nat.lt_of_lt_of_le (by have := World.block_lt_of_cell? _ _ hw190_0; first | rwa [add_block] at this | exact this) GW198.out)) | (show (Addr.add _ _).block ≠ _; rw [add_block]; exact Nat.ne_of_lt (Nat.lt_of_lt_of_le (by have := World.block_lt_of_cell? _ _ hw190_0; first | rwa [add_block] at this | exact this) GW198.out)) | (dsimp only; exact Nat.ne_of_lt (Nat.lt_of_lt_of_le (by have := World.block_lt_of_cell? _ _ hw190_0; first | rwa [add_block] at this | exact this) GW198.out))) _).trans (((cell_far (p := ⟨gb198, _, none⟩) (by first | exact Nat.ne_of_lt (Nat.lt_of_lt_of_le (by have := World.block_lt_of_cell? _ _ hw190_0; first | rwa [add_block] at this | exact this) GW198.out) | (rw [add_block]; exact Nat.ne_of_lt (Nat.lt_of_lt_of_le (by have := World.block_lt_of_cell? _ _ hw190_0; first | rwa [add_block] at this | exact this) GW198.out)) | (show (Addr.add _ _).block ≠ _; rw [add_block]; exact Nat.ne_of_lt (Nat.lt_of_lt_of_le (by have := World.block_lt_of_cell? _ _ hw190_0; first | rwa [add_block] at this | exact this) GW198.out)) | (dsimp only; exact Nat.ne_of_lt (Nat.lt_of_lt_of_le (by have := World.block_lt_of_cell? _ _ hw190_0; first | rwa [add_block] at this | exact this) GW198.out))) _).trans (hHeld.2.2.1)))), ((cell_far (p := ⟨gb198, _, none⟩) (by first | exact Nat.ne_of_lt (Nat.lt_of_lt_of_le (by have := World.block_lt_of_cell? _ _ hw190_1; first | rwa [add_block] at this | exact this) GW198.out) | (rw [add_block]; exact Nat.ne_of_lt (Nat.lt_of_lt_of_le (by have := World.block_lt_of_cell? _ _ hw190_1; first | rwa [add_block] at this | exact this) GW198.out)) | (show (Addr.add _ _).block ≠ _; rw [add_block]; exact Nat.ne_of_lt (Nat.lt_of_lt_of_le (by have := World.block_lt_of_cell? _ _ hw190_1; first | rwa [add_block] at this | exact this) GW198.out)) | (dsimp only; exact Nat.ne_of_lt (Nat.lt_of_lt_of_le (by have := World.block_lt_of_cell? _ _ hw190_1; first | rwa [add_block] at this | exact this) GW198.out))) _).trans (((cell_far (p := ⟨gb198, _, none⟩) (by first | exact Nat.ne_of_lt (Nat.lt_of_lt_of_le (by have := World.block_lt_of_cell? _ _ hw190_1; first | rwa [add_block] at this | exact this) GW198.out) | (rw [add_block]; exact Nat.ne_of_lt (Nat.lt_of_lt_of_le (by have := World.block_lt_of_cell? _ _ hw190_1; first | rwa [add_block] at this | exact this) GW198.out)) | (show (Addr.add _ _).block ≠ _; rw [add_block]; exact Nat.ne_of_lt (Nat.lt_of_lt_of_le (by have := World.block_lt_of_cell? _ _ hw190_1; first | rwa [add_block] at this | exact this) GW198.out)) | (dsimp only; exact Nat.ne_of_lt (Nat.lt_of_lt_of_le (by have := World.block_lt_of_cell? _ _ hw190_1; first | rwa [add_block] at this | exact this) GW198.out))) _).trans (hHeld.2.2.2.1)))), ((cell_far (p := ⟨gb198, _, none⟩) (by first | exact Nat.ne_of_lt (Nat.lt_of_lt_of_le (by have := World.block_lt_of_cell? _ _ hw190_2; first | rwa [add_block] at this | exact this) GW198.out) | (rw [add_block]; exact Nat.ne_of_lt (Nat.lt_of_lt_of_le (by have := World.block_lt_of_cell? _ _ hw190_2; first | rwa [add_block] at this | exact this) GW198.out)) | (show (Addr.add _ _).block ≠ _; rw [add_block]; exact Nat.ne_of_lt (Nat.lt_of_lt_of_le (by have := World.block_lt_of_cell? _ _ hw190_2; first | rwa [add_block] at this | exact this) GW198.out)) | (dsimp only; exact Nat.ne_of_lt (Nat.lt_of_lt_of_le (by have := World.block_lt_of_cell? _ _ hw190_2; first | rwa [add_block] at this | exact this) GW198.out))) _).trans (((cell_far (p := ⟨gb198, _, none⟩) (by first | exact Nat.ne_of_lt (Nat.lt_of_lt_of_le (by have := World.block_lt_of_cell? _ _ hw190_2; first | rwa [add_block] at this | exact this) GW198.out) | (rw [add_block]; exact Nat.ne_of_lt (Nat.lt_of_lt_of_le (by have := World.block_lt_of_cell? _ _ hw190_2; first | rwa [add_block] at this | exact this) GW198.out)) | (show (Addr.add _ _).block ≠ _; rw [add_block]; exact Nat.ne_of_lt (Nat.lt_of_lt_of_le (by have := World.block_lt_of_cell? _ _ hw190_2; first | rwa [add_block] at this | exact this) GW198.out)) | (dsimp only; exact Nat.ne_of_lt (Nat.lt_of_lt_of_le (by have := World.block_lt_of_cell? _ _ hw190_2; first | rwa [add_block] at this | exact this) GW198.out))) _).trans (hHeld.2.2.2.2.1)))), ((cell_far (p := ⟨gb198, _, none⟩) (by first | exact Nat.ne_of_lt (Nat.lt_of_lt_of_le (by have := World.block_lt_of_cell? _ _ hw190_3; first | rwa [add_block] at this | exact this) GW198.out) | (rw [add_block]; exact Nat.ne_of_lt (Nat.lt_of_lt_of_le (by have := World.block_lt_of_cell? _ _ hw190_3; first | rwa [add_block] at this | exact this) GW198.out)) | (show (Addr.add _ _).block ≠ _; rw [add_block]; exact Nat.ne_of_lt (Nat.lt_of_lt_of_le (by have := World.block_lt_of_cell? _ _ hw190_3; first | rwa [add_block] at this | exact this) GW198.out)) | (dsimp only; exact Nat.ne_of_lt (Nat.lt_of_lt_of_le (by have := World.block_lt_of_cell? _ _ hw190_3; first | rwa [add_block] at this | exact this) GW198.out))) _).trans (((cell_far (p := ⟨gb198, _, none⟩) (by first | exact Nat.ne_of_lt (Nat.lt_of_lt_of_le (by have := World.block_lt_of_cell? _ _ hw190_3; first | rwa [add_block] at this | exact this) GW198.out) | (rw [add_block]; exact Nat.ne_of_lt (Nat.lt_of_lt_of_le (by have := World.block_lt_of_cell? _ _ hw190_3; first | rwa [add_block] at this | exact this) GW198.out)) | (show (Addr.add _ _).block ≠ _; rw [add_block]; exact Nat.ne_of_lt (Nat.lt_of_lt_of_le (by have := World.block_lt_of_cell? _ _ hw190_3; first | rwa [add_block] at this | exact this) GW198.out)) | (dsimp only; exact Nat.ne_of_lt (Nat.lt_of_lt_of_le (by have := World.block_lt_of_cell? _ _ hw190_3; first | rwa [add_block] at this | exact this) GW198.out))) _).trans (hHeld.2.2.2.2.2))))⟩ (fun hHeld => ?_)
                  clear hK K
                  refine pure_ (i := 11) (N := some 9) (v := ?_) (a' := ?_) #[true, true, true, true, true, true, true, true, true, true, true, true] rfl rfl (any_of HT_.out (by kernel_rfl)) (fun _ _ _ h => h) (Or.inl ⟨by rfl, ?_⟩) ?_ ?_
                  rotate_left
                  · intro w'
                    go_simp
                    with_reducible rfl
                  rotate_left
                  · simp only [Act.put, List.setIfInBounds_toArray, List.set_cons_zero, List.set_cons_succ, i64_w, i32_w]
                    rfl
                  refine done_ (done_of HT_.out (by kernel_rfl)) ?_
                  go_upto_if 38 with (fail)
                  have H := HF.out
                  clear HF
                  by_cases c49 : t197 = 4
                  · rw [if_pos c49] at H
                    have c49b0 : (t197 == 4) = true := beq_iff_eq.mpr c49
                    have c49b1 : (t197 != 4) = false := bne_eq_false_iff_eq.mpr c49
                    clear c49
                    (first | rw [c49b0] | (simp only [i64_w, i32_w]; rw [c49b0]) | skip)
                    by_cases c50 : x5_1.length < 4398046511104
                    · rw [if_pos c50] at H
                      have LMc50 := Aside0.mk c50
                      clear c50
                      obtain ⟨y204, hy204⟩ : ∃ y_ : List (S45), y_ = (x5_1 ++ [(⟨(rd_T45 l0 x7_1).f0, (rd_T45 l0 x7_1).f1, (rd_T45 l0 x7_1).f2, (rd_T45 l0 x7_1).f3⟩ : S45)]) := ⟨_, rfl⟩
                      replace H : (spec_PoolTake.l0 kj13 l0 y204 (wrap64 (x7_1 + 1)) t191 t194) = some r := by first | (rw [hy204]; with_reducible exact H) | (have H2_ := (Option.bind_some _ _).symm.trans H; rw [hy204]; with_reducible exact H2_) | (have H2_ := (Option.bind_some _ _).symm.trans H; with_reducible exact H2_) | with_reducible exact H | (rw [hy204]; exact H) | exact H
                      have Ny204 := Aside0.mk hy204
                      clear hy204
                      have H' := Aside0.mk H
                      clear H
                      have p203 : 0 ≤ (x7_1 : Int) := of_decide_eq_true (by first | (with_reducible assumption) | assumption)
                      have q203 : x7_1 < (l0.length : Int) := of_decide_eq_true (by first | (with_reducible assumption) | assumption)
                      obtain ⟨ad203, e203, hx203_0, hx203_1, hx203_2, hx203_3⟩ := at_T45 HR0.out x7_1 p203 q203
                      obtain rfl : ad190 = ad203 := (by injection e203)
                      have hn203_0 : ad190.block ≠ gb198 := Nat.ne_of_lt (Nat.lt_of_lt_of_le (by have := World.block_lt_of_cell? _ _ hx203_0; first | rwa [add_block] at this | exact this) GW198.out)
                      have hn203_1 : ad190.block ≠ gb198 := Nat.ne_of_lt (Nat.lt_of_lt_of_le (by have := World.block_lt_of_cell? _ _ hx203_0; first | rwa [add_block] at this | exact this) GW198.out)
                      replace hx203_0 := (HB.out.cell (World.block_lt_of_cell? w _ hx203_0)).trans hx203_0
                      replace hx203_1 := (HB.out.cell (World.block_lt_of_cell? w _ hx203_1)).trans hx203_1
                      replace hx203_2 := (HB.out.cell (World.block_lt_of_cell? w _ hx203_2)).trans hx203_2
                      replace hx203_3 := (HB.out.cell (World.block_lt_of_cell? w _ hx203_3)).trans hx203_3
                      replace hx203_0 := (cell_far (p := ⟨gb198, 0, none⟩) (by first | (rw [add_block]; exact hn203_0) | (show (Addr.add _ _).block ≠ _; rw [add_block]; exact hn203_0) | exact hn203_0) (.slice Ao45 t191.length co45)).trans hx203_0
                      replace hx203_1 := (cell_far (p := ⟨gb198, 0, none⟩) (by first | (rw [add_block]; exact hn203_0) | (show (Addr.add _ _).block ≠ _; rw [add_block]; exact hn203_0) | exact hn203_0) (.slice Ao45 t191.length co45)).trans hx203_1
                      replace hx203_2 := (cell_far (p := ⟨gb198, 0, none⟩) (by first | (rw [add_block]; exact hn203_0) | (show (Addr.add _ _).block ≠ _; rw [add_block]; exact hn203_0) | exact hn203_0) (.slice Ao45 t191.length co45)).trans hx203_2
                      replace hx203_3 := (cell_far (p := ⟨gb198, 0, none⟩) (by first | (rw [add_block]; exact hn203_0) | (show (Addr.add _ _).block ≠ _; rw [add_block]; exact hn203_0) | exact hn203_0) (.slice Ao45 t191.length co45)).trans hx203_3
                      replace hx203_0 := (cell_far (p := ⟨gb198, 1, none⟩) (by first | (rw [add_block]; exact hn203_1) | (show (Addr.add _ _).block ≠ _; rw [add_block]; exact hn203_1) | exact hn203_1) (.slice Ao47 t194.length co47)).trans hx203_0
                      replace hx203_1 := (cell_far (p := ⟨gb198, 1, none⟩) (by first | (rw [add_block]; exact hn203_1) | (show (Addr.add _ _).block ≠ _; rw [add_block]; exact hn203_1) | exact hn203_1) (.slice Ao47 t194.length co47)).trans hx203_1
                      replace hx203_2 := (cell_far (p := ⟨gb198, 1, none⟩) (by first | (rw [add_block]; exact hn203_1) | (show (Addr.add _ _).block ≠ _; rw [add_block]; exact hn203_1) | exact hn203_1) (.slice Ao47 t194.length co47)).trans hx203_2
                      replace hx203_3 := (cell_far (p := ⟨gb198, 1, none⟩) (by first | (rw [add_block]; exact hn203_1) | (show (Addr.add _ _).block ≠ _; rw [add_block]; exact hn203_1) | exact hn203_1) (.slice Ao47 t194.length co47)).trans hx203_3
                      clear hn203_0
                      clear hn203_1
                      replace p203 := eq_true p203
                      replace q203 := eq_true q203
                      go_wp2_with (first | ((with_reducible refine gate_builtin (b := .append) (xs := #[.tmp 39, .tmp 44]) rfl ?_); (try (refine gate_guard (by rfl) ?_; dsimp only)); at_builtin; refine Kd.R_append k45 (w0 := w) w.heap.size rfl (.tmp 39) (.tmp 44) 38 45 (.agg #[(.int .i64 0), (.int .i64 0), (.int .i64 0), (.int .i64 0)]) 32 rfl Try.underlying38 info45 rfl (by decide) (by omega) u5 x5_1 (⟨(rd_T45 l0 x7_1).f0, (rd_T45 l0 x7_1).f1, (rd_T45 l0 x7_1).f2, (rd_T45 l0 x7_1).f3⟩ : S45) [.int .i64 ((rd_T45 l0 x7_1).f0), .int .i64 ((rd_T45 l0 x7_1).f1), .int .i64 ((rd_T45 l0 x7_1).f2), .int .i64 ((rd_T45 l0 x7_1).f3)] (fun _ => True) (fun _ => False) rfl (by first | (go_simp; done) | (go_simp; rfl)) ?aP (fun _ hk => hk.elim) ?aF ?aO ?aB ?aS ?aL ?_; (case aP => exact k45_mkM _ _ _ (⟨(rd_T45 l0 x7_1).f0, (rd_T45 l0 x7_1).f1, (rd_T45 l0 x7_1).f2, (rd_T45 l0 x7_1).f3⟩ : S45)); (case aB => exact (by repeat (first | (with_reducible first | exact HB.out | apply below_alloc | apply pw_below_drewN | apply below_drew1 | refine below_set ?_ GE179.out | refine below_set ?_ GE189.out | refine below_set ?_ GE198.out) | exact HB.out))); (case aF => exact (fun _ _ => trivial)); (case aO => exact (by (with_reducible repeat (first | apply Kd.R_alloc | apply Kd.R_drewN | apply Kd.R_drew)); exact Kd.R_mono (Kd.R_far (p := ⟨gb198, 1, none⟩) (Kd.R_far (p := ⟨gb198, 0, none⟩) (Kd.R_types HO_5.out BK198.out (by decide)) (fun _ hk => hk.2) (.slice Ao45 t191.length co45)) (fun _ hk => hk.2) (.slice Ao47 t194.length co47)) (fun _ hk => trivial))); (case aS => exact (below_size (by repeat (first | (with_reducible first | exact HB.out | apply below_alloc | apply pw_below_drewN | apply below_drew1 | refine below_set ?_ GE179.out | refine below_set ?_ GE189.out | refine below_set ?_ GE198.out) | exact HB.out)))); (case aL => have := LMc50.out; omega); intro v205 w51 ho hb hg hat; rw [← Ny204.out] at ho; have n0_ := Aside0.mk (Kd.R_over' (by (with_reducible repeat (first | apply Kd.R_alloc | apply Kd.R_drewN | apply Kd.R_drew)); exact (Kd.R_mono (Kd.R_far (p := ⟨gb198, 1, none⟩) (Kd.R_far (p := ⟨gb198, 0, none⟩) (Kd.R_types HO_190000.out BK198.out (by decide)) (fun _ hk => hk.2) (.slice Ao45 t191.length co45)) (fun _ hk => hk.2) (.slice Ao47 t194.length co47)) (fun _ h_ => h_.1))) (Kd.R_typed (by (with_reducible repeat (first | apply Kd.R_alloc | apply Kd.R_drewN | apply Kd.R_drew)); exact (Kd.R_mono (Kd.R_far (p := ⟨gb198, 1, none⟩) (Kd.R_far (p := ⟨gb198, 0, none⟩) (Kd.R_types HO_5.out BK198.out (by decide)) (fun _ hk => hk.2) (.slice Ao45 t191.length co45)) (fun _ hk => hk.2) (.slice Ao47 t194.length co47)) (fun _ h_ => h_.1)))) (by decide) hg); have n1_ := Aside0.mk (Kd.R_over' (by (with_reducible repeat (first | apply Kd.R_alloc | apply Kd.R_drewN | apply Kd.R_drew)); exact (Kd.R_mono (Kd.R_far (p := ⟨gb198, 1, none⟩) (Kd.R_far (p := ⟨gb198, 0, none⟩) (Kd.R_types HO_190001.out BK198.out (by decide)) (fun _ hk => hk.2) (.slice Ao45 t191.length co45)) (fun _ hk => hk.2) (.slice Ao47 t194.length co47)) (fun _ h_ => h_.1))) (Kd.R_typed (by (with_reducible repeat (first | apply Kd.R_alloc | apply Kd.R_drewN | apply Kd.R_drew)); exact (Kd.R_mono (Kd.R_far (p := ⟨gb198, 1, none⟩) (Kd.R_far (p := ⟨gb198, 0, none⟩) (Kd.R_types HO_5.out BK198.out (by decide)) (fun _ hk => hk.2) (.slice Ao45 t191.length co45)) (fun _ hk => hk.2) (.slice Ao47 t194.length co47)) (fun _ h_ => h_.1)))) (by decide) hg); have n2_ := Aside0.mk (blk_grown (g := gb179) (o := .cells #[.slice A1_0 l1_0.length c1_0, .slice A1_1 l1_1.length c1_1] 27 (0, 0)) (by (with_reducible repeat (first | refine blk_drewN ?_ _ | refine blk_drew ?_ | refine blk_alloc ?_ _)); refine blk_far ?_ NB179_198.out _; (with_reducible repeat (first | refine blk_drewN ?_ _ | refine blk_drew ?_ | refine blk_alloc ?_ _)); refine blk_far ?_ NB179_198.out _; (with_reducible repeat (first | refine blk_drewN ?_ _ | refine blk_drew ?_ | refine blk_alloc ?_ _)); exact BK179.out) hg (Kd.R_ne HO_5.out BK179.out (by decide))); have n3_ := Aside0.mk (blk_grown (g := gb189) (o := .cells #[.slice Ao39 x190000_1.length co39, .slice Ao40 x190001_1.length co40] 27 (0, 0)) (by (with_reducible repeat (first | refine blk_drewN ?_ _ | refine blk_drew ?_ | refine blk_alloc ?_ _)); refine blk_far ?_ NB189_198.out _; (with_reducible repeat (first | refine blk_drewN ?_ _ | refine blk_drew ?_ | refine blk_alloc ?_ _)); refine blk_far ?_ NB189_198.out _; (with_reducible repeat (first | refine blk_drewN ?_ _ | refine blk_drew ?_ | refine blk_alloc ?_ _)); exact BK189.out) hg (Kd.R_ne HO_5.out BK189.out (by decide))); have n4_ := Aside0.mk (Kd.R_over' (by (with_reducible repeat (first | apply Kd.R_alloc | apply Kd.R_drewN | apply Kd.R_drew)); exact (Kd.R_mono (Kd.R_far (p := ⟨gb198, 1, none⟩) (Kd.R_far (p := ⟨gb198, 0, none⟩) (Kd.R_types HO193.out BK198.out (by decide)) (fun _ hk => hk.2) (.slice Ao45 t191.length co45)) (fun _ hk => hk.2) (.slice Ao47 t194.length co47)) (fun _ h_ => h_.1))) (Kd.R_typed (by (with_reducible repeat (first | apply Kd.R_alloc | apply Kd.R_drewN | apply Kd.R_drew)); exact (Kd.R_mono (Kd.R_far (p := ⟨gb198, 1, none⟩) (Kd.R_far (p := ⟨gb198, 0, none⟩) (Kd.R_types HO_5.out BK198.out (by decide)) (fun _ hk => hk.2) (.slice Ao45 t191.length co45)) (fun _ hk => hk.2) (.slice Ao47 t194.length co47)) (fun _ h_ => h_.1)))) (by decide) hg); have n5_ := Aside0.mk (Kd.R_over' (by (with_reducible repeat (first | apply Kd.R_alloc | apply Kd.R_drewN | apply Kd.R_drew)); exact (Kd.R_mono (Kd.R_far (p := ⟨gb198, 1, none⟩) (Kd.R_far (p := ⟨gb198, 0, none⟩) (Kd.R_types HO196.out BK198.out (by decide)) (fun _ hk => hk.2) (.slice Ao45 t191.length co45)) (fun _ hk => hk.2) (.slice Ao47 t194.length co47)) (fun _ h_ => h_.1))) (Kd.R_typed (by (with_reducible repeat (first | apply Kd.R_alloc | apply Kd.R_drewN | apply Kd.R_drew)); exact (Kd.R_mono (Kd.R_far (p := ⟨gb198, 1, none⟩) (Kd.R_far (p := ⟨gb198, 0, none⟩) (Kd.R_types HO_5.out BK198.out (by decide)) (fun _ hk => hk.2) (.slice Ao45 t191.length co45)) (fun _ hk => hk.2) (.slice Ao47 t194.length co47)) (fun _ h_ => h_.1)))) (by decide) hg); have n6_ := Aside0.mk (blk_grown (g := gb198) (o := .cells #[.slice Ao45 t191.length co45, .slice Ao47 t194.length co47] 27 (0, 0)) (by (with_reducible repeat (first | refine blk_drewN ?_ _ | refine blk_drew ?_ | refine blk_alloc ?_ _)); refine blk_put (cs := #[.slice Ao45 t191.length co45, .slice none 0 0]) ?_ 1 _ rfl; (with_reducible repeat (first | refine blk_drewN ?_ _ | refine blk_drew ?_ | refine blk_alloc ?_ _)); refine blk_put (cs := #[.slice none 0 0, .slice none 0 0]) ?_ 0 _ rfl; (with_reducible repeat (first | refine blk_drewN ?_ _ | refine blk_drew ?_ | refine blk_alloc ?_ _)); exact BK198.out) hg (Kd.R_ne HO_5.out BK198.out (by decide))); have n7_ := Aside0.mk (hb); have n8_ := Aside0.mk (ho); clear HO_190000; clear HO_190001; clear BK179; clear BK189; clear HO193; clear HO196; clear BK198; clear HB; clear HO_5; have HO_190000 := n0_; have HO_190001 := n1_; have BK179 := n2_; have BK189 := n3_; have HO193 := n4_; have HO196 := n5_; have BK198 := n6_; have HB := n7_; have HO206 := n8_; clear n0_ n1_ n2_ n3_ n4_ n5_ n6_ n7_ n8_; clear ho hb hg hat; have hnb52 := NB198_179.out; have hnc52 := NB179_198.out; have hnb53 := NB198_189.out; have hnc53 := NB189_198.out; have hcz54_0 : w51.cell? ⟨gb198, 0, none⟩ = some (.slice Ao45 t191.length co45) := (blk_cell BK198.out 0).trans rfl; have hcz54_1 : w51.cell? ⟨gb198, 1, none⟩ = some (.slice Ao47 t194.length co47) := (blk_cell BK198.out 1).trans rfl; have hfz54_0 := blk_frozen BK198.out 0; have hfz54_1 := blk_frozen BK198.out 1; have hnb55 := NB189_179.out; have hnc55 := NB179_189.out; have hcz56_0 : w51.cell? ⟨gb189, 0, none⟩ = some (.slice Ao39 x190000_1.length co39) := (blk_cell BK189.out 0).trans rfl; have hcz56_1 : w51.cell? ⟨gb189, 1, none⟩ = some (.slice Ao40 x190001_1.length co40) := (blk_cell BK189.out 1).trans rfl; have hfz56_0 := blk_frozen BK189.out 0; have hfz56_1 := blk_frozen BK189.out 1))
                      go_roundg kj13
                      case measure => have := HK1.out; have := HJ13.out; omega
                      case rel => exact ⟨(y204), (wrap64 (x7_1 + 1)), (t191), (t194), (.slice Ao45 t191.length co45), (.slice Ao47 t194.length co47), (by first | rfl | (simp; done) | (simp [*]; done)), H', ⟨by have := HK1.out; have := HJ13.out; omega⟩, ⟨by (with_reducible repeat (first | apply Kd.R_alloc | apply Kd.R_drewN | apply Kd.R_drew)); exact Kd.R_mono (Kd.R_far (p := ⟨gb189, 1, none⟩) (Kd.R_far (p := ⟨gb189, 0, none⟩) (Kd.R_types HO206.out BK189.out (by decide)) (fun _ hk => hk.2) (.slice Ao45 t191.length co45)) (fun _ hk => hk.2) (.slice Ao47 t194.length co47)) (fun _ hk => trivial)⟩, ⟨by (with_reducible repeat (first | apply Kd.R_alloc | apply Kd.R_drewN | apply Kd.R_drew)); exact Kd.R_mono (Kd.R_far (p := ⟨gb189, 1, none⟩) (Kd.R_far (p := ⟨gb189, 0, none⟩) (Kd.R_types HO193.out BK189.out (by decide)) (fun _ hk => hk.2) (.slice Ao45 t191.length co45)) (fun _ hk => hk.2) (.slice Ao47 t194.length co47)) (fun _ hk => hk.1.1)⟩, ⟨by (with_reducible repeat (first | apply Kd.R_alloc | apply Kd.R_drewN | apply Kd.R_drew)); exact Kd.R_mono (Kd.R_far (p := ⟨gb189, 1, none⟩) (Kd.R_far (p := ⟨gb189, 0, none⟩) (Kd.R_types HO196.out BK189.out (by decide)) (fun _ hk => hk.2) (.slice Ao45 t191.length co45)) (fun _ hk => hk.2) (.slice Ao47 t194.length co47)) (fun _ hk => hk.1.1)⟩, ⟨by (with_reducible repeat (first | refine blk_drewN ?_ _ | refine blk_drew ?_ | refine blk_alloc ?_ _)); refine blk_far ?_ NB179_189.out _; (with_reducible repeat (first | refine blk_drewN ?_ _ | refine blk_drew ?_ | refine blk_alloc ?_ _)); refine blk_far ?_ NB179_189.out _; (with_reducible repeat (first | refine blk_drewN ?_ _ | refine blk_drew ?_ | refine blk_alloc ?_ _)); exact BK179.out⟩, ⟨by (with_reducible repeat (first | refine blk_drewN ?_ _ | refine blk_drew ?_ | refine blk_alloc ?_ _)); refine blk_put (cs := #[.slice Ao45 t191.length co45, .slice Ao40 x190001_1.length co40]) ?_ 1 _ rfl; (with_reducible repeat (first | refine blk_drewN ?_ _ | refine blk_drew ?_ | refine blk_alloc ?_ _)); refine blk_put (cs := #[.slice Ao39 x190000_1.length co39, .slice Ao40 x190001_1.length co40]) ?_ 0 _ rfl; (with_reducible repeat (first | refine blk_drewN ?_ _ | refine blk_drew ?_ | refine blk_alloc ?_ _)); exact BK189.out⟩, ⟨by repeat (first | (with_reducible first | exact HB.out | apply below_alloc | apply pw_below_drewN | apply below_drew1 | refine below_set ?_ GE179.out | refine below_set ?_ GE189.out | refine below_set ?_ GE198.out) | exact HB.out)⟩⟩
                    · rw [if_neg c50] at H
                      exact absurd H (by simp)
                  · rw [if_neg c49] at H
                    have c49b0 : (t197 == 4) = false := beq_eq_false_iff_ne.mpr c49
                    have c49b1 : (t197 != 4) = true := bne_iff_ne.mpr c49
                    (first | rw [c49b0] | (simp only [i64_w, i32_w]; rw [c49b0]) | skip)
                    have H' := Aside0.mk H
                    clear H
                    go_wp2
                    go_roundg kj13
                    case measure => have := HK1.out; have := HJ13.out; omega
                    case rel => exact ⟨(x5_1), (wrap64 (x7_1 + 1)), (x190000_1), (x190001_1), (.slice Ao39 x190000_1.length co39), (.slice Ao40 x190001_1.length co40), (by first | rfl | (simp; done) | (simp [*]; done)), H', ⟨by have := HK1.out; have := HJ13.out; omega⟩, ⟨by (with_reducible repeat (first | apply Kd.R_alloc | apply Kd.R_drewN | apply Kd.R_drew)); exact Kd.R_mono (Kd.R_far (p := ⟨gb198, 1, none⟩) (Kd.R_far (p := ⟨gb198, 0, none⟩) (Kd.R_types HO_5.out BK198.out (by decide)) (fun _ hk => hk.2) (.slice Ao45 t191.length co45)) (fun _ hk => hk.2) (.slice Ao47 t194.length co47)) (fun _ hk => trivial)⟩, ⟨by (with_reducible repeat (first | apply Kd.R_alloc | apply Kd.R_drewN | apply Kd.R_drew)); exact Kd.R_mono (Kd.R_far (p := ⟨gb198, 1, none⟩) (Kd.R_far (p := ⟨gb198, 0, none⟩) (Kd.R_types HO_190000.out BK198.out (by decide)) (fun _ hk => hk.2) (.slice Ao45 t191.length co45)) (fun _ hk => hk.2) (.slice Ao47 t194.length co47)) (fun _ hk => hk.1.2.2)⟩, ⟨by (with_reducible repeat (first | apply Kd.R_alloc | apply Kd.R_drewN | apply Kd.R_drew)); exact Kd.R_mono (Kd.R_far (p := ⟨gb198, 1, none⟩) (Kd.R_far (p := ⟨gb198, 0, none⟩) (Kd.R_types HO_190001.out BK198.out (by decide)) (fun _ hk => hk.2) (.slice Ao45 t191.length co45)) (fun _ hk => hk.2) (.slice Ao47 t194.length co47)) (fun _ hk => hk.1.2.2)⟩, ⟨by (with_reducible repeat (first | refine blk_drewN ?_ _ | refine blk_drew ?_ | refine blk_alloc ?_ _)); refine blk_far ?_ NB179_198.out _; (with_reducible repeat (first | refine blk_drewN ?_ _ | refine blk_drew ?_ | refine blk_alloc ?_ _)); refine blk_far ?_ NB179_198.out _; (with_reducible repeat (first | refine blk_drewN ?_ _ | refine blk_drew ?_ | refine blk_alloc ?_ _)); exact BK179.out⟩, ⟨by (with_reducible repeat (first | refine blk_drewN ?_ _ | refine blk_drew ?_ | refine blk_alloc ?_ _)); refine blk_far ?_ NB189_198.out _; (with_reducible repeat (first | refine blk_drewN ?_ _ | refine blk_drew ?_ | refine blk_alloc ?_ _)); refine blk_far ?_ NB189_198.out _; (with_reducible repeat (first | refine blk_drewN ?_ _ | refine blk_drew ?_ | refine blk_alloc ?_ _)); exact BK189.out⟩, ⟨by repeat (first | (with_reducible first | exact HB.out | apply below_alloc | apply pw_below_drewN | apply below_drew1 | refine below_set ?_ GE179.out | refine below_set ?_ GE189.out | refine below_set ?_ GE198.out) | exact HB.out)⟩⟩
              · rw [if_neg c19] at H
                exact absurd H (by simp)
            · rw [if_neg c18] at H
              exact absurd H (by simp)
          · replace c17 := Bool.eq_false_iff.mpr c17
            subst c17
            have H1 : (some x5_1) = some r := by rw [if_neg (show ¬ (false = true) by decide)] at H; exact H
            clear H
            have H := H1
            clear H1
            obtain rfl := Option.some.inj H
            go_wp2
            go_ret
            exact ⟨_, by first | rfl | (simp [errW_none, errW_some] <;> rfl) | (simp [*, errW_none, errW_some] <;> rfl), by (with_reducible repeat (first | apply Kd.R_alloc | apply Kd.R_drewN | apply Kd.R_drew)); exact HO_5.out, by repeat (first | (with_reducible first | exact HB.out | apply below_alloc | apply pw_below_drewN | apply below_drew1 | refine below_set ?_ GE179.out | refine below_set ?_ GE189.out) | exact HB.out)⟩

end Go.Proofs.Ytajblkfgdalldaa.PFnExactPoolTake
