/- Walks of the functions that a law of seat Ytajblkfgdalldaa reaches, each against a Lean function, printed by this session's wip/myprint.py; no condition of their own. -/
import Derived.Test.YtajblkfgdalldaaPFnLedgersx0
import Derived.Test.YtajblkfgdalldaaPFnLedgersx1
import Derived.Test.YtajblkfgdalldaaPFnLedgersx2
import Derived.Test.YtajblkfgdalldaaPFnLedgersx3
import Derived.Test.YtajblkfgdalldaaPFnLedgersx4
namespace Go.Proofs.Ytajblkfgdalldaa.PFnLedgers
open Go.RowKit Go.Proofs.YtajblkfgdalldaaW.PrintWords Go.Proofs.YtajblkfgdalldaaW.PrintLast Go.Proofs.YtajblkfgdalldaaW.PrintMore
attribute [local go_sem] max2_int min2_int max_two min_two max_three min_three max_four min_four   -- for this text's walks alone
set_option linter.unusedVariables false
set_option linter.unusedSimpArgs false

/-! ### impl_copyInts: function 76 -/
def impl_copyInts.f (l0 : List Int) : Option (List Int) := if ([] : List Int).length + l0.length < 17592186044416 then (some (([] : List Int) ++ l0)) else (none)
set_option maxHeartbeats 8000000 in
set_option maxRecDepth 100000 in
theorem impl_copyInts.calls (A0 : Option Addr) (c0 : Nat) (l0 : List Int) (r : List Int) (w : World) (hr0 : Kd.C (Kd.int .i64) w A0 l0.length l0) (hc0 : l0.length ≤ c0) (h : impl_copyInts.f l0 = some r) :
    Calls Try.prog 76 #[.slice A0 l0.length c0] w fun e w' => ∃ v0_ : Value, e = .returned (v0_) ∧ Kd.R (Kd.int .i64) 3 w' w.heap.size (fun _ => True) v0_ r ∧ Below w.heap.size w w' := by
  have HR0 := Aside0.mk hr0
  have HC0 := Aside0.mk hc0
  clear hr0 hc0
  have HB := Aside0.mk (Below.refl w.heap.size w)
  have H : (if ([] : List Int).length + l0.length < 17592186044416 then (some (([] : List Int) ++ l0)) else (none)) = some r := h
  clear h
  by_cases c2 : ([] : List Int).length + l0.length < 17592186044416
  · rw [if_pos c2] at H
    have LMc2 := Aside0.mk c2
    clear c2
    obtain ⟨y301, hy301⟩ : ∃ y_ : List Int, y_ = (([] : List Int) ++ l0) := ⟨_, rfl⟩
    replace H : (some y301) = some r := by first | (rw [hy301]; with_reducible exact H) | (have H2_ := (Option.bind_some _ _).symm.trans H; rw [hy301]; with_reducible exact H2_) | (have H2_ := (Option.bind_some _ _).symm.trans H; with_reducible exact H2_) | with_reducible exact H | (rw [hy301]; exact H) | exact H
    have Ny301 := Aside0.mk hy301
    clear hy301
    obtain rfl := Option.some.inj H
    go_enter Try.func76, Try.ntmps76
    go_wp2_with (first | ((with_reducible refine gate_builtin (b := .append) (xs := #[.const (.slice none 0 0), .tmp 3]) rfl ?_); at_builtin; refine Kd.R_append_rows (Kd.int .i64) (w0 := w) w.heap.size rfl (.const (.slice none 0 0)) (.tmp 3) 22 3 (.int .i64 0) 8 rfl Try.underlying22 info3 rfl (by decide) (by omega) (.slice none 0 0) ([] : List Int) l0 _ _ _ (fun _ => True) (fun _ => False) rfl rfl ?aO ?aR (fun _ _ h => h) (fun _ h => h.elim) ?aF ?aB ?aS ?aL ?_; (case aR => repeat (first | exact HR0.out | (with_reducible refine Kd.C_alloc ?_ _) | (with_reducible refine Kd.C_drewN ?_ _) | (with_reducible refine Kd.C_drew ?_))); (case aB => exact (by repeat (first | (with_reducible first | exact HB.out | apply below_alloc | apply pw_below_drewN | apply below_drew1) | exact HB.out))); (case aF => exact (fun _ _ => trivial)); (case aO => exact ((Kd.R_nil _ _ _ _ (fun _ => True)))); (case aS => exact (below_size (by repeat (first | (with_reducible first | exact HB.out | apply below_alloc | apply pw_below_drewN | apply below_drew1) | exact HB.out)))); (case aL => have := LMc2.out; omega); intro v302 w3 ho hb hg hat; rw [← Ny301.out] at ho; have n0_ := Aside0.mk (hb); have n1_ := Aside0.mk (ho); clear HB; have HB := n0_; have HO303 := n1_; clear n0_ n1_; clear ho hb hg hat))
    go_ret
    exact ⟨_, by first | rfl | (simp [errW_none, errW_some] <;> rfl) | (simp [*, errW_none, errW_some] <;> rfl), by (with_reducible repeat (first | apply Kd.R_alloc | apply Kd.R_drewN | apply Kd.R_drew)); exact HO303.out, by repeat (first | (with_reducible first | exact HB.out | apply below_alloc | apply pw_below_drewN | apply below_drew1) | exact HB.out)⟩
  · rw [if_neg c2] at H
    exact absurd H (by simp)

/-! ### impl_copyLedger: function 64 -/
def impl_copyLedger.f (l0_0 : List Int) (l0_1 : List Int) : Option (List Int × List Int) := (impl_copyInts.f l0_0).bind fun t306 => ((impl_copyInts.f l0_1).bind fun t309 => (some (t306, t309)))
def impl_copyLedger.T1 : Bool × List (List Nat × List Nat) := (true, [([], []), ([0], [0]), ([1], [1]), ([], []), ([3], [3]), ([4, 2], [4]), ([2, 5], [2, 5]), ([6, 5, 0, 1, 2, 3, 4, 5, 6], [6])])
def impl_copyLedger.B1 : List Nat := [0, 1, 3, 0, 8, 31, 63, 127]
theorem impl_copyLedger.tab1 : rtab .any (opsOf Try.f64 1) = impl_copyLedger.T1 := by kernel_rfl
theorem impl_copyLedger.bits1 : waitsOk impl_copyLedger.T1.2 impl_copyLedger.B1 = true := by kernel_rfl
set_option maxHeartbeats 8000000 in
set_option maxRecDepth 100000 in
theorem impl_copyLedger.calls (A0_0 : Option Addr) (c0_0 : Nat) (l0_0 : List Int) (A0_1 : Option Addr) (c0_1 : Nat) (l0_1 : List Int) (r1 : List Int) (r2 : List Int) (w : World) (hr0_0 : Kd.C (Kd.int .i64) w A0_0 l0_0.length l0_0) (hc0_0 : l0_0.length ≤ c0_0) (hr0_1 : Kd.C (Kd.int .i64) w A0_1 l0_1.length l0_1) (hc0_1 : l0_1.length ≤ c0_1) (h : impl_copyLedger.f l0_0 l0_1 = some (r1, r2)) :
    Calls Try.prog 64 #[.agg #[.slice A0_0 l0_0.length c0_0, .slice A0_1 l0_1.length c0_1]] w fun e w' => ∃ v0_ v1_ : Value, e = .returned (.agg #[v0_, v1_]) ∧ Kd.R (Kd.int .i64) 3 w' w.heap.size (fun k_ => some k_ ≠ (v1_ : Value).ownBlock) v0_ r1 ∧ Kd.R (Kd.int .i64) 3 w' w.heap.size (fun k_ => some k_ ≠ (v0_ : Value).ownBlock) v1_ r2 ∧ Below w.heap.size w w' := by
  have hu27 := Try.underlying27
  have HR0_0 := Aside0.mk hr0_0
  have HC0_0 := Aside0.mk hc0_0
  clear hr0_0 hc0_0
  have HR0_1 := Aside0.mk hr0_1
  have HC0_1 := Aside0.mk hc0_1
  clear hr0_1 hc0_1
  have HB := Aside0.mk (Below.refl w.heap.size w)
  have H : ((impl_copyInts.f l0_0).bind fun t306 => ((impl_copyInts.f l0_1).bind fun t309 => (some (t306, t309)))) = some (r1, r2) := h
  clear h
  replace H := Option.bind_eq_some_iff.mp H
  obtain ⟨t306, A20, H⟩ := H
  replace H : ((impl_copyInts.f l0_1).bind fun t309 => (some (t306, t309))) = some (r1, r2) := H
  have A2 := Aside0.mk A20
  clear A20
  replace H := Option.bind_eq_some_iff.mp H
  obtain ⟨t309, A30, H⟩ := H
  replace H : (some (t306, t309)) = some (r1, r2) := H
  have A3 := Aside0.mk A30
  clear A30
  simp only [Option.some.injEq, Prod.mk.injEq] at H
  obtain ⟨rfl, rfl⟩ := H
  go_enter Try.func64, Try.ntmps64
  try go_wp2_with (first | ((with_reducible refine gate_dst (N := 1) rfl ?_); refine box_event ?hg (N := 1) ?hd (cs := #[.slice A0_0 l0_0.length c0_0, .slice A0_1 l0_1.length c0_1]) (t := 27) ?hr ?_; (case hd => rfl); (case hg => rfl); (case hr => first | (go_simp; done) | (go_simp; rfl)); intro gb304 hg w4 hbox hb; have n0_ := Aside0.mk (below_step (by repeat (first | (with_reducible first | exact HB.out | apply below_alloc | apply pw_below_drewN | apply below_drew1) | exact HB.out)) hb); have n1_ := Aside0.mk (hbox); have n2_ := Aside0.mk ((by rw [hg]; exact (below_size (by repeat (first | (with_reducible first | exact HB.out | apply below_alloc | apply pw_below_drewN | apply below_drew1) | exact HB.out))) : w.heap.size ≤ gb304)); have n3_ := Aside0.mk ((by rw [hg]; exact (below_size (by repeat (first | (with_reducible first | exact HB.out | apply below_alloc | apply pw_below_drewN | apply below_drew1) | exact HB.out))) : w.heap.size ≤ gb304)); clear HB; have HB := n0_; have BK304 := n1_; have GW304 := n2_; have GE304 := n3_; clear n0_ n1_ n2_ n3_; clear hb hbox hg) | ((with_reducible refine gate_dst (N := 2) rfl ?_); refine box_event ?hg (N := 2) ?hd (cs := #[.slice none 0 0, .slice none 0 0]) (t := 27) ?hr ?_; (case hd => rfl); (case hg => rfl); (case hr => first | (go_simp; done) | (go_simp; rfl)); intro gb305 hg w5 hbox hb; have n0_ := Aside0.mk (blk_below (g := gb304) (o := .cells #[.slice A0_0 l0_0.length c0_0, .slice A0_1 l0_1.length c0_1] 27 (0, 0)) (by (with_reducible repeat (first | refine blk_drewN ?_ _ | refine blk_drew ?_ | refine blk_alloc ?_ _)); exact BK304.out) hb); have n1_ := Aside0.mk (below_step (by repeat (first | (with_reducible first | exact HB.out | apply below_alloc | apply pw_below_drewN | apply below_drew1 | refine below_set ?_ GE304.out) | exact HB.out)) hb); have n2_ := Aside0.mk (hbox); have n3_ := Aside0.mk ((by rw [hg]; exact (below_size (by repeat (first | (with_reducible first | exact HB.out | apply below_alloc | apply pw_below_drewN | apply below_drew1 | refine below_set ?_ GE304.out) | exact HB.out))) : w.heap.size ≤ gb305)); have n4_ := Aside0.mk ((by rw [hg]; exact (below_size (by repeat (first | (with_reducible first | exact HB.out | apply below_alloc | apply pw_below_drewN | apply below_drew1 | refine below_set ?_ GE304.out) | exact HB.out))) : w.heap.size ≤ gb305)); have n5_ := Aside0.mk ((by rw [hg]; exact Nat.ne_of_lt (blk_lt (g := gb304) (o := .cells #[.slice A0_0 l0_0.length c0_0, .slice A0_1 l0_1.length c0_1] 27 (0, 0)) (by (with_reducible repeat (first | refine blk_drewN ?_ _ | refine blk_drew ?_ | refine blk_alloc ?_ _)); exact BK304.out)) : gb304 ≠ gb305)); have n6_ := Aside0.mk ((by rw [hg]; exact Nat.ne_of_gt (blk_lt (g := gb304) (o := .cells #[.slice A0_0 l0_0.length c0_0, .slice A0_1 l0_1.length c0_1] 27 (0, 0)) (by (with_reducible repeat (first | refine blk_drewN ?_ _ | refine blk_drew ?_ | refine blk_alloc ?_ _)); exact BK304.out)) : gb305 ≠ gb304)); clear BK304; clear HB; have BK304 := n0_; have HB := n1_; have BK305 := n2_; have GW305 := n3_; have GE305 := n4_; have NB304_305 := n5_; have NB305_304 := n6_; clear n0_ n1_ n2_ n3_ n4_ n5_ n6_; clear hb hbox hg))
  have n0_ := Aside0.mk (blk_drew BK304.out)
  have n1_ := Aside0.mk (blk_drew BK305.out)
  have n2_ := Aside0.mk (below_drew1 HB.out)
  clear BK304
  clear BK305
  clear HB
  have BK304 := n0_
  have BK305 := n1_
  have HB := n2_
  clear n0_ n1_ n2_
  refine start_ (n := 8) (S := fun w' => w'.cell? ⟨gb304, 0, none⟩ = some (.slice A0_0 l0_0.length c0_0) ∧ w'.cell? ⟨gb304, 1, none⟩ = some (.slice A0_1 l0_1.length c0_1)) (ds := []) #[false, false, false, false, false, false, false, false] (by kernel_rfl) rfl rfl ⟨(blk_cell BK304.out 0).trans rfl, (blk_cell BK304.out 1).trans rfl⟩ (fun hHeld => ?_); refine with_tabW impl_copyLedger.tab1 impl_copyLedger.bits1 (fun HT_ HW_ => ?_)
  generalize w5.drew = w6 at BK304 BK305 HB hHeld ⊢
  refine pure_ (i := 0) (N := some 3) (v := ?_) (a' := ?_) #[true, false, false, false, false, false, false, false] rfl rfl (any_of HT_.out (by kernel_rfl)) (fun _ _ _ h => h) (Or.inl ⟨by rfl, ?_⟩) ?_ ?_
  rotate_left
  · intro w'
    go_simp
    with_reducible rfl
  rotate_left
  · simp only [Act.put, List.setIfInBounds_toArray, List.set_cons_zero, List.set_cons_succ, i64_w, i32_w]
    rfl
  refine pure_ (i := 3) (N := some 6) (v := ?_) (a' := ?_) #[true, false, false, true, false, false, false, false] rfl rfl (any_of HT_.out (by kernel_rfl)) (fun _ _ _ h => h) (Or.inl ⟨by rfl, ?_⟩) ?_ ?_
  rotate_left
  · intro w'
    go_simp
    with_reducible rfl
  rotate_left
  · simp only [Act.put, List.setIfInBounds_toArray, List.set_cons_zero, List.set_cons_succ, i64_w, i32_w]
    rfl
  refine take_ (i := 1) (N := some 4) (v := ?_) (a' := ?_) #[true, true, false, true, false, false, false, false] rfl rfl (take_ofW HT_.out HW_.out (by kernel_rfl)) (fun _ _ _ h => h) (Or.inl ⟨by rfl, ?_⟩) hHeld ?_ ?_
  rotate_left
  · rintro w' ⟨s0, s1⟩
    go_simp
    with_reducible rfl
  rotate_left
  · simp only [Act.put, List.setIfInBounds_toArray, List.set_cons_zero, List.set_cons_succ, i64_w, i32_w]
    rfl
  refine take_ (i := 4) (N := some 7) (v := ?_) (a' := ?_) #[true, true, false, true, true, false, false, false] rfl rfl (take_ofW HT_.out HW_.out (by kernel_rfl)) (fun _ _ _ h => h) (Or.inl ⟨by rfl, ?_⟩) hHeld ?_ ?_
  rotate_left
  · rintro w' ⟨s0, s1⟩
    go_simp
    with_reducible rfl
  rotate_left
  · simp only [Act.put, List.setIfInBounds_toArray, List.set_cons_zero, List.set_cons_succ, i64_w, i32_w]
    rfl
  refine one_ (i := 2) (N := some 5) #[true, true, true, true, true, false, false, false] rfl rfl (one_of HT_.out (by kernel_rfl)) (by decide) (fun K hK => ?_)
  refine goes_ Try.func76 (by kernel_rfl) rfl #[.slice A0_0 l0_0.length c0_0] (by rfl) rfl rfl (by (try simp only [List.map_toArray, List.map_cons, List.map_nil]); first | done | rfl | (simp only [List.length_drop, List.length_take]; rfl)) ?_
  with_reducible refine (impl_copyInts.calls _ _ l0_0 t306 _ ?side1 ?side2 A2.out).mono ?_
  (case side1 => repeat (first | exact (Kd.C_below HR0_0.out HB.out) | (with_reducible refine Kd.C_alloc ?_ _) | (with_reducible refine Kd.C_drewN ?_ _) | (with_reducible refine Kd.C_drew ?_)))
  (case side2 => exact HC0_0.out)
  rintro e w7 ⟨v307, rfl, ho0, hb⟩
  refine ⟨_, rfl, ?_⟩
  have n0_ := Aside0.mk (Kd.R_lower ho0 (below_size (by repeat (first | (with_reducible first | exact HB.out | apply below_alloc | apply pw_below_drewN | apply below_drew1 | refine below_set ?_ GE304.out | refine below_set ?_ GE305.out) | exact HB.out))))
  have n1_ := Aside0.mk (blk_below (g := gb304) (o := .cells #[.slice A0_0 l0_0.length c0_0, .slice A0_1 l0_1.length c0_1] 27 (0, 0)) (by (with_reducible repeat (first | refine blk_drewN ?_ _ | refine blk_drew ?_ | refine blk_alloc ?_ _)); exact BK304.out) hb)
  have n2_ := Aside0.mk (blk_below (g := gb305) (o := .cells #[.slice none 0 0, .slice none 0 0] 27 (0, 0)) (by (with_reducible repeat (first | refine blk_drewN ?_ _ | refine blk_drew ?_ | refine blk_alloc ?_ _)); exact BK305.out) hb)
  have n3_ := Aside0.mk (below_step (by repeat (first | (with_reducible first | exact HB.out | apply below_alloc | apply pw_below_drewN | apply below_drew1 | refine below_set ?_ GE304.out | refine below_set ?_ GE305.out) | exact HB.out)) hb)
  clear BK304
  clear BK305
  clear HB
  have HO308 := n0_
  have BK304 := n1_
  have BK305 := n2_
  have HB := n3_
  clear n0_ n1_ n2_ n3_
  (try clear hb)
  (try clear hb2)
  (try clear hk)
  (try clear hi)
  (try clear ho0)
  refine hK.out _ _ ⟨(blk_cell BK304.out 0).trans rfl, (blk_cell BK304.out 1).trans rfl⟩ (fun hHeld => ?_)
  clear hK K
  refine norm_ (a' := ?_) ?_ ?_
  rotate_left
  · show Act.put _ (some 5) _ = _
    simp only [Act.put, List.setIfInBounds_toArray, List.set_cons_zero, List.set_cons_succ, i64_w, i32_w]
    rfl
  refine one_ (i := 5) (N := some 8) #[true, true, true, true, true, true, false, false] rfl rfl (one_of HT_.out (by kernel_rfl)) (by decide) (fun K hK => ?_)
  refine goes_ Try.func76 (by kernel_rfl) rfl #[.slice A0_1 l0_1.length c0_1] (by rfl) rfl rfl (by (try simp only [List.map_toArray, List.map_cons, List.map_nil]); first | done | rfl | (simp only [List.length_drop, List.length_take]; rfl)) ?_
  with_reducible refine (impl_copyInts.calls _ _ l0_1 t309 _ ?side1 ?side2 A3.out).mono ?_
  (case side1 => repeat (first | exact (Kd.C_below HR0_1.out HB.out) | (with_reducible refine Kd.C_alloc ?_ _) | (with_reducible refine Kd.C_drewN ?_ _) | (with_reducible refine Kd.C_drew ?_)))
  (case side2 => exact HC0_1.out)
  rintro e w8 ⟨v310, rfl, ho0, hb⟩
  refine ⟨_, rfl, ?_⟩
  have n0_ := Aside0.mk (Kd.R_elder' (by (with_reducible repeat (first | apply Kd.R_alloc | apply Kd.R_drewN | apply Kd.R_drew)); exact HO308.out) (Kd.R_base ho0) hb)
  have n1_ := Aside0.mk (Kd.R_lower (Kd.R_new' ho0 (Kd.R_lt (by (with_reducible repeat (first | apply Kd.R_alloc | apply Kd.R_drewN | apply Kd.R_drew)); exact HO308.out))) (below_size (by repeat (first | (with_reducible first | exact HB.out | apply below_alloc | apply pw_below_drewN | apply below_drew1 | refine below_set ?_ GE304.out | refine below_set ?_ GE305.out) | exact HB.out))))
  have n2_ := Aside0.mk (blk_below (g := gb304) (o := .cells #[.slice A0_0 l0_0.length c0_0, .slice A0_1 l0_1.length c0_1] 27 (0, 0)) (by (with_reducible repeat (first | refine blk_drewN ?_ _ | refine blk_drew ?_ | refine blk_alloc ?_ _)); exact BK304.out) hb)
  have n3_ := Aside0.mk (blk_below (g := gb305) (o := .cells #[.slice none 0 0, .slice none 0 0] 27 (0, 0)) (by (with_reducible repeat (first | refine blk_drewN ?_ _ | refine blk_drew ?_ | refine blk_alloc ?_ _)); exact BK305.out) hb)
  have n4_ := Aside0.mk (below_step (by repeat (first | (with_reducible first | exact HB.out | apply below_alloc | apply pw_below_drewN | apply below_drew1 | refine below_set ?_ GE304.out | refine below_set ?_ GE305.out) | exact HB.out)) hb)
  clear HO308
  clear BK304
  clear BK305
  clear HB
  have HO308 := n0_
  have HO311 := n1_
  have BK304 := n2_
  have BK305 := n3_
  have HB := n4_
  clear n0_ n1_ n2_ n3_ n4_
  (try clear hb)
  (try clear hb2)
  (try clear hk)
  (try clear hi)
  (try clear ho0)
  obtain ⟨Ao9, co9, eo9⟩ := Kd.R_slice HO311.out
  (first | subst eo9 | (injection eo9 with f1_ f2_ f3_; have f4_ := f1_.symm; have f5_ := f3_.symm; clear f1_ f2_ f3_; subst f4_; subst f5_))
  obtain ⟨Ao10, co10, eo10⟩ := Kd.R_slice HO308.out
  (first | subst eo10 | (injection eo10 with f1_ f2_ f3_; have f4_ := f1_.symm; have f5_ := f3_.symm; clear f1_ f2_ f3_; subst f4_; subst f5_))
  refine hK.out _ _ ⟨(blk_cell BK304.out 0).trans rfl, (blk_cell BK304.out 1).trans rfl⟩ (fun hHeld => ?_)
  clear hK K
  refine norm_ (a' := ?_) ?_ ?_
  rotate_left
  · show Act.put _ (some 8) _ = _
    simp only [Act.put, List.setIfInBounds_toArray, List.set_cons_zero, List.set_cons_succ, i64_w, i32_w]
    rfl
  refine pure_ (i := 6) (N := some 9) (v := ?_) (a' := ?_) #[true, true, true, true, true, true, true, false] rfl rfl (any_of HT_.out (by kernel_rfl)) (fun _ _ _ h => h) (Or.inl ⟨by rfl, ?_⟩) ?_ ?_
  rotate_left
  · intro w'
    go_simp
    with_reducible rfl
  rotate_left
  · simp only [Act.put, List.setIfInBounds_toArray, List.set_cons_zero, List.set_cons_succ, i64_w, i32_w]
    rfl
  refine one_ (i := 7) (N := none) #[true, true, true, true, true, true, true, true] rfl rfl (one_of HT_.out (by kernel_rfl)) (by decide) (fun K hK => ?_)
  have hs11 : w8.cell? ⟨gb305, 0, none⟩ = some (.slice none 0 0) := (blk_cell BK305.out 0).trans rfl
  have hfs11 := blk_frozen BK305.out 0
  have hns11_0 := NB304_305.out
  have hms11_0 := NB305_304.out
  have hs12 : w8.cell? ⟨gb305, 1, none⟩ = some (.slice none 0 0) := (blk_cell BK305.out 1).trans rfl
  have hfs12 := blk_frozen BK305.out 1
  have hns12_0 := NB304_305.out
  have hms12_0 := NB305_304.out
  refine skip_ (w1 := ?_) (by rfl) rfl ?_ ?_
  rotate_left
  · go_simp
    rfl
  refine hK.out _ _ ⟨((cell_far (p := ⟨gb305, _, none⟩) NB304_305.out _).trans (((cell_far (p := ⟨gb305, _, none⟩) NB304_305.out _).trans (hHeld.1)))), ((cell_far (p := ⟨gb305, _, none⟩) NB304_305.out _).trans (((cell_far (p := ⟨gb305, _, none⟩) NB304_305.out _).trans (hHeld.2))))⟩ (fun hHeld => ?_)
  clear hK K
  refine done_ (done_of HT_.out (by kernel_rfl)) ?_
  try go_wp2
  refine bodyPost_ret (results_cell_row rfl _ _ gb305 27 #[.slice Ao10 t306.length co10, .slice Ao9 t309.length co9] (0, 0) _ rfl (by (with_reducible repeat (first | refine blk_drewN ?_ _ | refine blk_drew ?_ | refine blk_alloc ?_ _)); refine blk_put (cs := #[.slice Ao10 t306.length co10, .slice none 0 0]) ?_ 1 _ rfl; (with_reducible repeat (first | refine blk_drewN ?_ _ | refine blk_drew ?_ | refine blk_alloc ?_ _)); refine blk_put (cs := #[.slice none 0 0, .slice none 0 0]) ?_ 0 _ rfl; (with_reducible repeat (first | refine blk_drewN ?_ _ | refine blk_drew ?_ | refine blk_alloc ?_ _)); exact BK305.out) Try.underlying27 rfl (by kernel_rfl)) rfl ?_
  exact ⟨_, _, by first | rfl | (simp [errW_none, errW_some] <;> rfl) | (simp [*, errW_none, errW_some] <;> rfl), by (with_reducible repeat (first | apply Kd.R_alloc | apply Kd.R_drewN | apply Kd.R_drew)); exact Kd.R_mono (Kd.R_far (p := ⟨gb305, 1, none⟩) (Kd.R_far (p := ⟨gb305, 0, none⟩) (Kd.R_types HO308.out BK305.out (by decide)) (fun _ hk => hk.2) (.slice Ao10 t306.length co10)) (fun _ hk => hk.2) (.slice Ao9 t309.length co9)) (fun _ hk => hk.1.2), by (with_reducible repeat (first | apply Kd.R_alloc | apply Kd.R_drewN | apply Kd.R_drew)); exact Kd.R_mono (Kd.R_far (p := ⟨gb305, 1, none⟩) (Kd.R_far (p := ⟨gb305, 0, none⟩) (Kd.R_types HO311.out BK305.out (by decide)) (fun _ hk => hk.2) (.slice Ao10 t306.length co10)) (fun _ hk => hk.2) (.slice Ao9 t309.length co9)) (fun _ hk => hk.1.2), by repeat (first | (with_reducible first | exact HB.out | apply below_alloc | apply pw_below_drewN | apply below_drew1 | refine below_set ?_ GE304.out | refine below_set ?_ GE305.out) | exact HB.out)⟩

/-! ### impl_TxOk: function 58 -/
def impl_TxOk.f (a0_0 : Int) (a0_1 : Int) (a0_2 : Int) (a0_3 : Int) : Option (Bool) := (impl_within.f a0_0 0 3).bind fun t313 => (if t313 = true then ((impl_within.f a0_1 0 3).bind fun t314 => (if t314 = true then ((impl_within.f a0_2 0 1000).bind fun t315 => (if t315 = true then ((impl_within.f a0_3 0 99).bind fun t316 => (some t316)) else (some false))) else (some false))) else (some false))
set_option maxHeartbeats 8000000 in
set_option maxRecDepth 100000 in
theorem impl_TxOk.calls (a0_0 : Int) (a0_1 : Int) (a0_2 : Int) (a0_3 : Int) (r : Bool) (w : World) (h : impl_TxOk.f a0_0 a0_1 a0_2 a0_3 = some r) :
    Calls Try.prog 58 #[.agg #[.int .i64 a0_0, .int .i64 a0_1, .int .i64 a0_2, .int .i64 a0_3]] w fun e w' => e = .returned (.bool r) ∧ Below w.heap.size w w' := by
  have hu45 := Try.underlying45
  have HB := Aside0.mk (Below.refl w.heap.size w)
  have H : ((impl_within.f a0_0 0 3).bind fun t313 => (if t313 = true then ((impl_within.f a0_1 0 3).bind fun t314 => (if t314 = true then ((impl_within.f a0_2 0 1000).bind fun t315 => (if t315 = true then ((impl_within.f a0_3 0 99).bind fun t316 => (some t316)) else (some false))) else (some false))) else (some false))) = some r := h
  clear h
  replace H := Option.bind_eq_some_iff.mp H
  obtain ⟨t313, A20, H⟩ := H
  replace H : (if t313 = true then ((impl_within.f a0_1 0 3).bind fun t314 => (if t314 = true then ((impl_within.f a0_2 0 1000).bind fun t315 => (if t315 = true then ((impl_within.f a0_3 0 99).bind fun t316 => (some t316)) else (some false))) else (some false))) else (some false)) = some r := H
  have A2 := Aside0.mk A20
  clear A20
  by_cases c3 : t313 = true
  · subst c3
    have H1 : ((impl_within.f a0_1 0 3).bind fun t314 => (if t314 = true then ((impl_within.f a0_2 0 1000).bind fun t315 => (if t315 = true then ((impl_within.f a0_3 0 99).bind fun t316 => (some t316)) else (some false))) else (some false))) = some r := by rw [if_pos rfl] at H; exact H
    clear H
    have H := H1
    clear H1
    replace H := Option.bind_eq_some_iff.mp H
    obtain ⟨t314, A40, H⟩ := H
    replace H : (if t314 = true then ((impl_within.f a0_2 0 1000).bind fun t315 => (if t315 = true then ((impl_within.f a0_3 0 99).bind fun t316 => (some t316)) else (some false))) else (some false)) = some r := H
    have A4 := Aside0.mk A40
    clear A40
    by_cases c5 : t314 = true
    · subst c5
      have H1 : ((impl_within.f a0_2 0 1000).bind fun t315 => (if t315 = true then ((impl_within.f a0_3 0 99).bind fun t316 => (some t316)) else (some false))) = some r := by rw [if_pos rfl] at H; exact H
      clear H
      have H := H1
      clear H1
      replace H := Option.bind_eq_some_iff.mp H
      obtain ⟨t315, A60, H⟩ := H
      replace H : (if t315 = true then ((impl_within.f a0_3 0 99).bind fun t316 => (some t316)) else (some false)) = some r := H
      have A6 := Aside0.mk A60
      clear A60
      by_cases c7 : t315 = true
      · subst c7
        have H1 : ((impl_within.f a0_3 0 99).bind fun t316 => (some t316)) = some r := by rw [if_pos rfl] at H; exact H
        clear H
        have H := H1
        clear H1
        replace H := Option.bind_eq_some_iff.mp H
        obtain ⟨t316, A80, H⟩ := H
        replace H : (some t316) = some r := H
        have A8 := Aside0.mk A80
        clear A80
        obtain rfl := Option.some.inj H
        go_enter Try.func58, Try.ntmps58
        go_wp2_with (first | ((with_reducible refine gate_dst (N := 1) rfl ?_); refine box_event ?hg (N := 1) ?hd (cs := #[.int .i64 a0_0, .int .i64 a0_1, .int .i64 a0_2, .int .i64 a0_3]) (t := 45) ?hr ?_; (case hd => rfl); (case hg => rfl); (case hr => first | (go_simp; done) | (go_simp; rfl)); intro gb312 hg w9 hbox hb; have n0_ := Aside0.mk (below_step (by repeat (first | (with_reducible first | exact HB.out | apply below_alloc | apply pw_below_drewN | apply below_drew1) | exact HB.out)) hb); have n1_ := Aside0.mk (hbox); have n2_ := Aside0.mk ((by rw [hg]; exact (below_size (by repeat (first | (with_reducible first | exact HB.out | apply below_alloc | apply pw_below_drewN | apply below_drew1) | exact HB.out))) : w.heap.size ≤ gb312)); have n3_ := Aside0.mk ((by rw [hg]; exact (below_size (by repeat (first | (with_reducible first | exact HB.out | apply below_alloc | apply pw_below_drewN | apply below_drew1) | exact HB.out))) : w.heap.size ≤ gb312)); clear HB; have HB := n0_; have BK312 := n1_; have GW312 := n2_; have GE312 := n3_; clear n0_ n1_ n2_ n3_; clear hb hbox hg; have hcz10_0 : w9.cell? ⟨gb312, 0, none⟩ = some (.int .i64 a0_0) := (blk_cell BK312.out 0).trans rfl; have hcz10_1 : w9.cell? ⟨gb312, 1, none⟩ = some (.int .i64 a0_1) := (blk_cell BK312.out 1).trans rfl; have hcz10_2 : w9.cell? ⟨gb312, 2, none⟩ = some (.int .i64 a0_2) := (blk_cell BK312.out 2).trans rfl; have hcz10_3 : w9.cell? ⟨gb312, 3, none⟩ = some (.int .i64 a0_3) := (blk_cell BK312.out 3).trans rfl; have hfz10_0 := blk_frozen BK312.out 0; have hfz10_1 := blk_frozen BK312.out 1; have hfz10_2 := blk_frozen BK312.out 2; have hfz10_3 := blk_frozen BK312.out 3) | ((with_reducible refine gate_callee (f := 71) rfl ?_); refine goesL_ (some 5) rfl rfl Try.func71 (by kernel_rfl) rfl #[.int .i64 a0_0, .int .i64 0, .int .i64 3] rfl (by (try simp only [List.map_toArray, List.map_cons, List.map_nil]); first | done | rfl | (simp only [List.length_drop, List.length_take]; rfl)) ?_; (with_reducible refine (impl_within.calls a0_0 0 3 true _ A2.out).mono ?_); rintro e w' ⟨rfl, ⟨nd, rfl⟩⟩; refine ⟨_, rfl, ?_⟩) | (go_at_call 71; (with_reducible refine (impl_within.calls a0_1 0 3 true _ A4.out).mono ?_); rintro e w' ⟨rfl, ⟨nd, rfl⟩⟩) | (go_at_call 71; (with_reducible refine (impl_within.calls a0_2 0 1000 true _ A6.out).mono ?_); rintro e w' ⟨rfl, ⟨nd, rfl⟩⟩) | (go_at_call 71; (with_reducible refine (impl_within.calls a0_3 0 99 t316 _ A8.out).mono ?_); rintro e w' ⟨rfl, ⟨nd, rfl⟩⟩))
        go_ret
        exact ⟨by first | rfl | (simp [errW_none, errW_some] <;> rfl) | (simp [*, errW_none, errW_some] <;> rfl), by repeat (first | (with_reducible first | exact HB.out | apply below_alloc | apply pw_below_drewN | apply below_drew1 | refine below_set ?_ GE312.out) | exact HB.out)⟩
      · replace c7 := Bool.eq_false_iff.mpr c7
        subst c7
        have H1 : (some false) = some r := by rw [if_neg (show ¬ (false = true) by decide)] at H; exact H
        clear H
        have H := H1
        clear H1
        obtain rfl := Option.some.inj H
        go_enter Try.func58, Try.ntmps58
        go_wp2_with (first | ((with_reducible refine gate_dst (N := 1) rfl ?_); refine box_event ?hg (N := 1) ?hd (cs := #[.int .i64 a0_0, .int .i64 a0_1, .int .i64 a0_2, .int .i64 a0_3]) (t := 45) ?hr ?_; (case hd => rfl); (case hg => rfl); (case hr => first | (go_simp; done) | (go_simp; rfl)); intro gb312 hg w11 hbox hb; have n0_ := Aside0.mk (below_step (by repeat (first | (with_reducible first | exact HB.out | apply below_alloc | apply pw_below_drewN | apply below_drew1) | exact HB.out)) hb); have n1_ := Aside0.mk (hbox); have n2_ := Aside0.mk ((by rw [hg]; exact (below_size (by repeat (first | (with_reducible first | exact HB.out | apply below_alloc | apply pw_below_drewN | apply below_drew1) | exact HB.out))) : w.heap.size ≤ gb312)); have n3_ := Aside0.mk ((by rw [hg]; exact (below_size (by repeat (first | (with_reducible first | exact HB.out | apply below_alloc | apply pw_below_drewN | apply below_drew1) | exact HB.out))) : w.heap.size ≤ gb312)); clear HB; have HB := n0_; have BK312 := n1_; have GW312 := n2_; have GE312 := n3_; clear n0_ n1_ n2_ n3_; clear hb hbox hg; have hcz12_0 : w11.cell? ⟨gb312, 0, none⟩ = some (.int .i64 a0_0) := (blk_cell BK312.out 0).trans rfl; have hcz12_1 : w11.cell? ⟨gb312, 1, none⟩ = some (.int .i64 a0_1) := (blk_cell BK312.out 1).trans rfl; have hcz12_2 : w11.cell? ⟨gb312, 2, none⟩ = some (.int .i64 a0_2) := (blk_cell BK312.out 2).trans rfl; have hcz12_3 : w11.cell? ⟨gb312, 3, none⟩ = some (.int .i64 a0_3) := (blk_cell BK312.out 3).trans rfl; have hfz12_0 := blk_frozen BK312.out 0; have hfz12_1 := blk_frozen BK312.out 1; have hfz12_2 := blk_frozen BK312.out 2; have hfz12_3 := blk_frozen BK312.out 3) | ((with_reducible refine gate_callee (f := 71) rfl ?_); refine goesL_ (some 5) rfl rfl Try.func71 (by kernel_rfl) rfl #[.int .i64 a0_0, .int .i64 0, .int .i64 3] rfl (by (try simp only [List.map_toArray, List.map_cons, List.map_nil]); first | done | rfl | (simp only [List.length_drop, List.length_take]; rfl)) ?_; (with_reducible refine (impl_within.calls a0_0 0 3 true _ A2.out).mono ?_); rintro e w' ⟨rfl, ⟨nd, rfl⟩⟩; refine ⟨_, rfl, ?_⟩) | (go_at_call 71; (with_reducible refine (impl_within.calls a0_1 0 3 true _ A4.out).mono ?_); rintro e w' ⟨rfl, ⟨nd, rfl⟩⟩) | (go_at_call 71; (with_reducible refine (impl_within.calls a0_2 0 1000 false _ A6.out).mono ?_); rintro e w' ⟨rfl, ⟨nd, rfl⟩⟩))
        go_ret
        exact ⟨by first | rfl | (simp [errW_none, errW_some] <;> rfl) | (simp [*, errW_none, errW_some] <;> rfl), by repeat (first | (with_reducible first | exact HB.out | apply below_alloc | apply pw_below_drewN | apply below_drew1 | refine below_set ?_ GE312.out) | exact HB.out)⟩
    · replace c5 := Bool.eq_false_iff.mpr c5
      subst c5
      have H1 : (some false) = some r := by rw [if_neg (show ¬ (false = true) by decide)] at H; exact H
      clear H
      have H := H1
      clear H1
      obtain rfl := Option.some.inj H
      go_enter Try.func58, Try.ntmps58
      go_wp2_with (first | ((with_reducible refine gate_dst (N := 1) rfl ?_); refine box_event ?hg (N := 1) ?hd (cs := #[.int .i64 a0_0, .int .i64 a0_1, .int .i64 a0_2, .int .i64 a0_3]) (t := 45) ?hr ?_; (case hd => rfl); (case hg => rfl); (case hr => first | (go_simp; done) | (go_simp; rfl)); intro gb312 hg w13 hbox hb; have n0_ := Aside0.mk (below_step (by repeat (first | (with_reducible first | exact HB.out | apply below_alloc | apply pw_below_drewN | apply below_drew1) | exact HB.out)) hb); have n1_ := Aside0.mk (hbox); have n2_ := Aside0.mk ((by rw [hg]; exact (below_size (by repeat (first | (with_reducible first | exact HB.out | apply below_alloc | apply pw_below_drewN | apply below_drew1) | exact HB.out))) : w.heap.size ≤ gb312)); have n3_ := Aside0.mk ((by rw [hg]; exact (below_size (by repeat (first | (with_reducible first | exact HB.out | apply below_alloc | apply pw_below_drewN | apply below_drew1) | exact HB.out))) : w.heap.size ≤ gb312)); clear HB; have HB := n0_; have BK312 := n1_; have GW312 := n2_; have GE312 := n3_; clear n0_ n1_ n2_ n3_; clear hb hbox hg; have hcz14_0 : w13.cell? ⟨gb312, 0, none⟩ = some (.int .i64 a0_0) := (blk_cell BK312.out 0).trans rfl; have hcz14_1 : w13.cell? ⟨gb312, 1, none⟩ = some (.int .i64 a0_1) := (blk_cell BK312.out 1).trans rfl; have hcz14_2 : w13.cell? ⟨gb312, 2, none⟩ = some (.int .i64 a0_2) := (blk_cell BK312.out 2).trans rfl; have hcz14_3 : w13.cell? ⟨gb312, 3, none⟩ = some (.int .i64 a0_3) := (blk_cell BK312.out 3).trans rfl; have hfz14_0 := blk_frozen BK312.out 0; have hfz14_1 := blk_frozen BK312.out 1; have hfz14_2 := blk_frozen BK312.out 2; have hfz14_3 := blk_frozen BK312.out 3) | ((with_reducible refine gate_callee (f := 71) rfl ?_); refine goesL_ (some 5) rfl rfl Try.func71 (by kernel_rfl) rfl #[.int .i64 a0_0, .int .i64 0, .int .i64 3] rfl (by (try simp only [List.map_toArray, List.map_cons, List.map_nil]); first | done | rfl | (simp only [List.length_drop, List.length_take]; rfl)) ?_; (with_reducible refine (impl_within.calls a0_0 0 3 true _ A2.out).mono ?_); rintro e w' ⟨rfl, ⟨nd, rfl⟩⟩; refine ⟨_, rfl, ?_⟩) | (go_at_call 71; (with_reducible refine (impl_within.calls a0_1 0 3 false _ A4.out).mono ?_); rintro e w' ⟨rfl, ⟨nd, rfl⟩⟩))
      go_ret
      exact ⟨by first | rfl | (simp [errW_none, errW_some] <;> rfl) | (simp [*, errW_none, errW_some] <;> rfl), by repeat (first | (with_reducible first | exact HB.out | apply below_alloc | apply pw_below_drewN | apply below_drew1 | refine below_set ?_ GE312.out) | exact HB.out)⟩
  · replace c3 := Bool.eq_false_iff.mpr c3
    subst c3
    have H1 : (some false) = some r := by rw [if_neg (show ¬ (false = true) by decide)] at H; exact H
    clear H
    have H := H1
    clear H1
    obtain rfl := Option.some.inj H
    go_enter Try.func58, Try.ntmps58
    go_wp2_with (first | ((with_reducible refine gate_dst (N := 1) rfl ?_); refine box_event ?hg (N := 1) ?hd (cs := #[.int .i64 a0_0, .int .i64 a0_1, .int .i64 a0_2, .int .i64 a0_3]) (t := 45) ?hr ?_; (case hd => rfl); (case hg => rfl); (case hr => first | (go_simp; done) | (go_simp; rfl)); intro gb312 hg w15 hbox hb; have n0_ := Aside0.mk (below_step (by repeat (first | (with_reducible first | exact HB.out | apply below_alloc | apply pw_below_drewN | apply below_drew1) | exact HB.out)) hb); have n1_ := Aside0.mk (hbox); have n2_ := Aside0.mk ((by rw [hg]; exact (below_size (by repeat (first | (with_reducible first | exact HB.out | apply below_alloc | apply pw_below_drewN | apply below_drew1) | exact HB.out))) : w.heap.size ≤ gb312)); have n3_ := Aside0.mk ((by rw [hg]; exact (below_size (by repeat (first | (with_reducible first | exact HB.out | apply below_alloc | apply pw_below_drewN | apply below_drew1) | exact HB.out))) : w.heap.size ≤ gb312)); clear HB; have HB := n0_; have BK312 := n1_; have GW312 := n2_; have GE312 := n3_; clear n0_ n1_ n2_ n3_; clear hb hbox hg; have hcz16_0 : w15.cell? ⟨gb312, 0, none⟩ = some (.int .i64 a0_0) := (blk_cell BK312.out 0).trans rfl; have hcz16_1 : w15.cell? ⟨gb312, 1, none⟩ = some (.int .i64 a0_1) := (blk_cell BK312.out 1).trans rfl; have hcz16_2 : w15.cell? ⟨gb312, 2, none⟩ = some (.int .i64 a0_2) := (blk_cell BK312.out 2).trans rfl; have hcz16_3 : w15.cell? ⟨gb312, 3, none⟩ = some (.int .i64 a0_3) := (blk_cell BK312.out 3).trans rfl; have hfz16_0 := blk_frozen BK312.out 0; have hfz16_1 := blk_frozen BK312.out 1; have hfz16_2 := blk_frozen BK312.out 2; have hfz16_3 := blk_frozen BK312.out 3) | ((with_reducible refine gate_callee (f := 71) rfl ?_); refine goesL_ (some 5) rfl rfl Try.func71 (by kernel_rfl) rfl #[.int .i64 a0_0, .int .i64 0, .int .i64 3] rfl (by (try simp only [List.map_toArray, List.map_cons, List.map_nil]); first | done | rfl | (simp only [List.length_drop, List.length_take]; rfl)) ?_; (with_reducible refine (impl_within.calls a0_0 0 3 false _ A2.out).mono ?_); rintro e w' ⟨rfl, ⟨nd, rfl⟩⟩; refine ⟨_, rfl, ?_⟩))
    go_ret
    exact ⟨by first | rfl | (simp [errW_none, errW_some] <;> rfl) | (simp [*, errW_none, errW_some] <;> rfl), by repeat (first | (with_reducible first | exact HB.out | apply below_alloc | apply pw_below_drewN | apply below_drew1 | refine below_set ?_ GE312.out) | exact HB.out)⟩

/-! ### impl_Pay: function 33 -/
-- included impl_within.lean
theorem impl_within_val (a b c : Int) : impl_within.f a b c = some (decide (b ≤ a ∧ a ≤ c)) := by
  unfold impl_within.f
  by_cases h : a ≥ b <;> by_cases h2 : a ≤ c <;> simp [h, h2] <;> omega
-- included impl_allWithin.lean
theorem allWithin_loop (l : List Int) (lo hi : Int) (hl : l.length ≤ 35184372088832) : ∀ (d i : Nat), l.length - i = d → i ≤ l.length → Ev (fun k => impl_allWithin.l0 k lo hi l (l.length : Int) (i : Int)) (decide (∀ x ∈ l.drop i, lo ≤ x ∧ x ≤ hi)) := by
  intro d
  induction d with
  | zero =>
    intro i hd hi'
    refine Ev.step (f := fun _ => some true) (fun k => by simp only [impl_allWithin.l0]; rw [if_neg (by omega)]) (ev_some ?_)
    rw [List.drop_of_length_le (by omega)]; simp
  | succ d ih =>
    intro i hd hi'
    have h1 : i < l.length := by omega
    refine Ev.step (f := fun k => (impl_within.f l[i] lo hi).bind fun t => if t = true then impl_allWithin.l0 k lo hi l (l.length : Int) ((i + 1 : Nat) : Int) else some false) (fun k => by simp only [impl_allWithin.l0]; rw [if_pos (by omega), if_pos (by omega), if_pos (by omega), rd_nat l i h1, up1 i (by omega)]) ?_
    refine ev_const (impl_within_val _ _ _) ?_
    by_cases c1 : lo ≤ l[i] ∧ l[i] ≤ hi
    · exact ev_pos (by simpa using c1) (ev_eq (ih (i + 1) (by omega) (by omega)) (decide_eq_decide.mpr (by rw [all_drop h1]; exact ⟨fun z => ⟨c1, z⟩, fun z => z.2⟩)))
    · exact ev_neg (by simpa using c1) (ev_some (decide_eq_false (by rw [all_drop h1]; exact fun z => c1 z.1)).symm)
theorem allWithin_ev (l : List Int) (lo hi : Int) (hl : l.length ≤ 35184372088832) : Ev (fun k => impl_allWithin.f k l lo hi) (decide (∀ x ∈ l, lo ≤ x ∧ x ≤ hi)) := by
  unfold impl_allWithin.f
  exact allWithin_loop l lo hi hl l.length 0 (by omega) (by omega)
-- included impl_copyInts.lean
theorem impl_copyInts_val (h : List Int) (b1 : h.length ≤ 1048576) : impl_copyInts.f h = some h := by
  unfold impl_copyInts.f
  rw [List.length_nil, if_pos (by omega), List.nil_append]
-- included impl_copyLedger.lean
theorem impl_copyLedger_val (h n : List Int) (b1 : h.length ≤ 1048576) (b2 : n.length ≤ 1048576) : impl_copyLedger.f h n = some (h, n) := by
  unfold impl_copyLedger.f
  rw [impl_copyInts_val h b1, Option.bind_some, impl_copyInts_val n b2, Option.bind_some]
-- included impl_LedgerOk.lean
theorem impl_LedgerOk_ev (h n : List Int) : Ev (fun k => impl_LedgerOk.f k h n) (decide (ledgerIs h n)) := by
  unfold impl_LedgerOk.f ledgerIs
  by_cases hh : h.length = 4
  · refine ev_pos (by omega) ?_
    by_cases hn : n.length = 4
    · refine ev_pos (by omega) (Ev.bind (allWithin_ev h 0 400 (by omega)) ?_)
      by_cases c : ∀ x ∈ h, 0 ≤ x ∧ x ≤ 400
      · exact ev_pos (decide_eq_true c) (Ev.bind (allWithin_ev n 0 100 (by omega)) (ev_some (decide_eq_decide.mpr ⟨fun z => ⟨⟨hh, hn⟩, c, z⟩, fun z => z.2.2⟩)))
      · exact ev_neg (by simpa using c) (ev_some (decide_eq_false (fun z => c z.2.1)).symm)
    · exact ev_neg (by omega) (ev_some (decide_eq_false (fun z => hn z.1.2)).symm)
  · exact ev_neg (by omega) (ev_some (decide_eq_false (fun z => hh z.1.1)).symm)
-- included impl_TxOk.lean
theorem impl_TxOk_val (f t a n : Int) : impl_TxOk.f f t a n = some (decide (txIs f t a n)) := by
  unfold impl_TxOk.f txIs
  simp only [impl_within_val, Option.bind_some, decide_eq_true_eq]
  by_cases h1 : 0 ≤ f ∧ f ≤ 3 <;> by_cases h2 : 0 ≤ t ∧ t ≤ 3 <;> by_cases h3 : 0 ≤ a ∧ a ≤ 1000 <;> simp only [h1, h2, h3, if_true, if_false, true_and, false_and, and_false, and_self, decide_false]
theorem impl_Pay.lok (k : Nat) (A0 : Option Addr) (c0 : Nat) (l0 : List Int) (n0 : Nat) (A1 : Option Addr) (c1 : Nat) (l1 : List Int) (n1 : Nat) (r : Bool) (w : World) (e0 : n0 = l0.length) (e1 : n1 = l1.length) (hr0 : Kd.C (Kd.int .i64) w A0 l0.length l0) (hc0 : l0.length ≤ c0) (hr1 : Kd.C (Kd.int .i64) w A1 l1.length l1) (hc1 : l1.length ≤ c1) (h : impl_LedgerOk.f k l0 l1 = some r) :
    Calls Try.prog 25 #[.agg #[.slice A0 n0 c0, .slice A1 n1 c1]] w fun e w' => e = .returned (.bool r) ∧ Below w.heap.size w w' := by
  subst e0
  subst e1
  exact impl_LedgerOk.calls _ _ _ _ _ _ _ _ _ hr0 hc0 hr1 hc1 h
open Go.Proofs.YtajblkfgdalldaaH in
set_option maxHeartbeats 4000000 in
set_option maxRecDepth 100000 in
theorem impl_Pay.bad (k : Nat) (A0_0 : Option Addr) (c0_0 : Nat) (l0_0 : List Int) (A0_1 : Option Addr) (c0_1 : Nat) (l0_1 : List Int) (a1_0 a1_1 a1_2 a1_3 : Int) (b0 b1 : Bool) (w : World) (hr0 : Aside0 (Kd.C (Kd.int .i64) w A0_0 l0_0.length l0_0)) (hc0 : Aside0 (l0_0.length ≤ c0_0)) (hr1 : Aside0 (Kd.C (Kd.int .i64) w A0_1 l0_1.length l0_1)) (hc1 : Aside0 (l0_1.length ≤ c0_1)) (hcp : Aside0 (impl_copyLedger.f l0_0 l0_1 = some (l0_0, l0_1))) (hk : Aside0 (impl_LedgerOk.f k l0_0 l0_1 = some b0)) (hx : Aside0 (impl_TxOk.f a1_0 a1_1 a1_2 a1_3 = some b1)) (hb : (b0 && b1) = false) :
    Calls Try.prog 33 #[.agg #[.slice A0_0 l0_0.length c0_0, .slice A0_1 l0_1.length c0_1], .agg #[.int .i64 a1_0, .int .i64 a1_1, .int .i64 a1_2, .int .i64 a1_3]] w fun e w' => ∃ v0_ v1_ : Value, e = .returned (.tuple #[.agg #[v0_, v1_], .int .i64 (1)]) ∧ Kd.R (Kd.int .i64) 3 w' w.heap.size (fun k_ => some k_ ≠ (v1_ : Value).ownBlock) v0_ (l0_0) ∧ Kd.R (Kd.int .i64) 3 w' w.heap.size (fun k_ => some k_ ≠ (v0_ : Value).ownBlock) v1_ (l0_1) ∧ Below w.heap.size w w' := by
  have HS := SS.nil w
  rcases b0 with _ | _
  · clear hb
    go_enter Try.func33, Try.ntmps33
    go_wp2_with (first | ((with_reducible refine gate_dst (N := 4) rfl ?_); refine ev_alloc HS rfl rfl ?_; clear HS; intro g4 w1 HS) | ((with_reducible refine gate_dst (N := 6) rfl ?_); refine ev_alloc HS rfl rfl ?_; clear HS; intro g6 w1 HS) | ((with_reducible refine gate_dst (N := 2) rfl ?_); refine ev_box HS (cs := #[.slice A0_0 l0_0.length c0_0, .slice A0_1 l0_1.length c0_1]) rfl rfl rfl ?_; clear HS; intro g2 w1 HS) | ((with_reducible refine gate_dst (N := 3) rfl ?_); refine ev_box HS (cs := #[.int .i64 a1_0, .int .i64 a1_1, .int .i64 a1_2, .int .i64 a1_3]) rfl rfl rfl ?_; clear HS; intro g3 w1 HS) | ((with_reducible refine gate_load rfl ?_); first | refine ev_loadC HS rfl rfl rfl (by rfl) ?_ | refine ev_loadS HS rfl rfl rfl (by rfl) ?_) | ((with_reducible refine gate_put rfl ?_); (first | refine ev_storeC HS rfl rfl rfl rfl rfl (by rfl) (by rfl) ?_ | refine ev_storeS HS rfl rfl rfl rfl rfl (by rfl) (by rfl) (by rfl) ?_); clear HS; intro w1 HS) | (go_at_call 64; refine (impl_copyLedger.calls _ _ _ _ _ _ _ _ _ (Kd.C_below hr0.out HS.below) hc0.out (Kd.C_below hr1.out HS.below) hc1.out hcp.out).mono ?_; rintro e w1 ⟨v0, v1, rfl, ho0, ho1, hb⟩; obtain ⟨Ao0, co0, Ao1, co1, rfl, rfl, HS1⟩ := HS.got2 hb ho0 ho1 (fun _ h => h); clear HS ho0 ho1 hb; have HS := HS1; clear HS1) | (go_at_call 25; refine (impl_LedgerOk.calls _ _ _ _ _ _ _ _ _ (Kd.C_below hr0.out HS.below) hc0.out (Kd.C_below hr1.out HS.below) hc1.out hk.out).mono ?_; rintro e w1 ⟨rfl, hb⟩; have HS1 := HS.later hb; clear HS hb; have HS := HS1; clear HS1) | (go_at_call 58; refine (impl_TxOk.calls _ _ _ _ _ _ hx.out).mono ?_; rintro e w1 ⟨rfl, hb⟩; have HS1 := HS.later hb; clear HS hb; have HS := HS1; clear HS1))
    refine bodyPost_ret (results_ct rfl _ _ g4 27 #[.slice Ao0 l0_0.length co0, .slice Ao1 l0_1.length co1] (0, 0) _ rfl (HS.box g4) Try.underlying27 rfl (by kernel_rfl)) rfl ?_
    exact ⟨_, _, rfl, HS.out2 Ao0 Ao1 (by decide), HS.out2 Ao1 Ao0 (by decide), HS.below⟩
  · obtain rfl : b1 = false := by simpa using hb
    clear hb
    go_enter Try.func33, Try.ntmps33
    go_wp2_with (first | ((with_reducible refine gate_dst (N := 4) rfl ?_); refine ev_alloc HS rfl rfl ?_; clear HS; intro g4 w1 HS) | ((with_reducible refine gate_dst (N := 6) rfl ?_); refine ev_alloc HS rfl rfl ?_; clear HS; intro g6 w1 HS) | ((with_reducible refine gate_dst (N := 2) rfl ?_); refine ev_box HS (cs := #[.slice A0_0 l0_0.length c0_0, .slice A0_1 l0_1.length c0_1]) rfl rfl rfl ?_; clear HS; intro g2 w1 HS) | ((with_reducible refine gate_dst (N := 3) rfl ?_); refine ev_box HS (cs := #[.int .i64 a1_0, .int .i64 a1_1, .int .i64 a1_2, .int .i64 a1_3]) rfl rfl rfl ?_; clear HS; intro g3 w1 HS) | ((with_reducible refine gate_load rfl ?_); first | refine ev_loadC HS rfl rfl rfl (by rfl) ?_ | refine ev_loadS HS rfl rfl rfl (by rfl) ?_) | ((with_reducible refine gate_put rfl ?_); (first | refine ev_storeC HS rfl rfl rfl rfl rfl (by rfl) (by rfl) ?_ | refine ev_storeS HS rfl rfl rfl rfl rfl (by rfl) (by rfl) (by rfl) ?_); clear HS; intro w1 HS) | (go_at_call 64; refine (impl_copyLedger.calls _ _ _ _ _ _ _ _ _ (Kd.C_below hr0.out HS.below) hc0.out (Kd.C_below hr1.out HS.below) hc1.out hcp.out).mono ?_; rintro e w1 ⟨v0, v1, rfl, ho0, ho1, hb⟩; obtain ⟨Ao0, co0, Ao1, co1, rfl, rfl, HS1⟩ := HS.got2 hb ho0 ho1 (fun _ h => h); clear HS ho0 ho1 hb; have HS := HS1; clear HS1) | (go_at_call 25; refine (impl_LedgerOk.calls _ _ _ _ _ _ _ _ _ (Kd.C_below hr0.out HS.below) hc0.out (Kd.C_below hr1.out HS.below) hc1.out hk.out).mono ?_; rintro e w1 ⟨rfl, hb⟩; have HS1 := HS.later hb; clear HS hb; have HS := HS1; clear HS1) | (go_at_call 58; refine (impl_TxOk.calls _ _ _ _ _ _ hx.out).mono ?_; rintro e w1 ⟨rfl, hb⟩; have HS1 := HS.later hb; clear HS hb; have HS := HS1; clear HS1))
    refine bodyPost_ret (results_ct rfl _ _ g4 27 #[.slice Ao0 l0_0.length co0, .slice Ao1 l0_1.length co1] (0, 0) _ rfl (HS.box g4) Try.underlying27 rfl (by kernel_rfl)) rfl ?_
    exact ⟨_, _, rfl, HS.out2 Ao0 Ao1 (by decide), HS.out2 Ao1 Ao0 (by decide), HS.below⟩

open Go.Proofs.YtajblkfgdalldaaH in
set_option maxHeartbeats 4000000 in
set_option maxRecDepth 100000 in
theorem impl_Pay.fine (k k2 : Nat) (ad0 ad1 : Addr) (c0_0 : Nat) (l0_0 : List Int) (c0_1 : Nat) (l0_1 : List Int) (a1_0 a1_1 a1_2 a1_3 : Int) (w : World) (hr0 : Aside0 (Kd.C (Kd.int .i64) w (some ad0) l0_0.length l0_0)) (hc0 : Aside0 (l0_0.length ≤ c0_0)) (hr1 : Aside0 (Kd.C (Kd.int .i64) w (some ad1) l0_1.length l0_1)) (hc1 : Aside0 (l0_1.length ≤ c0_1)) (hcp : Aside0 (impl_copyLedger.f l0_0 l0_1 = some (l0_0, l0_1))) (hk : Aside0 (impl_LedgerOk.f k l0_0 l0_1 = some true)) (hx : Aside0 (impl_TxOk.f a1_0 a1_1 a1_2 a1_3 = some true))
    (hx0 : Aside0 (w.cell? (ad0.add a1_0.toNat) = some (.int .i64 (rd l0_0 a1_0)))) (hx1 : Aside0 (w.cell? (ad1.add a1_0.toNat) = some (.int .i64 (rd l0_1 a1_0)))) (f0 : 0 ≤ a1_0) (f1 : a1_0 < (l0_0.length : Int)) (f2 : a1_0 < (l0_1.length : Int)) (t0 : 0 ≤ a1_1) (t1 : a1_1 < (l0_0.length : Int)) (t1' : a1_1 < ((l0_0.set a1_0.toNat (wrap64 (rd l0_0 a1_0 - a1_2))).length : Int)) (b6 : Bool) (hk2 : Aside0 (impl_LedgerOk.f k2 (mvL l0_0 a1_0 a1_1 a1_2) (l0_1.set a1_0.toNat (wrap64 (a1_3 + 1))) = some b6)) (r1 r2 : List Int) (r3 : Int) (hR : Aside0 (payF b6 l0_0 l0_1 a1_0 a1_1 a1_2 a1_3 = (r1, r2, r3))) :
    Calls Try.prog 33 #[.agg #[.slice (some ad0) l0_0.length c0_0, .slice (some ad1) l0_1.length c0_1], .agg #[.int .i64 a1_0, .int .i64 a1_1, .int .i64 a1_2, .int .i64 a1_3]] w fun e w' => ∃ v0_ v1_ : Value, e = .returned (.tuple #[.agg #[v0_, v1_], .int .i64 (r3)]) ∧ Kd.R (Kd.int .i64) 3 w' w.heap.size (fun k_ => some k_ ≠ (v1_ : Value).ownBlock) v0_ (r1) ∧ Kd.R (Kd.int .i64) 3 w' w.heap.size (fun k_ => some k_ ≠ (v0_ : Value).ownBlock) v1_ (r2) ∧ Below w.heap.size w w' := by
  have HS := SS.nil w
  go_enter Try.func33, Try.ntmps33
  go_upto_region 4 with (first | ((with_reducible refine gate_dst (N := 4) rfl ?_); refine ev_alloc HS rfl rfl ?_; clear HS; intro g4 w1 HS) | ((with_reducible refine gate_dst (N := 6) rfl ?_); refine ev_alloc HS rfl rfl ?_; clear HS; intro g6 w1 HS) | ((with_reducible refine gate_dst (N := 2) rfl ?_); refine ev_box HS (cs := #[.slice (some ad0) l0_0.length c0_0, .slice (some ad1) l0_1.length c0_1]) rfl rfl rfl ?_; clear HS; intro g2 w1 HS) | ((with_reducible refine gate_dst (N := 3) rfl ?_); refine ev_box HS (cs := #[.int .i64 a1_0, .int .i64 a1_1, .int .i64 a1_2, .int .i64 a1_3]) rfl rfl rfl ?_; clear HS; intro g3 w1 HS) | ((with_reducible refine gate_load rfl ?_); first | refine ev_loadC HS rfl rfl rfl (by rfl) ?_ | refine ev_loadS HS rfl rfl rfl (by rfl) ?_) | ((with_reducible refine gate_put rfl ?_); (first | refine ev_storeC HS rfl rfl rfl rfl rfl (by rfl) (by rfl) ?_ | refine ev_storeS HS rfl rfl rfl rfl rfl (by rfl) (by rfl) (by rfl) ?_); clear HS; intro w1 HS) | (go_at_call 64; refine (impl_copyLedger.calls _ _ _ _ _ _ _ _ _ (Kd.C_below hr0.out HS.below) hc0.out (Kd.C_below hr1.out HS.below) hc1.out hcp.out).mono ?_; rintro e w1 ⟨v0, v1, rfl, ho0, ho1, hb⟩; obtain ⟨Ao0, co0, Ao1, co1, rfl, rfl, HS1⟩ := HS.got2 hb ho0 ho1 (fun _ h => h); clear HS ho0 ho1 hb; have HS := HS1; clear HS1) | (go_at_call 25; refine (impl_LedgerOk.calls _ _ _ _ _ _ _ _ _ (Kd.C_below hr0.out HS.below) hc0.out (Kd.C_below hr1.out HS.below) hc1.out hk.out).mono ?_; rintro e w1 ⟨rfl, hb⟩; have HS1 := HS.later hb; clear HS hb; have HS := HS1; clear HS1) | (go_at_call 58; refine (impl_TxOk.calls _ _ _ _ _ _ hx.out).mono ?_; rintro e w1 ⟨rfl, hb⟩; have HS1 := HS.later hb; clear HS hb; have HS := HS1; clear HS1))
  have o1 := (HS.below.cell (World.block_lt_of_cell? w _ hx1.out)).trans hx1.out
  have b2 := fun j => HS.cell g2 j
  have b3 := fun j => HS.cell g3 j
  by_cases c3 : a1_3 < rd l0_1 a1_0
  · have c3b : decide (a1_3 < rd l0_1 a1_0) = true := decide_eq_true c3
    have hp := hR.out; unfold payF at hp; rw [if_pos c3] at hp; simp only [Prod.mk.injEq] at hp; obtain ⟨rfl, rfl, rfl⟩ := hp
    clear c3 hR
    go_quiet (fail)
    rename_i nq
    replace HS := HS.drewN nq
    generalize w1.drewN nq = w1 at HS ⊢
    clear b2 b3 o1
    go_wp2_with (first | ((with_reducible refine gate_load rfl ?_); first | refine ev_loadC HS rfl rfl rfl (by rfl) ?_ | refine ev_loadS HS rfl rfl rfl (by rfl) ?_) | ((with_reducible refine gate_put rfl ?_); (first | refine ev_storeC HS rfl rfl rfl rfl rfl (by rfl) (by rfl) ?_ | refine ev_storeS HS rfl rfl rfl rfl rfl (by rfl) (by rfl) (by rfl) ?_); clear HS; intro w1 HS))
    refine bodyPost_ret (results_ct rfl _ _ g4 27 #[.slice Ao0 l0_0.length co0, .slice Ao1 l0_1.length co1] (0, 0) _ rfl (HS.box g4) Try.underlying27 rfl (by kernel_rfl)) rfl ?_
    exact ⟨_, _, rfl, HS.out2 Ao0 Ao1 (by decide), HS.out2 Ao1 Ao0 (by decide), HS.below⟩
  have c3b : decide (a1_3 < rd l0_1 a1_0) = false := decide_eq_false c3
  go_quiet (fail)
  rename_i nq
  replace HS := HS.drewN nq
  generalize w1.drewN nq = w1 at HS ⊢
  clear b2 b3 o1
  go_upto_region 6 with (fail)
  have o1 := (HS.below.cell (World.block_lt_of_cell? w _ hx1.out)).trans hx1.out
  have b2 := fun j => HS.cell g2 j
  have b3 := fun j => HS.cell g3 j
  by_cases c4 : a1_3 > rd l0_1 a1_0
  · have c4b : decide (rd l0_1 a1_0 < a1_3) = true := decide_eq_true c4
    have hp := hR.out; unfold payF at hp; rw [if_neg c3, if_pos c4] at hp; simp only [Prod.mk.injEq] at hp; obtain ⟨rfl, rfl, rfl⟩ := hp
    clear c3 c4 hR
    go_quiet (fail)
    rename_i nq
    replace HS := HS.drewN nq
    generalize w1.drewN nq = w1 at HS ⊢
    clear b2 b3 o1
    go_wp2_with (first | ((with_reducible refine gate_load rfl ?_); first | refine ev_loadC HS rfl rfl rfl (by rfl) ?_ | refine ev_loadS HS rfl rfl rfl (by rfl) ?_) | ((with_reducible refine gate_put rfl ?_); (first | refine ev_storeC HS rfl rfl rfl rfl rfl (by rfl) (by rfl) ?_ | refine ev_storeS HS rfl rfl rfl rfl rfl (by rfl) (by rfl) (by rfl) ?_); clear HS; intro w1 HS))
    refine bodyPost_ret (results_ct rfl _ _ g4 27 #[.slice Ao0 l0_0.length co0, .slice Ao1 l0_1.length co1] (0, 0) _ rfl (HS.box g4) Try.underlying27 rfl (by kernel_rfl)) rfl ?_
    exact ⟨_, _, rfl, HS.out2 Ao0 Ao1 (by decide), HS.out2 Ao1 Ao0 (by decide), HS.below⟩
  have c4b : decide (rd l0_1 a1_0 < a1_3) = false := decide_eq_false c4
  go_quiet (fail)
  rename_i nq
  replace HS := HS.drewN nq
  generalize w1.drewN nq = w1 at HS ⊢
  clear b2 b3 o1
  obtain ⟨b1, rfl⟩ := HS.form Ao1 (by omega)
  go_upto_region 9 with (first | ((with_reducible refine gate_load rfl ?_); first | refine ev_loadC HS rfl rfl rfl (by rfl) ?_ | refine ev_loadS HS rfl rfl rfl (by rfl) ?_ | refine ev_loadI HS rfl rfl rfl (by assumption) (by assumption) ?_) | ((with_reducible refine gate_put rfl ?_); (first | refine ev_storeC HS rfl rfl rfl rfl rfl (by rfl) (by rfl) ?_ | refine ev_storeS HS rfl rfl rfl rfl rfl (by rfl) (by rfl) (by rfl) ?_ | refine ev_storeI HS rfl rfl rfl rfl rfl (by assumption) (by assumption) ?_); clear HS; intro w1 HS))
  rw [show rd l0_1 a1_0 = a1_3 by omega] at HS
  have o1 := (HS.below.cell (World.block_lt_of_cell? w _ hx0.out)).trans hx0.out
  have b2 := fun j => HS.cell g2 j
  have b3 := fun j => HS.cell g3 j
  by_cases c5 : a1_2 > rd l0_0 a1_0
  · have c5b : decide (rd l0_0 a1_0 < a1_2) = true := decide_eq_true c5
    have hp := hR.out; unfold payF at hp; rw [if_neg c3, if_neg c4, if_pos c5] at hp; simp only [Prod.mk.injEq] at hp; obtain ⟨rfl, rfl, rfl⟩ := hp
    clear c3 c4 c5 hR
    go_quiet (fail)
    rename_i nq
    replace HS := HS.drewN nq
    generalize w1.drewN nq = w1 at HS ⊢
    clear b2 b3 o1
    go_wp2_with (first | ((with_reducible refine gate_load rfl ?_); first | refine ev_loadC HS rfl rfl rfl (by rfl) ?_ | refine ev_loadS HS rfl rfl rfl (by rfl) ?_) | ((with_reducible refine gate_put rfl ?_); (first | refine ev_storeC HS rfl rfl rfl rfl rfl (by rfl) (by rfl) ?_ | refine ev_storeS HS rfl rfl rfl rfl rfl (by rfl) (by rfl) (by rfl) ?_); clear HS; intro w1 HS))
    refine bodyPost_ret (results_ct rfl _ _ g4 27 #[.slice Ao0 l0_0.length co0, .slice (some ⟨b1, 0, none⟩) l0_1.length co1] (0, 0) _ rfl (HS.box g4) Try.underlying27 rfl (by kernel_rfl)) rfl ?_
    exact ⟨_, _, rfl, HS.out2 Ao0 (some ⟨b1, 0, none⟩) (by decide), HS.out2 (some ⟨b1, 0, none⟩) Ao0 (by decide), HS.below⟩
  have c5b : decide (rd l0_0 a1_0 < a1_2) = false := decide_eq_false c5
  go_quiet (fail)
  rename_i nq
  replace HS := HS.drewN nq
  generalize w1.drewN nq = w1 at HS ⊢
  clear b2 b3 o1
  obtain ⟨b0, rfl⟩ := HS.form Ao0 (by omega)
  go_upto_region 11 with (fail)
  have r0 := HS.cellI b0 a1_0 f0 f1
  have b3 := fun j => HS.cell g3 j
  have b6 := fun j => HS.cell g6 j
  go_still_tail 10, (by kernel_rfl)
  clear r0 b3 b6
  replace HS := HS.drew
  change wpList _ _ _ _ _ w1.drew
  generalize w1.drew = w1 at HS ⊢
  go_upto_region 12 with ((with_reducible refine gate_put rfl ?_); (first | refine ev_storeC HS rfl rfl rfl rfl rfl (by rfl) (by rfl) ?_ | refine ev_storeS HS rfl rfl rfl rfl rfl (by rfl) (by rfl) (by rfl) ?_ | refine ev_storeI HS rfl rfl rfl rfl rfl (by assumption) (by assumption) ?_); clear HS; intro w1 HS)
  try rw [wrapEq] at HS
  go_upto_region 12 with (fail)
  have r0 := HS.cellI b0 a1_1 t0 t1'
  have b3 := fun j => HS.cell g3 j
  have b6 := fun j => HS.cell g6 j
  go_still_tail 10, (by kernel_rfl)
  clear r0 b3 b6
  replace HS := HS.drew
  change wpList _ _ _ _ _ w1.drew
  generalize w1.drew = w1 at HS ⊢
  go_upto_region 13 with ((with_reducible refine gate_put rfl ?_); (first | refine ev_storeC HS rfl rfl rfl rfl rfl (by rfl) (by rfl) ?_ | refine ev_storeS HS rfl rfl rfl rfl rfl (by rfl) (by rfl) (by rfl) ?_ | refine ev_storeI HS rfl rfl rfl rfl rfl (by assumption) (by assumption) ?_); clear HS; intro w1 HS)
  try rw [wrapEq] at HS
  rcases b6 with _ | _
  · have hp := hR.out; unfold payF at hp; rw [if_neg c3, if_neg c4, if_neg c5] at hp; rw [if_neg (by decide)] at hp; simp only [Prod.mk.injEq] at hp; obtain ⟨rfl, rfl, rfl⟩ := hp
    clear c3 c4 c5 hR
    go_wp2_with (first | ((with_reducible refine gate_load rfl ?_); first | refine ev_loadC HS rfl rfl rfl (by rfl) ?_ | refine ev_loadS HS rfl rfl rfl (by rfl) ?_) | ((with_reducible refine gate_put rfl ?_); (first | refine ev_storeC HS rfl rfl rfl rfl rfl (by rfl) (by rfl) ?_ | refine ev_storeS HS rfl rfl rfl rfl rfl (by rfl) (by rfl) (by rfl) ?_); clear HS; intro w1 HS) | (go_at_call 64; refine (impl_copyLedger.calls _ _ _ _ _ _ _ _ _ (Kd.C_below hr0.out HS.below) hc0.out (Kd.C_below hr1.out HS.below) hc1.out hcp.out).mono ?_; rintro e w1 ⟨v0, v1, rfl, ho0, ho1, hb⟩; obtain ⟨Aq0, cq0, Aq1, cq1, rfl, rfl, HS1⟩ := HS.got2 hb ho0 ho1 (fun _ h => h); clear HS ho0 ho1 hb; have HS := HS1; clear HS1) | (go_at_call 25; refine (impl_Pay.lok _ _ _ (mvL l0_0 a1_0 a1_1 a1_2) _ _ _ (l0_1.set a1_0.toNat (wrap64 (a1_3 + 1))) _ _ _ (mvL_len _ _ _ _) (List.length_set ..).symm (HS.reads (some ⟨b0, 0, none⟩)) (HS.cap (some ⟨b0, 0, none⟩)) (HS.reads (some ⟨b1, 0, none⟩)) (HS.cap (some ⟨b1, 0, none⟩)) hk2.out).mono ?_; rintro e w1 ⟨rfl, hb⟩; have HS1 := HS.later hb; clear HS hb; have HS := HS1; clear HS1))
    refine bodyPost_ret (results_ct rfl _ _ g4 27 #[.slice Aq0 l0_0.length cq0, .slice Aq1 l0_1.length cq1] (0, 0) _ rfl (HS.box g4) Try.underlying27 rfl (by kernel_rfl)) rfl ?_
    exact ⟨_, _, rfl, HS.out2 Aq0 Aq1 (by decide), HS.out2 Aq1 Aq0 (by decide), HS.below⟩
  · have hp := hR.out; unfold payF at hp; rw [if_neg c3, if_neg c4, if_neg c5] at hp; rw [if_pos rfl] at hp; simp only [Prod.mk.injEq] at hp; obtain ⟨rfl, rfl, rfl⟩ := hp
    clear c3 c4 c5 hR
    go_wp2_with (first | ((with_reducible refine gate_load rfl ?_); first | refine ev_loadC HS rfl rfl rfl (by rfl) ?_ | refine ev_loadS HS rfl rfl rfl (by rfl) ?_) | ((with_reducible refine gate_put rfl ?_); (first | refine ev_storeC HS rfl rfl rfl rfl rfl (by rfl) (by rfl) ?_ | refine ev_storeS HS rfl rfl rfl rfl rfl (by rfl) (by rfl) (by rfl) ?_); clear HS; intro w1 HS) | (go_at_call 25; refine (impl_Pay.lok _ _ _ (mvL l0_0 a1_0 a1_1 a1_2) _ _ _ (l0_1.set a1_0.toNat (wrap64 (a1_3 + 1))) _ _ _ (mvL_len _ _ _ _) (List.length_set ..).symm (HS.reads (some ⟨b0, 0, none⟩)) (HS.cap (some ⟨b0, 0, none⟩)) (HS.reads (some ⟨b1, 0, none⟩)) (HS.cap (some ⟨b1, 0, none⟩)) hk2.out).mono ?_; rintro e w1 ⟨rfl, hb⟩; have HS1 := HS.later hb; clear HS hb; have HS := HS1; clear HS1))
    refine bodyPost_ret (results_ct rfl _ _ g4 27 #[.slice (some ⟨b0, 0, none⟩) l0_0.length co0, .slice (some ⟨b1, 0, none⟩) l0_1.length co1] (0, 0) _ rfl (HS.box g4) Try.underlying27 rfl (by kernel_rfl)) rfl ?_
    exact ⟨_, _, rfl, HS.out2 (some ⟨b0, 0, none⟩) (some ⟨b1, 0, none⟩) (by decide), HS.out2 (some ⟨b1, 0, none⟩) (some ⟨b0, 0, none⟩) (by decide), HS.below⟩
/-- Pay: what it comes to (rounds of its own it has none). -/
def impl_Pay.f (k : Nat) (l0_0 l0_1 : List Int) (a1_0 a1_1 a1_2 a1_3 : Int) : Option (List Int × List Int × Int) := if l0_0.length ≤ 1048576 ∧ l0_1.length ≤ 1048576 then some (payL l0_0 l0_1 a1_0 a1_1 a1_2 a1_3) else none
theorem impl_Pay.mono : ∀ a0 a1 a2 a3 a4 a5 k, LeO (impl_Pay.f k a0 a1 a2 a3 a4 a5) (impl_Pay.f (k + 1) a0 a1 a2 a3 a4 a5) := fun _ _ _ _ _ _ _ => LeO.refl _
theorem impl_Pay.calls (k : Nat) (A0_0 : Option Addr) (c0_0 : Nat) (l0_0 : List Int) (A0_1 : Option Addr) (c0_1 : Nat) (l0_1 : List Int) (a1_0 a1_1 a1_2 a1_3 : Int) (r1 r2 : List Int) (r3 : Int) (w : World) (hr0_0 : Kd.C (Kd.int .i64) w A0_0 l0_0.length l0_0) (hc0_0 : l0_0.length ≤ c0_0) (hr0_1 : Kd.C (Kd.int .i64) w A0_1 l0_1.length l0_1) (hc0_1 : l0_1.length ≤ c0_1) (h : impl_Pay.f k l0_0 l0_1 a1_0 a1_1 a1_2 a1_3 = some (r1, r2, r3)) :
    Calls Try.prog 33 #[.agg #[.slice A0_0 l0_0.length c0_0, .slice A0_1 l0_1.length c0_1], .agg #[.int .i64 a1_0, .int .i64 a1_1, .int .i64 a1_2, .int .i64 a1_3]] w fun e w' => ∃ v0_ v1_ : Value, e = .returned (.tuple #[.agg #[v0_, v1_], .int .i64 (r3)]) ∧ Kd.R (Kd.int .i64) 3 w' w.heap.size (fun k_ => some k_ ≠ (v1_ : Value).ownBlock) v0_ (r1) ∧ Kd.R (Kd.int .i64) 3 w' w.heap.size (fun k_ => some k_ ≠ (v0_ : Value).ownBlock) v1_ (r2) ∧ Below w.heap.size w w' := by
  unfold impl_Pay.f at h
  by_cases hb : l0_0.length ≤ 1048576 ∧ l0_1.length ≤ 1048576
  · rw [if_pos hb] at h
    replace h := Option.some.inj h
    obtain ⟨hz0, hz1⟩ := hb
    have hcp := Aside0.mk (impl_copyLedger_val l0_0 l0_1 hz0 hz1)
    obtain ⟨k1, hk⟩ := (impl_LedgerOk_ev l0_0 l0_1).rounds
    have hx := impl_TxOk_val a1_0 a1_1 a1_2 a1_3
    by_cases c1 : ledgerIs l0_0 l0_1 ∧ txIs a1_0 a1_1 a1_2 a1_3
    · obtain ⟨c1, c2⟩ := c1
      rw [decide_eq_true c1] at hk
      rw [decide_eq_true c2] at hx
      have l1 : l0_0.length = 4 := c1.1.1
      have l2 : l0_1.length = 4 := c1.1.2
      have f0 : 0 ≤ a1_0 := c2.1.1
      have f3 : a1_0 ≤ 3 := c2.1.2
      have t0 : 0 ≤ a1_1 := c2.2.1.1
      have t3 : a1_1 ≤ 3 := c2.2.1.2
      obtain ⟨k2, hk2⟩ := (impl_LedgerOk_ev (mvL l0_0 a1_0 a1_1 a1_2) (l0_1.set a1_0.toNat (wrap64 (a1_3 + 1)))).rounds
      obtain ⟨ad0, rfl, hx0⟩ := Kd.at_int hr0_0 a1_0 f0 (by omega)
      obtain ⟨ad1, rfl, hx1⟩ := Kd.at_int hr0_1 a1_0 f0 (by omega)
      have e : payF (decide (ledgerIs (mvL l0_0 a1_0 a1_1 a1_2) (l0_1.set a1_0.toNat (wrap64 (a1_3 + 1))))) l0_0 l0_1 a1_0 a1_1 a1_2 a1_3 = (r1, r2, r3) := by
        rw [← h]
        unfold payL
        rw [if_neg (fun z => z ⟨c1, c2⟩)]
        unfold payF
        by_cases c6 : ledgerIs (mvL l0_0 a1_0 a1_1 a1_2) (l0_1.set a1_0.toNat (wrap64 (a1_3 + 1))) <;> simp only [c6, decide_true, decide_false, if_true, if_false, Bool.false_eq_true]
      exact impl_Pay.fine k1 k2 ad0 ad1 c0_0 l0_0 c0_1 l0_1 a1_0 a1_1 a1_2 a1_3 w ⟨hr0_0⟩ ⟨hc0_0⟩ ⟨hr0_1⟩ ⟨hc0_1⟩ hcp ⟨hk⟩ ⟨hx⟩ ⟨hx0⟩ ⟨hx1⟩ f0 (by omega) (by omega) t0 (by omega) (by rw [List.length_set]; omega) _ ⟨hk2⟩ r1 r2 r3 ⟨e⟩
    · have hp : payL l0_0 l0_1 a1_0 a1_1 a1_2 a1_3 = (l0_0, l0_1, 1) := by unfold payL; rw [if_pos c1]
      rw [hp] at h
      simp only [Prod.mk.injEq] at h
      obtain ⟨rfl, rfl, rfl⟩ := h
      exact impl_Pay.bad k1 A0_0 c0_0 l0_0 A0_1 c0_1 l0_1 a1_0 a1_1 a1_2 a1_3 _ _ w ⟨hr0_0⟩ ⟨hc0_0⟩ ⟨hr0_1⟩ ⟨hc0_1⟩ hcp ⟨hk⟩ ⟨hx⟩ (by rw [Bool.and_eq_false_iff, decide_eq_false_iff_not, decide_eq_false_iff_not]; exact Classical.or_iff_not_imp_left.2 (fun c3 c4 => c1 ⟨Classical.not_not.1 c3, c4⟩))
  · rw [if_neg hb] at h
    cases h

/-! ### laws_sameInts: function 37 -/
def laws_sameInts.l0 : Nat → List Int → List Int → Int → Option (Bool)
  | 0, _, _, _ => none
  | k + 1, x0, x1, x5 => if x5 < (x0.length : Int) then (if 0 ≤ x5 then (if x5 < (x1.length : Int) then (if (rd x0 x5) = (rd x1 x5) then (laws_sameInts.l0 k x0 x1 (wrap64 (x5 + 1))) else (some false)) else (none)) else (none)) else (some true)
def laws_sameInts.f (k : Nat) (l0 : List Int) (l1 : List Int) : Option (Bool) := if (l0.length : Int) = (l1.length : Int) then (laws_sameInts.l0 k l0 l1 0) else (some false)
theorem laws_sameInts.mono_l : ∀ k, (∀ y0 y1 y2, LeO (laws_sameInts.l0 k y0 y1 y2) (laws_sameInts.l0 (k + 1) y0 y1 y2))
  | 0 => fun _ _ _ r h => by simp [laws_sameInts.l0] at h
  | k + 1 => by
    have ih0 := laws_sameInts.mono_l k
    · intro y0 y1 y2
      unfold laws_sameInts.l0
      repeat' first
      | (with_reducible exact ih0 _ _ _)
      | (with_reducible exact LeO.refl _)
      | (with_reducible exact LeO.none _)
      | (with_reducible refine LeO.ite ?_ ?_)
      | (with_reducible refine LeO.bind ?_ (fun _ => ?_))
      | exact ih0 _ _ _
      | exact LeO.none _
      | refine LeO.ite ?_ ?_
      | refine LeO.bind ?_ (fun _ => ?_)
theorem laws_sameInts.mono : ∀ a0 a1 k, LeO (laws_sameInts.f k a0 a1) (laws_sameInts.f (k + 1) a0 a1) := by
  intro a0 a1 k
  have ih0 := laws_sameInts.mono_l k
  unfold laws_sameInts.f
  repeat' first
      | (with_reducible exact ih0 _ _ _)
      | (with_reducible exact LeO.refl _)
      | (with_reducible exact LeO.none _)
      | (with_reducible refine LeO.ite ?_ ?_)
      | (with_reducible refine LeO.bind ?_ (fun _ => ?_))
      | exact ih0 _ _ _
      | exact LeO.none _
      | refine LeO.ite ?_ ?_
      | refine LeO.bind ?_ (fun _ => ?_)
set_option maxHeartbeats 8000000 in
set_option maxRecDepth 100000 in
theorem laws_sameInts.calls (k : Nat) (A0 : Option Addr) (c0 : Nat) (l0 : List Int) (A1 : Option Addr) (c1 : Nat) (l1 : List Int) (r : Bool) (w : World) (hr0 : Kd.C (Kd.int .i64) w A0 l0.length l0) (hc0 : l0.length ≤ c0) (hr1 : Kd.C (Kd.int .i64) w A1 l1.length l1) (hc1 : l1.length ≤ c1) (h : laws_sameInts.f k l0 l1 = some r) :
    Calls Try.prog 37 #[.slice A0 l0.length c0, .slice A1 l1.length c1] w fun e w' => e = .returned (.bool r) ∧ Drawn0 w w' := by
  have HR0 := Aside0.mk hr0
  have HC0 := Aside0.mk hc0
  clear hr0 hc0
  have HR1 := Aside0.mk hr1
  have HC1 := Aside0.mk hc1
  clear hr1 hc1
  have H : (if (l0.length : Int) = (l1.length : Int) then (laws_sameInts.l0 k l0 l1 0) else (some false)) = some r := h
  clear h
  have HF := Aside0.mk H
  clear H
  go_enter Try.func37, Try.ntmps37
  go_upto_if 10 with (fail)
  repeat (go_quiet (fail); go_upto_if 10 with (fail))
  have H := HF.out
  clear HF
  by_cases c3 : (l0.length : Int) = (l1.length : Int)
  · rw [if_pos c3] at H
    have c3b0 : ((l0.length : Int) == (l1.length : Int)) = true := beq_iff_eq.mpr c3
    have c3b1 : ((l0.length : Int) != (l1.length : Int)) = false := bne_eq_false_iff_eq.mpr c3
    have c3b2 : (l0.length == l1.length) = true := by first | simpa using c3 | (simp at c3 ⊢; omega)
    clear c3
    (first | rw [c3b0] | (simp only [i64_w, i32_w]; rw [c3b0]) | skip)
    have H' := Aside0.mk H
    clear H
    go_wp2
    repeat (go_quiet (fail); try go_wp2)
    go_loopg [5] k (fun kq v5 w' => ∃ (x5_1 : Int), v5 = .int .i64 x5_1 ∧ Aside0 (laws_sameInts.l0 kq l0 l1 x5_1 = some r) ∧ Aside0 (kq ≤ k) ∧ Drawn0 w w')
    case atStart => exact ⟨(0), (by first | rfl | (simp; done) | (simp [*]; done)), H', ⟨Nat.le_refl _⟩, by repeat (first | exact Drawn0.refl _ | apply Drawn0.step)⟩
    case round =>
      clear H'
      try clear c1
      try clear p2
      try clear c3
      try clear c3b0
      try clear c3b1
      try clear c3b2
      obtain ⟨x5_1, rfl, HA, HK1, ⟨m1, rfl⟩⟩ := hrel
      cases gk with
      | zero => exact absurd HA.out (by simp [laws_sameInts.l0])
      | succ k1 =>
        have H := HA.out
        clear HA
        simp only [laws_sameInts.l0] at H
        have HF := Aside0.mk H
        clear H
        go_upto_if 14 with (fail)
        repeat (go_quiet (fail); go_upto_if 14 with (fail))
        have H := HF.out
        clear HF
        by_cases c4 : x5_1 < (l0.length : Int)
        · rw [if_pos c4] at H
          have c4b0 : decide (x5_1 < (l0.length : Int)) = true := decide_eq_true c4
          clear c4
          (first | rw [c4b0] | (simp only [i64_w, i32_w]; rw [c4b0]) | skip)
          by_cases c5 : 0 ≤ x5_1
          · rw [if_pos c5] at H
            have c5b0 : decide (0 ≤ x5_1) = true := decide_eq_true c5
            clear c5
            by_cases c6 : x5_1 < (l1.length : Int)
            · rw [if_pos c6] at H
              have c6b0 : decide (x5_1 < (l1.length : Int)) = true := decide_eq_true c6
              clear c6
              have HF := Aside0.mk H
              clear H
              have p317 : 0 ≤ (x5_1 : Int) := of_decide_eq_true (by first | (with_reducible assumption) | assumption)
              have q317 : x5_1 < (l0.length : Int) := of_decide_eq_true (by first | (with_reducible assumption) | assumption)
              obtain ⟨ad317, e317, hx317_0⟩ := Kd.at_int HR0.out x5_1 p317 q317
              cases e317
              replace p317 := eq_true p317
              replace q317 := eq_true q317
              have p318 : 0 ≤ (x5_1 : Int) := of_decide_eq_true (by first | (with_reducible assumption) | assumption)
              have q318 : x5_1 < (l1.length : Int) := of_decide_eq_true (by first | (with_reducible assumption) | assumption)
              obtain ⟨ad318, e318, hx318_0⟩ := Kd.at_int HR1.out x5_1 p318 q318
              cases e318
              replace p318 := eq_true p318
              replace q318 := eq_true q318
              go_upto_if 25 with (fail)
              repeat (go_quiet (fail); go_upto_if 25 with (fail))
              have H := HF.out
              clear HF
              by_cases c7 : (rd l0 x5_1) = (rd l1 x5_1)
              · rw [if_pos c7] at H
                have c7b0 : ((rd l0 x5_1) == (rd l1 x5_1)) = true := beq_iff_eq.mpr c7
                have c7b1 : ((rd l0 x5_1) != (rd l1 x5_1)) = false := bne_eq_false_iff_eq.mpr c7
                clear c7
                (first | rw [c7b0] | (simp only [i64_w, i32_w]; rw [c7b0]) | skip)
                have H' := Aside0.mk H
                clear H
                go_wp2
                repeat (go_quiet (fail); try go_wp2)
                go_roundg k1
                case measure => have := HK1.out; omega
                case rel => exact ⟨(wrap64 (x5_1 + 1)), (by first | rfl | (simp; done) | (simp [*]; done)), H', ⟨by have := HK1.out; omega⟩, by repeat (first | exact Drawn0.refl _ | apply Drawn0.step)⟩
              · rw [if_neg c7] at H
                have c7b0 : ((rd l0 x5_1) == (rd l1 x5_1)) = false := beq_eq_false_iff_ne.mpr c7
                have c7b1 : ((rd l0 x5_1) != (rd l1 x5_1)) = true := bne_iff_ne.mpr c7
                (first | rw [c7b0] | (simp only [i64_w, i32_w]; rw [c7b0]) | skip)
                obtain rfl := Option.some.inj H
                go_wp2
                repeat (go_quiet (fail); try go_wp2)
                go_ret
                exact ⟨by first | rfl | (simp; done) | (simp [*]; done), by repeat (first | exact Drawn0.refl _ | apply Drawn0.step)⟩
            · rw [if_neg c6] at H
              exact absurd H (by simp)
          · rw [if_neg c5] at H
            exact absurd H (by simp)
        · rw [if_neg c4] at H
          have c4b0 : decide (x5_1 < (l0.length : Int)) = false := decide_eq_false c4
          clear c4
          (first | rw [c4b0] | (simp only [i64_w, i32_w]; rw [c4b0]) | skip)
          obtain rfl := Option.some.inj H
          go_wp2
          repeat (go_quiet (fail); try go_wp2)
          go_ret
          exact ⟨by first | rfl | (simp; done) | (simp [*]; done), by repeat (first | exact Drawn0.refl _ | apply Drawn0.step)⟩
  · rw [if_neg c3] at H
    have c3b0 : ((l0.length : Int) == (l1.length : Int)) = false := beq_eq_false_iff_ne.mpr c3
    have c3b1 : ((l0.length : Int) != (l1.length : Int)) = true := bne_iff_ne.mpr c3
    have c3b2 : (l0.length == l1.length) = false := by first | simpa using c3 | (simp at c3 ⊢; omega)
    (first | rw [c3b0] | (simp only [i64_w, i32_w]; rw [c3b0]) | skip)
    obtain rfl := Option.some.inj H
    go_wp2
    repeat (go_quiet (fail); try go_wp2)
    go_ret
    exact ⟨by first | rfl | (simp; done) | (simp [*]; done), by repeat (first | exact Drawn0.refl _ | apply Drawn0.step)⟩

/-! ### laws_sameLedger: function 36 -/
def laws_sameLedger.f (k : Nat) (l0_0 : List Int) (l0_1 : List Int) (l1_0 : List Int) (l1_1 : List Int) : Option (Bool) := (laws_sameInts.f k l0_0 l1_0).bind fun t321 => (if t321 = true then ((laws_sameInts.f k l0_1 l1_1).bind fun t322 => (some t322)) else (some false))
theorem laws_sameLedger.mono : ∀ a0 a1 a2 a3 k, LeO (laws_sameLedger.f k a0 a1 a2 a3) (laws_sameLedger.f (k + 1) a0 a1 a2 a3) := by
  intro a0 a1 a2 a3 k
  unfold laws_sameLedger.f
  repeat' first
      | (with_reducible exact laws_sameInts.mono _ _ _)
      | (with_reducible exact LeO.refl _)
      | (with_reducible exact LeO.none _)
      | (with_reducible refine LeO.ite ?_ ?_)
      | (with_reducible refine LeO.bind ?_ (fun _ => ?_))
      | exact laws_sameInts.mono _ _ _
      | exact LeO.none _
      | refine LeO.ite ?_ ?_
      | refine LeO.bind ?_ (fun _ => ?_)
set_option maxHeartbeats 8000000 in
set_option maxRecDepth 100000 in
theorem laws_sameLedger.calls (k : Nat) (A0_0 : Option Addr) (c0_0 : Nat) (l0_0 : List Int) (A0_1 : Option Addr) (c0_1 : Nat) (l0_1 : List Int) (A1_0 : Option Addr) (c1_0 : Nat) (l1_0 : List Int) (A1_1 : Option Addr) (c1_1 : Nat) (l1_1 : List Int) (r : Bool) (w : World) (hr0_0 : Kd.C (Kd.int .i64) w A0_0 l0_0.length l0_0) (hc0_0 : l0_0.length ≤ c0_0) (hr0_1 : Kd.C (Kd.int .i64) w A0_1 l0_1.length l0_1) (hc0_1 : l0_1.length ≤ c0_1) (hr1_0 : Kd.C (Kd.int .i64) w A1_0 l1_0.length l1_0) (hc1_0 : l1_0.length ≤ c1_0) (hr1_1 : Kd.C (Kd.int .i64) w A1_1 l1_1.length l1_1) (hc1_1 : l1_1.length ≤ c1_1) (h : laws_sameLedger.f k l0_0 l0_1 l1_0 l1_1 = some r) :
    Calls Try.prog 36 #[.agg #[.slice A0_0 l0_0.length c0_0, .slice A0_1 l0_1.length c0_1], .agg #[.slice A1_0 l1_0.length c1_0, .slice A1_1 l1_1.length c1_1]] w fun e w' => e = .returned (.bool r) ∧ Below w.heap.size w w' := by
  have hu27 := Try.underlying27
  have HR0_0 := Aside0.mk hr0_0
  have HC0_0 := Aside0.mk hc0_0
  clear hr0_0 hc0_0
  have HR0_1 := Aside0.mk hr0_1
  have HC0_1 := Aside0.mk hc0_1
  clear hr0_1 hc0_1
  have HR1_0 := Aside0.mk hr1_0
  have HC1_0 := Aside0.mk hc1_0
  clear hr1_0 hc1_0
  have HR1_1 := Aside0.mk hr1_1
  have HC1_1 := Aside0.mk hc1_1
  clear hr1_1 hc1_1
  have HB := Aside0.mk (Below.refl w.heap.size w)
  have H : ((laws_sameInts.f k l0_0 l1_0).bind fun t321 => (if t321 = true then ((laws_sameInts.f k l0_1 l1_1).bind fun t322 => (some t322)) else (some false))) = some r := h
  clear h
  replace H := Option.bind_eq_some_iff.mp H
  obtain ⟨t321, A30, H⟩ := H
  replace H : (if t321 = true then ((laws_sameInts.f k l0_1 l1_1).bind fun t322 => (some t322)) else (some false)) = some r := H
  have A3 := Aside0.mk A30
  clear A30
  by_cases c4 : t321 = true
  · subst c4
    have H1 : ((laws_sameInts.f k l0_1 l1_1).bind fun t322 => (some t322)) = some r := by rw [if_pos rfl] at H; exact H
    clear H
    have H := H1
    clear H1
    replace H := Option.bind_eq_some_iff.mp H
    obtain ⟨t322, A50, H⟩ := H
    replace H : (some t322) = some r := H
    have A5 := Aside0.mk A50
    clear A50
    obtain rfl := Option.some.inj H
    go_enter Try.func36, Try.ntmps36
    go_wp2_with (first | ((with_reducible refine gate_dst (N := 2) rfl ?_); refine box_event ?hg (N := 2) ?hd (cs := #[.slice A0_0 l0_0.length c0_0, .slice A0_1 l0_1.length c0_1]) (t := 27) ?hr ?_; (case hd => rfl); (case hg => rfl); (case hr => first | (go_simp; done) | (go_simp; rfl)); intro gb319 hg w6 hbox hb; have n0_ := Aside0.mk (below_step (by repeat (first | (with_reducible first | exact HB.out | apply below_alloc | apply pw_below_drewN | apply below_drew1) | exact HB.out)) hb); have n1_ := Aside0.mk (hbox); have n2_ := Aside0.mk ((by rw [hg]; exact (below_size (by repeat (first | (with_reducible first | exact HB.out | apply below_alloc | apply pw_below_drewN | apply below_drew1) | exact HB.out))) : w.heap.size ≤ gb319)); have n3_ := Aside0.mk ((by rw [hg]; exact (below_size (by repeat (first | (with_reducible first | exact HB.out | apply below_alloc | apply pw_below_drewN | apply below_drew1) | exact HB.out))) : w.heap.size ≤ gb319)); clear HB; have HB := n0_; have BK319 := n1_; have GW319 := n2_; have GE319 := n3_; clear n0_ n1_ n2_ n3_; clear hb hbox hg) | ((with_reducible refine gate_dst (N := 3) rfl ?_); refine box_event ?hg (N := 3) ?hd (cs := #[.slice A1_0 l1_0.length c1_0, .slice A1_1 l1_1.length c1_1]) (t := 27) ?hr ?_; (case hd => rfl); (case hg => rfl); (case hr => first | (go_simp; done) | (go_simp; rfl)); intro gb320 hg w7 hbox hb; have n0_ := Aside0.mk (blk_below (g := gb319) (o := .cells #[.slice A0_0 l0_0.length c0_0, .slice A0_1 l0_1.length c0_1] 27 (0, 0)) (by (with_reducible repeat (first | refine blk_drewN ?_ _ | refine blk_drew ?_ | refine blk_alloc ?_ _)); exact BK319.out) hb); have n1_ := Aside0.mk (below_step (by repeat (first | (with_reducible first | exact HB.out | apply below_alloc | apply pw_below_drewN | apply below_drew1 | refine below_set ?_ GE319.out) | exact HB.out)) hb); have n2_ := Aside0.mk (hbox); have n3_ := Aside0.mk ((by rw [hg]; exact (below_size (by repeat (first | (with_reducible first | exact HB.out | apply below_alloc | apply pw_below_drewN | apply below_drew1 | refine below_set ?_ GE319.out) | exact HB.out))) : w.heap.size ≤ gb320)); have n4_ := Aside0.mk ((by rw [hg]; exact (below_size (by repeat (first | (with_reducible first | exact HB.out | apply below_alloc | apply pw_below_drewN | apply below_drew1 | refine below_set ?_ GE319.out) | exact HB.out))) : w.heap.size ≤ gb320)); have n5_ := Aside0.mk ((by rw [hg]; exact Nat.ne_of_lt (blk_lt (g := gb319) (o := .cells #[.slice A0_0 l0_0.length c0_0, .slice A0_1 l0_1.length c0_1] 27 (0, 0)) (by (with_reducible repeat (first | refine blk_drewN ?_ _ | refine blk_drew ?_ | refine blk_alloc ?_ _)); exact BK319.out)) : gb319 ≠ gb320)); have n6_ := Aside0.mk ((by rw [hg]; exact Nat.ne_of_gt (blk_lt (g := gb319) (o := .cells #[.slice A0_0 l0_0.length c0_0, .slice A0_1 l0_1.length c0_1] 27 (0, 0)) (by (with_reducible repeat (first | refine blk_drewN ?_ _ | refine blk_drew ?_ | refine blk_alloc ?_ _)); exact BK319.out)) : gb320 ≠ gb319)); clear BK319; clear HB; have BK319 := n0_; have HB := n1_; have BK320 := n2_; have GW320 := n3_; have GE320 := n4_; have NB319_320 := n5_; have NB320_319 := n6_; clear n0_ n1_ n2_ n3_ n4_ n5_ n6_; clear hb hbox hg; have hnb8 := NB319_320.out; have hnc8 := NB320_319.out; have hcz9_0 : w7.cell? ⟨gb319, 0, none⟩ = some (.slice A0_0 l0_0.length c0_0) := (blk_cell BK319.out 0).trans rfl; have hcz9_1 : w7.cell? ⟨gb319, 1, none⟩ = some (.slice A0_1 l0_1.length c0_1) := (blk_cell BK319.out 1).trans rfl; have hfz9_0 := blk_frozen BK319.out 0; have hfz9_1 := blk_frozen BK319.out 1; have hcz10_0 : w7.cell? ⟨gb320, 0, none⟩ = some (.slice A1_0 l1_0.length c1_0) := (blk_cell BK320.out 0).trans rfl; have hcz10_1 : w7.cell? ⟨gb320, 1, none⟩ = some (.slice A1_1 l1_1.length c1_1) := (blk_cell BK320.out 1).trans rfl; have hfz10_0 := blk_frozen BK320.out 0; have hfz10_1 := blk_frozen BK320.out 1) | ((with_reducible refine gate_callee (f := 37) rfl ?_); refine goesL_ (some 9) rfl rfl Try.func37 (by kernel_rfl) rfl #[.slice A0_0 l0_0.length c0_0, .slice A1_0 l1_0.length c1_0] rfl (by (try simp only [List.map_toArray, List.map_cons, List.map_nil]); first | done | rfl | (simp only [List.length_drop, List.length_take]; rfl)) ?_; (with_reducible refine (laws_sameInts.calls k _ _ l0_0 _ _ l1_0 true _ ?side1 ?side2 ?side3 ?side4 A3.out).mono ?_); (case side1 => repeat (first | exact (Kd.C_below HR0_0.out HB.out) | (with_reducible refine Kd.C_alloc ?_ _) | (with_reducible refine Kd.C_drewN ?_ _) | (with_reducible refine Kd.C_drew ?_))); (case side2 => exact HC0_0.out); (case side3 => repeat (first | exact (Kd.C_below HR1_0.out HB.out) | (with_reducible refine Kd.C_alloc ?_ _) | (with_reducible refine Kd.C_drewN ?_ _) | (with_reducible refine Kd.C_drew ?_))); (case side4 => exact HC1_0.out); rintro e w' ⟨rfl, ⟨nd, rfl⟩⟩; refine ⟨_, rfl, ?_⟩) | (go_at_call 37; (with_reducible refine (laws_sameInts.calls k _ _ l0_1 _ _ l1_1 t322 _ ?side1 ?side2 ?side3 ?side4 A5.out).mono ?_); (case side1 => repeat (first | exact (Kd.C_below HR0_1.out (by repeat (first | (with_reducible first | exact HB.out | apply below_alloc | apply pw_below_drewN | apply below_drew1 | refine below_set ?_ GE319.out | refine below_set ?_ GE320.out) | exact HB.out))) | (with_reducible refine Kd.C_alloc ?_ _) | (with_reducible refine Kd.C_drewN ?_ _) | (with_reducible refine Kd.C_drew ?_))); (case side2 => exact HC0_1.out); (case side3 => repeat (first | exact (Kd.C_below HR1_1.out (by repeat (first | (with_reducible first | exact HB.out | apply below_alloc | apply pw_below_drewN | apply below_drew1 | refine below_set ?_ GE319.out | refine below_set ?_ GE320.out) | exact HB.out))) | (with_reducible refine Kd.C_alloc ?_ _) | (with_reducible refine Kd.C_drewN ?_ _) | (with_reducible refine Kd.C_drew ?_))); (case side4 => exact HC1_1.out); rintro e w' ⟨rfl, ⟨nd, rfl⟩⟩))
    go_ret
    exact ⟨by first | rfl | (simp [errW_none, errW_some] <;> rfl) | (simp [*, errW_none, errW_some] <;> rfl), by repeat (first | (with_reducible first | exact HB.out | apply below_alloc | apply pw_below_drewN | apply below_drew1 | refine below_set ?_ GE319.out | refine below_set ?_ GE320.out) | exact HB.out)⟩
  · replace c4 := Bool.eq_false_iff.mpr c4
    subst c4
    have H1 : (some false) = some r := by rw [if_neg (show ¬ (false = true) by decide)] at H; exact H
    clear H
    have H := H1
    clear H1
    obtain rfl := Option.some.inj H
    go_enter Try.func36, Try.ntmps36
    go_wp2_with (first | ((with_reducible refine gate_dst (N := 2) rfl ?_); refine box_event ?hg (N := 2) ?hd (cs := #[.slice A0_0 l0_0.length c0_0, .slice A0_1 l0_1.length c0_1]) (t := 27) ?hr ?_; (case hd => rfl); (case hg => rfl); (case hr => first | (go_simp; done) | (go_simp; rfl)); intro gb319 hg w11 hbox hb; have n0_ := Aside0.mk (below_step (by repeat (first | (with_reducible first | exact HB.out | apply below_alloc | apply pw_below_drewN | apply below_drew1) | exact HB.out)) hb); have n1_ := Aside0.mk (hbox); have n2_ := Aside0.mk ((by rw [hg]; exact (below_size (by repeat (first | (with_reducible first | exact HB.out | apply below_alloc | apply pw_below_drewN | apply below_drew1) | exact HB.out))) : w.heap.size ≤ gb319)); have n3_ := Aside0.mk ((by rw [hg]; exact (below_size (by repeat (first | (with_reducible first | exact HB.out | apply below_alloc | apply pw_below_drewN | apply below_drew1) | exact HB.out))) : w.heap.size ≤ gb319)); clear HB; have HB := n0_; have BK319 := n1_; have GW319 := n2_; have GE319 := n3_; clear n0_ n1_ n2_ n3_; clear hb hbox hg) | ((with_reducible refine gate_dst (N := 3) rfl ?_); refine box_event ?hg (N := 3) ?hd (cs := #[.slice A1_0 l1_0.length c1_0, .slice A1_1 l1_1.length c1_1]) (t := 27) ?hr ?_; (case hd => rfl); (case hg => rfl); (case hr => first | (go_simp; done) | (go_simp; rfl)); intro gb320 hg w12 hbox hb; have n0_ := Aside0.mk (blk_below (g := gb319) (o := .cells #[.slice A0_0 l0_0.length c0_0, .slice A0_1 l0_1.length c0_1] 27 (0, 0)) (by (with_reducible repeat (first | refine blk_drewN ?_ _ | refine blk_drew ?_ | refine blk_alloc ?_ _)); exact BK319.out) hb); have n1_ := Aside0.mk (below_step (by repeat (first | (with_reducible first | exact HB.out | apply below_alloc | apply pw_below_drewN | apply below_drew1 | refine below_set ?_ GE319.out) | exact HB.out)) hb); have n2_ := Aside0.mk (hbox); have n3_ := Aside0.mk ((by rw [hg]; exact (below_size (by repeat (first | (with_reducible first | exact HB.out | apply below_alloc | apply pw_below_drewN | apply below_drew1 | refine below_set ?_ GE319.out) | exact HB.out))) : w.heap.size ≤ gb320)); have n4_ := Aside0.mk ((by rw [hg]; exact (below_size (by repeat (first | (with_reducible first | exact HB.out | apply below_alloc | apply pw_below_drewN | apply below_drew1 | refine below_set ?_ GE319.out) | exact HB.out))) : w.heap.size ≤ gb320)); have n5_ := Aside0.mk ((by rw [hg]; exact Nat.ne_of_lt (blk_lt (g := gb319) (o := .cells #[.slice A0_0 l0_0.length c0_0, .slice A0_1 l0_1.length c0_1] 27 (0, 0)) (by (with_reducible repeat (first | refine blk_drewN ?_ _ | refine blk_drew ?_ | refine blk_alloc ?_ _)); exact BK319.out)) : gb319 ≠ gb320)); have n6_ := Aside0.mk ((by rw [hg]; exact Nat.ne_of_gt (blk_lt (g := gb319) (o := .cells #[.slice A0_0 l0_0.length c0_0, .slice A0_1 l0_1.length c0_1] 27 (0, 0)) (by (with_reducible repeat (first | refine blk_drewN ?_ _ | refine blk_drew ?_ | refine blk_alloc ?_ _)); exact BK319.out)) : gb320 ≠ gb319)); clear BK319; clear HB; have BK319 := n0_; have HB := n1_; have BK320 := n2_; have GW320 := n3_; have GE320 := n4_; have NB319_320 := n5_; have NB320_319 := n6_; clear n0_ n1_ n2_ n3_ n4_ n5_ n6_; clear hb hbox hg; have hnb13 := NB319_320.out; have hnc13 := NB320_319.out; have hcz14_0 : w12.cell? ⟨gb319, 0, none⟩ = some (.slice A0_0 l0_0.length c0_0) := (blk_cell BK319.out 0).trans rfl; have hcz14_1 : w12.cell? ⟨gb319, 1, none⟩ = some (.slice A0_1 l0_1.length c0_1) := (blk_cell BK319.out 1).trans rfl; have hfz14_0 := blk_frozen BK319.out 0; have hfz14_1 := blk_frozen BK319.out 1; have hcz15_0 : w12.cell? ⟨gb320, 0, none⟩ = some (.slice A1_0 l1_0.length c1_0) := (blk_cell BK320.out 0).trans rfl; have hcz15_1 : w12.cell? ⟨gb320, 1, none⟩ = some (.slice A1_1 l1_1.length c1_1) := (blk_cell BK320.out 1).trans rfl; have hfz15_0 := blk_frozen BK320.out 0; have hfz15_1 := blk_frozen BK320.out 1) | ((with_reducible refine gate_callee (f := 37) rfl ?_); refine goesL_ (some 9) rfl rfl Try.func37 (by kernel_rfl) rfl #[.slice A0_0 l0_0.length c0_0, .slice A1_0 l1_0.length c1_0] rfl (by (try simp only [List.map_toArray, List.map_cons, List.map_nil]); first | done | rfl | (simp only [List.length_drop, List.length_take]; rfl)) ?_; (with_reducible refine (laws_sameInts.calls k _ _ l0_0 _ _ l1_0 false _ ?side1 ?side2 ?side3 ?side4 A3.out).mono ?_); (case side1 => repeat (first | exact (Kd.C_below HR0_0.out HB.out) | (with_reducible refine Kd.C_alloc ?_ _) | (with_reducible refine Kd.C_drewN ?_ _) | (with_reducible refine Kd.C_drew ?_))); (case side2 => exact HC0_0.out); (case side3 => repeat (first | exact (Kd.C_below HR1_0.out HB.out) | (with_reducible refine Kd.C_alloc ?_ _) | (with_reducible refine Kd.C_drewN ?_ _) | (with_reducible refine Kd.C_drew ?_))); (case side4 => exact HC1_0.out); rintro e w' ⟨rfl, ⟨nd, rfl⟩⟩; refine ⟨_, rfl, ?_⟩))
    go_ret
    exact ⟨by first | rfl | (simp [errW_none, errW_some] <;> rfl) | (simp [*, errW_none, errW_some] <;> rfl), by repeat (first | (with_reducible first | exact HB.out | apply below_alloc | apply pw_below_drewN | apply below_drew1 | refine below_set ?_ GE319.out | refine below_set ?_ GE320.out) | exact HB.out)⟩

/-! ### spec_l2DrawList: function 66 -/
def spec_l2DrawList.l0 : Nat → List (S45) → Int → List Int → Int → Int → Option ((List (S45)) × Int × Int)
  | 0, _, _, _, _, _ => none
  | k + 1, x3, x4, x1000, x1001, x1002 => (spec_l1Below.f x1000 x1001 x1002 5).bind fun bt326 => (if x4 < bt326.1 then ((spec_l2Draw.f x1000 bt326.2.1 bt326.2.2).bind fun bt329 => (if x3.length < 4398046511104 then (spec_l2DrawList.l0 k (x3 ++ [(⟨bt329.1, bt329.2.1, bt329.2.2.1, bt329.2.2.2.1⟩ : S45)]) (wrap64 (x4 + 1)) x1000 bt329.2.2.2.2.1 bt329.2.2.2.2.2) else (none))) else (some (x3, bt326.2.1, bt326.2.2)))
def spec_l2DrawList.f (k : Nat) (s0_0 : List Int) (s0_1 : Int) (s0_2 : Int) : Option ((List (S45)) × Int × Int) := spec_l2DrawList.l0 k (([] : List (S45))) 0 s0_0 s0_1 s0_2
theorem spec_l2DrawList.mono_l : ∀ k, (∀ y0 y1 y2 y3 y4, LeO (spec_l2DrawList.l0 k y0 y1 y2 y3 y4) (spec_l2DrawList.l0 (k + 1) y0 y1 y2 y3 y4))
  | 0 => fun _ _ _ _ _ r h => by simp [spec_l2DrawList.l0] at h
  | k + 1 => by
    have ih0 := spec_l2DrawList.mono_l k
    · intro y0 y1 y2 y3 y4
      unfold spec_l2DrawList.l0
      repeat' first
      | (with_reducible exact ih0 _ _ _ _ _)
      | (with_reducible exact LeO.refl _)
      | (with_reducible exact LeO.none _)
      | (with_reducible refine LeO.ite ?_ ?_)
      | (with_reducible refine LeO.bind ?_ (fun _ => ?_))
      | exact ih0 _ _ _ _ _
      | exact LeO.none _
      | refine LeO.ite ?_ ?_
      | refine LeO.bind ?_ (fun _ => ?_)
theorem spec_l2DrawList.mono : ∀ a0 a1 a2 k, LeO (spec_l2DrawList.f k a0 a1 a2) (spec_l2DrawList.f (k + 1) a0 a1 a2) := by
  intro a0 a1 a2 k
  have ih0 := spec_l2DrawList.mono_l k
  unfold spec_l2DrawList.f
  repeat' first
      | (with_reducible exact ih0 _ _ _ _ _)
      | (with_reducible exact LeO.refl _)
      | (with_reducible exact LeO.none _)
      | (with_reducible refine LeO.ite ?_ ?_)
      | (with_reducible refine LeO.bind ?_ (fun _ => ?_))
      | exact ih0 _ _ _ _ _
      | exact LeO.none _
      | refine LeO.ite ?_ ?_
      | refine LeO.bind ?_ (fun _ => ?_)
set_option maxHeartbeats 8000000 in
set_option maxRecDepth 100000 in
theorem spec_l2DrawList.calls (k : Nat) (g : Nat) (s0_0 : List Int) (s0_1 : Int) (s0_2 : Int) (r1 : List (S45)) (r2 : Int) (r3 : Int) (w0 w : World) (hI : IsS81 w0 w g s0_0 s0_1 s0_2) (hB : Below w0.heap.size w0 w) (h : spec_l2DrawList.f k s0_0 s0_1 s0_2 = some (r1, r2, r3)) :
    Calls Try.prog 66 #[.pointer (some ⟨g, 0, none⟩)] w fun e w' => ∃ v0_ : Value, e = .returned (v0_) ∧ Kd.R k45 45 w' w.heap.size (fun _ => True) v0_ r1 ∧ IsS81 w0 w' g s0_0 r2 r3 ∧ Below w0.heap.size w0 w' ∧ KeepBut w w' g none := by
  have HI0 := Aside0.mk hI
  have HK := Aside0.mk (KeepBut.refl w g none)
  have HL := Aside0.mk hB.size
  clear hI
  have HW0 := Aside0.mk hB.size
  have HB := Aside0.mk hB
  clear hB
  have H : (spec_l2DrawList.l0 k (([] : List (S45))) 0 s0_0 s0_1 s0_2) = some (r1, r2, r3) := h
  clear h
  obtain ⟨y323, hy323⟩ : ∃ y_ : List (S45), y_ = (([] : List (S45))) := ⟨_, rfl⟩
  replace H : (spec_l2DrawList.l0 k y323 0 s0_0 s0_1 s0_2) = some (r1, r2, r3) := by first | (rw [hy323]; with_reducible exact H) | (have H2_ := (Option.bind_some _ _).symm.trans H; rw [hy323]; with_reducible exact H2_) | (have H2_ := (Option.bind_some _ _).symm.trans H; with_reducible exact H2_) | with_reducible exact H | (rw [hy323]; exact H) | exact H
  have Ny323 := Aside0.mk hy323
  clear hy323
  have H' := Aside0.mk H
  clear H
  go_enter Try.func66, Try.ntmps66
  go_wp2_with (first | ((with_reducible refine gate_dst (N := 5) rfl ?_); refine Kd.R_lit k45 _ 45 ?hg (N := 5) ?hd (xs := ([] : List (S45))) (inner := []) (ok := fun _ => True) (okp := fun _ => True) ?hr ?hp (fun _ hk => hk) trivial (Below.refl _ _) (Nat.le_refl _) (by simp) ?_; (case hd => rfl); (case hg => rfl); (case hr => first | (go_simp; done) | (go_simp; rfl)); (case hp => exact (Reps.none _ _)); intro v324 w2 ho3 hb hg_ hnew_; clear hg_ hnew_; (first | rw [← Ny323.out] at ho3 | (simp only [Int.reduceToNat] at ho3; rw [← Ny323.out] at ho3)); have n0_ := Aside0.mk (Kd.R_lower ho3 (keep_size (w := w) (g := g) (row := none) (by repeat (first | (with_reducible first | exact HK.out | apply KeepBut.set_ | apply keep_drewN | apply keep_drew | apply keep_alloc) | exact HK.out)))); have n1_ := Aside0.mk (IsS81.below (by repeat (first | (with_reducible first | exact HI0.out | apply IsS81.alloc | apply IsS81.drewN | apply IsS81.drew | apply IsS81.set_1 | apply IsS81.set_2) | exact HI0.out)) hb); have n2_ := Aside0.mk (KeepBut.trans (by repeat (first | (with_reducible first | exact HK.out | apply KeepBut.set_ | apply keep_drewN | apply keep_drew | apply keep_alloc) | exact HK.out)) (KeepBut.of_below hb g none) (.inl rfl)); have n3_ := Aside0.mk (below_step (by repeat (first | (with_reducible first | exact HB.out | apply below_alloc | apply pw_below_drewN | apply below_drew1 | refine below_set ?_ (IsS81.ge HI0.out)) | exact HB.out)) hb); clear HI0; clear HK; clear HB; have HO325 := n0_; have HI0 := n1_; have HK := n2_; have HB := n3_; clear n0_ n1_ n2_ n3_; clear hb ho3))
  go_loopg [3, 4] k (fun kq v3 v4 w' => ∃ (x3_1 : List (S45)) (x4_1 : Int) (x1001_1 : Int) (x1002_1 : Int), v4 = .int .i64 x4_1 ∧ Aside0 (spec_l2DrawList.l0 kq x3_1 x4_1 s0_0 x1001_1 x1002_1 = some (r1, r2, r3)) ∧ Aside0 (kq ≤ k) ∧ Aside0 (Kd.R k45 45 w' w.heap.size (fun _ => True) v3 x3_1) ∧ Aside0 (IsS81 w0 w' g s0_0 x1001_1 x1002_1) ∧ Aside0 (KeepBut w w' g none) ∧ Aside0 (Below w0.heap.size w0 w'))
  case atStart => exact ⟨(y323), (0), (s0_1), (s0_2), (by first | rfl | (simp; done) | (simp [*]; done)), H', ⟨Nat.le_refl _⟩, ⟨by (with_reducible repeat (first | apply Kd.R_alloc | apply Kd.R_drewN | apply Kd.R_drew)); exact HO325.out⟩, ⟨by repeat (first | (with_reducible first | exact HI0.out | apply IsS81.alloc | apply IsS81.drewN | apply IsS81.drew | apply IsS81.set_1 | apply IsS81.set_2) | exact HI0.out)⟩, ⟨by repeat (first | (with_reducible first | exact HK.out | apply KeepBut.set_ | apply keep_drewN | apply keep_drew | apply keep_alloc) | exact HK.out)⟩, ⟨by repeat (first | (with_reducible first | exact HB.out | apply below_alloc | apply pw_below_drewN | apply below_drew1 | refine below_set ?_ (IsS81.ge HI0.out)) | exact HB.out)⟩⟩
  case round =>
    clear H'
    try clear p2
    obtain ⟨x3_1, x4_1, x1001_1, x1002_1, rfl, HA, HK1, HO_3, HI0, HK, HB⟩ := hrel
    cases gk with
    | zero => exact absurd HA.out (by simp [spec_l2DrawList.l0])
    | succ k1 =>
      have H := HA.out
      clear HA
      simp only [spec_l2DrawList.l0] at H
      replace H := Option.bind_eq_some_iff.mp H
      obtain ⟨⟨t326, t327, t328⟩, A40, H⟩ := H
      replace H : (if x4_1 < t326 then ((spec_l2Draw.f s0_0 t327 t328).bind fun bt329 => (if x3_1.length < 4398046511104 then (spec_l2DrawList.l0 k1 (x3_1 ++ [(⟨bt329.1, bt329.2.1, bt329.2.2.1, bt329.2.2.2.1⟩ : S45)]) (wrap64 (x4_1 + 1)) s0_0 bt329.2.2.2.2.1 bt329.2.2.2.2.2) else (none))) else (some (x3_1, t327, t328))) = some (r1, r2, r3) := H
      have A4 := Aside0.mk A40
      clear A40
      by_cases c5 : x4_1 < t326
      · rw [if_pos c5] at H
        have c5b0 : decide (x4_1 < t326) = true := decide_eq_true c5
        clear c5
        replace H := Option.bind_eq_some_iff.mp H
        obtain ⟨⟨t329, t330, t331, t332, t333, t334⟩, A60, H⟩ := H
        replace H : (if x3_1.length < 4398046511104 then (spec_l2DrawList.l0 k1 (x3_1 ++ [(⟨t329, t330, t331, t332⟩ : S45)]) (wrap64 (x4_1 + 1)) s0_0 t333 t334) else (none)) = some (r1, r2, r3) := H
        have A6 := Aside0.mk A60
        clear A60
        by_cases c7 : x3_1.length < 4398046511104
        · rw [if_pos c7] at H
          have LMc7 := Aside0.mk c7
          clear c7
          obtain ⟨y335, hy335⟩ : ∃ y_ : List (S45), y_ = (x3_1 ++ [(⟨t329, t330, t331, t332⟩ : S45)]) := ⟨_, rfl⟩
          replace H : (spec_l2DrawList.l0 k1 y335 (wrap64 (x4_1 + 1)) s0_0 t333 t334) = some (r1, r2, r3) := by first | (rw [hy335]; with_reducible exact H) | (have H2_ := (Option.bind_some _ _).symm.trans H; rw [hy335]; with_reducible exact H2_) | (have H2_ := (Option.bind_some _ _).symm.trans H; with_reducible exact H2_) | with_reducible exact H | (rw [hy335]; exact H) | exact H
          have Ny335 := Aside0.mk hy335
          clear hy335
          have H' := Aside0.mk H
          clear H
          go_wp2_with (first | ((with_reducible refine gate_callee (f := 73) rfl ?_); refine goesL_ (some 8) rfl rfl Try.func73 (by kernel_rfl) rfl #[.pointer (some ⟨g, 0, none⟩), .int .i64 5] rfl (by (try simp only [List.map_toArray, List.map_cons, List.map_nil]); first | done | rfl | (simp only [List.length_drop, List.length_take]; rfl)) ?_; (with_reducible refine (spec_l1Below.calls g s0_0 x1001_1 x1002_1 5 t326 t327 t328 w0 _ ?side1 ?side2 A4.out).mono ?_); (case side1 => repeat (first | (with_reducible first | exact HI0.out | apply IsS81.alloc | apply IsS81.drewN | apply IsS81.drew | apply IsS81.set_1 | apply IsS81.set_2) | exact HI0.out)); (case side2 => repeat (first | (with_reducible first | exact HB.out | apply below_alloc | apply pw_below_drewN | apply below_drew1 | refine below_set ?_ (IsS81.ge HI0.out)) | exact HB.out)); rintro e w8 ⟨rfl, hi, hb, hk⟩; refine ⟨_, rfl, ?_⟩; have n0_ := Aside0.mk (Kd.R_mono (Kd.R_keep (IsS81.apart (show IsS81 w0 _ g s0_0 x1001_1 x1002_1 from by repeat (first | (with_reducible first | exact HI0.out | apply IsS81.alloc | apply IsS81.drewN | apply IsS81.drew | apply IsS81.set_1 | apply IsS81.set_2) | exact HI0.out)) (by (with_reducible repeat (first | apply Kd.R_alloc | apply Kd.R_drewN | apply Kd.R_drew)); exact HO_3.out) (by decide)) hk (fun _ h => h.2)) (fun _ h => h.1)); have n1_ := Aside0.mk (KeepBut.trans (by repeat (first | (with_reducible first | exact HK.out | apply KeepBut.set_ | apply keep_drewN | apply keep_drew | apply keep_alloc) | exact HK.out)) hk (.inl rfl)); have n2_ := Aside0.mk (hb); have n3_ := Aside0.mk (hi); clear HO_3; clear HK; clear HB; clear HI0; have HO_3 := n0_; have HK := n1_; have HB := n2_; have HI0 := n3_; clear n0_ n1_ n2_ n3_; (try clear hb); (try clear hb2); (try clear hk); (try clear hi)) | ((with_reducible refine gate_callee (f := 63) rfl ?_); refine goesL_ (some 14) rfl rfl Try.func63 (by kernel_rfl) rfl #[.pointer (some ⟨g, 0, none⟩)] rfl (by (try simp only [List.map_toArray, List.map_cons, List.map_nil]); first | done | rfl | (simp only [List.length_drop, List.length_take]; rfl)) ?_; (with_reducible refine (spec_l2Draw.calls g s0_0 t327 t328 t329 t330 t331 t332 t333 t334 w0 _ ?side1 ?side2 A6.out).mono ?_); (case side1 => repeat (first | (with_reducible first | exact HI0.out | apply IsS81.alloc | apply IsS81.drewN | apply IsS81.drew | apply IsS81.set_1 | apply IsS81.set_2) | exact HI0.out)); (case side2 => repeat (first | (with_reducible first | exact HB.out | apply below_alloc | apply pw_below_drewN | apply below_drew1 | refine below_set ?_ (IsS81.ge HI0.out)) | exact HB.out)); rintro e w9 ⟨rfl, hi, hb, hk⟩; refine ⟨_, rfl, ?_⟩; have n0_ := Aside0.mk (Kd.R_mono (Kd.R_keep (IsS81.apart (show IsS81 w0 _ g s0_0 t327 t328 from by repeat (first | (with_reducible first | exact HI0.out | apply IsS81.alloc | apply IsS81.drewN | apply IsS81.drew | apply IsS81.set_1 | apply IsS81.set_2) | exact HI0.out)) (by (with_reducible repeat (first | apply Kd.R_alloc | apply Kd.R_drewN | apply Kd.R_drew)); exact HO_3.out) (by decide)) hk (fun _ h => h.2)) (fun _ h => h.1)); have n1_ := Aside0.mk (KeepBut.trans (by repeat (first | (with_reducible first | exact HK.out | apply KeepBut.set_ | apply keep_drewN | apply keep_drew | apply keep_alloc) | exact HK.out)) hk (.inl rfl)); have n2_ := Aside0.mk (hb); have n3_ := Aside0.mk (hi); clear HO_3; clear HK; clear HB; clear HI0; have HO_3 := n0_; have HK := n1_; have HB := n2_; have HI0 := n3_; clear n0_ n1_ n2_ n3_; (try clear hb); (try clear hb2); (try clear hk); (try clear hi)) | ((with_reducible refine gate_builtin (b := .append) (xs := #[.tmp 12, .tmp 15]) rfl ?_); at_builtin; refine Kd.R_append k45 w.heap.size rfl (.tmp 12) (.tmp 15) 38 45 (.agg #[(.int .i64 0), (.int .i64 0), (.int .i64 0), (.int .i64 0)]) 32 rfl Try.underlying38 info45 rfl (by decide) (by omega) u3 x3_1 (⟨t329, t330, t331, t332⟩ : S45) [.int .i64 t329, .int .i64 t330, .int .i64 t331, .int .i64 t332] (fun _ => True) (fun _ => False) rfl rfl ?aP (fun _ hk => hk.elim) ?aF ?aO (Below.refl _ _) ?aS ?aL ?_; (case aP => exact k45_mkM _ _ _ (⟨t329, t330, t331, t332⟩ : S45)); (case aF => exact (fun _ _ => trivial)); (case aO => exact (by (with_reducible repeat (first | apply Kd.R_alloc | apply Kd.R_drewN | apply Kd.R_drew)); exact HO_3.out)); (case aS => exact (keep_size (w := w) (g := g) (row := none) (by repeat (first | (with_reducible first | exact HK.out | apply KeepBut.set_ | apply keep_drewN | apply keep_drew | apply keep_alloc) | exact HK.out)))); (case aL => have := LMc7.out; omega); intro v336 w10 ho hb hg hat; rw [← Ny335.out] at ho; have n0_ := Aside0.mk (IsS81.grown (by repeat (first | (with_reducible first | exact HI0.out | apply IsS81.alloc | apply IsS81.drewN | apply IsS81.drew | apply IsS81.set_1 | apply IsS81.set_2) | exact HI0.out)) hg (IsS81.own_ne HI0.out HO_3.out (by decide))); have n1_ := Aside0.mk (below_weaken (by repeat (first | (with_reducible first | exact HB.out | apply below_alloc | apply pw_below_drewN | apply below_drew1 | refine below_set ?_ (IsS81.ge HI0.out)) | exact HB.out)) HL.out hb); have n2_ := Aside0.mk (KeepBut.trans (by repeat (first | (with_reducible first | exact HK.out | apply KeepBut.set_ | apply keep_drewN | apply keep_drew | apply keep_alloc) | exact HK.out)) (KeepBut.of_grown hg g) (Kd.R_base2 HO_3.out)); have n3_ := Aside0.mk (ho); clear HI0; clear HB; clear HK; clear HO_3; have HI0 := n0_; have HB := n1_; have HK := n2_; have HO337 := n3_; clear n0_ n1_ n2_ n3_; clear ho hb hg hat))
          go_roundg k1
          case measure => have := HK1.out; omega
          case rel => exact ⟨(y335), (wrap64 (x4_1 + 1)), (t333), (t334), (by first | rfl | (simp; done) | (simp [*]; done)), H', ⟨by have := HK1.out; omega⟩, ⟨by (with_reducible repeat (first | apply Kd.R_alloc | apply Kd.R_drewN | apply Kd.R_drew)); exact HO337.out⟩, ⟨by repeat (first | (with_reducible first | exact HI0.out | apply IsS81.alloc | apply IsS81.drewN | apply IsS81.drew | apply IsS81.set_1 | apply IsS81.set_2) | exact HI0.out)⟩, ⟨by repeat (first | (with_reducible first | exact HK.out | apply KeepBut.set_ | apply keep_drewN | apply keep_drew | apply keep_alloc) | exact HK.out)⟩, ⟨by repeat (first | (with_reducible first | exact HB.out | apply below_alloc | apply pw_below_drewN | apply below_drew1 | refine below_set ?_ (IsS81.ge HI0.out)) | exact HB.out)⟩⟩
        · rw [if_neg c7] at H
          exact absurd H (by simp)
      · rw [if_neg c5] at H
        have c5b0 : decide (x4_1 < t326) = false := decide_eq_false c5
        clear c5
        simp only [Option.some.injEq, Prod.mk.injEq] at H
        obtain ⟨rfl, rfl, rfl⟩ := H
        go_wp2_with (first | ((with_reducible refine gate_callee (f := 73) rfl ?_); refine goesL_ (some 8) rfl rfl Try.func73 (by kernel_rfl) rfl #[.pointer (some ⟨g, 0, none⟩), .int .i64 5] rfl (by (try simp only [List.map_toArray, List.map_cons, List.map_nil]); first | done | rfl | (simp only [List.length_drop, List.length_take]; rfl)) ?_; (with_reducible refine (spec_l1Below.calls g s0_0 x1001_1 x1002_1 5 t326 t327 t328 w0 _ ?side1 ?side2 A4.out).mono ?_); (case side1 => repeat (first | (with_reducible first | exact HI0.out | apply IsS81.alloc | apply IsS81.drewN | apply IsS81.drew | apply IsS81.set_1 | apply IsS81.set_2) | exact HI0.out)); (case side2 => repeat (first | (with_reducible first | exact HB.out | apply below_alloc | apply pw_below_drewN | apply below_drew1 | refine below_set ?_ (IsS81.ge HI0.out)) | exact HB.out)); rintro e w11 ⟨rfl, hi, hb, hk⟩; refine ⟨_, rfl, ?_⟩; have n0_ := Aside0.mk (Kd.R_mono (Kd.R_keep (IsS81.apart (show IsS81 w0 _ g s0_0 x1001_1 x1002_1 from by repeat (first | (with_reducible first | exact HI0.out | apply IsS81.alloc | apply IsS81.drewN | apply IsS81.drew | apply IsS81.set_1 | apply IsS81.set_2) | exact HI0.out)) (by (with_reducible repeat (first | apply Kd.R_alloc | apply Kd.R_drewN | apply Kd.R_drew)); exact HO_3.out) (by decide)) hk (fun _ h => h.2)) (fun _ h => h.1)); have n1_ := Aside0.mk (KeepBut.trans (by repeat (first | (with_reducible first | exact HK.out | apply KeepBut.set_ | apply keep_drewN | apply keep_drew | apply keep_alloc) | exact HK.out)) hk (.inl rfl)); have n2_ := Aside0.mk (hb); have n3_ := Aside0.mk (hi); clear HO_3; clear HK; clear HB; clear HI0; have HO_3 := n0_; have HK := n1_; have HB := n2_; have HI0 := n3_; clear n0_ n1_ n2_ n3_; (try clear hb); (try clear hb2); (try clear hk); (try clear hi)))
        go_ret
        exact ⟨_, by first | rfl | (simp [errW_none, errW_some] <;> rfl) | (simp [*, errW_none, errW_some] <;> rfl), by (with_reducible repeat (first | apply Kd.R_alloc | apply Kd.R_drewN | apply Kd.R_drew)); exact HO_3.out, by repeat (first | (with_reducible first | exact HI0.out | apply IsS81.alloc | apply IsS81.drewN | apply IsS81.drew | apply IsS81.set_1 | apply IsS81.set_2) | exact HI0.out), by repeat (first | (with_reducible first | exact HB.out | apply below_alloc | apply pw_below_drewN | apply below_drew1 | refine below_set ?_ (IsS81.ge HI0.out)) | exact HB.out), by repeat (first | (with_reducible first | exact HK.out | apply KeepBut.set_ | apply keep_drewN | apply keep_drew | apply keep_alloc) | exact HK.out)⟩

end Go.Proofs.Ytajblkfgdalldaa.PFnLedgers
