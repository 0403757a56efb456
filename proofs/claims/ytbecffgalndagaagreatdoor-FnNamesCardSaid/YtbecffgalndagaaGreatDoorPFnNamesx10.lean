/- Walks of the functions that a law of seat YtbecffgalndagaaGreatDoor reaches, each against a Lean function, printed by this session's wip/myprint.py; no condition of their own. -/
import Derived.Test.YtbecffgalndagaaGreatDoorPFnNamesx0
import Derived.Test.YtbecffgalndagaaGreatDoorPFnNamesx4
import Derived.Test.YtbecffgalndagaaGreatDoorPFnNamesx5
import Derived.Test.YtbecffgalndagaaGreatDoorPFnNamesx7
namespace Go.Proofs.YtbecffgalndagaaGreatDoor.PFnNames
open Go.RowKit Go.Proofs.YtbecffgalndagaaGreatDoorW.PrintWords Go.Proofs.YtbecffgalndagaaGreatDoorW.PrintLast Go.Proofs.YtbecffgalndagaaGreatDoorW.PrintMore
attribute [local go_sem] max2_int min2_int max_two min_two max_three min_three max_four min_four   -- for this text's walks alone
set_option maxHeartbeats 8000000
set_option maxRecDepth 100000
set_option linter.unusedVariables false
set_option linter.unusedSimpArgs false

/-! ### impl_ViewOf: function 22 -/
def impl_ViewOf.f (k : Nat) (a0 : ByteArray) : Option (Int) := (impl_Steps.f k a0).bind fun bt500 => (if (bt500.1.length : Int) = 0 then (some 0) else (if 0 ≤ (wrap64 ((bt500.1.length : Int) - 1)) then (if (wrap64 ((bt500.1.length : Int) - 1)) < (bt500.1.length : Int) then (some ((rd_T41 bt500.1 (wrap64 ((bt500.1.length : Int) - 1))).f0)) else (none)) else (none)))
theorem impl_ViewOf.mono : ∀ a0 k, LeO (impl_ViewOf.f k a0) (impl_ViewOf.f (k + 1) a0) := by
 intro a0 k
 unfold impl_ViewOf.f
 repeat' first
   | (with_reducible exact impl_Steps.mono _ _)
   | (with_reducible exact LeO.refl _)
   | (with_reducible exact LeO.none _)
   | (with_reducible refine LeO.ite ?_ ?_)
   | (with_reducible refine LeO.bind ?_ (fun _ => ?_))
   | exact impl_Steps.mono _ _
   | exact LeO.none _
   | refine LeO.ite ?_ ?_
   | refine LeO.bind ?_ (fun _ => ?_)
theorem impl_ViewOf.calls (k : Nat) (a0 : ByteArray) (r : Int) (w : World) (hL : LaidW w) (h : impl_ViewOf.f k a0 = some r) :
  Calls Tryz.prog 22 #[.string a0] w fun e w' => e = .returned (.int .i64 r) ∧ Below w.heap.size w w' := by
 have HL0 := Aside0.mk hL
 clear hL
 have HB := Aside0.mk (Below.refl w.heap.size w)
 have H : ((impl_Steps.f k a0).bind fun bt500 => (if (bt500.1.length : Int) = 0 then (some 0) else (if 0 ≤ (wrap64 ((bt500.1.length : Int) - 1)) then (if (wrap64 ((bt500.1.length : Int) - 1)) < (bt500.1.length : Int) then (some ((rd_T41 bt500.1 (wrap64 ((bt500.1.length : Int) - 1))).f0)) else (none)) else (none)))) = some r := h
 clear h
 replace H := Option.bind_eq_some_iff.mp H
 obtain ⟨⟨t500, t501⟩, A20, H⟩ := H
 replace H : (if (t500.length : Int) = 0 then (some 0) else (if 0 ≤ (wrap64 ((t500.length : Int) - 1)) then (if (wrap64 ((t500.length : Int) - 1)) < (t500.length : Int) then (some ((rd_T41 t500 (wrap64 ((t500.length : Int) - 1))).f0)) else (none)) else (none))) = some r := H
 have A2 := Aside0.mk A20
 clear A20
 have HF := Aside0.mk H
 clear H
 go_enter Tryz.func22, Tryz.ntmps22
 go_upto_if 12 with (go_big_may; first | ((with_reducible refine gate_callee (f := 6) rfl ?_); refine goesL_ (some 7) rfl rfl Tryz.func6 (by kernel_rfl) rfl #[.string a0] rfl (by (try simp only [List.map_toArray, List.map_cons, List.map_nil]); first | done | rfl) ?_; (with_reducible refine (impl_Steps.calls k a0 t500 t501 _ ?side1 A2.out).mono ?_); (case side1 => exact LaidW.below HL0.out (by repeat (first | exact HB.out | apply below_alloc | apply pw_below_drewN | apply below_drew1))); rintro e w3 ⟨v502, rfl, ho0, hb⟩; refine ⟨_, rfl, ?_⟩; have n0_ := Aside0.mk (Kd.S_lower ho0 (below_size (by repeat (first | exact HB.out | apply below_alloc | apply pw_below_drewN | apply below_drew1)))); have n1_ := Aside0.mk (below_step (by repeat (first | exact HB.out | apply below_alloc | apply pw_below_drewN | apply below_drew1)) hb); clear HB; have HO503 := n0_; have HB := n1_; clear n0_ n1_; (try clear hb); (try clear ho0); obtain ⟨Ao4, co4, eo4⟩ := Kd.S_slice HO503.out; subst eo4))
 have H := HF.out
 clear HF
 by_cases c5 : (t500.length : Int) = 0
 ·rw [if_pos c5] at H
  have c5b0 : ((t500.length : Int) == 0) = true := beq_iff_eq.mpr c5
  have c5b1 : ((t500.length : Int) != 0) = false := bne_eq_false_iff_eq.mpr c5
  clear c5
  (first | rw [c5b0] | (simp only [i64_w, i32_w]; rw [c5b0]) | skip)
  obtain rfl := Option.some.inj H
  go_wp2
  go_ret
  exact ⟨by first | rfl | (simp [*] <;> rfl), by repeat (first | exact HB.out | apply below_alloc | apply pw_below_drewN | apply below_drew1)⟩
 ·rw [if_neg c5] at H
  have c5b0 : ((t500.length : Int) == 0) = false := beq_eq_false_iff_ne.mpr c5
  have c5b1 : ((t500.length : Int) != 0) = true := bne_iff_ne.mpr c5
  have c5b2 : ¬ (t500 = []) := fun h_ => c5 (by rw [h_]; rfl)
  (first | rw [c5b0] | (simp only [i64_w, i32_w]; rw [c5b0]) | skip)
  obtain ⟨ji6, hji6⟩ : ∃ j_ : Int, (wrap64 ((t500.length : Int) - 1)) = j_ := ⟨_, rfl⟩
  replace H : (if 0 ≤ (ji6) then (if (ji6) < (t500.length : Int) then (some ((rd_T41 t500 (ji6)).f0)) else (none)) else (none)) = some r := by first | (rw [hji6] at H; exact H) | (simp only [hji6] at H ⊢; exact H)
  have hji6w : (IntKind.i64.wrap ((t500.length : Int) - 1)) = ji6 := (i64_w _).trans hji6
  by_cases c7 : 0 ≤ (ji6)
  ·rw [if_pos c7] at H
   have c7b0 : decide (0 ≤ (ji6)) = true := decide_eq_true c7
   clear c7
   by_cases c8 : (ji6) < (t500.length : Int)
   ·rw [if_pos c8] at H
    have c8b0 : decide ((ji6) < (t500.length : Int)) = true := decide_eq_true c8
    clear c8
    obtain rfl := Option.some.inj H
    have p504 : 0 ≤ ((ji6) : Int) := of_decide_eq_true (by first | (with_reducible assumption) | assumption)
    have q504 : (ji6) < (t500.length : Int) := of_decide_eq_true (by first | (with_reducible assumption) | assumption)
    obtain ⟨ad504, A504_1, c504_1, e504, hx504_0, hx504_1, hl504_1, hi504_1⟩ := at_T41 (Kd.S_reads' HO503.out).2.2 (ji6) p504 q504
    cases e504
    obtain ⟨ce504, hce504, hMe504, hcc504⟩ := Kd.S_get HO503.out z41 (ji6) p504 (by first | exact q504 | exact of_decide_eq_true (by first | (with_reducible assumption) | assumption) | (have e_ := (Kd.S_reads' HO503.out).1; omega))
    obtain ⟨ve504_1, rfl, ge504_1⟩ := k41_openM hMe504
    have hv504_1 := hcc504 1 _ rfl
    rw [add_field _ _ 1 (by omega)] at hv504_1
    replace hv504_1 := Option.some.inj (hv504_1.symm.trans hx504_1)
    rw [hv504_1] at ge504_1
    have HL504_1 := Aside0.mk (show Kd.R k60 60 _ _ _ _ ((rd_T41 t500 (ji6)).f1) from ge504_1)
    clear hv504_1 ge504_1
    clear hcc504 hce504
    have HR504_1 := Aside0.mk hi504_1
    have HC504_1 := Aside0.mk hl504_1
    clear hi504_1 hl504_1
    replace p504 := eq_true p504
    replace q504 := eq_true q504
    go_wp2
    go_ret
    exact ⟨by first | rfl | (simp [errW_none, errW_some] <;> rfl) | (simp only [← hji6]; first | rfl | (simp [errW_none, errW_some] <;> rfl)) | (simp [*, errW_none, errW_some] <;> rfl), by repeat (first | exact HB.out | apply below_alloc | apply pw_below_drewN | apply below_drew1)⟩
   ·rw [if_neg c8] at H
    exact absurd H (by simp)
  ·rw [if_neg c7] at H
   exact absurd H (by simp)

/-! ### impl_TxsIn: function 25 -/
def impl_TxsIn.l0 : Nat → List (S60) → List (S41) → Int → Int → Option ((List (S60)))
 | 0, _, _, _, _ => none
 | k + 1, x5, x13, x14, x15 => if x15 < x14 then (if 0 ≤ x15 then (if x15 < (x13.length : Int) then (if x5.length + ((rd_T41 x13 x15).f1).length < 4398046511104 then (impl_TxsIn.l0 k (x5 ++ ((rd_T41 x13 x15).f1)) x13 x14 (wrap64 (x15 + 1))) else (none)) else (none)) else (none)) else (some x5)
def impl_TxsIn.f (k : Nat) (a0 : ByteArray) : Option ((List (S60))) := (impl_Steps.f k a0).bind fun bt505 => (impl_TxsIn.l0 k ([] : List (S60)) bt505.1 (bt505.1.length : Int) 0)
theorem impl_TxsIn.mono_l : ∀ k, (∀ y0 y1 y2 y3, LeO (impl_TxsIn.l0 k y0 y1 y2 y3) (impl_TxsIn.l0 (k + 1) y0 y1 y2 y3))
 | 0 => fun _ _ _ _ r h => by simp [impl_TxsIn.l0] at h
 | k + 1 => by
  have ih0 := impl_TxsIn.mono_l k
  ·intro y0 y1 y2 y3
   unfold impl_TxsIn.l0
   repeat' first
   | (with_reducible exact ih0 _ _ _ _)
   | (with_reducible exact impl_Steps.mono _ _)
   | (with_reducible exact LeO.refl _)
   | (with_reducible exact LeO.none _)
   | (with_reducible refine LeO.ite ?_ ?_)
   | (with_reducible refine LeO.bind ?_ (fun _ => ?_))
   | exact ih0 _ _ _ _
   | exact impl_Steps.mono _ _
   | exact LeO.none _
   | refine LeO.ite ?_ ?_
   | refine LeO.bind ?_ (fun _ => ?_)
theorem impl_TxsIn.mono : ∀ a0 k, LeO (impl_TxsIn.f k a0) (impl_TxsIn.f (k + 1) a0) := by
 intro a0 k
 have ih0 := impl_TxsIn.mono_l k
 unfold impl_TxsIn.f
 repeat' first
   | (with_reducible exact ih0 _ _ _ _)
   | (with_reducible exact impl_Steps.mono _ _)
   | (with_reducible exact LeO.refl _)
   | (with_reducible exact LeO.none _)
   | (with_reducible refine LeO.ite ?_ ?_)
   | (with_reducible refine LeO.bind ?_ (fun _ => ?_))
   | exact ih0 _ _ _ _
   | exact impl_Steps.mono _ _
   | exact LeO.none _
   | refine LeO.ite ?_ ?_
   | refine LeO.bind ?_ (fun _ => ?_)
theorem impl_TxsIn.calls (k : Nat) (a0 : ByteArray) (r : List (S60)) (w : World) (hL : LaidW w) (h : impl_TxsIn.f k a0 = some r) :
  Calls Tryz.prog 25 #[.string a0] w fun e w' => ∃ v0_ : Value, e = .returned (v0_) ∧ Kd.R k60 60 w' w.heap.size (fun _ => True) v0_ r ∧ Below w.heap.size w w' := by
 have hu41 := Tryz.underlying41
 have HL0 := Aside0.mk hL
 clear hL
 have HB := Aside0.mk (Below.refl w.heap.size w)
 have H : ((impl_Steps.f k a0).bind fun bt505 => (impl_TxsIn.l0 k ([] : List (S60)) bt505.1 (bt505.1.length : Int) 0)) = some r := h
 clear h
 replace H := Option.bind_eq_some_iff.mp H
 obtain ⟨⟨t505, t506⟩, A20, H⟩ := H
 replace H : (impl_TxsIn.l0 k ([] : List (S60)) t505 (t505.length : Int) 0) = some r := H
 have A2 := Aside0.mk A20
 clear A20
 have H' := Aside0.mk H
 clear H
 go_enter Tryz.func25, Tryz.ntmps25
 go_wp2_with (first | ((with_reducible refine gate_callee (f := 6) rfl ?_); refine goesL_ (some 10) rfl rfl Tryz.func6 (by kernel_rfl) rfl #[.string a0] rfl (by (try simp only [List.map_toArray, List.map_cons, List.map_nil]); first | done | rfl) ?_; (with_reducible refine (impl_Steps.calls k a0 t505 t506 _ ?side1 A2.out).mono ?_); (case side1 => exact LaidW.below HL0.out (by repeat (first | exact HB.out | apply below_alloc | apply pw_below_drewN | apply below_drew1))); rintro e w3 ⟨v507, rfl, ho0, hb⟩; refine ⟨_, rfl, ?_⟩; have n0_ := Aside0.mk (Kd.S_lower ho0 (below_size (by repeat (first | exact HB.out | apply below_alloc | apply pw_below_drewN | apply below_drew1)))); have n1_ := Aside0.mk (below_step (by repeat (first | exact HB.out | apply below_alloc | apply pw_below_drewN | apply below_drew1)) hb); clear HB; have HO508 := n0_; have HB := n1_; clear n0_ n1_; (try clear hb); (try clear ho0); obtain ⟨Ao4, co4, eo4⟩ := Kd.S_slice HO508.out; subst eo4))
 go_loopg [5, 15] k (fun kq v5 v15 w' => ∃ (x5_1 : List (S60)) (x15_1 : Int), v15 = .int .i64 x15_1 ∧ Aside0 (impl_TxsIn.l0 kq x5_1 t505 (t505.length : Int) x15_1 = some r) ∧ Aside0 (kq ≤ k) ∧ Aside0 (Kd.R k60 60 w' w.heap.size (fun _ => True) v5 x5_1) ∧ Aside0 (Kd.S k41 41 w' w.heap.size (fun k_ => some k_ ≠ (v5 : Value).ownBlock) (.slice Ao4 t505.length co4) t505) ∧ Aside0 (Below w.heap.size w w'))
 case atStart => exact ⟨(([] : List (S60))), (0), (by first | rfl | (simp; done) | (simp [*]; done)), H', ⟨Nat.le_refl _⟩, ⟨by first | exact Kd.R_nil _ _ _ _ _ | exact Kd.N_nil _ _ _ _ _ | exact Kd.V_nil _ _ _ _ _ | exact Kd.Q_nil _ _ _ _ _ | exact Kd.S_nil _ _ _ _ _⟩, ⟨by (with_reducible repeat (first | apply Kd.S_alloc | apply Kd.S_drewN | apply Kd.S_drew)); exact Kd.S_mono HO508.out (fun _ hk => (by simp [Value.ownBlock]))⟩, ⟨by repeat (first | exact HB.out | apply below_alloc | apply pw_below_drewN | apply below_drew1)⟩⟩
 case round =>
  clear H'
  try clear c2
  try clear p2
  obtain ⟨x5_1, x15_1, rfl, HA, HK1, HO_5, HO_13, HB⟩ := hrel
  cases gk with
  | zero => exact absurd HA.out (by simp [impl_TxsIn.l0])
  | succ k1 =>
   have H := HA.out
   clear HA
   simp only [impl_TxsIn.l0] at H
   have HF := Aside0.mk H
   clear H
   go_upto_if 16 with (fail)
   have H := HF.out
   clear HF
   by_cases c5 : x15_1 < (t505.length : Int)
   ·rw [if_pos c5] at H
    have c5b0 : decide (x15_1 < (t505.length : Int)) = true := decide_eq_true c5
    clear c5
    (first | rw [c5b0] | (simp only [i64_w, i32_w]; rw [c5b0]) | skip)
    by_cases c6 : 0 ≤ x15_1
    ·rw [if_pos c6] at H
     have c6b0 : decide (0 ≤ x15_1) = true := decide_eq_true c6
     clear c6
     by_cases c7 : x15_1 < (t505.length : Int)
     ·rw [if_pos c7] at H
      have c7b0 : decide (x15_1 < (t505.length : Int)) = true := decide_eq_true c7
      clear c7
      by_cases c8 : x5_1.length + ((rd_T41 t505 x15_1).f1).length < 4398046511104
      ·rw [if_pos c8] at H
       have LMc8 := Aside0.mk c8
       clear c8
       obtain ⟨y511, hy511⟩ : ∃ y_ : List (S60), y_ = (x5_1 ++ ((rd_T41 t505 x15_1).f1)) := ⟨_, rfl⟩
       replace H : (impl_TxsIn.l0 k1 y511 t505 (t505.length : Int) (wrap64 (x15_1 + 1))) = some r := by first | (rw [hy511]; with_reducible exact H) | (have H2_ := (Option.bind_some _ _).symm.trans H; rw [hy511]; with_reducible exact H2_) | (have H2_ := (Option.bind_some _ _).symm.trans H; with_reducible exact H2_) | with_reducible exact H | (rw [hy511]; exact H) | exact H
       have Ny511 := Aside0.mk hy511
       clear hy511
       have H' := Aside0.mk H
       clear H
       have p509 : 0 ≤ (x15_1 : Int) := of_decide_eq_true (by first | (with_reducible assumption) | assumption)
       have q509 : x15_1 < (t505.length : Int) := of_decide_eq_true (by first | (with_reducible assumption) | assumption)
       obtain ⟨ad509, A509_1, c509_1, e509, hx509_0, hx509_1, hl509_1, hi509_1⟩ := at_T41 (Kd.S_reads' HO_13.out).2.2 x15_1 p509 q509
       cases e509
       obtain ⟨ce509, hce509, hMe509, hcc509⟩ := Kd.S_get HO_13.out z41 x15_1 p509 (by first | exact q509 | exact of_decide_eq_true (by first | (with_reducible assumption) | assumption) | (have e_ := (Kd.S_reads' HO_13.out).1; omega))
       obtain ⟨ve509_1, rfl, ge509_1⟩ := k41_openM hMe509
       have hv509_1 := hcc509 1 _ rfl
       rw [add_field _ _ 1 (by omega)] at hv509_1
       replace hv509_1 := Option.some.inj (hv509_1.symm.trans hx509_1)
       rw [hv509_1] at ge509_1
       have HL509_1 := Aside0.mk (show Kd.R k60 60 _ _ _ _ ((rd_T41 t505 x15_1).f1) from ge509_1)
       clear hv509_1 ge509_1
       clear hcc509 hce509
       have HR509_1 := Aside0.mk hi509_1
       have HC509_1 := Aside0.mk hl509_1
       clear hi509_1 hl509_1
       replace p509 := eq_true p509
       replace q509 := eq_true q509
       go_wp2_with (first | ((with_reducible refine gate_dst (N := 7) rfl ?_); refine box_event ?hg (N := 7) ?hd (cs := #[.int .i64 0, .slice none 0 0]) (t := 41) ?hr ?_; (case hd => rfl); (case hg => rfl); (case hr => first | (go_simp; done) | (go_simp; rfl)); intro gb510 hg w9 hbox hb; have n0_ := Aside0.mk (Kd.R_below (by (with_reducible repeat (first | apply Kd.R_alloc | apply Kd.R_drewN | apply Kd.R_drew)); exact HO_5.out) hb); have n1_ := Aside0.mk (Kd.S_below (Kd.S_elderB (by (with_reducible repeat (first | apply Kd.S_alloc | apply Kd.S_drewN | apply Kd.S_drew)); exact HO_13.out) gb510 (Nat.le_of_eq hg.symm)) hb); have n2_ := Aside0.mk (Kd.R_below (by (with_reducible repeat (first | apply Kd.R_alloc | apply Kd.R_drewN | apply Kd.R_drew)); exact HL509_1.out) hb); have n3_ := Aside0.mk (Kd.C_below (by repeat (first | (with_reducible exact HR509_1.out) | (with_reducible refine Kd.C_alloc ?_ _) | (with_reducible refine Kd.C_drewN ?_ _) | (with_reducible refine Kd.C_drew ?_) | exact HR509_1.out)) hb); have n4_ := Aside0.mk (below_step (by repeat (first | exact HB.out | apply below_alloc | apply pw_below_drewN | apply below_drew1)) hb); have n5_ := Aside0.mk (hbox); have n6_ := Aside0.mk ((by rw [hg]; exact (below_size (by repeat (first | exact HB.out | apply below_alloc | apply pw_below_drewN | apply below_drew1))) : w.heap.size ≤ gb510)); have n7_ := Aside0.mk ((by rw [hg]; exact (below_size (by repeat (first | exact HB.out | apply below_alloc | apply pw_below_drewN | apply below_drew1))) : w.heap.size ≤ gb510)); clear HO_5; clear HO_13; clear HL509_1; clear HR509_1; clear HB; have HO_5 := n0_; have HO_13 := n1_; have HL509_1 := n2_; have HR509_1 := n3_; have HB := n4_; have BK510 := n5_; have GW510 := n6_; have GE510 := n7_; clear n0_ n1_ n2_ n3_ n4_ n5_ n6_ n7_; clear hb hbox hg; have hcz10_0 : w9.cell? ⟨gb510, 0, none⟩ = some (.int .i64 0) := (blk_cell BK510.out 0).trans rfl; have hcz10_1 : w9.cell? ⟨gb510, 1, none⟩ = some (.slice none 0 0) := (blk_cell BK510.out 1).trans rfl; have hfz10_0 := blk_frozen BK510.out 0; have hfz10_1 := blk_frozen BK510.out 1) | ((with_reducible refine gate_builtin (b := .append) (xs := #[.tmp 19, .tmp 21]) rfl ?_); at_builtin; refine Kd.R_append_rows k60 (w0 := w) w.heap.size rfl (.tmp 19) (.tmp 21) 30 60 (.agg #[(.int .i64 0), (.int .i64 0), (.int .i64 0), (.int .i64 0)]) 32 rfl Tryz.underlying30 info60 rfl (by decide) (by omega) u5 x5_1 ((rd_T41 t505 x15_1).f1) _ _ _ (fun _ => True) (fun _ => False) rfl rfl ?aO ?aR (fun _ _ h => h) (fun _ h => h.elim) ?aF ?aB ?aS ?aL ?_; (case aR => repeat (first | exact ((Kd.R_reads' (by (with_reducible repeat (first | apply Kd.R_alloc | apply Kd.R_drewN | apply Kd.R_drew)); exact (Kd.R_mono (Kd.R_far (p := ⟨gb510, 1, none⟩) (Kd.R_far (p := ⟨gb510, 0, none⟩) (Kd.R_types HL509_1.out BK510.out (by decide)) (fun _ hk => hk.2) (.int .i64 ((rd_T41 t505 x15_1).f0))) (fun _ hk => hk.2) (.slice A509_1 ((rd_T41 t505 x15_1).f1).length c509_1)) (fun _ h_ => h_.1)))).2.2) | (with_reducible refine Kd.C_alloc ?_ _) | (with_reducible refine Kd.C_drewN ?_ _) | (with_reducible refine Kd.C_drew ?_))); (case aB => exact (by repeat (first | (with_reducible first | exact HB.out | apply below_alloc | apply pw_below_drewN | apply below_drew1 | refine below_set ?_ GE510.out) | exact HB.out))); (case aF => exact (fun _ _ => trivial)); (case aO => exact (by (with_reducible repeat (first | apply Kd.R_alloc | apply Kd.R_drewN | apply Kd.R_drew)); exact Kd.R_mono (Kd.R_far (p := ⟨gb510, 1, none⟩) (Kd.R_far (p := ⟨gb510, 0, none⟩) (Kd.R_types HO_5.out BK510.out (by decide)) (fun _ hk => hk.2) (.int .i64 ((rd_T41 t505 x15_1).f0))) (fun _ hk => hk.2) (.slice A509_1 ((rd_T41 t505 x15_1).f1).length c509_1)) (fun _ hk => trivial))); (case aS => exact (below_size (by repeat (first | (with_reducible first | exact HB.out | apply below_alloc | apply pw_below_drewN | apply below_drew1 | refine below_set ?_ GE510.out) | exact HB.out)))); (case aL => have := LMc8.out; omega); intro v512 w11 ho hb hg hat; rw [← Ny511.out] at ho; have n0_ := Aside0.mk (Kd.S_after (ok := (fun k_ => k_ ≠ gb510)) (by (with_reducible repeat (first | apply Kd.S_alloc | apply Kd.S_drewN | apply Kd.S_drew)); exact Kd.S_mono (Kd.S_far (p := ⟨gb510, 1, none⟩) (Kd.S_far (p := ⟨gb510, 0, none⟩) (Kd.S_mono HO_13.out (fun k_ hk => (⟨hk, hk.2⟩ : _ ∧ k_ ≠ gb510))) (fun _ hk => hk.2) (.int .i64 ((rd_T41 t505 x15_1).f0))) (fun _ hk => hk.2) (.slice A509_1 ((rd_T41 t505 x15_1).f1).length c509_1)) (fun _ hk => ⟨hk.1.2, hk.1.1⟩)) hg hat); have n1_ := Aside0.mk (Kd.R_after (ok := (fun k_ => some k_ ≠ (.slice (some ad509) t505.length co4 : Value).ownBlock)) (by (with_reducible repeat (first | apply Kd.R_alloc | apply Kd.R_drewN | apply Kd.R_drew)); exact Kd.R_mono (Kd.R_far (p := ⟨gb510, 1, none⟩) (Kd.R_far (p := ⟨gb510, 0, none⟩) (Kd.R_types HL509_1.out BK510.out (by decide)) (fun _ hk => hk.2) (.int .i64 ((rd_T41 t505 x15_1).f0))) (fun _ hk => hk.2) (.slice A509_1 ((rd_T41 t505 x15_1).f1).length c509_1)) (fun _ hk => ⟨hk.1.2, hk.1.1⟩)) hg hat); have n2_ := Aside0.mk (blk_grown (g := gb510) (o := .cells #[.int .i64 ((rd_T41 t505 x15_1).f0), .slice A509_1 ((rd_T41 t505 x15_1).f1).length c509_1] 41 (0, 0)) (by (with_reducible repeat (first | refine blk_drewN ?_ _ | refine blk_drew ?_ | refine blk_alloc ?_ _)); refine blk_put (cs := #[.int .i64 ((rd_T41 t505 x15_1).f0), .slice none 0 0]) ?_ 1 _ rfl; (with_reducible repeat (first | refine blk_drewN ?_ _ | refine blk_drew ?_ | refine blk_alloc ?_ _)); refine blk_put (cs := #[.int .i64 0, .slice none 0 0]) ?_ 0 _ rfl; (with_reducible repeat (first | refine blk_drewN ?_ _ | refine blk_drew ?_ | refine blk_alloc ?_ _)); exact BK510.out) hg (Kd.R_ne HO_5.out BK510.out (by decide))); have n3_ := Aside0.mk (hb); have n4_ := Aside0.mk (ho); clear HO_13; clear HL509_1; clear BK510; clear HB; clear HO_5; have HO_13 := n0_; have HL509_1 := n1_; have BK510 := n2_; have HB := n3_; have HO513 := n4_; clear n0_ n1_ n2_ n3_ n4_; clear ho hb hg hat))
       go_roundg k1
       case measure => have := HK1.out; omega
       case rel => exact ⟨(y511), (wrap64 (x15_1 + 1)), (by first | rfl | (simp; done) | (simp [*]; done)), H', ⟨by have := HK1.out; omega⟩, ⟨by (with_reducible repeat (first | apply Kd.R_alloc | apply Kd.R_drewN | apply Kd.R_drew)); exact HO513.out⟩, ⟨by (with_reducible repeat (first | apply Kd.S_alloc | apply Kd.S_drewN | apply Kd.S_drew)); exact Kd.S_mono HO_13.out (fun _ hk => hk.2)⟩, ⟨by repeat (first | (with_reducible first | exact HB.out | apply below_alloc | apply pw_below_drewN | apply below_drew1 | refine below_set ?_ GE510.out) | exact HB.out)⟩⟩
      ·rw [if_neg c8] at H
       exact absurd H (by simp)
     ·rw [if_neg c7] at H
      exact absurd H (by simp)
    ·rw [if_neg c6] at H
     exact absurd H (by simp)
   ·rw [if_neg c5] at H
    have c5b0 : decide (x15_1 < (t505.length : Int)) = false := decide_eq_false c5
    clear c5
    (first | rw [c5b0] | (simp only [i64_w, i32_w]; rw [c5b0]) | skip)
    obtain rfl := Option.some.inj H
    go_wp2
    go_ret
    exact ⟨_, by first | rfl | (simp [*] <;> rfl), by (with_reducible repeat (first | apply Kd.R_alloc | apply Kd.R_drewN | apply Kd.R_drew)); exact HO_5.out, by repeat (first | exact HB.out | apply below_alloc | apply pw_below_drewN | apply below_drew1)⟩

/-! ### spec_TxsIn: function 27 -/
def spec_TxsIn.l0 : Nat → List (S60) → List (S41) → Int → Option ((List (S60)))
 | 0, _, _, _ => none
 | k + 1, x3, x4, x6 => if x6 < (x4.length : Int) then (if 0 ≤ x6 then (if x3.length + ((rd_T41 x4 x6).f1).length < 4398046511104 then (spec_TxsIn.l0 k (x3 ++ ((rd_T41 x4 x6).f1)) x4 (wrap64 (x6 + 1))) else (none)) else (none)) else (some x3)
def spec_TxsIn.f (k : Nat) (a0 : ByteArray) : Option ((List (S60))) := (spec_Steps.f k a0).bind fun bt517 => (spec_TxsIn.l0 k (([] : List (S60))) bt517.1 0)
theorem spec_TxsIn.mono_l : ∀ k, (∀ y0 y1 y2, LeO (spec_TxsIn.l0 k y0 y1 y2) (spec_TxsIn.l0 (k + 1) y0 y1 y2))
 | 0 => fun _ _ _ r h => by simp [spec_TxsIn.l0] at h
 | k + 1 => by
  have ih0 := spec_TxsIn.mono_l k
  ·intro y0 y1 y2
   unfold spec_TxsIn.l0
   repeat' first
   | (with_reducible exact ih0 _ _ _)
   | (with_reducible exact spec_Steps.mono _ _)
   | (with_reducible exact LeO.refl _)
   | (with_reducible exact LeO.none _)
   | (with_reducible refine LeO.ite ?_ ?_)
   | (with_reducible refine LeO.bind ?_ (fun _ => ?_))
   | exact ih0 _ _ _
   | exact spec_Steps.mono _ _
   | exact LeO.none _
   | refine LeO.ite ?_ ?_
   | refine LeO.bind ?_ (fun _ => ?_)
theorem spec_TxsIn.mono : ∀ a0 k, LeO (spec_TxsIn.f k a0) (spec_TxsIn.f (k + 1) a0) := by
 intro a0 k
 have ih0 := spec_TxsIn.mono_l k
 unfold spec_TxsIn.f
 repeat' first
   | (with_reducible exact ih0 _ _ _)
   | (with_reducible exact spec_Steps.mono _ _)
   | (with_reducible exact LeO.refl _)
   | (with_reducible exact LeO.none _)
   | (with_reducible refine LeO.ite ?_ ?_)
   | (with_reducible refine LeO.bind ?_ (fun _ => ?_))
   | exact ih0 _ _ _
   | exact spec_Steps.mono _ _
   | exact LeO.none _
   | refine LeO.ite ?_ ?_
   | refine LeO.bind ?_ (fun _ => ?_)
theorem spec_TxsIn.calls (k : Nat) (a0 : ByteArray) (r : List (S60)) (w : World) (h : spec_TxsIn.f k a0 = some r) :
  Calls Tryz.prog 27 #[.string a0] w fun e w' => ∃ v0_ : Value, e = .returned (v0_) ∧ Kd.R k60 60 w' w.heap.size (fun _ => True) v0_ r ∧ Below w.heap.size w w' := by
 have HB := Aside0.mk (Below.refl w.heap.size w)
 have H : ((spec_Steps.f k a0).bind fun bt517 => (spec_TxsIn.l0 k (([] : List (S60))) bt517.1 0)) = some r := h
 clear h
 obtain ⟨y514, hy514⟩ : ∃ y_ : List (S60), y_ = (([] : List (S60))) := ⟨_, rfl⟩
 replace H : ((spec_Steps.f k a0).bind fun bt517 => (spec_TxsIn.l0 k y514 bt517.1 0)) = some r := by first | (rw [hy514]; with_reducible exact H) | (have H2_ := (Option.bind_some _ _).symm.trans H; rw [hy514]; with_reducible exact H2_) | (have H2_ := (Option.bind_some _ _).symm.trans H; with_reducible exact H2_) | with_reducible exact H | (rw [hy514]; exact H) | exact H
 have Ny514 := Aside0.mk hy514
 clear hy514
 replace H := Option.bind_eq_some_iff.mp H
 obtain ⟨⟨t517, t518⟩, A20, H⟩ := H
 replace H : (spec_TxsIn.l0 k y514 t517 0) = some r := H
 have A2 := Aside0.mk A20
 clear A20
 have H' := Aside0.mk H
 clear H
 go_enter Tryz.func27, Tryz.ntmps27
 go_wp2_with (first | ((with_reducible refine gate_dst (N := 7) rfl ?_); refine Kd.R_lit k60 _ 60 ?hg (N := 7) ?hd (xs := ([] : List (S60))) (inner := []) (ok := fun _ => True) (okp := fun _ => True) ?hr ?hp (fun _ hk => hk) trivial (Below.refl _ _) (Nat.le_refl _) (by simp) ?_; (case hd => rfl); (case hg => rfl); (case hr => first | (go_simp; done) | (go_simp; rfl)); (case hp => exact (Reps.none _ _)); intro v515 w3 ho4 hb hg_ hnew_; clear hg_ hnew_; (first | rw [← Ny514.out] at ho4 | (simp only [Int.reduceToNat] at ho4; rw [← Ny514.out] at ho4)); have n0_ := Aside0.mk (Kd.R_lower ho4 (below_size (by repeat (first | exact HB.out | apply below_alloc | apply pw_below_drewN | apply below_drew1)))); have n1_ := Aside0.mk (below_step (by repeat (first | exact HB.out | apply below_alloc | apply pw_below_drewN | apply below_drew1)) hb); clear HB; have HO516 := n0_; have HB := n1_; clear n0_ n1_; clear hb ho4) | ((with_reducible refine gate_callee (f := 7) rfl ?_); refine goesL_ (some 10) rfl rfl Tryz.func7 (by kernel_rfl) rfl #[.string a0] rfl (by (try simp only [List.map_toArray, List.map_cons, List.map_nil]); first | done | rfl) ?_; (with_reducible refine (spec_Steps.calls k a0 t517 t518 _ A2.out).mono ?_); rintro e w5 ⟨v519, rfl, ho0, hb⟩; refine ⟨_, rfl, ?_⟩; have n0_ := Aside0.mk (Kd.R_below (by (with_reducible repeat (first | apply Kd.R_alloc | apply Kd.R_drewN | apply Kd.R_drew)); exact HO516.out) hb); have n1_ := Aside0.mk (Kd.S_lower (Kd.S_new' ho0 (Kd.R_lt (by (with_reducible repeat (first | apply Kd.R_alloc | apply Kd.R_drewN | apply Kd.R_drew)); exact HO516.out))) (below_size (by repeat (first | exact HB.out | apply below_alloc | apply pw_below_drewN | apply below_drew1)))); have n2_ := Aside0.mk (below_step (by repeat (first | exact HB.out | apply below_alloc | apply pw_below_drewN | apply below_drew1)) hb); clear HO516; clear HB; have HO516 := n0_; have HO520 := n1_; have HB := n2_; clear n0_ n1_ n2_; (try clear hb); (try clear hk); (try clear ho0)))
 go_loopg [3, 6] k (fun kq v3 v6 w' => ∃ (x3_1 : List (S60)) (x6_1 : Int), v6 = .int .i64 x6_1 ∧ Aside0 (spec_TxsIn.l0 kq x3_1 t517 x6_1 = some r) ∧ Aside0 (kq ≤ k) ∧ Aside0 (Kd.R k60 60 w' w.heap.size (fun _ => True) v3 x3_1) ∧ Aside0 (Kd.S k41 41 w' w.heap.size (fun k_ => some k_ ≠ (v3 : Value).ownBlock) v519 t517) ∧ Aside0 (Below w.heap.size w w'))
 case atStart => exact ⟨(y514), (0), (by first | rfl | (simp; done) | (simp [*]; done)), H', ⟨Nat.le_refl _⟩, ⟨by (with_reducible repeat (first | apply Kd.R_alloc | apply Kd.R_drewN | apply Kd.R_drew)); exact HO516.out⟩, ⟨by (with_reducible repeat (first | apply Kd.S_alloc | apply Kd.S_drewN | apply Kd.S_drew)); exact Kd.S_mono HO520.out (fun _ hk => hk.2)⟩, ⟨by repeat (first | exact HB.out | apply below_alloc | apply pw_below_drewN | apply below_drew1)⟩⟩
 case round =>
  clear H'
  try clear c2
  try clear p2
  obtain ⟨x3_1, x6_1, rfl, HA, HK1, HO_3, HO_4, HB⟩ := hrel
  cases gk with
  | zero => exact absurd HA.out (by simp [spec_TxsIn.l0])
  | succ k1 =>
   have H := HA.out
   clear HA
   simp only [spec_TxsIn.l0] at H
   have HF := Aside0.mk H
   clear H
   obtain ⟨Ao6, co6, eo6⟩ := Kd.S_slice HO_4.out
   subst eo6
   go_upto_if 16 with (fail)
   have H := HF.out
   clear HF
   by_cases c7 : x6_1 < (t517.length : Int)
   ·rw [if_pos c7] at H
    have c7b0 : decide (x6_1 < (t517.length : Int)) = true := decide_eq_true c7
    clear c7
    (first | rw [c7b0] | (simp only [i64_w, i32_w]; rw [c7b0]) | skip)
    by_cases c8 : 0 ≤ x6_1
    ·rw [if_pos c8] at H
     have c8b0 : decide (0 ≤ x6_1) = true := decide_eq_true c8
     clear c8
     by_cases c9 : x3_1.length + ((rd_T41 t517 x6_1).f1).length < 4398046511104
     ·rw [if_pos c9] at H
      have LMc9 := Aside0.mk c9
      clear c9
      obtain ⟨y522, hy522⟩ : ∃ y_ : List (S60), y_ = (x3_1 ++ ((rd_T41 t517 x6_1).f1)) := ⟨_, rfl⟩
      replace H : (spec_TxsIn.l0 k1 y522 t517 (wrap64 (x6_1 + 1))) = some r := by first | (rw [hy522]; with_reducible exact H) | (have H2_ := (Option.bind_some _ _).symm.trans H; rw [hy522]; with_reducible exact H2_) | (have H2_ := (Option.bind_some _ _).symm.trans H; with_reducible exact H2_) | with_reducible exact H | (rw [hy522]; exact H) | exact H
      have Ny522 := Aside0.mk hy522
      clear hy522
      have H' := Aside0.mk H
      clear H
      have p521 : 0 ≤ (x6_1 : Int) := of_decide_eq_true (by first | (with_reducible assumption) | assumption)
      have q521 : x6_1 < (t517.length : Int) := of_decide_eq_true (by first | (with_reducible assumption) | assumption)
      obtain ⟨ad521, A521_1, c521_1, e521, hx521_0, hx521_1, hl521_1, hi521_1⟩ := at_T41 (Kd.S_reads' HO_4.out).2.2 x6_1 p521 q521
      cases e521
      obtain ⟨ce521, hce521, hMe521, hcc521⟩ := Kd.S_get HO_4.out z41 x6_1 p521 (by first | exact q521 | exact of_decide_eq_true (by first | (with_reducible assumption) | assumption) | (have e_ := (Kd.S_reads' HO_4.out).1; omega))
      obtain ⟨ve521_1, rfl, ge521_1⟩ := k41_openM hMe521
      have hv521_1 := hcc521 1 _ rfl
      rw [add_field _ _ 1 (by omega)] at hv521_1
      replace hv521_1 := Option.some.inj (hv521_1.symm.trans hx521_1)
      rw [hv521_1] at ge521_1
      have HL521_1 := Aside0.mk (show Kd.R k60 60 _ _ _ _ ((rd_T41 t517 x6_1).f1) from ge521_1)
      clear hv521_1 ge521_1
      clear hcc521 hce521
      have HR521_1 := Aside0.mk hi521_1
      have HC521_1 := Aside0.mk hl521_1
      clear hi521_1 hl521_1
      replace p521 := eq_true p521
      replace q521 := eq_true q521
      go_wp2_with (first | ((with_reducible refine gate_builtin (b := .append) (xs := #[.tmp 19, .tmp 24]) rfl ?_); at_builtin; refine Kd.R_append_rows k60 (w0 := w) w.heap.size rfl (.tmp 19) (.tmp 24) 30 60 (.agg #[(.int .i64 0), (.int .i64 0), (.int .i64 0), (.int .i64 0)]) 32 rfl Tryz.underlying30 info60 rfl (by decide) (by omega) u3 x3_1 ((rd_T41 t517 x6_1).f1) _ _ _ (fun _ => True) (fun _ => False) rfl rfl ?aO ?aR (fun _ _ h => h) (fun _ h => h.elim) ?aF ?aB ?aS ?aL ?_; (case aR => repeat (first | exact (by repeat (first | (with_reducible exact HR521_1.out) | (with_reducible refine Kd.C_alloc ?_ _) | (with_reducible refine Kd.C_drewN ?_ _) | (with_reducible refine Kd.C_drew ?_) | exact HR521_1.out)) | (with_reducible refine Kd.C_alloc ?_ _) | (with_reducible refine Kd.C_drewN ?_ _) | (with_reducible refine Kd.C_drew ?_))); (case aB => exact (by repeat (first | exact HB.out | apply below_alloc | apply pw_below_drewN | apply below_drew1))); (case aF => exact (fun _ _ => trivial)); (case aO => exact (by (with_reducible repeat (first | apply Kd.R_alloc | apply Kd.R_drewN | apply Kd.R_drew)); exact HO_3.out)); (case aS => exact (below_size (by repeat (first | exact HB.out | apply below_alloc | apply pw_below_drewN | apply below_drew1)))); (case aL => have := LMc9.out; omega); intro v523 w10 ho hb hg hat; rw [← Ny522.out] at ho; have n0_ := Aside0.mk (Kd.S_after (ok := (fun _ => True)) (by (with_reducible repeat (first | apply Kd.S_alloc | apply Kd.S_drewN | apply Kd.S_drew)); exact Kd.S_mono HO_4.out (fun _ hk => ⟨trivial, hk⟩)) hg hat); have n1_ := Aside0.mk (Kd.R_after (ok := (fun k_ => some k_ ≠ (.slice (some ad521) t517.length co6 : Value).ownBlock)) (by (with_reducible repeat (first | apply Kd.R_alloc | apply Kd.R_drewN | apply Kd.R_drew)); exact Kd.R_mono HL521_1.out (fun _ hk => ⟨hk.2, hk.1⟩)) hg hat); have n2_ := Aside0.mk (hb); have n3_ := Aside0.mk (ho); clear HO_4; clear HL521_1; clear HB; clear HO_3; have HO_4 := n0_; have HL521_1 := n1_; have HB := n2_; have HO524 := n3_; clear n0_ n1_ n2_ n3_; clear ho hb hg hat))
      go_roundg k1
      case measure => have := HK1.out; omega
      case rel => exact ⟨(y522), (wrap64 (x6_1 + 1)), (by first | rfl | (simp; done) | (simp [*]; done)), H', ⟨by have := HK1.out; omega⟩, ⟨by (with_reducible repeat (first | apply Kd.R_alloc | apply Kd.R_drewN | apply Kd.R_drew)); exact HO524.out⟩, ⟨by (with_reducible repeat (first | apply Kd.S_alloc | apply Kd.S_drewN | apply Kd.S_drew)); exact Kd.S_mono HO_4.out (fun _ hk => hk.2)⟩, ⟨by repeat (first | exact HB.out | apply below_alloc | apply pw_below_drewN | apply below_drew1)⟩⟩
     ·rw [if_neg c9] at H
      exact absurd H (by simp)
    ·rw [if_neg c8] at H
     exact absurd H (by simp)
   ·rw [if_neg c7] at H
    have c7b0 : decide (x6_1 < (t517.length : Int)) = false := decide_eq_false c7
    clear c7
    (first | rw [c7b0] | (simp only [i64_w, i32_w]; rw [c7b0]) | skip)
    obtain rfl := Option.some.inj H
    go_wp2
    go_ret
    exact ⟨_, by first | rfl | (simp [*] <;> rfl), by (with_reducible repeat (first | apply Kd.R_alloc | apply Kd.R_drewN | apply Kd.R_drew)); exact HO_3.out, by repeat (first | exact HB.out | apply below_alloc | apply pw_below_drewN | apply below_drew1)⟩

end Go.Proofs.YtbecffgalndagaaGreatDoor.PFnNames
