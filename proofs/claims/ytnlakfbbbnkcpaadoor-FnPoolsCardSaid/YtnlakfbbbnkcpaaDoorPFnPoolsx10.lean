/- Walks of the functions that a law of seat YtnlakfbbbnkcpaaDoor reaches, each against a Lean function, printed by this session's wip/myprint.py; no condition of their own. -/
import Derived.Test.YtnlakfbbbnkcpaaDoorPFnPoolsx0
import Derived.Test.YtnlakfbbbnkcpaaDoorPFnPoolsx2
import Derived.Test.YtnlakfbbbnkcpaaDoorPFnPoolsx4
import Derived.Test.YtnlakfbbbnkcpaaDoorPFnPoolsx5
import Derived.Test.YtnlakfbbbnkcpaaDoorPFnPoolsx9
namespace Go.Proofs.YtnlakfbbbnkcpaaDoor.PFnPools
open Go.RowKit Go.Proofs.YtnlakfbbbnkcpaaDoorW.PrintWords Go.Proofs.YtnlakfbbbnkcpaaDoorW.PrintLast Go.Proofs.YtnlakfbbbnkcpaaDoorW.PrintMore
attribute [local go_sem] max2_int min2_int max_two min_two max_three min_three max_four min_four   -- for this text's walks alone
set_option linter.unusedVariables false
set_option linter.unusedSimpArgs false

/-! ### spec_l3Draw: function 28 -/
def spec_l3Draw.f (k : Nat) (s0_0 : List Int) (s0_1 : Int) (s0_2 : Int) : Option (List Int × List Int × Int × Int) := (spec_l3DrawRight.f k s0_0 s0_1 s0_2).bind fun bt366 => ((spec_l1Below.f s0_0 bt366.2.2.1 bt366.2.2.2 10).bind fun bt375 => (if bt375.1 = 0 then ((spec_l1PickInt.f s0_0 bt375.2.1 bt375.2.2 (([(-1), 400, 401] : List Int))).bind fun bt381 => (if 1 < (bt366.1.length : Int) then (some ((bt366.1.set (1 : Int).toNat bt381.1), bt366.2.1, bt381.2.1, bt381.2.2)) else (none))) else (if bt375.1 = 1 then ((spec_l1PickInt.f s0_0 bt375.2.1 bt375.2.2 (([(-1), 99, 100, 101] : List Int))).bind fun bt388 => (if 2 < (bt366.2.1.length : Int) then (some (bt366.1, (bt366.2.1.set (2 : Int).toNat bt388.1), bt388.2.1, bt388.2.2)) else (none))) else (if bt375.1 = 2 then (if bt366.1.length < 17592186044416 then (some ((bt366.1 ++ [1]), bt366.2.1, bt375.2.1, bt375.2.2)) else (none)) else (some (bt366.1, bt366.2.1, bt375.2.1, bt375.2.2))))))
theorem spec_l3Draw.mono : ∀ a0 a1 a2 k, LeO (spec_l3Draw.f k a0 a1 a2) (spec_l3Draw.f (k + 1) a0 a1 a2) := by
  intro a0 a1 a2 k
  unfold spec_l3Draw.f
  repeat' first
      | (with_reducible exact spec_l3DrawRight.mono _ _ _ _)
      | (with_reducible exact LeO.refl _)
      | (with_reducible exact LeO.none _)
      | (with_reducible refine LeO.ite ?_ ?_)
      | (with_reducible refine LeO.bind ?_ (fun _ => ?_))
      | exact spec_l3DrawRight.mono _ _ _ _
      | exact LeO.none _
      | refine LeO.ite ?_ ?_
      | refine LeO.bind ?_ (fun _ => ?_)
set_option maxHeartbeats 8000000 in
set_option maxRecDepth 100000 in
theorem spec_l3Draw.calls (k : Nat) (g : Nat) (s0_0 : List Int) (s0_1 : Int) (s0_2 : Int) (r1 : List Int) (r2 : List Int) (r3 : Int) (r4 : Int) (w0 w : World) (hI : IsS59 w0 w g s0_0 s0_1 s0_2) (hB : Below w0.heap.size w0 w) (h : spec_l3Draw.f k s0_0 s0_1 s0_2 = some (r1, r2, r3, r4)) :
    Calls Tryd.prog 28 #[.pointer (some ⟨g, 0, none⟩)] w fun e w' => ∃ v0_ v1_ : Value, e = .returned (.agg #[v0_, v1_]) ∧ Kd.R (Kd.int .i64) 3 w' w.heap.size (fun k_ => some k_ ≠ (v1_ : Value).ownBlock) v0_ r1 ∧ Kd.R (Kd.int .i64) 3 w' w.heap.size (fun k_ => some k_ ≠ (v0_ : Value).ownBlock) v1_ r2 ∧ IsS59 w0 w' g s0_0 r3 r4 ∧ Below w0.heap.size w0 w' ∧ KeepBut w w' g none := by
  have hu33 := Tryd.underlying33
  have HI0 := Aside0.mk hI
  have HK := Aside0.mk (KeepBut.refl w g none)
  have HL := Aside0.mk hB.size
  clear hI
  have HW0 := Aside0.mk hB.size
  have HB := Aside0.mk hB
  clear hB
  have H : ((spec_l3DrawRight.f k s0_0 s0_1 s0_2).bind fun bt366 => ((spec_l1Below.f s0_0 bt366.2.2.1 bt366.2.2.2 10).bind fun bt375 => (if bt375.1 = 0 then ((spec_l1PickInt.f s0_0 bt375.2.1 bt375.2.2 (([(-1), 400, 401] : List Int))).bind fun bt381 => (if 1 < (bt366.1.length : Int) then (some ((bt366.1.set (1 : Int).toNat bt381.1), bt366.2.1, bt381.2.1, bt381.2.2)) else (none))) else (if bt375.1 = 1 then ((spec_l1PickInt.f s0_0 bt375.2.1 bt375.2.2 (([(-1), 99, 100, 101] : List Int))).bind fun bt388 => (if 2 < (bt366.2.1.length : Int) then (some (bt366.1, (bt366.2.1.set (2 : Int).toNat bt388.1), bt388.2.1, bt388.2.2)) else (none))) else (if bt375.1 = 2 then (if bt366.1.length < 17592186044416 then (some ((bt366.1 ++ [1]), bt366.2.1, bt375.2.1, bt375.2.2)) else (none)) else (some (bt366.1, bt366.2.1, bt375.2.1, bt375.2.2))))))) = some (r1, r2, r3, r4) := h
  clear h
  replace H := Option.bind_eq_some_iff.mp H
  obtain ⟨⟨t366, t369, t372, t373⟩, A20, H⟩ := H
  replace H : ((spec_l1Below.f s0_0 t372 t373 10).bind fun bt375 => (if bt375.1 = 0 then ((spec_l1PickInt.f s0_0 bt375.2.1 bt375.2.2 (([(-1), 400, 401] : List Int))).bind fun bt381 => (if 1 < (t366.length : Int) then (some ((t366.set (1 : Int).toNat bt381.1), t369, bt381.2.1, bt381.2.2)) else (none))) else (if bt375.1 = 1 then ((spec_l1PickInt.f s0_0 bt375.2.1 bt375.2.2 (([(-1), 99, 100, 101] : List Int))).bind fun bt388 => (if 2 < (t369.length : Int) then (some (t366, (t369.set (2 : Int).toNat bt388.1), bt388.2.1, bt388.2.2)) else (none))) else (if bt375.1 = 2 then (if t366.length < 17592186044416 then (some ((t366 ++ [1]), t369, bt375.2.1, bt375.2.2)) else (none)) else (some (t366, t369, bt375.2.1, bt375.2.2)))))) = some (r1, r2, r3, r4) := H
  have A2 := Aside0.mk A20
  clear A20
  replace H := Option.bind_eq_some_iff.mp H
  obtain ⟨⟨t375, t376, t377⟩, A30, H⟩ := H
  replace H : (if t375 = 0 then ((spec_l1PickInt.f s0_0 t376 t377 (([(-1), 400, 401] : List Int))).bind fun bt381 => (if 1 < (t366.length : Int) then (some ((t366.set (1 : Int).toNat bt381.1), t369, bt381.2.1, bt381.2.2)) else (none))) else (if t375 = 1 then ((spec_l1PickInt.f s0_0 t376 t377 (([(-1), 99, 100, 101] : List Int))).bind fun bt388 => (if 2 < (t369.length : Int) then (some (t366, (t369.set (2 : Int).toNat bt388.1), bt388.2.1, bt388.2.2)) else (none))) else (if t375 = 2 then (if t366.length < 17592186044416 then (some ((t366 ++ [1]), t369, t376, t377)) else (none)) else (some (t366, t369, t376, t377))))) = some (r1, r2, r3, r4) := H
  have A3 := Aside0.mk A30
  clear A30
  by_cases c4 : t375 = 0
  · rw [if_pos c4] at H
    have c4b0 : (t375 == 0) = true := beq_iff_eq.mpr c4
    have c4b1 : (t375 != 0) = false := bne_eq_false_iff_eq.mpr c4
    clear c4
    obtain ⟨y378, hy378⟩ : ∃ y_ : List Int, y_ = (([(-1), 400, 401] : List Int)) := ⟨_, rfl⟩
    replace H : ((spec_l1PickInt.f s0_0 t376 t377 y378).bind fun bt381 => (if 1 < (t366.length : Int) then (some ((t366.set (1 : Int).toNat bt381.1), t369, bt381.2.1, bt381.2.2)) else (none))) = some (r1, r2, r3, r4) := by rw [hy378]; exact H
    have Ny378 := Aside0.mk hy378
    clear hy378
    replace H := Option.bind_eq_some_iff.mp H
    obtain ⟨⟨t381, t382, t383⟩, A50, H⟩ := H
    replace H : (if 1 < (t366.length : Int) then (some ((t366.set (1 : Int).toNat t381), t369, t382, t383)) else (none)) = some (r1, r2, r3, r4) := H
    have A5 := Aside0.mk A50
    clear A50
    by_cases c6 : 1 < (t366.length : Int)
    · rw [if_pos c6] at H
      have c6b0 : decide (1 < (t366.length : Int)) = true := decide_eq_true c6
      have c6b1 : decide (1 < t366.length) = true := decide_eq_true (by omega)
      clear c6
      obtain ⟨y384, hy384⟩ : ∃ y_ : List Int, y_ = (t366.set (1 : Int).toNat t381) := ⟨_, rfl⟩
      replace H : (some (y384, t369, t382, t383)) = some (r1, r2, r3, r4) := by rw [hy384]; exact H
      have Ny384 := Aside0.mk hy384
      clear hy384
      simp only [Option.some.injEq, Prod.mk.injEq] at H
      obtain ⟨rfl, rfl, rfl, rfl⟩ := H
      go_enter Tryd.func28, Tryd.ntmps28
      try go_wp2_with (first | ((with_reducible refine gate_dst (N := 2) rfl ?_); refine box_event ?hg (N := 2) ?hd (cs := #[.slice none 0 0, .slice none 0 0]) (t := 33) ?hr ?_; (case hd => rfl); (case hg => rfl); (case hr => go_simp <;> rfl); intro gb365 hg w8 hbox hb; have n0_ := Aside0.mk (IsS59.below (HI0.out) hb); have n1_ := Aside0.mk (KeepBut.trans (HK.out) (KeepBut.of_below hb g none) (.inl rfl)); have n2_ := Aside0.mk (below_step (by repeat (first | (with_reducible first | exact HB.out | apply below_alloc | apply pw_below_drewN | apply below_drew1 | refine below_set ?_ (IsS59.ge HI0.out)) | exact HB.out)) hb); have n3_ := Aside0.mk (hbox); have n4_ := Aside0.mk ((by rw [hg]; exact (keep_size (w := w) (g := g) (row := none) (HK.out)) : w.heap.size ≤ gb365)); have n5_ := Aside0.mk ((Nat.le_trans HW0.out (by rw [hg]; exact (keep_size (w := w) (g := g) (row := none) (HK.out)) : w.heap.size ≤ gb365) : w0.heap.size ≤ gb365)); have n6_ := Aside0.mk ((by rw [hg]; exact Nat.ne_of_lt (IsS59.lt (show IsS59 w0 _ g s0_0 s0_1 s0_2 from HI0.out)) : g ≠ gb365)); have n7_ := Aside0.mk ((by rw [hg]; exact Nat.ne_of_gt (IsS59.lt (show IsS59 w0 _ g s0_0 s0_1 s0_2 from HI0.out)) : gb365 ≠ g)); clear HI0; clear HK; clear HB; have HI0 := n0_; have HK := n1_; have HB := n2_; have BK365 := n3_; have GW365 := n4_; have GE365 := n5_; have NB0_365 := n6_; have NB365_0 := n7_; clear n0_ n1_ n2_ n3_ n4_ n5_ n6_ n7_; clear hb hbox hg) | ((with_reducible refine gate_callee (f := 44) rfl ?_); refine goesL_ (some 5) rfl rfl Tryd.func44 (by kernel_rfl) rfl #[.pointer (some ⟨g, 0, none⟩)] rfl (by (try simp only [mp]); first | done | rfl) ?_; (with_reducible refine (spec_l3DrawRight.calls k g s0_0 s0_1 s0_2 t366 t369 t372 t373 w0 _ ?side1 ?side2 A2.out).mono ?_); (case side1 => repeat (first | (with_reducible first | exact HI0.out | apply IsS59.alloc | apply IsS59.drewN | apply IsS59.drew | apply IsS59.set_1 | apply IsS59.set_2 | refine IsS59.far ?_ NB0_365.out _) | exact HI0.out)); (case side2 => repeat (first | (with_reducible first | exact HB.out | apply below_alloc | apply pw_below_drewN | apply below_drew1 | refine below_set ?_ (IsS59.ge HI0.out) | refine below_set ?_ GE365.out) | exact HB.out)); rintro e w9 ⟨v367, v370, rfl, ho0, ho1, hi, hb, hk⟩; refine ⟨_, rfl, ?_⟩; have n0_ := Aside0.mk (KeepBut.blk hk (g' := gb365) (o := .cells #[.slice none 0 0, .slice none 0 0] 33 (0, 0)) (by exact BK365.out) NB365_0.out (by simp)); have n1_ := Aside0.mk (Kd.R_lower ho0 (keep_size (w := w) (g := g) (row := none) (by repeat (first | (with_reducible first | exact HK.out | apply KeepBut.set_ | apply keep_drewN | apply keep_drew | apply keep_alloc | refine keep_far ?_ GW365.out _) | exact HK.out)))); have n2_ := Aside0.mk (Kd.R_lower ho1 (keep_size (w := w) (g := g) (row := none) (by repeat (first | (with_reducible first | exact HK.out | apply KeepBut.set_ | apply keep_drewN | apply keep_drew | apply keep_alloc | refine keep_far ?_ GW365.out _) | exact HK.out)))); have n3_ := Aside0.mk (KeepBut.trans (by repeat (first | (with_reducible first | exact HK.out | apply KeepBut.set_ | apply keep_drewN | apply keep_drew | apply keep_alloc | refine keep_far ?_ GW365.out _) | exact HK.out)) hk (.inl rfl)); have n4_ := Aside0.mk (hb); have n5_ := Aside0.mk (hi); clear BK365; clear HK; clear HB; clear HI0; have BK365 := n0_; have HO368 := n1_; have HO371 := n2_; have HK := n3_; have HB := n4_; have HI0 := n5_; clear n0_ n1_ n2_ n3_ n4_ n5_; (try clear hb); (try clear hb2); (try clear hk); (try clear hi); (try clear ho0); (try clear ho1)) | ((with_reducible refine gate_dst (N := 3) rfl ?_); refine box_event ?hg (N := 3) ?hd (cs := #[.slice none 0 0, .slice none 0 0]) (t := 33) ?hr ?_; (case hd => rfl); (case hg => rfl); (case hr => go_simp <;> rfl); intro gb374 hg w10 hbox hb; have n0_ := Aside0.mk (Kd.R_below (by exact HO368.out) hb); have n1_ := Aside0.mk (Kd.R_below (by exact HO371.out) hb); have n2_ := Aside0.mk (IsS59.below (by repeat (first | (with_reducible first | exact HI0.out | apply IsS59.alloc | apply IsS59.drewN | apply IsS59.drew | apply IsS59.set_1 | apply IsS59.set_2 | refine IsS59.far ?_ NB0_365.out _) | exact HI0.out)) hb); have n3_ := Aside0.mk (blk_below (g := gb365) (o := .cells #[.slice none 0 0, .slice none 0 0] 33 (0, 0)) (by exact BK365.out) hb); have n4_ := Aside0.mk (KeepBut.trans (by repeat (first | (with_reducible first | exact HK.out | apply KeepBut.set_ | apply keep_drewN | apply keep_drew | apply keep_alloc | refine keep_far ?_ GW365.out _) | exact HK.out)) (KeepBut.of_below hb g none) (.inl rfl)); have n5_ := Aside0.mk (below_step (by repeat (first | (with_reducible first | exact HB.out | apply below_alloc | apply pw_below_drewN | apply below_drew1 | refine below_set ?_ (IsS59.ge HI0.out) | refine below_set ?_ GE365.out) | exact HB.out)) hb); have n6_ := Aside0.mk (hbox); have n7_ := Aside0.mk ((by rw [hg]; exact (keep_size (w := w) (g := g) (row := none) (by repeat (first | (with_reducible first | exact HK.out | apply KeepBut.set_ | apply keep_drewN | apply keep_drew | apply keep_alloc | refine keep_far ?_ GW365.out _) | exact HK.out))) : w.heap.size ≤ gb374)); have n8_ := Aside0.mk ((Nat.le_trans HW0.out (by rw [hg]; exact (keep_size (w := w) (g := g) (row := none) (by repeat (first | (with_reducible first | exact HK.out | apply KeepBut.set_ | apply keep_drewN | apply keep_drew | apply keep_alloc | refine keep_far ?_ GW365.out _) | exact HK.out))) : w.heap.size ≤ gb374) : w0.heap.size ≤ gb374)); have n9_ := Aside0.mk ((by rw [hg]; exact Nat.ne_of_lt (blk_lt (g := gb365) (o := .cells #[.slice none 0 0, .slice none 0 0] 33 (0, 0)) (by exact BK365.out)) : gb365 ≠ gb374)); have n10_ := Aside0.mk ((by rw [hg]; exact Nat.ne_of_gt (blk_lt (g := gb365) (o := .cells #[.slice none 0 0, .slice none 0 0] 33 (0, 0)) (by exact BK365.out)) : gb374 ≠ gb365)); have n11_ := Aside0.mk ((by rw [hg]; exact Nat.ne_of_lt (IsS59.lt (show IsS59 w0 _ g s0_0 t372 t373 from by repeat (first | (with_reducible first | exact HI0.out | apply IsS59.alloc | apply IsS59.drewN | apply IsS59.drew | apply IsS59.set_1 | apply IsS59.set_2 | refine IsS59.far ?_ NB0_365.out _) | exact HI0.out))) : g ≠ gb374)); have n12_ := Aside0.mk ((by rw [hg]; exact Nat.ne_of_gt (IsS59.lt (show IsS59 w0 _ g s0_0 t372 t373 from by repeat (first | (with_reducible first | exact HI0.out | apply IsS59.alloc | apply IsS59.drewN | apply IsS59.drew | apply IsS59.set_1 | apply IsS59.set_2 | refine IsS59.far ?_ NB0_365.out _) | exact HI0.out))) : gb374 ≠ g)); clear HO368; clear HO371; clear HI0; clear BK365; clear HK; clear HB; have HO368 := n0_; have HO371 := n1_; have HI0 := n2_; have BK365 := n3_; have HK := n4_; have HB := n5_; have BK374 := n6_; have GW374 := n7_; have GE374 := n8_; have NB365_374 := n9_; have NB374_365 := n10_; have NB0_374 := n11_; have NB374_0 := n12_; clear n0_ n1_ n2_ n3_ n4_ n5_ n6_ n7_ n8_ n9_ n10_ n11_ n12_; clear hb hbox hg; obtain ⟨Ao11, co11, eo11⟩ := Kd.R_slice HO368.out; subst eo11; have hnb12 := NB374_365.out; have hnc12 := NB365_374.out; have hnb13 := NB374_0.out; have hnc13 := NB0_374.out; have hcz14_0 : w10.cell? ⟨gb374, 0, none⟩ = some (.slice none 0 0) := (blk_cell BK374.out 0).trans rfl; have hcz14_1 : w10.cell? ⟨gb374, 1, none⟩ = some (.slice none 0 0) := (blk_cell BK374.out 1).trans rfl; have hfz14_0 := blk_frozen BK374.out 0; have hfz14_1 := blk_frozen BK374.out 1; obtain ⟨Ao15, co15, eo15⟩ := Kd.R_slice HO371.out; subst eo15) | ((with_reducible refine gate_callee (f := 39) rfl ?_); refine goesL_ (some 7) rfl rfl Tryd.func39 (by kernel_rfl) rfl #[.pointer (some ⟨g, 0, none⟩), .int .i64 10] rfl (by (try simp only [mp]); first | done | rfl) ?_; (with_reducible refine (spec_l1Below.calls g s0_0 t372 t373 10 t375 t376 t377 w0 _ ?side1 ?side2 A3.out).mono ?_); (case side1 => repeat (first | (with_reducible first | exact HI0.out | apply IsS59.alloc | apply IsS59.drewN | apply IsS59.drew | apply IsS59.set_1 | apply IsS59.set_2 | refine IsS59.far ?_ NB0_365.out _ | refine IsS59.far ?_ NB0_374.out _) | exact HI0.out)); (case side2 => repeat (first | (with_reducible first | exact HB.out | apply below_alloc | apply pw_below_drewN | apply below_drew1 | refine below_set ?_ (IsS59.ge HI0.out) | refine below_set ?_ GE365.out | refine below_set ?_ GE374.out) | exact HB.out)); rintro e w16 ⟨rfl, hi, hb, hk⟩; refine ⟨_, rfl, ?_⟩; have n0_ := Aside0.mk (KeepBut.blk hk (g' := gb365) (o := .cells #[.slice none 0 0, .slice none 0 0] 33 (0, 0)) (by refine blk_far ?_ NB365_374.out _; refine blk_far ?_ NB365_374.out _; exact BK365.out) NB365_0.out (by simp)); have n1_ := Aside0.mk (Kd.R_mono (Kd.R_keep (IsS59.apart (show IsS59 w0 _ g s0_0 t372 t373 from by repeat (first | (with_reducible first | exact HI0.out | apply IsS59.alloc | apply IsS59.drewN | apply IsS59.drew | apply IsS59.set_1 | apply IsS59.set_2 | refine IsS59.far ?_ NB0_365.out _ | refine IsS59.far ?_ NB0_374.out _) | exact HI0.out)) (by exact (Kd.R_mono (Kd.R_far (p := ⟨gb374, 1, none⟩) (Kd.R_far (p := ⟨gb374, 0, none⟩) (Kd.R_types HO368.out BK374.out (by decide)) (fun _ hk => hk.2) (.slice Ao11 t366.length co11)) (fun _ hk => hk.2) (.slice Ao15 t369.length co15)) (fun _ h_ => h_.1))) (by decide)) hk (fun _ h => h.2)) (fun _ h => h.1)); have n2_ := Aside0.mk (Kd.R_mono (Kd.R_keep (IsS59.apart (show IsS59 w0 _ g s0_0 t372 t373 from by repeat (first | (with_reducible first | exact HI0.out | apply IsS59.alloc | apply IsS59.drewN | apply IsS59.drew | apply IsS59.set_1 | apply IsS59.set_2 | refine IsS59.far ?_ NB0_365.out _ | refine IsS59.far ?_ NB0_374.out _) | exact HI0.out)) (by exact (Kd.R_mono (Kd.R_far (p := ⟨gb374, 1, none⟩) (Kd.R_far (p := ⟨gb374, 0, none⟩) (Kd.R_types HO371.out BK374.out (by decide)) (fun _ hk => hk.2) (.slice Ao11 t366.length co11)) (fun _ hk => hk.2) (.slice Ao15 t369.length co15)) (fun _ h_ => h_.1))) (by decide)) hk (fun _ h => h.2)) (fun _ h => h.1)); have n3_ := Aside0.mk (KeepBut.blk hk (g' := gb374) (o := .cells #[.slice Ao11 t366.length co11, .slice Ao15 t369.length co15] 33 (0, 0)) (by refine blk_put (cs := #[.slice Ao11 t366.length co11, .slice none 0 0]) ?_ 1 _ rfl; refine blk_put (cs := #[.slice none 0 0, .slice none 0 0]) ?_ 0 _ rfl; exact BK374.out) NB374_0.out (by simp)); have n4_ := Aside0.mk (KeepBut.trans (by repeat (first | (with_reducible first | exact HK.out | apply KeepBut.set_ | apply keep_drewN | apply keep_drew | apply keep_alloc | refine keep_far ?_ GW365.out _ | refine keep_far ?_ GW374.out _) | exact HK.out)) hk (.inl rfl)); have n5_ := Aside0.mk (hb); have n6_ := Aside0.mk (hi); clear BK365; clear HO368; clear HO371; clear BK374; clear HK; clear HB; clear HI0; have BK365 := n0_; have HO368 := n1_; have HO371 := n2_; have BK374 := n3_; have HK := n4_; have HB := n5_; have HI0 := n6_; clear n0_ n1_ n2_ n3_ n4_ n5_ n6_; (try clear hb); (try clear hb2); (try clear hk); (try clear hi)))
      have n0_ := Aside0.mk (Kd.R_drew HO368.out)
      have n1_ := Aside0.mk (Kd.R_drew HO371.out)
      have n2_ := Aside0.mk (blk_drew BK365.out)
      have n3_ := Aside0.mk (blk_drew BK374.out)
      have n4_ := Aside0.mk (IsS59.drew HI0.out)
      have n5_ := Aside0.mk (keep_drew HK.out)
      have n6_ := Aside0.mk (below_drew1 HB.out)
      clear HO368 HO371 BK365 BK374 HI0 HK HB
      have HO368 := n0_
      have HO371 := n1_
      have BK365 := n2_
      have BK374 := n3_
      have HI0 := n4_
      have HK := n5_
      have HB := n6_
      clear n0_ n1_ n2_ n3_ n4_ n5_ n6_
      refine start_ (n := 7) (S := fun w' => w'.cell? ⟨gb374, 0, none⟩ = some (.slice Ao11 t366.length co11) ∧ w'.cell? ⟨gb374, 1, none⟩ = some (.slice Ao15 t369.length co15)) (ds := [6]) #[false, false, false, false, false, false, false] (by kernel_rfl) rfl rfl ⟨(blk_cell BK374.out 0).trans rfl, (blk_cell BK374.out 1).trans rfl⟩ (fun hHeld => ?_)
      generalize w16.drew = w17 at HO368 HO371 BK365 BK374 HI0 HK HB hHeld ⊢
      refine pA 0 10 ?_ rfl rfl (by kernel_rfl) (fun _ _ _ h => h) ⟨by rfl, ?_⟩ ?_ ?_ ?_
      rotate_left
      · intro w'
        go_simp
        with_reducible rfl
      rotate_left
      · simp only [Act.put, nm]
        rfl
      refine pA 2 12 ?_ rfl rfl (by kernel_rfl) (fun _ _ _ h => h) ⟨by rfl, ?_⟩ ?_ ?_ ?_
      rotate_left
      · intro w'
        go_simp
        with_reducible rfl
      rotate_left
      · simp only [Act.put, nm]
        rfl
      refine take_ (i := 1) (N := some 11) (v := ?_) (a' := ?_) #[true, true, true, false, false, false, false] rfl rfl (by kernel_rfl) (fun _ _ _ h => h) (Or.inl ⟨by rfl, ?_⟩) hHeld ?_ ?_
      rotate_left
      · rintro w' ⟨s0, s1⟩
        go_simp
        with_reducible rfl
      rotate_left
      · simp only [Act.put, nm]
        rfl
      refine one_ (i := 3) (N := some 13) #[true, true, true, true, false, false, false] rfl rfl (by kernel_rfl) (by decide) (fun K hK => ?_)
      refine Kd.R_lit_step (Kd.int .i64) _ 3 ?hg (N := 13) ?hd (xs := ([(-1), 400, 401] : List Int)) (inner := [.int .i64 (-1), .int .i64 400, .int .i64 401]) (ok := fun _ => True) (okp := fun _ => True) ?hr ?hp (fun _ hk => hk) trivial (Below.refl _ _) (Nat.le_refl _) (by simp) ?_; (case hd => rfl); (case hg => rfl); (case hr => go_simp <;> rfl); (case hp => exact (Reps.one (show Kd.M (Kd.int .i64) _ _ _ (-1) [.int .i64 (-1)] from rfl) (Reps.one (show Kd.M (Kd.int .i64) _ _ _ 400 [.int .i64 400] from rfl) (Reps.one (show Kd.M (Kd.int .i64) _ _ _ 401 [.int .i64 401] from rfl) (Reps.none _ _)))))
      intro v379 w18 ho19 hb hg_ hnew_
      clear hg_ hnew_
      rw [← Ny378.out] at ho19
      have n0_ := Aside0.mk (Kd.R_elder' (by exact HO368.out) (Kd.R_base ho19) hb)
      have n1_ := Aside0.mk (Kd.R_elder' (by exact HO371.out) (Kd.R_base ho19) hb)
      have n2_ := Aside0.mk (Kd.R_lower (Kd.R_new' (Kd.R_new' ho19 (Kd.R_lt (by exact HO368.out))) (Kd.R_lt (by exact HO371.out))) (keep_size (w := w) (g := g) (row := none) (HK.out)))
      have n3_ := Aside0.mk (IsS59.below (HI0.out) hb)
      have n4_ := Aside0.mk (blk_below (g := gb365) (o := .cells #[.slice none 0 0, .slice none 0 0] 33 (0, 0)) (by exact BK365.out) hb)
      have n5_ := Aside0.mk (blk_below (g := gb374) (o := .cells #[.slice Ao11 t366.length co11, .slice Ao15 t369.length co15] 33 (0, 0)) (by exact BK374.out) hb)
      have n6_ := Aside0.mk (KeepBut.trans (HK.out) (KeepBut.of_below hb g none) (.inl rfl))
      have n7_ := Aside0.mk (below_step (HB.out) hb)
      clear HO368 HO371 HI0 BK365 BK374 HK HB
      have HO368 := n0_
      have HO371 := n1_
      have HO380 := n2_
      have HI0 := n3_
      have BK365 := n4_
      have BK374 := n5_
      have HK := n6_
      have HB := n7_
      clear n0_ n1_ n2_ n3_ n4_ n5_ n6_ n7_ hb ho19
      obtain ⟨Ao20, co20, eo20⟩ := Kd.R_slice HO380.out
      (first | subst eo20 | (injection eo20 with f1_ f2_ f3_; have f4_ := f1_.symm; have f5_ := f3_.symm; clear f1_ f2_ f3_; subst f4_; subst f5_))
      refine hK.out _ _ ⟨(blk_cell BK374.out 0).trans rfl, (blk_cell BK374.out 1).trans rfl⟩ (fun hHeld => ?_)
      clear hK K
      refine norm_ (a' := ?_) ?_ ?_
      rotate_left
      · show Act.put _ (some 13) _ = _
        simp only [Act.put, nm]
        rfl
      refine one_ (i := 4) (N := some 14) #[true, true, true, true, true, false, false] rfl rfl (by kernel_rfl) (by decide) (fun K hK => ?_)
      refine goes_ Tryd.func41 (by kernel_rfl) rfl #[.pointer (some ⟨g, 0, none⟩), .slice Ao20 y378.length co20] (by rfl) rfl rfl (by (try simp only [mp]); first | done | rfl) ?_
      with_reducible refine (spec_l1PickInt.calls g s0_0 t376 t377 _ _ y378 t381 t382 t383 w0 _ ?side1 ?side2 ?side3 ?side4 ?side5 A5.out).mono ?_
      (case side1 => exact HI0.out)
      (case side2 => exact HB.out)
      (case side3 => exact (Kd.R_reads' HO380.out).2.2)
      (case side4 => exact (Kd.R_reads' HO380.out).2.1)
      (case side5 => exact far_slice (IsS59.own_ne HI0.out HO380.out (by decide)))
      rintro e w21 ⟨rfl, hi, hb, hk⟩
      refine ⟨_, rfl, ?_⟩
      have n0_ := Aside0.mk (KeepBut.blk hk (g' := gb365) (o := .cells #[.slice none 0 0, .slice none 0 0] 33 (0, 0)) (by exact BK365.out) NB365_0.out (by simp))
      have n1_ := Aside0.mk (Kd.R_mono (Kd.R_keep (IsS59.apart (show IsS59 w0 _ g s0_0 t376 t377 from HI0.out) (by exact HO368.out) (by decide)) hk (fun _ h => h.2)) (fun _ h => h.1))
      have n2_ := Aside0.mk (Kd.R_mono (Kd.R_keep (IsS59.apart (show IsS59 w0 _ g s0_0 t376 t377 from HI0.out) (by exact HO371.out) (by decide)) hk (fun _ h => h.2)) (fun _ h => h.1))
      have n3_ := Aside0.mk (KeepBut.blk hk (g' := gb374) (o := .cells #[.slice Ao11 t366.length co11, .slice Ao15 t369.length co15] 33 (0, 0)) (by exact BK374.out) NB374_0.out (by simp))
      have n4_ := Aside0.mk (Kd.R_mono (Kd.R_keep (IsS59.apart (show IsS59 w0 _ g s0_0 t376 t377 from HI0.out) (by exact HO380.out) (by decide)) hk (fun _ h => h.2)) (fun _ h => h.1))
      have n5_ := Aside0.mk (KeepBut.trans (HK.out) hk (.inl rfl))
      have n6_ := Aside0.mk (hb)
      have n7_ := Aside0.mk (hi)
      clear BK365 HO368 HO371 BK374 HO380 HK HB HI0
      have BK365 := n0_
      have HO368 := n1_
      have HO371 := n2_
      have BK374 := n3_
      have HO380 := n4_
      have HK := n5_
      have HB := n6_
      have HI0 := n7_
      clear n0_ n1_ n2_ n3_ n4_ n5_ n6_ n7_
      (try clear hb)
      (try clear hb2)
      (try clear hk)
      (try clear hi)
      have p7 : 0 ≤ (1 : Int) := (by omega)
      have q7 : (1 : Int) < ((t366.length : Int) : Int) := of_decide_eq_true (by first | (with_reducible assumption) | assumption)
      have qi7 : (1 < t366.length) = True := eq_true (by omega)
      obtain ⟨go7, co7, eo7, gb7, gl7, cl7, HG7⟩ := Kd.R_form HO368.out (by omega)
      (first | cases eo7 | (injection eo7 with ea_ en_ ec_; (first | subst ea_ | (injection ea_ with ea_; subst ea_)); subst ec_; clear en_))
      have GB7 := Aside0.mk gb7
      have GG7 := Aside0.mk HG7
      clear gb7 gl7 HG7
      obtain ⟨hx7_0, hf7_0⟩ := Kd.R_celln 0 HO368.out (1 : Int) p7 q7
      (try rw [show ((1 : Int)).toNat = 1 from rfl] at hx7_0)
      (try simp only [Nat.reduceMul, Nat.zero_mul, Nat.zero_add, Nat.reduceAdd] at hx7_0)
      (try rw [show ((1 : Int)).toNat = 1 from rfl] at hf7_0)
      (try simp only [Nat.reduceMul, Nat.zero_mul, Nat.zero_add, Nat.reduceAdd] at hf7_0)
      replace p7 := eq_true p7
      replace q7 := eq_true q7
      have HN0_go7 := Aside0.mk (show g ≠ go7 from by have h_ := IsS59.own_ne HI0.out HO368.out (by decide); intro e_; exact h_ (by rw [e_]; rfl))
      have HP22 := Kd.R_putn HO368.out (1 : Int) t381
      rw [← Ny384.out] at HP22
      have HQ22 := Aside0.mk HP22
      clear HP22
      refine hK.out _ _ ⟨(blk_cell BK374.out 0).trans rfl, (blk_cell BK374.out 1).trans rfl⟩ (fun hHeld => ?_)
      clear hK K
      refine norm_ (a' := ?_) ?_ ?_
      rotate_left
      · show Act.put _ (some 14) _ = _
        simp only [Act.put, nm]
        rfl
      refine pA 5 15 ?_ rfl rfl (by kernel_rfl) (fun _ _ _ h => h) ⟨by rfl, ?_⟩ ?_ ?_ ?_
      rotate_left
      · intro w'
        go_simp
        with_reducible rfl
      rotate_left
      · simp only [Act.put, nm]
        rfl
      refine last_ (i := 6) (N := none) #[true, true, true, true, true, true, true] rfl rfl (by kernel_rfl) (by decide) (fun K hK => ?_)
      refine skip_ (w1 := ?_) (by rfl) rfl ?_ ?_
      rotate_left
      · go_simp
        rfl
      refine hK.out _ _ ?_
      clear hK K
      refine done_ (by kernel_rfl) ?_
      have n0_ : Aside0 (Kd.R (Kd.int .i64) 3 (w21.setCell ⟨go7, 1, none⟩ (.int .i64 t381)) w.heap.size (fun k_ => some k_ ≠ (.slice Ao15 t369.length co15 : Value).ownBlock ∧ some k_ ≠ (.slice Ao20 y378.length co20 : Value).ownBlock) (.slice (some ⟨go7, 0, none⟩) t366.length co11) y384) := ⟨by exact HQ22.out⟩
      have n1_ : Aside0 (Kd.R (Kd.int .i64) 3 (w21.setCell ⟨go7, 1, none⟩ (.int .i64 t381)) w.heap.size (fun k_ => some k_ ≠ (.slice (some ⟨go7, 0, none⟩) t366.length co11 : Value).ownBlock ∧ some k_ ≠ (.slice Ao20 y378.length co20 : Value).ownBlock) (.slice Ao15 t369.length co15) t369) := ⟨by exact Kd.R_mono (Kd.R_far (p := ⟨go7, 1, none⟩) (Kd.R_mono HO371.out (fun k_ hk => (⟨hk, fun e_ => hk.1 (by rw [e_]; rfl)⟩ : _ ∧ k_ ≠ go7))) (fun _ hk => hk.2) (.int .i64 t381)) (fun _ hk => ⟨hk.1.1, hk.1.2⟩)⟩
      have n2_ : Aside0 (Kd.R (Kd.int .i64) 3 (w21.setCell ⟨go7, 1, none⟩ (.int .i64 t381)) w.heap.size (fun k_ => some k_ ≠ (.slice (some ⟨go7, 0, none⟩) t366.length co11 : Value).ownBlock ∧ some k_ ≠ (.slice Ao15 t369.length co15 : Value).ownBlock) (.slice Ao20 y378.length co20) y378) := ⟨by exact Kd.R_mono (Kd.R_far (p := ⟨go7, 1, none⟩) (Kd.R_mono HO380.out (fun k_ hk => (⟨hk, fun e_ => hk.1.2 (by rw [e_]; rfl)⟩ : _ ∧ k_ ≠ go7))) (fun _ hk => hk.2) (.int .i64 t381)) (fun _ hk => ⟨hk.1.1.2, hk.1.2⟩)⟩
      have n3_ : Aside0 ((w21.setCell ⟨go7, 1, none⟩ (.int .i64 t381)).heap[gb365]? = some (.cells #[.slice none 0 0, .slice none 0 0] 33 (0, 0))) := ⟨by refine blk_far ?_ (by have h_ := Kd.R_ne HO368.out BK365.out (by decide); intro e_; exact h_ (by rw [e_]; rfl)) _; exact BK365.out⟩
      have n4_ : Aside0 ((w21.setCell ⟨go7, 1, none⟩ (.int .i64 t381)).heap[gb374]? = some (.cells #[.slice (some ⟨go7, 0, none⟩) t366.length co11, .slice Ao15 t369.length co15] 33 (0, 0))) := ⟨by refine blk_far ?_ (by have h_ := Kd.R_ne HO368.out BK374.out (by decide); intro e_; exact h_ (by rw [e_]; rfl)) _; exact BK374.out⟩
      have n5_ : Aside0 (IsS59 w0 (w21.setCell ⟨go7, 1, none⟩ (.int .i64 t381)) g s0_0 t382 t383) := ⟨by repeat (first | (with_reducible first | exact HI0.out | apply IsS59.alloc | apply IsS59.drewN | apply IsS59.drew | apply IsS59.set_1 | apply IsS59.set_2 | refine IsS59.far ?_ HN0_go7.out _ | refine IsS59.far ?_ NB0_365.out _ | refine IsS59.far ?_ NB0_374.out _) | exact HI0.out)⟩
      have n6_ : Aside0 (KeepBut w (w21.setCell ⟨go7, 1, none⟩ (.int .i64 t381)) g none) := ⟨by repeat (first | (with_reducible first | exact HK.out | apply KeepBut.set_ | apply keep_drewN | apply keep_drew | apply keep_alloc | refine keep_far ?_ GB7.out _ | refine keep_far ?_ GW365.out _ | refine keep_far ?_ GW374.out _) | exact HK.out)⟩
      have n7_ : Aside0 (Below w0.heap.size w0 (w21.setCell ⟨go7, 1, none⟩ (.int .i64 t381))) := ⟨by repeat (first | (with_reducible first | exact HB.out | apply below_alloc | apply pw_below_drewN | apply below_drew1 | refine below_set ?_ (Nat.le_trans HL.out GB7.out) | refine below_set ?_ (IsS59.ge HI0.out) | refine below_set ?_ GE365.out | refine below_set ?_ GE374.out) | exact HB.out)⟩
      (try clear HO368)
      (try clear HO371)
      (try clear HO380)
      (try clear BK365)
      (try clear BK374)
      (try clear HI0)
      (try clear HK)
      (try clear HB)
      generalize (w21.setCell ⟨go7, 1, none⟩ (.int .i64 t381)) = w23 at n0_ n1_ n2_ n3_ n4_ n5_ n6_ n7_ ⊢
      have HO368 := n0_
      have HO371 := n1_
      have HO380 := n2_
      have BK365 := n3_
      have BK374 := n4_
      have HI0 := n5_
      have HK := n6_
      have HB := n7_
      clear n0_ n1_ n2_ n3_ n4_ n5_ n6_ n7_
      have hcz24_0 : w23.cell? ⟨gb374, 0, none⟩ = some (.slice (some ⟨go7, 0, none⟩) t366.length co11) := (blk_cell BK374.out 0).trans rfl
      have hcz24_1 : w23.cell? ⟨gb374, 1, none⟩ = some (.slice Ao15 t369.length co15) := (blk_cell BK374.out 1).trans rfl
      have hfz24_0 := blk_frozen BK374.out 0
      have hfz24_1 := blk_frozen BK374.out 1
      have hnb25 := NB365_0.out
      have hnc25 := NB0_365.out
      have hcz26_0 : w23.cell? ⟨gb365, 0, none⟩ = some (.slice none 0 0) := (blk_cell BK365.out 0).trans rfl
      have hcz26_1 : w23.cell? ⟨gb365, 1, none⟩ = some (.slice none 0 0) := (blk_cell BK365.out 1).trans rfl
      have hfz26_0 := blk_frozen BK365.out 0
      have hfz26_1 := blk_frozen BK365.out 1
      try go_wp2
      refine bodyPost_ret (results_cell_row rfl _ _ gb365 33 #[.slice (some ⟨go7, 0, none⟩) t366.length co11, .slice Ao15 t369.length co15] (0, 0) _ rfl (by refine blk_put (cs := #[.slice (some ⟨go7, 0, none⟩) t366.length co11, .slice none 0 0]) ?_ 1 _ rfl; refine blk_put (cs := #[.slice none 0 0, .slice none 0 0]) ?_ 0 _ rfl; exact BK365.out) Tryd.underlying33 rfl (by kernel_rfl)) rfl ?_
      exact ⟨_, _, rfl, by exact Kd.R_mono (Kd.R_far (p := ⟨gb365, 1, none⟩) (Kd.R_far (p := ⟨gb365, 0, none⟩) (Kd.R_types HO368.out BK365.out (by decide)) (fun _ hk => hk.2) (.slice (some ⟨go7, 0, none⟩) t366.length co11)) (fun _ hk => hk.2) (.slice Ao15 t369.length co15)) (fun _ hk => hk.1.1), by exact Kd.R_mono (Kd.R_far (p := ⟨gb365, 1, none⟩) (Kd.R_far (p := ⟨gb365, 0, none⟩) (Kd.R_types HO371.out BK365.out (by decide)) (fun _ hk => hk.2) (.slice (some ⟨go7, 0, none⟩) t366.length co11)) (fun _ hk => hk.2) (.slice Ao15 t369.length co15)) (fun _ hk => hk.1.1), by repeat (first | (with_reducible first | exact HI0.out | apply IsS59.alloc | apply IsS59.drewN | apply IsS59.drew | apply IsS59.set_1 | apply IsS59.set_2 | refine IsS59.far ?_ NB0_365.out _ | refine IsS59.far ?_ NB0_374.out _) | exact HI0.out), by repeat (first | (with_reducible first | exact HB.out | apply below_alloc | apply pw_below_drewN | apply below_drew1 | refine below_set ?_ (IsS59.ge HI0.out) | refine below_set ?_ GE365.out | refine below_set ?_ GE374.out) | exact HB.out), by repeat (first | (with_reducible first | exact HK.out | apply KeepBut.set_ | apply keep_drewN | apply keep_drew | apply keep_alloc | refine keep_far ?_ GW365.out _ | refine keep_far ?_ GW374.out _) | exact HK.out)⟩
    · rw [if_neg c6] at H
      exact absurd H (by simp)
  · rw [if_neg c4] at H
    have c4b0 : (t375 == 0) = false := beq_eq_false_iff_ne.mpr c4
    have c4b1 : (t375 != 0) = true := bne_iff_ne.mpr c4
    by_cases c27 : t375 = 1
    · rw [if_pos c27] at H
      have c27b0 : (t375 == 1) = true := beq_iff_eq.mpr c27
      have c27b1 : (t375 != 1) = false := bne_eq_false_iff_eq.mpr c27
      clear c27
      obtain ⟨y385, hy385⟩ : ∃ y_ : List Int, y_ = (([(-1), 99, 100, 101] : List Int)) := ⟨_, rfl⟩
      replace H : ((spec_l1PickInt.f s0_0 t376 t377 y385).bind fun bt388 => (if 2 < (t369.length : Int) then (some (t366, (t369.set (2 : Int).toNat bt388.1), bt388.2.1, bt388.2.2)) else (none))) = some (r1, r2, r3, r4) := by rw [hy385]; exact H
      have Ny385 := Aside0.mk hy385
      clear hy385
      replace H := Option.bind_eq_some_iff.mp H
      obtain ⟨⟨t388, t389, t390⟩, A280, H⟩ := H
      replace H : (if 2 < (t369.length : Int) then (some (t366, (t369.set (2 : Int).toNat t388), t389, t390)) else (none)) = some (r1, r2, r3, r4) := H
      have A28 := Aside0.mk A280
      clear A280
      by_cases c29 : 2 < (t369.length : Int)
      · rw [if_pos c29] at H
        have c29b0 : decide (2 < (t369.length : Int)) = true := decide_eq_true c29
        have c29b1 : decide (2 < t369.length) = true := decide_eq_true (by omega)
        clear c29
        obtain ⟨y391, hy391⟩ : ∃ y_ : List Int, y_ = (t369.set (2 : Int).toNat t388) := ⟨_, rfl⟩
        replace H : (some (t366, y391, t389, t390)) = some (r1, r2, r3, r4) := by rw [hy391]; exact H
        have Ny391 := Aside0.mk hy391
        clear hy391
        simp only [Option.some.injEq, Prod.mk.injEq] at H
        obtain ⟨rfl, rfl, rfl, rfl⟩ := H
        go_enter Tryd.func28, Tryd.ntmps28
        try go_wp2_with (first | ((with_reducible refine gate_dst (N := 2) rfl ?_); refine box_event ?hg (N := 2) ?hd (cs := #[.slice none 0 0, .slice none 0 0]) (t := 33) ?hr ?_; (case hd => rfl); (case hg => rfl); (case hr => go_simp <;> rfl); intro gb365 hg w31 hbox hb; have n0_ := Aside0.mk (IsS59.below (HI0.out) hb); have n1_ := Aside0.mk (KeepBut.trans (HK.out) (KeepBut.of_below hb g none) (.inl rfl)); have n2_ := Aside0.mk (below_step (by repeat (first | (with_reducible first | exact HB.out | apply below_alloc | apply pw_below_drewN | apply below_drew1 | refine below_set ?_ (IsS59.ge HI0.out)) | exact HB.out)) hb); have n3_ := Aside0.mk (hbox); have n4_ := Aside0.mk ((by rw [hg]; exact (keep_size (w := w) (g := g) (row := none) (HK.out)) : w.heap.size ≤ gb365)); have n5_ := Aside0.mk ((Nat.le_trans HW0.out (by rw [hg]; exact (keep_size (w := w) (g := g) (row := none) (HK.out)) : w.heap.size ≤ gb365) : w0.heap.size ≤ gb365)); have n6_ := Aside0.mk ((by rw [hg]; exact Nat.ne_of_lt (IsS59.lt (show IsS59 w0 _ g s0_0 s0_1 s0_2 from HI0.out)) : g ≠ gb365)); have n7_ := Aside0.mk ((by rw [hg]; exact Nat.ne_of_gt (IsS59.lt (show IsS59 w0 _ g s0_0 s0_1 s0_2 from HI0.out)) : gb365 ≠ g)); clear HI0; clear HK; clear HB; have HI0 := n0_; have HK := n1_; have HB := n2_; have BK365 := n3_; have GW365 := n4_; have GE365 := n5_; have NB0_365 := n6_; have NB365_0 := n7_; clear n0_ n1_ n2_ n3_ n4_ n5_ n6_ n7_; clear hb hbox hg) | ((with_reducible refine gate_callee (f := 44) rfl ?_); refine goesL_ (some 5) rfl rfl Tryd.func44 (by kernel_rfl) rfl #[.pointer (some ⟨g, 0, none⟩)] rfl (by (try simp only [mp]); first | done | rfl) ?_; (with_reducible refine (spec_l3DrawRight.calls k g s0_0 s0_1 s0_2 t366 t369 t372 t373 w0 _ ?side1 ?side2 A2.out).mono ?_); (case side1 => repeat (first | (with_reducible first | exact HI0.out | apply IsS59.alloc | apply IsS59.drewN | apply IsS59.drew | apply IsS59.set_1 | apply IsS59.set_2 | refine IsS59.far ?_ NB0_365.out _) | exact HI0.out)); (case side2 => repeat (first | (with_reducible first | exact HB.out | apply below_alloc | apply pw_below_drewN | apply below_drew1 | refine below_set ?_ (IsS59.ge HI0.out) | refine below_set ?_ GE365.out) | exact HB.out)); rintro e w32 ⟨v367, v370, rfl, ho0, ho1, hi, hb, hk⟩; refine ⟨_, rfl, ?_⟩; have n0_ := Aside0.mk (KeepBut.blk hk (g' := gb365) (o := .cells #[.slice none 0 0, .slice none 0 0] 33 (0, 0)) (by exact BK365.out) NB365_0.out (by simp)); have n1_ := Aside0.mk (Kd.R_lower ho0 (keep_size (w := w) (g := g) (row := none) (by repeat (first | (with_reducible first | exact HK.out | apply KeepBut.set_ | apply keep_drewN | apply keep_drew | apply keep_alloc | refine keep_far ?_ GW365.out _) | exact HK.out)))); have n2_ := Aside0.mk (Kd.R_lower ho1 (keep_size (w := w) (g := g) (row := none) (by repeat (first | (with_reducible first | exact HK.out | apply KeepBut.set_ | apply keep_drewN | apply keep_drew | apply keep_alloc | refine keep_far ?_ GW365.out _) | exact HK.out)))); have n3_ := Aside0.mk (KeepBut.trans (by repeat (first | (with_reducible first | exact HK.out | apply KeepBut.set_ | apply keep_drewN | apply keep_drew | apply keep_alloc | refine keep_far ?_ GW365.out _) | exact HK.out)) hk (.inl rfl)); have n4_ := Aside0.mk (hb); have n5_ := Aside0.mk (hi); clear BK365; clear HK; clear HB; clear HI0; have BK365 := n0_; have HO368 := n1_; have HO371 := n2_; have HK := n3_; have HB := n4_; have HI0 := n5_; clear n0_ n1_ n2_ n3_ n4_ n5_; (try clear hb); (try clear hb2); (try clear hk); (try clear hi); (try clear ho0); (try clear ho1)) | ((with_reducible refine gate_dst (N := 3) rfl ?_); refine box_event ?hg (N := 3) ?hd (cs := #[.slice none 0 0, .slice none 0 0]) (t := 33) ?hr ?_; (case hd => rfl); (case hg => rfl); (case hr => go_simp <;> rfl); intro gb374 hg w33 hbox hb; have n0_ := Aside0.mk (Kd.R_below (by exact HO368.out) hb); have n1_ := Aside0.mk (Kd.R_below (by exact HO371.out) hb); have n2_ := Aside0.mk (IsS59.below (by repeat (first | (with_reducible first | exact HI0.out | apply IsS59.alloc | apply IsS59.drewN | apply IsS59.drew | apply IsS59.set_1 | apply IsS59.set_2 | refine IsS59.far ?_ NB0_365.out _) | exact HI0.out)) hb); have n3_ := Aside0.mk (blk_below (g := gb365) (o := .cells #[.slice none 0 0, .slice none 0 0] 33 (0, 0)) (by exact BK365.out) hb); have n4_ := Aside0.mk (KeepBut.trans (by repeat (first | (with_reducible first | exact HK.out | apply KeepBut.set_ | apply keep_drewN | apply keep_drew | apply keep_alloc | refine keep_far ?_ GW365.out _) | exact HK.out)) (KeepBut.of_below hb g none) (.inl rfl)); have n5_ := Aside0.mk (below_step (by repeat (first | (with_reducible first | exact HB.out | apply below_alloc | apply pw_below_drewN | apply below_drew1 | refine below_set ?_ (IsS59.ge HI0.out) | refine below_set ?_ GE365.out) | exact HB.out)) hb); have n6_ := Aside0.mk (hbox); have n7_ := Aside0.mk ((by rw [hg]; exact (keep_size (w := w) (g := g) (row := none) (by repeat (first | (with_reducible first | exact HK.out | apply KeepBut.set_ | apply keep_drewN | apply keep_drew | apply keep_alloc | refine keep_far ?_ GW365.out _) | exact HK.out))) : w.heap.size ≤ gb374)); have n8_ := Aside0.mk ((Nat.le_trans HW0.out (by rw [hg]; exact (keep_size (w := w) (g := g) (row := none) (by repeat (first | (with_reducible first | exact HK.out | apply KeepBut.set_ | apply keep_drewN | apply keep_drew | apply keep_alloc | refine keep_far ?_ GW365.out _) | exact HK.out))) : w.heap.size ≤ gb374) : w0.heap.size ≤ gb374)); have n9_ := Aside0.mk ((by rw [hg]; exact Nat.ne_of_lt (blk_lt (g := gb365) (o := .cells #[.slice none 0 0, .slice none 0 0] 33 (0, 0)) (by exact BK365.out)) : gb365 ≠ gb374)); have n10_ := Aside0.mk ((by rw [hg]; exact Nat.ne_of_gt (blk_lt (g := gb365) (o := .cells #[.slice none 0 0, .slice none 0 0] 33 (0, 0)) (by exact BK365.out)) : gb374 ≠ gb365)); have n11_ := Aside0.mk ((by rw [hg]; exact Nat.ne_of_lt (IsS59.lt (show IsS59 w0 _ g s0_0 t372 t373 from by repeat (first | (with_reducible first | exact HI0.out | apply IsS59.alloc | apply IsS59.drewN | apply IsS59.drew | apply IsS59.set_1 | apply IsS59.set_2 | refine IsS59.far ?_ NB0_365.out _) | exact HI0.out))) : g ≠ gb374)); have n12_ := Aside0.mk ((by rw [hg]; exact Nat.ne_of_gt (IsS59.lt (show IsS59 w0 _ g s0_0 t372 t373 from by repeat (first | (with_reducible first | exact HI0.out | apply IsS59.alloc | apply IsS59.drewN | apply IsS59.drew | apply IsS59.set_1 | apply IsS59.set_2 | refine IsS59.far ?_ NB0_365.out _) | exact HI0.out))) : gb374 ≠ g)); clear HO368; clear HO371; clear HI0; clear BK365; clear HK; clear HB; have HO368 := n0_; have HO371 := n1_; have HI0 := n2_; have BK365 := n3_; have HK := n4_; have HB := n5_; have BK374 := n6_; have GW374 := n7_; have GE374 := n8_; have NB365_374 := n9_; have NB374_365 := n10_; have NB0_374 := n11_; have NB374_0 := n12_; clear n0_ n1_ n2_ n3_ n4_ n5_ n6_ n7_ n8_ n9_ n10_ n11_ n12_; clear hb hbox hg; obtain ⟨Ao34, co34, eo34⟩ := Kd.R_slice HO368.out; subst eo34; have hnb35 := NB374_365.out; have hnc35 := NB365_374.out; have hnb36 := NB374_0.out; have hnc36 := NB0_374.out; have hcz37_0 : w33.cell? ⟨gb374, 0, none⟩ = some (.slice none 0 0) := (blk_cell BK374.out 0).trans rfl; have hcz37_1 : w33.cell? ⟨gb374, 1, none⟩ = some (.slice none 0 0) := (blk_cell BK374.out 1).trans rfl; have hfz37_0 := blk_frozen BK374.out 0; have hfz37_1 := blk_frozen BK374.out 1; obtain ⟨Ao38, co38, eo38⟩ := Kd.R_slice HO371.out; subst eo38) | ((with_reducible refine gate_callee (f := 39) rfl ?_); refine goesL_ (some 7) rfl rfl Tryd.func39 (by kernel_rfl) rfl #[.pointer (some ⟨g, 0, none⟩), .int .i64 10] rfl (by (try simp only [mp]); first | done | rfl) ?_; (with_reducible refine (spec_l1Below.calls g s0_0 t372 t373 10 t375 t376 t377 w0 _ ?side1 ?side2 A3.out).mono ?_); (case side1 => repeat (first | (with_reducible first | exact HI0.out | apply IsS59.alloc | apply IsS59.drewN | apply IsS59.drew | apply IsS59.set_1 | apply IsS59.set_2 | refine IsS59.far ?_ NB0_365.out _ | refine IsS59.far ?_ NB0_374.out _) | exact HI0.out)); (case side2 => repeat (first | (with_reducible first | exact HB.out | apply below_alloc | apply pw_below_drewN | apply below_drew1 | refine below_set ?_ (IsS59.ge HI0.out) | refine below_set ?_ GE365.out | refine below_set ?_ GE374.out) | exact HB.out)); rintro e w39 ⟨rfl, hi, hb, hk⟩; refine ⟨_, rfl, ?_⟩; have n0_ := Aside0.mk (KeepBut.blk hk (g' := gb365) (o := .cells #[.slice none 0 0, .slice none 0 0] 33 (0, 0)) (by refine blk_far ?_ NB365_374.out _; refine blk_far ?_ NB365_374.out _; exact BK365.out) NB365_0.out (by simp)); have n1_ := Aside0.mk (Kd.R_mono (Kd.R_keep (IsS59.apart (show IsS59 w0 _ g s0_0 t372 t373 from by repeat (first | (with_reducible first | exact HI0.out | apply IsS59.alloc | apply IsS59.drewN | apply IsS59.drew | apply IsS59.set_1 | apply IsS59.set_2 | refine IsS59.far ?_ NB0_365.out _ | refine IsS59.far ?_ NB0_374.out _) | exact HI0.out)) (by exact (Kd.R_mono (Kd.R_far (p := ⟨gb374, 1, none⟩) (Kd.R_far (p := ⟨gb374, 0, none⟩) (Kd.R_types HO368.out BK374.out (by decide)) (fun _ hk => hk.2) (.slice Ao34 t366.length co34)) (fun _ hk => hk.2) (.slice Ao38 t369.length co38)) (fun _ h_ => h_.1))) (by decide)) hk (fun _ h => h.2)) (fun _ h => h.1)); have n2_ := Aside0.mk (Kd.R_mono (Kd.R_keep (IsS59.apart (show IsS59 w0 _ g s0_0 t372 t373 from by repeat (first | (with_reducible first | exact HI0.out | apply IsS59.alloc | apply IsS59.drewN | apply IsS59.drew | apply IsS59.set_1 | apply IsS59.set_2 | refine IsS59.far ?_ NB0_365.out _ | refine IsS59.far ?_ NB0_374.out _) | exact HI0.out)) (by exact (Kd.R_mono (Kd.R_far (p := ⟨gb374, 1, none⟩) (Kd.R_far (p := ⟨gb374, 0, none⟩) (Kd.R_types HO371.out BK374.out (by decide)) (fun _ hk => hk.2) (.slice Ao34 t366.length co34)) (fun _ hk => hk.2) (.slice Ao38 t369.length co38)) (fun _ h_ => h_.1))) (by decide)) hk (fun _ h => h.2)) (fun _ h => h.1)); have n3_ := Aside0.mk (KeepBut.blk hk (g' := gb374) (o := .cells #[.slice Ao34 t366.length co34, .slice Ao38 t369.length co38] 33 (0, 0)) (by refine blk_put (cs := #[.slice Ao34 t366.length co34, .slice none 0 0]) ?_ 1 _ rfl; refine blk_put (cs := #[.slice none 0 0, .slice none 0 0]) ?_ 0 _ rfl; exact BK374.out) NB374_0.out (by simp)); have n4_ := Aside0.mk (KeepBut.trans (by repeat (first | (with_reducible first | exact HK.out | apply KeepBut.set_ | apply keep_drewN | apply keep_drew | apply keep_alloc | refine keep_far ?_ GW365.out _ | refine keep_far ?_ GW374.out _) | exact HK.out)) hk (.inl rfl)); have n5_ := Aside0.mk (hb); have n6_ := Aside0.mk (hi); clear BK365; clear HO368; clear HO371; clear BK374; clear HK; clear HB; clear HI0; have BK365 := n0_; have HO368 := n1_; have HO371 := n2_; have BK374 := n3_; have HK := n4_; have HB := n5_; have HI0 := n6_; clear n0_ n1_ n2_ n3_ n4_ n5_ n6_; (try clear hb); (try clear hb2); (try clear hk); (try clear hi)))
        have n0_ := Aside0.mk (Kd.R_drew HO368.out)
        have n1_ := Aside0.mk (Kd.R_drew HO371.out)
        have n2_ := Aside0.mk (blk_drew BK365.out)
        have n3_ := Aside0.mk (blk_drew BK374.out)
        have n4_ := Aside0.mk (IsS59.drew HI0.out)
        have n5_ := Aside0.mk (keep_drew HK.out)
        have n6_ := Aside0.mk (below_drew1 HB.out)
        clear HO368 HO371 BK365 BK374 HI0 HK HB
        have HO368 := n0_
        have HO371 := n1_
        have BK365 := n2_
        have BK374 := n3_
        have HI0 := n4_
        have HK := n5_
        have HB := n6_
        clear n0_ n1_ n2_ n3_ n4_ n5_ n6_
        refine start_ (n := 7) (S := fun w' => w'.cell? ⟨gb374, 0, none⟩ = some (.slice Ao34 t366.length co34) ∧ w'.cell? ⟨gb374, 1, none⟩ = some (.slice Ao38 t369.length co38)) (ds := [6]) #[false, false, false, false, false, false, false] (by kernel_rfl) rfl rfl ⟨(blk_cell BK374.out 0).trans rfl, (blk_cell BK374.out 1).trans rfl⟩ (fun hHeld => ?_)
        generalize w39.drew = w40 at HO368 HO371 BK365 BK374 HI0 HK HB hHeld ⊢
        refine pA 0 18 ?_ rfl rfl (by kernel_rfl) (fun _ _ _ h => h) ⟨by rfl, ?_⟩ ?_ ?_ ?_
        rotate_left
        · intro w'
          go_simp
          with_reducible rfl
        rotate_left
        · simp only [Act.put, nm]
          rfl
        refine pA 2 20 ?_ rfl rfl (by kernel_rfl) (fun _ _ _ h => h) ⟨by rfl, ?_⟩ ?_ ?_ ?_
        rotate_left
        · intro w'
          go_simp
          with_reducible rfl
        rotate_left
        · simp only [Act.put, nm]
          rfl
        refine take_ (i := 1) (N := some 19) (v := ?_) (a' := ?_) #[true, true, true, false, false, false, false] rfl rfl (by kernel_rfl) (fun _ _ _ h => h) (Or.inl ⟨by rfl, ?_⟩) hHeld ?_ ?_
        rotate_left
        · rintro w' ⟨s0, s1⟩
          go_simp
          with_reducible rfl
        rotate_left
        · simp only [Act.put, nm]
          rfl
        refine one_ (i := 3) (N := some 21) #[true, true, true, true, false, false, false] rfl rfl (by kernel_rfl) (by decide) (fun K hK => ?_)
        refine Kd.R_lit_step (Kd.int .i64) _ 3 ?hg (N := 21) ?hd (xs := ([(-1), 99, 100, 101] : List Int)) (inner := [.int .i64 (-1), .int .i64 99, .int .i64 100, .int .i64 101]) (ok := fun _ => True) (okp := fun _ => True) ?hr ?hp (fun _ hk => hk) trivial (Below.refl _ _) (Nat.le_refl _) (by simp) ?_; (case hd => rfl); (case hg => rfl); (case hr => go_simp <;> rfl); (case hp => exact (Reps.one (show Kd.M (Kd.int .i64) _ _ _ (-1) [.int .i64 (-1)] from rfl) (Reps.one (show Kd.M (Kd.int .i64) _ _ _ 99 [.int .i64 99] from rfl) (Reps.one (show Kd.M (Kd.int .i64) _ _ _ 100 [.int .i64 100] from rfl) (Reps.one (show Kd.M (Kd.int .i64) _ _ _ 101 [.int .i64 101] from rfl) (Reps.none _ _))))))
        intro v386 w41 ho42 hb hg_ hnew_
        clear hg_ hnew_
        rw [← Ny385.out] at ho42
        have n0_ := Aside0.mk (Kd.R_elder' (by exact HO368.out) (Kd.R_base ho42) hb)
        have n1_ := Aside0.mk (Kd.R_elder' (by exact HO371.out) (Kd.R_base ho42) hb)
        have n2_ := Aside0.mk (Kd.R_lower (Kd.R_new' (Kd.R_new' ho42 (Kd.R_lt (by exact HO368.out))) (Kd.R_lt (by exact HO371.out))) (keep_size (w := w) (g := g) (row := none) (HK.out)))
        have n3_ := Aside0.mk (IsS59.below (HI0.out) hb)
        have n4_ := Aside0.mk (blk_below (g := gb365) (o := .cells #[.slice none 0 0, .slice none 0 0] 33 (0, 0)) (by exact BK365.out) hb)
        have n5_ := Aside0.mk (blk_below (g := gb374) (o := .cells #[.slice Ao34 t366.length co34, .slice Ao38 t369.length co38] 33 (0, 0)) (by exact BK374.out) hb)
        have n6_ := Aside0.mk (KeepBut.trans (HK.out) (KeepBut.of_below hb g none) (.inl rfl))
        have n7_ := Aside0.mk (below_step (HB.out) hb)
        clear HO368 HO371 HI0 BK365 BK374 HK HB
        have HO368 := n0_
        have HO371 := n1_
        have HO387 := n2_
        have HI0 := n3_
        have BK365 := n4_
        have BK374 := n5_
        have HK := n6_
        have HB := n7_
        clear n0_ n1_ n2_ n3_ n4_ n5_ n6_ n7_ hb ho42
        obtain ⟨Ao43, co43, eo43⟩ := Kd.R_slice HO387.out
        (first | subst eo43 | (injection eo43 with f1_ f2_ f3_; have f4_ := f1_.symm; have f5_ := f3_.symm; clear f1_ f2_ f3_; subst f4_; subst f5_))
        refine hK.out _ _ ⟨(blk_cell BK374.out 0).trans rfl, (blk_cell BK374.out 1).trans rfl⟩ (fun hHeld => ?_)
        clear hK K
        refine norm_ (a' := ?_) ?_ ?_
        rotate_left
        · show Act.put _ (some 21) _ = _
          simp only [Act.put, nm]
          rfl
        refine one_ (i := 4) (N := some 22) #[true, true, true, true, true, false, false] rfl rfl (by kernel_rfl) (by decide) (fun K hK => ?_)
        refine goes_ Tryd.func41 (by kernel_rfl) rfl #[.pointer (some ⟨g, 0, none⟩), .slice Ao43 y385.length co43] (by rfl) rfl rfl (by (try simp only [mp]); first | done | rfl) ?_
        with_reducible refine (spec_l1PickInt.calls g s0_0 t376 t377 _ _ y385 t388 t389 t390 w0 _ ?side1 ?side2 ?side3 ?side4 ?side5 A28.out).mono ?_
        (case side1 => exact HI0.out)
        (case side2 => exact HB.out)
        (case side3 => exact (Kd.R_reads' HO387.out).2.2)
        (case side4 => exact (Kd.R_reads' HO387.out).2.1)
        (case side5 => exact far_slice (IsS59.own_ne HI0.out HO387.out (by decide)))
        rintro e w44 ⟨rfl, hi, hb, hk⟩
        refine ⟨_, rfl, ?_⟩
        have n0_ := Aside0.mk (KeepBut.blk hk (g' := gb365) (o := .cells #[.slice none 0 0, .slice none 0 0] 33 (0, 0)) (by exact BK365.out) NB365_0.out (by simp))
        have n1_ := Aside0.mk (Kd.R_mono (Kd.R_keep (IsS59.apart (show IsS59 w0 _ g s0_0 t376 t377 from HI0.out) (by exact HO368.out) (by decide)) hk (fun _ h => h.2)) (fun _ h => h.1))
        have n2_ := Aside0.mk (Kd.R_mono (Kd.R_keep (IsS59.apart (show IsS59 w0 _ g s0_0 t376 t377 from HI0.out) (by exact HO371.out) (by decide)) hk (fun _ h => h.2)) (fun _ h => h.1))
        have n3_ := Aside0.mk (KeepBut.blk hk (g' := gb374) (o := .cells #[.slice Ao34 t366.length co34, .slice Ao38 t369.length co38] 33 (0, 0)) (by exact BK374.out) NB374_0.out (by simp))
        have n4_ := Aside0.mk (Kd.R_mono (Kd.R_keep (IsS59.apart (show IsS59 w0 _ g s0_0 t376 t377 from HI0.out) (by exact HO387.out) (by decide)) hk (fun _ h => h.2)) (fun _ h => h.1))
        have n5_ := Aside0.mk (KeepBut.trans (HK.out) hk (.inl rfl))
        have n6_ := Aside0.mk (hb)
        have n7_ := Aside0.mk (hi)
        clear BK365 HO368 HO371 BK374 HO387 HK HB HI0
        have BK365 := n0_
        have HO368 := n1_
        have HO371 := n2_
        have BK374 := n3_
        have HO387 := n4_
        have HK := n5_
        have HB := n6_
        have HI0 := n7_
        clear n0_ n1_ n2_ n3_ n4_ n5_ n6_ n7_
        (try clear hb)
        (try clear hb2)
        (try clear hk)
        (try clear hi)
        have p30 : 0 ≤ (2 : Int) := (by omega)
        have q30 : (2 : Int) < ((t369.length : Int) : Int) := of_decide_eq_true (by first | (with_reducible assumption) | assumption)
        have qi30 : (2 < t369.length) = True := eq_true (by omega)
        obtain ⟨go30, co30, eo30, gb30, gl30, cl30, HG30⟩ := Kd.R_form HO371.out (by omega)
        (first | cases eo30 | (injection eo30 with ea_ en_ ec_; (first | subst ea_ | (injection ea_ with ea_; subst ea_)); subst ec_; clear en_))
        have GB30 := Aside0.mk gb30
        have GG30 := Aside0.mk HG30
        clear gb30 gl30 HG30
        obtain ⟨hx30_0, hf30_0⟩ := Kd.R_celln 0 HO371.out (2 : Int) p30 q30
        (try rw [show ((2 : Int)).toNat = 2 from rfl] at hx30_0)
        (try simp only [Nat.reduceMul, Nat.zero_mul, Nat.zero_add, Nat.reduceAdd] at hx30_0)
        (try rw [show ((2 : Int)).toNat = 2 from rfl] at hf30_0)
        (try simp only [Nat.reduceMul, Nat.zero_mul, Nat.zero_add, Nat.reduceAdd] at hf30_0)
        replace p30 := eq_true p30
        replace q30 := eq_true q30
        have HN0_go30 := Aside0.mk (show g ≠ go30 from by have h_ := IsS59.own_ne HI0.out HO371.out (by decide); intro e_; exact h_ (by rw [e_]; rfl))
        have HP45 := Kd.R_putn HO371.out (2 : Int) t388
        rw [← Ny391.out] at HP45
        have HQ45 := Aside0.mk HP45
        clear HP45
        refine hK.out _ _ ⟨(blk_cell BK374.out 0).trans rfl, (blk_cell BK374.out 1).trans rfl⟩ (fun hHeld => ?_)
        clear hK K
        refine norm_ (a' := ?_) ?_ ?_
        rotate_left
        · show Act.put _ (some 22) _ = _
          simp only [Act.put, nm]
          rfl
        refine pA 5 23 ?_ rfl rfl (by kernel_rfl) (fun _ _ _ h => h) ⟨by rfl, ?_⟩ ?_ ?_ ?_
        rotate_left
        · intro w'
          go_simp
          with_reducible rfl
        rotate_left
        · simp only [Act.put, nm]
          rfl
        refine last_ (i := 6) (N := none) #[true, true, true, true, true, true, true] rfl rfl (by kernel_rfl) (by decide) (fun K hK => ?_)
        refine skip_ (w1 := ?_) (by rfl) rfl ?_ ?_
        rotate_left
        · go_simp
          rfl
        refine hK.out _ _ ?_
        clear hK K
        refine done_ (by kernel_rfl) ?_
        have n0_ : Aside0 (Kd.R (Kd.int .i64) 3 (w44.setCell ⟨go30, 2, none⟩ (.int .i64 t388)) w.heap.size (fun k_ => some k_ ≠ (.slice (some ⟨go30, 0, none⟩) t369.length co38 : Value).ownBlock ∧ some k_ ≠ (.slice Ao43 y385.length co43 : Value).ownBlock) (.slice Ao34 t366.length co34) t366) := ⟨by exact Kd.R_mono (Kd.R_far (p := ⟨go30, 2, none⟩) (Kd.R_mono HO368.out (fun k_ hk => (⟨hk, fun e_ => hk.1 (by rw [e_]; rfl)⟩ : _ ∧ k_ ≠ go30))) (fun _ hk => hk.2) (.int .i64 t388)) (fun _ hk => ⟨hk.1.1, hk.1.2⟩)⟩
        have n1_ : Aside0 (Kd.R (Kd.int .i64) 3 (w44.setCell ⟨go30, 2, none⟩ (.int .i64 t388)) w.heap.size (fun k_ => some k_ ≠ (.slice Ao34 t366.length co34 : Value).ownBlock ∧ some k_ ≠ (.slice Ao43 y385.length co43 : Value).ownBlock) (.slice (some ⟨go30, 0, none⟩) t369.length co38) y391) := ⟨by exact HQ45.out⟩
        have n2_ : Aside0 (Kd.R (Kd.int .i64) 3 (w44.setCell ⟨go30, 2, none⟩ (.int .i64 t388)) w.heap.size (fun k_ => some k_ ≠ (.slice Ao34 t366.length co34 : Value).ownBlock ∧ some k_ ≠ (.slice (some ⟨go30, 0, none⟩) t369.length co38 : Value).ownBlock) (.slice Ao43 y385.length co43) y385) := ⟨by exact Kd.R_mono (Kd.R_far (p := ⟨go30, 2, none⟩) (Kd.R_mono HO387.out (fun k_ hk => (⟨hk, fun e_ => hk.2 (by rw [e_]; rfl)⟩ : _ ∧ k_ ≠ go30))) (fun _ hk => hk.2) (.int .i64 t388)) (fun _ hk => ⟨hk.1.1.2, hk.1.2⟩)⟩
        have n3_ : Aside0 ((w44.setCell ⟨go30, 2, none⟩ (.int .i64 t388)).heap[gb365]? = some (.cells #[.slice none 0 0, .slice none 0 0] 33 (0, 0))) := ⟨by refine blk_far ?_ (by have h_ := Kd.R_ne HO371.out BK365.out (by decide); intro e_; exact h_ (by rw [e_]; rfl)) _; exact BK365.out⟩
        have n4_ : Aside0 ((w44.setCell ⟨go30, 2, none⟩ (.int .i64 t388)).heap[gb374]? = some (.cells #[.slice Ao34 t366.length co34, .slice (some ⟨go30, 0, none⟩) t369.length co38] 33 (0, 0))) := ⟨by refine blk_far ?_ (by have h_ := Kd.R_ne HO371.out BK374.out (by decide); intro e_; exact h_ (by rw [e_]; rfl)) _; exact BK374.out⟩
        have n5_ : Aside0 (IsS59 w0 (w44.setCell ⟨go30, 2, none⟩ (.int .i64 t388)) g s0_0 t389 t390) := ⟨by repeat (first | (with_reducible first | exact HI0.out | apply IsS59.alloc | apply IsS59.drewN | apply IsS59.drew | apply IsS59.set_1 | apply IsS59.set_2 | refine IsS59.far ?_ HN0_go30.out _ | refine IsS59.far ?_ NB0_365.out _ | refine IsS59.far ?_ NB0_374.out _) | exact HI0.out)⟩
        have n6_ : Aside0 (KeepBut w (w44.setCell ⟨go30, 2, none⟩ (.int .i64 t388)) g none) := ⟨by repeat (first | (with_reducible first | exact HK.out | apply KeepBut.set_ | apply keep_drewN | apply keep_drew | apply keep_alloc | refine keep_far ?_ GB30.out _ | refine keep_far ?_ GW365.out _ | refine keep_far ?_ GW374.out _) | exact HK.out)⟩
        have n7_ : Aside0 (Below w0.heap.size w0 (w44.setCell ⟨go30, 2, none⟩ (.int .i64 t388))) := ⟨by repeat (first | (with_reducible first | exact HB.out | apply below_alloc | apply pw_below_drewN | apply below_drew1 | refine below_set ?_ (Nat.le_trans HL.out GB30.out) | refine below_set ?_ (IsS59.ge HI0.out) | refine below_set ?_ GE365.out | refine below_set ?_ GE374.out) | exact HB.out)⟩
        (try clear HO368)
        (try clear HO371)
        (try clear HO387)
        (try clear BK365)
        (try clear BK374)
        (try clear HI0)
        (try clear HK)
        (try clear HB)
        generalize (w44.setCell ⟨go30, 2, none⟩ (.int .i64 t388)) = w46 at n0_ n1_ n2_ n3_ n4_ n5_ n6_ n7_ ⊢
        have HO368 := n0_
        have HO371 := n1_
        have HO387 := n2_
        have BK365 := n3_
        have BK374 := n4_
        have HI0 := n5_
        have HK := n6_
        have HB := n7_
        clear n0_ n1_ n2_ n3_ n4_ n5_ n6_ n7_
        have hcz47_0 : w46.cell? ⟨gb374, 0, none⟩ = some (.slice Ao34 t366.length co34) := (blk_cell BK374.out 0).trans rfl
        have hcz47_1 : w46.cell? ⟨gb374, 1, none⟩ = some (.slice (some ⟨go30, 0, none⟩) t369.length co38) := (blk_cell BK374.out 1).trans rfl
        have hfz47_0 := blk_frozen BK374.out 0
        have hfz47_1 := blk_frozen BK374.out 1
        have hnb48 := NB365_0.out
        have hnc48 := NB0_365.out
        have hcz49_0 : w46.cell? ⟨gb365, 0, none⟩ = some (.slice none 0 0) := (blk_cell BK365.out 0).trans rfl
        have hcz49_1 : w46.cell? ⟨gb365, 1, none⟩ = some (.slice none 0 0) := (blk_cell BK365.out 1).trans rfl
        have hfz49_0 := blk_frozen BK365.out 0
        have hfz49_1 := blk_frozen BK365.out 1
        try go_wp2
        refine bodyPost_ret (results_cell_row rfl _ _ gb365 33 #[.slice Ao34 t366.length co34, .slice (some ⟨go30, 0, none⟩) t369.length co38] (0, 0) _ rfl (by refine blk_put (cs := #[.slice Ao34 t366.length co34, .slice none 0 0]) ?_ 1 _ rfl; refine blk_put (cs := #[.slice none 0 0, .slice none 0 0]) ?_ 0 _ rfl; exact BK365.out) Tryd.underlying33 rfl (by kernel_rfl)) rfl ?_
        exact ⟨_, _, rfl, by exact Kd.R_mono (Kd.R_far (p := ⟨gb365, 1, none⟩) (Kd.R_far (p := ⟨gb365, 0, none⟩) (Kd.R_types HO368.out BK365.out (by decide)) (fun _ hk => hk.2) (.slice Ao34 t366.length co34)) (fun _ hk => hk.2) (.slice (some ⟨go30, 0, none⟩) t369.length co38)) (fun _ hk => hk.1.1), by exact Kd.R_mono (Kd.R_far (p := ⟨gb365, 1, none⟩) (Kd.R_far (p := ⟨gb365, 0, none⟩) (Kd.R_types HO371.out BK365.out (by decide)) (fun _ hk => hk.2) (.slice Ao34 t366.length co34)) (fun _ hk => hk.2) (.slice (some ⟨go30, 0, none⟩) t369.length co38)) (fun _ hk => hk.1.1), by repeat (first | (with_reducible first | exact HI0.out | apply IsS59.alloc | apply IsS59.drewN | apply IsS59.drew | apply IsS59.set_1 | apply IsS59.set_2 | refine IsS59.far ?_ NB0_365.out _ | refine IsS59.far ?_ NB0_374.out _) | exact HI0.out), by repeat (first | (with_reducible first | exact HB.out | apply below_alloc | apply pw_below_drewN | apply below_drew1 | refine below_set ?_ (IsS59.ge HI0.out) | refine below_set ?_ GE365.out | refine below_set ?_ GE374.out) | exact HB.out), by repeat (first | (with_reducible first | exact HK.out | apply KeepBut.set_ | apply keep_drewN | apply keep_drew | apply keep_alloc | refine keep_far ?_ GW365.out _ | refine keep_far ?_ GW374.out _) | exact HK.out)⟩
      · rw [if_neg c29] at H
        exact absurd H (by simp)
    · rw [if_neg c27] at H
      have c27b0 : (t375 == 1) = false := beq_eq_false_iff_ne.mpr c27
      have c27b1 : (t375 != 1) = true := bne_iff_ne.mpr c27
      by_cases c50 : t375 = 2
      · rw [if_pos c50] at H
        have c50b0 : (t375 == 2) = true := beq_iff_eq.mpr c50
        have c50b1 : (t375 != 2) = false := bne_eq_false_iff_eq.mpr c50
        clear c50
        by_cases c51 : t366.length < 17592186044416
        · rw [if_pos c51] at H
          have LMc51 := Aside0.mk c51
          clear c51
          obtain ⟨y392, hy392⟩ : ∃ y_ : List Int, y_ = (t366 ++ [1]) := ⟨_, rfl⟩
          replace H : (some (y392, t369, t376, t377)) = some (r1, r2, r3, r4) := by rw [hy392]; exact H
          have Ny392 := Aside0.mk hy392
          clear hy392
          simp only [Option.some.injEq, Prod.mk.injEq] at H
          obtain ⟨rfl, rfl, rfl, rfl⟩ := H
          go_enter Tryd.func28, Tryd.ntmps28
          go_wp2_with (first | ((with_reducible refine gate_dst (N := 2) rfl ?_); refine box_event ?hg (N := 2) ?hd (cs := #[.slice none 0 0, .slice none 0 0]) (t := 33) ?hr ?_; (case hd => rfl); (case hg => rfl); (case hr => go_simp <;> rfl); intro gb365 hg w52 hbox hb; have n0_ := Aside0.mk (IsS59.below (HI0.out) hb); have n1_ := Aside0.mk (KeepBut.trans (HK.out) (KeepBut.of_below hb g none) (.inl rfl)); have n2_ := Aside0.mk (below_step (by repeat (first | (with_reducible first | exact HB.out | apply below_alloc | apply pw_below_drewN | apply below_drew1 | refine below_set ?_ (IsS59.ge HI0.out)) | exact HB.out)) hb); have n3_ := Aside0.mk (hbox); have n4_ := Aside0.mk ((by rw [hg]; exact (keep_size (w := w) (g := g) (row := none) (HK.out)) : w.heap.size ≤ gb365)); have n5_ := Aside0.mk ((Nat.le_trans HW0.out (by rw [hg]; exact (keep_size (w := w) (g := g) (row := none) (HK.out)) : w.heap.size ≤ gb365) : w0.heap.size ≤ gb365)); have n6_ := Aside0.mk ((by rw [hg]; exact Nat.ne_of_lt (IsS59.lt (show IsS59 w0 _ g s0_0 s0_1 s0_2 from HI0.out)) : g ≠ gb365)); have n7_ := Aside0.mk ((by rw [hg]; exact Nat.ne_of_gt (IsS59.lt (show IsS59 w0 _ g s0_0 s0_1 s0_2 from HI0.out)) : gb365 ≠ g)); clear HI0; clear HK; clear HB; have HI0 := n0_; have HK := n1_; have HB := n2_; have BK365 := n3_; have GW365 := n4_; have GE365 := n5_; have NB0_365 := n6_; have NB365_0 := n7_; clear n0_ n1_ n2_ n3_ n4_ n5_ n6_ n7_; clear hb hbox hg) | ((with_reducible refine gate_callee (f := 44) rfl ?_); refine goesL_ (some 5) rfl rfl Tryd.func44 (by kernel_rfl) rfl #[.pointer (some ⟨g, 0, none⟩)] rfl (by (try simp only [mp]); first | done | rfl) ?_; (with_reducible refine (spec_l3DrawRight.calls k g s0_0 s0_1 s0_2 t366 t369 t372 t373 w0 _ ?side1 ?side2 A2.out).mono ?_); (case side1 => repeat (first | (with_reducible first | exact HI0.out | apply IsS59.alloc | apply IsS59.drewN | apply IsS59.drew | apply IsS59.set_1 | apply IsS59.set_2 | refine IsS59.far ?_ NB0_365.out _) | exact HI0.out)); (case side2 => repeat (first | (with_reducible first | exact HB.out | apply below_alloc | apply pw_below_drewN | apply below_drew1 | refine below_set ?_ (IsS59.ge HI0.out) | refine below_set ?_ GE365.out) | exact HB.out)); rintro e w53 ⟨v367, v370, rfl, ho0, ho1, hi, hb, hk⟩; refine ⟨_, rfl, ?_⟩; have n0_ := Aside0.mk (KeepBut.blk hk (g' := gb365) (o := .cells #[.slice none 0 0, .slice none 0 0] 33 (0, 0)) (by exact BK365.out) NB365_0.out (by simp)); have n1_ := Aside0.mk (Kd.R_lower ho0 (keep_size (w := w) (g := g) (row := none) (by repeat (first | (with_reducible first | exact HK.out | apply KeepBut.set_ | apply keep_drewN | apply keep_drew | apply keep_alloc | refine keep_far ?_ GW365.out _) | exact HK.out)))); have n2_ := Aside0.mk (Kd.R_lower ho1 (keep_size (w := w) (g := g) (row := none) (by repeat (first | (with_reducible first | exact HK.out | apply KeepBut.set_ | apply keep_drewN | apply keep_drew | apply keep_alloc | refine keep_far ?_ GW365.out _) | exact HK.out)))); have n3_ := Aside0.mk (KeepBut.trans (by repeat (first | (with_reducible first | exact HK.out | apply KeepBut.set_ | apply keep_drewN | apply keep_drew | apply keep_alloc | refine keep_far ?_ GW365.out _) | exact HK.out)) hk (.inl rfl)); have n4_ := Aside0.mk (hb); have n5_ := Aside0.mk (hi); clear BK365; clear HK; clear HB; clear HI0; have BK365 := n0_; have HO368 := n1_; have HO371 := n2_; have HK := n3_; have HB := n4_; have HI0 := n5_; clear n0_ n1_ n2_ n3_ n4_ n5_; (try clear hb); (try clear hb2); (try clear hk); (try clear hi); (try clear ho0); (try clear ho1)) | ((with_reducible refine gate_dst (N := 3) rfl ?_); refine box_event ?hg (N := 3) ?hd (cs := #[.slice none 0 0, .slice none 0 0]) (t := 33) ?hr ?_; (case hd => rfl); (case hg => rfl); (case hr => go_simp <;> rfl); intro gb374 hg w54 hbox hb; have n0_ := Aside0.mk (Kd.R_below (by exact HO368.out) hb); have n1_ := Aside0.mk (Kd.R_below (by exact HO371.out) hb); have n2_ := Aside0.mk (IsS59.below (by repeat (first | (with_reducible first | exact HI0.out | apply IsS59.alloc | apply IsS59.drewN | apply IsS59.drew | apply IsS59.set_1 | apply IsS59.set_2 | refine IsS59.far ?_ NB0_365.out _) | exact HI0.out)) hb); have n3_ := Aside0.mk (blk_below (g := gb365) (o := .cells #[.slice none 0 0, .slice none 0 0] 33 (0, 0)) (by exact BK365.out) hb); have n4_ := Aside0.mk (KeepBut.trans (by repeat (first | (with_reducible first | exact HK.out | apply KeepBut.set_ | apply keep_drewN | apply keep_drew | apply keep_alloc | refine keep_far ?_ GW365.out _) | exact HK.out)) (KeepBut.of_below hb g none) (.inl rfl)); have n5_ := Aside0.mk (below_step (by repeat (first | (with_reducible first | exact HB.out | apply below_alloc | apply pw_below_drewN | apply below_drew1 | refine below_set ?_ (IsS59.ge HI0.out) | refine below_set ?_ GE365.out) | exact HB.out)) hb); have n6_ := Aside0.mk (hbox); have n7_ := Aside0.mk ((by rw [hg]; exact (keep_size (w := w) (g := g) (row := none) (by repeat (first | (with_reducible first | exact HK.out | apply KeepBut.set_ | apply keep_drewN | apply keep_drew | apply keep_alloc | refine keep_far ?_ GW365.out _) | exact HK.out))) : w.heap.size ≤ gb374)); have n8_ := Aside0.mk ((Nat.le_trans HW0.out (by rw [hg]; exact (keep_size (w := w) (g := g) (row := none) (by repeat (first | (with_reducible first | exact HK.out | apply KeepBut.set_ | apply keep_drewN | apply keep_drew | apply keep_alloc | refine keep_far ?_ GW365.out _) | exact HK.out))) : w.heap.size ≤ gb374) : w0.heap.size ≤ gb374)); have n9_ := Aside0.mk ((by rw [hg]; exact Nat.ne_of_lt (blk_lt (g := gb365) (o := .cells #[.slice none 0 0, .slice none 0 0] 33 (0, 0)) (by exact BK365.out)) : gb365 ≠ gb374)); have n10_ := Aside0.mk ((by rw [hg]; exact Nat.ne_of_gt (blk_lt (g := gb365) (o := .cells #[.slice none 0 0, .slice none 0 0] 33 (0, 0)) (by exact BK365.out)) : gb374 ≠ gb365)); have n11_ := Aside0.mk ((by rw [hg]; exact Nat.ne_of_lt (IsS59.lt (show IsS59 w0 _ g s0_0 t372 t373 from by repeat (first | (with_reducible first | exact HI0.out | apply IsS59.alloc | apply IsS59.drewN | apply IsS59.drew | apply IsS59.set_1 | apply IsS59.set_2 | refine IsS59.far ?_ NB0_365.out _) | exact HI0.out))) : g ≠ gb374)); have n12_ := Aside0.mk ((by rw [hg]; exact Nat.ne_of_gt (IsS59.lt (show IsS59 w0 _ g s0_0 t372 t373 from by repeat (first | (with_reducible first | exact HI0.out | apply IsS59.alloc | apply IsS59.drewN | apply IsS59.drew | apply IsS59.set_1 | apply IsS59.set_2 | refine IsS59.far ?_ NB0_365.out _) | exact HI0.out))) : gb374 ≠ g)); clear HO368; clear HO371; clear HI0; clear BK365; clear HK; clear HB; have HO368 := n0_; have HO371 := n1_; have HI0 := n2_; have BK365 := n3_; have HK := n4_; have HB := n5_; have BK374 := n6_; have GW374 := n7_; have GE374 := n8_; have NB365_374 := n9_; have NB374_365 := n10_; have NB0_374 := n11_; have NB374_0 := n12_; clear n0_ n1_ n2_ n3_ n4_ n5_ n6_ n7_ n8_ n9_ n10_ n11_ n12_; clear hb hbox hg; obtain ⟨Ao55, co55, eo55⟩ := Kd.R_slice HO368.out; subst eo55; have hnb56 := NB374_365.out; have hnc56 := NB365_374.out; have hnb57 := NB374_0.out; have hnc57 := NB0_374.out; have hcz58_0 : w54.cell? ⟨gb374, 0, none⟩ = some (.slice none 0 0) := (blk_cell BK374.out 0).trans rfl; have hcz58_1 : w54.cell? ⟨gb374, 1, none⟩ = some (.slice none 0 0) := (blk_cell BK374.out 1).trans rfl; have hfz58_0 := blk_frozen BK374.out 0; have hfz58_1 := blk_frozen BK374.out 1; obtain ⟨Ao59, co59, eo59⟩ := Kd.R_slice HO371.out; subst eo59) | ((with_reducible refine gate_callee (f := 39) rfl ?_); refine goesL_ (some 7) rfl rfl Tryd.func39 (by kernel_rfl) rfl #[.pointer (some ⟨g, 0, none⟩), .int .i64 10] rfl (by (try simp only [mp]); first | done | rfl) ?_; (with_reducible refine (spec_l1Below.calls g s0_0 t372 t373 10 t375 t376 t377 w0 _ ?side1 ?side2 A3.out).mono ?_); (case side1 => repeat (first | (with_reducible first | exact HI0.out | apply IsS59.alloc | apply IsS59.drewN | apply IsS59.drew | apply IsS59.set_1 | apply IsS59.set_2 | refine IsS59.far ?_ NB0_365.out _ | refine IsS59.far ?_ NB0_374.out _) | exact HI0.out)); (case side2 => repeat (first | (with_reducible first | exact HB.out | apply below_alloc | apply pw_below_drewN | apply below_drew1 | refine below_set ?_ (IsS59.ge HI0.out) | refine below_set ?_ GE365.out | refine below_set ?_ GE374.out) | exact HB.out)); rintro e w60 ⟨rfl, hi, hb, hk⟩; refine ⟨_, rfl, ?_⟩; have n0_ := Aside0.mk (KeepBut.blk hk (g' := gb365) (o := .cells #[.slice none 0 0, .slice none 0 0] 33 (0, 0)) (by refine blk_far ?_ NB365_374.out _; refine blk_far ?_ NB365_374.out _; exact BK365.out) NB365_0.out (by simp)); have n1_ := Aside0.mk (Kd.R_mono (Kd.R_keep (IsS59.apart (show IsS59 w0 _ g s0_0 t372 t373 from by repeat (first | (with_reducible first | exact HI0.out | apply IsS59.alloc | apply IsS59.drewN | apply IsS59.drew | apply IsS59.set_1 | apply IsS59.set_2 | refine IsS59.far ?_ NB0_365.out _ | refine IsS59.far ?_ NB0_374.out _) | exact HI0.out)) (by exact (Kd.R_mono (Kd.R_far (p := ⟨gb374, 1, none⟩) (Kd.R_far (p := ⟨gb374, 0, none⟩) (Kd.R_types HO368.out BK374.out (by decide)) (fun _ hk => hk.2) (.slice Ao55 t366.length co55)) (fun _ hk => hk.2) (.slice Ao59 t369.length co59)) (fun _ h_ => h_.1))) (by decide)) hk (fun _ h => h.2)) (fun _ h => h.1)); have n2_ := Aside0.mk (Kd.R_mono (Kd.R_keep (IsS59.apart (show IsS59 w0 _ g s0_0 t372 t373 from by repeat (first | (with_reducible first | exact HI0.out | apply IsS59.alloc | apply IsS59.drewN | apply IsS59.drew | apply IsS59.set_1 | apply IsS59.set_2 | refine IsS59.far ?_ NB0_365.out _ | refine IsS59.far ?_ NB0_374.out _) | exact HI0.out)) (by exact (Kd.R_mono (Kd.R_far (p := ⟨gb374, 1, none⟩) (Kd.R_far (p := ⟨gb374, 0, none⟩) (Kd.R_types HO371.out BK374.out (by decide)) (fun _ hk => hk.2) (.slice Ao55 t366.length co55)) (fun _ hk => hk.2) (.slice Ao59 t369.length co59)) (fun _ h_ => h_.1))) (by decide)) hk (fun _ h => h.2)) (fun _ h => h.1)); have n3_ := Aside0.mk (KeepBut.blk hk (g' := gb374) (o := .cells #[.slice Ao55 t366.length co55, .slice Ao59 t369.length co59] 33 (0, 0)) (by refine blk_put (cs := #[.slice Ao55 t366.length co55, .slice none 0 0]) ?_ 1 _ rfl; refine blk_put (cs := #[.slice none 0 0, .slice none 0 0]) ?_ 0 _ rfl; exact BK374.out) NB374_0.out (by simp)); have n4_ := Aside0.mk (KeepBut.trans (by repeat (first | (with_reducible first | exact HK.out | apply KeepBut.set_ | apply keep_drewN | apply keep_drew | apply keep_alloc | refine keep_far ?_ GW365.out _ | refine keep_far ?_ GW374.out _) | exact HK.out)) hk (.inl rfl)); have n5_ := Aside0.mk (hb); have n6_ := Aside0.mk (hi); clear BK365; clear HO368; clear HO371; clear BK374; clear HK; clear HB; clear HI0; have BK365 := n0_; have HO368 := n1_; have HO371 := n2_; have BK374 := n3_; have HK := n4_; have HB := n5_; have HI0 := n6_; clear n0_ n1_ n2_ n3_ n4_ n5_ n6_; (try clear hb); (try clear hb2); (try clear hk); (try clear hi); have hcz61_0 : w60.cell? ⟨gb374, 0, none⟩ = some (.slice Ao55 t366.length co55) := (blk_cell BK374.out 0).trans rfl; have hcz61_1 : w60.cell? ⟨gb374, 1, none⟩ = some (.slice Ao59 t369.length co59) := (blk_cell BK374.out 1).trans rfl; have hfz61_0 := blk_frozen BK374.out 0; have hfz61_1 := blk_frozen BK374.out 1) | ((with_reducible refine gate_builtin (b := .append) (xs := #[.tmp 27, .tmp 28]) rfl ?_); at_builtin; refine Kd.R_append (Kd.int .i64) w.heap.size rfl (.tmp 27) (.tmp 28) 31 3 (.int .i64 0) 8 rfl Tryd.underlying31 info3 rfl (by decide) (by omega) (.slice Ao55 t366.length co55) t366 1 [.int .i64 1] (fun k_ => some k_ ≠ (.slice Ao59 t369.length co59 : Value).ownBlock) (fun _ => False) rfl rfl ?aP (fun _ hk => hk.elim) ?aF ?aO (Below.refl _ _) ?aS ?aL ?_; (case aP => exact rfl); (case aF => exact (fun k_ hk => Kd.fresh' (Kd.R_lt (by exact HO371.out)) k_ hk)); (case aO => exact (by exact HO368.out)); (case aS => exact (keep_size (w := w) (g := g) (row := none) (by repeat (first | (with_reducible first | exact HK.out | apply KeepBut.set_ | apply keep_drewN | apply keep_drew | apply keep_alloc | refine keep_far ?_ GW365.out _ | refine keep_far ?_ GW374.out _) | exact HK.out)))); (case aL => have := LMc51.out; omega); intro v393 w62 ho hb hg hat; rw [← Ny392.out] at ho; have n0_ := Aside0.mk (IsS59.grown (by repeat (first | (with_reducible first | exact HI0.out | apply IsS59.alloc | apply IsS59.drewN | apply IsS59.drew | apply IsS59.set_1 | apply IsS59.set_2 | refine IsS59.far ?_ NB0_365.out _ | refine IsS59.far ?_ NB0_374.out _) | exact HI0.out)) hg (IsS59.own_ne HI0.out HO368.out (by decide))); have n1_ := Aside0.mk (blk_grown (g := gb365) (o := .cells #[.slice none 0 0, .slice none 0 0] 33 (0, 0)) (by exact BK365.out) hg (Kd.R_ne HO368.out BK365.out (by decide))); have n2_ := Aside0.mk (Kd.R_after (ok := (fun _ => True)) (by exact Kd.R_mono HO371.out (fun _ hk => ⟨trivial, hk⟩)) hg hat); have n3_ := Aside0.mk (blk_grown (g := gb374) (o := .cells #[.slice Ao55 t366.length co55, .slice Ao59 t369.length co59] 33 (0, 0)) (by exact BK374.out) hg (Kd.R_ne HO368.out BK374.out (by decide))); have n4_ := Aside0.mk (below_weaken (by repeat (first | (with_reducible first | exact HB.out | apply below_alloc | apply pw_below_drewN | apply below_drew1 | refine below_set ?_ (IsS59.ge HI0.out) | refine below_set ?_ GE365.out | refine below_set ?_ GE374.out) | exact HB.out)) HL.out hb); have n5_ := Aside0.mk (KeepBut.trans (by repeat (first | (with_reducible first | exact HK.out | apply KeepBut.set_ | apply keep_drewN | apply keep_drew | apply keep_alloc | refine keep_far ?_ GW365.out _ | refine keep_far ?_ GW374.out _) | exact HK.out)) (KeepBut.of_grown hg g) (Kd.R_base2 HO368.out)); have n6_ := Aside0.mk (ho); clear HI0; clear BK365; clear HO371; clear BK374; clear HB; clear HK; clear HO368; have HI0 := n0_; have BK365 := n1_; have HO371 := n2_; have BK374 := n3_; have HB := n4_; have HK := n5_; have HO394 := n6_; clear n0_ n1_ n2_ n3_ n4_ n5_ n6_; clear ho hb hg hat; obtain ⟨Ao63, co63, eo63⟩ := Kd.R_slice HO394.out; subst eo63; have hcz64_0 : w62.cell? ⟨gb374, 0, none⟩ = some (.slice Ao55 t366.length co55) := (blk_cell BK374.out 0).trans rfl; have hcz64_1 : w62.cell? ⟨gb374, 1, none⟩ = some (.slice Ao59 t369.length co59) := (blk_cell BK374.out 1).trans rfl; have hfz64_0 := blk_frozen BK374.out 0; have hfz64_1 := blk_frozen BK374.out 1; have hnb65 := NB365_0.out; have hnc65 := NB0_365.out; have hcz66_0 : w62.cell? ⟨gb365, 0, none⟩ = some (.slice none 0 0) := (blk_cell BK365.out 0).trans rfl; have hcz66_1 : w62.cell? ⟨gb365, 1, none⟩ = some (.slice none 0 0) := (blk_cell BK365.out 1).trans rfl; have hfz66_0 := blk_frozen BK365.out 0; have hfz66_1 := blk_frozen BK365.out 1))
          refine bodyPost_ret (results_cell_row rfl _ _ gb365 33 #[.slice Ao63 y392.length co63, .slice Ao59 t369.length co59] (0, 0) _ rfl (by refine blk_put (cs := #[.slice Ao63 y392.length co63, .slice none 0 0]) ?_ 1 _ rfl; refine blk_put (cs := #[.slice none 0 0, .slice none 0 0]) ?_ 0 _ rfl; refine blk_far ?_ NB365_374.out _; exact BK365.out) Tryd.underlying33 rfl (by kernel_rfl)) rfl ?_
          exact ⟨_, _, rfl, by exact Kd.R_mono (Kd.R_far (p := ⟨gb365, 1, none⟩) (Kd.R_far (p := ⟨gb365, 0, none⟩) (Kd.R_far (p := ⟨gb374, 0, none⟩) (Kd.R_types (Kd.R_types HO394.out BK374.out (by decide)) BK365.out (by decide)) (fun _ hk => hk.1.2) (.slice Ao63 y392.length co63)) (fun _ hk => hk.2) (.slice Ao63 y392.length co63)) (fun _ hk => hk.2) (.slice Ao59 t369.length co59)) (fun _ hk => hk.1.1), by exact Kd.R_mono (Kd.R_far (p := ⟨gb365, 1, none⟩) (Kd.R_far (p := ⟨gb365, 0, none⟩) (Kd.R_far (p := ⟨gb374, 0, none⟩) (Kd.R_types (Kd.R_types HO371.out BK374.out (by decide)) BK365.out (by decide)) (fun _ hk => hk.1.2) (.slice Ao63 y392.length co63)) (fun _ hk => hk.2) (.slice Ao63 y392.length co63)) (fun _ hk => hk.2) (.slice Ao59 t369.length co59)) (fun _ hk => hk.1.1.2), by repeat (first | (with_reducible first | exact HI0.out | apply IsS59.alloc | apply IsS59.drewN | apply IsS59.drew | apply IsS59.set_1 | apply IsS59.set_2 | refine IsS59.far ?_ NB0_365.out _ | refine IsS59.far ?_ NB0_374.out _) | exact HI0.out), by repeat (first | (with_reducible first | exact HB.out | apply below_alloc | apply pw_below_drewN | apply below_drew1 | refine below_set ?_ (IsS59.ge HI0.out) | refine below_set ?_ GE365.out | refine below_set ?_ GE374.out) | exact HB.out), by repeat (first | (with_reducible first | exact HK.out | apply KeepBut.set_ | apply keep_drewN | apply keep_drew | apply keep_alloc | refine keep_far ?_ GW365.out _ | refine keep_far ?_ GW374.out _) | exact HK.out)⟩
        · rw [if_neg c51] at H
          exact absurd H (by simp)
      · rw [if_neg c50] at H
        have c50b0 : (t375 == 2) = false := beq_eq_false_iff_ne.mpr c50
        have c50b1 : (t375 != 2) = true := bne_iff_ne.mpr c50
        simp only [Option.some.injEq, Prod.mk.injEq] at H
        obtain ⟨rfl, rfl, rfl, rfl⟩ := H
        go_enter Tryd.func28, Tryd.ntmps28
        go_wp2_with (first | ((with_reducible refine gate_dst (N := 2) rfl ?_); refine box_event ?hg (N := 2) ?hd (cs := #[.slice none 0 0, .slice none 0 0]) (t := 33) ?hr ?_; (case hd => rfl); (case hg => rfl); (case hr => go_simp <;> rfl); intro gb365 hg w67 hbox hb; have n0_ := Aside0.mk (IsS59.below (HI0.out) hb); have n1_ := Aside0.mk (KeepBut.trans (HK.out) (KeepBut.of_below hb g none) (.inl rfl)); have n2_ := Aside0.mk (below_step (by repeat (first | (with_reducible first | exact HB.out | apply below_alloc | apply pw_below_drewN | apply below_drew1 | refine below_set ?_ (IsS59.ge HI0.out)) | exact HB.out)) hb); have n3_ := Aside0.mk (hbox); have n4_ := Aside0.mk ((by rw [hg]; exact (keep_size (w := w) (g := g) (row := none) (HK.out)) : w.heap.size ≤ gb365)); have n5_ := Aside0.mk ((Nat.le_trans HW0.out (by rw [hg]; exact (keep_size (w := w) (g := g) (row := none) (HK.out)) : w.heap.size ≤ gb365) : w0.heap.size ≤ gb365)); have n6_ := Aside0.mk ((by rw [hg]; exact Nat.ne_of_lt (IsS59.lt (show IsS59 w0 _ g s0_0 s0_1 s0_2 from HI0.out)) : g ≠ gb365)); have n7_ := Aside0.mk ((by rw [hg]; exact Nat.ne_of_gt (IsS59.lt (show IsS59 w0 _ g s0_0 s0_1 s0_2 from HI0.out)) : gb365 ≠ g)); clear HI0; clear HK; clear HB; have HI0 := n0_; have HK := n1_; have HB := n2_; have BK365 := n3_; have GW365 := n4_; have GE365 := n5_; have NB0_365 := n6_; have NB365_0 := n7_; clear n0_ n1_ n2_ n3_ n4_ n5_ n6_ n7_; clear hb hbox hg) | ((with_reducible refine gate_callee (f := 44) rfl ?_); refine goesL_ (some 5) rfl rfl Tryd.func44 (by kernel_rfl) rfl #[.pointer (some ⟨g, 0, none⟩)] rfl (by (try simp only [mp]); first | done | rfl) ?_; (with_reducible refine (spec_l3DrawRight.calls k g s0_0 s0_1 s0_2 t366 t369 t372 t373 w0 _ ?side1 ?side2 A2.out).mono ?_); (case side1 => repeat (first | (with_reducible first | exact HI0.out | apply IsS59.alloc | apply IsS59.drewN | apply IsS59.drew | apply IsS59.set_1 | apply IsS59.set_2 | refine IsS59.far ?_ NB0_365.out _) | exact HI0.out)); (case side2 => repeat (first | (with_reducible first | exact HB.out | apply below_alloc | apply pw_below_drewN | apply below_drew1 | refine below_set ?_ (IsS59.ge HI0.out) | refine below_set ?_ GE365.out) | exact HB.out)); rintro e w68 ⟨v367, v370, rfl, ho0, ho1, hi, hb, hk⟩; refine ⟨_, rfl, ?_⟩; have n0_ := Aside0.mk (KeepBut.blk hk (g' := gb365) (o := .cells #[.slice none 0 0, .slice none 0 0] 33 (0, 0)) (by exact BK365.out) NB365_0.out (by simp)); have n1_ := Aside0.mk (Kd.R_lower ho0 (keep_size (w := w) (g := g) (row := none) (by repeat (first | (with_reducible first | exact HK.out | apply KeepBut.set_ | apply keep_drewN | apply keep_drew | apply keep_alloc | refine keep_far ?_ GW365.out _) | exact HK.out)))); have n2_ := Aside0.mk (Kd.R_lower ho1 (keep_size (w := w) (g := g) (row := none) (by repeat (first | (with_reducible first | exact HK.out | apply KeepBut.set_ | apply keep_drewN | apply keep_drew | apply keep_alloc | refine keep_far ?_ GW365.out _) | exact HK.out)))); have n3_ := Aside0.mk (KeepBut.trans (by repeat (first | (with_reducible first | exact HK.out | apply KeepBut.set_ | apply keep_drewN | apply keep_drew | apply keep_alloc | refine keep_far ?_ GW365.out _) | exact HK.out)) hk (.inl rfl)); have n4_ := Aside0.mk (hb); have n5_ := Aside0.mk (hi); clear BK365; clear HK; clear HB; clear HI0; have BK365 := n0_; have HO368 := n1_; have HO371 := n2_; have HK := n3_; have HB := n4_; have HI0 := n5_; clear n0_ n1_ n2_ n3_ n4_ n5_; (try clear hb); (try clear hb2); (try clear hk); (try clear hi); (try clear ho0); (try clear ho1)) | ((with_reducible refine gate_dst (N := 3) rfl ?_); refine box_event ?hg (N := 3) ?hd (cs := #[.slice none 0 0, .slice none 0 0]) (t := 33) ?hr ?_; (case hd => rfl); (case hg => rfl); (case hr => go_simp <;> rfl); intro gb374 hg w69 hbox hb; have n0_ := Aside0.mk (Kd.R_below (by exact HO368.out) hb); have n1_ := Aside0.mk (Kd.R_below (by exact HO371.out) hb); have n2_ := Aside0.mk (IsS59.below (by repeat (first | (with_reducible first | exact HI0.out | apply IsS59.alloc | apply IsS59.drewN | apply IsS59.drew | apply IsS59.set_1 | apply IsS59.set_2 | refine IsS59.far ?_ NB0_365.out _) | exact HI0.out)) hb); have n3_ := Aside0.mk (blk_below (g := gb365) (o := .cells #[.slice none 0 0, .slice none 0 0] 33 (0, 0)) (by exact BK365.out) hb); have n4_ := Aside0.mk (KeepBut.trans (by repeat (first | (with_reducible first | exact HK.out | apply KeepBut.set_ | apply keep_drewN | apply keep_drew | apply keep_alloc | refine keep_far ?_ GW365.out _) | exact HK.out)) (KeepBut.of_below hb g none) (.inl rfl)); have n5_ := Aside0.mk (below_step (by repeat (first | (with_reducible first | exact HB.out | apply below_alloc | apply pw_below_drewN | apply below_drew1 | refine below_set ?_ (IsS59.ge HI0.out) | refine below_set ?_ GE365.out) | exact HB.out)) hb); have n6_ := Aside0.mk (hbox); have n7_ := Aside0.mk ((by rw [hg]; exact (keep_size (w := w) (g := g) (row := none) (by repeat (first | (with_reducible first | exact HK.out | apply KeepBut.set_ | apply keep_drewN | apply keep_drew | apply keep_alloc | refine keep_far ?_ GW365.out _) | exact HK.out))) : w.heap.size ≤ gb374)); have n8_ := Aside0.mk ((Nat.le_trans HW0.out (by rw [hg]; exact (keep_size (w := w) (g := g) (row := none) (by repeat (first | (with_reducible first | exact HK.out | apply KeepBut.set_ | apply keep_drewN | apply keep_drew | apply keep_alloc | refine keep_far ?_ GW365.out _) | exact HK.out))) : w.heap.size ≤ gb374) : w0.heap.size ≤ gb374)); have n9_ := Aside0.mk ((by rw [hg]; exact Nat.ne_of_lt (blk_lt (g := gb365) (o := .cells #[.slice none 0 0, .slice none 0 0] 33 (0, 0)) (by exact BK365.out)) : gb365 ≠ gb374)); have n10_ := Aside0.mk ((by rw [hg]; exact Nat.ne_of_gt (blk_lt (g := gb365) (o := .cells #[.slice none 0 0, .slice none 0 0] 33 (0, 0)) (by exact BK365.out)) : gb374 ≠ gb365)); have n11_ := Aside0.mk ((by rw [hg]; exact Nat.ne_of_lt (IsS59.lt (show IsS59 w0 _ g s0_0 t372 t373 from by repeat (first | (with_reducible first | exact HI0.out | apply IsS59.alloc | apply IsS59.drewN | apply IsS59.drew | apply IsS59.set_1 | apply IsS59.set_2 | refine IsS59.far ?_ NB0_365.out _) | exact HI0.out))) : g ≠ gb374)); have n12_ := Aside0.mk ((by rw [hg]; exact Nat.ne_of_gt (IsS59.lt (show IsS59 w0 _ g s0_0 t372 t373 from by repeat (first | (with_reducible first | exact HI0.out | apply IsS59.alloc | apply IsS59.drewN | apply IsS59.drew | apply IsS59.set_1 | apply IsS59.set_2 | refine IsS59.far ?_ NB0_365.out _) | exact HI0.out))) : gb374 ≠ g)); clear HO368; clear HO371; clear HI0; clear BK365; clear HK; clear HB; have HO368 := n0_; have HO371 := n1_; have HI0 := n2_; have BK365 := n3_; have HK := n4_; have HB := n5_; have BK374 := n6_; have GW374 := n7_; have GE374 := n8_; have NB365_374 := n9_; have NB374_365 := n10_; have NB0_374 := n11_; have NB374_0 := n12_; clear n0_ n1_ n2_ n3_ n4_ n5_ n6_ n7_ n8_ n9_ n10_ n11_ n12_; clear hb hbox hg; obtain ⟨Ao70, co70, eo70⟩ := Kd.R_slice HO368.out; subst eo70; have hnb71 := NB374_365.out; have hnc71 := NB365_374.out; have hnb72 := NB374_0.out; have hnc72 := NB0_374.out; have hcz73_0 : w69.cell? ⟨gb374, 0, none⟩ = some (.slice none 0 0) := (blk_cell BK374.out 0).trans rfl; have hcz73_1 : w69.cell? ⟨gb374, 1, none⟩ = some (.slice none 0 0) := (blk_cell BK374.out 1).trans rfl; have hfz73_0 := blk_frozen BK374.out 0; have hfz73_1 := blk_frozen BK374.out 1; obtain ⟨Ao74, co74, eo74⟩ := Kd.R_slice HO371.out; subst eo74) | ((with_reducible refine gate_callee (f := 39) rfl ?_); refine goesL_ (some 7) rfl rfl Tryd.func39 (by kernel_rfl) rfl #[.pointer (some ⟨g, 0, none⟩), .int .i64 10] rfl (by (try simp only [mp]); first | done | rfl) ?_; (with_reducible refine (spec_l1Below.calls g s0_0 t372 t373 10 t375 t376 t377 w0 _ ?side1 ?side2 A3.out).mono ?_); (case side1 => repeat (first | (with_reducible first | exact HI0.out | apply IsS59.alloc | apply IsS59.drewN | apply IsS59.drew | apply IsS59.set_1 | apply IsS59.set_2 | refine IsS59.far ?_ NB0_365.out _ | refine IsS59.far ?_ NB0_374.out _) | exact HI0.out)); (case side2 => repeat (first | (with_reducible first | exact HB.out | apply below_alloc | apply pw_below_drewN | apply below_drew1 | refine below_set ?_ (IsS59.ge HI0.out) | refine below_set ?_ GE365.out | refine below_set ?_ GE374.out) | exact HB.out)); rintro e w75 ⟨rfl, hi, hb, hk⟩; refine ⟨_, rfl, ?_⟩; have n0_ := Aside0.mk (KeepBut.blk hk (g' := gb365) (o := .cells #[.slice none 0 0, .slice none 0 0] 33 (0, 0)) (by refine blk_far ?_ NB365_374.out _; refine blk_far ?_ NB365_374.out _; exact BK365.out) NB365_0.out (by simp)); have n1_ := Aside0.mk (Kd.R_mono (Kd.R_keep (IsS59.apart (show IsS59 w0 _ g s0_0 t372 t373 from by repeat (first | (with_reducible first | exact HI0.out | apply IsS59.alloc | apply IsS59.drewN | apply IsS59.drew | apply IsS59.set_1 | apply IsS59.set_2 | refine IsS59.far ?_ NB0_365.out _ | refine IsS59.far ?_ NB0_374.out _) | exact HI0.out)) (by exact (Kd.R_mono (Kd.R_far (p := ⟨gb374, 1, none⟩) (Kd.R_far (p := ⟨gb374, 0, none⟩) (Kd.R_types HO368.out BK374.out (by decide)) (fun _ hk => hk.2) (.slice Ao70 t366.length co70)) (fun _ hk => hk.2) (.slice Ao74 t369.length co74)) (fun _ h_ => h_.1))) (by decide)) hk (fun _ h => h.2)) (fun _ h => h.1)); have n2_ := Aside0.mk (Kd.R_mono (Kd.R_keep (IsS59.apart (show IsS59 w0 _ g s0_0 t372 t373 from by repeat (first | (with_reducible first | exact HI0.out | apply IsS59.alloc | apply IsS59.drewN | apply IsS59.drew | apply IsS59.set_1 | apply IsS59.set_2 | refine IsS59.far ?_ NB0_365.out _ | refine IsS59.far ?_ NB0_374.out _) | exact HI0.out)) (by exact (Kd.R_mono (Kd.R_far (p := ⟨gb374, 1, none⟩) (Kd.R_far (p := ⟨gb374, 0, none⟩) (Kd.R_types HO371.out BK374.out (by decide)) (fun _ hk => hk.2) (.slice Ao70 t366.length co70)) (fun _ hk => hk.2) (.slice Ao74 t369.length co74)) (fun _ h_ => h_.1))) (by decide)) hk (fun _ h => h.2)) (fun _ h => h.1)); have n3_ := Aside0.mk (KeepBut.blk hk (g' := gb374) (o := .cells #[.slice Ao70 t366.length co70, .slice Ao74 t369.length co74] 33 (0, 0)) (by refine blk_put (cs := #[.slice Ao70 t366.length co70, .slice none 0 0]) ?_ 1 _ rfl; refine blk_put (cs := #[.slice none 0 0, .slice none 0 0]) ?_ 0 _ rfl; exact BK374.out) NB374_0.out (by simp)); have n4_ := Aside0.mk (KeepBut.trans (by repeat (first | (with_reducible first | exact HK.out | apply KeepBut.set_ | apply keep_drewN | apply keep_drew | apply keep_alloc | refine keep_far ?_ GW365.out _ | refine keep_far ?_ GW374.out _) | exact HK.out)) hk (.inl rfl)); have n5_ := Aside0.mk (hb); have n6_ := Aside0.mk (hi); clear BK365; clear HO368; clear HO371; clear BK374; clear HK; clear HB; clear HI0; have BK365 := n0_; have HO368 := n1_; have HO371 := n2_; have BK374 := n3_; have HK := n4_; have HB := n5_; have HI0 := n6_; clear n0_ n1_ n2_ n3_ n4_ n5_ n6_; (try clear hb); (try clear hb2); (try clear hk); (try clear hi); have hcz76_0 : w75.cell? ⟨gb374, 0, none⟩ = some (.slice Ao70 t366.length co70) := (blk_cell BK374.out 0).trans rfl; have hcz76_1 : w75.cell? ⟨gb374, 1, none⟩ = some (.slice Ao74 t369.length co74) := (blk_cell BK374.out 1).trans rfl; have hfz76_0 := blk_frozen BK374.out 0; have hfz76_1 := blk_frozen BK374.out 1; have hnb77 := NB365_0.out; have hnc77 := NB0_365.out; have hcz78_0 : w75.cell? ⟨gb365, 0, none⟩ = some (.slice none 0 0) := (blk_cell BK365.out 0).trans rfl; have hcz78_1 : w75.cell? ⟨gb365, 1, none⟩ = some (.slice none 0 0) := (blk_cell BK365.out 1).trans rfl; have hfz78_0 := blk_frozen BK365.out 0; have hfz78_1 := blk_frozen BK365.out 1))
        refine bodyPost_ret (results_cell_row rfl _ _ gb365 33 #[.slice Ao70 t366.length co70, .slice Ao74 t369.length co74] (0, 0) _ rfl (by refine blk_put (cs := #[.slice Ao70 t366.length co70, .slice none 0 0]) ?_ 1 _ rfl; refine blk_put (cs := #[.slice none 0 0, .slice none 0 0]) ?_ 0 _ rfl; exact BK365.out) Tryd.underlying33 rfl (by kernel_rfl)) rfl ?_
        exact ⟨_, _, rfl, by exact Kd.R_mono (Kd.R_far (p := ⟨gb365, 1, none⟩) (Kd.R_far (p := ⟨gb365, 0, none⟩) (Kd.R_types HO368.out BK365.out (by decide)) (fun _ hk => hk.2) (.slice Ao70 t366.length co70)) (fun _ hk => hk.2) (.slice Ao74 t369.length co74)) (fun _ hk => hk.1), by exact Kd.R_mono (Kd.R_far (p := ⟨gb365, 1, none⟩) (Kd.R_far (p := ⟨gb365, 0, none⟩) (Kd.R_types HO371.out BK365.out (by decide)) (fun _ hk => hk.2) (.slice Ao70 t366.length co70)) (fun _ hk => hk.2) (.slice Ao74 t369.length co74)) (fun _ hk => hk.1), by repeat (first | (with_reducible first | exact HI0.out | apply IsS59.alloc | apply IsS59.drewN | apply IsS59.drew | apply IsS59.set_1 | apply IsS59.set_2 | refine IsS59.far ?_ NB0_365.out _ | refine IsS59.far ?_ NB0_374.out _) | exact HI0.out), by repeat (first | (with_reducible first | exact HB.out | apply below_alloc | apply pw_below_drewN | apply below_drew1 | refine below_set ?_ (IsS59.ge HI0.out) | refine below_set ?_ GE365.out | refine below_set ?_ GE374.out) | exact HB.out), by repeat (first | (with_reducible first | exact HK.out | apply KeepBut.set_ | apply keep_drewN | apply keep_drew | apply keep_alloc | refine keep_far ?_ GW365.out _ | refine keep_far ?_ GW374.out _) | exact HK.out)⟩

/-! ### spec_DrawPoolTake: function 8 -/
def spec_DrawPoolTake.f (k : Nat) (l0 : List Int) : Option ((List (S26)) × List Int × List Int) := (spec_l1New.f k l0).bind fun bt396 => ((spec_l4Draw.f k bt396.1 bt396.2.1 bt396.2.2).bind fun bt400 => ((spec_l3Draw.f k bt396.1 bt400.2.1 bt400.2.2).bind fun bt405 => (some (bt400.1, bt405.1, bt405.2.1))))
theorem spec_DrawPoolTake.mono : ∀ a0 k, LeO (spec_DrawPoolTake.f k a0) (spec_DrawPoolTake.f (k + 1) a0) := by
  intro a0 k
  unfold spec_DrawPoolTake.f
  repeat' first
      | (with_reducible exact spec_l1New.mono _ _)
      | (with_reducible exact spec_l3Draw.mono _ _ _ _)
      | (with_reducible exact spec_l4Draw.mono _ _ _ _)
      | (with_reducible exact LeO.refl _)
      | (with_reducible exact LeO.none _)
      | (with_reducible refine LeO.ite ?_ ?_)
      | (with_reducible refine LeO.bind ?_ (fun _ => ?_))
      | exact spec_l1New.mono _ _
      | exact spec_l3Draw.mono _ _ _ _
      | exact spec_l4Draw.mono _ _ _ _
      | exact LeO.none _
      | refine LeO.ite ?_ ?_
      | refine LeO.bind ?_ (fun _ => ?_)
set_option maxHeartbeats 8000000 in
set_option maxRecDepth 100000 in
theorem spec_DrawPoolTake.calls (k : Nat) (A0 : Option Addr) (c0 : Nat) (l0 : List Int) (r1 : List (S26)) (r2 : List Int) (r3 : List Int) (w : World) (hr0 : Kd.C (Kd.int .u8) w A0 l0.length l0) (hc0 : l0.length ≤ c0) (h : spec_DrawPoolTake.f k l0 = some (r1, r2, r3)) :
    Calls Tryd.prog 8 #[.slice A0 l0.length c0] w fun e w' => ∃ v0_ v1_ v2_ : Value, e = .returned (.tuple #[v0_, .agg #[v1_, v2_]]) ∧ Kd.R k26 26 w' w.heap.size (fun _ => True) v0_ r1 ∧ Kd.R (Kd.int .i64) 3 w' w.heap.size (fun k_ => some k_ ≠ (v2_ : Value).ownBlock) v1_ r2 ∧ Kd.R (Kd.int .i64) 3 w' w.heap.size (fun k_ => some k_ ≠ (v1_ : Value).ownBlock) v2_ r3 ∧ Below w.heap.size w w' := by
  have hu33 := Tryd.underlying33
  have HR0 := Aside0.mk hr0
  have HC0 := Aside0.mk hc0
  clear hr0 hc0
  have HB := Aside0.mk (Below.refl w.heap.size w)
  have H : ((spec_l1New.f k l0).bind fun bt396 => ((spec_l4Draw.f k bt396.1 bt396.2.1 bt396.2.2).bind fun bt400 => ((spec_l3Draw.f k bt396.1 bt400.2.1 bt400.2.2).bind fun bt405 => (some (bt400.1, bt405.1, bt405.2.1))))) = some (r1, r2, r3) := h
  clear h
  replace H := Option.bind_eq_some_iff.mp H
  obtain ⟨⟨t396, t397, t398⟩, A20, H⟩ := H
  replace H : ((spec_l4Draw.f k t396 t397 t398).bind fun bt400 => ((spec_l3Draw.f k t396 bt400.2.1 bt400.2.2).bind fun bt405 => (some (bt400.1, bt405.1, bt405.2.1)))) = some (r1, r2, r3) := H
  have A2 := Aside0.mk A20
  clear A20
  replace H := Option.bind_eq_some_iff.mp H
  obtain ⟨⟨t400, t403, t404⟩, A30, H⟩ := H
  replace H : ((spec_l3Draw.f k t396 t403 t404).bind fun bt405 => (some (t400, bt405.1, bt405.2.1))) = some (r1, r2, r3) := H
  have A3 := Aside0.mk A30
  clear A30
  replace H := Option.bind_eq_some_iff.mp H
  obtain ⟨⟨t405, t408, t411, t412⟩, A40, H⟩ := H
  replace H : (some (t400, t405, t408)) = some (r1, r2, r3) := H
  have A4 := Aside0.mk A40
  clear A40
  simp only [Option.some.injEq, Prod.mk.injEq] at H
  obtain ⟨rfl, rfl, rfl⟩ := H
  go_enter Tryd.func8, Tryd.ntmps8
  go_wp2_with (first | ((with_reducible refine gate_dst (N := 3) rfl ?_); refine box_event ?hg (N := 3) ?hd (cs := #[.slice none 0 0, .slice none 0 0]) (t := 33) ?hr ?_; (case hd => rfl); (case hg => rfl); (case hr => go_simp <;> rfl); intro gb395 hg w5 hbox hb; have n0_ := Aside0.mk (below_step (HB.out) hb); have n1_ := Aside0.mk (hbox); have n2_ := Aside0.mk ((by rw [hg]; exact (below_size (HB.out)) : w.heap.size ≤ gb395)); have n3_ := Aside0.mk ((by rw [hg]; exact (below_size (HB.out)) : w.heap.size ≤ gb395)); clear HB; have HB := n0_; have BK395 := n1_; have GW395 := n2_; have GE395 := n3_; clear n0_ n1_ n2_ n3_; clear hb hbox hg) | ((with_reducible refine gate_callee (f := 19) rfl ?_); refine goesL_ (some 7) rfl rfl Tryd.func19 (by kernel_rfl) rfl #[.slice A0 l0.length c0] rfl (by (try simp only [mp]); first | done | rfl) ?_; (with_reducible refine (spec_l1New.calls k _ _ l0 t396 t397 t398 w _ ?side1 ?side2 ?side3 A2.out).mono ?_); (case side1 => exact HB.out); (case side2 => exact HR0.out); (case side3 => exact HC0.out); rintro e w6 ⟨g399, rfl, hi, hb, hb2⟩; refine ⟨_, rfl, ?_⟩; have n0_ := Aside0.mk (blk_below (g := gb395) (o := .cells #[.slice none 0 0, .slice none 0 0] 33 (0, 0)) (by exact BK395.out) hb2); have n1_ := Aside0.mk (hb); have n2_ := Aside0.mk (hi); have n3_ := Aside0.mk (IsS59.ne_blk hi (blk_below (g := gb395) (o := .cells #[.slice none 0 0, .slice none 0 0] 33 (0, 0)) (by exact BK395.out) hb2) (by decide)); have n4_ := Aside0.mk (Ne.symm (IsS59.ne_blk hi (blk_below (g := gb395) (o := .cells #[.slice none 0 0, .slice none 0 0] 33 (0, 0)) (by exact BK395.out) hb2) (by decide))); clear BK395; clear HB; have BK395 := n0_; have HB := n1_; have HI399 := n2_; have NB399_395 := n3_; have NB395_399 := n4_; clear n0_ n1_ n2_ n3_ n4_; (try clear hb); (try clear hb2); (try clear hk); (try clear hi)) | ((with_reducible refine gate_callee (f := 20) rfl ?_); refine goesL_ (some 9) rfl rfl Tryd.func20 (by kernel_rfl) rfl #[.pointer (some ⟨g399, 0, none⟩)] rfl (by (try simp only [mp]); first | done | rfl) ?_; (with_reducible refine (spec_l4Draw.calls k g399 t396 t397 t398 t400 t403 t404 w _ ?side1 ?side2 A3.out).mono ?_); (case side1 => exact HI399.out); (case side2 => exact HB.out); rintro e w7 ⟨v401, rfl, ho0, hi, hb, hk⟩; refine ⟨_, rfl, ?_⟩; have n0_ := Aside0.mk (KeepBut.blk hk (g' := gb395) (o := .cells #[.slice none 0 0, .slice none 0 0] 33 (0, 0)) (by exact BK395.out) NB395_399.out (by simp)); have n1_ := Aside0.mk (Kd.R_lower ho0 (below_size (HB.out))); have n2_ := Aside0.mk (hb); have n3_ := Aside0.mk (hi); clear BK395; clear HB; clear HI399; have BK395 := n0_; have HO402 := n1_; have HB := n2_; have HI399 := n3_; clear n0_ n1_ n2_ n3_; (try clear hb); (try clear hb2); (try clear hk); (try clear hi); (try clear ho0)) | ((with_reducible refine gate_callee (f := 28) rfl ?_); refine goesL_ (some 12) rfl rfl Tryd.func28 (by kernel_rfl) rfl #[.pointer (some ⟨g399, 0, none⟩)] rfl (by (try simp only [mp]); first | done | rfl) ?_; (with_reducible refine (spec_l3Draw.calls k g399 t396 t403 t404 t405 t408 t411 t412 w _ ?side1 ?side2 A4.out).mono ?_); (case side1 => exact HI399.out); (case side2 => exact HB.out); rintro e w8 ⟨v406, v409, rfl, ho0, ho1, hi, hb, hk⟩; refine ⟨_, rfl, ?_⟩; have n0_ := Aside0.mk (KeepBut.blk hk (g' := gb395) (o := .cells #[.slice none 0 0, .slice none 0 0] 33 (0, 0)) (by exact BK395.out) NB395_399.out (by simp)); have n1_ := Aside0.mk (Kd.R_mono (Kd.R_keep (IsS59.apart (show IsS59 w _ g399 t396 t403 t404 from HI399.out) (by exact HO402.out) (by decide)) hk (fun _ h => h.2)) (fun _ h => h.1)); have n2_ := Aside0.mk (Kd.R_lower ho0 (below_size (HB.out))); have n3_ := Aside0.mk (Kd.R_lower ho1 (below_size (HB.out))); have n4_ := Aside0.mk (hb); have n5_ := Aside0.mk (hi); clear BK395; clear HO402; clear HB; clear HI399; have BK395 := n0_; have HO402 := n1_; have HO407 := n2_; have HO410 := n3_; have HB := n4_; have HI399 := n5_; clear n0_ n1_ n2_ n3_ n4_ n5_; (try clear hb); (try clear hb2); (try clear hk); (try clear hi); (try clear ho0); (try clear ho1); obtain ⟨Ao9, co9, eo9⟩ := Kd.R_slice HO407.out; subst eo9; have hnb10 := NB395_399.out; have hnc10 := NB399_395.out; have hcz11_0 : w8.cell? ⟨gb395, 0, none⟩ = some (.slice none 0 0) := (blk_cell BK395.out 0).trans rfl; have hcz11_1 : w8.cell? ⟨gb395, 1, none⟩ = some (.slice none 0 0) := (blk_cell BK395.out 1).trans rfl; have hfz11_0 := blk_frozen BK395.out 0; have hfz11_1 := blk_frozen BK395.out 1; obtain ⟨Ao12, co12, eo12⟩ := Kd.R_slice HO410.out; subst eo12))
  refine bodyPost_ret (results_tc rfl _ _ gb395 33 #[.slice Ao9 t405.length co9, .slice Ao12 t408.length co12] (0, 0) _ rfl (by refine blk_put (cs := #[.slice Ao9 t405.length co9, .slice none 0 0]) ?_ 1 _ rfl; refine blk_put (cs := #[.slice none 0 0, .slice none 0 0]) ?_ 0 _ rfl; exact BK395.out) Tryd.underlying33 rfl (by kernel_rfl)) rfl ?_
  exact ⟨_, _, _, rfl, by exact Kd.R_mono (Kd.R_far (p := ⟨gb395, 1, none⟩) (Kd.R_far (p := ⟨gb395, 0, none⟩) (Kd.R_types HO402.out BK395.out (by decide)) (fun _ hk => hk.2) (.slice Ao9 t405.length co9)) (fun _ hk => hk.2) (.slice Ao12 t408.length co12)) (fun _ hk => trivial), by exact Kd.R_mono (Kd.R_far (p := ⟨gb395, 1, none⟩) (Kd.R_far (p := ⟨gb395, 0, none⟩) (Kd.R_types HO407.out BK395.out (by decide)) (fun _ hk => hk.2) (.slice Ao9 t405.length co9)) (fun _ hk => hk.2) (.slice Ao12 t408.length co12)) (fun _ hk => hk.1), by exact Kd.R_mono (Kd.R_far (p := ⟨gb395, 1, none⟩) (Kd.R_far (p := ⟨gb395, 0, none⟩) (Kd.R_types HO410.out BK395.out (by decide)) (fun _ hk => hk.2) (.slice Ao9 t405.length co9)) (fun _ hk => hk.2) (.slice Ao12 t408.length co12)) (fun _ hk => hk.1), by repeat (first | (with_reducible first | exact HB.out | apply below_alloc | apply pw_below_drewN | apply below_drew1 | refine below_set ?_ (IsS59.ge HI399.out) | refine below_set ?_ GE395.out) | exact HB.out)⟩

/-! ### impl_copyInts: function 54 -/
def impl_copyInts.f (l0 : List Int) : Option (List Int) := if ([] : List Int).length + l0.length < 17592186044416 then (some (([] : List Int) ++ l0)) else (none)
set_option maxHeartbeats 8000000 in
set_option maxRecDepth 100000 in
theorem impl_copyInts.calls (A0 : Option Addr) (c0 : Nat) (l0 : List Int) (r : List Int) (w : World) (hr0 : Kd.C (Kd.int .i64) w A0 l0.length l0) (hc0 : l0.length ≤ c0) (h : impl_copyInts.f l0 = some r) :
    Calls Tryd.prog 54 #[.slice A0 l0.length c0] w fun e w' => ∃ v0_ : Value, e = .returned (v0_) ∧ Kd.R (Kd.int .i64) 3 w' w.heap.size (fun _ => True) v0_ r ∧ Below w.heap.size w w' := by
  have HR0 := Aside0.mk hr0
  have HC0 := Aside0.mk hc0
  clear hr0 hc0
  have HB := Aside0.mk (Below.refl w.heap.size w)
  have H : (if ([] : List Int).length + l0.length < 17592186044416 then (some (([] : List Int) ++ l0)) else (none)) = some r := h
  clear h
  by_cases c2 : ([] : List Int).length + l0.length < 17592186044416
  · rw [if_pos c2] at H
    have LMc2 := Aside0.mk c2
    clear c2
    obtain ⟨y413, hy413⟩ : ∃ y_ : List Int, y_ = (([] : List Int) ++ l0) := ⟨_, rfl⟩
    replace H : (some y413) = some r := by rw [hy413]; exact H
    have Ny413 := Aside0.mk hy413
    clear hy413
    obtain rfl := Option.some.inj H
    go_enter Tryd.func54, Tryd.ntmps54
    go_wp2_with (first | ((with_reducible refine gate_builtin (b := .append) (xs := #[.const (.slice none 0 0), .tmp 3]) rfl ?_); at_builtin; refine Kd.R_append_rows (Kd.int .i64) (w0 := w) w.heap.size rfl (.const (.slice none 0 0)) (.tmp 3) 31 3 (.int .i64 0) 8 rfl Tryd.underlying31 info3 rfl (by decide) (by omega) (.slice none 0 0) ([] : List Int) l0 _ _ _ (fun _ => True) (fun _ => False) rfl rfl ?aO ?aR (fun _ _ h => h) (fun _ h => h.elim) ?aF ?aB ?aS ?aL ?_; (case aR => exact HR0.out); (case aB => exact (HB.out)); (case aF => exact (fun _ _ => trivial)); (case aO => exact ((Kd.R_nil _ _ _ _ (fun _ => True)))); (case aS => exact (below_size (HB.out))); (case aL => have := LMc2.out; omega); intro v414 w3 ho hb hg hat; rw [← Ny413.out] at ho; have n0_ := Aside0.mk (hb); have n1_ := Aside0.mk (ho); clear HB; have HB := n0_; have HO415 := n1_; clear n0_ n1_; clear ho hb hg hat))
    go_ret
    exact ⟨_, rfl, by exact HO415.out, HB.out⟩
  · rw [if_neg c2] at H
    exact absurd H (by simp)

/-! ### impl_copyLedger: function 37 -/
def impl_copyLedger.f (l0_0 : List Int) (l0_1 : List Int) : Option (List Int × List Int) := (impl_copyInts.f l0_0).bind fun t418 => ((impl_copyInts.f l0_1).bind fun t421 => (some (t418, t421)))
def impl_copyLedger.T1 : Bool × List (List Nat × List Nat) := (true, [([], []), ([0], [0]), ([1], [1]), ([], []), ([3], [3]), ([4, 2], [4]), ([2, 5], [2, 5]), ([6, 5, 0, 1, 2, 3, 4, 5, 6], [6])])
def impl_copyLedger.B1 : List Nat := [0, 1, 3, 0, 8, 31, 63, 127]
theorem impl_copyLedger.tab1 : rtab .any (opsOf Tryd.f37 1) = impl_copyLedger.T1 := by kernel_rfl
theorem impl_copyLedger.bits1 : waitsOk impl_copyLedger.T1.2 impl_copyLedger.B1 = true := by kernel_rfl
set_option maxHeartbeats 8000000 in
set_option maxRecDepth 100000 in
theorem impl_copyLedger.calls (A0_0 : Option Addr) (c0_0 : Nat) (l0_0 : List Int) (A0_1 : Option Addr) (c0_1 : Nat) (l0_1 : List Int) (r1 : List Int) (r2 : List Int) (w : World) (hr0_0 : Kd.C (Kd.int .i64) w A0_0 l0_0.length l0_0) (hc0_0 : l0_0.length ≤ c0_0) (hr0_1 : Kd.C (Kd.int .i64) w A0_1 l0_1.length l0_1) (hc0_1 : l0_1.length ≤ c0_1) (h : impl_copyLedger.f l0_0 l0_1 = some (r1, r2)) :
    Calls Tryd.prog 37 #[.agg #[.slice A0_0 l0_0.length c0_0, .slice A0_1 l0_1.length c0_1]] w fun e w' => ∃ v0_ v1_ : Value, e = .returned (.agg #[v0_, v1_]) ∧ Kd.R (Kd.int .i64) 3 w' w.heap.size (fun k_ => some k_ ≠ (v1_ : Value).ownBlock) v0_ r1 ∧ Kd.R (Kd.int .i64) 3 w' w.heap.size (fun k_ => some k_ ≠ (v0_ : Value).ownBlock) v1_ r2 ∧ Below w.heap.size w w' := by
  have hu33 := Tryd.underlying33
  have HR0_0 := Aside0.mk hr0_0
  have HC0_0 := Aside0.mk hc0_0
  clear hr0_0 hc0_0
  have HR0_1 := Aside0.mk hr0_1
  have HC0_1 := Aside0.mk hc0_1
  clear hr0_1 hc0_1
  have HB := Aside0.mk (Below.refl w.heap.size w)
  have H : ((impl_copyInts.f l0_0).bind fun t418 => ((impl_copyInts.f l0_1).bind fun t421 => (some (t418, t421)))) = some (r1, r2) := h
  clear h
  replace H := Option.bind_eq_some_iff.mp H
  obtain ⟨t418, A20, H⟩ := H
  replace H : ((impl_copyInts.f l0_1).bind fun t421 => (some (t418, t421))) = some (r1, r2) := H
  have A2 := Aside0.mk A20
  clear A20
  replace H := Option.bind_eq_some_iff.mp H
  obtain ⟨t421, A30, H⟩ := H
  replace H : (some (t418, t421)) = some (r1, r2) := H
  have A3 := Aside0.mk A30
  clear A30
  simp only [Option.some.injEq, Prod.mk.injEq] at H
  obtain ⟨rfl, rfl⟩ := H
  go_enter Tryd.func37, Tryd.ntmps37
  try go_wp2_with (first | ((with_reducible refine gate_dst (N := 1) rfl ?_); refine box_event ?hg (N := 1) ?hd (cs := #[.slice A0_0 l0_0.length c0_0, .slice A0_1 l0_1.length c0_1]) (t := 33) ?hr ?_; (case hd => rfl); (case hg => rfl); (case hr => go_simp <;> rfl); intro gb416 hg w4 hbox hb; have n0_ := Aside0.mk (below_step (HB.out) hb); have n1_ := Aside0.mk (hbox); have n2_ := Aside0.mk ((by rw [hg]; exact (below_size (HB.out)) : w.heap.size ≤ gb416)); have n3_ := Aside0.mk ((by rw [hg]; exact (below_size (HB.out)) : w.heap.size ≤ gb416)); clear HB; have HB := n0_; have BK416 := n1_; have GW416 := n2_; have GE416 := n3_; clear n0_ n1_ n2_ n3_; clear hb hbox hg) | ((with_reducible refine gate_dst (N := 2) rfl ?_); refine box_event ?hg (N := 2) ?hd (cs := #[.slice none 0 0, .slice none 0 0]) (t := 33) ?hr ?_; (case hd => rfl); (case hg => rfl); (case hr => go_simp <;> rfl); intro gb417 hg w5 hbox hb; have n0_ := Aside0.mk (blk_below (g := gb416) (o := .cells #[.slice A0_0 l0_0.length c0_0, .slice A0_1 l0_1.length c0_1] 33 (0, 0)) (by exact BK416.out) hb); have n1_ := Aside0.mk (below_step (HB.out) hb); have n2_ := Aside0.mk (hbox); have n3_ := Aside0.mk ((by rw [hg]; exact (below_size (HB.out)) : w.heap.size ≤ gb417)); have n4_ := Aside0.mk ((by rw [hg]; exact (below_size (HB.out)) : w.heap.size ≤ gb417)); have n5_ := Aside0.mk ((by rw [hg]; exact Nat.ne_of_lt (blk_lt (g := gb416) (o := .cells #[.slice A0_0 l0_0.length c0_0, .slice A0_1 l0_1.length c0_1] 33 (0, 0)) (by exact BK416.out)) : gb416 ≠ gb417)); have n6_ := Aside0.mk ((by rw [hg]; exact Nat.ne_of_gt (blk_lt (g := gb416) (o := .cells #[.slice A0_0 l0_0.length c0_0, .slice A0_1 l0_1.length c0_1] 33 (0, 0)) (by exact BK416.out)) : gb417 ≠ gb416)); clear BK416; clear HB; have BK416 := n0_; have HB := n1_; have BK417 := n2_; have GW417 := n3_; have GE417 := n4_; have NB416_417 := n5_; have NB417_416 := n6_; clear n0_ n1_ n2_ n3_ n4_ n5_ n6_; clear hb hbox hg))
  have n0_ := Aside0.mk (blk_drew BK416.out)
  have n1_ := Aside0.mk (blk_drew BK417.out)
  have n2_ := Aside0.mk (below_drew1 HB.out)
  clear BK416 BK417 HB
  have BK416 := n0_
  have BK417 := n1_
  have HB := n2_
  clear n0_ n1_ n2_
  refine start_ (n := 8) (S := fun w' => w'.cell? ⟨gb416, 0, none⟩ = some (.slice A0_0 l0_0.length c0_0) ∧ w'.cell? ⟨gb416, 1, none⟩ = some (.slice A0_1 l0_1.length c0_1)) (ds := []) #[false, false, false, false, false, false, false, false] (by kernel_rfl) rfl rfl ⟨(blk_cell BK416.out 0).trans rfl, (blk_cell BK416.out 1).trans rfl⟩ (fun hHeld => ?_); refine with_tabW impl_copyLedger.tab1 impl_copyLedger.bits1 (fun HT_ HW_ => ?_)
  generalize w5.drew = w6 at BK416 BK417 HB hHeld ⊢
  refine pA 0 3 ?_ rfl rfl (any_of HT_.out (by kernel_rfl)) (fun _ _ _ h => h) ⟨by rfl, ?_⟩ ?_ ?_ ?_
  rotate_left
  · intro w'
    go_simp
    with_reducible rfl
  rotate_left
  · simp only [Act.put, nm]
    rfl
  refine pA 3 6 ?_ rfl rfl (any_of HT_.out (by kernel_rfl)) (fun _ _ _ h => h) ⟨by rfl, ?_⟩ ?_ ?_ ?_
  rotate_left
  · intro w'
    go_simp
    with_reducible rfl
  rotate_left
  · simp only [Act.put, nm]
    rfl
  refine take_ (i := 1) (N := some 4) (v := ?_) (a' := ?_) #[true, true, false, true, false, false, false, false] rfl rfl (take_ofW HT_.out HW_.out (by kernel_rfl)) (fun _ _ _ h => h) (Or.inl ⟨by rfl, ?_⟩) hHeld ?_ ?_
  rotate_left
  · rintro w' ⟨s0, s1⟩
    go_simp
    with_reducible rfl
  rotate_left
  · simp only [Act.put, nm]
    rfl
  refine take_ (i := 4) (N := some 7) (v := ?_) (a' := ?_) #[true, true, false, true, true, false, false, false] rfl rfl (take_ofW HT_.out HW_.out (by kernel_rfl)) (fun _ _ _ h => h) (Or.inl ⟨by rfl, ?_⟩) hHeld ?_ ?_
  rotate_left
  · rintro w' ⟨s0, s1⟩
    go_simp
    with_reducible rfl
  rotate_left
  · simp only [Act.put, nm]
    rfl
  refine one_ (i := 2) (N := some 5) #[true, true, true, true, true, false, false, false] rfl rfl (one_of HT_.out (by kernel_rfl)) (by decide) (fun K hK => ?_)
  refine goes_ Tryd.func54 (by kernel_rfl) rfl #[.slice A0_0 l0_0.length c0_0] (by rfl) rfl rfl (by (try simp only [mp]); first | done | rfl) ?_
  with_reducible refine (impl_copyInts.calls _ _ l0_0 t418 _ ?side1 ?side2 A2.out).mono ?_
  (case side1 => repeat (first | exact (Kd.C_below HR0_0.out HB.out) | (with_reducible refine Kd.C_alloc ?_ _) | (with_reducible refine Kd.C_drewN ?_ _) | (with_reducible refine Kd.C_drew ?_)))
  (case side2 => exact HC0_0.out)
  rintro e w7 ⟨v419, rfl, ho0, hb⟩
  refine ⟨_, rfl, ?_⟩
  have n0_ := Aside0.mk (Kd.R_lower ho0 (below_size (HB.out)))
  have n1_ := Aside0.mk (blk_below (g := gb416) (o := .cells #[.slice A0_0 l0_0.length c0_0, .slice A0_1 l0_1.length c0_1] 33 (0, 0)) (by exact BK416.out) hb)
  have n2_ := Aside0.mk (blk_below (g := gb417) (o := .cells #[.slice none 0 0, .slice none 0 0] 33 (0, 0)) (by exact BK417.out) hb)
  have n3_ := Aside0.mk (below_step (HB.out) hb)
  clear BK416 BK417 HB
  have HO420 := n0_
  have BK416 := n1_
  have BK417 := n2_
  have HB := n3_
  clear n0_ n1_ n2_ n3_
  (try clear hb)
  (try clear hb2)
  (try clear hk)
  (try clear hi)
  (try clear ho0)
  refine hK.out _ _ ⟨(blk_cell BK416.out 0).trans rfl, (blk_cell BK416.out 1).trans rfl⟩ (fun hHeld => ?_)
  clear hK K
  refine norm_ (a' := ?_) ?_ ?_
  rotate_left
  · show Act.put _ (some 5) _ = _
    simp only [Act.put, nm]
    rfl
  refine one_ (i := 5) (N := some 8) #[true, true, true, true, true, true, false, false] rfl rfl (one_of HT_.out (by kernel_rfl)) (by decide) (fun K hK => ?_)
  refine goes_ Tryd.func54 (by kernel_rfl) rfl #[.slice A0_1 l0_1.length c0_1] (by rfl) rfl rfl (by (try simp only [mp]); first | done | rfl) ?_
  with_reducible refine (impl_copyInts.calls _ _ l0_1 t421 _ ?side1 ?side2 A3.out).mono ?_
  (case side1 => repeat (first | exact (Kd.C_below HR0_1.out HB.out) | (with_reducible refine Kd.C_alloc ?_ _) | (with_reducible refine Kd.C_drewN ?_ _) | (with_reducible refine Kd.C_drew ?_)))
  (case side2 => exact HC0_1.out)
  rintro e w8 ⟨v422, rfl, ho0, hb⟩
  refine ⟨_, rfl, ?_⟩
  have n0_ := Aside0.mk (Kd.R_elder' (by exact HO420.out) (Kd.R_base ho0) hb)
  have n1_ := Aside0.mk (Kd.R_lower (Kd.R_new' ho0 (Kd.R_lt (by exact HO420.out))) (below_size (HB.out)))
  have n2_ := Aside0.mk (blk_below (g := gb416) (o := .cells #[.slice A0_0 l0_0.length c0_0, .slice A0_1 l0_1.length c0_1] 33 (0, 0)) (by exact BK416.out) hb)
  have n3_ := Aside0.mk (blk_below (g := gb417) (o := .cells #[.slice none 0 0, .slice none 0 0] 33 (0, 0)) (by exact BK417.out) hb)
  have n4_ := Aside0.mk (below_step (HB.out) hb)
  clear HO420 BK416 BK417 HB
  have HO420 := n0_
  have HO423 := n1_
  have BK416 := n2_
  have BK417 := n3_
  have HB := n4_
  clear n0_ n1_ n2_ n3_ n4_
  (try clear hb)
  (try clear hb2)
  (try clear hk)
  (try clear hi)
  (try clear ho0)
  obtain ⟨Ao9, co9, eo9⟩ := Kd.R_slice HO423.out
  (first | subst eo9 | (injection eo9 with f1_ f2_ f3_; have f4_ := f1_.symm; have f5_ := f3_.symm; clear f1_ f2_ f3_; subst f4_; subst f5_))
  obtain ⟨Ao10, co10, eo10⟩ := Kd.R_slice HO420.out
  (first | subst eo10 | (injection eo10 with f1_ f2_ f3_; have f4_ := f1_.symm; have f5_ := f3_.symm; clear f1_ f2_ f3_; subst f4_; subst f5_))
  refine hK.out _ _ ⟨(blk_cell BK416.out 0).trans rfl, (blk_cell BK416.out 1).trans rfl⟩ (fun hHeld => ?_)
  clear hK K
  refine norm_ (a' := ?_) ?_ ?_
  rotate_left
  · show Act.put _ (some 8) _ = _
    simp only [Act.put, nm]
    rfl
  refine pA 6 9 ?_ rfl rfl (any_of HT_.out (by kernel_rfl)) (fun _ _ _ h => h) ⟨by rfl, ?_⟩ ?_ ?_ ?_
  rotate_left
  · intro w'
    go_simp
    with_reducible rfl
  rotate_left
  · simp only [Act.put, nm]
    rfl
  refine one_ (i := 7) (N := none) #[true, true, true, true, true, true, true, true] rfl rfl (one_of HT_.out (by kernel_rfl)) (by decide) (fun K hK => ?_)
  have hs11 : w8.cell? ⟨gb417, 0, none⟩ = some (.slice none 0 0) := (blk_cell BK417.out 0).trans rfl
  have hfs11 := blk_frozen BK417.out 0
  have hns11_0 := NB416_417.out
  have hms11_0 := NB417_416.out
  have hs12 : w8.cell? ⟨gb417, 1, none⟩ = some (.slice none 0 0) := (blk_cell BK417.out 1).trans rfl
  have hfs12 := blk_frozen BK417.out 1
  have hns12_0 := NB416_417.out
  have hms12_0 := NB417_416.out
  refine skip_ (w1 := ?_) (by rfl) rfl ?_ ?_
  rotate_left
  · go_simp
    rfl
  refine hK.out _ _ ⟨((cell_far (p := ⟨gb417, _, none⟩) NB416_417.out _).trans (((cell_far (p := ⟨gb417, _, none⟩) NB416_417.out _).trans (hHeld.1)))), ((cell_far (p := ⟨gb417, _, none⟩) NB416_417.out _).trans (((cell_far (p := ⟨gb417, _, none⟩) NB416_417.out _).trans (hHeld.2))))⟩ (fun hHeld => ?_)
  clear hK K
  refine done_ (done_of HT_.out (by kernel_rfl)) ?_
  try go_wp2
  refine bodyPost_ret (results_cell_row rfl _ _ gb417 33 #[.slice Ao10 t418.length co10, .slice Ao9 t421.length co9] (0, 0) _ rfl (by refine blk_put (cs := #[.slice Ao10 t418.length co10, .slice none 0 0]) ?_ 1 _ rfl; refine blk_put (cs := #[.slice none 0 0, .slice none 0 0]) ?_ 0 _ rfl; exact BK417.out) Tryd.underlying33 rfl (by kernel_rfl)) rfl ?_
  exact ⟨_, _, rfl, by exact Kd.R_mono (Kd.R_far (p := ⟨gb417, 1, none⟩) (Kd.R_far (p := ⟨gb417, 0, none⟩) (Kd.R_types HO420.out BK417.out (by decide)) (fun _ hk => hk.2) (.slice Ao10 t418.length co10)) (fun _ hk => hk.2) (.slice Ao9 t421.length co9)) (fun _ hk => hk.1.2), by exact Kd.R_mono (Kd.R_far (p := ⟨gb417, 1, none⟩) (Kd.R_far (p := ⟨gb417, 0, none⟩) (Kd.R_types HO423.out BK417.out (by decide)) (fun _ hk => hk.2) (.slice Ao10 t418.length co10)) (fun _ hk => hk.2) (.slice Ao9 t421.length co9)) (fun _ hk => hk.1.2), by repeat (first | (with_reducible first | exact HB.out | apply below_alloc | apply pw_below_drewN | apply below_drew1 | refine below_set ?_ GE416.out | refine below_set ?_ GE417.out) | exact HB.out)⟩

end Go.Proofs.YtnlakfbbbnkcpaaDoor.PFnPools
