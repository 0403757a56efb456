/- Walks of the functions that a law of seat YtnlakfbbbnkcpaaDoor reaches, each against a Lean function, printed by this session's wip/myprint.py; no condition of their own. -/
import Derived.Test.YtnlakfbbbnkcpaaDoorPFnPoolsx0
import Derived.Test.YtnlakfbbbnkcpaaDoorPFnPoolsx5
import Derived.Test.YtnlakfbbbnkcpaaDoorPFnPoolsx9
import Derived.Test.YtnlakfbbbnkcpaaDoorPFnPoolsx10
namespace Go.Proofs.YtnlakfbbbnkcpaaDoor.PFnPools
open Go.RowKit Go.Proofs.YtnlakfbbbnkcpaaDoorW.PrintWords Go.Proofs.YtnlakfbbbnkcpaaDoorW.PrintLast Go.Proofs.YtnlakfbbbnkcpaaDoorW.PrintMore
attribute [local go_sem] max2_int min2_int max_two min_two max_three min_three max_four min_four   -- for this text's walks alone
set_option linter.unusedVariables false
set_option linter.unusedSimpArgs false

/-! ### impl_allWithin: function 58 -/
def impl_allWithin.l0 : Nat → Int → Int → List Int → Int → Int → Option (Bool)
  | 0, _, _, _, _, _ => none
  | k + 1, x1, x2, x9, x10, x11 => if x11 < x10 then (if 0 ≤ x11 then (if x11 < (x9.length : Int) then ((impl_within.f (rd x9 x11) x1 x2).bind fun t425 => (if t425 = true then (impl_allWithin.l0 k x1 x2 x9 x10 (wrap64 (x11 + 1))) else (some false))) else (none)) else (none)) else (some true)
def impl_allWithin.f (k : Nat) (l0 : List Int) (a1 : Int) (a2 : Int) : Option (Bool) := impl_allWithin.l0 k a1 a2 l0 (l0.length : Int) 0
theorem impl_allWithin.mono_l : ∀ k, (∀ y0 y1 y2 y3 y4, LeO (impl_allWithin.l0 k y0 y1 y2 y3 y4) (impl_allWithin.l0 (k + 1) y0 y1 y2 y3 y4))
  | 0 => fun _ _ _ _ _ r h => by simp [impl_allWithin.l0] at h
  | k + 1 => by
    have ih0 := impl_allWithin.mono_l k
    · intro y0 y1 y2 y3 y4
      unfold impl_allWithin.l0
      repeat' first
      | (with_reducible exact ih0 _ _ _ _ _)
      | (with_reducible exact LeO.refl _)
      | (with_reducible exact LeO.none _)
      | (with_reducible refine LeO.ite ?_ ?_)
      | (with_reducible refine LeO.bind ?_ (fun _ => ?_))
      | exact ih0 _ _ _ _ _
      | exact LeO.none _
      | refine LeO.ite ?_ ?_
      | refine LeO.bind ?_ (fun _ => ?_)
theorem impl_allWithin.mono : ∀ a0 a1 a2 k, LeO (impl_allWithin.f k a0 a1 a2) (impl_allWithin.f (k + 1) a0 a1 a2) := by
  intro a0 a1 a2 k
  have ih0 := impl_allWithin.mono_l k
  unfold impl_allWithin.f
  repeat' first
      | (with_reducible exact ih0 _ _ _ _ _)
      | (with_reducible exact LeO.refl _)
      | (with_reducible exact LeO.none _)
      | (with_reducible refine LeO.ite ?_ ?_)
      | (with_reducible refine LeO.bind ?_ (fun _ => ?_))
      | exact ih0 _ _ _ _ _
      | exact LeO.none _
      | refine LeO.ite ?_ ?_
      | refine LeO.bind ?_ (fun _ => ?_)
set_option maxHeartbeats 8000000 in
set_option maxRecDepth 100000 in
theorem impl_allWithin.calls (k : Nat) (A0 : Option Addr) (c0 : Nat) (l0 : List Int) (a1 : Int) (a2 : Int) (r : Bool) (w : World) (hr0 : Kd.C (Kd.int .i64) w A0 l0.length l0) (hc0 : l0.length ≤ c0) (h : impl_allWithin.f k l0 a1 a2 = some r) :
    Calls Tryd.prog 58 #[.slice A0 l0.length c0, .int .i64 a1, .int .i64 a2] w fun e w' => e = .returned (.bool r) ∧ Drawn0 w w' := by
  have HR0 := Aside0.mk hr0
  have HC0 := Aside0.mk hc0
  clear hr0 hc0
  have H : (impl_allWithin.l0 k a1 a2 l0 (l0.length : Int) 0) = some r := h
  clear h
  have H' := Aside0.mk H
  clear H
  go_enter Tryd.func58, Tryd.ntmps58
  go_wp2
  go_loopg [11] k (fun kq v11 w' => ∃ (x11_1 : Int), v11 = .int .i64 x11_1 ∧ Aside0 (impl_allWithin.l0 kq a1 a2 l0 (l0.length : Int) x11_1 = some r) ∧ Aside0 (kq ≤ k) ∧ Drawn0 w w')
  case atStart => exact ⟨(0), (by first | rfl | (simp; done) | (simp [*]; done)), H', ⟨Nat.le_refl _⟩, by repeat (first | exact Drawn0.refl _ | apply Drawn0.step)⟩
  case round =>
    clear H'
    try clear p2
    obtain ⟨x11_1, rfl, HA, HK1, ⟨m1, rfl⟩⟩ := hrel
    cases gk with
    | zero => exact absurd HA.out (by simp [impl_allWithin.l0])
    | succ k1 =>
      have H := HA.out
      clear HA
      simp only [impl_allWithin.l0] at H
      have HF := Aside0.mk H
      clear H
      go_upto_if 12 with (fail)
      have H := HF.out
      clear HF
      by_cases c4 : x11_1 < (l0.length : Int)
      · rw [if_pos c4] at H
        have c4b0 : decide (x11_1 < (l0.length : Int)) = true := decide_eq_true c4
        clear c4
        (first | rw [c4b0] | (simp only [i64_w, i32_w]; rw [c4b0]) | skip)
        by_cases c5 : 0 ≤ x11_1
        · rw [if_pos c5] at H
          have c5b0 : decide (0 ≤ x11_1) = true := decide_eq_true c5
          clear c5
          by_cases c6 : x11_1 < (l0.length : Int)
          · rw [if_pos c6] at H
            have c6b0 : decide (x11_1 < (l0.length : Int)) = true := decide_eq_true c6
            clear c6
            replace H := Option.bind_eq_some_iff.mp H
            obtain ⟨t425, A70, H⟩ := H
            replace H : (if t425 = true then (impl_allWithin.l0 k1 a1 a2 l0 (l0.length : Int) (wrap64 (x11_1 + 1))) else (some false)) = some r := H
            have A7 := Aside0.mk A70
            clear A70
            have HF := Aside0.mk H
            clear H
            have p424 : 0 ≤ (x11_1 : Int) := of_decide_eq_true (by first | (with_reducible assumption) | assumption)
            have q424 : x11_1 < (l0.length : Int) := of_decide_eq_true (by first | (with_reducible assumption) | assumption)
            obtain ⟨ad424, e424, hx424_0⟩ := Kd.at_int HR0.out x11_1 p424 q424
            cases e424
            replace p424 := eq_true p424
            replace q424 := eq_true q424
            go_upto_if 19 with (go_big_may; first | ((with_reducible refine gate_callee (f := 46) rfl ?_); refine goesL_ (some 18) rfl rfl Tryd.func46 (by kernel_rfl) rfl #[.int .i64 (rd l0 x11_1), .int .i64 a1, .int .i64 a2] rfl (by (try simp only [mp]); first | done | rfl) ?_; (with_reducible refine (impl_within.calls (rd l0 x11_1) a1 a2 t425 _ A7.out).mono ?_); rintro e w' ⟨rfl, ⟨nd, rfl⟩⟩; refine ⟨_, rfl, ?_⟩))
            have H := HF.out
            clear HF
            by_cases c8 : t425 = true
            · subst c8
              have H1 : (impl_allWithin.l0 k1 a1 a2 l0 (l0.length : Int) (wrap64 (x11_1 + 1))) = some r := by rw [if_pos rfl] at H; exact H
              clear H
              have H := H1
              clear H1
              have H' := Aside0.mk H
              clear H
              go_wp2
              go_roundg k1
              case measure => have := HK1.out; omega
              case rel => exact ⟨(wrap64 (x11_1 + 1)), (by first | rfl | (simp; done) | (simp [*]; done)), H', ⟨by have := HK1.out; omega⟩, by repeat (first | exact Drawn0.refl _ | apply Drawn0.step)⟩
            · replace c8 := Bool.eq_false_iff.mpr c8
              subst c8
              have H1 : (some false) = some r := by rw [if_neg (show ¬ (false = true) by decide)] at H; exact H
              clear H
              have H := H1
              clear H1
              obtain rfl := Option.some.inj H
              go_wp2
              go_ret
              exact ⟨by first | rfl | (simp; done) | (simp [*]; done), by repeat (first | exact Drawn0.refl _ | apply Drawn0.step)⟩
          · rw [if_neg c6] at H
            exact absurd H (by simp)
        · rw [if_neg c5] at H
          exact absurd H (by simp)
      · rw [if_neg c4] at H
        have c4b0 : decide (x11_1 < (l0.length : Int)) = false := decide_eq_false c4
        clear c4
        (first | rw [c4b0] | (simp only [i64_w, i32_w]; rw [c4b0]) | skip)
        obtain rfl := Option.some.inj H
        go_wp2
        go_ret
        exact ⟨by first | rfl | (simp; done) | (simp [*]; done), by repeat (first | exact Drawn0.refl _ | apply Drawn0.step)⟩

/-! ### impl_LedgerOk: function 45 -/
def impl_LedgerOk.f (k : Nat) (l0_0 : List Int) (l0_1 : List Int) : Option (Bool) := if (l0_0.length : Int) = 4 then (if (l0_1.length : Int) = 4 then ((impl_allWithin.f k l0_0 0 400).bind fun t427 => (if t427 = true then ((impl_allWithin.f k l0_1 0 100).bind fun t428 => (some t428)) else (some false))) else (some false)) else (some false)
theorem impl_LedgerOk.mono : ∀ a0 a1 k, LeO (impl_LedgerOk.f k a0 a1) (impl_LedgerOk.f (k + 1) a0 a1) := by
  intro a0 a1 k
  unfold impl_LedgerOk.f
  repeat' first
      | (with_reducible exact impl_allWithin.mono _ _ _ _)
      | (with_reducible exact LeO.refl _)
      | (with_reducible exact LeO.none _)
      | (with_reducible refine LeO.ite ?_ ?_)
      | (with_reducible refine LeO.bind ?_ (fun _ => ?_))
      | exact impl_allWithin.mono _ _ _ _
      | exact LeO.none _
      | refine LeO.ite ?_ ?_
      | refine LeO.bind ?_ (fun _ => ?_)
set_option maxHeartbeats 8000000 in
set_option maxRecDepth 100000 in
theorem impl_LedgerOk.calls (k : Nat) (A0_0 : Option Addr) (c0_0 : Nat) (l0_0 : List Int) (A0_1 : Option Addr) (c0_1 : Nat) (l0_1 : List Int) (r : Bool) (w : World) (hr0_0 : Kd.C (Kd.int .i64) w A0_0 l0_0.length l0_0) (hc0_0 : l0_0.length ≤ c0_0) (hr0_1 : Kd.C (Kd.int .i64) w A0_1 l0_1.length l0_1) (hc0_1 : l0_1.length ≤ c0_1) (h : impl_LedgerOk.f k l0_0 l0_1 = some r) :
    Calls Tryd.prog 45 #[.agg #[.slice A0_0 l0_0.length c0_0, .slice A0_1 l0_1.length c0_1]] w fun e w' => e = .returned (.bool r) ∧ Below w.heap.size w w' := by
  have hu33 := Tryd.underlying33
  have HR0_0 := Aside0.mk hr0_0
  have HC0_0 := Aside0.mk hc0_0
  clear hr0_0 hc0_0
  have HR0_1 := Aside0.mk hr0_1
  have HC0_1 := Aside0.mk hc0_1
  clear hr0_1 hc0_1
  have HB := Aside0.mk (Below.refl w.heap.size w)
  have H : (if (l0_0.length : Int) = 4 then (if (l0_1.length : Int) = 4 then ((impl_allWithin.f k l0_0 0 400).bind fun t427 => (if t427 = true then ((impl_allWithin.f k l0_1 0 100).bind fun t428 => (some t428)) else (some false))) else (some false)) else (some false)) = some r := h
  clear h
  by_cases c2 : (l0_0.length : Int) = 4
  · rw [if_pos c2] at H
    have c2b0 : ((l0_0.length : Int) == 4) = true := beq_iff_eq.mpr c2
    have c2b1 : ((l0_0.length : Int) != 4) = false := bne_eq_false_iff_eq.mpr c2
    clear c2
    by_cases c3 : (l0_1.length : Int) = 4
    · rw [if_pos c3] at H
      have c3b0 : ((l0_1.length : Int) == 4) = true := beq_iff_eq.mpr c3
      have c3b1 : ((l0_1.length : Int) != 4) = false := bne_eq_false_iff_eq.mpr c3
      clear c3
      replace H := Option.bind_eq_some_iff.mp H
      obtain ⟨t427, A40, H⟩ := H
      replace H : (if t427 = true then ((impl_allWithin.f k l0_1 0 100).bind fun t428 => (some t428)) else (some false)) = some r := H
      have A4 := Aside0.mk A40
      clear A40
      by_cases c5 : t427 = true
      · subst c5
        have H1 : ((impl_allWithin.f k l0_1 0 100).bind fun t428 => (some t428)) = some r := by rw [if_pos rfl] at H; exact H
        clear H
        have H := H1
        clear H1
        replace H := Option.bind_eq_some_iff.mp H
        obtain ⟨t428, A60, H⟩ := H
        replace H : (some t428) = some r := H
        have A6 := Aside0.mk A60
        clear A60
        obtain rfl := Option.some.inj H
        go_enter Tryd.func45, Tryd.ntmps45
        go_wp2_with (first | ((with_reducible refine gate_dst (N := 1) rfl ?_); (try (refine gate_guard (by rfl) ?_; dsimp only)); refine box_event ?hg (N := 1) ?hd (cs := #[.slice A0_0 l0_0.length c0_0, .slice A0_1 l0_1.length c0_1]) (t := 33) ?hr ?_; (case hd => rfl); (case hg => rfl); (case hr => go_simp <;> rfl); intro gb426 hg w7 hbox hb; have n0_ := Aside0.mk (below_step (HB.out) hb); have n1_ := Aside0.mk (hbox); have n2_ := Aside0.mk ((by rw [hg]; exact (below_size (HB.out)) : w.heap.size ≤ gb426)); have n3_ := Aside0.mk ((by rw [hg]; exact (below_size (HB.out)) : w.heap.size ≤ gb426)); clear HB; have HB := n0_; have BK426 := n1_; have GW426 := n2_; have GE426 := n3_; clear n0_ n1_ n2_ n3_; clear hb hbox hg; have hcz8_0 : w7.cell? ⟨gb426, 0, none⟩ = some (.slice A0_0 l0_0.length c0_0) := (blk_cell BK426.out 0).trans rfl; have hcz8_1 : w7.cell? ⟨gb426, 1, none⟩ = some (.slice A0_1 l0_1.length c0_1) := (blk_cell BK426.out 1).trans rfl; have hfz8_0 := blk_frozen BK426.out 0; have hfz8_1 := blk_frozen BK426.out 1) | (go_at_call 58; (with_reducible refine (impl_allWithin.calls k _ _ l0_0 0 400 true _ ?side1 ?side2 A4.out).mono ?_); (case side1 => repeat (first | exact (Kd.C_below HR0_0.out HB.out) | (with_reducible refine Kd.C_alloc ?_ _) | (with_reducible refine Kd.C_drewN ?_ _) | (with_reducible refine Kd.C_drew ?_))); (case side2 => exact HC0_0.out); rintro e w' ⟨rfl, ⟨nd, rfl⟩⟩) | (go_at_call 58; (with_reducible refine (impl_allWithin.calls k _ _ l0_1 0 100 t428 _ ?side1 ?side2 A6.out).mono ?_); (case side1 => repeat (first | exact (Kd.C_below HR0_1.out (HB.out)) | (with_reducible refine Kd.C_alloc ?_ _) | (with_reducible refine Kd.C_drewN ?_ _) | (with_reducible refine Kd.C_drew ?_))); (case side2 => exact HC0_1.out); rintro e w' ⟨rfl, ⟨nd, rfl⟩⟩))
        go_ret
        exact ⟨rfl, by repeat (first | (with_reducible first | exact HB.out | apply below_alloc | apply pw_below_drewN | apply below_drew1 | refine below_set ?_ GE426.out) | exact HB.out)⟩
      · replace c5 := Bool.eq_false_iff.mpr c5
        subst c5
        have H1 : (some false) = some r := by rw [if_neg (show ¬ (false = true) by decide)] at H; exact H
        clear H
        have H := H1
        clear H1
        obtain rfl := Option.some.inj H
        go_enter Tryd.func45, Tryd.ntmps45
        go_wp2_with (first | ((with_reducible refine gate_dst (N := 1) rfl ?_); (try (refine gate_guard (by rfl) ?_; dsimp only)); refine box_event ?hg (N := 1) ?hd (cs := #[.slice A0_0 l0_0.length c0_0, .slice A0_1 l0_1.length c0_1]) (t := 33) ?hr ?_; (case hd => rfl); (case hg => rfl); (case hr => go_simp <;> rfl); intro gb426 hg w9 hbox hb; have n0_ := Aside0.mk (below_step (HB.out) hb); have n1_ := Aside0.mk (hbox); have n2_ := Aside0.mk ((by rw [hg]; exact (below_size (HB.out)) : w.heap.size ≤ gb426)); have n3_ := Aside0.mk ((by rw [hg]; exact (below_size (HB.out)) : w.heap.size ≤ gb426)); clear HB; have HB := n0_; have BK426 := n1_; have GW426 := n2_; have GE426 := n3_; clear n0_ n1_ n2_ n3_; clear hb hbox hg; have hcz10_0 : w9.cell? ⟨gb426, 0, none⟩ = some (.slice A0_0 l0_0.length c0_0) := (blk_cell BK426.out 0).trans rfl; have hcz10_1 : w9.cell? ⟨gb426, 1, none⟩ = some (.slice A0_1 l0_1.length c0_1) := (blk_cell BK426.out 1).trans rfl; have hfz10_0 := blk_frozen BK426.out 0; have hfz10_1 := blk_frozen BK426.out 1) | (go_at_call 58; (with_reducible refine (impl_allWithin.calls k _ _ l0_0 0 400 false _ ?side1 ?side2 A4.out).mono ?_); (case side1 => repeat (first | exact (Kd.C_below HR0_0.out HB.out) | (with_reducible refine Kd.C_alloc ?_ _) | (with_reducible refine Kd.C_drewN ?_ _) | (with_reducible refine Kd.C_drew ?_))); (case side2 => exact HC0_0.out); rintro e w' ⟨rfl, ⟨nd, rfl⟩⟩))
        go_ret
        exact ⟨rfl, by repeat (first | (with_reducible first | exact HB.out | apply below_alloc | apply pw_below_drewN | apply below_drew1 | refine below_set ?_ GE426.out) | exact HB.out)⟩
    · rw [if_neg c3] at H
      have c3b0 : ((l0_1.length : Int) == 4) = false := beq_eq_false_iff_ne.mpr c3
      have c3b1 : ((l0_1.length : Int) != 4) = true := bne_iff_ne.mpr c3
      obtain rfl := Option.some.inj H
      go_enter Tryd.func45, Tryd.ntmps45
      go_wp2_with (first | ((with_reducible refine gate_dst (N := 1) rfl ?_); (try (refine gate_guard (by rfl) ?_; dsimp only)); refine box_event ?hg (N := 1) ?hd (cs := #[.slice A0_0 l0_0.length c0_0, .slice A0_1 l0_1.length c0_1]) (t := 33) ?hr ?_; (case hd => rfl); (case hg => rfl); (case hr => go_simp <;> rfl); intro gb426 hg w11 hbox hb; have n0_ := Aside0.mk (below_step (HB.out) hb); have n1_ := Aside0.mk (hbox); have n2_ := Aside0.mk ((by rw [hg]; exact (below_size (HB.out)) : w.heap.size ≤ gb426)); have n3_ := Aside0.mk ((by rw [hg]; exact (below_size (HB.out)) : w.heap.size ≤ gb426)); clear HB; have HB := n0_; have BK426 := n1_; have GW426 := n2_; have GE426 := n3_; clear n0_ n1_ n2_ n3_; clear hb hbox hg; have hcz12_0 : w11.cell? ⟨gb426, 0, none⟩ = some (.slice A0_0 l0_0.length c0_0) := (blk_cell BK426.out 0).trans rfl; have hcz12_1 : w11.cell? ⟨gb426, 1, none⟩ = some (.slice A0_1 l0_1.length c0_1) := (blk_cell BK426.out 1).trans rfl; have hfz12_0 := blk_frozen BK426.out 0; have hfz12_1 := blk_frozen BK426.out 1))
      go_ret
      exact ⟨rfl, HB.out⟩
  · rw [if_neg c2] at H
    have c2b0 : ((l0_0.length : Int) == 4) = false := beq_eq_false_iff_ne.mpr c2
    have c2b1 : ((l0_0.length : Int) != 4) = true := bne_iff_ne.mpr c2
    obtain rfl := Option.some.inj H
    go_enter Tryd.func45, Tryd.ntmps45
    go_wp2_with (first | ((with_reducible refine gate_dst (N := 1) rfl ?_); (try (refine gate_guard (by rfl) ?_; dsimp only)); refine box_event ?hg (N := 1) ?hd (cs := #[.slice A0_0 l0_0.length c0_0, .slice A0_1 l0_1.length c0_1]) (t := 33) ?hr ?_; (case hd => rfl); (case hg => rfl); (case hr => go_simp <;> rfl); intro gb426 hg w13 hbox hb; have n0_ := Aside0.mk (below_step (HB.out) hb); have n1_ := Aside0.mk (hbox); have n2_ := Aside0.mk ((by rw [hg]; exact (below_size (HB.out)) : w.heap.size ≤ gb426)); have n3_ := Aside0.mk ((by rw [hg]; exact (below_size (HB.out)) : w.heap.size ≤ gb426)); clear HB; have HB := n0_; have BK426 := n1_; have GW426 := n2_; have GE426 := n3_; clear n0_ n1_ n2_ n3_; clear hb hbox hg; have hcz14_0 : w13.cell? ⟨gb426, 0, none⟩ = some (.slice A0_0 l0_0.length c0_0) := (blk_cell BK426.out 0).trans rfl; have hcz14_1 : w13.cell? ⟨gb426, 1, none⟩ = some (.slice A0_1 l0_1.length c0_1) := (blk_cell BK426.out 1).trans rfl; have hfz14_0 := blk_frozen BK426.out 0; have hfz14_1 := blk_frozen BK426.out 1))
    go_ret
    exact ⟨rfl, HB.out⟩

/-! ### impl_Pay: function 29 -/
-- included impl_within.lean
theorem impl_within_val (a b c : Int) : impl_within.f a b c = some (decide (b ≤ a ∧ a ≤ c)) := by
  unfold impl_within.f
  by_cases h : a ≥ b <;> by_cases h2 : a ≤ c <;> simp [h, h2] <;> omega
-- included impl_allWithin.lean
theorem allWithin_loop (l : List Int) (lo hi : Int) (hl : l.length ≤ 35184372088832) : ∀ (d i : Nat), l.length - i = d → i ≤ l.length → Ev (fun k => impl_allWithin.l0 k lo hi l (l.length : Int) (i : Int)) (decide (∀ x ∈ l.drop i, lo ≤ x ∧ x ≤ hi)) := by
  intro d
  induction d with
  | zero =>
    intro i hd hi'
    refine Ev.step (f := fun _ => some true) (fun k => by simp only [impl_allWithin.l0]; rw [if_neg (by omega)]) (ev_some ?_)
    rw [List.drop_of_length_le (by omega)]; simp
  | succ d ih =>
    intro i hd hi'
    have h1 : i < l.length := by omega
    refine Ev.step (f := fun k => (impl_within.f l[i] lo hi).bind fun t => if t = true then impl_allWithin.l0 k lo hi l (l.length : Int) ((i + 1 : Nat) : Int) else some false) (fun k => by simp only [impl_allWithin.l0]; rw [if_pos (by omega), if_pos (by omega), if_pos (by omega), rd_nat l i h1, up1 i (by omega)]) ?_
    refine ev_const (impl_within_val _ _ _) ?_
    by_cases c1 : lo ≤ l[i] ∧ l[i] ≤ hi
    · exact ev_pos (by simpa using c1) (ev_eq (ih (i + 1) (by omega) (by omega)) (decide_eq_decide.mpr (by rw [all_drop h1]; exact ⟨fun z => ⟨c1, z⟩, fun z => z.2⟩)))
    · exact ev_neg (by simpa using c1) (ev_some (decide_eq_false (by rw [all_drop h1]; exact fun z => c1 z.1)).symm)
theorem allWithin_ev (l : List Int) (lo hi : Int) (hl : l.length ≤ 35184372088832) : Ev (fun k => impl_allWithin.f k l lo hi) (decide (∀ x ∈ l, lo ≤ x ∧ x ≤ hi)) := by
  unfold impl_allWithin.f
  exact allWithin_loop l lo hi hl l.length 0 (by omega) (by omega)
-- included impl_copyInts.lean
theorem impl_copyInts_val (h : List Int) (b1 : h.length ≤ 1048576) : impl_copyInts.f h = some h := by
  unfold impl_copyInts.f
  rw [List.length_nil, if_pos (by omega), List.nil_append]
-- included impl_copyLedger.lean
theorem impl_copyLedger_val (h n : List Int) (b1 : h.length ≤ 1048576) (b2 : n.length ≤ 1048576) : impl_copyLedger.f h n = some (h, n) := by
  unfold impl_copyLedger.f
  rw [impl_copyInts_val h b1, Option.bind_some, impl_copyInts_val n b2, Option.bind_some]
-- included impl_LedgerOk.lean
theorem impl_LedgerOk_ev (h n : List Int) : Ev (fun k => impl_LedgerOk.f k h n) (decide (ledgerIs h n)) := by
  unfold impl_LedgerOk.f ledgerIs
  by_cases hh : h.length = 4
  · refine ev_pos (by omega) ?_
    by_cases hn : n.length = 4
    · refine ev_pos (by omega) (Ev.bind (allWithin_ev h 0 400 (by omega)) ?_)
      by_cases c : ∀ x ∈ h, 0 ≤ x ∧ x ≤ 400
      · exact ev_pos (decide_eq_true c) (Ev.bind (allWithin_ev n 0 100 (by omega)) (ev_some (decide_eq_decide.mpr ⟨fun z => ⟨⟨hh, hn⟩, c, z⟩, fun z => z.2.2⟩)))
      · exact ev_neg (by simpa using c) (ev_some (decide_eq_false (fun z => c z.2.1)).symm)
    · exact ev_neg (by omega) (ev_some (decide_eq_false (fun z => hn z.1.2)).symm)
  · exact ev_neg (by omega) (ev_some (decide_eq_false (fun z => hh z.1.1)).symm)
-- included impl_TxOk.lean
theorem impl_TxOk_val (f t a n : Int) : impl_TxOk.f f t a n = some (decide (txIs f t a n)) := by
  unfold impl_TxOk.f txIs
  simp only [impl_within_val, Option.bind_some, decide_eq_true_eq]
  by_cases h1 : 0 ≤ f ∧ f ≤ 3 <;> by_cases h2 : 0 ≤ t ∧ t ≤ 3 <;> by_cases h3 : 0 ≤ a ∧ a ≤ 1000 <;> simp only [h1, h2, h3, if_true, if_false, true_and, false_and, and_false, and_self, decide_false]
theorem impl_Pay.lok (k : Nat) (A0 : Option Addr) (c0 : Nat) (l0 : List Int) (n0 : Nat) (A1 : Option Addr) (c1 : Nat) (l1 : List Int) (n1 : Nat) (r : Bool) (w : World) (e0 : n0 = l0.length) (e1 : n1 = l1.length) (hr0 : Kd.C (Kd.int .i64) w A0 l0.length l0) (hc0 : l0.length ≤ c0) (hr1 : Kd.C (Kd.int .i64) w A1 l1.length l1) (hc1 : l1.length ≤ c1) (h : impl_LedgerOk.f k l0 l1 = some r) :
    Calls Tryd.prog 45 #[.agg #[.slice A0 n0 c0, .slice A1 n1 c1]] w fun e w' => e = .returned (.bool r) ∧ Below w.heap.size w w' := by
  subst e0
  subst e1
  exact impl_LedgerOk.calls _ _ _ _ _ _ _ _ _ hr0 hc0 hr1 hc1 h
open Go.Proofs.YtnlakfbbbnkcpaaDoorH in
set_option maxHeartbeats 4000000 in
set_option maxRecDepth 100000 in
theorem impl_Pay.bad (k : Nat) (A0_0 : Option Addr) (c0_0 : Nat) (l0_0 : List Int) (A0_1 : Option Addr) (c0_1 : Nat) (l0_1 : List Int) (a1_0 a1_1 a1_2 a1_3 : Int) (b0 b1 : Bool) (w : World) (hr0 : Aside0 (Kd.C (Kd.int .i64) w A0_0 l0_0.length l0_0)) (hc0 : Aside0 (l0_0.length ≤ c0_0)) (hr1 : Aside0 (Kd.C (Kd.int .i64) w A0_1 l0_1.length l0_1)) (hc1 : Aside0 (l0_1.length ≤ c0_1)) (hcp : Aside0 (impl_copyLedger.f l0_0 l0_1 = some (l0_0, l0_1))) (hk : Aside0 (impl_LedgerOk.f k l0_0 l0_1 = some b0)) (hx : Aside0 (impl_TxOk.f a1_0 a1_1 a1_2 a1_3 = some b1)) (hb : (b0 && b1) = false) :
    Calls Tryd.prog 29 #[.agg #[.slice A0_0 l0_0.length c0_0, .slice A0_1 l0_1.length c0_1], .agg #[.int .i64 a1_0, .int .i64 a1_1, .int .i64 a1_2, .int .i64 a1_3]] w fun e w' => ∃ v0_ v1_ : Value, e = .returned (.tuple #[.agg #[v0_, v1_], .int .i64 (1)]) ∧ Kd.R (Kd.int .i64) 3 w' w.heap.size (fun k_ => some k_ ≠ (v1_ : Value).ownBlock) v0_ (l0_0) ∧ Kd.R (Kd.int .i64) 3 w' w.heap.size (fun k_ => some k_ ≠ (v0_ : Value).ownBlock) v1_ (l0_1) ∧ Below w.heap.size w w' := by
  have HS := SS.nil w
  rcases b0 with _ | _
  · clear hb
    go_enter Tryd.func29, Tryd.ntmps29
    go_wp2_with (first | ((with_reducible refine gate_dst (N := 4) rfl ?_); refine ev_alloc HS rfl rfl ?_; clear HS; intro g4 w1 HS) | ((with_reducible refine gate_dst (N := 6) rfl ?_); refine ev_alloc HS rfl rfl ?_; clear HS; intro g6 w1 HS) | ((with_reducible refine gate_dst (N := 2) rfl ?_); refine ev_box HS (cs := #[.slice A0_0 l0_0.length c0_0, .slice A0_1 l0_1.length c0_1]) rfl rfl rfl ?_; clear HS; intro g2 w1 HS) | ((with_reducible refine gate_dst (N := 3) rfl ?_); refine ev_box HS (cs := #[.int .i64 a1_0, .int .i64 a1_1, .int .i64 a1_2, .int .i64 a1_3]) rfl rfl rfl ?_; clear HS; intro g3 w1 HS) | ((with_reducible refine gate_load rfl ?_); first | refine ev_loadC HS rfl rfl rfl (by rfl) ?_ | refine ev_loadS HS rfl rfl rfl (by rfl) ?_) | ((with_reducible refine gate_put rfl ?_); (first | refine ev_storeC HS rfl rfl rfl rfl rfl (by rfl) (by rfl) ?_ | refine ev_storeS HS rfl rfl rfl rfl rfl (by rfl) (by rfl) (by rfl) ?_); clear HS; intro w1 HS) | (go_at_call 37; refine (impl_copyLedger.calls _ _ _ _ _ _ _ _ _ (Kd.C_below hr0.out HS.below) hc0.out (Kd.C_below hr1.out HS.below) hc1.out hcp.out).mono ?_; rintro e w1 ⟨v0, v1, rfl, ho0, ho1, hb⟩; obtain ⟨Ao0, co0, Ao1, co1, rfl, rfl, HS1⟩ := HS.got2 hb ho0 ho1 (fun _ h => h); clear HS ho0 ho1 hb; have HS := HS1; clear HS1) | (go_at_call 45; refine (impl_LedgerOk.calls _ _ _ _ _ _ _ _ _ (Kd.C_below hr0.out HS.below) hc0.out (Kd.C_below hr1.out HS.below) hc1.out hk.out).mono ?_; rintro e w1 ⟨rfl, hb⟩; have HS1 := HS.later hb; clear HS hb; have HS := HS1; clear HS1) | (go_at_call 30; refine (impl_TxOk.calls _ _ _ _ _ _ hx.out).mono ?_; rintro e w1 ⟨rfl, hb⟩; have HS1 := HS.later hb; clear HS hb; have HS := HS1; clear HS1))
    refine bodyPost_ret (results_ct rfl _ _ g4 33 #[.slice Ao0 l0_0.length co0, .slice Ao1 l0_1.length co1] (0, 0) _ rfl (HS.box g4) Tryd.underlying33 rfl (by kernel_rfl)) rfl ?_
    exact ⟨_, _, rfl, HS.out2 Ao0 Ao1 (by decide), HS.out2 Ao1 Ao0 (by decide), HS.below⟩
  · obtain rfl : b1 = false := by simpa using hb
    clear hb
    go_enter Tryd.func29, Tryd.ntmps29
    go_wp2_with (first | ((with_reducible refine gate_dst (N := 4) rfl ?_); refine ev_alloc HS rfl rfl ?_; clear HS; intro g4 w1 HS) | ((with_reducible refine gate_dst (N := 6) rfl ?_); refine ev_alloc HS rfl rfl ?_; clear HS; intro g6 w1 HS) | ((with_reducible refine gate_dst (N := 2) rfl ?_); refine ev_box HS (cs := #[.slice A0_0 l0_0.length c0_0, .slice A0_1 l0_1.length c0_1]) rfl rfl rfl ?_; clear HS; intro g2 w1 HS) | ((with_reducible refine gate_dst (N := 3) rfl ?_); refine ev_box HS (cs := #[.int .i64 a1_0, .int .i64 a1_1, .int .i64 a1_2, .int .i64 a1_3]) rfl rfl rfl ?_; clear HS; intro g3 w1 HS) | ((with_reducible refine gate_load rfl ?_); first | refine ev_loadC HS rfl rfl rfl (by rfl) ?_ | refine ev_loadS HS rfl rfl rfl (by rfl) ?_) | ((with_reducible refine gate_put rfl ?_); (first | refine ev_storeC HS rfl rfl rfl rfl rfl (by rfl) (by rfl) ?_ | refine ev_storeS HS rfl rfl rfl rfl rfl (by rfl) (by rfl) (by rfl) ?_); clear HS; intro w1 HS) | (go_at_call 37; refine (impl_copyLedger.calls _ _ _ _ _ _ _ _ _ (Kd.C_below hr0.out HS.below) hc0.out (Kd.C_below hr1.out HS.below) hc1.out hcp.out).mono ?_; rintro e w1 ⟨v0, v1, rfl, ho0, ho1, hb⟩; obtain ⟨Ao0, co0, Ao1, co1, rfl, rfl, HS1⟩ := HS.got2 hb ho0 ho1 (fun _ h => h); clear HS ho0 ho1 hb; have HS := HS1; clear HS1) | (go_at_call 45; refine (impl_LedgerOk.calls _ _ _ _ _ _ _ _ _ (Kd.C_below hr0.out HS.below) hc0.out (Kd.C_below hr1.out HS.below) hc1.out hk.out).mono ?_; rintro e w1 ⟨rfl, hb⟩; have HS1 := HS.later hb; clear HS hb; have HS := HS1; clear HS1) | (go_at_call 30; refine (impl_TxOk.calls _ _ _ _ _ _ hx.out).mono ?_; rintro e w1 ⟨rfl, hb⟩; have HS1 := HS.later hb; clear HS hb; have HS := HS1; clear HS1))
    refine bodyPost_ret (results_ct rfl _ _ g4 33 #[.slice Ao0 l0_0.length co0, .slice Ao1 l0_1.length co1] (0, 0) _ rfl (HS.box g4) Tryd.underlying33 rfl (by kernel_rfl)) rfl ?_
    exact ⟨_, _, rfl, HS.out2 Ao0 Ao1 (by decide), HS.out2 Ao1 Ao0 (by decide), HS.below⟩

open Go.Proofs.YtnlakfbbbnkcpaaDoorH in
set_option maxHeartbeats 4000000 in
set_option maxRecDepth 100000 in
theorem impl_Pay.fine (k k2 : Nat) (ad0 ad1 : Addr) (c0_0 : Nat) (l0_0 : List Int) (c0_1 : Nat) (l0_1 : List Int) (a1_0 a1_1 a1_2 a1_3 : Int) (w : World) (hr0 : Aside0 (Kd.C (Kd.int .i64) w (some ad0) l0_0.length l0_0)) (hc0 : Aside0 (l0_0.length ≤ c0_0)) (hr1 : Aside0 (Kd.C (Kd.int .i64) w (some ad1) l0_1.length l0_1)) (hc1 : Aside0 (l0_1.length ≤ c0_1)) (hcp : Aside0 (impl_copyLedger.f l0_0 l0_1 = some (l0_0, l0_1))) (hk : Aside0 (impl_LedgerOk.f k l0_0 l0_1 = some true)) (hx : Aside0 (impl_TxOk.f a1_0 a1_1 a1_2 a1_3 = some true))
    (hx0 : Aside0 (w.cell? (ad0.add a1_0.toNat) = some (.int .i64 (rd l0_0 a1_0)))) (hx1 : Aside0 (w.cell? (ad1.add a1_0.toNat) = some (.int .i64 (rd l0_1 a1_0)))) (f0 : 0 ≤ a1_0) (f1 : a1_0 < (l0_0.length : Int)) (f2 : a1_0 < (l0_1.length : Int)) (t0 : 0 ≤ a1_1) (t1 : a1_1 < (l0_0.length : Int)) (t1' : a1_1 < ((l0_0.set a1_0.toNat (wrap64 (rd l0_0 a1_0 - a1_2))).length : Int)) (b6 : Bool) (hk2 : Aside0 (impl_LedgerOk.f k2 (mvL l0_0 a1_0 a1_1 a1_2) (l0_1.set a1_0.toNat (wrap64 (a1_3 + 1))) = some b6)) (r1 r2 : List Int) (r3 : Int) (hR : Aside0 (payF b6 l0_0 l0_1 a1_0 a1_1 a1_2 a1_3 = (r1, r2, r3))) :
    Calls Tryd.prog 29 #[.agg #[.slice (some ad0) l0_0.length c0_0, .slice (some ad1) l0_1.length c0_1], .agg #[.int .i64 a1_0, .int .i64 a1_1, .int .i64 a1_2, .int .i64 a1_3]] w fun e w' => ∃ v0_ v1_ : Value, e = .returned (.tuple #[.agg #[v0_, v1_], .int .i64 (r3)]) ∧ Kd.R (Kd.int .i64) 3 w' w.heap.size (fun k_ => some k_ ≠ (v1_ : Value).ownBlock) v0_ (r1) ∧ Kd.R (Kd.int .i64) 3 w' w.heap.size (fun k_ => some k_ ≠ (v0_ : Value).ownBlock) v1_ (r2) ∧ Below w.heap.size w w' := by
  have HS := SS.nil w
  go_enter Tryd.func29, Tryd.ntmps29
  go_upto_region 4 with (first | ((with_reducible refine gate_dst (N := 4) rfl ?_); refine ev_alloc HS rfl rfl ?_; clear HS; intro g4 w1 HS) | ((with_reducible refine gate_dst (N := 6) rfl ?_); refine ev_alloc HS rfl rfl ?_; clear HS; intro g6 w1 HS) | ((with_reducible refine gate_dst (N := 2) rfl ?_); refine ev_box HS (cs := #[.slice (some ad0) l0_0.length c0_0, .slice (some ad1) l0_1.length c0_1]) rfl rfl rfl ?_; clear HS; intro g2 w1 HS) | ((with_reducible refine gate_dst (N := 3) rfl ?_); refine ev_box HS (cs := #[.int .i64 a1_0, .int .i64 a1_1, .int .i64 a1_2, .int .i64 a1_3]) rfl rfl rfl ?_; clear HS; intro g3 w1 HS) | ((with_reducible refine gate_load rfl ?_); first | refine ev_loadC HS rfl rfl rfl (by rfl) ?_ | refine ev_loadS HS rfl rfl rfl (by rfl) ?_) | ((with_reducible refine gate_put rfl ?_); (first | refine ev_storeC HS rfl rfl rfl rfl rfl (by rfl) (by rfl) ?_ | refine ev_storeS HS rfl rfl rfl rfl rfl (by rfl) (by rfl) (by rfl) ?_); clear HS; intro w1 HS) | (go_at_call 37; refine (impl_copyLedger.calls _ _ _ _ _ _ _ _ _ (Kd.C_below hr0.out HS.below) hc0.out (Kd.C_below hr1.out HS.below) hc1.out hcp.out).mono ?_; rintro e w1 ⟨v0, v1, rfl, ho0, ho1, hb⟩; obtain ⟨Ao0, co0, Ao1, co1, rfl, rfl, HS1⟩ := HS.got2 hb ho0 ho1 (fun _ h => h); clear HS ho0 ho1 hb; have HS := HS1; clear HS1) | (go_at_call 45; refine (impl_LedgerOk.calls _ _ _ _ _ _ _ _ _ (Kd.C_below hr0.out HS.below) hc0.out (Kd.C_below hr1.out HS.below) hc1.out hk.out).mono ?_; rintro e w1 ⟨rfl, hb⟩; have HS1 := HS.later hb; clear HS hb; have HS := HS1; clear HS1) | (go_at_call 30; refine (impl_TxOk.calls _ _ _ _ _ _ hx.out).mono ?_; rintro e w1 ⟨rfl, hb⟩; have HS1 := HS.later hb; clear HS hb; have HS := HS1; clear HS1))
  have o1 := (HS.below.cell (World.block_lt_of_cell? w _ hx1.out)).trans hx1.out
  have b2 := fun j => HS.cell g2 j
  have b3 := fun j => HS.cell g3 j
  by_cases c3 : a1_3 < rd l0_1 a1_0
  · have c3b : decide (a1_3 < rd l0_1 a1_0) = true := decide_eq_true c3
    have hp := hR.out; unfold payF at hp; rw [if_pos c3] at hp; simp only [Prod.mk.injEq] at hp; obtain ⟨rfl, rfl, rfl⟩ := hp
    clear c3 hR
    go_quiet (fail)
    rename_i nq
    replace HS := HS.drewN nq
    generalize w1.drewN nq = w1 at HS ⊢
    clear b2 b3 o1
    go_wp2_with (first | ((with_reducible refine gate_load rfl ?_); first | refine ev_loadC HS rfl rfl rfl (by rfl) ?_ | refine ev_loadS HS rfl rfl rfl (by rfl) ?_) | ((with_reducible refine gate_put rfl ?_); (first | refine ev_storeC HS rfl rfl rfl rfl rfl (by rfl) (by rfl) ?_ | refine ev_storeS HS rfl rfl rfl rfl rfl (by rfl) (by rfl) (by rfl) ?_); clear HS; intro w1 HS))
    refine bodyPost_ret (results_ct rfl _ _ g4 33 #[.slice Ao0 l0_0.length co0, .slice Ao1 l0_1.length co1] (0, 0) _ rfl (HS.box g4) Tryd.underlying33 rfl (by kernel_rfl)) rfl ?_
    exact ⟨_, _, rfl, HS.out2 Ao0 Ao1 (by decide), HS.out2 Ao1 Ao0 (by decide), HS.below⟩
  have c3b : decide (a1_3 < rd l0_1 a1_0) = false := decide_eq_false c3
  go_quiet (fail)
  rename_i nq
  replace HS := HS.drewN nq
  generalize w1.drewN nq = w1 at HS ⊢
  clear b2 b3 o1
  go_upto_region 6 with (fail)
  have o1 := (HS.below.cell (World.block_lt_of_cell? w _ hx1.out)).trans hx1.out
  have b2 := fun j => HS.cell g2 j
  have b3 := fun j => HS.cell g3 j
  by_cases c4 : a1_3 > rd l0_1 a1_0
  · have c4b : decide (rd l0_1 a1_0 < a1_3) = true := decide_eq_true c4
    have hp := hR.out; unfold payF at hp; rw [if_neg c3, if_pos c4] at hp; simp only [Prod.mk.injEq] at hp; obtain ⟨rfl, rfl, rfl⟩ := hp
    clear c3 c4 hR
    go_quiet (fail)
    rename_i nq
    replace HS := HS.drewN nq
    generalize w1.drewN nq = w1 at HS ⊢
    clear b2 b3 o1
    go_wp2_with (first | ((with_reducible refine gate_load rfl ?_); first | refine ev_loadC HS rfl rfl rfl (by rfl) ?_ | refine ev_loadS HS rfl rfl rfl (by rfl) ?_) | ((with_reducible refine gate_put rfl ?_); (first | refine ev_storeC HS rfl rfl rfl rfl rfl (by rfl) (by rfl) ?_ | refine ev_storeS HS rfl rfl rfl rfl rfl (by rfl) (by rfl) (by rfl) ?_); clear HS; intro w1 HS))
    refine bodyPost_ret (results_ct rfl _ _ g4 33 #[.slice Ao0 l0_0.length co0, .slice Ao1 l0_1.length co1] (0, 0) _ rfl (HS.box g4) Tryd.underlying33 rfl (by kernel_rfl)) rfl ?_
    exact ⟨_, _, rfl, HS.out2 Ao0 Ao1 (by decide), HS.out2 Ao1 Ao0 (by decide), HS.below⟩
  have c4b : decide (rd l0_1 a1_0 < a1_3) = false := decide_eq_false c4
  go_quiet (fail)
  rename_i nq
  replace HS := HS.drewN nq
  generalize w1.drewN nq = w1 at HS ⊢
  clear b2 b3 o1
  obtain ⟨b1, rfl⟩ := HS.form Ao1 (by omega)
  go_upto_region 9 with (first | ((with_reducible refine gate_load rfl ?_); first | refine ev_loadC HS rfl rfl rfl (by rfl) ?_ | refine ev_loadS HS rfl rfl rfl (by rfl) ?_ | refine ev_loadI HS rfl rfl rfl (by assumption) (by assumption) ?_) | ((with_reducible refine gate_put rfl ?_); (first | refine ev_storeC HS rfl rfl rfl rfl rfl (by rfl) (by rfl) ?_ | refine ev_storeS HS rfl rfl rfl rfl rfl (by rfl) (by rfl) (by rfl) ?_ | refine ev_storeI HS rfl rfl rfl rfl rfl (by assumption) (by assumption) ?_); clear HS; intro w1 HS))
  rw [show rd l0_1 a1_0 = a1_3 by omega] at HS
  have o1 := (HS.below.cell (World.block_lt_of_cell? w _ hx0.out)).trans hx0.out
  have b2 := fun j => HS.cell g2 j
  have b3 := fun j => HS.cell g3 j
  by_cases c5 : a1_2 > rd l0_0 a1_0
  · have c5b : decide (rd l0_0 a1_0 < a1_2) = true := decide_eq_true c5
    have hp := hR.out; unfold payF at hp; rw [if_neg c3, if_neg c4, if_pos c5] at hp; simp only [Prod.mk.injEq] at hp; obtain ⟨rfl, rfl, rfl⟩ := hp
    clear c3 c4 c5 hR
    go_quiet (fail)
    rename_i nq
    replace HS := HS.drewN nq
    generalize w1.drewN nq = w1 at HS ⊢
    clear b2 b3 o1
    go_wp2_with (first | ((with_reducible refine gate_load rfl ?_); first | refine ev_loadC HS rfl rfl rfl (by rfl) ?_ | refine ev_loadS HS rfl rfl rfl (by rfl) ?_) | ((with_reducible refine gate_put rfl ?_); (first | refine ev_storeC HS rfl rfl rfl rfl rfl (by rfl) (by rfl) ?_ | refine ev_storeS HS rfl rfl rfl rfl rfl (by rfl) (by rfl) (by rfl) ?_); clear HS; intro w1 HS))
    refine bodyPost_ret (results_ct rfl _ _ g4 33 #[.slice Ao0 l0_0.length co0, .slice (some ⟨b1, 0, none⟩) l0_1.length co1] (0, 0) _ rfl (HS.box g4) Tryd.underlying33 rfl (by kernel_rfl)) rfl ?_
    exact ⟨_, _, rfl, HS.out2 Ao0 (some ⟨b1, 0, none⟩) (by decide), HS.out2 (some ⟨b1, 0, none⟩) Ao0 (by decide), HS.below⟩
  have c5b : decide (rd l0_0 a1_0 < a1_2) = false := decide_eq_false c5
  go_quiet (fail)
  rename_i nq
  replace HS := HS.drewN nq
  generalize w1.drewN nq = w1 at HS ⊢
  clear b2 b3 o1
  obtain ⟨b0, rfl⟩ := HS.form Ao0 (by omega)
  go_upto_region 11 with (fail)
  have r0 := HS.cellI b0 a1_0 f0 f1
  have b3 := fun j => HS.cell g3 j
  have b6 := fun j => HS.cell g6 j
  go_still_tail 10, (by kernel_rfl)
  clear r0 b3 b6
  replace HS := HS.drew
  change wpList _ _ _ _ _ w1.drew
  generalize w1.drew = w1 at HS ⊢
  go_upto_region 12 with ((with_reducible refine gate_put rfl ?_); (first | refine ev_storeC HS rfl rfl rfl rfl rfl (by rfl) (by rfl) ?_ | refine ev_storeS HS rfl rfl rfl rfl rfl (by rfl) (by rfl) (by rfl) ?_ | refine ev_storeI HS rfl rfl rfl rfl rfl (by assumption) (by assumption) ?_); clear HS; intro w1 HS)
  try rw [wrapEq] at HS
  go_upto_region 12 with (fail)
  have r0 := HS.cellI b0 a1_1 t0 t1'
  have b3 := fun j => HS.cell g3 j
  have b6 := fun j => HS.cell g6 j
  go_still_tail 10, (by kernel_rfl)
  clear r0 b3 b6
  replace HS := HS.drew
  change wpList _ _ _ _ _ w1.drew
  generalize w1.drew = w1 at HS ⊢
  go_upto_region 13 with ((with_reducible refine gate_put rfl ?_); (first | refine ev_storeC HS rfl rfl rfl rfl rfl (by rfl) (by rfl) ?_ | refine ev_storeS HS rfl rfl rfl rfl rfl (by rfl) (by rfl) (by rfl) ?_ | refine ev_storeI HS rfl rfl rfl rfl rfl (by assumption) (by assumption) ?_); clear HS; intro w1 HS)
  try rw [wrapEq] at HS
  rcases b6 with _ | _
  · have hp := hR.out; unfold payF at hp; rw [if_neg c3, if_neg c4, if_neg c5] at hp; rw [if_neg (by decide)] at hp; simp only [Prod.mk.injEq] at hp; obtain ⟨rfl, rfl, rfl⟩ := hp
    clear c3 c4 c5 hR
    go_wp2_with (first | ((with_reducible refine gate_load rfl ?_); first | refine ev_loadC HS rfl rfl rfl (by rfl) ?_ | refine ev_loadS HS rfl rfl rfl (by rfl) ?_) | ((with_reducible refine gate_put rfl ?_); (first | refine ev_storeC HS rfl rfl rfl rfl rfl (by rfl) (by rfl) ?_ | refine ev_storeS HS rfl rfl rfl rfl rfl (by rfl) (by rfl) (by rfl) ?_); clear HS; intro w1 HS) | (go_at_call 37; refine (impl_copyLedger.calls _ _ _ _ _ _ _ _ _ (Kd.C_below hr0.out HS.below) hc0.out (Kd.C_below hr1.out HS.below) hc1.out hcp.out).mono ?_; rintro e w1 ⟨v0, v1, rfl, ho0, ho1, hb⟩; obtain ⟨Aq0, cq0, Aq1, cq1, rfl, rfl, HS1⟩ := HS.got2 hb ho0 ho1 (fun _ h => h); clear HS ho0 ho1 hb; have HS := HS1; clear HS1) | (go_at_call 45; refine (impl_Pay.lok _ _ _ (mvL l0_0 a1_0 a1_1 a1_2) _ _ _ (l0_1.set a1_0.toNat (wrap64 (a1_3 + 1))) _ _ _ (mvL_len _ _ _ _) (List.length_set ..).symm (HS.reads (some ⟨b0, 0, none⟩)) (HS.cap (some ⟨b0, 0, none⟩)) (HS.reads (some ⟨b1, 0, none⟩)) (HS.cap (some ⟨b1, 0, none⟩)) hk2.out).mono ?_; rintro e w1 ⟨rfl, hb⟩; have HS1 := HS.later hb; clear HS hb; have HS := HS1; clear HS1))
    refine bodyPost_ret (results_ct rfl _ _ g4 33 #[.slice Aq0 l0_0.length cq0, .slice Aq1 l0_1.length cq1] (0, 0) _ rfl (HS.box g4) Tryd.underlying33 rfl (by kernel_rfl)) rfl ?_
    exact ⟨_, _, rfl, HS.out2 Aq0 Aq1 (by decide), HS.out2 Aq1 Aq0 (by decide), HS.below⟩
  · have hp := hR.out; unfold payF at hp; rw [if_neg c3, if_neg c4, if_neg c5] at hp; rw [if_pos rfl] at hp; simp only [Prod.mk.injEq] at hp; obtain ⟨rfl, rfl, rfl⟩ := hp
    clear c3 c4 c5 hR
    go_wp2_with (first | ((with_reducible refine gate_load rfl ?_); first | refine ev_loadC HS rfl rfl rfl (by rfl) ?_ | refine ev_loadS HS rfl rfl rfl (by rfl) ?_) | ((with_reducible refine gate_put rfl ?_); (first | refine ev_storeC HS rfl rfl rfl rfl rfl (by rfl) (by rfl) ?_ | refine ev_storeS HS rfl rfl rfl rfl rfl (by rfl) (by rfl) (by rfl) ?_); clear HS; intro w1 HS) | (go_at_call 45; refine (impl_Pay.lok _ _ _ (mvL l0_0 a1_0 a1_1 a1_2) _ _ _ (l0_1.set a1_0.toNat (wrap64 (a1_3 + 1))) _ _ _ (mvL_len _ _ _ _) (List.length_set ..).symm (HS.reads (some ⟨b0, 0, none⟩)) (HS.cap (some ⟨b0, 0, none⟩)) (HS.reads (some ⟨b1, 0, none⟩)) (HS.cap (some ⟨b1, 0, none⟩)) hk2.out).mono ?_; rintro e w1 ⟨rfl, hb⟩; have HS1 := HS.later hb; clear HS hb; have HS := HS1; clear HS1))
    refine bodyPost_ret (results_ct rfl _ _ g4 33 #[.slice (some ⟨b0, 0, none⟩) l0_0.length co0, .slice (some ⟨b1, 0, none⟩) l0_1.length co1] (0, 0) _ rfl (HS.box g4) Tryd.underlying33 rfl (by kernel_rfl)) rfl ?_
    exact ⟨_, _, rfl, HS.out2 (some ⟨b0, 0, none⟩) (some ⟨b1, 0, none⟩) (by decide), HS.out2 (some ⟨b1, 0, none⟩) (some ⟨b0, 0, none⟩) (by decide), HS.below⟩
/-- Pay: what it comes to (rounds of its own it has none). -/
def impl_Pay.f (k : Nat) (l0_0 l0_1 : List Int) (a1_0 a1_1 a1_2 a1_3 : Int) : Option (List Int × List Int × Int) := if l0_0.length ≤ 1048576 ∧ l0_1.length ≤ 1048576 then some (payL l0_0 l0_1 a1_0 a1_1 a1_2 a1_3) else none
theorem impl_Pay.mono : ∀ a0 a1 a2 a3 a4 a5 k, LeO (impl_Pay.f k a0 a1 a2 a3 a4 a5) (impl_Pay.f (k + 1) a0 a1 a2 a3 a4 a5) := fun _ _ _ _ _ _ _ => LeO.refl _
theorem impl_Pay.calls (k : Nat) (A0_0 : Option Addr) (c0_0 : Nat) (l0_0 : List Int) (A0_1 : Option Addr) (c0_1 : Nat) (l0_1 : List Int) (a1_0 a1_1 a1_2 a1_3 : Int) (r1 r2 : List Int) (r3 : Int) (w : World) (hr0_0 : Kd.C (Kd.int .i64) w A0_0 l0_0.length l0_0) (hc0_0 : l0_0.length ≤ c0_0) (hr0_1 : Kd.C (Kd.int .i64) w A0_1 l0_1.length l0_1) (hc0_1 : l0_1.length ≤ c0_1) (h : impl_Pay.f k l0_0 l0_1 a1_0 a1_1 a1_2 a1_3 = some (r1, r2, r3)) :
    Calls Tryd.prog 29 #[.agg #[.slice A0_0 l0_0.length c0_0, .slice A0_1 l0_1.length c0_1], .agg #[.int .i64 a1_0, .int .i64 a1_1, .int .i64 a1_2, .int .i64 a1_3]] w fun e w' => ∃ v0_ v1_ : Value, e = .returned (.tuple #[.agg #[v0_, v1_], .int .i64 (r3)]) ∧ Kd.R (Kd.int .i64) 3 w' w.heap.size (fun k_ => some k_ ≠ (v1_ : Value).ownBlock) v0_ (r1) ∧ Kd.R (Kd.int .i64) 3 w' w.heap.size (fun k_ => some k_ ≠ (v0_ : Value).ownBlock) v1_ (r2) ∧ Below w.heap.size w w' := by
  unfold impl_Pay.f at h
  by_cases hb : l0_0.length ≤ 1048576 ∧ l0_1.length ≤ 1048576
  · rw [if_pos hb] at h
    replace h := Option.some.inj h
    obtain ⟨hz0, hz1⟩ := hb
    have hcp := Aside0.mk (impl_copyLedger_val l0_0 l0_1 hz0 hz1)
    obtain ⟨k1, hk⟩ := (impl_LedgerOk_ev l0_0 l0_1).rounds
    have hx := impl_TxOk_val a1_0 a1_1 a1_2 a1_3
    by_cases c1 : ledgerIs l0_0 l0_1 ∧ txIs a1_0 a1_1 a1_2 a1_3
    · obtain ⟨c1, c2⟩ := c1
      rw [decide_eq_true c1] at hk
      rw [decide_eq_true c2] at hx
      have l1 : l0_0.length = 4 := c1.1.1
      have l2 : l0_1.length = 4 := c1.1.2
      have f0 : 0 ≤ a1_0 := c2.1.1
      have f3 : a1_0 ≤ 3 := c2.1.2
      have t0 : 0 ≤ a1_1 := c2.2.1.1
      have t3 : a1_1 ≤ 3 := c2.2.1.2
      obtain ⟨k2, hk2⟩ := (impl_LedgerOk_ev (mvL l0_0 a1_0 a1_1 a1_2) (l0_1.set a1_0.toNat (wrap64 (a1_3 + 1)))).rounds
      obtain ⟨ad0, rfl, hx0⟩ := Kd.at_int hr0_0 a1_0 f0 (by omega)
      obtain ⟨ad1, rfl, hx1⟩ := Kd.at_int hr0_1 a1_0 f0 (by omega)
      have e : payF (decide (ledgerIs (mvL l0_0 a1_0 a1_1 a1_2) (l0_1.set a1_0.toNat (wrap64 (a1_3 + 1))))) l0_0 l0_1 a1_0 a1_1 a1_2 a1_3 = (r1, r2, r3) := by
        rw [← h]
        unfold payL
        rw [if_neg (fun z => z ⟨c1, c2⟩)]
        unfold payF
        by_cases c6 : ledgerIs (mvL l0_0 a1_0 a1_1 a1_2) (l0_1.set a1_0.toNat (wrap64 (a1_3 + 1))) <;> simp only [c6, decide_true, decide_false, if_true, if_false, Bool.false_eq_true]
      exact impl_Pay.fine k1 k2 ad0 ad1 c0_0 l0_0 c0_1 l0_1 a1_0 a1_1 a1_2 a1_3 w ⟨hr0_0⟩ ⟨hc0_0⟩ ⟨hr0_1⟩ ⟨hc0_1⟩ hcp ⟨hk⟩ ⟨hx⟩ ⟨hx0⟩ ⟨hx1⟩ f0 (by omega) (by omega) t0 (by omega) (by rw [List.length_set]; omega) _ ⟨hk2⟩ r1 r2 r3 ⟨e⟩
    · have hp : payL l0_0 l0_1 a1_0 a1_1 a1_2 a1_3 = (l0_0, l0_1, 1) := by unfold payL; rw [if_pos c1]
      rw [hp] at h
      simp only [Prod.mk.injEq] at h
      obtain ⟨rfl, rfl, rfl⟩ := h
      exact impl_Pay.bad k1 A0_0 c0_0 l0_0 A0_1 c0_1 l0_1 a1_0 a1_1 a1_2 a1_3 _ _ w ⟨hr0_0⟩ ⟨hc0_0⟩ ⟨hr0_1⟩ ⟨hc0_1⟩ hcp ⟨hk⟩ ⟨hx⟩ (by rw [Bool.and_eq_false_iff, decide_eq_false_iff_not, decide_eq_false_iff_not]; exact Classical.or_iff_not_imp_left.2 (fun c3 c4 => c1 ⟨Classical.not_not.1 c3, c4⟩))
  · rw [if_neg hb] at h
    cases h

/-! ### impl_PoolTake: function 9 -/
-- included poolsl.inc
section
open Go.Proofs.YtnlakfbbbnkcpaaDoorH
local instance i11_1 : AggT Tryd.prog 26 4 := ⟨by kernel_rfl, by kernel_rfl⟩
theorem rl_E {o : Oper} {a : Act} {w' : World} {x : Operand} {ad : Addr} {n : Nat} {xs : List S26} {j : Int} (hC : Kd.C k26 w' (some ad) n xs) (h0 : 0 ≤ j) (h1 : j < n) (ho : o.op = .load 26 x) (hx : a.eval x = .pointer (some (ad.add (j.toNat * 4)))) :
    (execOp a.eval o).run Tryd.prog w' = .ok (.value (.agg #[.int .i64 (rd_T26 xs j).f0, .int .i64 (rd_T26 xs j).f1, .int .i64 (rd_T26 xs j).f2, .int .i64 (rd_T26 xs j).f3])) w' := by
  obtain ⟨ad', e, c0, c1, c2, c3⟩ := at_T26 hC j h0 h1
  obtain rfl := Option.some.inj e
  obtain ⟨d, hu, hd⟩ := Option.map_eq_some_iff.1 (AggT.agg (P := Tryd.prog) (t := 26) (n := 4))
  obtain ⟨i, hi, hi4⟩ := Option.map_eq_some_iff.1 (AggT.size (P := Tryd.prog) (t := 26) (n := 4))
  have hl := run_loadCells_list (P := Tryd.prog) w' (ad.add (j.toNat * 4)) [.int .i64 (rd_T26 xs j).f0, .int .i64 (rd_T26 xs j).f1, .int .i64 (rd_T26 xs j).f2, .int .i64 (rd_T26 xs j).f3] (fun q v hq => by
    rcases q with _ | _ | _ | _ | q
    · obtain rfl := Option.some.inj hq; rw [show (ad.add (j.toNat * 4)).add 0 = ad.add (j.toNat * 4) from by rw [add_add]; rfl]; exact c0
    · obtain rfl := Option.some.inj hq; rw [add_add, add_field _ _ 1 (by omega)]; exact c1
    · obtain rfl := Option.some.inj hq; rw [add_add, add_field _ _ 2 (by omega)]; exact c2
    · obtain rfl := Option.some.inj hq; rw [add_add, add_field _ _ 3 (by omega)]; exact c3
    · simp at hq)
  have hagg : (isAgg 26).run Tryd.prog w' = .ok true w' := by
    unfold isAgg
    rw [Sem.run_bind, run_underlying hu w']
    cases d <;> simp_all
  have hl : (loadCells (ad.add (j.toNat * 4)) 4).run Tryd.prog w' = _ := hl
  unfold execOp
  simp [ho, hx, Instr.loadAt, Instr.sureAddr, loadVar, Sem.run_bind, hagg, sizeOf, typeInfo, hi, hi4, hl, Result.andThen]
section
variable {P : Program} {ops : Array Oper} {rest : List Oper} {a : Act} {Q : Exit → Act → World → Prop} {w0 W : World} {L : List Pc}
theorem ev_loadE {o : Oper} {x : Operand} {ad : Addr} {n : Nat} {xs : List S26} {j : Int} (hC : Kd.C k26 W (some ad) n xs) (h0 : 0 ≤ j) (h1 : j < n) (ho : o.op = .load 26 x) (hw : Region.wanted o (yielded ops a.tmps) = true) (hx : a.eval x = .pointer (some (ad.add (j.toNat * 4))))
    (h : wpList Tryd.prog ops Q rest (a.put o.dst (.agg #[.int .i64 (rd_T26 xs j).f0, .int .i64 (rd_T26 xs j).f1, .int .i64 (rd_T26 xs j).f2, .int .i64 (rd_T26 xs j).f3])) W) : wpList Tryd.prog ops Q (o :: rest) a W := ev_val hw (rl_E hC h0 h1 ho hx) h
theorem SS_nilRow {w : World} {α : Type} (d : Kd α) (e : Nat) (HS : SS w0 w L) : SS w0 w (row d e (.slice none 0 0) [] :: L) :=
  HS.push (Below.refl _ _) _ (G := fun _ => False) ⟨Kd.R_nil _ _ _ _ _, fun _ h => h.elim⟩ (fun _ h => h.elim)
theorem ev_b0 {α : Type} (d : Kd α) {e : Nat} {o : Oper} (HS : SS w0 W L) {t : TypeId} (ho : o.op = .buildSlice t 0 #[]) (hw : Region.wanted o (yielded ops a.tmps) = true)
    (hrun : (Instr.buildSlice t 0 #[]).run P W = .ok (.slice (some ⟨W.heap.size, 0, none⟩) 0 0) (W.alloc (.cells #[] e (0, 0))))
    (h : ∀ g w1, SS w0 w1 (row d e (.slice (some ⟨g, 0, none⟩) 0 0) [] :: L) → wpList P ops Q rest (a.put o.dst (.slice (some ⟨g, 0, none⟩) 0 0)) w1) : wpList P ops Q (o :: rest) a W := by
  refine ev_val hw (w1 := W.alloc (.cells #[] e (0, 0))) ?_ (h _ _ (HS.push (below_alloc (Below.refl _ _) _) (row d e (.slice (some ⟨W.heap.size, 0, none⟩) 0 0) []) (G := fun k => k = W.heap.size) ⟨⟨fun k hk => by simpa [Value.ownBlock] using hk.symm, [], ⟨by simp, .inr ⟨W.heap.size, 0, #[], rfl, HS.below.size, blk_new _ _, Nat.le_refl _, Nat.zero_le _, by simp, by simp⟩⟩, Reps.none _ _⟩, fun k hk => by rw [hk]; simp⟩ (fun k hk => Nat.le_of_eq hk.symm)))
  unfold execOp
  simp only [ho, Sem.run_bind, Array.map_empty, hrun, Result.andThen_ok, Sem.run_pure]
/-- []T{x} and append(s, that): s a row of the call's own, its elements flat. -/
theorem ev_bapp {α : Type} {d : Kd α} (HS : SS w0 W L) (A : Option Addr) {e n c i : Nat} {xs ys : List α} {put : Value → List α → List Pc} [hR : RowIn L A i d e n c xs put] {o1 o2 : Oper} {t : TypeId} {N : Tmp} {zs : Array (Nat × Operand)} {s : Operand} {z : Value} {bytes : Nat} {p : α} {cs : List Value}
    (hE : d.E = []) (ho1 : o1.op = .buildSlice t 1 zs) (hd1 : o1.dst = some N) (hw1 : Region.wanted o1 (yielded ops a.tmps) = true)
    (hrun : (Instr.buildSlice t 1 (zs.map fun (i, x) => (i, a.eval x))).run P W = .ok (.slice (some ⟨W.heap.size, 0, none⟩) 1 1) (W.alloc (.cells cs.toArray e (0, 0))))
    (hg2 : o2.guard = none) (ho2 : o2.op = .call { callee := .builtin .append, args := #[s, .tmp N], argTypes := #[t, t] }) (hx : (a.put (some N) (.slice (some ⟨W.heap.size, 0, none⟩) 1 1)).eval (.tmp N) = .slice (some ⟨W.heap.size, 0, none⟩) 1 1) (hs : ∀ u, (a.put (some N) u).eval s = .slice A n c)
    (ht : P.underlying t = some (.slice e)) (hinfo : (P.info? e).map (fun i => (i.zero, i.size, i.bytes)) = some (some z, d.sz, bytes)) (hz : z.cells.size = d.sz) (hs0 : 0 < d.sz) (hb0 : 0 < bytes) (hp : ∀ W, d.M W w0.heap.size (fun _ => False) p cs) (hl : (xs.length + 1) * bytes ≤ 140737488355328) (hy : xs ++ [p] = ys)
    (h : ∀ A' c' g w1, SS w0 w1 (put (.slice A' ys.length c') ys) → wpList P ops Q rest ((a.put o1.dst (.slice (some ⟨g, 0, none⟩) 1 1)).put o2.dst (.slice A' ys.length c')) w1) : wpList P ops Q (o1 :: o2 :: rest) a W := by
  subst hy
  obtain ⟨hn, _, _⟩ := HS.rows A
  obtain ⟨h1, h2⟩ := hR.at_
  have hR0 := HS.out1 A
  refine ev_val hw1 (v := .slice (some ⟨W.heap.size, 0, none⟩) 1 1) (w1 := W.alloc (.cells cs.toArray e (0, 0))) (by unfold execOp; simp only [ho1, Sem.run_bind, hrun, Result.andThen_ok, Sem.run_pure]) ?_
  rw [hd1]
  refine Kd.R_append d (w0 := w0) (W := W) w0.heap.size hg2 s (.tmp N) t e z bytes ho2 ht hinfo hz hs0 hb0 (.slice A n c) xs p cs (fun _ => True) (fun _ => False) (hs _) hx (hp _) (fun _ h => h.elim) (fun _ _ => trivial) hR0 HS.below HS.below.size hl ?_
  intro v1 w1 r1 hb1 hg1 hat
  obtain ⟨A', c', rfl⟩ := Kd.R_slice r1
  rw [← hd1]
  refine h A' c' _ w1 (HS.turn i h1 (h2 _ _).1 (h2 _ _).2 hg1.size ⟨hg1.os, hg1.tape, hg1.output⟩ (fun F hF hFb => ⟨fun k hk hnF => hg1.block k hk (fun e' => hnF (hF.1.1 k e'.symm)), _, flat_own hE (Nat.le_refl _) r1, fun k hk => ?_⟩))
  rcases hat with hat | ⟨b, hb, hle⟩
  · exact .inl (hF.1.1 k (hat ▸ hk))
  · rw [hb] at hk
    obtain rfl := Option.some.inj hk
    exact .inr hle
end
end
-- included pooltk.inc
-- included taketx.inc
-- included paytx.inc
def payS (h n : List Int) (x : S26) : List Int × List Int × Int := payL h n x.f0 x.f1 x.f2 x.f3
def dropS (h n : List Int) (l : List S26) : List S26 := l.filter fun x => decide ((payS h n x).2.2 ≠ 2)
-- included pool.inc
-- included tx.inc
def txOkS (x : S26) : Prop := txIs x.f0 x.f1 x.f2 x.f3
instance (x : S26) : Decidable (txOkS x) := by unfold txOkS; infer_instance
theorem rdT_nat (xs : List S26) (n : Nat) (h : n < xs.length) : rd_T26 xs (n : Int) = xs[n] := by
  unfold rd_T26; simp [List.getD_eq_getElem?_getD, h]
def beforeS (a b : S26) : Prop := a.f0 < b.f0 ∨ (a.f0 = b.f0 ∧ a.f3 < b.f3)
instance (a b : S26) : Decidable (beforeS a b) := by unfold beforeS; infer_instance
def poolAt (p : List S26) (j : Nat) : Prop := txOkS (p.getD j z26) ∧ (0 < j → beforeS (p.getD (j - 1) z26) (p.getD j z26))
def poolFrom (p : List S26) (i : Nat) : Prop := ∀ j, i ≤ j → j < p.length → poolAt p j
def poolIs (p : List S26) : Prop := poolFrom p 0 ∧ p.length ≤ 12
theorem poolFrom_step {p : List S26} {i : Nat} (h : i < p.length) : poolFrom p i ↔ poolAt p i ∧ poolFrom p (i + 1) := by
  refine ⟨fun H => ⟨H i (Nat.le_refl _) h, fun j hj => H j (by omega)⟩, fun H j hj hl => ?_⟩
  rcases Nat.eq_or_lt_of_le hj with rfl | hj
  · exact H.1
  · exact H.2 j (by omega) hl
theorem poolFrom_end {p : List S26} : poolFrom p p.length := fun j h1 h2 => absurd h2 (by omega)
theorem getD_at {p : List S26} {i : Nat} (h : i < p.length) : p.getD i z26 = p[i] := by simp [List.getD_eq_getElem?_getD, h]
-- included paidlen.inc
theorem paid_len (h n : List Int) (f t a m : Int) : (payL h n f t a m).1.length = h.length ∧ (payL h n f t a m).2.1.length = n.length := by
  unfold payL
  repeat' split
  all_goals first | exact ⟨rfl, rfl⟩ | exact ⟨rfl, by simp⟩ | exact ⟨by simp [mvL], by simp⟩
theorem paid_same (h n : List Int) (f t a m : Int) (h0 : (payL h n f t a m).2.2 ≠ 0) (h4 : (payL h n f t a m).2.2 ≠ 4) : (payL h n f t a m).1 = h ∧ (payL h n f t a m).2.1 = n := by
  unfold payL at *
  repeat' split
  all_goals first | exact ⟨rfl, rfl⟩ | (simp_all)
/-- What is taken behind what lies in acc. -/
def takeS (h n : List Int) (acc : List S26) : List S26 → List S26
  | [] => acc
  | x :: l => if 2 ≤ acc.length then acc else if (payS h n x).2.2 = 0 ∨ (payS h n x).2.2 = 4 then takeS (payS h n x).1 (payS h n x).2.1 (acc ++ [x]) l else takeS h n acc l
theorem takeS_le : ∀ (h n : List Int) (l acc : List S26), (takeS h n acc l).length ≤ acc.length + l.length
  | _, _, [], acc => by simp [takeS]
  | h, n, x :: l, acc => by
    unfold takeS
    split
    · simp
    · split
      · have := takeS_le (payS h n x).1 (payS h n x).2.1 l (acc ++ [x]); simp at this ⊢; omega
      · have := takeS_le h n l acc; simp; omega
theorem drop_at (p : List S26) (j : Int) (j0 : 0 ≤ j) (hlt : j < (p.length : Int)) : p.drop j.toNat = rd_T26 p j :: p.drop (j + 1).toNat := by
  have h1 : j.toNat < p.length := by omega
  rw [List.drop_eq_getElem_cons h1, show (j + 1).toNat = j.toNat + 1 by omega]
  unfold rd_T26
  rw [List.getD_eq_getElem?_getD, List.getElem?_eq_getElem h1]
  rfl
theorem take_at (hh nn : List Int) (acc p : List S26) (j : Int) (j0 : 0 ≤ j) (hlt : j < (p.length : Int)) : (2 ≤ acc.length → takeS hh nn acc (p.drop j.toNat) = acc) ∧ (acc.length < 2 → takeS hh nn acc (p.drop j.toNat) = if (payL hh nn (rd_T26 p j).f0 (rd_T26 p j).f1 (rd_T26 p j).f2 (rd_T26 p j).f3).2.2 = 0 ∨ (payL hh nn (rd_T26 p j).f0 (rd_T26 p j).f1 (rd_T26 p j).f2 (rd_T26 p j).f3).2.2 = 4 then takeS (payL hh nn (rd_T26 p j).f0 (rd_T26 p j).f1 (rd_T26 p j).f2 (rd_T26 p j).f3).1 (payL hh nn (rd_T26 p j).f0 (rd_T26 p j).f1 (rd_T26 p j).f2 (rd_T26 p j).f3).2.1 (acc ++ [rd_T26 p j]) (p.drop (j + 1).toNat) else takeS hh nn acc (p.drop (j + 1).toNat)) := by
  rw [drop_at p j j0 hlt]
  refine ⟨fun h => ?_, fun h => ?_⟩
  · unfold takeS; rw [if_pos h]
  · conv => lhs; unfold takeS
    rw [if_neg (by omega)]
    rfl
theorem take_end (hh nn : List Int) (acc p : List S26) (j : Int) (hj : (p.length : Int) ≤ j) : takeS hh nn acc (p.drop j.toNat) = acc := by
  rw [List.drop_of_length_le (by omega)]; unfold takeS; rfl
theorem dropS_at (h n : List Int) (acc p : List S26) (j : Int) (j0 : 0 ≤ j) (hlt : j < (p.length : Int)) : acc ++ dropS h n (p.drop j.toNat) = if (payL h n (rd_T26 p j).f0 (rd_T26 p j).f1 (rd_T26 p j).f2 (rd_T26 p j).f3).2.2 = 2 then acc ++ dropS h n (p.drop (j + 1).toNat) else (acc ++ [rd_T26 p j]) ++ dropS h n (p.drop (j + 1).toNat) := by
  rw [drop_at p j j0 hlt]
  unfold dropS
  split
  · rename_i c
    have q : decide ((payS h n (rd_T26 p j)).2.2 ≠ 2) = false := decide_eq_false (fun z => z c)
    simp only [List.filter_cons, q, Bool.false_eq_true, ↓reduceIte]
  · rename_i c
    have q : decide ((payS h n (rd_T26 p j)).2.2 ≠ 2) = true := decide_eq_true c
    simp only [List.filter_cons, q, ↓reduceIte, List.append_assoc, List.singleton_append]
theorem dropS_end (h n : List Int) (acc p : List S26) (j : Int) (hj : (p.length : Int) ≤ j) : acc ++ dropS h n (p.drop j.toNat) = acc := by
  rw [List.drop_of_length_le (by omega)]; simp [dropS]
section
open Go.Proofs.YtnlakfbbbnkcpaaDoorH
local instance i11_2 : AggT Tryd.prog 26 4 := ⟨by kernel_rfl, by kernel_rfl⟩
local instance i11_3 : ZeroT Tryd.prog 26 #[.int .i64 0, .int .i64 0, .int .i64 0, .int .i64 0] := ⟨by kernel_rfl⟩
local instance i11_4 : ZeroT Tryd.prog 33 #[.slice none 0 0, .slice none 0 0] := ⟨by kernel_rfl⟩
local instance i11_5 : AggT Tryd.prog 33 2 := ⟨by kernel_rfl, by kernel_rfl⟩
set_option maxHeartbeats 8000000 in
set_option maxRecDepth 100000 in
theorem impl_PoolTake.go (A0 : Option Addr) (c0 : Nat) (p : List S26) (A1 : Option Addr) (c1 : Nat) (h : List Int) (A2 : Option Addr) (c2 : Nat) (n : List Int) (w : World) (hr0 : Aside0 (Kd.C k26 w A0 p.length p)) (hc0 : Aside0 (p.length ≤ c0)) (hr1 : Aside0 (Kd.C (Kd.int .i64) w A1 h.length h)) (hc1 : Aside0 (h.length ≤ c1)) (hr2 : Aside0 (Kd.C (Kd.int .i64) w A2 n.length n)) (hc2 : Aside0 (n.length ≤ c2)) (b0 : p.length ≤ 1048576) (b1 : h.length ≤ 1048576) (b2 : n.length ≤ 1048576) :
    Calls Tryd.prog 9 #[.slice A0 p.length c0, .agg #[.slice A1 h.length c1, .slice A2 n.length c2]] w fun e w' => ∃ v0_ : Value, e = .returned v0_ ∧ Kd.R k26 26 w' w.heap.size (fun _ => True) v0_ (takeS h n [] p) ∧ Below w.heap.size w w' := by
  have HS := SS.nil w
  go_enter Tryd.func9, Tryd.ntmps9
  go_wp2_with (first | ((with_reducible refine gate_dst (N := 3) rfl ?_); refine ev_box HS (cs := #[.slice A1 h.length c1, .slice A2 n.length c2]) rfl rfl rfl ?_; clear HS; intro g3 w1 HS))
  go_loopw [5, 12] (fun u5 u7 wr => ∃ (j : Int) (acc : List S26) (AO : Option Addr) (cO : Nat), 0 ≤ j ∧ j ≤ (p.length : Int) ∧ u5 = .slice AO acc.length cO ∧ u7 = .int .i64 j ∧ acc.length ≤ 2 ∧ (Aside0 (takeS h n acc (p.drop j.toNat) = takeS h n [] p ∧ SS w wr [box g3 #[.slice A1 h.length c1, .slice A2 n.length c2] 33, row k26 26 (.slice AO acc.length cO) acc]) ∨ ∃ (hh nn : List Int) (AH : Option Addr) (cH : Nat) (AN : Option Addr) (cN : Nat), hh.length ≤ 1048576 ∧ nn.length ≤ 1048576 ∧ Aside0 (takeS hh nn acc (p.drop j.toNat) = takeS h n [] p) ∧ SS w wr [box g3 #[.slice AH hh.length cH, .slice AN nn.length cN] 33, row (Kd.int .i64) 3 (.slice AH hh.length cH) hh, row (Kd.int .i64) 3 (.slice AN nn.length cN) nn, row k26 26 (.slice AO acc.length cO) acc])) (fun u5 u7 wr => p.length - (intOf u7).toNat)
  case atStart => exact ⟨0, [], _, _, by omega, by omega, rfl, rfl, by simp, .inl ⟨⟨rfl, ((SS_nilRow k26 26 HS).perm [1, 0] (by decide))⟩⟩⟩
  case round =>
    clear HS
    obtain ⟨j, acc, AO, cO, j0, j1, rfl, rfl, ba, HV⟩ := hrel
    by_cases hlt : j < (p.length : Int)
    · obtain ⟨ad, rfl, _⟩ := at_T26 hr0.out j j0 hlt
      rcases HV with HV | ⟨hh, nn, AH, cH, AN, cN, bh, bn, HT, HS⟩
      · obtain ⟨HT, HS⟩ := HV.out
        clear HV
        have HT := Aside0.mk HT
        have bh := b1
        have bn := b2
        have hst := Aside0.mk (take_at h n acc p j j0 hlt)
        by_cases hac : acc.length = 2
        · have he := Aside0.mk (HT.out.symm.trans (hst.out.1 (by omega)))
          have hac' : ((acc.length : Int) == 2) = true := beq_iff_eq.mpr (by omega)
          have HAC := Aside0.mk hac
          clear hac
          go_wp2_with (first | ((with_reducible refine gate_dst (N := 15) rfl ?_); refine ev_loadE (Kd.C_below hr0.out HS.below) j0 hlt rfl rfl rfl ?_) | ((with_reducible refine gate_dst (N := 7) rfl ?_); refine ev_alloc HS rfl rfl ?_; clear HS; intro g7 w1 HS) | ((with_reducible refine gate_put rfl ?_); (first | refine ev_storeC HS rfl rfl rfl rfl rfl (by rfl) (by rfl) ?_ | refine ev_storeS HS rfl rfl rfl rfl rfl (by rfl) (by rfl) (by rfl) ?_); clear HS; intro w1 HS))
          go_ret
          exact ⟨_, rfl, by rw [he.out]; exact HS.out1 AO, HS.below⟩
        · have hac' : ((acc.length : Int) == 2) = false := beq_eq_false_iff_ne.mpr (by omega)
          obtain ⟨rh, rn, rc, hq⟩ : ∃ x y z, payL h n ((rd_T26 p j).f0) ((rd_T26 p j).f1) ((rd_T26 p j).f2) ((rd_T26 p j).f3) = (x, y, z) := ⟨_, _, _, rfl⟩
          have hp : Aside0 (impl_Pay.f 0 h n ((rd_T26 p j).f0) ((rd_T26 p j).f1) ((rd_T26 p j).f2) ((rd_T26 p j).f3) = some (rh, rn, rc)) := ⟨by unfold impl_Pay.f; rw [if_pos ⟨bh, bn⟩, hq]⟩
          obtain ⟨lh, ln⟩ := paid_len h n ((rd_T26 p j).f0) ((rd_T26 p j).f1) ((rd_T26 p j).f2) ((rd_T26 p j).f3)
          have psm := paid_same h n ((rd_T26 p j).f0) ((rd_T26 p j).f1) ((rd_T26 p j).f2) ((rd_T26 p j).f3)
          have hst2 := hst.out.2 (by omega)
          rw [hq] at hst2 lh ln psm
          simp only at hst2 lh ln psm
          have LH := Aside0.mk lh
          have LN := Aside0.mk ln
          have PS := Aside0.mk psm
          have HU := Aside0.mk (HT.out.symm.trans hst2)
          clear hst hst2 hq HT lh ln psm
          by_cases d0 : rc = 0
          · subst d0
            obtain ⟨ya, hya⟩ : ∃ ya, Aside0 (acc ++ [rd_T26 p j] = ya) := ⟨_, ⟨rfl⟩⟩
            have hyl : Aside0 (ya.length = acc.length + 1) := ⟨by rw [← hya.out]; simp⟩
            have HU2 := Aside0.mk (HU.out.trans (if_pos (.inl rfl)))
            clear HU
            go_wp2_with (first | ((with_reducible refine gate_dst (N := 15) rfl ?_); refine ev_loadE (Kd.C_below hr0.out HS.below) j0 hlt rfl rfl rfl ?_) | ((with_reducible refine gate_dst (N := 7) rfl ?_); refine ev_alloc HS rfl rfl ?_; clear HS; intro g7 w1 HS) | ((with_reducible refine gate_put rfl ?_); (first | refine ev_storeC HS rfl rfl rfl rfl rfl (by rfl) (by rfl) ?_ | refine ev_storeS HS rfl rfl rfl rfl rfl (by rfl) (by rfl) (by rfl) ?_); clear HS; intro w1 HS) | ((with_reducible refine gate_load rfl ?_); first | refine ev_loadC HS rfl rfl rfl (by rfl) ?_ | refine ev_loadS HS rfl rfl rfl (by rfl) ?_) | ((with_reducible refine gate_dst (N := 22) rfl ?_); refine ev_call (some 22) rfl rfl Tryd.func29 (by kernel_rfl) rfl rfl (by simp only [List.map_toArray, List.map_cons, List.map_nil]; rfl) ?_; refine (HS.get2 rfl rfl (impl_Pay.calls (w := _) (hr0_0 := Kd.C_below hr1.out HS.below) (hc0_0 := hc1.out) (hr0_1 := Kd.C_below hr2.out HS.below) (hc0_1 := hc2.out) (h := hp.out))).mono ?_; clear HS; rintro e w1 ⟨A22, c22, B22, d22, rfl, HS⟩; refine ⟨_, rfl, ?_⟩) | ((with_reducible refine gate_dst (N := 8) rfl ?_); refine ev_alloc HS rfl rfl ?_; clear HS; intro g8 w1 HS) | ((with_reducible refine gate_dst (N := 34) rfl ?_); refine ev_bapp HS AO (cs := [.int .i64 (rd_T26 p j).f0, .int .i64 (rd_T26 p j).f1, .int .i64 (rd_T26 p j).f2, .int .i64 (rd_T26 p j).f3]) (p := (rd_T26 p j)) (ys := ya) (z := .agg #[.int .i64 0, .int .i64 0, .int .i64 0, .int .i64 0]) (bytes := 32) rfl rfl rfl rfl (by kernel_rfl) rfl rfl rfl (fun _ => rfl) Tryd.underlying24 (by kernel_rfl) rfl (by decide) (by decide) (fun W => k26_mkM W _ _ _) (by omega) hya.out ?_; clear HS; intro A35 c35 g35 w1 HS))
            go_roundw
            case rel => exact ⟨j + 1, ya, _, _, by omega, by omega, rfl, by first | rfl | go_num, by have := hyl.out; omega, .inr ⟨rh, rn, _, _, _, _, by have := LH.out; omega, by have := LN.out; omega, ⟨by rw [HU2.out, hya.out]⟩, (HS.perm [4, 1, 2, 5] (by decide))⟩⟩
            case measure => first | (simp [intOf]; omega) | (rw [show wrap64 (j + 1) = j + 1 from by unfold wrap64; omega]; simp [intOf]; omega)
          · have e0 : (rc == 0) = false := beq_eq_false_iff_ne.mpr d0
            by_cases d4 : rc = 4
            · subst d4
              obtain ⟨ya, hya⟩ : ∃ ya, Aside0 (acc ++ [rd_T26 p j] = ya) := ⟨_, ⟨rfl⟩⟩
              have hyl : Aside0 (ya.length = acc.length + 1) := ⟨by rw [← hya.out]; simp⟩
              have HU2 := Aside0.mk (HU.out.trans (if_pos (.inr rfl)))
              clear HU
              go_wp2_with (first | ((with_reducible refine gate_dst (N := 15) rfl ?_); refine ev_loadE (Kd.C_below hr0.out HS.below) j0 hlt rfl rfl rfl ?_) | ((with_reducible refine gate_dst (N := 7) rfl ?_); refine ev_alloc HS rfl rfl ?_; clear HS; intro g7 w1 HS) | ((with_reducible refine gate_put rfl ?_); (first | refine ev_storeC HS rfl rfl rfl rfl rfl (by rfl) (by rfl) ?_ | refine ev_storeS HS rfl rfl rfl rfl rfl (by rfl) (by rfl) (by rfl) ?_); clear HS; intro w1 HS) | ((with_reducible refine gate_load rfl ?_); first | refine ev_loadC HS rfl rfl rfl (by rfl) ?_ | refine ev_loadS HS rfl rfl rfl (by rfl) ?_) | ((with_reducible refine gate_dst (N := 22) rfl ?_); refine ev_call (some 22) rfl rfl Tryd.func29 (by kernel_rfl) rfl rfl (by simp only [List.map_toArray, List.map_cons, List.map_nil]; rfl) ?_; refine (HS.get2 rfl rfl (impl_Pay.calls (w := _) (hr0_0 := Kd.C_below hr1.out HS.below) (hc0_0 := hc1.out) (hr0_1 := Kd.C_below hr2.out HS.below) (hc0_1 := hc2.out) (h := hp.out))).mono ?_; clear HS; rintro e w1 ⟨A22, c22, B22, d22, rfl, HS⟩; refine ⟨_, rfl, ?_⟩) | ((with_reducible refine gate_dst (N := 8) rfl ?_); refine ev_alloc HS rfl rfl ?_; clear HS; intro g8 w1 HS) | ((with_reducible refine gate_dst (N := 34) rfl ?_); refine ev_bapp HS AO (cs := [.int .i64 (rd_T26 p j).f0, .int .i64 (rd_T26 p j).f1, .int .i64 (rd_T26 p j).f2, .int .i64 (rd_T26 p j).f3]) (p := (rd_T26 p j)) (ys := ya) (z := .agg #[.int .i64 0, .int .i64 0, .int .i64 0, .int .i64 0]) (bytes := 32) rfl rfl rfl rfl (by kernel_rfl) rfl rfl rfl (fun _ => rfl) Tryd.underlying24 (by kernel_rfl) rfl (by decide) (by decide) (fun W => k26_mkM W _ _ _) (by omega) hya.out ?_; clear HS; intro A35 c35 g35 w1 HS))
              go_roundw
              case rel => exact ⟨j + 1, ya, _, _, by omega, by omega, rfl, by first | rfl | go_num, by have := hyl.out; omega, .inr ⟨rh, rn, _, _, _, _, by have := LH.out; omega, by have := LN.out; omega, ⟨by rw [HU2.out, hya.out]⟩, (HS.perm [4, 1, 2, 5] (by decide))⟩⟩
              case measure => first | (simp [intOf]; omega) | (rw [show wrap64 (j + 1) = j + 1 from by unfold wrap64; omega]; simp [intOf]; omega)
            · have e4 : (rc == 4) = false := beq_eq_false_iff_ne.mpr d4
              have HU2 := Aside0.mk (HU.out.trans (if_neg (fun z => z.elim d0 d4)))
              obtain ⟨s1, s2⟩ := PS.out d0 d4
              have S1 := Aside0.mk s1
              have S2 := Aside0.mk s2
              clear HU s1 s2
              go_wp2_with (first | ((with_reducible refine gate_dst (N := 15) rfl ?_); refine ev_loadE (Kd.C_below hr0.out HS.below) j0 hlt rfl rfl rfl ?_) | ((with_reducible refine gate_dst (N := 7) rfl ?_); refine ev_alloc HS rfl rfl ?_; clear HS; intro g7 w1 HS) | ((with_reducible refine gate_put rfl ?_); (first | refine ev_storeC HS rfl rfl rfl rfl rfl (by rfl) (by rfl) ?_ | refine ev_storeS HS rfl rfl rfl rfl rfl (by rfl) (by rfl) (by rfl) ?_); clear HS; intro w1 HS) | ((with_reducible refine gate_load rfl ?_); first | refine ev_loadC HS rfl rfl rfl (by rfl) ?_ | refine ev_loadS HS rfl rfl rfl (by rfl) ?_) | ((with_reducible refine gate_dst (N := 22) rfl ?_); refine ev_call (some 22) rfl rfl Tryd.func29 (by kernel_rfl) rfl rfl (by simp only [List.map_toArray, List.map_cons, List.map_nil]; rfl) ?_; refine (HS.get2 rfl rfl (impl_Pay.calls (w := _) (hr0_0 := Kd.C_below hr1.out HS.below) (hc0_0 := hc1.out) (hr0_1 := Kd.C_below hr2.out HS.below) (hc0_1 := hc2.out) (h := hp.out))).mono ?_; clear HS; rintro e w1 ⟨A22, c22, B22, d22, rfl, HS⟩; refine ⟨_, rfl, ?_⟩) | ((with_reducible refine gate_dst (N := 8) rfl ?_); refine ev_alloc HS rfl rfl ?_; clear HS; intro g8 w1 HS))
              go_roundw
              case rel => exact ⟨j + 1, acc, _, _, by omega, by omega, rfl, by first | rfl | go_num, ba, .inr ⟨rh, rn, _, _, _, _, by have := LH.out; omega, by have := LN.out; omega, ⟨by rw [S1.out, S2.out]; exact HU2.out.symm⟩, (HS.perm [4, 1, 2, 5] (by decide))⟩⟩
              case measure => first | (simp [intOf]; omega) | (rw [show wrap64 (j + 1) = j + 1 from by unfold wrap64; omega]; simp [intOf]; omega)
      · have hst := Aside0.mk (take_at hh nn acc p j j0 hlt)
        by_cases hac : acc.length = 2
        · have he := Aside0.mk (HT.out.symm.trans (hst.out.1 (by omega)))
          have hac' : ((acc.length : Int) == 2) = true := beq_iff_eq.mpr (by omega)
          have HAC := Aside0.mk hac
          clear hac
          go_wp2_with (first | ((with_reducible refine gate_dst (N := 15) rfl ?_); refine ev_loadE (Kd.C_below hr0.out HS.below) j0 hlt rfl rfl rfl ?_) | ((with_reducible refine gate_dst (N := 7) rfl ?_); refine ev_alloc HS rfl rfl ?_; clear HS; intro g7 w1 HS) | ((with_reducible refine gate_put rfl ?_); (first | refine ev_storeC HS rfl rfl rfl rfl rfl (by rfl) (by rfl) ?_ | refine ev_storeS HS rfl rfl rfl rfl rfl (by rfl) (by rfl) (by rfl) ?_); clear HS; intro w1 HS))
          go_ret
          exact ⟨_, rfl, by rw [he.out]; exact HS.out1 AO, HS.below⟩
        · have hac' : ((acc.length : Int) == 2) = false := beq_eq_false_iff_ne.mpr (by omega)
          obtain ⟨rh, rn, rc, hq⟩ : ∃ x y z, payL hh nn ((rd_T26 p j).f0) ((rd_T26 p j).f1) ((rd_T26 p j).f2) ((rd_T26 p j).f3) = (x, y, z) := ⟨_, _, _, rfl⟩
          have hp : Aside0 (impl_Pay.f 0 hh nn ((rd_T26 p j).f0) ((rd_T26 p j).f1) ((rd_T26 p j).f2) ((rd_T26 p j).f3) = some (rh, rn, rc)) := ⟨by unfold impl_Pay.f; rw [if_pos ⟨bh, bn⟩, hq]⟩
          obtain ⟨lh, ln⟩ := paid_len hh nn ((rd_T26 p j).f0) ((rd_T26 p j).f1) ((rd_T26 p j).f2) ((rd_T26 p j).f3)
          have psm := paid_same hh nn ((rd_T26 p j).f0) ((rd_T26 p j).f1) ((rd_T26 p j).f2) ((rd_T26 p j).f3)
          have hst2 := hst.out.2 (by omega)
          rw [hq] at hst2 lh ln psm
          simp only at hst2 lh ln psm
          have LH := Aside0.mk lh
          have LN := Aside0.mk ln
          have PS := Aside0.mk psm
          have HU := Aside0.mk (HT.out.symm.trans hst2)
          clear hst hst2 hq HT lh ln psm
          by_cases d0 : rc = 0
          · subst d0
            obtain ⟨ya, hya⟩ : ∃ ya, Aside0 (acc ++ [rd_T26 p j] = ya) := ⟨_, ⟨rfl⟩⟩
            have hyl : Aside0 (ya.length = acc.length + 1) := ⟨by rw [← hya.out]; simp⟩
            have HU2 := Aside0.mk (HU.out.trans (if_pos (.inl rfl)))
            clear HU
            go_wp2_with (first | ((with_reducible refine gate_dst (N := 15) rfl ?_); refine ev_loadE (Kd.C_below hr0.out HS.below) j0 hlt rfl rfl rfl ?_) | ((with_reducible refine gate_dst (N := 7) rfl ?_); refine ev_alloc HS rfl rfl ?_; clear HS; intro g7 w1 HS) | ((with_reducible refine gate_put rfl ?_); (first | refine ev_storeC HS rfl rfl rfl rfl rfl (by rfl) (by rfl) ?_ | refine ev_storeS HS rfl rfl rfl rfl rfl (by rfl) (by rfl) (by rfl) ?_); clear HS; intro w1 HS) | ((with_reducible refine gate_load rfl ?_); first | refine ev_loadC HS rfl rfl rfl (by rfl) ?_ | refine ev_loadS HS rfl rfl rfl (by rfl) ?_) | ((with_reducible refine gate_dst (N := 22) rfl ?_); refine ev_call (some 22) rfl rfl Tryd.func29 (by kernel_rfl) rfl rfl (by simp only [List.map_toArray, List.map_cons, List.map_nil]; rfl) ?_; refine (HS.get2 rfl rfl (impl_Pay.calls (w := _) (hr0_0 := HS.reads AH) (hc0_0 := HS.cap AH) (hr0_1 := HS.reads AN) (hc0_1 := HS.cap AN) (h := hp.out))).mono ?_; clear HS; rintro e w1 ⟨A22, c22, B22, d22, rfl, HS⟩; refine ⟨_, rfl, ?_⟩) | ((with_reducible refine gate_dst (N := 8) rfl ?_); refine ev_alloc HS rfl rfl ?_; clear HS; intro g8 w1 HS) | ((with_reducible refine gate_dst (N := 34) rfl ?_); refine ev_bapp HS AO (cs := [.int .i64 (rd_T26 p j).f0, .int .i64 (rd_T26 p j).f1, .int .i64 (rd_T26 p j).f2, .int .i64 (rd_T26 p j).f3]) (p := (rd_T26 p j)) (ys := ya) (z := .agg #[.int .i64 0, .int .i64 0, .int .i64 0, .int .i64 0]) (bytes := 32) rfl rfl rfl rfl (by kernel_rfl) rfl rfl rfl (fun _ => rfl) Tryd.underlying24 (by kernel_rfl) rfl (by decide) (by decide) (fun W => k26_mkM W _ _ _) (by omega) hya.out ?_; clear HS; intro A35 c35 g35 w1 HS))
            go_roundw
            case rel => exact ⟨j + 1, ya, _, _, by omega, by omega, rfl, by first | rfl | go_num, by have := hyl.out; omega, .inr ⟨rh, rn, _, _, _, _, by have := LH.out; omega, by have := LN.out; omega, ⟨by rw [HU2.out, hya.out]⟩, (HS.perm [4, 1, 2, 7] (by decide))⟩⟩
            case measure => first | (simp [intOf]; omega) | (rw [show wrap64 (j + 1) = j + 1 from by unfold wrap64; omega]; simp [intOf]; omega)
          · have e0 : (rc == 0) = false := beq_eq_false_iff_ne.mpr d0
            by_cases d4 : rc = 4
            · subst d4
              obtain ⟨ya, hya⟩ : ∃ ya, Aside0 (acc ++ [rd_T26 p j] = ya) := ⟨_, ⟨rfl⟩⟩
              have hyl : Aside0 (ya.length = acc.length + 1) := ⟨by rw [← hya.out]; simp⟩
              have HU2 := Aside0.mk (HU.out.trans (if_pos (.inr rfl)))
              clear HU
              go_wp2_with (first | ((with_reducible refine gate_dst (N := 15) rfl ?_); refine ev_loadE (Kd.C_below hr0.out HS.below) j0 hlt rfl rfl rfl ?_) | ((with_reducible refine gate_dst (N := 7) rfl ?_); refine ev_alloc HS rfl rfl ?_; clear HS; intro g7 w1 HS) | ((with_reducible refine gate_put rfl ?_); (first | refine ev_storeC HS rfl rfl rfl rfl rfl (by rfl) (by rfl) ?_ | refine ev_storeS HS rfl rfl rfl rfl rfl (by rfl) (by rfl) (by rfl) ?_); clear HS; intro w1 HS) | ((with_reducible refine gate_load rfl ?_); first | refine ev_loadC HS rfl rfl rfl (by rfl) ?_ | refine ev_loadS HS rfl rfl rfl (by rfl) ?_) | ((with_reducible refine gate_dst (N := 22) rfl ?_); refine ev_call (some 22) rfl rfl Tryd.func29 (by kernel_rfl) rfl rfl (by simp only [List.map_toArray, List.map_cons, List.map_nil]; rfl) ?_; refine (HS.get2 rfl rfl (impl_Pay.calls (w := _) (hr0_0 := HS.reads AH) (hc0_0 := HS.cap AH) (hr0_1 := HS.reads AN) (hc0_1 := HS.cap AN) (h := hp.out))).mono ?_; clear HS; rintro e w1 ⟨A22, c22, B22, d22, rfl, HS⟩; refine ⟨_, rfl, ?_⟩) | ((with_reducible refine gate_dst (N := 8) rfl ?_); refine ev_alloc HS rfl rfl ?_; clear HS; intro g8 w1 HS) | ((with_reducible refine gate_dst (N := 34) rfl ?_); refine ev_bapp HS AO (cs := [.int .i64 (rd_T26 p j).f0, .int .i64 (rd_T26 p j).f1, .int .i64 (rd_T26 p j).f2, .int .i64 (rd_T26 p j).f3]) (p := (rd_T26 p j)) (ys := ya) (z := .agg #[.int .i64 0, .int .i64 0, .int .i64 0, .int .i64 0]) (bytes := 32) rfl rfl rfl rfl (by kernel_rfl) rfl rfl rfl (fun _ => rfl) Tryd.underlying24 (by kernel_rfl) rfl (by decide) (by decide) (fun W => k26_mkM W _ _ _) (by omega) hya.out ?_; clear HS; intro A35 c35 g35 w1 HS))
              go_roundw
              case rel => exact ⟨j + 1, ya, _, _, by omega, by omega, rfl, by first | rfl | go_num, by have := hyl.out; omega, .inr ⟨rh, rn, _, _, _, _, by have := LH.out; omega, by have := LN.out; omega, ⟨by rw [HU2.out, hya.out]⟩, (HS.perm [4, 1, 2, 7] (by decide))⟩⟩
              case measure => first | (simp [intOf]; omega) | (rw [show wrap64 (j + 1) = j + 1 from by unfold wrap64; omega]; simp [intOf]; omega)
            · have e4 : (rc == 4) = false := beq_eq_false_iff_ne.mpr d4
              have HU2 := Aside0.mk (HU.out.trans (if_neg (fun z => z.elim d0 d4)))
              obtain ⟨s1, s2⟩ := PS.out d0 d4
              have S1 := Aside0.mk s1
              have S2 := Aside0.mk s2
              clear HU s1 s2
              go_wp2_with (first | ((with_reducible refine gate_dst (N := 15) rfl ?_); refine ev_loadE (Kd.C_below hr0.out HS.below) j0 hlt rfl rfl rfl ?_) | ((with_reducible refine gate_dst (N := 7) rfl ?_); refine ev_alloc HS rfl rfl ?_; clear HS; intro g7 w1 HS) | ((with_reducible refine gate_put rfl ?_); (first | refine ev_storeC HS rfl rfl rfl rfl rfl (by rfl) (by rfl) ?_ | refine ev_storeS HS rfl rfl rfl rfl rfl (by rfl) (by rfl) (by rfl) ?_); clear HS; intro w1 HS) | ((with_reducible refine gate_load rfl ?_); first | refine ev_loadC HS rfl rfl rfl (by rfl) ?_ | refine ev_loadS HS rfl rfl rfl (by rfl) ?_) | ((with_reducible refine gate_dst (N := 22) rfl ?_); refine ev_call (some 22) rfl rfl Tryd.func29 (by kernel_rfl) rfl rfl (by simp only [List.map_toArray, List.map_cons, List.map_nil]; rfl) ?_; refine (HS.get2 rfl rfl (impl_Pay.calls (w := _) (hr0_0 := HS.reads AH) (hc0_0 := HS.cap AH) (hr0_1 := HS.reads AN) (hc0_1 := HS.cap AN) (h := hp.out))).mono ?_; clear HS; rintro e w1 ⟨A22, c22, B22, d22, rfl, HS⟩; refine ⟨_, rfl, ?_⟩) | ((with_reducible refine gate_dst (N := 8) rfl ?_); refine ev_alloc HS rfl rfl ?_; clear HS; intro g8 w1 HS))
              go_roundw
              case rel => exact ⟨j + 1, acc, _, _, by omega, by omega, rfl, by first | rfl | go_num, ba, .inr ⟨rh, rn, _, _, _, _, by have := LH.out; omega, by have := LN.out; omega, ⟨by rw [S1.out, S2.out]; exact HU2.out.symm⟩, (HS.perm [4, 1, 2, 7] (by decide))⟩⟩
              case measure => first | (simp [intOf]; omega) | (rw [show wrap64 (j + 1) = j + 1 from by unfold wrap64; omega]; simp [intOf]; omega)
    · rcases HV with HV | ⟨hh, nn, AH, cH, AN, cN, bh, bn, HT, HS⟩
      · obtain ⟨HT, HS⟩ := HV.out
        clear HV
        have he := Aside0.mk (HT.symm.trans (take_end h n acc p j (by omega)))
        clear HT
        go_wp2
        go_ret
        exact ⟨_, rfl, by rw [he.out]; exact HS.out1 AO, HS.below⟩
      · have he := Aside0.mk (HT.out.symm.trans (take_end hh nn acc p j (by omega)))
        go_wp2
        go_ret
        exact ⟨_, rfl, by rw [he.out]; exact HS.out1 AO, HS.below⟩
end
def impl_PoolTake.f (k : Nat) (l0 : List S26) (l1_0 l1_1 : List Int) : Option (List S26) := if l0.length ≤ 1048576 ∧ l1_0.length ≤ 1048576 ∧ l1_1.length ≤ 1048576 then some (takeS l1_0 l1_1 [] l0) else none
theorem impl_PoolTake.mono : ∀ a0 a1 a2 k, LeO (impl_PoolTake.f k a0 a1 a2) (impl_PoolTake.f (k + 1) a0 a1 a2) := fun _ _ _ _ => LeO.refl _
theorem impl_PoolTake.calls (k : Nat) (A0 : Option Addr) (c0 : Nat) (l0 : List (S26)) (A1_0 : Option Addr) (c1_0 : Nat) (l1_0 : List Int) (A1_1 : Option Addr) (c1_1 : Nat) (l1_1 : List Int) (r : List (S26)) (w : World) (hr0 : Kd.C k26 w A0 l0.length l0) (hc0 : l0.length ≤ c0) (hr1_0 : Kd.C (Kd.int .i64) w A1_0 l1_0.length l1_0) (hc1_0 : l1_0.length ≤ c1_0) (hr1_1 : Kd.C (Kd.int .i64) w A1_1 l1_1.length l1_1) (hc1_1 : l1_1.length ≤ c1_1) (h : impl_PoolTake.f k l0 l1_0 l1_1 = some r) :
    Calls Tryd.prog 9 #[.slice A0 l0.length c0, .agg #[.slice A1_0 l1_0.length c1_0, .slice A1_1 l1_1.length c1_1]] w fun e w' => ∃ v0_ : Value, e = .returned (v0_) ∧ Kd.R k26 26 w' w.heap.size (fun _ => True) v0_ r ∧ Below w.heap.size w w' := by
  unfold impl_PoolTake.f at h
  by_cases hb : l0.length ≤ 1048576 ∧ l1_0.length ≤ 1048576 ∧ l1_1.length ≤ 1048576
  · rw [if_pos hb] at h
    obtain rfl := Option.some.inj h
    exact impl_PoolTake.go A0 c0 l0 A1_0 c1_0 l1_0 A1_1 c1_1 l1_1 w ⟨hr0⟩ ⟨hc0⟩ ⟨hr1_0⟩ ⟨hc1_0⟩ ⟨hr1_1⟩ ⟨hc1_1⟩ hb.1 hb.2.1 hb.2.2
  · rw [if_neg hb] at h; cases h

/-! ### impl_PoolDrop: function 10 -/
section
open Go.Proofs.YtnlakfbbbnkcpaaDoorH
local instance i11_6 : AggT Tryd.prog 26 4 := ⟨by kernel_rfl, by kernel_rfl⟩
local instance i11_7 : ZeroT Tryd.prog 26 #[.int .i64 0, .int .i64 0, .int .i64 0, .int .i64 0] := ⟨by kernel_rfl⟩
local instance i11_8 : ZeroT Tryd.prog 33 #[.slice none 0 0, .slice none 0 0] := ⟨by kernel_rfl⟩
local instance i11_9 : AggT Tryd.prog 33 2 := ⟨by kernel_rfl, by kernel_rfl⟩
set_option maxHeartbeats 8000000 in
set_option maxRecDepth 100000 in
theorem impl_PoolDrop.go (A0 : Option Addr) (c0 : Nat) (p : List S26) (A1 : Option Addr) (c1 : Nat) (h : List Int) (A2 : Option Addr) (c2 : Nat) (n : List Int) (w : World) (hr0 : Aside0 (Kd.C k26 w A0 p.length p)) (hc0 : Aside0 (p.length ≤ c0)) (hr1 : Aside0 (Kd.C (Kd.int .i64) w A1 h.length h)) (hc1 : Aside0 (h.length ≤ c1)) (hr2 : Aside0 (Kd.C (Kd.int .i64) w A2 n.length n)) (hc2 : Aside0 (n.length ≤ c2)) (b0 : p.length ≤ 1048576) (b1 : h.length ≤ 1048576) (b2 : n.length ≤ 1048576) :
    Calls Tryd.prog 10 #[.slice A0 p.length c0, .agg #[.slice A1 h.length c1, .slice A2 n.length c2]] w fun e w' => ∃ v0_ : Value, e = .returned v0_ ∧ Kd.R k26 26 w' w.heap.size (fun _ => True) v0_ (dropS h n p) ∧ Below w.heap.size w w' := by
  have HS := SS.nil w
  go_enter Tryd.func10, Tryd.ntmps10
  go_wp2_with (first | ((with_reducible refine gate_dst (N := 3) rfl ?_); refine ev_box HS (cs := #[.slice A1 h.length c1, .slice A2 n.length c2]) rfl rfl rfl ?_; clear HS; intro g3 w1 HS))
  go_loopw [5, 12] (fun u5 u7 wr => ∃ (j : Int) (acc : List S26) (AO : Option Addr) (cO : Nat), 0 ≤ j ∧ j ≤ (p.length : Int) ∧ u5 = .slice AO acc.length cO ∧ u7 = .int .i64 j ∧ (acc.length : Int) ≤ j ∧ Aside0 (acc ++ dropS h n (p.drop j.toNat) = dropS h n p) ∧ SS w wr [box g3 #[.slice A1 h.length c1, .slice A2 n.length c2] 33, row k26 26 (.slice AO acc.length cO) acc]) (fun u5 u7 wr => p.length - (intOf u7).toNat)
  case atStart => exact ⟨0, [], _, _, by omega, by omega, rfl, rfl, by simp, ⟨by simp⟩, ((SS_nilRow k26 26 HS).perm [1, 0] (by decide))⟩
  case round =>
    clear HS
    obtain ⟨j, acc, AO, cO, j0, j1, rfl, rfl, ba, HT, HS⟩ := hrel
    by_cases hlt : j < (p.length : Int)
    · obtain ⟨ad, rfl, _⟩ := at_T26 hr0.out j j0 hlt
      have hst2 := dropS_at h n acc p j j0 hlt
      obtain ⟨rh, rn, rc, hq⟩ : ∃ x y z, payL h n ((rd_T26 p j).f0) ((rd_T26 p j).f1) ((rd_T26 p j).f2) ((rd_T26 p j).f3) = (x, y, z) := ⟨_, _, _, rfl⟩
      have hp : Aside0 (impl_Pay.f 0 h n ((rd_T26 p j).f0) ((rd_T26 p j).f1) ((rd_T26 p j).f2) ((rd_T26 p j).f3) = some (rh, rn, rc)) := ⟨by unfold impl_Pay.f; rw [if_pos ⟨b1, b2⟩, hq]⟩
      rw [hq] at hst2
      simp only at hst2
      have HU := Aside0.mk (HT.out.symm.trans hst2)
      clear hst2 hq HT
      by_cases d2 : rc = 2
      · subst d2
        have HU2 := Aside0.mk (HU.out.trans (if_pos rfl))
        clear HU
        go_wp2_with (first | ((with_reducible refine gate_dst (N := 15) rfl ?_); refine ev_loadE (Kd.C_below hr0.out HS.below) j0 hlt rfl rfl rfl ?_) | ((with_reducible refine gate_dst (N := 7) rfl ?_); refine ev_alloc HS rfl rfl ?_; clear HS; intro g7 w1 HS) | ((with_reducible refine gate_put rfl ?_); (first | refine ev_storeC HS rfl rfl rfl rfl rfl (by rfl) (by rfl) ?_ | refine ev_storeS HS rfl rfl rfl rfl rfl (by rfl) (by rfl) (by rfl) ?_); clear HS; intro w1 HS) | ((with_reducible refine gate_load rfl ?_); first | refine ev_loadC HS rfl rfl rfl (by rfl) ?_ | refine ev_loadS HS rfl rfl rfl (by rfl) ?_) | ((with_reducible refine gate_dst (N := 19) rfl ?_); refine ev_call (some 19) rfl rfl Tryd.func29 (by kernel_rfl) rfl rfl (by simp only [List.map_toArray, List.map_cons, List.map_nil]; rfl) ?_; refine (HS.get2 rfl rfl (impl_Pay.calls (w := _) (hr0_0 := Kd.C_below hr1.out HS.below) (hc0_0 := hc1.out) (hr0_1 := Kd.C_below hr2.out HS.below) (hc0_1 := hc2.out) (h := hp.out))).mono ?_; clear HS; rintro e w1 ⟨A19, c19, B19, d19, rfl, HS⟩; refine ⟨_, rfl, ?_⟩) | ((with_reducible refine gate_dst (N := 8) rfl ?_); refine ev_alloc HS rfl rfl ?_; clear HS; intro g8 w1 HS))
        go_roundw
        case rel => exact ⟨j + 1, acc, _, _, by omega, by omega, rfl, by first | rfl | go_num, by omega, ⟨HU2.out.symm⟩, (HS.perm [4, 5] (by decide))⟩
        case measure => first | (simp [intOf]; omega) | (rw [show wrap64 (j + 1) = j + 1 from by unfold wrap64; omega]; simp [intOf]; omega)
      · have e2 : (rc != 2) = true := bne_iff_ne.mpr d2
        obtain ⟨ya, hya⟩ : ∃ ya, Aside0 (acc ++ [rd_T26 p j] = ya) := ⟨_, ⟨rfl⟩⟩
        have hyl : Aside0 (ya.length = acc.length + 1) := ⟨by rw [← hya.out]; simp⟩
        have HU2 := Aside0.mk (HU.out.trans (if_neg d2))
        clear HU
        go_wp2_with (first | ((with_reducible refine gate_dst (N := 15) rfl ?_); refine ev_loadE (Kd.C_below hr0.out HS.below) j0 hlt rfl rfl rfl ?_) | ((with_reducible refine gate_dst (N := 7) rfl ?_); refine ev_alloc HS rfl rfl ?_; clear HS; intro g7 w1 HS) | ((with_reducible refine gate_put rfl ?_); (first | refine ev_storeC HS rfl rfl rfl rfl rfl (by rfl) (by rfl) ?_ | refine ev_storeS HS rfl rfl rfl rfl rfl (by rfl) (by rfl) (by rfl) ?_); clear HS; intro w1 HS) | ((with_reducible refine gate_load rfl ?_); first | refine ev_loadC HS rfl rfl rfl (by rfl) ?_ | refine ev_loadS HS rfl rfl rfl (by rfl) ?_) | ((with_reducible refine gate_dst (N := 19) rfl ?_); refine ev_call (some 19) rfl rfl Tryd.func29 (by kernel_rfl) rfl rfl (by simp only [List.map_toArray, List.map_cons, List.map_nil]; rfl) ?_; refine (HS.get2 rfl rfl (impl_Pay.calls (w := _) (hr0_0 := Kd.C_below hr1.out HS.below) (hc0_0 := hc1.out) (hr0_1 := Kd.C_below hr2.out HS.below) (hc0_1 := hc2.out) (h := hp.out))).mono ?_; clear HS; rintro e w1 ⟨A19, c19, B19, d19, rfl, HS⟩; refine ⟨_, rfl, ?_⟩) | ((with_reducible refine gate_dst (N := 8) rfl ?_); refine ev_alloc HS rfl rfl ?_; clear HS; intro g8 w1 HS) | ((with_reducible refine gate_dst (N := 26) rfl ?_); refine ev_bapp HS AO (cs := [.int .i64 (rd_T26 p j).f0, .int .i64 (rd_T26 p j).f1, .int .i64 (rd_T26 p j).f2, .int .i64 (rd_T26 p j).f3]) (p := (rd_T26 p j)) (ys := ya) (z := .agg #[.int .i64 0, .int .i64 0, .int .i64 0, .int .i64 0]) (bytes := 32) rfl rfl rfl rfl (by kernel_rfl) rfl rfl rfl (fun _ => rfl) Tryd.underlying24 (by kernel_rfl) rfl (by decide) (by decide) (fun W => k26_mkM W _ _ _) (by omega) hya.out ?_; clear HS; intro A27 c27 g27 w1 HS))
        go_roundw
        case rel => exact ⟨j + 1, ya, _, _, by omega, by omega, rfl, by first | rfl | go_num, by have := hyl.out; omega, ⟨by rw [HU2.out, hya.out]⟩, (HS.perm [4, 5] (by decide))⟩
        case measure => first | (simp [intOf]; omega) | (rw [show wrap64 (j + 1) = j + 1 from by unfold wrap64; omega]; simp [intOf]; omega)
    · have he := Aside0.mk (HT.out.symm.trans (dropS_end h n acc p j (by omega)))
      go_wp2
      go_ret
      exact ⟨_, rfl, by rw [he.out]; exact HS.out1 AO, HS.below⟩
end
def impl_PoolDrop.f (k : Nat) (l0 : List S26) (l1_0 l1_1 : List Int) : Option (List S26) := if l0.length ≤ 1048576 ∧ l1_0.length ≤ 1048576 ∧ l1_1.length ≤ 1048576 then some (dropS l1_0 l1_1 l0) else none
theorem impl_PoolDrop.mono : ∀ a0 a1 a2 k, LeO (impl_PoolDrop.f k a0 a1 a2) (impl_PoolDrop.f (k + 1) a0 a1 a2) := fun _ _ _ _ => LeO.refl _
theorem impl_PoolDrop.calls (k : Nat) (A0 : Option Addr) (c0 : Nat) (l0 : List (S26)) (A1_0 : Option Addr) (c1_0 : Nat) (l1_0 : List Int) (A1_1 : Option Addr) (c1_1 : Nat) (l1_1 : List Int) (r : List (S26)) (w : World) (hr0 : Kd.C k26 w A0 l0.length l0) (hc0 : l0.length ≤ c0) (hr1_0 : Kd.C (Kd.int .i64) w A1_0 l1_0.length l1_0) (hc1_0 : l1_0.length ≤ c1_0) (hr1_1 : Kd.C (Kd.int .i64) w A1_1 l1_1.length l1_1) (hc1_1 : l1_1.length ≤ c1_1) (h : impl_PoolDrop.f k l0 l1_0 l1_1 = some r) :
    Calls Tryd.prog 10 #[.slice A0 l0.length c0, .agg #[.slice A1_0 l1_0.length c1_0, .slice A1_1 l1_1.length c1_1]] w fun e w' => ∃ v0_ : Value, e = .returned (v0_) ∧ Kd.R k26 26 w' w.heap.size (fun _ => True) v0_ r ∧ Below w.heap.size w w' := by
  unfold impl_PoolDrop.f at h
  by_cases hb : l0.length ≤ 1048576 ∧ l1_0.length ≤ 1048576 ∧ l1_1.length ≤ 1048576
  · rw [if_pos hb] at h
    obtain rfl := Option.some.inj h
    exact impl_PoolDrop.go A0 c0 l0 A1_0 c1_0 l1_0 A1_1 c1_1 l1_1 w ⟨hr0⟩ ⟨hc0⟩ ⟨hr1_0⟩ ⟨hc1_0⟩ ⟨hr1_1⟩ ⟨hc1_1⟩ hb.1 hb.2.1 hb.2.2
  · rw [if_neg hb] at h; cases h

/-! ### strconv_Itoa: function 59 -/
-- included laidw.inc
/-- What a call takes of the library's variables: the table of powers of ten (where the row lists it), and that MaxLen holds a number. -/
def LaidW (w : World) : Prop := (True → Lib.TabIs Tryd.prog w "internal/strconv.uint64pow10" .u64 Lib.pow10Tab ∧ 1 < w.heap.size) ∧ ∃ m : Int, w.cell? ⟨0, 0, none⟩ = some (.int .i64 m)
theorem LaidW.gp : Tryd.prog.globalNamed "internal/strconv.uint64pow10" = some 1 := by kernel_rfl
theorem LaidW.below {w w1 : World} (h : LaidW w) (hb : Below w.heap.size w w1) : LaidW w1 := by
  obtain ⟨h1, m, hm⟩ := h
  refine ⟨fun ht => ⟨var?_below hb LaidW.gp (h1 ht).2 (h1 ht).1, Nat.lt_of_lt_of_le (h1 ht).2 hb.size⟩, m, (hb.cell (World.block_lt_of_cell? w _ hm)).trans hm⟩
theorem below_grow {w : World} (os : Array Obj) : Below w.heap.size w (Go.Sort.grow w os) := ⟨rfl, rfl, rfl, by simp, fun i hi => by
  show (w.heap ++ os)[i]? = _
  rw [Array.getElem?_append_left hi]⟩
def strconv_Itoa.f (a0 : Int) : Option (ByteArray) := if -9223372036854775808 ≤ a0 ∧ a0 ≤ 9223372036854775807 then some ⟨(Lib.itoa a0).toArray⟩ else none
theorem strconv_Itoa.calls (a0 : Int) (r : ByteArray) (w : World) (hL : LaidW w) (h : strconv_Itoa.f a0 = some r) :
    Calls Tryd.prog 59 #[.int .i64 a0] w fun e w' => e = .returned (.string r) ∧ Below w.heap.size w w' := by
  unfold strconv_Itoa.f at h
  by_cases hb : -9223372036854775808 ≤ a0 ∧ a0 ≤ 9223372036854775807
  · rw [if_pos hb] at h
    obtain rfl := Option.some.inj h
    refine (Tryd.strconv_Itoa a0 hb.1 hb.2 w (hL.1 trivial).1).mono ?_
    rintro e w' ⟨rfl, k, os, rfl⟩
    exact ⟨rfl, below_then (pw_below_drewN (Below.refl _ _) k) (Nat.le_refl _) (below_grow os)⟩
  · rw [if_neg hb] at h
    cases h

/-! ### impl_Digits: function 47 -/
def impl_Digits.f (a0 : Int) : Option (ByteArray) := (strconv_Itoa.f a0).bind fun t429 => (some t429)
set_option maxHeartbeats 8000000 in
set_option maxRecDepth 100000 in
theorem impl_Digits.calls (a0 : Int) (r : ByteArray) (w : World) (hL : LaidW w) (h : impl_Digits.f a0 = some r) :
    Calls Tryd.prog 47 #[.int .i64 a0] w fun e w' => e = .returned (.string r) ∧ Below w.heap.size w w' := by
  have HL0 := Aside0.mk hL
  clear hL
  have HB := Aside0.mk (Below.refl w.heap.size w)
  have H : ((strconv_Itoa.f a0).bind fun t429 => (some t429)) = some r := h
  clear h
  replace H := Option.bind_eq_some_iff.mp H
  obtain ⟨t429, A20, H⟩ := H
  replace H : (some t429) = some r := H
  have A2 := Aside0.mk A20
  clear A20
  obtain rfl := Option.some.inj H
  go_enter Tryd.func47, Tryd.ntmps47
  go_wp2_with (first | ((with_reducible refine gate_callee (f := 59) rfl ?_); refine goesL_ (some 4) rfl rfl Tryd.func59 (by kernel_rfl) rfl #[.int .i64 a0] rfl (by (try simp only [mp]); first | done | rfl) ?_; (with_reducible refine (strconv_Itoa.calls a0 t429 _ ?side1 A2.out).mono ?_); (case side1 => exact LaidW.below HL0.out (HB.out)); rintro e w3 ⟨rfl, hb⟩; refine ⟨_, rfl, ?_⟩; have n0_ := Aside0.mk (below_step (HB.out) hb); clear HB; have HB := n0_; clear n0_; (try clear hb); (try clear hb2); (try clear hk); (try clear hi)))
  go_ret
  exact ⟨rfl, HB.out⟩

end Go.Proofs.YtnlakfbbbnkcpaaDoor.PFnPools
