/- Walks of the functions that a law of seat YtbecffgalndagaaDoor reaches, each against a Lean function, printed by this session's wip/myprint.py; no condition of their own. -/
import Derived.Test.YtbecffgalndagaaDoorPFnExactNameOfx0
import Derived.Test.YtbecffgalndagaaDoorPFnExactNameOfx1
import Derived.Test.YtbecffgalndagaaDoorPFnExactNameOfx4
import Derived.Test.YtbecffgalndagaaDoorPFnExactNameOfx6
namespace Go.Proofs.YtbecffgalndagaaDoor.PFnExactNameOf
open Go.RowKit Go.Proofs.YtbecffgalndagaaDoorW.PrintWords Go.Proofs.YtbecffgalndagaaDoorW.PrintLast Go.Proofs.YtbecffgalndagaaDoorW.PrintMore
attribute [local go_sem] max2_int min2_int max_two min_two max_three min_three max_four min_four   -- for this text's walks alone
set_option linter.unusedVariables false
set_option linter.unusedSimpArgs false

/-! ### impl_NameOf: function 17 -/
def impl_NameOf.l0 : Nat → ByteArray → Int → List (S44) → List (S44) → Int → Int → Option (ByteArray)
  | 0, _, _, _, _, _, _ => none
  | k + 1, x0, x1, x2, x10, x11, x12 => if x12 < x11 then (if 0 ≤ x12 then (if x12 < (x10.length : Int) then ((impl_TxOk.f ((rd_T44 x10 x12).f0) ((rd_T44 x10 x12).f1) ((rd_T44 x10 x12).f2) ((rd_T44 x10 x12).f3)).bind fun t285 => (if t285 = true then (impl_NameOf.l0 k x0 x1 x2 x10 x11 (wrap64 (x12 + 1))) else (some (⟨#[]⟩ : ByteArray)))) else (none)) else (none)) else (if x0.size + 1 ≤ 9223372036854775807 then ((impl_Digits.f x1).bind fun t286 => (if (x0 ++ (⟨#[47]⟩ : ByteArray)).size + t286.size ≤ 9223372036854775807 then (if ((x0 ++ (⟨#[47]⟩ : ByteArray)) ++ t286).size + 1 ≤ 9223372036854775807 then ((impl_TxsText.f k x2).bind fun t287 => (if (((x0 ++ (⟨#[47]⟩ : ByteArray)) ++ t286) ++ (⟨#[124]⟩ : ByteArray)).size + t287.size ≤ 9223372036854775807 then (if (x2.length : Int) > 2 then (some (⟨#[]⟩ : ByteArray)) else ((impl_NameOk.f k ((((x0 ++ (⟨#[47]⟩ : ByteArray)) ++ t286) ++ (⟨#[124]⟩ : ByteArray)) ++ t287)).bind fun t288 => (if t288 = true then (some ((((x0 ++ (⟨#[47]⟩ : ByteArray)) ++ t286) ++ (⟨#[124]⟩ : ByteArray)) ++ t287)) else (some (⟨#[]⟩ : ByteArray))))) else (none))) else (none)) else (none))) else (none))
def impl_NameOf.f (k : Nat) (a0 : ByteArray) (a1 : Int) (l2 : List (S44)) : Option (ByteArray) := impl_NameOf.l0 k a0 a1 l2 l2 (l2.length : Int) 0
theorem impl_NameOf.mono_l : ∀ k, (∀ y0 y1 y2 y3 y4 y5, LeO (impl_NameOf.l0 k y0 y1 y2 y3 y4 y5) (impl_NameOf.l0 (k + 1) y0 y1 y2 y3 y4 y5))
  | 0 => fun _ _ _ _ _ _ r h => by simp [impl_NameOf.l0] at h
  | k + 1 => by
    have ih0 := impl_NameOf.mono_l k
    · intro y0 y1 y2 y3 y4 y5
      unfold impl_NameOf.l0
      repeat' first
      | (with_reducible exact ih0 _ _ _ _ _ _)
      | (with_reducible exact impl_NameOk.mono _ _)
      | (with_reducible exact impl_TxsText.mono _ _)
      | (with_reducible exact LeO.refl _)
      | (with_reducible exact LeO.none _)
      | (with_reducible refine LeO.ite ?_ ?_)
      | (with_reducible refine LeO.bind ?_ (fun _ => ?_))
      | exact ih0 _ _ _ _ _ _
      | exact impl_NameOk.mono _ _
      | exact impl_TxsText.mono _ _
      | exact LeO.none _
      | refine LeO.ite ?_ ?_
      | refine LeO.bind ?_ (fun _ => ?_)
theorem impl_NameOf.mono : ∀ a0 a1 a2 k, LeO (impl_NameOf.f k a0 a1 a2) (impl_NameOf.f (k + 1) a0 a1 a2) := by
  intro a0 a1 a2 k
  have ih0 := impl_NameOf.mono_l k
  unfold impl_NameOf.f
  repeat' first
      | (with_reducible exact ih0 _ _ _ _ _ _)
      | (with_reducible exact impl_NameOk.mono _ _)
      | (with_reducible exact impl_TxsText.mono _ _)
      | (with_reducible exact LeO.refl _)
      | (with_reducible exact LeO.none _)
      | (with_reducible refine LeO.ite ?_ ?_)
      | (with_reducible refine LeO.bind ?_ (fun _ => ?_))
      | exact ih0 _ _ _ _ _ _
      | exact impl_NameOk.mono _ _
      | exact impl_TxsText.mono _ _
      | exact LeO.none _
      | refine LeO.ite ?_ ?_
      | refine LeO.bind ?_ (fun _ => ?_)
set_option maxHeartbeats 8000000 in
set_option maxRecDepth 100000 in
theorem impl_NameOf.calls (k : Nat) (a0 : ByteArray) (a1 : Int) (A2 : Option Addr) (c2 : Nat) (l2 : List (S44)) (r : ByteArray) (w : World) (hr2 : Kd.C k44 w A2 l2.length l2) (hc2 : l2.length ≤ c2) (hL : LaidW w) (h : impl_NameOf.f k a0 a1 l2 = some r) :
    Calls Tryd.prog 17 #[.string a0, .int .i64 a1, .slice A2 l2.length c2] w fun e w' => e = .returned (.string r) ∧ Below w.heap.size w w' := by
  have hu44 := Tryd.underlying44
  have HR2 := Aside0.mk hr2
  have HC2 := Aside0.mk hc2
  clear hr2 hc2
  have HL0 := Aside0.mk hL
  clear hL
  have HB := Aside0.mk (Below.refl w.heap.size w)
  have H : (impl_NameOf.l0 k a0 a1 l2 l2 (l2.length : Int) 0) = some r := h
  clear h
  have H' := Aside0.mk H
  clear H
  go_enter Tryd.func17, Tryd.ntmps17
  go_wp2
  go_loopg [12] k (fun kq v12 w' => ∃ (x12_1 : Int), v12 = .int .i64 x12_1 ∧ Aside0 (impl_NameOf.l0 kq a0 a1 l2 l2 (l2.length : Int) x12_1 = some r) ∧ Aside0 (kq ≤ k) ∧ Aside0 (Below w.heap.size w w'))
  case atStart => exact ⟨(0), (by first | rfl | (simp; done) | (simp [*]; done)), H', ⟨Nat.le_refl _⟩, ⟨by repeat (first | (with_reducible first | exact HB.out | apply below_alloc | apply pw_below_drewN | apply below_drew1) | exact HB.out)⟩⟩
  case round =>
    clear H'
    try clear c1
    try clear c2
    try clear p2
    obtain ⟨x12_1, rfl, HA, HK1, HB⟩ := hrel
    cases gk with
    | zero => exact absurd HA.out (by simp [impl_NameOf.l0])
    | succ k1 =>
      have H := HA.out
      clear HA
      simp only [impl_NameOf.l0] at H
      have HF := Aside0.mk H
      clear H
      go_upto_if 13 with (fail)
      have H := HF.out
      clear HF
      by_cases c4 : x12_1 < (l2.length : Int)
      · rw [if_pos c4] at H
        have c4b0 : decide (x12_1 < (l2.length : Int)) = true := decide_eq_true c4
        clear c4
        (first | rw [c4b0] | (simp only [i64_w, i32_w]; rw [c4b0]) | skip)
        by_cases c5 : 0 ≤ x12_1
        · rw [if_pos c5] at H
          have c5b0 : decide (0 ≤ x12_1) = true := decide_eq_true c5
          clear c5
          by_cases c6 : x12_1 < (l2.length : Int)
          · rw [if_pos c6] at H
            have c6b0 : decide (x12_1 < (l2.length : Int)) = true := decide_eq_true c6
            clear c6
            replace H := Option.bind_eq_some_iff.mp H
            obtain ⟨t285, A70, H⟩ := H
            replace H : (if t285 = true then (impl_NameOf.l0 k1 a0 a1 l2 l2 (l2.length : Int) (wrap64 (x12_1 + 1))) else (some (⟨#[]⟩ : ByteArray))) = some r := H
            have A7 := Aside0.mk A70
            clear A70
            have HF := Aside0.mk H
            clear H
            have p283 : 0 ≤ (x12_1 : Int) := of_decide_eq_true (by first | (with_reducible assumption) | assumption)
            have q283 : x12_1 < (l2.length : Int) := of_decide_eq_true (by first | (with_reducible assumption) | assumption)
            obtain ⟨ad283, e283, hx283_0, hx283_1, hx283_2, hx283_3⟩ := at_T44 HR2.out x12_1 p283 q283
            cases e283
            replace hx283_0 := (HB.out.cell (World.block_lt_of_cell? w _ hx283_0)).trans hx283_0
            replace hx283_1 := (HB.out.cell (World.block_lt_of_cell? w _ hx283_1)).trans hx283_1
            replace hx283_2 := (HB.out.cell (World.block_lt_of_cell? w _ hx283_2)).trans hx283_2
            replace hx283_3 := (HB.out.cell (World.block_lt_of_cell? w _ hx283_3)).trans hx283_3
            replace p283 := eq_true p283
            replace q283 := eq_true q283
            go_upto_if 18 with (go_big_may; first | ((with_reducible refine gate_dst (N := 8) rfl ?_); refine box_event ?hg (N := 8) ?hd (cs := #[.int .i64 0, .int .i64 0, .int .i64 0, .int .i64 0]) (t := 44) ?hr ?_; (case hd => rfl); (case hg => rfl); (case hr => first | (go_simp; done) | (go_simp; rfl)); intro gb284 hg w8 hbox hb; have n0_ := Aside0.mk (below_step (by repeat (first | (with_reducible first | exact HB.out | apply below_alloc | apply pw_below_drewN | apply below_drew1) | exact HB.out)) hb); have n1_ := Aside0.mk (hbox); have n2_ := Aside0.mk ((by rw [hg]; exact (below_size (by repeat (first | (with_reducible first | exact HB.out | apply below_alloc | apply pw_below_drewN | apply below_drew1) | exact HB.out))) : w.heap.size ≤ gb284)); have n3_ := Aside0.mk ((by rw [hg]; exact (below_size (by repeat (first | (with_reducible first | exact HB.out | apply below_alloc | apply pw_below_drewN | apply below_drew1) | exact HB.out))) : w.heap.size ≤ gb284)); clear HB; have HB := n0_; have BK284 := n1_; have GW284 := n2_; have GE284 := n3_; clear n0_ n1_ n2_ n3_; clear hb hbox hg; have hcz9_0 : w8.cell? ⟨gb284, 0, none⟩ = some (.int .i64 0) := (blk_cell BK284.out 0).trans rfl; have hcz9_1 : w8.cell? ⟨gb284, 1, none⟩ = some (.int .i64 0) := (blk_cell BK284.out 1).trans rfl; have hcz9_2 : w8.cell? ⟨gb284, 2, none⟩ = some (.int .i64 0) := (blk_cell BK284.out 2).trans rfl; have hcz9_3 : w8.cell? ⟨gb284, 3, none⟩ = some (.int .i64 0) := (blk_cell BK284.out 3).trans rfl; have hfz9_0 := blk_frozen BK284.out 0; have hfz9_1 := blk_frozen BK284.out 1; have hfz9_2 := blk_frozen BK284.out 2; have hfz9_3 := blk_frozen BK284.out 3) | ((with_reducible refine gate_callee (f := 56) rfl ?_); refine goesL_ (some 17) rfl rfl Tryd.func56 (by kernel_rfl) rfl #[.agg #[.int .i64 ((rd_T44 l2 x12_1).f0), .int .i64 ((rd_T44 l2 x12_1).f1), .int .i64 ((rd_T44 l2 x12_1).f2), .int .i64 ((rd_T44 l2 x12_1).f3)]] rfl (by (try simp only [List.map_toArray, List.map_cons, List.map_nil]); first | done | rfl | (simp only [List.length_drop, List.length_take]; rfl)) ?_; (with_reducible refine (impl_TxOk.calls ((rd_T44 l2 x12_1).f0) ((rd_T44 l2 x12_1).f1) ((rd_T44 l2 x12_1).f2) ((rd_T44 l2 x12_1).f3) t285 _ A7.out).mono ?_); rintro e w10 ⟨rfl, hb⟩; refine ⟨_, rfl, ?_⟩; have n0_ := Aside0.mk (blk_below (g := gb284) (o := .cells #[.int .i64 ((rd_T44 l2 x12_1).f0), .int .i64 ((rd_T44 l2 x12_1).f1), .int .i64 ((rd_T44 l2 x12_1).f2), .int .i64 ((rd_T44 l2 x12_1).f3)] 44 (0, 0)) (by (with_reducible repeat (first | refine blk_drewN ?_ _ | refine blk_drew ?_ | refine blk_alloc ?_ _)); refine blk_put (cs := #[.int .i64 ((rd_T44 l2 x12_1).f0), .int .i64 ((rd_T44 l2 x12_1).f1), .int .i64 ((rd_T44 l2 x12_1).f2), .int .i64 0]) ?_ 3 _ rfl; (with_reducible repeat (first | refine blk_drewN ?_ _ | refine blk_drew ?_ | refine blk_alloc ?_ _)); refine blk_put (cs := #[.int .i64 ((rd_T44 l2 x12_1).f0), .int .i64 ((rd_T44 l2 x12_1).f1), .int .i64 0, .int .i64 0]) ?_ 2 _ rfl; (with_reducible repeat (first | refine blk_drewN ?_ _ | refine blk_drew ?_ | refine blk_alloc ?_ _)); refine blk_put (cs := #[.int .i64 ((rd_T44 l2 x12_1).f0), .int .i64 0, .int .i64 0, .int .i64 0]) ?_ 1 _ rfl; (with_reducible repeat (first | refine blk_drewN ?_ _ | refine blk_drew ?_ | refine blk_alloc ?_ _)); refine blk_put (cs := #[.int .i64 0, .int .i64 0, .int .i64 0, .int .i64 0]) ?_ 0 _ rfl; (with_reducible repeat (first | refine blk_drewN ?_ _ | refine blk_drew ?_ | refine blk_alloc ?_ _)); exact BK284.out) hb); have n1_ := Aside0.mk (below_step (by repeat (first | (with_reducible first | exact HB.out | apply below_alloc | apply pw_below_drewN | apply below_drew1 | refine below_set ?_ GE284.out) | exact HB.out)) hb); clear BK284; clear HB; have BK284 := n0_; have HB := n1_; clear n0_ n1_; (try clear hb); (try clear hb2); (try clear hk); (try clear hi)))
            have H := HF.out
            clear HF
            by_cases c11 : t285 = true
            · subst c11
              have H1 : (impl_NameOf.l0 k1 a0 a1 l2 l2 (l2.length : Int) (wrap64 (x12_1 + 1))) = some r := by rw [if_pos rfl] at H; exact H
              clear H
              have H := H1
              clear H1
              have H' := Aside0.mk H
              clear H
              go_wp2
              go_roundg k1
              case measure => have := HK1.out; omega
              case rel => exact ⟨(wrap64 (x12_1 + 1)), (by first | rfl | (simp; done) | (simp [*]; done)), H', ⟨by have := HK1.out; omega⟩, ⟨by repeat (first | (with_reducible first | exact HB.out | apply below_alloc | apply pw_below_drewN | apply below_drew1 | refine below_set ?_ GE284.out) | exact HB.out)⟩⟩
            · replace c11 := Bool.eq_false_iff.mpr c11
              subst c11
              have H1 : (some (⟨#[]⟩ : ByteArray)) = some r := by rw [if_neg (show ¬ (false = true) by decide)] at H; exact H
              clear H
              have H := H1
              clear H1
              obtain rfl := Option.some.inj H
              go_wp2
              go_ret
              exact ⟨by first | rfl | (simp [errW_none, errW_some] <;> rfl) | (simp [*, errW_none, errW_some] <;> rfl), by repeat (first | (with_reducible first | exact HB.out | apply below_alloc | apply pw_below_drewN | apply below_drew1 | refine below_set ?_ GE284.out) | exact HB.out)⟩
          · rw [if_neg c6] at H
            exact absurd H (by simp)
        · rw [if_neg c5] at H
          exact absurd H (by simp)
      · rw [if_neg c4] at H
        have c4b0 : decide (x12_1 < (l2.length : Int)) = false := decide_eq_false c4
        clear c4
        (first | rw [c4b0] | (simp only [i64_w, i32_w]; rw [c4b0]) | skip)
        by_cases c12 : a0.size + 1 ≤ 9223372036854775807
        · rw [if_pos c12] at H
          have c12b0 := eq_true c12
          have c12b1 : decide (a0.size + 1 ≤ 9223372036854775807) = true := decide_eq_true c12
          try have c12b2 : (9223372036854775807 < a0.size + 1) = False := eq_false (Nat.not_lt.2 c12)
          replace H := Option.bind_eq_some_iff.mp H
          obtain ⟨t286, A130, H⟩ := H
          replace H : (if (a0 ++ (⟨#[47]⟩ : ByteArray)).size + t286.size ≤ 9223372036854775807 then (if ((a0 ++ (⟨#[47]⟩ : ByteArray)) ++ t286).size + 1 ≤ 9223372036854775807 then ((impl_TxsText.f k1 l2).bind fun t287 => (if (((a0 ++ (⟨#[47]⟩ : ByteArray)) ++ t286) ++ (⟨#[124]⟩ : ByteArray)).size + t287.size ≤ 9223372036854775807 then (if (l2.length : Int) > 2 then (some (⟨#[]⟩ : ByteArray)) else ((impl_NameOk.f k1 ((((a0 ++ (⟨#[47]⟩ : ByteArray)) ++ t286) ++ (⟨#[124]⟩ : ByteArray)) ++ t287)).bind fun t288 => (if t288 = true then (some ((((a0 ++ (⟨#[47]⟩ : ByteArray)) ++ t286) ++ (⟨#[124]⟩ : ByteArray)) ++ t287)) else (some (⟨#[]⟩ : ByteArray))))) else (none))) else (none)) else (none)) = some r := H
          have A13 := Aside0.mk A130
          clear A130
          by_cases c14 : (a0 ++ (⟨#[47]⟩ : ByteArray)).size + t286.size ≤ 9223372036854775807
          · rw [if_pos c14] at H
            have c14b0 := eq_true c14
            have c14b1 : decide ((a0 ++ (⟨#[47]⟩ : ByteArray)).size + t286.size ≤ 9223372036854775807) = true := decide_eq_true c14
            try have c14b2 : (9223372036854775807 < (a0 ++ (⟨#[47]⟩ : ByteArray)).size + t286.size) = False := eq_false (Nat.not_lt.2 c14)
            try (have c14b3 := Nat.not_lt.2 c14; simp only [ByteArray.size_append, show ∀ x_ : UInt8, (⟨#[x_]⟩ : ByteArray).size = 1 from fun _ => rfl] at c14b3; replace c14b3 := eq_false c14b3)
            by_cases c15 : ((a0 ++ (⟨#[47]⟩ : ByteArray)) ++ t286).size + 1 ≤ 9223372036854775807
            · rw [if_pos c15] at H
              have c15b0 := eq_true c15
              have c15b1 : decide (((a0 ++ (⟨#[47]⟩ : ByteArray)) ++ t286).size + 1 ≤ 9223372036854775807) = true := decide_eq_true c15
              try have c15b2 : (9223372036854775807 < ((a0 ++ (⟨#[47]⟩ : ByteArray)) ++ t286).size + 1) = False := eq_false (Nat.not_lt.2 c15)
              try (have c15b3 := Nat.not_lt.2 c15; simp only [ByteArray.size_append, show ∀ x_ : UInt8, (⟨#[x_]⟩ : ByteArray).size = 1 from fun _ => rfl] at c15b3; replace c15b3 := eq_false c15b3)
              replace H := Option.bind_eq_some_iff.mp H
              obtain ⟨t287, A160, H⟩ := H
              replace H : (if (((a0 ++ (⟨#[47]⟩ : ByteArray)) ++ t286) ++ (⟨#[124]⟩ : ByteArray)).size + t287.size ≤ 9223372036854775807 then (if (l2.length : Int) > 2 then (some (⟨#[]⟩ : ByteArray)) else ((impl_NameOk.f k1 ((((a0 ++ (⟨#[47]⟩ : ByteArray)) ++ t286) ++ (⟨#[124]⟩ : ByteArray)) ++ t287)).bind fun t288 => (if t288 = true then (some ((((a0 ++ (⟨#[47]⟩ : ByteArray)) ++ t286) ++ (⟨#[124]⟩ : ByteArray)) ++ t287)) else (some (⟨#[]⟩ : ByteArray))))) else (none)) = some r := H
              have A16 := Aside0.mk A160
              clear A160
              by_cases c17 : (((a0 ++ (⟨#[47]⟩ : ByteArray)) ++ t286) ++ (⟨#[124]⟩ : ByteArray)).size + t287.size ≤ 9223372036854775807
              · rw [if_pos c17] at H
                have c17b0 := eq_true c17
                have c17b1 : decide ((((a0 ++ (⟨#[47]⟩ : ByteArray)) ++ t286) ++ (⟨#[124]⟩ : ByteArray)).size + t287.size ≤ 9223372036854775807) = true := decide_eq_true c17
                try have c17b2 : (9223372036854775807 < (((a0 ++ (⟨#[47]⟩ : ByteArray)) ++ t286) ++ (⟨#[124]⟩ : ByteArray)).size + t287.size) = False := eq_false (Nat.not_lt.2 c17)
                try (have c17b3 := Nat.not_lt.2 c17; simp only [ByteArray.size_append, show ∀ x_ : UInt8, (⟨#[x_]⟩ : ByteArray).size = 1 from fun _ => rfl] at c17b3; replace c17b3 := eq_false c17b3)
                by_cases c18 : (l2.length : Int) > 2
                · rw [if_pos c18] at H
                  have c18b0 : decide (2 < (l2.length : Int)) = true := decide_eq_true c18
                  have c18b1 : decide (2 < l2.length) = true := decide_eq_true (by omega)
                  clear c18
                  obtain rfl := Option.some.inj H
                  go_wp2_with (first | ((with_reducible refine gate_callee (f := 60) rfl ?_); refine goesL_ (some 23) rfl rfl Tryd.func60 (by kernel_rfl) rfl #[.int .i64 a1] rfl (by (try simp only [List.map_toArray, List.map_cons, List.map_nil]); first | done | rfl | (simp only [List.length_drop, List.length_take]; rfl)) ?_; (with_reducible refine (impl_Digits.calls a1 t286 _ ?side1 A13.out).mono ?_); (case side1 => exact LaidW.below HL0.out (by repeat (first | (with_reducible first | exact HB.out | apply below_alloc | apply pw_below_drewN | apply below_drew1) | exact HB.out))); rintro e w19 ⟨rfl, hb⟩; refine ⟨_, rfl, ?_⟩; have n0_ := Aside0.mk (below_step (by repeat (first | (with_reducible first | exact HB.out | apply below_alloc | apply pw_below_drewN | apply below_drew1) | exact HB.out)) hb); clear HB; have HB := n0_; clear n0_; (try clear hb); (try clear hb2); (try clear hk); (try clear hi)) | ((with_reducible refine gate_callee (f := 48) rfl ?_); refine goesL_ (some 27) rfl rfl Tryd.func48 (by kernel_rfl) rfl #[.slice A2 l2.length c2] rfl (by (try simp only [List.map_toArray, List.map_cons, List.map_nil]); first | done | rfl | (simp only [List.length_drop, List.length_take]; rfl)) ?_; (with_reducible refine (impl_TxsText.calls k1 _ _ l2 t287 _ ?side1 ?side2 ?side3 A16.out).mono ?_); (case side1 => repeat (first | exact (Kd.C_below HR2.out HB.out) | (with_reducible refine Kd.C_alloc ?_ _) | (with_reducible refine Kd.C_drewN ?_ _) | (with_reducible refine Kd.C_drew ?_))); (case side2 => exact HC2.out); (case side3 => exact LaidW.below HL0.out (by repeat (first | (with_reducible first | exact HB.out | apply below_alloc | apply pw_below_drewN | apply below_drew1) | exact HB.out))); rintro e w20 ⟨rfl, hb⟩; refine ⟨_, rfl, ?_⟩; have n0_ := Aside0.mk (below_step (by repeat (first | (with_reducible first | exact HB.out | apply below_alloc | apply pw_below_drewN | apply below_drew1) | exact HB.out)) hb); clear HB; have HB := n0_; clear n0_; (try clear hb); (try clear hb2); (try clear hk); (try clear hi)))
                  go_ret
                  exact ⟨by first | rfl | (simp [errW_none, errW_some] <;> rfl) | (simp [*, errW_none, errW_some] <;> rfl), by repeat (first | (with_reducible first | exact HB.out | apply below_alloc | apply pw_below_drewN | apply below_drew1) | exact HB.out)⟩
                · rw [if_neg c18] at H
                  have c18b0 : decide (2 < (l2.length : Int)) = false := decide_eq_false c18
                  have c18b1 : decide (2 < l2.length) = false := decide_eq_false (by omega)
                  clear c18
                  replace H := Option.bind_eq_some_iff.mp H
                  obtain ⟨t288, A210, H⟩ := H
                  replace H : (if t288 = true then (some ((((a0 ++ (⟨#[47]⟩ : ByteArray)) ++ t286) ++ (⟨#[124]⟩ : ByteArray)) ++ t287)) else (some (⟨#[]⟩ : ByteArray))) = some r := H
                  have A21 := Aside0.mk A210
                  clear A210
                  have HF := Aside0.mk H
                  clear H
                  go_upto_if 36 with (go_big_may; first | ((with_reducible refine gate_callee (f := 60) rfl ?_); refine goesL_ (some 23) rfl rfl Tryd.func60 (by kernel_rfl) rfl #[.int .i64 a1] rfl (by (try simp only [List.map_toArray, List.map_cons, List.map_nil]); first | done | rfl | (simp only [List.length_drop, List.length_take]; rfl)) ?_; (with_reducible refine (impl_Digits.calls a1 t286 _ ?side1 A13.out).mono ?_); (case side1 => exact LaidW.below HL0.out (by repeat (first | (with_reducible first | exact HB.out | apply below_alloc | apply pw_below_drewN | apply below_drew1) | exact HB.out))); rintro e w22 ⟨rfl, hb⟩; refine ⟨_, rfl, ?_⟩; have n0_ := Aside0.mk (below_step (by repeat (first | (with_reducible first | exact HB.out | apply below_alloc | apply pw_below_drewN | apply below_drew1) | exact HB.out)) hb); clear HB; have HB := n0_; clear n0_; (try clear hb); (try clear hb2); (try clear hk); (try clear hi)) | ((with_reducible refine gate_callee (f := 48) rfl ?_); refine goesL_ (some 27) rfl rfl Tryd.func48 (by kernel_rfl) rfl #[.slice A2 l2.length c2] rfl (by (try simp only [List.map_toArray, List.map_cons, List.map_nil]); first | done | rfl | (simp only [List.length_drop, List.length_take]; rfl)) ?_; (with_reducible refine (impl_TxsText.calls k1 _ _ l2 t287 _ ?side1 ?side2 ?side3 A16.out).mono ?_); (case side1 => repeat (first | exact (Kd.C_below HR2.out HB.out) | (with_reducible refine Kd.C_alloc ?_ _) | (with_reducible refine Kd.C_drewN ?_ _) | (with_reducible refine Kd.C_drew ?_))); (case side2 => exact HC2.out); (case side3 => exact LaidW.below HL0.out (by repeat (first | (with_reducible first | exact HB.out | apply below_alloc | apply pw_below_drewN | apply below_drew1) | exact HB.out))); rintro e w23 ⟨rfl, hb⟩; refine ⟨_, rfl, ?_⟩; have n0_ := Aside0.mk (below_step (by repeat (first | (with_reducible first | exact HB.out | apply below_alloc | apply pw_below_drewN | apply below_drew1) | exact HB.out)) hb); clear HB; have HB := n0_; clear n0_; (try clear hb); (try clear hb2); (try clear hk); (try clear hi)) | (go_at_call 20; (with_reducible refine (impl_NameOk.calls k1 ((((a0 ++ (⟨#[47]⟩ : ByteArray)) ++ t286) ++ (⟨#[124]⟩ : ByteArray)) ++ t287) t288 _ ?side1 A21.out).mono ?_); (case side1 => exact LaidW.below HL0.out (by repeat (first | (with_reducible first | exact HB.out | apply below_alloc | apply pw_below_drewN | apply below_drew1) | exact HB.out))); rintro e w24 ⟨rfl, hb⟩; have n0_ := Aside0.mk (below_step (by repeat (first | (with_reducible first | exact HB.out | apply below_alloc | apply pw_below_drewN | apply below_drew1) | exact HB.out)) hb); clear HB; have HB := n0_; clear n0_; (try clear hb); (try clear hb2); (try clear hk); (try clear hi)))
                  have H := HF.out
                  clear HF
                  by_cases c25 : t288 = true
                  · subst c25
                    have H1 : (some ((((a0 ++ (⟨#[47]⟩ : ByteArray)) ++ t286) ++ (⟨#[124]⟩ : ByteArray)) ++ t287)) = some r := by rw [if_pos rfl] at H; exact H
                    clear H
                    have H := H1
                    clear H1
                    obtain rfl := Option.some.inj H
                    go_wp2
                    go_ret
                    exact ⟨by first | rfl | (simp [errW_none, errW_some] <;> rfl) | (simp [*, errW_none, errW_some] <;> rfl), by repeat (first | (with_reducible first | exact HB.out | apply below_alloc | apply pw_below_drewN | apply below_drew1) | exact HB.out)⟩
                  · replace c25 := Bool.eq_false_iff.mpr c25
                    subst c25
                    have H1 : (some (⟨#[]⟩ : ByteArray)) = some r := by rw [if_neg (show ¬ (false = true) by decide)] at H; exact H
                    clear H
                    have H := H1
                    clear H1
                    obtain rfl := Option.some.inj H
                    go_wp2
                    go_ret
                    exact ⟨by first | rfl | (simp [errW_none, errW_some] <;> rfl) | (simp [*, errW_none, errW_some] <;> rfl), by repeat (first | (with_reducible first | exact HB.out | apply below_alloc | apply pw_below_drewN | apply below_drew1) | exact HB.out)⟩
              · rw [if_neg c17] at H
                exact absurd H (by simp)
            · rw [if_neg c15] at H
              exact absurd H (by simp)
          · rw [if_neg c14] at H
            exact absurd H (by simp)
        · rw [if_neg c12] at H
          exact absurd H (by simp)

/-! ### laws_eqTx: function 61 -/
def laws_eqTx.f (a0_0 : Int) (a0_1 : Int) (a0_2 : Int) (a0_3 : Int) (a1_0 : Int) (a1_1 : Int) (a1_2 : Int) (a1_3 : Int) : Option (Bool) := if a0_0 = a1_0 then (if a0_1 = a1_1 then (if a0_2 = a1_2 then (if a0_3 = a1_3 then (some true) else (some false)) else (some false)) else (some false)) else (some false)
set_option maxHeartbeats 8000000 in
set_option maxRecDepth 100000 in
theorem laws_eqTx.calls (a0_0 : Int) (a0_1 : Int) (a0_2 : Int) (a0_3 : Int) (a1_0 : Int) (a1_1 : Int) (a1_2 : Int) (a1_3 : Int) (r : Bool) (w : World) (h : laws_eqTx.f a0_0 a0_1 a0_2 a0_3 a1_0 a1_1 a1_2 a1_3 = some r) :
    Calls Tryd.prog 61 #[.agg #[.int .i64 a0_0, .int .i64 a0_1, .int .i64 a0_2, .int .i64 a0_3], .agg #[.int .i64 a1_0, .int .i64 a1_1, .int .i64 a1_2, .int .i64 a1_3]] w fun e w' => e = .returned (.bool r) ∧ Below w.heap.size w w' := by
  have hu44 := Tryd.underlying44
  have HB := Aside0.mk (Below.refl w.heap.size w)
  have H : (if a0_0 = a1_0 then (if a0_1 = a1_1 then (if a0_2 = a1_2 then (if a0_3 = a1_3 then (some true) else (some false)) else (some false)) else (some false)) else (some false)) = some r := h
  clear h
  have HF := Aside0.mk H
  clear H
  go_enter Tryd.func61, Tryd.ntmps61
  go_upto_if 9 with (go_big_may; first | ((with_reducible refine gate_dst (N := 2) rfl ?_); refine box_event ?hg (N := 2) ?hd (cs := #[.int .i64 a0_0, .int .i64 a0_1, .int .i64 a0_2, .int .i64 a0_3]) (t := 44) ?hr ?_; (case hd => rfl); (case hg => rfl); (case hr => first | (go_simp; done) | (go_simp; rfl)); intro gb289 hg w3 hbox hb; have n0_ := Aside0.mk (below_step (by repeat (first | (with_reducible first | exact HB.out | apply below_alloc | apply pw_below_drewN | apply below_drew1) | exact HB.out)) hb); have n1_ := Aside0.mk (hbox); have n2_ := Aside0.mk ((by rw [hg]; exact (below_size (by repeat (first | (with_reducible first | exact HB.out | apply below_alloc | apply pw_below_drewN | apply below_drew1) | exact HB.out))) : w.heap.size ≤ gb289)); have n3_ := Aside0.mk ((by rw [hg]; exact (below_size (by repeat (first | (with_reducible first | exact HB.out | apply below_alloc | apply pw_below_drewN | apply below_drew1) | exact HB.out))) : w.heap.size ≤ gb289)); clear HB; have HB := n0_; have BK289 := n1_; have GW289 := n2_; have GE289 := n3_; clear n0_ n1_ n2_ n3_; clear hb hbox hg) | ((with_reducible refine gate_dst (N := 3) rfl ?_); refine box_event ?hg (N := 3) ?hd (cs := #[.int .i64 a1_0, .int .i64 a1_1, .int .i64 a1_2, .int .i64 a1_3]) (t := 44) ?hr ?_; (case hd => rfl); (case hg => rfl); (case hr => first | (go_simp; done) | (go_simp; rfl)); intro gb290 hg w4 hbox hb; have n0_ := Aside0.mk (blk_below (g := gb289) (o := .cells #[.int .i64 a0_0, .int .i64 a0_1, .int .i64 a0_2, .int .i64 a0_3] 44 (0, 0)) (by (with_reducible repeat (first | refine blk_drewN ?_ _ | refine blk_drew ?_ | refine blk_alloc ?_ _)); exact BK289.out) hb); have n1_ := Aside0.mk (below_step (by repeat (first | (with_reducible first | exact HB.out | apply below_alloc | apply pw_below_drewN | apply below_drew1 | refine below_set ?_ GE289.out) | exact HB.out)) hb); have n2_ := Aside0.mk (hbox); have n3_ := Aside0.mk ((by rw [hg]; exact (below_size (by repeat (first | (with_reducible first | exact HB.out | apply below_alloc | apply pw_below_drewN | apply below_drew1 | refine below_set ?_ GE289.out) | exact HB.out))) : w.heap.size ≤ gb290)); have n4_ := Aside0.mk ((by rw [hg]; exact (below_size (by repeat (first | (with_reducible first | exact HB.out | apply below_alloc | apply pw_below_drewN | apply below_drew1 | refine below_set ?_ GE289.out) | exact HB.out))) : w.heap.size ≤ gb290)); have n5_ := Aside0.mk ((by rw [hg]; exact Nat.ne_of_lt (blk_lt (g := gb289) (o := .cells #[.int .i64 a0_0, .int .i64 a0_1, .int .i64 a0_2, .int .i64 a0_3] 44 (0, 0)) (by (with_reducible repeat (first | refine blk_drewN ?_ _ | refine blk_drew ?_ | refine blk_alloc ?_ _)); exact BK289.out)) : gb289 ≠ gb290)); have n6_ := Aside0.mk ((by rw [hg]; exact Nat.ne_of_gt (blk_lt (g := gb289) (o := .cells #[.int .i64 a0_0, .int .i64 a0_1, .int .i64 a0_2, .int .i64 a0_3] 44 (0, 0)) (by (with_reducible repeat (first | refine blk_drewN ?_ _ | refine blk_drew ?_ | refine blk_alloc ?_ _)); exact BK289.out)) : gb290 ≠ gb289)); clear BK289; clear HB; have BK289 := n0_; have HB := n1_; have BK290 := n2_; have GW290 := n3_; have GE290 := n4_; have NB289_290 := n5_; have NB290_289 := n6_; clear n0_ n1_ n2_ n3_ n4_ n5_ n6_; clear hb hbox hg; have hnb5 := NB289_290.out; have hnc5 := NB290_289.out; have hcz6_0 : w4.cell? ⟨gb289, 0, none⟩ = some (.int .i64 a0_0) := (blk_cell BK289.out 0).trans rfl; have hcz6_1 : w4.cell? ⟨gb289, 1, none⟩ = some (.int .i64 a0_1) := (blk_cell BK289.out 1).trans rfl; have hcz6_2 : w4.cell? ⟨gb289, 2, none⟩ = some (.int .i64 a0_2) := (blk_cell BK289.out 2).trans rfl; have hcz6_3 : w4.cell? ⟨gb289, 3, none⟩ = some (.int .i64 a0_3) := (blk_cell BK289.out 3).trans rfl; have hfz6_0 := blk_frozen BK289.out 0; have hfz6_1 := blk_frozen BK289.out 1; have hfz6_2 := blk_frozen BK289.out 2; have hfz6_3 := blk_frozen BK289.out 3; have hcz7_0 : w4.cell? ⟨gb290, 0, none⟩ = some (.int .i64 a1_0) := (blk_cell BK290.out 0).trans rfl; have hcz7_1 : w4.cell? ⟨gb290, 1, none⟩ = some (.int .i64 a1_1) := (blk_cell BK290.out 1).trans rfl; have hcz7_2 : w4.cell? ⟨gb290, 2, none⟩ = some (.int .i64 a1_2) := (blk_cell BK290.out 2).trans rfl; have hcz7_3 : w4.cell? ⟨gb290, 3, none⟩ = some (.int .i64 a1_3) := (blk_cell BK290.out 3).trans rfl; have hfz7_0 := blk_frozen BK290.out 0; have hfz7_1 := blk_frozen BK290.out 1; have hfz7_2 := blk_frozen BK290.out 2; have hfz7_3 := blk_frozen BK290.out 3))
  have H := HF.out
  clear HF
  by_cases c8 : a0_0 = a1_0
  · rw [if_pos c8] at H
    have c8b0 : (a0_0 == a1_0) = true := beq_iff_eq.mpr c8
    have c8b1 : (a0_0 != a1_0) = false := bne_eq_false_iff_eq.mpr c8
    clear c8
    (first | rw [c8b0] | (simp only [i64_w, i32_w]; rw [c8b0]) | skip)
    have HF := Aside0.mk H
    clear H
    have hnb9 := NB289_290.out
    have hnc9 := NB290_289.out
    have hcz10_0 : w4.cell? ⟨gb289, 0, none⟩ = some (.int .i64 a0_0) := (blk_cell BK289.out 0).trans rfl
    have hcz10_1 : w4.cell? ⟨gb289, 1, none⟩ = some (.int .i64 a0_1) := (blk_cell BK289.out 1).trans rfl
    have hcz10_2 : w4.cell? ⟨gb289, 2, none⟩ = some (.int .i64 a0_2) := (blk_cell BK289.out 2).trans rfl
    have hcz10_3 : w4.cell? ⟨gb289, 3, none⟩ = some (.int .i64 a0_3) := (blk_cell BK289.out 3).trans rfl
    have hfz10_0 := blk_frozen BK289.out 0
    have hfz10_1 := blk_frozen BK289.out 1
    have hfz10_2 := blk_frozen BK289.out 2
    have hfz10_3 := blk_frozen BK289.out 3
    have hcz11_0 : w4.cell? ⟨gb290, 0, none⟩ = some (.int .i64 a1_0) := (blk_cell BK290.out 0).trans rfl
    have hcz11_1 : w4.cell? ⟨gb290, 1, none⟩ = some (.int .i64 a1_1) := (blk_cell BK290.out 1).trans rfl
    have hcz11_2 : w4.cell? ⟨gb290, 2, none⟩ = some (.int .i64 a1_2) := (blk_cell BK290.out 2).trans rfl
    have hcz11_3 : w4.cell? ⟨gb290, 3, none⟩ = some (.int .i64 a1_3) := (blk_cell BK290.out 3).trans rfl
    have hfz11_0 := blk_frozen BK290.out 0
    have hfz11_1 := blk_frozen BK290.out 1
    have hfz11_2 := blk_frozen BK290.out 2
    have hfz11_3 := blk_frozen BK290.out 3
    go_upto_if 14 with (fail)
    have H := HF.out
    clear HF
    by_cases c12 : a0_1 = a1_1
    · rw [if_pos c12] at H
      have c12b0 : (a0_1 == a1_1) = true := beq_iff_eq.mpr c12
      have c12b1 : (a0_1 != a1_1) = false := bne_eq_false_iff_eq.mpr c12
      clear c12
      (first | rw [c12b0] | (simp only [i64_w, i32_w]; rw [c12b0]) | skip)
      have HF := Aside0.mk H
      clear H
      have hnb13 := NB289_290.out
      have hnc13 := NB290_289.out
      have hcz14_0 : w4.cell? ⟨gb289, 0, none⟩ = some (.int .i64 a0_0) := (blk_cell BK289.out 0).trans rfl
      have hcz14_1 : w4.cell? ⟨gb289, 1, none⟩ = some (.int .i64 a0_1) := (blk_cell BK289.out 1).trans rfl
      have hcz14_2 : w4.cell? ⟨gb289, 2, none⟩ = some (.int .i64 a0_2) := (blk_cell BK289.out 2).trans rfl
      have hcz14_3 : w4.cell? ⟨gb289, 3, none⟩ = some (.int .i64 a0_3) := (blk_cell BK289.out 3).trans rfl
      have hfz14_0 := blk_frozen BK289.out 0
      have hfz14_1 := blk_frozen BK289.out 1
      have hfz14_2 := blk_frozen BK289.out 2
      have hfz14_3 := blk_frozen BK289.out 3
      have hcz15_0 : w4.cell? ⟨gb290, 0, none⟩ = some (.int .i64 a1_0) := (blk_cell BK290.out 0).trans rfl
      have hcz15_1 : w4.cell? ⟨gb290, 1, none⟩ = some (.int .i64 a1_1) := (blk_cell BK290.out 1).trans rfl
      have hcz15_2 : w4.cell? ⟨gb290, 2, none⟩ = some (.int .i64 a1_2) := (blk_cell BK290.out 2).trans rfl
      have hcz15_3 : w4.cell? ⟨gb290, 3, none⟩ = some (.int .i64 a1_3) := (blk_cell BK290.out 3).trans rfl
      have hfz15_0 := blk_frozen BK290.out 0
      have hfz15_1 := blk_frozen BK290.out 1
      have hfz15_2 := blk_frozen BK290.out 2
      have hfz15_3 := blk_frozen BK290.out 3
      go_upto_if 19 with (fail)
      have H := HF.out
      clear HF
      by_cases c16 : a0_2 = a1_2
      · rw [if_pos c16] at H
        have c16b0 : (a0_2 == a1_2) = true := beq_iff_eq.mpr c16
        have c16b1 : (a0_2 != a1_2) = false := bne_eq_false_iff_eq.mpr c16
        clear c16
        (first | rw [c16b0] | (simp only [i64_w, i32_w]; rw [c16b0]) | skip)
        have HF := Aside0.mk H
        clear H
        have hnb17 := NB289_290.out
        have hnc17 := NB290_289.out
        have hcz18_0 : w4.cell? ⟨gb289, 0, none⟩ = some (.int .i64 a0_0) := (blk_cell BK289.out 0).trans rfl
        have hcz18_1 : w4.cell? ⟨gb289, 1, none⟩ = some (.int .i64 a0_1) := (blk_cell BK289.out 1).trans rfl
        have hcz18_2 : w4.cell? ⟨gb289, 2, none⟩ = some (.int .i64 a0_2) := (blk_cell BK289.out 2).trans rfl
        have hcz18_3 : w4.cell? ⟨gb289, 3, none⟩ = some (.int .i64 a0_3) := (blk_cell BK289.out 3).trans rfl
        have hfz18_0 := blk_frozen BK289.out 0
        have hfz18_1 := blk_frozen BK289.out 1
        have hfz18_2 := blk_frozen BK289.out 2
        have hfz18_3 := blk_frozen BK289.out 3
        have hcz19_0 : w4.cell? ⟨gb290, 0, none⟩ = some (.int .i64 a1_0) := (blk_cell BK290.out 0).trans rfl
        have hcz19_1 : w4.cell? ⟨gb290, 1, none⟩ = some (.int .i64 a1_1) := (blk_cell BK290.out 1).trans rfl
        have hcz19_2 : w4.cell? ⟨gb290, 2, none⟩ = some (.int .i64 a1_2) := (blk_cell BK290.out 2).trans rfl
        have hcz19_3 : w4.cell? ⟨gb290, 3, none⟩ = some (.int .i64 a1_3) := (blk_cell BK290.out 3).trans rfl
        have hfz19_0 := blk_frozen BK290.out 0
        have hfz19_1 := blk_frozen BK290.out 1
        have hfz19_2 := blk_frozen BK290.out 2
        have hfz19_3 := blk_frozen BK290.out 3
        go_upto_if 24 with (fail)
        have H := HF.out
        clear HF
        by_cases c20 : a0_3 = a1_3
        · rw [if_pos c20] at H
          have c20b0 : (a0_3 == a1_3) = true := beq_iff_eq.mpr c20
          have c20b1 : (a0_3 != a1_3) = false := bne_eq_false_iff_eq.mpr c20
          clear c20
          (first | rw [c20b0] | (simp only [i64_w, i32_w]; rw [c20b0]) | skip)
          obtain rfl := Option.some.inj H
          go_wp2
          go_ret
          exact ⟨by first | rfl | (simp [errW_none, errW_some] <;> rfl) | (simp [*, errW_none, errW_some] <;> rfl), by repeat (first | (with_reducible first | exact HB.out | apply below_alloc | apply pw_below_drewN | apply below_drew1 | refine below_set ?_ GE289.out | refine below_set ?_ GE290.out) | exact HB.out)⟩
        · rw [if_neg c20] at H
          have c20b0 : (a0_3 == a1_3) = false := beq_eq_false_iff_ne.mpr c20
          have c20b1 : (a0_3 != a1_3) = true := bne_iff_ne.mpr c20
          (first | rw [c20b0] | (simp only [i64_w, i32_w]; rw [c20b0]) | skip)
          obtain rfl := Option.some.inj H
          go_wp2
          go_ret
          exact ⟨by first | rfl | (simp [errW_none, errW_some] <;> rfl) | (simp [*, errW_none, errW_some] <;> rfl), by repeat (first | (with_reducible first | exact HB.out | apply below_alloc | apply pw_below_drewN | apply below_drew1 | refine below_set ?_ GE289.out | refine below_set ?_ GE290.out) | exact HB.out)⟩
      · rw [if_neg c16] at H
        have c16b0 : (a0_2 == a1_2) = false := beq_eq_false_iff_ne.mpr c16
        have c16b1 : (a0_2 != a1_2) = true := bne_iff_ne.mpr c16
        (first | rw [c16b0] | (simp only [i64_w, i32_w]; rw [c16b0]) | skip)
        obtain rfl := Option.some.inj H
        go_wp2
        go_ret
        exact ⟨by first | rfl | (simp [errW_none, errW_some] <;> rfl) | (simp [*, errW_none, errW_some] <;> rfl), by repeat (first | (with_reducible first | exact HB.out | apply below_alloc | apply pw_below_drewN | apply below_drew1 | refine below_set ?_ GE289.out | refine below_set ?_ GE290.out) | exact HB.out)⟩
    · rw [if_neg c12] at H
      have c12b0 : (a0_1 == a1_1) = false := beq_eq_false_iff_ne.mpr c12
      have c12b1 : (a0_1 != a1_1) = true := bne_iff_ne.mpr c12
      (first | rw [c12b0] | (simp only [i64_w, i32_w]; rw [c12b0]) | skip)
      obtain rfl := Option.some.inj H
      go_wp2
      go_ret
      exact ⟨by first | rfl | (simp [errW_none, errW_some] <;> rfl) | (simp [*, errW_none, errW_some] <;> rfl), by repeat (first | (with_reducible first | exact HB.out | apply below_alloc | apply pw_below_drewN | apply below_drew1 | refine below_set ?_ GE289.out | refine below_set ?_ GE290.out) | exact HB.out)⟩
  · rw [if_neg c8] at H
    have c8b0 : (a0_0 == a1_0) = false := beq_eq_false_iff_ne.mpr c8
    have c8b1 : (a0_0 != a1_0) = true := bne_iff_ne.mpr c8
    (first | rw [c8b0] | (simp only [i64_w, i32_w]; rw [c8b0]) | skip)
    obtain rfl := Option.some.inj H
    go_wp2
    go_ret
    exact ⟨by first | rfl | (simp [errW_none, errW_some] <;> rfl) | (simp [*, errW_none, errW_some] <;> rfl), by repeat (first | (with_reducible first | exact HB.out | apply below_alloc | apply pw_below_drewN | apply below_drew1 | refine below_set ?_ GE289.out | refine below_set ?_ GE290.out) | exact HB.out)⟩

/-! ### laws_eqTxS: function 18 -/
def laws_eqTxS.l0 : Nat → List (S44) → List (S44) → Int → Option (Bool)
  | 0, _, _, _ => none
  | k + 1, x0, x1, x5 => if x5 < (x0.length : Int) then (if 0 ≤ x5 then (if x5 < (x1.length : Int) then ((laws_eqTx.f ((rd_T44 x0 x5).f0) ((rd_T44 x0 x5).f1) ((rd_T44 x0 x5).f2) ((rd_T44 x0 x5).f3) ((rd_T44 x1 x5).f0) ((rd_T44 x1 x5).f1) ((rd_T44 x1 x5).f2) ((rd_T44 x1 x5).f3)).bind fun t293 => (if t293 = true then (laws_eqTxS.l0 k x0 x1 (wrap64 (x5 + 1))) else (some false))) else (none)) else (none)) else (some true)
def laws_eqTxS.f (k : Nat) (l0 : List (S44)) (l1 : List (S44)) : Option (Bool) := if (l0.length : Int) = (l1.length : Int) then (laws_eqTxS.l0 k l0 l1 0) else (some false)
theorem laws_eqTxS.mono_l : ∀ k, (∀ y0 y1 y2, LeO (laws_eqTxS.l0 k y0 y1 y2) (laws_eqTxS.l0 (k + 1) y0 y1 y2))
  | 0 => fun _ _ _ r h => by simp [laws_eqTxS.l0] at h
  | k + 1 => by
    have ih0 := laws_eqTxS.mono_l k
    · intro y0 y1 y2
      unfold laws_eqTxS.l0
      repeat' first
      | (with_reducible exact ih0 _ _ _)
      | (with_reducible exact LeO.refl _)
      | (with_reducible exact LeO.none _)
      | (with_reducible refine LeO.ite ?_ ?_)
      | (with_reducible refine LeO.bind ?_ (fun _ => ?_))
      | exact ih0 _ _ _
      | exact LeO.none _
      | refine LeO.ite ?_ ?_
      | refine LeO.bind ?_ (fun _ => ?_)
theorem laws_eqTxS.mono : ∀ a0 a1 k, LeO (laws_eqTxS.f k a0 a1) (laws_eqTxS.f (k + 1) a0 a1) := by
  intro a0 a1 k
  have ih0 := laws_eqTxS.mono_l k
  unfold laws_eqTxS.f
  repeat' first
      | (with_reducible exact ih0 _ _ _)
      | (with_reducible exact LeO.refl _)
      | (with_reducible exact LeO.none _)
      | (with_reducible refine LeO.ite ?_ ?_)
      | (with_reducible refine LeO.bind ?_ (fun _ => ?_))
      | exact ih0 _ _ _
      | exact LeO.none _
      | refine LeO.ite ?_ ?_
      | refine LeO.bind ?_ (fun _ => ?_)
def laws_eqTxS.T6 : Bool × List (List Nat × List Nat) := (true, [([], []), ([], []), ([0, 1], [0, 1]), ([2], [2]), ([], []), ([], []), ([4, 5], [4, 5]), ([6], [6]), ([3, 7], [3, 7]), ([8], [8])])
def laws_eqTxS.B6 : List Nat := [0, 0, 3, 7, 0, 0, 48, 112, 255, 511]
theorem laws_eqTxS.tab6 : rtab .any (opsOf Tryd.f18 6) = laws_eqTxS.T6 := by kernel_rfl
theorem laws_eqTxS.bits6 : waitsOk laws_eqTxS.T6.2 laws_eqTxS.B6 = true := by kernel_rfl
set_option maxHeartbeats 8000000 in
set_option maxRecDepth 100000 in
theorem laws_eqTxS.calls (k : Nat) (A0 : Option Addr) (c0 : Nat) (l0 : List (S44)) (A1 : Option Addr) (c1 : Nat) (l1 : List (S44)) (r : Bool) (w : World) (hr0 : Kd.C k44 w A0 l0.length l0) (hc0 : l0.length ≤ c0) (hr1 : Kd.C k44 w A1 l1.length l1) (hc1 : l1.length ≤ c1) (h : laws_eqTxS.f k l0 l1 = some r) :
    Calls Tryd.prog 18 #[.slice A0 l0.length c0, .slice A1 l1.length c1] w fun e w' => e = .returned (.bool r) ∧ Below w.heap.size w w' := by
  have hu44 := Tryd.underlying44
  have HR0 := Aside0.mk hr0
  have HC0 := Aside0.mk hc0
  clear hr0 hc0
  have HR1 := Aside0.mk hr1
  have HC1 := Aside0.mk hc1
  clear hr1 hc1
  have HB := Aside0.mk (Below.refl w.heap.size w)
  have H : (if (l0.length : Int) = (l1.length : Int) then (laws_eqTxS.l0 k l0 l1 0) else (some false)) = some r := h
  clear h
  have HF := Aside0.mk H
  clear H
  go_enter Tryd.func18, Tryd.ntmps18
  go_upto_if 10 with (fail)
  have H := HF.out
  clear HF
  by_cases c3 : (l0.length : Int) = (l1.length : Int)
  · rw [if_pos c3] at H
    have c3b0 : ((l0.length : Int) == (l1.length : Int)) = true := beq_iff_eq.mpr c3
    have c3b1 : ((l0.length : Int) != (l1.length : Int)) = false := bne_eq_false_iff_eq.mpr c3
    have c3b2 : (l0.length == l1.length) = true := by first | simpa using c3 | (simp at c3 ⊢; omega)
    clear c3
    (first | rw [c3b0] | (simp only [i64_w, i32_w]; rw [c3b0]) | skip)
    have H' := Aside0.mk H
    clear H
    go_wp2
    go_loopg [5] k (fun kq v5 w' => ∃ (x5_1 : Int), v5 = .int .i64 x5_1 ∧ Aside0 (laws_eqTxS.l0 kq l0 l1 x5_1 = some r) ∧ Aside0 (kq ≤ k) ∧ Aside0 (Below w.heap.size w w'))
    case atStart => exact ⟨(0), (by first | rfl | (simp; done) | (simp [*]; done)), H', ⟨Nat.le_refl _⟩, ⟨by repeat (first | (with_reducible first | exact HB.out | apply below_alloc | apply pw_below_drewN | apply below_drew1) | exact HB.out)⟩⟩
    case round =>
      clear H'
      try clear c1
      try clear p2
      try clear c3
      try clear c3b0
      try clear c3b1
      try clear c3b2
      obtain ⟨x5_1, rfl, HA, HK1, HB⟩ := hrel
      cases gk with
      | zero => exact absurd HA.out (by simp [laws_eqTxS.l0])
      | succ k1 =>
        have H := HA.out
        clear HA
        simp only [laws_eqTxS.l0] at H
        have HF := Aside0.mk H
        clear H
        go_upto_if 14 with (fail)
        have H := HF.out
        clear HF
        by_cases c4 : x5_1 < (l0.length : Int)
        · rw [if_pos c4] at H
          have c4b0 : decide (x5_1 < (l0.length : Int)) = true := decide_eq_true c4
          clear c4
          (first | rw [c4b0] | (simp only [i64_w, i32_w]; rw [c4b0]) | skip)
          by_cases c5 : 0 ≤ x5_1
          · rw [if_pos c5] at H
            have c5b0 : decide (0 ≤ x5_1) = true := decide_eq_true c5
            clear c5
            by_cases c6 : x5_1 < (l1.length : Int)
            · rw [if_pos c6] at H
              have c6b0 : decide (x5_1 < (l1.length : Int)) = true := decide_eq_true c6
              clear c6
              replace H := Option.bind_eq_some_iff.mp H
              obtain ⟨t293, A70, H⟩ := H
              replace H : (if t293 = true then (laws_eqTxS.l0 k1 l0 l1 (wrap64 (x5_1 + 1))) else (some false)) = some r := H
              have A7 := Aside0.mk A70
              clear A70
              have HF := Aside0.mk H
              clear H
              try go_wp2
              have n0_ := Aside0.mk (below_drew1 HB.out)
              clear HB
              have HB := n0_
              clear n0_
              have p291 : 0 ≤ (x5_1 : Int) := of_decide_eq_true (by first | (with_reducible assumption) | assumption)
              have q291 : x5_1 < (l0.length : Int) := of_decide_eq_true (by first | (with_reducible assumption) | assumption)
              obtain ⟨ad291, e291, hx291_0, hx291_1, hx291_2, hx291_3⟩ := at_T44 HR0.out x5_1 p291 q291
              have hw291_3 := hx291_3
              have hw291_2 := hx291_2
              have hw291_1 := hx291_1
              have hw291_0 := hx291_0
              cases e291
              replace hx291_0 := (HB.out.cell (World.block_lt_of_cell? w _ hx291_0)).trans hx291_0
              replace hx291_1 := (HB.out.cell (World.block_lt_of_cell? w _ hx291_1)).trans hx291_1
              replace hx291_2 := (HB.out.cell (World.block_lt_of_cell? w _ hx291_2)).trans hx291_2
              replace hx291_3 := (HB.out.cell (World.block_lt_of_cell? w _ hx291_3)).trans hx291_3
              replace p291 := eq_true p291
              replace q291 := eq_true q291
              have p292 : 0 ≤ (x5_1 : Int) := of_decide_eq_true (by first | (with_reducible assumption) | assumption)
              have q292 : x5_1 < (l1.length : Int) := of_decide_eq_true (by first | (with_reducible assumption) | assumption)
              obtain ⟨ad292, e292, hx292_0, hx292_1, hx292_2, hx292_3⟩ := at_T44 HR1.out x5_1 p292 q292
              have hw292_3 := hx292_3
              have hw292_2 := hx292_2
              have hw292_1 := hx292_1
              have hw292_0 := hx292_0
              cases e292
              replace hx292_0 := (HB.out.cell (World.block_lt_of_cell? w _ hx292_0)).trans hx292_0
              replace hx292_1 := (HB.out.cell (World.block_lt_of_cell? w _ hx292_1)).trans hx292_1
              replace hx292_2 := (HB.out.cell (World.block_lt_of_cell? w _ hx292_2)).trans hx292_2
              replace hx292_3 := (HB.out.cell (World.block_lt_of_cell? w _ hx292_3)).trans hx292_3
              replace p292 := eq_true p292
              replace q292 := eq_true q292
              refine start_ (n := 10) (S := fun w' => w'.cell? (ad291.add ((x5_1).toNat * 4)) = some (.int .i64 ((rd_T44 l0 x5_1).f0)) ∧ w'.cell? ⟨(ad291.add ((x5_1).toNat * 4)).block, (ad291.add ((x5_1).toNat * 4)).off + 1, none⟩ = some (.int .i64 ((rd_T44 l0 x5_1).f1)) ∧ w'.cell? ⟨(ad291.add ((x5_1).toNat * 4)).block, (ad291.add ((x5_1).toNat * 4)).off + 2, none⟩ = some (.int .i64 ((rd_T44 l0 x5_1).f2)) ∧ w'.cell? ⟨(ad291.add ((x5_1).toNat * 4)).block, (ad291.add ((x5_1).toNat * 4)).off + 3, none⟩ = some (.int .i64 ((rd_T44 l0 x5_1).f3)) ∧ w'.cell? (ad292.add ((x5_1).toNat * 4)) = some (.int .i64 ((rd_T44 l1 x5_1).f0)) ∧ w'.cell? ⟨(ad292.add ((x5_1).toNat * 4)).block, (ad292.add ((x5_1).toNat * 4)).off + 1, none⟩ = some (.int .i64 ((rd_T44 l1 x5_1).f1)) ∧ w'.cell? ⟨(ad292.add ((x5_1).toNat * 4)).block, (ad292.add ((x5_1).toNat * 4)).off + 2, none⟩ = some (.int .i64 ((rd_T44 l1 x5_1).f2)) ∧ w'.cell? ⟨(ad292.add ((x5_1).toNat * 4)).block, (ad292.add ((x5_1).toNat * 4)).off + 3, none⟩ = some (.int .i64 ((rd_T44 l1 x5_1).f3))) (ds := []) #[false, false, false, false, false, false, false, false, false, false] (by kernel_rfl) rfl rfl ⟨((HB.out.cell (World.block_lt_of_cell? w _ hw291_0)).trans hw291_0), ((HB.out.cell (World.block_lt_of_cell? w _ hw291_1)).trans hw291_1), ((HB.out.cell (World.block_lt_of_cell? w _ hw291_2)).trans hw291_2), ((HB.out.cell (World.block_lt_of_cell? w _ hw291_3)).trans hw291_3), ((HB.out.cell (World.block_lt_of_cell? w _ hw292_0)).trans hw292_0), ((HB.out.cell (World.block_lt_of_cell? w _ hw292_1)).trans hw292_1), ((HB.out.cell (World.block_lt_of_cell? w _ hw292_2)).trans hw292_2), ((HB.out.cell (World.block_lt_of_cell? w _ hw292_3)).trans hw292_3)⟩ (fun hHeld => ?_); refine with_tabW laws_eqTxS.tab6 laws_eqTxS.bits6 (fun HT_ HW_ => ?_)
              generalize wr.drew = w8 at HB hx291_0 hx291_1 hx291_2 hx291_3 hx292_0 hx292_1 hx292_2 hx292_3 hHeld ⊢
              refine pure_ (i := 0) (N := some 17) (v := ?_) (a' := ?_) #[true, false, false, false, false, false, false, false, false, false] rfl rfl (any_of HT_.out (by kernel_rfl)) (fun _ _ _ h => h) (Or.inl ⟨by rfl, ?_⟩) ?_ ?_
              rotate_left
              · intro w'
                go_simp
                with_reducible rfl
              rotate_left
              · simp only [Act.put, List.setIfInBounds_toArray, List.set_cons_zero, List.set_cons_succ, i64_w, i32_w]
                rfl
              refine pure_ (i := 1) (N := some 18) (v := ?_) (a' := ?_) #[true, true, false, false, false, false, false, false, false, false] rfl rfl (any_of HT_.out (by kernel_rfl)) (fun _ _ _ h => h) (Or.inl ⟨by rfl, ?_⟩) ?_ ?_
              rotate_left
              · intro w'
                go_simp
                with_reducible rfl
              rotate_left
              · simp only [Act.put, List.setIfInBounds_toArray, List.set_cons_zero, List.set_cons_succ, i64_w, i32_w]
                rfl
              refine pure_ (i := 2) (N := some 19) (v := ?_) (a' := ?_) #[true, true, true, false, false, false, false, false, false, false] rfl rfl (any_of HT_.out (by kernel_rfl)) (fun _ _ _ h => h) (Or.inl ⟨by rfl, ?_⟩) ?_ ?_
              rotate_left
              · intro w'
                go_simp
                with_reducible rfl
              rotate_left
              · simp only [Act.put, List.setIfInBounds_toArray, List.set_cons_zero, List.set_cons_succ, i64_w, i32_w]
                rfl
              refine pure_ (i := 4) (N := some 21) (v := ?_) (a' := ?_) #[true, true, true, false, true, false, false, false, false, false] rfl rfl (any_of HT_.out (by kernel_rfl)) (fun _ _ _ h => h) (Or.inl ⟨by rfl, ?_⟩) ?_ ?_
              rotate_left
              · intro w'
                go_simp
                with_reducible rfl
              rotate_left
              · simp only [Act.put, List.setIfInBounds_toArray, List.set_cons_zero, List.set_cons_succ, i64_w, i32_w]
                rfl
              refine pure_ (i := 5) (N := some 22) (v := ?_) (a' := ?_) #[true, true, true, false, true, true, false, false, false, false] rfl rfl (any_of HT_.out (by kernel_rfl)) (fun _ _ _ h => h) (Or.inl ⟨by rfl, ?_⟩) ?_ ?_
              rotate_left
              · intro w'
                go_simp
                with_reducible rfl
              rotate_left
              · simp only [Act.put, List.setIfInBounds_toArray, List.set_cons_zero, List.set_cons_succ, i64_w, i32_w]
                rfl
              refine pure_ (i := 6) (N := some 23) (v := ?_) (a' := ?_) #[true, true, true, false, true, true, true, false, false, false] rfl rfl (any_of HT_.out (by kernel_rfl)) (fun _ _ _ h => h) (Or.inl ⟨by rfl, ?_⟩) ?_ ?_
              rotate_left
              · intro w'
                go_simp
                with_reducible rfl
              rotate_left
              · simp only [Act.put, List.setIfInBounds_toArray, List.set_cons_zero, List.set_cons_succ, i64_w, i32_w]
                rfl
              refine take_ (i := 3) (N := some 20) (v := ?_) (a' := ?_) #[true, true, true, true, true, true, true, false, false, false] rfl rfl (take_ofW HT_.out HW_.out (by kernel_rfl)) (fun _ _ _ h => h) (Or.inl ⟨by rfl, ?_⟩) hHeld ?_ ?_
              rotate_left
              · rintro w' ⟨s0, s1, s2, s3, s4, s5, s6, s7⟩
                go_simp
                with_reducible rfl
              rotate_left
              · simp only [Act.put, List.setIfInBounds_toArray, List.set_cons_zero, List.set_cons_succ, i64_w, i32_w]
                rfl
              refine take_ (i := 7) (N := some 24) (v := ?_) (a' := ?_) #[true, true, true, true, true, true, true, true, false, false] rfl rfl (take_ofW HT_.out HW_.out (by kernel_rfl)) (fun _ _ _ h => h) (Or.inl ⟨by rfl, ?_⟩) hHeld ?_ ?_
              rotate_left
              · rintro w' ⟨s0, s1, s2, s3, s4, s5, s6, s7⟩
                go_simp
                with_reducible rfl
              rotate_left
              · simp only [Act.put, List.setIfInBounds_toArray, List.set_cons_zero, List.set_cons_succ, i64_w, i32_w]
                rfl
              refine one_ (i := 8) (N := some 25) #[true, true, true, true, true, true, true, true, true, false] rfl rfl (one_of HT_.out (by kernel_rfl)) (by decide) (fun K hK => ?_)
              refine goes_ Tryd.func61 (by kernel_rfl) rfl #[.agg #[.int .i64 ((rd_T44 l0 x5_1).f0), .int .i64 ((rd_T44 l0 x5_1).f1), .int .i64 ((rd_T44 l0 x5_1).f2), .int .i64 ((rd_T44 l0 x5_1).f3)], .agg #[.int .i64 ((rd_T44 l1 x5_1).f0), .int .i64 ((rd_T44 l1 x5_1).f1), .int .i64 ((rd_T44 l1 x5_1).f2), .int .i64 ((rd_T44 l1 x5_1).f3)]] (by rfl) rfl rfl (by (try simp only [List.map_toArray, List.map_cons, List.map_nil]); first | done | rfl | (simp only [List.length_drop, List.length_take]; rfl)) ?_
              with_reducible refine (laws_eqTx.calls ((rd_T44 l0 x5_1).f0) ((rd_T44 l0 x5_1).f1) ((rd_T44 l0 x5_1).f2) ((rd_T44 l0 x5_1).f3) ((rd_T44 l1 x5_1).f0) ((rd_T44 l1 x5_1).f1) ((rd_T44 l1 x5_1).f2) ((rd_T44 l1 x5_1).f3) t293 _ A7.out).mono ?_
              rintro e w9 ⟨rfl, hb⟩
              refine ⟨_, rfl, ?_⟩
              have n0_ := Aside0.mk (below_step (by repeat (first | (with_reducible first | exact HB.out | apply below_alloc | apply pw_below_drewN | apply below_drew1) | exact HB.out)) hb)
              clear HB
              have HB := n0_
              clear n0_
              (try clear hb)
              (try clear hb2)
              (try clear hk)
              (try clear hi)
              refine hK.out _ _ ⟨((HB.out.cell (World.block_lt_of_cell? w _ hw291_0)).trans hw291_0), ((HB.out.cell (World.block_lt_of_cell? w _ hw291_1)).trans hw291_1), ((HB.out.cell (World.block_lt_of_cell? w _ hw291_2)).trans hw291_2), ((HB.out.cell (World.block_lt_of_cell? w _ hw291_3)).trans hw291_3), ((HB.out.cell (World.block_lt_of_cell? w _ hw292_0)).trans hw292_0), ((HB.out.cell (World.block_lt_of_cell? w _ hw292_1)).trans hw292_1), ((HB.out.cell (World.block_lt_of_cell? w _ hw292_2)).trans hw292_2), ((HB.out.cell (World.block_lt_of_cell? w _ hw292_3)).trans hw292_3)⟩ (fun hHeld => ?_)
              clear hK K
              refine norm_ (a' := ?_) ?_ ?_
              rotate_left
              · show Act.put _ (some 25) _ = _
                simp only [Act.put, List.setIfInBounds_toArray, List.set_cons_zero, List.set_cons_succ, i64_w, i32_w]
                rfl
              refine pure_ (i := 9) (N := some 26) (v := ?_) (a' := ?_) #[true, true, true, true, true, true, true, true, true, true] rfl rfl (any_of HT_.out (by kernel_rfl)) (fun _ _ _ h => h) (Or.inl ⟨by rfl, ?_⟩) ?_ ?_
              rotate_left
              · intro w'
                go_simp
                with_reducible rfl
              rotate_left
              · simp only [Act.put, List.setIfInBounds_toArray, List.set_cons_zero, List.set_cons_succ, i64_w, i32_w]
                rfl
              refine done_ (done_of HT_.out (by kernel_rfl)) ?_
              go_upto_if 26 with (fail)
              have H := HF.out
              clear HF
              by_cases c10 : t293 = true
              · subst c10
                have H1 : (laws_eqTxS.l0 k1 l0 l1 (wrap64 (x5_1 + 1))) = some r := by rw [if_pos rfl] at H; exact H
                clear H
                have H := H1
                clear H1
                have H' := Aside0.mk H
                clear H
                go_wp2
                go_roundg k1
                case measure => have := HK1.out; omega
                case rel => exact ⟨(wrap64 (x5_1 + 1)), (by first | rfl | (simp; done) | (simp [*]; done)), H', ⟨by have := HK1.out; omega⟩, ⟨by repeat (first | (with_reducible first | exact HB.out | apply below_alloc | apply pw_below_drewN | apply below_drew1) | exact HB.out)⟩⟩
              · replace c10 := Bool.eq_false_iff.mpr c10
                subst c10
                have H1 : (some false) = some r := by rw [if_neg (show ¬ (false = true) by decide)] at H; exact H
                clear H
                have H := H1
                clear H1
                obtain rfl := Option.some.inj H
                go_wp2
                go_ret
                exact ⟨by first | rfl | (simp [errW_none, errW_some] <;> rfl) | (simp [*, errW_none, errW_some] <;> rfl), by repeat (first | (with_reducible first | exact HB.out | apply below_alloc | apply pw_below_drewN | apply below_drew1) | exact HB.out)⟩
            · rw [if_neg c6] at H
              exact absurd H (by simp)
          · rw [if_neg c5] at H
            exact absurd H (by simp)
        · rw [if_neg c4] at H
          have c4b0 : decide (x5_1 < (l0.length : Int)) = false := decide_eq_false c4
          clear c4
          (first | rw [c4b0] | (simp only [i64_w, i32_w]; rw [c4b0]) | skip)
          obtain rfl := Option.some.inj H
          go_wp2
          go_ret
          exact ⟨by first | rfl | (simp [errW_none, errW_some] <;> rfl) | (simp [*, errW_none, errW_some] <;> rfl), by repeat (first | (with_reducible first | exact HB.out | apply below_alloc | apply pw_below_drewN | apply below_drew1) | exact HB.out)⟩
  · rw [if_neg c3] at H
    have c3b0 : ((l0.length : Int) == (l1.length : Int)) = false := beq_eq_false_iff_ne.mpr c3
    have c3b1 : ((l0.length : Int) != (l1.length : Int)) = true := bne_iff_ne.mpr c3
    have c3b2 : (l0.length == l1.length) = false := by first | simpa using c3 | (simp at c3 ⊢; omega)
    (first | rw [c3b0] | (simp only [i64_w, i32_w]; rw [c3b0]) | skip)
    obtain rfl := Option.some.inj H
    go_wp2
    go_ret
    exact ⟨by first | rfl | (simp [errW_none, errW_some] <;> rfl) | (simp [*, errW_none, errW_some] <;> rfl), by repeat (first | (with_reducible first | exact HB.out | apply below_alloc | apply pw_below_drewN | apply below_drew1) | exact HB.out)⟩

/-! ### laws_FnExactNameOf: function 3 -/
def laws_FnExactNameOf.f (k : Nat) (a0 : ByteArray) (a1 : Int) (l2 : List (S56)) : Option (Bool) := if (a0.size : Int) > 1048576 then (some true) else ((laws_szTxS.f l2 1048576).bind fun t294 => (if t294 < 0 then (some true) else ((laws_toTxS.f k l2).bind fun t295 => ((spec_NameOf.f k a0 a1 t295).bind fun t298 => ((laws_toTxS.f k l2).bind fun t299 => ((impl_NameOf.f k a0 a1 t299).bind fun t302 => (if t302.toList = t298.toList then ((laws_toTxS.f k l2).bind fun t303 => ((laws_eqTxS.f k t299 t303).bind fun t306 => (if t306 = true then (some true) else (some false)))) else (some false))))))))
theorem laws_FnExactNameOf.mono : ∀ a0 a1 a2 k, LeO (laws_FnExactNameOf.f k a0 a1 a2) (laws_FnExactNameOf.f (k + 1) a0 a1 a2) := by
  intro a0 a1 a2 k
  unfold laws_FnExactNameOf.f
  repeat' first
      | (with_reducible exact impl_NameOf.mono _ _ _ _)
      | (with_reducible exact laws_eqTxS.mono _ _ _)
      | (with_reducible exact laws_toTxS.mono _ _)
      | (with_reducible exact spec_NameOf.mono _ _ _ _)
      | (with_reducible exact LeO.refl _)
      | (with_reducible exact LeO.none _)
      | (with_reducible refine LeO.ite ?_ ?_)
      | (with_reducible refine LeO.bind ?_ (fun _ => ?_))
      | exact impl_NameOf.mono _ _ _ _
      | exact laws_eqTxS.mono _ _ _
      | exact laws_toTxS.mono _ _
      | exact spec_NameOf.mono _ _ _ _
      | exact LeO.none _
      | refine LeO.ite ?_ ?_
      | refine LeO.bind ?_ (fun _ => ?_)
set_option maxHeartbeats 8000000 in
set_option maxRecDepth 100000 in
theorem laws_FnExactNameOf.calls (k : Nat) (a0 : ByteArray) (a1 : Int) (A2 : Option Addr) (c2 : Nat) (l2 : List (S56)) (r : Bool) (w : World) (hr2 : Kd.C k56 w A2 l2.length l2) (hc2 : l2.length ≤ c2) (hL : LaidW w) (hT : r = true) (h : laws_FnExactNameOf.f k a0 a1 l2 = some r) :
    Calls Tryd.prog 3 #[.string a0, .int .i64 a1, .slice A2 l2.length c2] w fun e w' => e = .returned (.bool r) ∧ Below w.heap.size w w' := by
  have HR2 := Aside0.mk hr2
  have HC2 := Aside0.mk hc2
  clear hr2 hc2
  have HRT := Aside0.mk hT
  clear hT
  have HL0 := Aside0.mk hL
  clear hL
  have HB := Aside0.mk (Below.refl w.heap.size w)
  have H : (if (a0.size : Int) > 1048576 then (some true) else ((laws_szTxS.f l2 1048576).bind fun t294 => (if t294 < 0 then (some true) else ((laws_toTxS.f k l2).bind fun t295 => ((spec_NameOf.f k a0 a1 t295).bind fun t298 => ((laws_toTxS.f k l2).bind fun t299 => ((impl_NameOf.f k a0 a1 t299).bind fun t302 => (if t302.toList = t298.toList then ((laws_toTxS.f k l2).bind fun t303 => ((laws_eqTxS.f k t299 t303).bind fun t306 => (if t306 = true then (some true) else (some false)))) else (some false))))))))) = some r := h
  clear h
  by_cases c4 : (a0.size : Int) > 1048576
  · rw [if_pos c4] at H
    have c4b0 : decide (1048576 < (a0.size : Int)) = true := decide_eq_true c4
    have c4b1 : decide (1048576 < a0.size) = true := decide_eq_true (by omega)
    clear c4
    obtain rfl := Option.some.inj H
    go_enter Tryd.func3, Tryd.ntmps3
    go_wp2
    go_ret
    exact ⟨by first | rfl | (simp [errW_none, errW_some] <;> rfl) | (simp [*, errW_none, errW_some] <;> rfl), by repeat (first | (with_reducible first | exact HB.out | apply below_alloc | apply pw_below_drewN | apply below_drew1) | exact HB.out)⟩
  · rw [if_neg c4] at H
    have c4b0 : decide (1048576 < (a0.size : Int)) = false := decide_eq_false c4
    have c4b1 : decide (1048576 < a0.size) = false := decide_eq_false (by omega)
    clear c4
    replace H := Option.bind_eq_some_iff.mp H
    obtain ⟨t294, A50, H⟩ := H
    replace H : (if t294 < 0 then (some true) else ((laws_toTxS.f k l2).bind fun t295 => ((spec_NameOf.f k a0 a1 t295).bind fun t298 => ((laws_toTxS.f k l2).bind fun t299 => ((impl_NameOf.f k a0 a1 t299).bind fun t302 => (if t302.toList = t298.toList then ((laws_toTxS.f k l2).bind fun t303 => ((laws_eqTxS.f k t299 t303).bind fun t306 => (if t306 = true then (some true) else (some false)))) else (some false))))))) = some r := H
    have A5 := Aside0.mk A50
    clear A50
    by_cases c6 : t294 < 0
    · rw [if_pos c6] at H
      have c6b0 : decide (t294 < 0) = true := decide_eq_true c6
      clear c6
      obtain rfl := Option.some.inj H
      go_enter Tryd.func3, Tryd.ntmps3
      go_wp2_with (first | ((with_reducible refine gate_callee (f := 14) rfl ?_); refine goesL_ (some 16) rfl rfl Tryd.func14 (by kernel_rfl) rfl #[.slice A2 l2.length c2, .int .i64 1048576] rfl (by (try simp only [List.map_toArray, List.map_cons, List.map_nil]); first | done | rfl | (simp only [List.length_drop, List.length_take]; rfl)) ?_; (with_reducible refine (laws_szTxS.calls _ _ l2 1048576 t294 _ ?side1 ?side2 A5.out).mono ?_); (case side1 => repeat (first | exact HR2.out | (with_reducible refine Kd.C_alloc ?_ _) | (with_reducible refine Kd.C_drewN ?_ _) | (with_reducible refine Kd.C_drew ?_))); (case side2 => exact HC2.out); rintro e w' ⟨rfl, ⟨nd, rfl⟩⟩; refine ⟨_, rfl, ?_⟩))
      go_ret
      exact ⟨by first | rfl | (simp [errW_none, errW_some] <;> rfl) | (simp [*, errW_none, errW_some] <;> rfl), by repeat (first | (with_reducible first | exact HB.out | apply below_alloc | apply pw_below_drewN | apply below_drew1) | exact HB.out)⟩
    · rw [if_neg c6] at H
      have c6b0 : decide (t294 < 0) = false := decide_eq_false c6
      clear c6
      replace H := Option.bind_eq_some_iff.mp H
      obtain ⟨t295, A70, H⟩ := H
      replace H : ((spec_NameOf.f k a0 a1 t295).bind fun t298 => ((laws_toTxS.f k l2).bind fun t299 => ((impl_NameOf.f k a0 a1 t299).bind fun t302 => (if t302.toList = t298.toList then ((laws_toTxS.f k l2).bind fun t303 => ((laws_eqTxS.f k t299 t303).bind fun t306 => (if t306 = true then (some true) else (some false)))) else (some false))))) = some r := H
      have A7 := Aside0.mk A70
      clear A70
      replace H := Option.bind_eq_some_iff.mp H
      obtain ⟨t298, A80, H⟩ := H
      replace H : ((laws_toTxS.f k l2).bind fun t299 => ((impl_NameOf.f k a0 a1 t299).bind fun t302 => (if t302.toList = t298.toList then ((laws_toTxS.f k l2).bind fun t303 => ((laws_eqTxS.f k t299 t303).bind fun t306 => (if t306 = true then (some true) else (some false)))) else (some false)))) = some r := H
      have A8 := Aside0.mk A80
      clear A80
      replace H := Option.bind_eq_some_iff.mp H
      obtain ⟨t299, A90, H⟩ := H
      replace H : ((impl_NameOf.f k a0 a1 t299).bind fun t302 => (if t302.toList = t298.toList then ((laws_toTxS.f k l2).bind fun t303 => ((laws_eqTxS.f k t299 t303).bind fun t306 => (if t306 = true then (some true) else (some false)))) else (some false))) = some r := H
      have A9 := Aside0.mk A90
      clear A90
      replace H := Option.bind_eq_some_iff.mp H
      obtain ⟨t302, A100, H⟩ := H
      replace H : (if t302.toList = t298.toList then ((laws_toTxS.f k l2).bind fun t303 => ((laws_eqTxS.f k t299 t303).bind fun t306 => (if t306 = true then (some true) else (some false)))) else (some false)) = some r := H
      have A10 := Aside0.mk A100
      clear A100
      by_cases c11 : t302.toList = t298.toList
      · rw [if_pos c11] at H
        have c11b0 : (t302.toList == t298.toList) = true := beq_iff_eq.mpr c11
        have c11b1 : (t302.toList != t298.toList) = false := bne_eq_false_iff_eq.mpr c11
        clear c11
        replace H := Option.bind_eq_some_iff.mp H
        obtain ⟨t303, A120, H⟩ := H
        replace H : ((laws_eqTxS.f k t299 t303).bind fun t306 => (if t306 = true then (some true) else (some false))) = some r := H
        have A12 := Aside0.mk A120
        clear A120
        replace H := Option.bind_eq_some_iff.mp H
        obtain ⟨t306, A130, H⟩ := H
        replace H : (if t306 = true then (some true) else (some false)) = some r := H
        have A13 := Aside0.mk A130
        clear A130
        by_cases c14 : t306 = true
        · subst c14
          have H1 : (some true) = some r := by rw [if_pos rfl] at H; exact H
          clear H
          have H := H1
          clear H1
          obtain rfl := Option.some.inj H
          go_enter Tryd.func3, Tryd.ntmps3
          go_wp2_with (first | ((with_reducible refine gate_callee (f := 14) rfl ?_); refine goesL_ (some 16) rfl rfl Tryd.func14 (by kernel_rfl) rfl #[.slice A2 l2.length c2, .int .i64 1048576] rfl (by (try simp only [List.map_toArray, List.map_cons, List.map_nil]); first | done | rfl | (simp only [List.length_drop, List.length_take]; rfl)) ?_; (with_reducible refine (laws_szTxS.calls _ _ l2 1048576 t294 _ ?side1 ?side2 A5.out).mono ?_); (case side1 => repeat (first | exact HR2.out | (with_reducible refine Kd.C_alloc ?_ _) | (with_reducible refine Kd.C_drewN ?_ _) | (with_reducible refine Kd.C_drew ?_))); (case side2 => exact HC2.out); rintro e w' ⟨rfl, ⟨nd, rfl⟩⟩; refine ⟨_, rfl, ?_⟩) | ((with_reducible refine gate_callee (f := 16) rfl ?_); refine goesL_ (some 22) rfl rfl Tryd.func16 (by kernel_rfl) rfl #[.slice A2 l2.length c2] rfl (by (try simp only [List.map_toArray, List.map_cons, List.map_nil]); first | done | rfl | (simp only [List.length_drop, List.length_take]; rfl)) ?_; (with_reducible refine (laws_toTxS.calls k _ _ l2 t295 _ ?side1 ?side2 A7.out).mono ?_); (case side1 => repeat (first | exact HR2.out | (with_reducible refine Kd.C_alloc ?_ _) | (with_reducible refine Kd.C_drewN ?_ _) | (with_reducible refine Kd.C_drew ?_))); (case side2 => exact HC2.out); rintro e w15 ⟨v296, rfl, ho0, hb⟩; refine ⟨_, rfl, ?_⟩; have n0_ := Aside0.mk (Kd.R_lower ho0 (below_size (by repeat (first | (with_reducible first | exact HB.out | apply below_alloc | apply pw_below_drewN | apply below_drew1) | exact HB.out)))); have n1_ := Aside0.mk (below_step (by repeat (first | (with_reducible first | exact HB.out | apply below_alloc | apply pw_below_drewN | apply below_drew1) | exact HB.out)) hb); clear HB; have HO297 := n0_; have HB := n1_; clear n0_ n1_; (try clear hb); (try clear hb2); (try clear hk); (try clear hi); (try clear ho0); obtain ⟨Ao16, co16, eo16⟩ := Kd.R_slice HO297.out; subst eo16) | ((with_reducible refine gate_callee (f := 15) rfl ?_); refine goesL_ (some 23) rfl rfl Tryd.func15 (by kernel_rfl) rfl #[.string a0, .int .i64 a1, .slice Ao16 t295.length co16] rfl (by (try simp only [List.map_toArray, List.map_cons, List.map_nil]); first | done | rfl | (simp only [List.length_drop, List.length_take]; rfl)) ?_; (with_reducible refine (spec_NameOf.calls k a0 a1 _ _ t295 t298 _ ?side1 ?side2 A8.out).mono ?_); (case side1 => repeat (first | exact (Kd.R_reads' HO297.out).2.2 | (with_reducible refine Kd.C_alloc ?_ _) | (with_reducible refine Kd.C_drewN ?_ _) | (with_reducible refine Kd.C_drew ?_))); (case side2 => exact (Kd.R_reads' HO297.out).2.1); rintro e w17 ⟨rfl, hb⟩; refine ⟨_, rfl, ?_⟩; have n0_ := Aside0.mk (Kd.R_below (by (with_reducible repeat (first | apply Kd.R_alloc | apply Kd.R_drewN | apply Kd.R_drew)); exact HO297.out) hb); have n1_ := Aside0.mk (below_step (by repeat (first | (with_reducible first | exact HB.out | apply below_alloc | apply pw_below_drewN | apply below_drew1) | exact HB.out)) hb); clear HO297; clear HB; have HO297 := n0_; have HB := n1_; clear n0_ n1_; (try clear hb); (try clear hb2); (try clear hk); (try clear hi)) | ((with_reducible refine gate_callee (f := 16) rfl ?_); refine goesL_ (some 25) rfl rfl Tryd.func16 (by kernel_rfl) rfl #[.slice A2 l2.length c2] rfl (by (try simp only [List.map_toArray, List.map_cons, List.map_nil]); first | done | rfl | (simp only [List.length_drop, List.length_take]; rfl)) ?_; (with_reducible refine (laws_toTxS.calls k _ _ l2 t299 _ ?side1 ?side2 A9.out).mono ?_); (case side1 => repeat (first | exact (Kd.C_below HR2.out HB.out) | (with_reducible refine Kd.C_alloc ?_ _) | (with_reducible refine Kd.C_drewN ?_ _) | (with_reducible refine Kd.C_drew ?_))); (case side2 => exact HC2.out); rintro e w18 ⟨v300, rfl, ho0, hb⟩; refine ⟨_, rfl, ?_⟩; have n0_ := Aside0.mk (Kd.R_elder' (by (with_reducible repeat (first | apply Kd.R_alloc | apply Kd.R_drewN | apply Kd.R_drew)); exact HO297.out) (Kd.R_base ho0) hb); have n1_ := Aside0.mk (Kd.R_lower (Kd.R_new' ho0 (Kd.R_lt (by (with_reducible repeat (first | apply Kd.R_alloc | apply Kd.R_drewN | apply Kd.R_drew)); exact HO297.out))) (below_size (by repeat (first | (with_reducible first | exact HB.out | apply below_alloc | apply pw_below_drewN | apply below_drew1) | exact HB.out)))); have n2_ := Aside0.mk (below_step (by repeat (first | (with_reducible first | exact HB.out | apply below_alloc | apply pw_below_drewN | apply below_drew1) | exact HB.out)) hb); clear HO297; clear HB; have HO297 := n0_; have HO301 := n1_; have HB := n2_; clear n0_ n1_ n2_; (try clear hb); (try clear hb2); (try clear hk); (try clear hi); (try clear ho0); obtain ⟨Ao19, co19, eo19⟩ := Kd.R_slice HO301.out; subst eo19) | ((with_reducible refine gate_callee (f := 17) rfl ?_); refine goesL_ (some 29) rfl rfl Tryd.func17 (by kernel_rfl) rfl #[.string a0, .int .i64 a1, .slice Ao19 t299.length co19] rfl (by (try simp only [List.map_toArray, List.map_cons, List.map_nil]); first | done | rfl | (simp only [List.length_drop, List.length_take]; rfl)) ?_; (with_reducible refine (impl_NameOf.calls k a0 a1 _ _ t299 t302 _ ?side1 ?side2 ?side3 A10.out).mono ?_); (case side1 => repeat (first | exact (Kd.R_reads' HO301.out).2.2 | (with_reducible refine Kd.C_alloc ?_ _) | (with_reducible refine Kd.C_drewN ?_ _) | (with_reducible refine Kd.C_drew ?_))); (case side2 => exact (Kd.R_reads' HO301.out).2.1); (case side3 => exact LaidW.below HL0.out (by repeat (first | (with_reducible first | exact HB.out | apply below_alloc | apply pw_below_drewN | apply below_drew1) | exact HB.out))); rintro e w20 ⟨rfl, hb⟩; refine ⟨_, rfl, ?_⟩; have n0_ := Aside0.mk (Kd.R_below (by (with_reducible repeat (first | apply Kd.R_alloc | apply Kd.R_drewN | apply Kd.R_drew)); exact HO297.out) hb); have n1_ := Aside0.mk (Kd.R_below (by (with_reducible repeat (first | apply Kd.R_alloc | apply Kd.R_drewN | apply Kd.R_drew)); exact HO301.out) hb); have n2_ := Aside0.mk (below_step (by repeat (first | (with_reducible first | exact HB.out | apply below_alloc | apply pw_below_drewN | apply below_drew1) | exact HB.out)) hb); clear HO297; clear HO301; clear HB; have HO297 := n0_; have HO301 := n1_; have HB := n2_; clear n0_ n1_ n2_; (try clear hb); (try clear hb2); (try clear hk); (try clear hi)) | ((with_reducible refine gate_callee (f := 16) rfl ?_); refine goesL_ (some 35) rfl rfl Tryd.func16 (by kernel_rfl) rfl #[.slice A2 l2.length c2] rfl (by (try simp only [List.map_toArray, List.map_cons, List.map_nil]); first | done | rfl | (simp only [List.length_drop, List.length_take]; rfl)) ?_; (with_reducible refine (laws_toTxS.calls k _ _ l2 t303 _ ?side1 ?side2 A12.out).mono ?_); (case side1 => repeat (first | exact (Kd.C_below HR2.out HB.out) | (with_reducible refine Kd.C_alloc ?_ _) | (with_reducible refine Kd.C_drewN ?_ _) | (with_reducible refine Kd.C_drew ?_))); (case side2 => exact HC2.out); rintro e w21 ⟨v304, rfl, ho0, hb⟩; refine ⟨_, rfl, ?_⟩; have n0_ := Aside0.mk (Kd.R_elder' (by (with_reducible repeat (first | apply Kd.R_alloc | apply Kd.R_drewN | apply Kd.R_drew)); exact HO297.out) (Kd.R_base ho0) hb); have n1_ := Aside0.mk (Kd.R_elder' (by (with_reducible repeat (first | apply Kd.R_alloc | apply Kd.R_drewN | apply Kd.R_drew)); exact HO301.out) (Kd.R_base ho0) hb); have n2_ := Aside0.mk (Kd.R_lower (Kd.R_new' (Kd.R_new' ho0 (Kd.R_lt (by (with_reducible repeat (first | apply Kd.R_alloc | apply Kd.R_drewN | apply Kd.R_drew)); exact HO297.out))) (Kd.R_lt (by (with_reducible repeat (first | apply Kd.R_alloc | apply Kd.R_drewN | apply Kd.R_drew)); exact HO301.out))) (below_size (by repeat (first | (with_reducible first | exact HB.out | apply below_alloc | apply pw_below_drewN | apply below_drew1) | exact HB.out)))); have n3_ := Aside0.mk (below_step (by repeat (first | (with_reducible first | exact HB.out | apply below_alloc | apply pw_below_drewN | apply below_drew1) | exact HB.out)) hb); clear HO297; clear HO301; clear HB; have HO297 := n0_; have HO301 := n1_; have HO305 := n2_; have HB := n3_; clear n0_ n1_ n2_ n3_; (try clear hb); (try clear hb2); (try clear hk); (try clear hi); (try clear ho0); obtain ⟨Ao22, co22, eo22⟩ := Kd.R_slice HO305.out; subst eo22) | ((with_reducible refine gate_callee (f := 18) rfl ?_); refine goesL_ (some 36) rfl rfl Tryd.func18 (by kernel_rfl) rfl #[.slice Ao19 t299.length co19, .slice Ao22 t303.length co22] rfl (by (try simp only [List.map_toArray, List.map_cons, List.map_nil]); first | done | rfl | (simp only [List.length_drop, List.length_take]; rfl)) ?_; (with_reducible refine (laws_eqTxS.calls k _ _ t299 _ _ t303 true _ ?side1 ?side2 ?side3 ?side4 A13.out).mono ?_); (case side1 => repeat (first | exact (Kd.R_reads' HO301.out).2.2 | (with_reducible refine Kd.C_alloc ?_ _) | (with_reducible refine Kd.C_drewN ?_ _) | (with_reducible refine Kd.C_drew ?_))); (case side2 => exact (Kd.R_reads' HO301.out).2.1); (case side3 => repeat (first | exact (Kd.R_reads' HO305.out).2.2 | (with_reducible refine Kd.C_alloc ?_ _) | (with_reducible refine Kd.C_drewN ?_ _) | (with_reducible refine Kd.C_drew ?_))); (case side4 => exact (Kd.R_reads' HO305.out).2.1); rintro e w23 ⟨rfl, hb⟩; refine ⟨_, rfl, ?_⟩; have n0_ := Aside0.mk (Kd.R_below (by (with_reducible repeat (first | apply Kd.R_alloc | apply Kd.R_drewN | apply Kd.R_drew)); exact HO297.out) hb); have n1_ := Aside0.mk (Kd.R_below (by (with_reducible repeat (first | apply Kd.R_alloc | apply Kd.R_drewN | apply Kd.R_drew)); exact HO301.out) hb); have n2_ := Aside0.mk (Kd.R_below (by (with_reducible repeat (first | apply Kd.R_alloc | apply Kd.R_drewN | apply Kd.R_drew)); exact HO305.out) hb); have n3_ := Aside0.mk (below_step (by repeat (first | (with_reducible first | exact HB.out | apply below_alloc | apply pw_below_drewN | apply below_drew1) | exact HB.out)) hb); clear HO297; clear HO301; clear HO305; clear HB; have HO297 := n0_; have HO301 := n1_; have HO305 := n2_; have HB := n3_; clear n0_ n1_ n2_ n3_; (try clear hb); (try clear hb2); (try clear hk); (try clear hi)))
          go_ret
          exact ⟨by first | rfl | (simp [errW_none, errW_some] <;> rfl) | (simp [*, errW_none, errW_some] <;> rfl), by repeat (first | (with_reducible first | exact HB.out | apply below_alloc | apply pw_below_drewN | apply below_drew1) | exact HB.out)⟩
        · replace c14 := Bool.eq_false_iff.mpr c14
          subst c14
          have H1 : (some false) = some r := by rw [if_neg (show ¬ (false = true) by decide)] at H; exact H
          clear H
          have H := H1
          clear H1
          exact absurd ((Option.some.inj H).trans HRT.out) (by decide)
      · rw [if_neg c11] at H
        have c11b0 : (t302.toList == t298.toList) = false := beq_eq_false_iff_ne.mpr c11
        have c11b1 : (t302.toList != t298.toList) = true := bne_iff_ne.mpr c11
        exact absurd ((Option.some.inj H).trans HRT.out) (by decide)

end Go.Proofs.YtbecffgalndagaaDoor.PFnExactNameOf
