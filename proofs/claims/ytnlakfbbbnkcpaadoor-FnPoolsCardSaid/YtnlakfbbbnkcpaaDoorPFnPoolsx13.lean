/- Walks of the functions that a law of seat YtnlakfbbbnkcpaaDoor reaches, each against a Lean function, printed by this session's wip/myprint.py; no condition of their own. -/
import Derived.Test.YtnlakfbbbnkcpaaDoorPFnPoolsx0
import Derived.Test.YtnlakfbbbnkcpaaDoorPFnPoolsx1
import Derived.Test.YtnlakfbbbnkcpaaDoorPFnPoolsx2
import Derived.Test.YtnlakfbbbnkcpaaDoorPFnPoolsx12
namespace Go.Proofs.YtnlakfbbbnkcpaaDoor.PFnPools
open Go.RowKit Go.Proofs.YtnlakfbbbnkcpaaDoorW.PrintWords Go.Proofs.YtnlakfbbbnkcpaaDoorW.PrintLast Go.Proofs.YtnlakfbbbnkcpaaDoorW.PrintMore
attribute [local go_sem] max2_int min2_int max_two min_two max_three min_three max_four min_four   -- for this text's walks alone
set_option linter.unusedVariables false
set_option linter.unusedSimpArgs false

attribute [local go_sem high] eqA26
/-! ### spec_TxText: function 34 -/
def spec_TxText.f (k : Nat) (a0_0 : Int) (a0_1 : Int) (a0_2 : Int) (a0_3 : Int) : Option (ByteArray) := (spec_TxOk.f a0_0 a0_1 a0_2 a0_3).bind fun t451 => (if t451 = true then ((spec_Digits.f k a0_0).bind fun t452 => (if t452.size + 1 ≤ 9223372036854775807 then ((spec_Digits.f k a0_1).bind fun t453 => (if (t452 ++ (⟨#[62]⟩ : ByteArray)).size + t453.size ≤ 9223372036854775807 then (if ((t452 ++ (⟨#[62]⟩ : ByteArray)) ++ t453).size + 1 ≤ 9223372036854775807 then ((spec_Digits.f k a0_2).bind fun t454 => (if (((t452 ++ (⟨#[62]⟩ : ByteArray)) ++ t453) ++ (⟨#[58]⟩ : ByteArray)).size + t454.size ≤ 9223372036854775807 then (if ((((t452 ++ (⟨#[62]⟩ : ByteArray)) ++ t453) ++ (⟨#[58]⟩ : ByteArray)) ++ t454).size + 1 ≤ 9223372036854775807 then ((spec_Digits.f k a0_3).bind fun t455 => (if (((((t452 ++ (⟨#[62]⟩ : ByteArray)) ++ t453) ++ (⟨#[58]⟩ : ByteArray)) ++ t454) ++ (⟨#[35]⟩ : ByteArray)).size + t455.size ≤ 9223372036854775807 then (some ((((((t452 ++ (⟨#[62]⟩ : ByteArray)) ++ t453) ++ (⟨#[58]⟩ : ByteArray)) ++ t454) ++ (⟨#[35]⟩ : ByteArray)) ++ t455)) else (none))) else (none)) else (none))) else (none)) else (none))) else (none))) else (some (⟨#[]⟩ : ByteArray)))
theorem spec_TxText.mono : ∀ a0 a1 a2 a3 k, LeO (spec_TxText.f k a0 a1 a2 a3) (spec_TxText.f (k + 1) a0 a1 a2 a3) := by
  intro a0 a1 a2 a3 k
  unfold spec_TxText.f
  repeat' first
      | (with_reducible exact spec_Digits.mono _ _)
      | (with_reducible exact LeO.refl _)
      | (with_reducible exact LeO.none _)
      | (with_reducible refine LeO.ite ?_ ?_)
      | (with_reducible refine LeO.bind ?_ (fun _ => ?_))
      | exact spec_Digits.mono _ _
      | exact LeO.none _
      | refine LeO.ite ?_ ?_
      | refine LeO.bind ?_ (fun _ => ?_)
def spec_TxText.T3 : Bool × List (List Nat × List Nat) := (true, [([], []), ([0], [0]), ([1], [1]), ([2], [2]), ([], []), ([4], [4]), ([5, 2], [5]), ([3, 6], [3, 6]), ([7], [7]), ([], []), ([9], [9]), ([10, 6], [10]), ([8, 11], [8, 11]), ([12], [12]), ([], []), ([14], [14]), ([15, 11], [15]), ([13, 16], [13, 16]), ([17, 16, 0, 1, 2, 3, 4, 5, 6, 7, 8, 9, 10, 11, 12, 13, 14, 15, 16, 17], [17])])
def spec_TxText.B3 : List Nat := [0, 1, 3, 7, 0, 16, 55, 127, 255, 0, 512, 1655, 4095, 8191, 0, 16384, 52855, 131071, 262143]
theorem spec_TxText.tab3 : rtab .any (opsOf Tryd.f34 3) = spec_TxText.T3 := by kernel_rfl
theorem spec_TxText.bits3 : waitsOk spec_TxText.T3.2 spec_TxText.B3 = true := by kernel_rfl
set_option maxHeartbeats 8000000 in
set_option maxRecDepth 100000 in
theorem spec_TxText.calls (k : Nat) (a0_0 : Int) (a0_1 : Int) (a0_2 : Int) (a0_3 : Int) (r : ByteArray) (w : World) (h : spec_TxText.f k a0_0 a0_1 a0_2 a0_3 = some r) :
    Calls Tryd.prog 34 #[.agg #[.int .i64 a0_0, .int .i64 a0_1, .int .i64 a0_2, .int .i64 a0_3]] w fun e w' => e = .returned (.string r) ∧ Below w.heap.size w w' := by
  have hu26 := Tryd.underlying26
  have HB := Aside0.mk (Below.refl w.heap.size w)
  have H : ((spec_TxOk.f a0_0 a0_1 a0_2 a0_3).bind fun t451 => (if t451 = true then ((spec_Digits.f k a0_0).bind fun t452 => (if t452.size + 1 ≤ 9223372036854775807 then ((spec_Digits.f k a0_1).bind fun t453 => (if (t452 ++ (⟨#[62]⟩ : ByteArray)).size + t453.size ≤ 9223372036854775807 then (if ((t452 ++ (⟨#[62]⟩ : ByteArray)) ++ t453).size + 1 ≤ 9223372036854775807 then ((spec_Digits.f k a0_2).bind fun t454 => (if (((t452 ++ (⟨#[62]⟩ : ByteArray)) ++ t453) ++ (⟨#[58]⟩ : ByteArray)).size + t454.size ≤ 9223372036854775807 then (if ((((t452 ++ (⟨#[62]⟩ : ByteArray)) ++ t453) ++ (⟨#[58]⟩ : ByteArray)) ++ t454).size + 1 ≤ 9223372036854775807 then ((spec_Digits.f k a0_3).bind fun t455 => (if (((((t452 ++ (⟨#[62]⟩ : ByteArray)) ++ t453) ++ (⟨#[58]⟩ : ByteArray)) ++ t454) ++ (⟨#[35]⟩ : ByteArray)).size + t455.size ≤ 9223372036854775807 then (some ((((((t452 ++ (⟨#[62]⟩ : ByteArray)) ++ t453) ++ (⟨#[58]⟩ : ByteArray)) ++ t454) ++ (⟨#[35]⟩ : ByteArray)) ++ t455)) else (none))) else (none)) else (none))) else (none)) else (none))) else (none))) else (some (⟨#[]⟩ : ByteArray)))) = some r := h
  clear h
  replace H := Option.bind_eq_some_iff.mp H
  obtain ⟨t451, A20, H⟩ := H
  replace H : (if t451 = true then ((spec_Digits.f k a0_0).bind fun t452 => (if t452.size + 1 ≤ 9223372036854775807 then ((spec_Digits.f k a0_1).bind fun t453 => (if (t452 ++ (⟨#[62]⟩ : ByteArray)).size + t453.size ≤ 9223372036854775807 then (if ((t452 ++ (⟨#[62]⟩ : ByteArray)) ++ t453).size + 1 ≤ 9223372036854775807 then ((spec_Digits.f k a0_2).bind fun t454 => (if (((t452 ++ (⟨#[62]⟩ : ByteArray)) ++ t453) ++ (⟨#[58]⟩ : ByteArray)).size + t454.size ≤ 9223372036854775807 then (if ((((t452 ++ (⟨#[62]⟩ : ByteArray)) ++ t453) ++ (⟨#[58]⟩ : ByteArray)) ++ t454).size + 1 ≤ 9223372036854775807 then ((spec_Digits.f k a0_3).bind fun t455 => (if (((((t452 ++ (⟨#[62]⟩ : ByteArray)) ++ t453) ++ (⟨#[58]⟩ : ByteArray)) ++ t454) ++ (⟨#[35]⟩ : ByteArray)).size + t455.size ≤ 9223372036854775807 then (some ((((((t452 ++ (⟨#[62]⟩ : ByteArray)) ++ t453) ++ (⟨#[58]⟩ : ByteArray)) ++ t454) ++ (⟨#[35]⟩ : ByteArray)) ++ t455)) else (none))) else (none)) else (none))) else (none)) else (none))) else (none))) else (some (⟨#[]⟩ : ByteArray))) = some r := H
  have A2 := Aside0.mk A20
  clear A20
  have HF := Aside0.mk H
  clear H
  go_enter Tryd.func34, Tryd.ntmps34
  go_upto_if 5 with (go_big_may; first | ((with_reducible refine gate_dst (N := 1) rfl ?_); refine box_event ?hg (N := 1) ?hd (cs := #[.int .i64 a0_0, .int .i64 a0_1, .int .i64 a0_2, .int .i64 a0_3]) (t := 26) ?hr ?_; (case hd => rfl); (case hg => rfl); (case hr => go_simp <;> rfl); intro gb450 hg w3 hbox hb; have n0_ := Aside0.mk (below_step (HB.out) hb); have n1_ := Aside0.mk (hbox); have n2_ := Aside0.mk ((by rw [hg]; exact (below_size (HB.out)) : w.heap.size ≤ gb450)); have n3_ := Aside0.mk ((by rw [hg]; exact (below_size (HB.out)) : w.heap.size ≤ gb450)); clear HB; have HB := n0_; have BK450 := n1_; have GW450 := n2_; have GE450 := n3_; clear n0_ n1_ n2_ n3_; clear hb hbox hg; have hcz4_0 : w3.cell? ⟨gb450, 0, none⟩ = some (.int .i64 a0_0) := (blk_cell BK450.out 0).trans rfl; have hcz4_1 : w3.cell? ⟨gb450, 1, none⟩ = some (.int .i64 a0_1) := (blk_cell BK450.out 1).trans rfl; have hcz4_2 : w3.cell? ⟨gb450, 2, none⟩ = some (.int .i64 a0_2) := (blk_cell BK450.out 2).trans rfl; have hcz4_3 : w3.cell? ⟨gb450, 3, none⟩ = some (.int .i64 a0_3) := (blk_cell BK450.out 3).trans rfl; have hfz4_0 := blk_frozen BK450.out 0; have hfz4_1 := blk_frozen BK450.out 1; have hfz4_2 := blk_frozen BK450.out 2; have hfz4_3 := blk_frozen BK450.out 3) | ((with_reducible refine gate_callee (f := 33) rfl ?_); refine goesL_ (some 4) rfl rfl Tryd.func33 (by kernel_rfl) rfl #[.agg #[.int .i64 a0_0, .int .i64 a0_1, .int .i64 a0_2, .int .i64 a0_3]] rfl (by (try simp only [mp]); first | done | rfl) ?_; (with_reducible refine (spec_TxOk.calls a0_0 a0_1 a0_2 a0_3 t451 _ A2.out).mono ?_); rintro e w5 ⟨rfl, hb⟩; refine ⟨_, rfl, ?_⟩; have n0_ := Aside0.mk (blk_below (g := gb450) (o := .cells #[.int .i64 a0_0, .int .i64 a0_1, .int .i64 a0_2, .int .i64 a0_3] 26 (0, 0)) (by exact BK450.out) hb); have n1_ := Aside0.mk (below_step (HB.out) hb); clear BK450; clear HB; have BK450 := n0_; have HB := n1_; clear n0_ n1_; (try clear hb); (try clear hb2); (try clear hk); (try clear hi)))
  have H := HF.out
  clear HF
  by_cases c6 : t451 = true
  · subst c6
    have H1 : ((spec_Digits.f k a0_0).bind fun t452 => (if t452.size + 1 ≤ 9223372036854775807 then ((spec_Digits.f k a0_1).bind fun t453 => (if (t452 ++ (⟨#[62]⟩ : ByteArray)).size + t453.size ≤ 9223372036854775807 then (if ((t452 ++ (⟨#[62]⟩ : ByteArray)) ++ t453).size + 1 ≤ 9223372036854775807 then ((spec_Digits.f k a0_2).bind fun t454 => (if (((t452 ++ (⟨#[62]⟩ : ByteArray)) ++ t453) ++ (⟨#[58]⟩ : ByteArray)).size + t454.size ≤ 9223372036854775807 then (if ((((t452 ++ (⟨#[62]⟩ : ByteArray)) ++ t453) ++ (⟨#[58]⟩ : ByteArray)) ++ t454).size + 1 ≤ 9223372036854775807 then ((spec_Digits.f k a0_3).bind fun t455 => (if (((((t452 ++ (⟨#[62]⟩ : ByteArray)) ++ t453) ++ (⟨#[58]⟩ : ByteArray)) ++ t454) ++ (⟨#[35]⟩ : ByteArray)).size + t455.size ≤ 9223372036854775807 then (some ((((((t452 ++ (⟨#[62]⟩ : ByteArray)) ++ t453) ++ (⟨#[58]⟩ : ByteArray)) ++ t454) ++ (⟨#[35]⟩ : ByteArray)) ++ t455)) else (none))) else (none)) else (none))) else (none)) else (none))) else (none))) = some r := by rw [if_pos rfl] at H; exact H
    clear H
    have H := H1
    clear H1
    replace H := Option.bind_eq_some_iff.mp H
    obtain ⟨t452, A70, H⟩ := H
    replace H : (if t452.size + 1 ≤ 9223372036854775807 then ((spec_Digits.f k a0_1).bind fun t453 => (if (t452 ++ (⟨#[62]⟩ : ByteArray)).size + t453.size ≤ 9223372036854775807 then (if ((t452 ++ (⟨#[62]⟩ : ByteArray)) ++ t453).size + 1 ≤ 9223372036854775807 then ((spec_Digits.f k a0_2).bind fun t454 => (if (((t452 ++ (⟨#[62]⟩ : ByteArray)) ++ t453) ++ (⟨#[58]⟩ : ByteArray)).size + t454.size ≤ 9223372036854775807 then (if ((((t452 ++ (⟨#[62]⟩ : ByteArray)) ++ t453) ++ (⟨#[58]⟩ : ByteArray)) ++ t454).size + 1 ≤ 9223372036854775807 then ((spec_Digits.f k a0_3).bind fun t455 => (if (((((t452 ++ (⟨#[62]⟩ : ByteArray)) ++ t453) ++ (⟨#[58]⟩ : ByteArray)) ++ t454) ++ (⟨#[35]⟩ : ByteArray)).size + t455.size ≤ 9223372036854775807 then (some ((((((t452 ++ (⟨#[62]⟩ : ByteArray)) ++ t453) ++ (⟨#[58]⟩ : ByteArray)) ++ t454) ++ (⟨#[35]⟩ : ByteArray)) ++ t455)) else (none))) else (none)) else (none))) else (none)) else (none))) else (none)) = some r := H
    have A7 := Aside0.mk A70
    clear A70
    by_cases c8 : t452.size + 1 ≤ 9223372036854775807
    · rw [if_pos c8] at H
      have c8b0 := eq_true c8
      have c8b1 : decide (t452.size + 1 ≤ 9223372036854775807) = true := decide_eq_true c8
      try have c8b2 : (9223372036854775807 < t452.size + 1) = False := eq_false (Nat.not_lt.2 c8)
      replace H := Option.bind_eq_some_iff.mp H
      obtain ⟨t453, A90, H⟩ := H
      replace H : (if (t452 ++ (⟨#[62]⟩ : ByteArray)).size + t453.size ≤ 9223372036854775807 then (if ((t452 ++ (⟨#[62]⟩ : ByteArray)) ++ t453).size + 1 ≤ 9223372036854775807 then ((spec_Digits.f k a0_2).bind fun t454 => (if (((t452 ++ (⟨#[62]⟩ : ByteArray)) ++ t453) ++ (⟨#[58]⟩ : ByteArray)).size + t454.size ≤ 9223372036854775807 then (if ((((t452 ++ (⟨#[62]⟩ : ByteArray)) ++ t453) ++ (⟨#[58]⟩ : ByteArray)) ++ t454).size + 1 ≤ 9223372036854775807 then ((spec_Digits.f k a0_3).bind fun t455 => (if (((((t452 ++ (⟨#[62]⟩ : ByteArray)) ++ t453) ++ (⟨#[58]⟩ : ByteArray)) ++ t454) ++ (⟨#[35]⟩ : ByteArray)).size + t455.size ≤ 9223372036854775807 then (some ((((((t452 ++ (⟨#[62]⟩ : ByteArray)) ++ t453) ++ (⟨#[58]⟩ : ByteArray)) ++ t454) ++ (⟨#[35]⟩ : ByteArray)) ++ t455)) else (none))) else (none)) else (none))) else (none)) else (none)) = some r := H
      have A9 := Aside0.mk A90
      clear A90
      by_cases c10 : (t452 ++ (⟨#[62]⟩ : ByteArray)).size + t453.size ≤ 9223372036854775807
      · rw [if_pos c10] at H
        have c10b0 := eq_true c10
        have c10b1 : decide ((t452 ++ (⟨#[62]⟩ : ByteArray)).size + t453.size ≤ 9223372036854775807) = true := decide_eq_true c10
        try have c10b2 : (9223372036854775807 < (t452 ++ (⟨#[62]⟩ : ByteArray)).size + t453.size) = False := eq_false (Nat.not_lt.2 c10)
        try (have c10b3 := Nat.not_lt.2 c10; simp only [ByteArray.size_append, show ∀ x_ : UInt8, (⟨#[x_]⟩ : ByteArray).size = 1 from fun _ => rfl] at c10b3; replace c10b3 := eq_false c10b3)
        by_cases c11 : ((t452 ++ (⟨#[62]⟩ : ByteArray)) ++ t453).size + 1 ≤ 9223372036854775807
        · rw [if_pos c11] at H
          have c11b0 := eq_true c11
          have c11b1 : decide (((t452 ++ (⟨#[62]⟩ : ByteArray)) ++ t453).size + 1 ≤ 9223372036854775807) = true := decide_eq_true c11
          try have c11b2 : (9223372036854775807 < ((t452 ++ (⟨#[62]⟩ : ByteArray)) ++ t453).size + 1) = False := eq_false (Nat.not_lt.2 c11)
          try (have c11b3 := Nat.not_lt.2 c11; simp only [ByteArray.size_append, show ∀ x_ : UInt8, (⟨#[x_]⟩ : ByteArray).size = 1 from fun _ => rfl] at c11b3; replace c11b3 := eq_false c11b3)
          replace H := Option.bind_eq_some_iff.mp H
          obtain ⟨t454, A120, H⟩ := H
          replace H : (if (((t452 ++ (⟨#[62]⟩ : ByteArray)) ++ t453) ++ (⟨#[58]⟩ : ByteArray)).size + t454.size ≤ 9223372036854775807 then (if ((((t452 ++ (⟨#[62]⟩ : ByteArray)) ++ t453) ++ (⟨#[58]⟩ : ByteArray)) ++ t454).size + 1 ≤ 9223372036854775807 then ((spec_Digits.f k a0_3).bind fun t455 => (if (((((t452 ++ (⟨#[62]⟩ : ByteArray)) ++ t453) ++ (⟨#[58]⟩ : ByteArray)) ++ t454) ++ (⟨#[35]⟩ : ByteArray)).size + t455.size ≤ 9223372036854775807 then (some ((((((t452 ++ (⟨#[62]⟩ : ByteArray)) ++ t453) ++ (⟨#[58]⟩ : ByteArray)) ++ t454) ++ (⟨#[35]⟩ : ByteArray)) ++ t455)) else (none))) else (none)) else (none)) = some r := H
          have A12 := Aside0.mk A120
          clear A120
          by_cases c13 : (((t452 ++ (⟨#[62]⟩ : ByteArray)) ++ t453) ++ (⟨#[58]⟩ : ByteArray)).size + t454.size ≤ 9223372036854775807
          · rw [if_pos c13] at H
            have c13b0 := eq_true c13
            have c13b1 : decide ((((t452 ++ (⟨#[62]⟩ : ByteArray)) ++ t453) ++ (⟨#[58]⟩ : ByteArray)).size + t454.size ≤ 9223372036854775807) = true := decide_eq_true c13
            try have c13b2 : (9223372036854775807 < (((t452 ++ (⟨#[62]⟩ : ByteArray)) ++ t453) ++ (⟨#[58]⟩ : ByteArray)).size + t454.size) = False := eq_false (Nat.not_lt.2 c13)
            try (have c13b3 := Nat.not_lt.2 c13; simp only [ByteArray.size_append, show ∀ x_ : UInt8, (⟨#[x_]⟩ : ByteArray).size = 1 from fun _ => rfl] at c13b3; replace c13b3 := eq_false c13b3)
            by_cases c14 : ((((t452 ++ (⟨#[62]⟩ : ByteArray)) ++ t453) ++ (⟨#[58]⟩ : ByteArray)) ++ t454).size + 1 ≤ 9223372036854775807
            · rw [if_pos c14] at H
              have c14b0 := eq_true c14
              have c14b1 : decide (((((t452 ++ (⟨#[62]⟩ : ByteArray)) ++ t453) ++ (⟨#[58]⟩ : ByteArray)) ++ t454).size + 1 ≤ 9223372036854775807) = true := decide_eq_true c14
              try have c14b2 : (9223372036854775807 < ((((t452 ++ (⟨#[62]⟩ : ByteArray)) ++ t453) ++ (⟨#[58]⟩ : ByteArray)) ++ t454).size + 1) = False := eq_false (Nat.not_lt.2 c14)
              try (have c14b3 := Nat.not_lt.2 c14; simp only [ByteArray.size_append, show ∀ x_ : UInt8, (⟨#[x_]⟩ : ByteArray).size = 1 from fun _ => rfl] at c14b3; replace c14b3 := eq_false c14b3)
              replace H := Option.bind_eq_some_iff.mp H
              obtain ⟨t455, A150, H⟩ := H
              replace H : (if (((((t452 ++ (⟨#[62]⟩ : ByteArray)) ++ t453) ++ (⟨#[58]⟩ : ByteArray)) ++ t454) ++ (⟨#[35]⟩ : ByteArray)).size + t455.size ≤ 9223372036854775807 then (some ((((((t452 ++ (⟨#[62]⟩ : ByteArray)) ++ t453) ++ (⟨#[58]⟩ : ByteArray)) ++ t454) ++ (⟨#[35]⟩ : ByteArray)) ++ t455)) else (none)) = some r := H
              have A15 := Aside0.mk A150
              clear A150
              by_cases c16 : (((((t452 ++ (⟨#[62]⟩ : ByteArray)) ++ t453) ++ (⟨#[58]⟩ : ByteArray)) ++ t454) ++ (⟨#[35]⟩ : ByteArray)).size + t455.size ≤ 9223372036854775807
              · rw [if_pos c16] at H
                have c16b0 := eq_true c16
                have c16b1 : decide ((((((t452 ++ (⟨#[62]⟩ : ByteArray)) ++ t453) ++ (⟨#[58]⟩ : ByteArray)) ++ t454) ++ (⟨#[35]⟩ : ByteArray)).size + t455.size ≤ 9223372036854775807) = true := decide_eq_true c16
                try have c16b2 : (9223372036854775807 < (((((t452 ++ (⟨#[62]⟩ : ByteArray)) ++ t453) ++ (⟨#[58]⟩ : ByteArray)) ++ t454) ++ (⟨#[35]⟩ : ByteArray)).size + t455.size) = False := eq_false (Nat.not_lt.2 c16)
                try (have c16b3 := Nat.not_lt.2 c16; simp only [ByteArray.size_append, show ∀ x_ : UInt8, (⟨#[x_]⟩ : ByteArray).size = 1 from fun _ => rfl] at c16b3; replace c16b3 := eq_false c16b3)
                obtain rfl := Option.some.inj H
                try go_wp2
                have n0_ := Aside0.mk (blk_drew BK450.out)
                have n1_ := Aside0.mk (below_drew1 HB.out)
                clear BK450 HB
                have BK450 := n0_
                have HB := n1_
                clear n0_ n1_
                refine start_ (n := 19) (S := fun w' => w'.cell? ⟨gb450, 0, none⟩ = some (.int .i64 a0_0) ∧ w'.cell? ⟨gb450, 1, none⟩ = some (.int .i64 a0_1) ∧ w'.cell? ⟨gb450, 2, none⟩ = some (.int .i64 a0_2) ∧ w'.cell? ⟨gb450, 3, none⟩ = some (.int .i64 a0_3)) (ds := []) #[false, false, false, false, false, false, false, false, false, false, false, false, false, false, false, false, false, false, false] (by kernel_rfl) rfl rfl ⟨(blk_cell BK450.out 0).trans rfl, (blk_cell BK450.out 1).trans rfl, (blk_cell BK450.out 2).trans rfl, (blk_cell BK450.out 3).trans rfl⟩ (fun hHeld => ?_); refine with_tabW spec_TxText.tab3 spec_TxText.bits3 (fun HT_ HW_ => ?_)
                generalize w5.drew = w17 at BK450 HB hHeld ⊢
                refine pA 0 6 ?_ rfl rfl (any_of HT_.out (by kernel_rfl)) (fun _ _ _ h => h) ⟨by rfl, ?_⟩ ?_ ?_ ?_
                rotate_left
                · intro w'
                  go_simp
                  with_reducible rfl
                rotate_left
                · simp only [Act.put, nm]
                  rfl
                refine pA 4 10 ?_ rfl rfl (any_of HT_.out (by kernel_rfl)) (fun _ _ _ h => h) ⟨by rfl, ?_⟩ ?_ ?_ ?_
                rotate_left
                · intro w'
                  go_simp
                  with_reducible rfl
                rotate_left
                · simp only [Act.put, nm]
                  rfl
                refine pA 9 15 ?_ rfl rfl (any_of HT_.out (by kernel_rfl)) (fun _ _ _ h => h) ⟨by rfl, ?_⟩ ?_ ?_ ?_
                rotate_left
                · intro w'
                  go_simp
                  with_reducible rfl
                rotate_left
                · simp only [Act.put, nm]
                  rfl
                refine pA 14 20 ?_ rfl rfl (any_of HT_.out (by kernel_rfl)) (fun _ _ _ h => h) ⟨by rfl, ?_⟩ ?_ ?_ ?_
                rotate_left
                · intro w'
                  go_simp
                  with_reducible rfl
                rotate_left
                · simp only [Act.put, nm]
                  rfl
                refine take_ (i := 1) (N := some 7) (v := ?_) (a' := ?_) #[true, true, false, false, true, false, false, false, false, true, false, false, false, false, true, false, false, false, false] rfl rfl (take_ofW HT_.out HW_.out (by kernel_rfl)) (fun _ _ _ h => h) (Or.inl ⟨by rfl, ?_⟩) hHeld ?_ ?_
                rotate_left
                · rintro w' ⟨s0, s1, s2, s3⟩
                  go_simp
                  with_reducible rfl
                rotate_left
                · simp only [Act.put, nm]
                  rfl
                refine take_ (i := 5) (N := some 11) (v := ?_) (a' := ?_) #[true, true, false, false, true, true, false, false, false, true, false, false, false, false, true, false, false, false, false] rfl rfl (take_ofW HT_.out HW_.out (by kernel_rfl)) (fun _ _ _ h => h) (Or.inl ⟨by rfl, ?_⟩) hHeld ?_ ?_
                rotate_left
                · rintro w' ⟨s0, s1, s2, s3⟩
                  go_simp
                  with_reducible rfl
                rotate_left
                · simp only [Act.put, nm]
                  rfl
                refine take_ (i := 10) (N := some 16) (v := ?_) (a' := ?_) #[true, true, false, false, true, true, false, false, false, true, true, false, false, false, true, false, false, false, false] rfl rfl (take_ofW HT_.out HW_.out (by kernel_rfl)) (fun _ _ _ h => h) (Or.inl ⟨by rfl, ?_⟩) hHeld ?_ ?_
                rotate_left
                · rintro w' ⟨s0, s1, s2, s3⟩
                  go_simp
                  with_reducible rfl
                rotate_left
                · simp only [Act.put, nm]
                  rfl
                refine take_ (i := 15) (N := some 21) (v := ?_) (a' := ?_) #[true, true, false, false, true, true, false, false, false, true, true, false, false, false, true, true, false, false, false] rfl rfl (take_ofW HT_.out HW_.out (by kernel_rfl)) (fun _ _ _ h => h) (Or.inl ⟨by rfl, ?_⟩) hHeld ?_ ?_
                rotate_left
                · rintro w' ⟨s0, s1, s2, s3⟩
                  go_simp
                  with_reducible rfl
                rotate_left
                · simp only [Act.put, nm]
                  rfl
                refine one_ (i := 2) (N := some 8) #[true, true, true, false, true, true, false, false, false, true, true, false, false, false, true, true, false, false, false] rfl rfl (one_of HT_.out (by kernel_rfl)) (by decide) (fun K hK => ?_)
                refine goes_ Tryd.func52 (by kernel_rfl) rfl #[.int .i64 a0_0] (by rfl) rfl rfl (by (try simp only [mp]); first | done | rfl) ?_
                with_reducible refine (spec_Digits.calls k a0_0 t452 _ A7.out).mono ?_
                rintro e w18 ⟨rfl, hb⟩
                refine ⟨_, rfl, ?_⟩
                have n0_ := Aside0.mk (blk_below (g := gb450) (o := .cells #[.int .i64 a0_0, .int .i64 a0_1, .int .i64 a0_2, .int .i64 a0_3] 26 (0, 0)) (by exact BK450.out) hb)
                have n1_ := Aside0.mk (below_step (HB.out) hb)
                clear BK450 HB
                have BK450 := n0_
                have HB := n1_
                clear n0_ n1_
                (try clear hb)
                (try clear hb2)
                (try clear hk)
                (try clear hi)
                refine hK.out _ _ ⟨(blk_cell BK450.out 0).trans rfl, (blk_cell BK450.out 1).trans rfl, (blk_cell BK450.out 2).trans rfl, (blk_cell BK450.out 3).trans rfl⟩ (fun hHeld => ?_)
                clear hK K
                refine norm_ (a' := ?_) ?_ ?_
                rotate_left
                · show Act.put _ (some 8) _ = _
                  simp only [Act.put, nm]
                  rfl
                refine pA 3 9 ?_ rfl rfl (any_of HT_.out (by kernel_rfl)) (fun _ _ _ h => h) ⟨by rfl, ?_⟩ ?_ ?_ ?_
                rotate_left
                · intro w'
                  go_simp
                  with_reducible rfl
                rotate_left
                · simp only [Act.put, nm]
                  rfl
                refine one_ (i := 6) (N := some 12) #[true, true, true, true, true, true, true, false, false, true, true, false, false, false, true, true, false, false, false] rfl rfl (one_of HT_.out (by kernel_rfl)) (by decide) (fun K hK => ?_)
                refine goes_ Tryd.func52 (by kernel_rfl) rfl #[.int .i64 a0_1] (by rfl) rfl rfl (by (try simp only [mp]); first | done | rfl) ?_
                with_reducible refine (spec_Digits.calls k a0_1 t453 _ A9.out).mono ?_
                rintro e w19 ⟨rfl, hb⟩
                refine ⟨_, rfl, ?_⟩
                have n0_ := Aside0.mk (blk_below (g := gb450) (o := .cells #[.int .i64 a0_0, .int .i64 a0_1, .int .i64 a0_2, .int .i64 a0_3] 26 (0, 0)) (by exact BK450.out) hb)
                have n1_ := Aside0.mk (below_step (HB.out) hb)
                clear BK450 HB
                have BK450 := n0_
                have HB := n1_
                clear n0_ n1_
                (try clear hb)
                (try clear hb2)
                (try clear hk)
                (try clear hi)
                refine hK.out _ _ ⟨(blk_cell BK450.out 0).trans rfl, (blk_cell BK450.out 1).trans rfl, (blk_cell BK450.out 2).trans rfl, (blk_cell BK450.out 3).trans rfl⟩ (fun hHeld => ?_)
                clear hK K
                refine norm_ (a' := ?_) ?_ ?_
                rotate_left
                · show Act.put _ (some 12) _ = _
                  simp only [Act.put, nm]
                  rfl
                refine pA 7 13 ?_ rfl rfl (any_of HT_.out (by kernel_rfl)) (fun _ _ _ h => h) ⟨by rfl, ?_⟩ ?_ ?_ ?_
                rotate_left
                · intro w'
                  go_simp
                  with_reducible rfl
                rotate_left
                · simp only [Act.put, nm]
                  rfl
                refine pA 8 14 ?_ rfl rfl (any_of HT_.out (by kernel_rfl)) (fun _ _ _ h => h) ⟨by rfl, ?_⟩ ?_ ?_ ?_
                rotate_left
                · intro w'
                  go_simp
                  with_reducible rfl
                rotate_left
                · simp only [Act.put, nm]
                  rfl
                refine one_ (i := 11) (N := some 17) #[true, true, true, true, true, true, true, true, true, true, true, true, false, false, true, true, false, false, false] rfl rfl (one_of HT_.out (by kernel_rfl)) (by decide) (fun K hK => ?_)
                refine goes_ Tryd.func52 (by kernel_rfl) rfl #[.int .i64 a0_2] (by rfl) rfl rfl (by (try simp only [mp]); first | done | rfl) ?_
                with_reducible refine (spec_Digits.calls k a0_2 t454 _ A12.out).mono ?_
                rintro e w20 ⟨rfl, hb⟩
                refine ⟨_, rfl, ?_⟩
                have n0_ := Aside0.mk (blk_below (g := gb450) (o := .cells #[.int .i64 a0_0, .int .i64 a0_1, .int .i64 a0_2, .int .i64 a0_3] 26 (0, 0)) (by exact BK450.out) hb)
                have n1_ := Aside0.mk (below_step (HB.out) hb)
                clear BK450 HB
                have BK450 := n0_
                have HB := n1_
                clear n0_ n1_
                (try clear hb)
                (try clear hb2)
                (try clear hk)
                (try clear hi)
                refine hK.out _ _ ⟨(blk_cell BK450.out 0).trans rfl, (blk_cell BK450.out 1).trans rfl, (blk_cell BK450.out 2).trans rfl, (blk_cell BK450.out 3).trans rfl⟩ (fun hHeld => ?_)
                clear hK K
                refine norm_ (a' := ?_) ?_ ?_
                rotate_left
                · show Act.put _ (some 17) _ = _
                  simp only [Act.put, nm]
                  rfl
                refine pA 12 18 ?_ rfl rfl (any_of HT_.out (by kernel_rfl)) (fun _ _ _ h => h) ⟨by rfl, ?_⟩ ?_ ?_ ?_
                rotate_left
                · intro w'
                  go_simp
                  with_reducible rfl
                rotate_left
                · simp only [Act.put, nm]
                  rfl
                refine pA 13 19 ?_ rfl rfl (any_of HT_.out (by kernel_rfl)) (fun _ _ _ h => h) ⟨by rfl, ?_⟩ ?_ ?_ ?_
                rotate_left
                · intro w'
                  go_simp
                  with_reducible rfl
                rotate_left
                · simp only [Act.put, nm]
                  rfl
                refine one_ (i := 16) (N := some 22) #[true, true, true, true, true, true, true, true, true, true, true, true, true, true, true, true, true, false, false] rfl rfl (one_of HT_.out (by kernel_rfl)) (by decide) (fun K hK => ?_)
                refine goes_ Tryd.func52 (by kernel_rfl) rfl #[.int .i64 a0_3] (by rfl) rfl rfl (by (try simp only [mp]); first | done | rfl) ?_
                with_reducible refine (spec_Digits.calls k a0_3 t455 _ A15.out).mono ?_
                rintro e w21 ⟨rfl, hb⟩
                refine ⟨_, rfl, ?_⟩
                have n0_ := Aside0.mk (blk_below (g := gb450) (o := .cells #[.int .i64 a0_0, .int .i64 a0_1, .int .i64 a0_2, .int .i64 a0_3] 26 (0, 0)) (by exact BK450.out) hb)
                have n1_ := Aside0.mk (below_step (HB.out) hb)
                clear BK450 HB
                have BK450 := n0_
                have HB := n1_
                clear n0_ n1_
                (try clear hb)
                (try clear hb2)
                (try clear hk)
                (try clear hi)
                refine hK.out _ _ ⟨(blk_cell BK450.out 0).trans rfl, (blk_cell BK450.out 1).trans rfl, (blk_cell BK450.out 2).trans rfl, (blk_cell BK450.out 3).trans rfl⟩ (fun hHeld => ?_)
                clear hK K
                refine norm_ (a' := ?_) ?_ ?_
                rotate_left
                · show Act.put _ (some 22) _ = _
                  simp only [Act.put, nm]
                  rfl
                refine pA 17 23 ?_ rfl rfl (any_of HT_.out (by kernel_rfl)) (fun _ _ _ h => h) ⟨by rfl, ?_⟩ ?_ ?_ ?_
                rotate_left
                · intro w'
                  go_simp
                  with_reducible rfl
                rotate_left
                · simp only [Act.put, nm]
                  rfl
                refine pA 18 2 ?_ rfl rfl (any_of HT_.out (by kernel_rfl)) (fun _ _ _ h => h) ⟨by rfl, ?_⟩ ?_ ?_ ?_
                rotate_left
                · intro w'
                  go_simp
                  with_reducible rfl
                rotate_left
                · simp only [Act.put, nm]
                  rfl
                refine done_ (done_of HT_.out (by kernel_rfl)) ?_
                try go_wp2
                go_ret
                exact ⟨rfl, HB.out⟩
              · rw [if_neg c16] at H
                exact absurd H (by simp)
            · rw [if_neg c14] at H
              exact absurd H (by simp)
          · rw [if_neg c13] at H
            exact absurd H (by simp)
        · rw [if_neg c11] at H
          exact absurd H (by simp)
      · rw [if_neg c10] at H
        exact absurd H (by simp)
    · rw [if_neg c8] at H
      exact absurd H (by simp)
  · replace c6 := Bool.eq_false_iff.mpr c6
    subst c6
    have H1 : (some (⟨#[]⟩ : ByteArray)) = some r := by rw [if_neg (show ¬ (false = true) by decide)] at H; exact H
    clear H
    have H := H1
    clear H1
    obtain rfl := Option.some.inj H
    go_wp2
    go_ret
    exact ⟨rfl, HB.out⟩

/-! ### spec_TxsText: function 12 -/
def spec_TxsText.l0 : Nat → List (S26) → ByteArray → Int → Option (ByteArray)
  | 0, _, _, _ => none
  | k + 1, x0, x3, x4 => if x4 < (x0.length : Int) then (if 0 ≤ x4 then ((spec_TxOk.f ((rd_T26 x0 x4).f0) ((rd_T26 x0 x4).f1) ((rd_T26 x0 x4).f2) ((rd_T26 x0 x4).f3)).bind fun t457 => (if t457 = true then (if x4 > 0 then (if x3.size + 1 ≤ 9223372036854775807 then ((spec_TxText.f k ((rd_T26 x0 x4).f0) ((rd_T26 x0 x4).f1) ((rd_T26 x0 x4).f2) ((rd_T26 x0 x4).f3)).bind fun t459 => (if (x3 ++ (⟨#[44]⟩ : ByteArray)).size + t459.size ≤ 9223372036854775807 then (spec_TxsText.l0 k x0 ((x3 ++ (⟨#[44]⟩ : ByteArray)) ++ t459) (wrap64 (x4 + 1))) else (none))) else (none)) else ((spec_TxText.f k ((rd_T26 x0 x4).f0) ((rd_T26 x0 x4).f1) ((rd_T26 x0 x4).f2) ((rd_T26 x0 x4).f3)).bind fun t461 => (if x3.size + t461.size ≤ 9223372036854775807 then (spec_TxsText.l0 k x0 (x3 ++ t461) (wrap64 (x4 + 1))) else (none)))) else (some (⟨#[]⟩ : ByteArray)))) else (none)) else (some x3)
def spec_TxsText.f (k : Nat) (l0 : List (S26)) : Option (ByteArray) := spec_TxsText.l0 k l0 (⟨#[]⟩ : ByteArray) 0
theorem spec_TxsText.mono_l : ∀ k, (∀ y0 y1 y2, LeO (spec_TxsText.l0 k y0 y1 y2) (spec_TxsText.l0 (k + 1) y0 y1 y2))
  | 0 => fun _ _ _ r h => by simp [spec_TxsText.l0] at h
  | k + 1 => by
    have ih0 := spec_TxsText.mono_l k
    · intro y0 y1 y2
      unfold spec_TxsText.l0
      repeat' first
      | (with_reducible exact ih0 _ _ _)
      | (with_reducible exact spec_TxText.mono _ _ _ _ _)
      | (with_reducible exact LeO.refl _)
      | (with_reducible exact LeO.none _)
      | (with_reducible refine LeO.ite ?_ ?_)
      | (with_reducible refine LeO.bind ?_ (fun _ => ?_))
      | exact ih0 _ _ _
      | exact spec_TxText.mono _ _ _ _ _
      | exact LeO.none _
      | refine LeO.ite ?_ ?_
      | refine LeO.bind ?_ (fun _ => ?_)
theorem spec_TxsText.mono : ∀ a0 k, LeO (spec_TxsText.f k a0) (spec_TxsText.f (k + 1) a0) := by
  intro a0 k
  have ih0 := spec_TxsText.mono_l k
  unfold spec_TxsText.f
  repeat' first
      | (with_reducible exact ih0 _ _ _)
      | (with_reducible exact spec_TxText.mono _ _ _ _ _)
      | (with_reducible exact LeO.refl _)
      | (with_reducible exact LeO.none _)
      | (with_reducible refine LeO.ite ?_ ?_)
      | (with_reducible refine LeO.bind ?_ (fun _ => ?_))
      | exact ih0 _ _ _
      | exact spec_TxText.mono _ _ _ _ _
      | exact LeO.none _
      | refine LeO.ite ?_ ?_
      | refine LeO.bind ?_ (fun _ => ?_)
set_option maxHeartbeats 8000000 in
set_option maxRecDepth 100000 in
theorem spec_TxsText.calls (k : Nat) (A0 : Option Addr) (c0 : Nat) (l0 : List (S26)) (r : ByteArray) (w : World) (hr0 : Kd.C k26 w A0 l0.length l0) (hc0 : l0.length ≤ c0) (h : spec_TxsText.f k l0 = some r) :
    Calls Tryd.prog 12 #[.slice A0 l0.length c0] w fun e w' => e = .returned (.string r) ∧ Below w.heap.size w w' := by
  have hu26 := Tryd.underlying26
  have HR0 := Aside0.mk hr0
  have HC0 := Aside0.mk hc0
  clear hr0 hc0
  have HB := Aside0.mk (Below.refl w.heap.size w)
  have H : (spec_TxsText.l0 k l0 (⟨#[]⟩ : ByteArray) 0) = some r := h
  clear h
  have H' := Aside0.mk H
  clear H
  go_enter Tryd.func12, Tryd.ntmps12
  go_wp2
  go_loopg [3, 4] k (fun kq v3 v4 w' => ∃ (x3_1 : ByteArray) (x4_1 : Int), v3 = .string x3_1 ∧ v4 = .int .i64 x4_1 ∧ Aside0 (spec_TxsText.l0 kq l0 x3_1 x4_1 = some r) ∧ Aside0 (kq ≤ k) ∧ Aside0 (Below w.heap.size w w'))
  case atStart => exact ⟨((⟨#[]⟩ : ByteArray)), (0), (by first | rfl | (simp; done) | (simp [*]; done)), (by first | rfl | (simp; done) | (simp [*]; done)), H', ⟨Nat.le_refl _⟩, ⟨HB.out⟩⟩
  case round =>
    clear H'
    try clear c1
    obtain ⟨x3_1, x4_1, rfl, rfl, HA, HK1, HB⟩ := hrel
    cases gk with
    | zero => exact absurd HA.out (by simp [spec_TxsText.l0])
    | succ k1 =>
      have H := HA.out
      clear HA
      simp only [spec_TxsText.l0] at H
      have HF := Aside0.mk H
      clear H
      go_upto_if 8 with (fail)
      have H := HF.out
      clear HF
      by_cases c2 : x4_1 < (l0.length : Int)
      · rw [if_pos c2] at H
        have c2b0 : decide (x4_1 < (l0.length : Int)) = true := decide_eq_true c2
        clear c2
        (first | rw [c2b0] | (simp only [i64_w, i32_w]; rw [c2b0]) | skip)
        by_cases c3 : 0 ≤ x4_1
        · rw [if_pos c3] at H
          have c3b0 : decide (0 ≤ x4_1) = true := decide_eq_true c3
          clear c3
          replace H := Option.bind_eq_some_iff.mp H
          obtain ⟨t457, A40, H⟩ := H
          replace H : (if t457 = true then (if x4_1 > 0 then (if x3_1.size + 1 ≤ 9223372036854775807 then ((spec_TxText.f k1 ((rd_T26 l0 x4_1).f0) ((rd_T26 l0 x4_1).f1) ((rd_T26 l0 x4_1).f2) ((rd_T26 l0 x4_1).f3)).bind fun t459 => (if (x3_1 ++ (⟨#[44]⟩ : ByteArray)).size + t459.size ≤ 9223372036854775807 then (spec_TxsText.l0 k1 l0 ((x3_1 ++ (⟨#[44]⟩ : ByteArray)) ++ t459) (wrap64 (x4_1 + 1))) else (none))) else (none)) else ((spec_TxText.f k1 ((rd_T26 l0 x4_1).f0) ((rd_T26 l0 x4_1).f1) ((rd_T26 l0 x4_1).f2) ((rd_T26 l0 x4_1).f3)).bind fun t461 => (if x3_1.size + t461.size ≤ 9223372036854775807 then (spec_TxsText.l0 k1 l0 (x3_1 ++ t461) (wrap64 (x4_1 + 1))) else (none)))) else (some (⟨#[]⟩ : ByteArray))) = some r := H
          have A4 := Aside0.mk A40
          clear A40
          have HF := Aside0.mk H
          clear H
          have p456 : 0 ≤ (x4_1 : Int) := of_decide_eq_true (by first | (with_reducible assumption) | assumption)
          have q456 : x4_1 < (l0.length : Int) := of_decide_eq_true (by first | (with_reducible assumption) | assumption)
          obtain ⟨ad456, e456, hx456_0, hx456_1, hx456_2, hx456_3⟩ := at_T26 HR0.out x4_1 p456 q456
          cases e456
          replace hx456_0 := (HB.out.cell (World.block_lt_of_cell? w _ hx456_0)).trans hx456_0
          replace hx456_1 := (HB.out.cell (World.block_lt_of_cell? w _ hx456_1)).trans hx456_1
          replace hx456_2 := (HB.out.cell (World.block_lt_of_cell? w _ hx456_2)).trans hx456_2
          replace hx456_3 := (HB.out.cell (World.block_lt_of_cell? w _ hx456_3)).trans hx456_3
          replace p456 := eq_true p456
          replace q456 := eq_true q456
          go_upto_if 16 with (go_big_may; first | ((with_reducible refine gate_callee (f := 33) rfl ?_); refine goesL_ (some 15) rfl rfl Tryd.func33 (by kernel_rfl) rfl #[.agg #[.int .i64 ((rd_T26 l0 x4_1).f0), .int .i64 ((rd_T26 l0 x4_1).f1), .int .i64 ((rd_T26 l0 x4_1).f2), .int .i64 ((rd_T26 l0 x4_1).f3)]] rfl (by (try simp only [mp]); first | done | rfl) ?_; (with_reducible refine (spec_TxOk.calls ((rd_T26 l0 x4_1).f0) ((rd_T26 l0 x4_1).f1) ((rd_T26 l0 x4_1).f2) ((rd_T26 l0 x4_1).f3) t457 _ A4.out).mono ?_); rintro e w5 ⟨rfl, hb⟩; refine ⟨_, rfl, ?_⟩; have n0_ := Aside0.mk (below_step (HB.out) hb); clear HB; have HB := n0_; clear n0_; (try clear hb); (try clear hb2); (try clear hk); (try clear hi)))
          have H := HF.out
          clear HF
          by_cases c6 : t457 = true
          · subst c6
            have H1 : (if x4_1 > 0 then (if x3_1.size + 1 ≤ 9223372036854775807 then ((spec_TxText.f k1 ((rd_T26 l0 x4_1).f0) ((rd_T26 l0 x4_1).f1) ((rd_T26 l0 x4_1).f2) ((rd_T26 l0 x4_1).f3)).bind fun t459 => (if (x3_1 ++ (⟨#[44]⟩ : ByteArray)).size + t459.size ≤ 9223372036854775807 then (spec_TxsText.l0 k1 l0 ((x3_1 ++ (⟨#[44]⟩ : ByteArray)) ++ t459) (wrap64 (x4_1 + 1))) else (none))) else (none)) else ((spec_TxText.f k1 ((rd_T26 l0 x4_1).f0) ((rd_T26 l0 x4_1).f1) ((rd_T26 l0 x4_1).f2) ((rd_T26 l0 x4_1).f3)).bind fun t461 => (if x3_1.size + t461.size ≤ 9223372036854775807 then (spec_TxsText.l0 k1 l0 (x3_1 ++ t461) (wrap64 (x4_1 + 1))) else (none)))) = some r := by rw [if_pos rfl] at H; exact H
            clear H
            have H := H1
            clear H1
            have HF := Aside0.mk H
            clear H
            go_upto_if 18 with (fail)
            have H := HF.out
            clear HF
            by_cases c7 : x4_1 > 0
            · rw [if_pos c7] at H
              have c7b0 : decide (0 < x4_1) = true := decide_eq_true c7
              clear c7
              (first | rw [c7b0] | (simp only [i64_w, i32_w]; rw [c7b0]) | skip)
              by_cases c8 : x3_1.size + 1 ≤ 9223372036854775807
              · rw [if_pos c8] at H
                have c8b0 := eq_true c8
                have c8b1 : decide (x3_1.size + 1 ≤ 9223372036854775807) = true := decide_eq_true c8
                try have c8b2 : (9223372036854775807 < x3_1.size + 1) = False := eq_false (Nat.not_lt.2 c8)
                replace H := Option.bind_eq_some_iff.mp H
                obtain ⟨t459, A90, H⟩ := H
                replace H : (if (x3_1 ++ (⟨#[44]⟩ : ByteArray)).size + t459.size ≤ 9223372036854775807 then (spec_TxsText.l0 k1 l0 ((x3_1 ++ (⟨#[44]⟩ : ByteArray)) ++ t459) (wrap64 (x4_1 + 1))) else (none)) = some r := H
                have A9 := Aside0.mk A90
                clear A90
                by_cases c10 : (x3_1 ++ (⟨#[44]⟩ : ByteArray)).size + t459.size ≤ 9223372036854775807
                · rw [if_pos c10] at H
                  have c10b0 := eq_true c10
                  have c10b1 : decide ((x3_1 ++ (⟨#[44]⟩ : ByteArray)).size + t459.size ≤ 9223372036854775807) = true := decide_eq_true c10
                  try have c10b2 : (9223372036854775807 < (x3_1 ++ (⟨#[44]⟩ : ByteArray)).size + t459.size) = False := eq_false (Nat.not_lt.2 c10)
                  try (have c10b3 := Nat.not_lt.2 c10; simp only [ByteArray.size_append, show ∀ x_ : UInt8, (⟨#[x_]⟩ : ByteArray).size = 1 from fun _ => rfl] at c10b3; replace c10b3 := eq_false c10b3)
                  have H' := Aside0.mk H
                  clear H
                  have p458 : 0 ≤ (x4_1 : Int) := of_decide_eq_true (by first | (with_reducible assumption) | assumption)
                  have q458 : x4_1 < (l0.length : Int) := of_decide_eq_true (by first | (with_reducible assumption) | assumption)
                  obtain ⟨ad458, e458, hx458_0, hx458_1, hx458_2, hx458_3⟩ := at_T26 HR0.out x4_1 p458 q458
                  obtain rfl : ad456 = ad458 := (by injection e458)
                  replace hx458_0 := (HB.out.cell (World.block_lt_of_cell? w _ hx458_0)).trans hx458_0
                  replace hx458_1 := (HB.out.cell (World.block_lt_of_cell? w _ hx458_1)).trans hx458_1
                  replace hx458_2 := (HB.out.cell (World.block_lt_of_cell? w _ hx458_2)).trans hx458_2
                  replace hx458_3 := (HB.out.cell (World.block_lt_of_cell? w _ hx458_3)).trans hx458_3
                  replace p458 := eq_true p458
                  replace q458 := eq_true q458
                  go_wp2_with (first | ((with_reducible refine gate_callee (f := 34) rfl ?_); refine goesL_ (some 26) rfl rfl Tryd.func34 (by kernel_rfl) rfl #[.agg #[.int .i64 ((rd_T26 l0 x4_1).f0), .int .i64 ((rd_T26 l0 x4_1).f1), .int .i64 ((rd_T26 l0 x4_1).f2), .int .i64 ((rd_T26 l0 x4_1).f3)]] rfl (by (try simp only [mp]); first | done | rfl) ?_; (with_reducible refine (spec_TxText.calls k1 ((rd_T26 l0 x4_1).f0) ((rd_T26 l0 x4_1).f1) ((rd_T26 l0 x4_1).f2) ((rd_T26 l0 x4_1).f3) t459 _ A9.out).mono ?_); rintro e w11 ⟨rfl, hb⟩; refine ⟨_, rfl, ?_⟩; have n0_ := Aside0.mk (below_step (HB.out) hb); clear HB; have HB := n0_; clear n0_; (try clear hb); (try clear hb2); (try clear hk); (try clear hi)))
                  go_roundg k1
                  case measure => have := HK1.out; omega
                  case rel => exact ⟨((x3_1 ++ (⟨#[44]⟩ : ByteArray)) ++ t459), (wrap64 (x4_1 + 1)), (by first | rfl | (simp; done) | (simp [*]; done)), (by first | rfl | (simp; done) | (simp [*]; done)), H', ⟨by have := HK1.out; omega⟩, ⟨HB.out⟩⟩
                · rw [if_neg c10] at H
                  exact absurd H (by simp)
              · rw [if_neg c8] at H
                exact absurd H (by simp)
            · rw [if_neg c7] at H
              have c7b0 : decide (0 < x4_1) = false := decide_eq_false c7
              clear c7
              (first | rw [c7b0] | (simp only [i64_w, i32_w]; rw [c7b0]) | skip)
              replace H := Option.bind_eq_some_iff.mp H
              obtain ⟨t461, A120, H⟩ := H
              replace H : (if x3_1.size + t461.size ≤ 9223372036854775807 then (spec_TxsText.l0 k1 l0 (x3_1 ++ t461) (wrap64 (x4_1 + 1))) else (none)) = some r := H
              have A12 := Aside0.mk A120
              clear A120
              by_cases c13 : x3_1.size + t461.size ≤ 9223372036854775807
              · rw [if_pos c13] at H
                have c13b0 := eq_true c13
                have c13b1 : decide (x3_1.size + t461.size ≤ 9223372036854775807) = true := decide_eq_true c13
                try have c13b2 : (9223372036854775807 < x3_1.size + t461.size) = False := eq_false (Nat.not_lt.2 c13)
                have H' := Aside0.mk H
                clear H
                have p460 : 0 ≤ (x4_1 : Int) := of_decide_eq_true (by first | (with_reducible assumption) | assumption)
                have q460 : x4_1 < (l0.length : Int) := of_decide_eq_true (by first | (with_reducible assumption) | assumption)
                obtain ⟨ad460, e460, hx460_0, hx460_1, hx460_2, hx460_3⟩ := at_T26 HR0.out x4_1 p460 q460
                obtain rfl : ad456 = ad460 := (by injection e460)
                replace hx460_0 := (HB.out.cell (World.block_lt_of_cell? w _ hx460_0)).trans hx460_0
                replace hx460_1 := (HB.out.cell (World.block_lt_of_cell? w _ hx460_1)).trans hx460_1
                replace hx460_2 := (HB.out.cell (World.block_lt_of_cell? w _ hx460_2)).trans hx460_2
                replace hx460_3 := (HB.out.cell (World.block_lt_of_cell? w _ hx460_3)).trans hx460_3
                replace p460 := eq_true p460
                replace q460 := eq_true q460
                go_wp2_with (first | ((with_reducible refine gate_callee (f := 34) rfl ?_); refine goesL_ (some 26) rfl rfl Tryd.func34 (by kernel_rfl) rfl #[.agg #[.int .i64 ((rd_T26 l0 x4_1).f0), .int .i64 ((rd_T26 l0 x4_1).f1), .int .i64 ((rd_T26 l0 x4_1).f2), .int .i64 ((rd_T26 l0 x4_1).f3)]] rfl (by (try simp only [mp]); first | done | rfl) ?_; (with_reducible refine (spec_TxText.calls k1 ((rd_T26 l0 x4_1).f0) ((rd_T26 l0 x4_1).f1) ((rd_T26 l0 x4_1).f2) ((rd_T26 l0 x4_1).f3) t461 _ A12.out).mono ?_); rintro e w14 ⟨rfl, hb⟩; refine ⟨_, rfl, ?_⟩; have n0_ := Aside0.mk (below_step (HB.out) hb); clear HB; have HB := n0_; clear n0_; (try clear hb); (try clear hb2); (try clear hk); (try clear hi)))
                go_roundg k1
                case measure => have := HK1.out; omega
                case rel => exact ⟨(x3_1 ++ t461), (wrap64 (x4_1 + 1)), (by first | rfl | (simp; done) | (simp [*]; done)), (by first | rfl | (simp; done) | (simp [*]; done)), H', ⟨by have := HK1.out; omega⟩, ⟨HB.out⟩⟩
              · rw [if_neg c13] at H
                exact absurd H (by simp)
          · replace c6 := Bool.eq_false_iff.mpr c6
            subst c6
            have H1 : (some (⟨#[]⟩ : ByteArray)) = some r := by rw [if_neg (show ¬ (false = true) by decide)] at H; exact H
            clear H
            have H := H1
            clear H1
            obtain rfl := Option.some.inj H
            go_wp2
            go_ret
            exact ⟨rfl, HB.out⟩
        · rw [if_neg c3] at H
          exact absurd H (by simp)
      · rw [if_neg c2] at H
        have c2b0 : decide (x4_1 < (l0.length : Int)) = false := decide_eq_false c2
        clear c2
        (first | rw [c2b0] | (simp only [i64_w, i32_w]; rw [c2b0]) | skip)
        obtain rfl := Option.some.inj H
        go_wp2
        go_ret
        exact ⟨rfl, HB.out⟩

/-! ### laws_sameTxs: function 13 -/
def laws_sameTxs.l0 : Nat → List (S26) → List (S26) → Int → Option (Bool)
  | 0, _, _, _ => none
  | k + 1, x0, x1, x5 => if x5 < (x0.length : Int) then (if 0 ≤ x5 then (if x5 < (x1.length : Int) then (if (!(((rd_T26 x0 x5).f0) == ((rd_T26 x1 x5).f0)) || (!(((rd_T26 x0 x5).f1) == ((rd_T26 x1 x5).f1)) || (!(((rd_T26 x0 x5).f2) == ((rd_T26 x1 x5).f2)) || (!(((rd_T26 x0 x5).f3) == ((rd_T26 x1 x5).f3)))))) = true then (some false) else (laws_sameTxs.l0 k x0 x1 (wrap64 (x5 + 1)))) else (none)) else (none)) else (some true)
def laws_sameTxs.f (k : Nat) (l0 : List (S26)) (l1 : List (S26)) : Option (Bool) := if (l0.length : Int) = (l1.length : Int) then (laws_sameTxs.l0 k l0 l1 0) else (some false)
theorem laws_sameTxs.mono_l : ∀ k, (∀ y0 y1 y2, LeO (laws_sameTxs.l0 k y0 y1 y2) (laws_sameTxs.l0 (k + 1) y0 y1 y2))
  | 0 => fun _ _ _ r h => by simp [laws_sameTxs.l0] at h
  | k + 1 => by
    have ih0 := laws_sameTxs.mono_l k
    · intro y0 y1 y2
      unfold laws_sameTxs.l0
      repeat' first
      | (with_reducible exact ih0 _ _ _)
      | (with_reducible exact LeO.refl _)
      | (with_reducible exact LeO.none _)
      | (with_reducible refine LeO.ite ?_ ?_)
      | (with_reducible refine LeO.bind ?_ (fun _ => ?_))
      | exact ih0 _ _ _
      | exact LeO.none _
      | refine LeO.ite ?_ ?_
      | refine LeO.bind ?_ (fun _ => ?_)
theorem laws_sameTxs.mono : ∀ a0 a1 k, LeO (laws_sameTxs.f k a0 a1) (laws_sameTxs.f (k + 1) a0 a1) := by
  intro a0 a1 k
  have ih0 := laws_sameTxs.mono_l k
  unfold laws_sameTxs.f
  repeat' first
      | (with_reducible exact ih0 _ _ _)
      | (with_reducible exact LeO.refl _)
      | (with_reducible exact LeO.none _)
      | (with_reducible refine LeO.ite ?_ ?_)
      | (with_reducible refine LeO.bind ?_ (fun _ => ?_))
      | exact ih0 _ _ _
      | exact LeO.none _
      | refine LeO.ite ?_ ?_
      | refine LeO.bind ?_ (fun _ => ?_)
set_option maxHeartbeats 8000000 in
set_option maxRecDepth 100000 in
theorem laws_sameTxs.calls (k : Nat) (A0 : Option Addr) (c0 : Nat) (l0 : List (S26)) (A1 : Option Addr) (c1 : Nat) (l1 : List (S26)) (r : Bool) (w : World) (hr0 : Kd.C k26 w A0 l0.length l0) (hc0 : l0.length ≤ c0) (hr1 : Kd.C k26 w A1 l1.length l1) (hc1 : l1.length ≤ c1) (h : laws_sameTxs.f k l0 l1 = some r) :
    Calls Tryd.prog 13 #[.slice A0 l0.length c0, .slice A1 l1.length c1] w fun e w' => e = .returned (.bool r) ∧ Drawn0 w w' := by
  have hu26 := Tryd.underlying26
  have HR0 := Aside0.mk hr0
  have HC0 := Aside0.mk hc0
  clear hr0 hc0
  have HR1 := Aside0.mk hr1
  have HC1 := Aside0.mk hc1
  clear hr1 hc1
  have H : (if (l0.length : Int) = (l1.length : Int) then (laws_sameTxs.l0 k l0 l1 0) else (some false)) = some r := h
  clear h
  have HF := Aside0.mk H
  clear H
  go_enter Tryd.func13, Tryd.ntmps13
  go_upto_if 10 with (fail)
  repeat (go_quiet (fail); go_upto_if 10 with (fail))
  have H := HF.out
  clear HF
  by_cases c3 : (l0.length : Int) = (l1.length : Int)
  · rw [if_pos c3] at H
    have c3b0 : ((l0.length : Int) == (l1.length : Int)) = true := beq_iff_eq.mpr c3
    have c3b1 : ((l0.length : Int) != (l1.length : Int)) = false := bne_eq_false_iff_eq.mpr c3
    have c3b2 : (l0.length == l1.length) = true := by first | simpa using c3 | (simp at c3 ⊢; omega)
    clear c3
    (first | rw [c3b0] | (simp only [i64_w, i32_w]; rw [c3b0]) | skip)
    have H' := Aside0.mk H
    clear H
    go_wp2
    repeat (go_quiet (fail); try go_wp2)
    go_loopg [5] k (fun kq v5 w' => ∃ (x5_1 : Int), v5 = .int .i64 x5_1 ∧ Aside0 (laws_sameTxs.l0 kq l0 l1 x5_1 = some r) ∧ Aside0 (kq ≤ k) ∧ Drawn0 w w')
    case atStart => exact ⟨(0), (by first | rfl | (simp; done) | (simp [*]; done)), H', ⟨Nat.le_refl _⟩, by repeat (first | exact Drawn0.refl _ | apply Drawn0.step)⟩
    case round =>
      clear H'
      try clear c1
      try clear p2
      try clear c3
      try clear c3b0
      try clear c3b1
      try clear c3b2
      obtain ⟨x5_1, rfl, HA, HK1, ⟨m1, rfl⟩⟩ := hrel
      cases gk with
      | zero => exact absurd HA.out (by simp [laws_sameTxs.l0])
      | succ k1 =>
        have H := HA.out
        clear HA
        simp only [laws_sameTxs.l0] at H
        have HF := Aside0.mk H
        clear H
        go_upto_if 14 with (fail)
        repeat (go_quiet (fail); go_upto_if 14 with (fail))
        have H := HF.out
        clear HF
        by_cases c4 : x5_1 < (l0.length : Int)
        · rw [if_pos c4] at H
          have c4b0 : decide (x5_1 < (l0.length : Int)) = true := decide_eq_true c4
          clear c4
          (first | rw [c4b0] | (simp only [i64_w, i32_w]; rw [c4b0]) | skip)
          by_cases c5 : 0 ≤ x5_1
          · rw [if_pos c5] at H
            have c5b0 : decide (0 ≤ x5_1) = true := decide_eq_true c5
            clear c5
            by_cases c6 : x5_1 < (l1.length : Int)
            · rw [if_pos c6] at H
              have c6b0 : decide (x5_1 < (l1.length : Int)) = true := decide_eq_true c6
              clear c6
              have HF := Aside0.mk H
              clear H
              have p462 : 0 ≤ (x5_1 : Int) := of_decide_eq_true (by first | (with_reducible assumption) | assumption)
              have q462 : x5_1 < (l0.length : Int) := of_decide_eq_true (by first | (with_reducible assumption) | assumption)
              obtain ⟨ad462, e462, hx462_0, hx462_1, hx462_2, hx462_3⟩ := at_T26 HR0.out x5_1 p462 q462
              cases e462
              replace p462 := eq_true p462
              replace q462 := eq_true q462
              have p463 : 0 ≤ (x5_1 : Int) := of_decide_eq_true (by first | (with_reducible assumption) | assumption)
              have q463 : x5_1 < (l1.length : Int) := of_decide_eq_true (by first | (with_reducible assumption) | assumption)
              obtain ⟨ad463, e463, hx463_0, hx463_1, hx463_2, hx463_3⟩ := at_T26 HR1.out x5_1 p463 q463
              cases e463
              replace p463 := eq_true p463
              replace q463 := eq_true q463
              go_upto_if 25 with (fail)
              repeat (go_quiet (fail); go_upto_if 25 with (fail))
              have H := HF.out
              clear HF
              by_cases c7 : (!(((rd_T26 l0 x5_1).f0) == ((rd_T26 l1 x5_1).f0)) || (!(((rd_T26 l0 x5_1).f1) == ((rd_T26 l1 x5_1).f1)) || (!(((rd_T26 l0 x5_1).f2) == ((rd_T26 l1 x5_1).f2)) || (!(((rd_T26 l0 x5_1).f3) == ((rd_T26 l1 x5_1).f3)))))) = true
              · rw [if_pos c7] at H
                have c7b0 : (!(((rd_T26 l0 x5_1).f0) == ((rd_T26 l1 x5_1).f0)) || (!(((rd_T26 l0 x5_1).f1) == ((rd_T26 l1 x5_1).f1)) || (!(((rd_T26 l0 x5_1).f2) == ((rd_T26 l1 x5_1).f2)) || (!(((rd_T26 l0 x5_1).f3) == ((rd_T26 l1 x5_1).f3)))))) = true := c7
                clear c7
                (first | rw [c7b0] | (simp only [i64_w, i32_w]; rw [c7b0]) | skip)
                obtain rfl := Option.some.inj H
                go_wp2
                repeat (go_quiet (fail); try go_wp2)
                go_ret
                exact ⟨by first | rfl | (simp; done) | (simp [*]; done), by repeat (first | exact Drawn0.refl _ | apply Drawn0.step)⟩
              · rw [if_neg c7] at H
                have c7b0 : (!(((rd_T26 l0 x5_1).f0) == ((rd_T26 l1 x5_1).f0)) || (!(((rd_T26 l0 x5_1).f1) == ((rd_T26 l1 x5_1).f1)) || (!(((rd_T26 l0 x5_1).f2) == ((rd_T26 l1 x5_1).f2)) || (!(((rd_T26 l0 x5_1).f3) == ((rd_T26 l1 x5_1).f3)))))) = false := by simpa using c7
                clear c7
                (first | rw [c7b0] | (simp only [i64_w, i32_w]; rw [c7b0]) | skip)
                have H' := Aside0.mk H
                clear H
                go_wp2
                repeat (go_quiet (fail); try go_wp2)
                go_roundg k1
                case measure => have := HK1.out; omega
                case rel => exact ⟨(wrap64 (x5_1 + 1)), (by first | rfl | (simp; done) | (simp [*]; done)), H', ⟨by have := HK1.out; omega⟩, by repeat (first | exact Drawn0.refl _ | apply Drawn0.step)⟩
            · rw [if_neg c6] at H
              exact absurd H (by simp)
          · rw [if_neg c5] at H
            exact absurd H (by simp)
        · rw [if_neg c4] at H
          have c4b0 : decide (x5_1 < (l0.length : Int)) = false := decide_eq_false c4
          clear c4
          (first | rw [c4b0] | (simp only [i64_w, i32_w]; rw [c4b0]) | skip)
          obtain rfl := Option.some.inj H
          go_wp2
          repeat (go_quiet (fail); try go_wp2)
          go_ret
          exact ⟨by first | rfl | (simp; done) | (simp [*]; done), by repeat (first | exact Drawn0.refl _ | apply Drawn0.step)⟩
  · rw [if_neg c3] at H
    have c3b0 : ((l0.length : Int) == (l1.length : Int)) = false := beq_eq_false_iff_ne.mpr c3
    have c3b1 : ((l0.length : Int) != (l1.length : Int)) = true := bne_iff_ne.mpr c3
    have c3b2 : (l0.length == l1.length) = false := by first | simpa using c3 | (simp at c3 ⊢; omega)
    (first | rw [c3b0] | (simp only [i64_w, i32_w]; rw [c3b0]) | skip)
    obtain rfl := Option.some.inj H
    go_wp2
    repeat (go_quiet (fail); try go_wp2)
    go_ret
    exact ⟨by first | rfl | (simp; done) | (simp [*]; done), by repeat (first | exact Drawn0.refl _ | apply Drawn0.step)⟩

end Go.Proofs.YtnlakfbbbnkcpaaDoor.PFnPools
