/- Walks of the functions that a law of seat YtbecffgalndagaaGreatDoor reaches, each against a Lean function, printed by this session's wip/myprint.py; no condition of their own. -/
import Derived.Test.YtbecffgalndagaaGreatDoorPFnNamesx0
import Derived.Test.YtbecffgalndagaaGreatDoorPFnNamesx1
namespace Go.Proofs.YtbecffgalndagaaGreatDoor.PFnNames
open Go.RowKit Go.Proofs.YtbecffgalndagaaGreatDoorW.PrintWords Go.Proofs.YtbecffgalndagaaGreatDoorW.PrintLast Go.Proofs.YtbecffgalndagaaGreatDoorW.PrintMore
attribute [local go_sem] max2_int min2_int max_two min_two max_three min_three max_four min_four   -- for this text's walks alone
set_option maxHeartbeats 8000000
set_option maxRecDepth 100000
set_option linter.unusedVariables false
set_option linter.unusedSimpArgs false

/-! ### spec_TxText: function 53 -/
def spec_TxText.f (k : Nat) (a0_0 : Int) (a0_1 : Int) (a0_2 : Int) (a0_3 : Int) : Option (ByteArray) := (spec_TxOk.f a0_0 a0_1 a0_2 a0_3).bind fun t148 => (if t148 = true then ((spec_Digits.f k a0_0).bind fun t149 => (if t149.size + 1 ≤ 9223372036854775807 then ((spec_Digits.f k a0_1).bind fun t150 => (if (t149 ++ (⟨#[62]⟩ : ByteArray)).size + t150.size ≤ 9223372036854775807 then (if ((t149 ++ (⟨#[62]⟩ : ByteArray)) ++ t150).size + 1 ≤ 9223372036854775807 then ((spec_Digits.f k a0_2).bind fun t151 => (if (((t149 ++ (⟨#[62]⟩ : ByteArray)) ++ t150) ++ (⟨#[58]⟩ : ByteArray)).size + t151.size ≤ 9223372036854775807 then (if ((((t149 ++ (⟨#[62]⟩ : ByteArray)) ++ t150) ++ (⟨#[58]⟩ : ByteArray)) ++ t151).size + 1 ≤ 9223372036854775807 then ((spec_Digits.f k a0_3).bind fun t152 => (if (((((t149 ++ (⟨#[62]⟩ : ByteArray)) ++ t150) ++ (⟨#[58]⟩ : ByteArray)) ++ t151) ++ (⟨#[35]⟩ : ByteArray)).size + t152.size ≤ 9223372036854775807 then (some ((((((t149 ++ (⟨#[62]⟩ : ByteArray)) ++ t150) ++ (⟨#[58]⟩ : ByteArray)) ++ t151) ++ (⟨#[35]⟩ : ByteArray)) ++ t152)) else (none))) else (none)) else (none))) else (none)) else (none))) else (none))) else (some (⟨#[]⟩ : ByteArray)))
theorem spec_TxText.mono : ∀ a0 a1 a2 a3 k, LeO (spec_TxText.f k a0 a1 a2 a3) (spec_TxText.f (k + 1) a0 a1 a2 a3) := by
 intro a0 a1 a2 a3 k
 unfold spec_TxText.f
 repeat' first
   | (with_reducible exact spec_Digits.mono _ _)
   | (with_reducible exact LeO.refl _)
   | (with_reducible exact LeO.none _)
   | (with_reducible refine LeO.ite ?_ ?_)
   | (with_reducible refine LeO.bind ?_ (fun _ => ?_))
   | exact spec_Digits.mono _ _
   | exact LeO.none _
   | refine LeO.ite ?_ ?_
   | refine LeO.bind ?_ (fun _ => ?_)
def spec_TxText.T3 : Bool × List (List Nat × List Nat) := (true, [([], []), ([0], [0]), ([1], [1]), ([2], [2]), ([], []), ([4], [4]), ([5, 2], [5]), ([3, 6], [3, 6]), ([7], [7]), ([], []), ([9], [9]), ([10, 6], [10]), ([8, 11], [8, 11]), ([12], [12]), ([], []), ([14], [14]), ([15, 11], [15]), ([13, 16], [13, 16]), ([17, 16, 0, 1, 2, 3, 4, 5, 6, 7, 8, 9, 10, 11, 12, 13, 14, 15, 16, 17], [17])])
def spec_TxText.B3 : List Nat := [0, 1, 3, 7, 0, 16, 55, 127, 255, 0, 512, 1655, 4095, 8191, 0, 16384, 52855, 131071, 262143]
theorem spec_TxText.tab3 : rtab .any (opsOf Tryz.f53 3) = spec_TxText.T3 := by kernel_rfl
theorem spec_TxText.bits3 : waitsOk spec_TxText.T3.2 spec_TxText.B3 = true := by kernel_rfl
theorem spec_TxText.calls (k : Nat) (a0_0 : Int) (a0_1 : Int) (a0_2 : Int) (a0_3 : Int) (r : ByteArray) (w : World) (h : spec_TxText.f k a0_0 a0_1 a0_2 a0_3 = some r) :
  Calls Tryz.prog 53 #[.agg #[.int .i64 a0_0, .int .i64 a0_1, .int .i64 a0_2, .int .i64 a0_3]] w fun e w' => e = .returned (.string r) ∧ Below w.heap.size w w' := by
 have hu60 := Tryz.underlying60
 have HB := Aside0.mk (Below.refl w.heap.size w)
 have H : ((spec_TxOk.f a0_0 a0_1 a0_2 a0_3).bind fun t148 => (if t148 = true then ((spec_Digits.f k a0_0).bind fun t149 => (if t149.size + 1 ≤ 9223372036854775807 then ((spec_Digits.f k a0_1).bind fun t150 => (if (t149 ++ (⟨#[62]⟩ : ByteArray)).size + t150.size ≤ 9223372036854775807 then (if ((t149 ++ (⟨#[62]⟩ : ByteArray)) ++ t150).size + 1 ≤ 9223372036854775807 then ((spec_Digits.f k a0_2).bind fun t151 => (if (((t149 ++ (⟨#[62]⟩ : ByteArray)) ++ t150) ++ (⟨#[58]⟩ : ByteArray)).size + t151.size ≤ 9223372036854775807 then (if ((((t149 ++ (⟨#[62]⟩ : ByteArray)) ++ t150) ++ (⟨#[58]⟩ : ByteArray)) ++ t151).size + 1 ≤ 9223372036854775807 then ((spec_Digits.f k a0_3).bind fun t152 => (if (((((t149 ++ (⟨#[62]⟩ : ByteArray)) ++ t150) ++ (⟨#[58]⟩ : ByteArray)) ++ t151) ++ (⟨#[35]⟩ : ByteArray)).size + t152.size ≤ 9223372036854775807 then (some ((((((t149 ++ (⟨#[62]⟩ : ByteArray)) ++ t150) ++ (⟨#[58]⟩ : ByteArray)) ++ t151) ++ (⟨#[35]⟩ : ByteArray)) ++ t152)) else (none))) else (none)) else (none))) else (none)) else (none))) else (none))) else (some (⟨#[]⟩ : ByteArray)))) = some r := h
 clear h
 replace H := Option.bind_eq_some_iff.mp H
 obtain ⟨t148, A20, H⟩ := H
 replace H : (if t148 = true then ((spec_Digits.f k a0_0).bind fun t149 => (if t149.size + 1 ≤ 9223372036854775807 then ((spec_Digits.f k a0_1).bind fun t150 => (if (t149 ++ (⟨#[62]⟩ : ByteArray)).size + t150.size ≤ 9223372036854775807 then (if ((t149 ++ (⟨#[62]⟩ : ByteArray)) ++ t150).size + 1 ≤ 9223372036854775807 then ((spec_Digits.f k a0_2).bind fun t151 => (if (((t149 ++ (⟨#[62]⟩ : ByteArray)) ++ t150) ++ (⟨#[58]⟩ : ByteArray)).size + t151.size ≤ 9223372036854775807 then (if ((((t149 ++ (⟨#[62]⟩ : ByteArray)) ++ t150) ++ (⟨#[58]⟩ : ByteArray)) ++ t151).size + 1 ≤ 9223372036854775807 then ((spec_Digits.f k a0_3).bind fun t152 => (if (((((t149 ++ (⟨#[62]⟩ : ByteArray)) ++ t150) ++ (⟨#[58]⟩ : ByteArray)) ++ t151) ++ (⟨#[35]⟩ : ByteArray)).size + t152.size ≤ 9223372036854775807 then (some ((((((t149 ++ (⟨#[62]⟩ : ByteArray)) ++ t150) ++ (⟨#[58]⟩ : ByteArray)) ++ t151) ++ (⟨#[35]⟩ : ByteArray)) ++ t152)) else (none))) else (none)) else (none))) else (none)) else (none))) else (none))) else (some (⟨#[]⟩ : ByteArray))) = some r := H
 have A2 := Aside0.mk A20
 clear A20
 have HF := Aside0.mk H
 clear H
 go_enter Tryz.func53, Tryz.ntmps53
 go_upto_if 5 with (go_big_may; first | ((with_reducible refine gate_dst (N := 1) rfl ?_); refine box_event ?hg (N := 1) ?hd (cs := #[.int .i64 a0_0, .int .i64 a0_1, .int .i64 a0_2, .int .i64 a0_3]) (t := 60) ?hr ?_; (case hd => rfl); (case hg => rfl); (case hr => first | (go_simp; done) | (go_simp; rfl)); intro gb147 hg w3 hbox hb; have n0_ := Aside0.mk (below_step (by repeat (first | exact HB.out | apply below_alloc | apply pw_below_drewN | apply below_drew1)) hb); have n1_ := Aside0.mk (hbox); have n2_ := Aside0.mk ((by rw [hg]; exact (below_size (by repeat (first | exact HB.out | apply below_alloc | apply pw_below_drewN | apply below_drew1))) : w.heap.size ≤ gb147)); have n3_ := Aside0.mk ((by rw [hg]; exact (below_size (by repeat (first | exact HB.out | apply below_alloc | apply pw_below_drewN | apply below_drew1))) : w.heap.size ≤ gb147)); clear HB; have HB := n0_; have BK147 := n1_; have GW147 := n2_; have GE147 := n3_; clear n0_ n1_ n2_ n3_; clear hb hbox hg; have hcz4_0 : w3.cell? ⟨gb147, 0, none⟩ = some (.int .i64 a0_0) := (blk_cell BK147.out 0).trans rfl; have hcz4_1 : w3.cell? ⟨gb147, 1, none⟩ = some (.int .i64 a0_1) := (blk_cell BK147.out 1).trans rfl; have hcz4_2 : w3.cell? ⟨gb147, 2, none⟩ = some (.int .i64 a0_2) := (blk_cell BK147.out 2).trans rfl; have hcz4_3 : w3.cell? ⟨gb147, 3, none⟩ = some (.int .i64 a0_3) := (blk_cell BK147.out 3).trans rfl; have hfz4_0 := blk_frozen BK147.out 0; have hfz4_1 := blk_frozen BK147.out 1; have hfz4_2 := blk_frozen BK147.out 2; have hfz4_3 := blk_frozen BK147.out 3) | ((with_reducible refine gate_callee (f := 47) rfl ?_); refine goesL_ (some 4) rfl rfl Tryz.func47 (by kernel_rfl) rfl #[.agg #[.int .i64 a0_0, .int .i64 a0_1, .int .i64 a0_2, .int .i64 a0_3]] rfl (by (try simp only [List.map_toArray, List.map_cons, List.map_nil]); first | done | rfl) ?_; (with_reducible refine (spec_TxOk.calls a0_0 a0_1 a0_2 a0_3 t148 _ A2.out).mono ?_); rintro e w5 ⟨rfl, hb⟩; refine ⟨_, rfl, ?_⟩; have n0_ := Aside0.mk (blk_below (g := gb147) (o := .cells #[.int .i64 a0_0, .int .i64 a0_1, .int .i64 a0_2, .int .i64 a0_3] 60 (0, 0)) (by (with_reducible repeat (first | refine blk_drewN ?_ _ | refine blk_drew ?_ | refine blk_alloc ?_ _)); exact BK147.out) hb); have n1_ := Aside0.mk (below_step (by repeat (first | (with_reducible first | exact HB.out | apply below_alloc | apply pw_below_drewN | apply below_drew1 | refine below_set ?_ GE147.out) | exact HB.out)) hb); clear BK147; clear HB; have BK147 := n0_; have HB := n1_; clear n0_ n1_; (try clear hb)))
 have H := HF.out
 clear HF
 by_cases c6 : t148 = true
 ·subst c6
  have H1 : ((spec_Digits.f k a0_0).bind fun t149 => (if t149.size + 1 ≤ 9223372036854775807 then ((spec_Digits.f k a0_1).bind fun t150 => (if (t149 ++ (⟨#[62]⟩ : ByteArray)).size + t150.size ≤ 9223372036854775807 then (if ((t149 ++ (⟨#[62]⟩ : ByteArray)) ++ t150).size + 1 ≤ 9223372036854775807 then ((spec_Digits.f k a0_2).bind fun t151 => (if (((t149 ++ (⟨#[62]⟩ : ByteArray)) ++ t150) ++ (⟨#[58]⟩ : ByteArray)).size + t151.size ≤ 9223372036854775807 then (if ((((t149 ++ (⟨#[62]⟩ : ByteArray)) ++ t150) ++ (⟨#[58]⟩ : ByteArray)) ++ t151).size + 1 ≤ 9223372036854775807 then ((spec_Digits.f k a0_3).bind fun t152 => (if (((((t149 ++ (⟨#[62]⟩ : ByteArray)) ++ t150) ++ (⟨#[58]⟩ : ByteArray)) ++ t151) ++ (⟨#[35]⟩ : ByteArray)).size + t152.size ≤ 9223372036854775807 then (some ((((((t149 ++ (⟨#[62]⟩ : ByteArray)) ++ t150) ++ (⟨#[58]⟩ : ByteArray)) ++ t151) ++ (⟨#[35]⟩ : ByteArray)) ++ t152)) else (none))) else (none)) else (none))) else (none)) else (none))) else (none))) = some r := by rw [if_pos rfl] at H; exact H
  clear H
  have H := H1
  clear H1
  replace H := Option.bind_eq_some_iff.mp H
  obtain ⟨t149, A70, H⟩ := H
  replace H : (if t149.size + 1 ≤ 9223372036854775807 then ((spec_Digits.f k a0_1).bind fun t150 => (if (t149 ++ (⟨#[62]⟩ : ByteArray)).size + t150.size ≤ 9223372036854775807 then (if ((t149 ++ (⟨#[62]⟩ : ByteArray)) ++ t150).size + 1 ≤ 9223372036854775807 then ((spec_Digits.f k a0_2).bind fun t151 => (if (((t149 ++ (⟨#[62]⟩ : ByteArray)) ++ t150) ++ (⟨#[58]⟩ : ByteArray)).size + t151.size ≤ 9223372036854775807 then (if ((((t149 ++ (⟨#[62]⟩ : ByteArray)) ++ t150) ++ (⟨#[58]⟩ : ByteArray)) ++ t151).size + 1 ≤ 9223372036854775807 then ((spec_Digits.f k a0_3).bind fun t152 => (if (((((t149 ++ (⟨#[62]⟩ : ByteArray)) ++ t150) ++ (⟨#[58]⟩ : ByteArray)) ++ t151) ++ (⟨#[35]⟩ : ByteArray)).size + t152.size ≤ 9223372036854775807 then (some ((((((t149 ++ (⟨#[62]⟩ : ByteArray)) ++ t150) ++ (⟨#[58]⟩ : ByteArray)) ++ t151) ++ (⟨#[35]⟩ : ByteArray)) ++ t152)) else (none))) else (none)) else (none))) else (none)) else (none))) else (none)) = some r := H
  have A7 := Aside0.mk A70
  clear A70
  by_cases c8 : t149.size + 1 ≤ 9223372036854775807
  ·rw [if_pos c8] at H
   have c8b0 := eq_true c8
   have c8b1 : decide (t149.size + 1 ≤ 9223372036854775807) = true := decide_eq_true c8
   try have c8b2 : (9223372036854775807 < t149.size + 1) = False := eq_false (Nat.not_lt.2 c8)
   replace H := Option.bind_eq_some_iff.mp H
   obtain ⟨t150, A90, H⟩ := H
   replace H : (if (t149 ++ (⟨#[62]⟩ : ByteArray)).size + t150.size ≤ 9223372036854775807 then (if ((t149 ++ (⟨#[62]⟩ : ByteArray)) ++ t150).size + 1 ≤ 9223372036854775807 then ((spec_Digits.f k a0_2).bind fun t151 => (if (((t149 ++ (⟨#[62]⟩ : ByteArray)) ++ t150) ++ (⟨#[58]⟩ : ByteArray)).size + t151.size ≤ 9223372036854775807 then (if ((((t149 ++ (⟨#[62]⟩ : ByteArray)) ++ t150) ++ (⟨#[58]⟩ : ByteArray)) ++ t151).size + 1 ≤ 9223372036854775807 then ((spec_Digits.f k a0_3).bind fun t152 => (if (((((t149 ++ (⟨#[62]⟩ : ByteArray)) ++ t150) ++ (⟨#[58]⟩ : ByteArray)) ++ t151) ++ (⟨#[35]⟩ : ByteArray)).size + t152.size ≤ 9223372036854775807 then (some ((((((t149 ++ (⟨#[62]⟩ : ByteArray)) ++ t150) ++ (⟨#[58]⟩ : ByteArray)) ++ t151) ++ (⟨#[35]⟩ : ByteArray)) ++ t152)) else (none))) else (none)) else (none))) else (none)) else (none)) = some r := H
   have A9 := Aside0.mk A90
   clear A90
   by_cases c10 : (t149 ++ (⟨#[62]⟩ : ByteArray)).size + t150.size ≤ 9223372036854775807
   ·rw [if_pos c10] at H
    have c10b0 := eq_true c10
    have c10b1 : decide ((t149 ++ (⟨#[62]⟩ : ByteArray)).size + t150.size ≤ 9223372036854775807) = true := decide_eq_true c10
    try have c10b2 : (9223372036854775807 < (t149 ++ (⟨#[62]⟩ : ByteArray)).size + t150.size) = False := eq_false (Nat.not_lt.2 c10)
    try (have c10b3 := Nat.not_lt.2 c10; simp only [ByteArray.size_append, show ∀ x_ : UInt8, (⟨#[x_]⟩ : ByteArray).size = 1 from fun _ => rfl] at c10b3; replace c10b3 := eq_false c10b3)
    by_cases c11 : ((t149 ++ (⟨#[62]⟩ : ByteArray)) ++ t150).size + 1 ≤ 9223372036854775807
    ·rw [if_pos c11] at H
     have c11b0 := eq_true c11
     have c11b1 : decide (((t149 ++ (⟨#[62]⟩ : ByteArray)) ++ t150).size + 1 ≤ 9223372036854775807) = true := decide_eq_true c11
     try have c11b2 : (9223372036854775807 < ((t149 ++ (⟨#[62]⟩ : ByteArray)) ++ t150).size + 1) = False := eq_false (Nat.not_lt.2 c11)
     try (have c11b3 := Nat.not_lt.2 c11; simp only [ByteArray.size_append, show ∀ x_ : UInt8, (⟨#[x_]⟩ : ByteArray).size = 1 from fun _ => rfl] at c11b3; replace c11b3 := eq_false c11b3)
     replace H := Option.bind_eq_some_iff.mp H
     obtain ⟨t151, A120, H⟩ := H
     replace H : (if (((t149 ++ (⟨#[62]⟩ : ByteArray)) ++ t150) ++ (⟨#[58]⟩ : ByteArray)).size + t151.size ≤ 9223372036854775807 then (if ((((t149 ++ (⟨#[62]⟩ : ByteArray)) ++ t150) ++ (⟨#[58]⟩ : ByteArray)) ++ t151).size + 1 ≤ 9223372036854775807 then ((spec_Digits.f k a0_3).bind fun t152 => (if (((((t149 ++ (⟨#[62]⟩ : ByteArray)) ++ t150) ++ (⟨#[58]⟩ : ByteArray)) ++ t151) ++ (⟨#[35]⟩ : ByteArray)).size + t152.size ≤ 9223372036854775807 then (some ((((((t149 ++ (⟨#[62]⟩ : ByteArray)) ++ t150) ++ (⟨#[58]⟩ : ByteArray)) ++ t151) ++ (⟨#[35]⟩ : ByteArray)) ++ t152)) else (none))) else (none)) else (none)) = some r := H
     have A12 := Aside0.mk A120
     clear A120
     by_cases c13 : (((t149 ++ (⟨#[62]⟩ : ByteArray)) ++ t150) ++ (⟨#[58]⟩ : ByteArray)).size + t151.size ≤ 9223372036854775807
     ·rw [if_pos c13] at H
      have c13b0 := eq_true c13
      have c13b1 : decide ((((t149 ++ (⟨#[62]⟩ : ByteArray)) ++ t150) ++ (⟨#[58]⟩ : ByteArray)).size + t151.size ≤ 9223372036854775807) = true := decide_eq_true c13
      try have c13b2 : (9223372036854775807 < (((t149 ++ (⟨#[62]⟩ : ByteArray)) ++ t150) ++ (⟨#[58]⟩ : ByteArray)).size + t151.size) = False := eq_false (Nat.not_lt.2 c13)
      try (have c13b3 := Nat.not_lt.2 c13; simp only [ByteArray.size_append, show ∀ x_ : UInt8, (⟨#[x_]⟩ : ByteArray).size = 1 from fun _ => rfl] at c13b3; replace c13b3 := eq_false c13b3)
      by_cases c14 : ((((t149 ++ (⟨#[62]⟩ : ByteArray)) ++ t150) ++ (⟨#[58]⟩ : ByteArray)) ++ t151).size + 1 ≤ 9223372036854775807
      ·rw [if_pos c14] at H
       have c14b0 := eq_true c14
       have c14b1 : decide (((((t149 ++ (⟨#[62]⟩ : ByteArray)) ++ t150) ++ (⟨#[58]⟩ : ByteArray)) ++ t151).size + 1 ≤ 9223372036854775807) = true := decide_eq_true c14
       try have c14b2 : (9223372036854775807 < ((((t149 ++ (⟨#[62]⟩ : ByteArray)) ++ t150) ++ (⟨#[58]⟩ : ByteArray)) ++ t151).size + 1) = False := eq_false (Nat.not_lt.2 c14)
       try (have c14b3 := Nat.not_lt.2 c14; simp only [ByteArray.size_append, show ∀ x_ : UInt8, (⟨#[x_]⟩ : ByteArray).size = 1 from fun _ => rfl] at c14b3; replace c14b3 := eq_false c14b3)
       replace H := Option.bind_eq_some_iff.mp H
       obtain ⟨t152, A150, H⟩ := H
       replace H : (if (((((t149 ++ (⟨#[62]⟩ : ByteArray)) ++ t150) ++ (⟨#[58]⟩ : ByteArray)) ++ t151) ++ (⟨#[35]⟩ : ByteArray)).size + t152.size ≤ 9223372036854775807 then (some ((((((t149 ++ (⟨#[62]⟩ : ByteArray)) ++ t150) ++ (⟨#[58]⟩ : ByteArray)) ++ t151) ++ (⟨#[35]⟩ : ByteArray)) ++ t152)) else (none)) = some r := H
       have A15 := Aside0.mk A150
       clear A150
       by_cases c16 : (((((t149 ++ (⟨#[62]⟩ : ByteArray)) ++ t150) ++ (⟨#[58]⟩ : ByteArray)) ++ t151) ++ (⟨#[35]⟩ : ByteArray)).size + t152.size ≤ 9223372036854775807
       ·rw [if_pos c16] at H
        have c16b0 := eq_true c16
        have c16b1 : decide ((((((t149 ++ (⟨#[62]⟩ : ByteArray)) ++ t150) ++ (⟨#[58]⟩ : ByteArray)) ++ t151) ++ (⟨#[35]⟩ : ByteArray)).size + t152.size ≤ 9223372036854775807) = true := decide_eq_true c16
        try have c16b2 : (9223372036854775807 < (((((t149 ++ (⟨#[62]⟩ : ByteArray)) ++ t150) ++ (⟨#[58]⟩ : ByteArray)) ++ t151) ++ (⟨#[35]⟩ : ByteArray)).size + t152.size) = False := eq_false (Nat.not_lt.2 c16)
        try (have c16b3 := Nat.not_lt.2 c16; simp only [ByteArray.size_append, show ∀ x_ : UInt8, (⟨#[x_]⟩ : ByteArray).size = 1 from fun _ => rfl] at c16b3; replace c16b3 := eq_false c16b3)
        obtain rfl := Option.some.inj H
        try go_wp2
        have n0_ := Aside0.mk (blk_drew BK147.out)
        have n1_ := Aside0.mk (below_drew1 HB.out)
        clear BK147
        clear HB
        have BK147 := n0_
        have HB := n1_
        clear n0_ n1_
        refine start_ (n := 19) (S := fun w' => w'.cell? ⟨gb147, 0, none⟩ = some (.int .i64 a0_0) ∧ w'.cell? ⟨gb147, 1, none⟩ = some (.int .i64 a0_1) ∧ w'.cell? ⟨gb147, 2, none⟩ = some (.int .i64 a0_2) ∧ w'.cell? ⟨gb147, 3, none⟩ = some (.int .i64 a0_3)) (ds := []) #[false, false, false, false, false, false, false, false, false, false, false, false, false, false, false, false, false, false, false] (by kernel_rfl) rfl rfl ⟨(blk_cell BK147.out 0).trans rfl, (blk_cell BK147.out 1).trans rfl, (blk_cell BK147.out 2).trans rfl, (blk_cell BK147.out 3).trans rfl⟩ (fun hHeld => ?_); refine with_tabW spec_TxText.tab3 spec_TxText.bits3 (fun HT_ HW_ => ?_)
        generalize w5.drew = w17 at BK147 HB hHeld ⊢
        refine pure_ (i := 0) (N := some 6) (v := ?_) (a' := ?_) #[true, false, false, false, false, false, false, false, false, false, false, false, false, false, false, false, false, false, false] rfl rfl (any_of HT_.out (by kernel_rfl)) (fun _ _ _ h => h) (Or.inl ⟨by rfl, ?_⟩) ?_ ?_
        rotate_left
        ·intro w'
         go_simp
         with_reducible rfl
        rotate_left
        ·simp only [Act.put, List.setIfInBounds_toArray, List.set_cons_zero, List.set_cons_succ, i64_w, i32_w]
         rfl
        refine pure_ (i := 4) (N := some 10) (v := ?_) (a' := ?_) #[true, false, false, false, true, false, false, false, false, false, false, false, false, false, false, false, false, false, false] rfl rfl (any_of HT_.out (by kernel_rfl)) (fun _ _ _ h => h) (Or.inl ⟨by rfl, ?_⟩) ?_ ?_
        rotate_left
        ·intro w'
         go_simp
         with_reducible rfl
        rotate_left
        ·simp only [Act.put, List.setIfInBounds_toArray, List.set_cons_zero, List.set_cons_succ, i64_w, i32_w]
         rfl
        refine pure_ (i := 9) (N := some 15) (v := ?_) (a' := ?_) #[true, false, false, false, true, false, false, false, false, true, false, false, false, false, false, false, false, false, false] rfl rfl (any_of HT_.out (by kernel_rfl)) (fun _ _ _ h => h) (Or.inl ⟨by rfl, ?_⟩) ?_ ?_
        rotate_left
        ·intro w'
         go_simp
         with_reducible rfl
        rotate_left
        ·simp only [Act.put, List.setIfInBounds_toArray, List.set_cons_zero, List.set_cons_succ, i64_w, i32_w]
         rfl
        refine pure_ (i := 14) (N := some 20) (v := ?_) (a' := ?_) #[true, false, false, false, true, false, false, false, false, true, false, false, false, false, true, false, false, false, false] rfl rfl (any_of HT_.out (by kernel_rfl)) (fun _ _ _ h => h) (Or.inl ⟨by rfl, ?_⟩) ?_ ?_
        rotate_left
        ·intro w'
         go_simp
         with_reducible rfl
        rotate_left
        ·simp only [Act.put, List.setIfInBounds_toArray, List.set_cons_zero, List.set_cons_succ, i64_w, i32_w]
         rfl
        refine take_ (i := 1) (N := some 7) (v := ?_) (a' := ?_) #[true, true, false, false, true, false, false, false, false, true, false, false, false, false, true, false, false, false, false] rfl rfl (take_ofW HT_.out HW_.out (by kernel_rfl)) (fun _ _ _ h => h) (Or.inl ⟨by rfl, ?_⟩) hHeld ?_ ?_
        rotate_left
        ·rintro w' ⟨s0, s1, s2, s3⟩
         go_simp
         with_reducible rfl
        rotate_left
        ·simp only [Act.put, List.setIfInBounds_toArray, List.set_cons_zero, List.set_cons_succ, i64_w, i32_w]
         rfl
        refine take_ (i := 5) (N := some 11) (v := ?_) (a' := ?_) #[true, true, false, false, true, true, false, false, false, true, false, false, false, false, true, false, false, false, false] rfl rfl (take_ofW HT_.out HW_.out (by kernel_rfl)) (fun _ _ _ h => h) (Or.inl ⟨by rfl, ?_⟩) hHeld ?_ ?_
        rotate_left
        ·rintro w' ⟨s0, s1, s2, s3⟩
         go_simp
         with_reducible rfl
        rotate_left
        ·simp only [Act.put, List.setIfInBounds_toArray, List.set_cons_zero, List.set_cons_succ, i64_w, i32_w]
         rfl
        refine take_ (i := 10) (N := some 16) (v := ?_) (a' := ?_) #[true, true, false, false, true, true, false, false, false, true, true, false, false, false, true, false, false, false, false] rfl rfl (take_ofW HT_.out HW_.out (by kernel_rfl)) (fun _ _ _ h => h) (Or.inl ⟨by rfl, ?_⟩) hHeld ?_ ?_
        rotate_left
        ·rintro w' ⟨s0, s1, s2, s3⟩
         go_simp
         with_reducible rfl
        rotate_left
        ·simp only [Act.put, List.setIfInBounds_toArray, List.set_cons_zero, List.set_cons_succ, i64_w, i32_w]
         rfl
        refine take_ (i := 15) (N := some 21) (v := ?_) (a' := ?_) #[true, true, false, false, true, true, false, false, false, true, true, false, false, false, true, true, false, false, false] rfl rfl (take_ofW HT_.out HW_.out (by kernel_rfl)) (fun _ _ _ h => h) (Or.inl ⟨by rfl, ?_⟩) hHeld ?_ ?_
        rotate_left
        ·rintro w' ⟨s0, s1, s2, s3⟩
         go_simp
         with_reducible rfl
        rotate_left
        ·simp only [Act.put, List.setIfInBounds_toArray, List.set_cons_zero, List.set_cons_succ, i64_w, i32_w]
         rfl
        refine one_ (i := 2) (N := some 8) #[true, true, true, false, true, true, false, false, false, true, true, false, false, false, true, true, false, false, false] rfl rfl (one_of HT_.out (by kernel_rfl)) (by decide) (fun K hK => ?_)
        refine goes_ Tryz.func48 (by kernel_rfl) rfl #[.int .i64 a0_0] (by rfl) rfl rfl (by (try simp only [List.map_toArray, List.map_cons, List.map_nil]); first | done | rfl) ?_
        with_reducible refine (spec_Digits.calls k a0_0 t149 _ A7.out).mono ?_
        rintro e w18 ⟨rfl, hb⟩
        refine ⟨_, rfl, ?_⟩
        have n0_ := Aside0.mk (blk_below (g := gb147) (o := .cells #[.int .i64 a0_0, .int .i64 a0_1, .int .i64 a0_2, .int .i64 a0_3] 60 (0, 0)) (by (with_reducible repeat (first | refine blk_drewN ?_ _ | refine blk_drew ?_ | refine blk_alloc ?_ _)); exact BK147.out) hb)
        have n1_ := Aside0.mk (below_step (by repeat (first | (with_reducible first | exact HB.out | apply below_alloc | apply pw_below_drewN | apply below_drew1 | refine below_set ?_ GE147.out) | exact HB.out)) hb)
        clear BK147
        clear HB
        have BK147 := n0_
        have HB := n1_
        clear n0_ n1_
        (try clear hb)
        (try clear hb2)
        (try clear hk)
        (try clear hi)
        refine hK.out _ _ ⟨(blk_cell BK147.out 0).trans rfl, (blk_cell BK147.out 1).trans rfl, (blk_cell BK147.out 2).trans rfl, (blk_cell BK147.out 3).trans rfl⟩ (fun hHeld => ?_)
        clear hK K
        refine norm_ (a' := ?_) ?_ ?_
        rotate_left
        ·show Act.put _ (some 8) _ = _
         simp only [Act.put, List.setIfInBounds_toArray, List.set_cons_zero, List.set_cons_succ, i64_w, i32_w]
         rfl
        refine pure_ (i := 3) (N := some 9) (v := ?_) (a' := ?_) #[true, true, true, true, true, true, false, false, false, true, true, false, false, false, true, true, false, false, false] rfl rfl (any_of HT_.out (by kernel_rfl)) (fun _ _ _ h => h) (Or.inl ⟨by rfl, ?_⟩) ?_ ?_
        rotate_left
        ·intro w'
         go_simp
         with_reducible rfl
        rotate_left
        ·simp only [Act.put, List.setIfInBounds_toArray, List.set_cons_zero, List.set_cons_succ, i64_w, i32_w]
         rfl
        refine one_ (i := 6) (N := some 12) #[true, true, true, true, true, true, true, false, false, true, true, false, false, false, true, true, false, false, false] rfl rfl (one_of HT_.out (by kernel_rfl)) (by decide) (fun K hK => ?_)
        refine goes_ Tryz.func48 (by kernel_rfl) rfl #[.int .i64 a0_1] (by rfl) rfl rfl (by (try simp only [List.map_toArray, List.map_cons, List.map_nil]); first | done | rfl) ?_
        with_reducible refine (spec_Digits.calls k a0_1 t150 _ A9.out).mono ?_
        rintro e w19 ⟨rfl, hb⟩
        refine ⟨_, rfl, ?_⟩
        have n0_ := Aside0.mk (blk_below (g := gb147) (o := .cells #[.int .i64 a0_0, .int .i64 a0_1, .int .i64 a0_2, .int .i64 a0_3] 60 (0, 0)) (by (with_reducible repeat (first | refine blk_drewN ?_ _ | refine blk_drew ?_ | refine blk_alloc ?_ _)); exact BK147.out) hb)
        have n1_ := Aside0.mk (below_step (by repeat (first | (with_reducible first | exact HB.out | apply below_alloc | apply pw_below_drewN | apply below_drew1 | refine below_set ?_ GE147.out) | exact HB.out)) hb)
        clear BK147
        clear HB
        have BK147 := n0_
        have HB := n1_
        clear n0_ n1_
        (try clear hb)
        (try clear hb2)
        (try clear hk)
        (try clear hi)
        refine hK.out _ _ ⟨(blk_cell BK147.out 0).trans rfl, (blk_cell BK147.out 1).trans rfl, (blk_cell BK147.out 2).trans rfl, (blk_cell BK147.out 3).trans rfl⟩ (fun hHeld => ?_)
        clear hK K
        refine norm_ (a' := ?_) ?_ ?_
        rotate_left
        ·show Act.put _ (some 12) _ = _
         simp only [Act.put, List.setIfInBounds_toArray, List.set_cons_zero, List.set_cons_succ, i64_w, i32_w]
         rfl
        refine pure_ (i := 7) (N := some 13) (v := ?_) (a' := ?_) #[true, true, true, true, true, true, true, true, false, true, true, false, false, false, true, true, false, false, false] rfl rfl (any_of HT_.out (by kernel_rfl)) (fun _ _ _ h => h) (Or.inl ⟨by rfl, ?_⟩) ?_ ?_
        rotate_left
        ·intro w'
         go_simp
         with_reducible rfl
        rotate_left
        ·simp only [Act.put, List.setIfInBounds_toArray, List.set_cons_zero, List.set_cons_succ, i64_w, i32_w]
         rfl
        refine pure_ (i := 8) (N := some 14) (v := ?_) (a' := ?_) #[true, true, true, true, true, true, true, true, true, true, true, false, false, false, true, true, false, false, false] rfl rfl (any_of HT_.out (by kernel_rfl)) (fun _ _ _ h => h) (Or.inl ⟨by rfl, ?_⟩) ?_ ?_
        rotate_left
        ·intro w'
         go_simp
         with_reducible rfl
        rotate_left
        ·simp only [Act.put, List.setIfInBounds_toArray, List.set_cons_zero, List.set_cons_succ, i64_w, i32_w]
         rfl
        refine one_ (i := 11) (N := some 17) #[true, true, true, true, true, true, true, true, true, true, true, true, false, false, true, true, false, false, false] rfl rfl (one_of HT_.out (by kernel_rfl)) (by decide) (fun K hK => ?_)
        refine goes_ Tryz.func48 (by kernel_rfl) rfl #[.int .i64 a0_2] (by rfl) rfl rfl (by (try simp only [List.map_toArray, List.map_cons, List.map_nil]); first | done | rfl) ?_
        with_reducible refine (spec_Digits.calls k a0_2 t151 _ A12.out).mono ?_
        rintro e w20 ⟨rfl, hb⟩
        refine ⟨_, rfl, ?_⟩
        have n0_ := Aside0.mk (blk_below (g := gb147) (o := .cells #[.int .i64 a0_0, .int .i64 a0_1, .int .i64 a0_2, .int .i64 a0_3] 60 (0, 0)) (by (with_reducible repeat (first | refine blk_drewN ?_ _ | refine blk_drew ?_ | refine blk_alloc ?_ _)); exact BK147.out) hb)
        have n1_ := Aside0.mk (below_step (by repeat (first | (with_reducible first | exact HB.out | apply below_alloc | apply pw_below_drewN | apply below_drew1 | refine below_set ?_ GE147.out) | exact HB.out)) hb)
        clear BK147
        clear HB
        have BK147 := n0_
        have HB := n1_
        clear n0_ n1_
        (try clear hb)
        (try clear hb2)
        (try clear hk)
        (try clear hi)
        refine hK.out _ _ ⟨(blk_cell BK147.out 0).trans rfl, (blk_cell BK147.out 1).trans rfl, (blk_cell BK147.out 2).trans rfl, (blk_cell BK147.out 3).trans rfl⟩ (fun hHeld => ?_)
        clear hK K
        refine norm_ (a' := ?_) ?_ ?_
        rotate_left
        ·show Act.put _ (some 17) _ = _
         simp only [Act.put, List.setIfInBounds_toArray, List.set_cons_zero, List.set_cons_succ, i64_w, i32_w]
         rfl
        refine pure_ (i := 12) (N := some 18) (v := ?_) (a' := ?_) #[true, true, true, true, true, true, true, true, true, true, true, true, true, false, true, true, false, false, false] rfl rfl (any_of HT_.out (by kernel_rfl)) (fun _ _ _ h => h) (Or.inl ⟨by rfl, ?_⟩) ?_ ?_
        rotate_left
        ·intro w'
         go_simp
         with_reducible rfl
        rotate_left
        ·simp only [Act.put, List.setIfInBounds_toArray, List.set_cons_zero, List.set_cons_succ, i64_w, i32_w]
         rfl
        refine pure_ (i := 13) (N := some 19) (v := ?_) (a' := ?_) #[true, true, true, true, true, true, true, true, true, true, true, true, true, true, true, true, false, false, false] rfl rfl (any_of HT_.out (by kernel_rfl)) (fun _ _ _ h => h) (Or.inl ⟨by rfl, ?_⟩) ?_ ?_
        rotate_left
        ·intro w'
         go_simp
         with_reducible rfl
        rotate_left
        ·simp only [Act.put, List.setIfInBounds_toArray, List.set_cons_zero, List.set_cons_succ, i64_w, i32_w]
         rfl
        refine one_ (i := 16) (N := some 22) #[true, true, true, true, true, true, true, true, true, true, true, true, true, true, true, true, true, false, false] rfl rfl (one_of HT_.out (by kernel_rfl)) (by decide) (fun K hK => ?_)
        refine goes_ Tryz.func48 (by kernel_rfl) rfl #[.int .i64 a0_3] (by rfl) rfl rfl (by (try simp only [List.map_toArray, List.map_cons, List.map_nil]); first | done | rfl) ?_
        with_reducible refine (spec_Digits.calls k a0_3 t152 _ A15.out).mono ?_
        rintro e w21 ⟨rfl, hb⟩
        refine ⟨_, rfl, ?_⟩
        have n0_ := Aside0.mk (blk_below (g := gb147) (o := .cells #[.int .i64 a0_0, .int .i64 a0_1, .int .i64 a0_2, .int .i64 a0_3] 60 (0, 0)) (by (with_reducible repeat (first | refine blk_drewN ?_ _ | refine blk_drew ?_ | refine blk_alloc ?_ _)); exact BK147.out) hb)
        have n1_ := Aside0.mk (below_step (by repeat (first | (with_reducible first | exact HB.out | apply below_alloc | apply pw_below_drewN | apply below_drew1 | refine below_set ?_ GE147.out) | exact HB.out)) hb)
        clear BK147
        clear HB
        have BK147 := n0_
        have HB := n1_
        clear n0_ n1_
        (try clear hb)
        (try clear hb2)
        (try clear hk)
        (try clear hi)
        refine hK.out _ _ ⟨(blk_cell BK147.out 0).trans rfl, (blk_cell BK147.out 1).trans rfl, (blk_cell BK147.out 2).trans rfl, (blk_cell BK147.out 3).trans rfl⟩ (fun hHeld => ?_)
        clear hK K
        refine norm_ (a' := ?_) ?_ ?_
        rotate_left
        ·show Act.put _ (some 22) _ = _
         simp only [Act.put, List.setIfInBounds_toArray, List.set_cons_zero, List.set_cons_succ, i64_w, i32_w]
         rfl
        refine pure_ (i := 17) (N := some 23) (v := ?_) (a' := ?_) #[true, true, true, true, true, true, true, true, true, true, true, true, true, true, true, true, true, true, false] rfl rfl (any_of HT_.out (by kernel_rfl)) (fun _ _ _ h => h) (Or.inl ⟨by rfl, ?_⟩) ?_ ?_
        rotate_left
        ·intro w'
         go_simp
         with_reducible rfl
        rotate_left
        ·simp only [Act.put, List.setIfInBounds_toArray, List.set_cons_zero, List.set_cons_succ, i64_w, i32_w]
         rfl
        refine pure_ (i := 18) (N := some 2) (v := ?_) (a' := ?_) #[true, true, true, true, true, true, true, true, true, true, true, true, true, true, true, true, true, true, true] rfl rfl (any_of HT_.out (by kernel_rfl)) (fun _ _ _ h => h) (Or.inl ⟨by rfl, ?_⟩) ?_ ?_
        rotate_left
        ·intro w'
         go_simp
         with_reducible rfl
        rotate_left
        ·simp only [Act.put, List.setIfInBounds_toArray, List.set_cons_zero, List.set_cons_succ, i64_w, i32_w]
         rfl
        refine done_ (done_of HT_.out (by kernel_rfl)) ?_
        try go_wp2
        go_ret
        exact ⟨by first | rfl | (simp [*] <;> rfl), by repeat (first | (with_reducible first | exact HB.out | apply below_alloc | apply pw_below_drewN | apply below_drew1 | refine below_set ?_ GE147.out) | exact HB.out)⟩
       ·rw [if_neg c16] at H
        exact absurd H (by simp)
      ·rw [if_neg c14] at H
       exact absurd H (by simp)
     ·rw [if_neg c13] at H
      exact absurd H (by simp)
    ·rw [if_neg c11] at H
     exact absurd H (by simp)
   ·rw [if_neg c10] at H
    exact absurd H (by simp)
  ·rw [if_neg c8] at H
   exact absurd H (by simp)
 ·replace c6 := Bool.eq_false_iff.mpr c6
  subst c6
  have H1 : (some (⟨#[]⟩ : ByteArray)) = some r := by rw [if_neg (show ¬ (false = true) by decide)] at H; exact H
  clear H
  have H := H1
  clear H1
  obtain rfl := Option.some.inj H
  go_wp2
  go_ret
  exact ⟨by first | rfl | (simp [*] <;> rfl), by repeat (first | (with_reducible first | exact HB.out | apply below_alloc | apply pw_below_drewN | apply below_drew1 | refine below_set ?_ GE147.out) | exact HB.out)⟩

/-! ### spec_TxsText: function 26 -/
def spec_TxsText.l0 : Nat → List (S60) → ByteArray → Int → Option (ByteArray)
 | 0, _, _, _ => none
 | k + 1, x0, x3, x4 => if x4 < (x0.length : Int) then (if 0 ≤ x4 then ((spec_TxOk.f ((rd_T60 x0 x4).f0) ((rd_T60 x0 x4).f1) ((rd_T60 x0 x4).f2) ((rd_T60 x0 x4).f3)).bind fun t154 => (if t154 = true then (if x4 > 0 then (if x3.size + 1 ≤ 9223372036854775807 then ((spec_TxText.f k ((rd_T60 x0 x4).f0) ((rd_T60 x0 x4).f1) ((rd_T60 x0 x4).f2) ((rd_T60 x0 x4).f3)).bind fun t156 => (if (x3 ++ (⟨#[44]⟩ : ByteArray)).size + t156.size ≤ 9223372036854775807 then (spec_TxsText.l0 k x0 ((x3 ++ (⟨#[44]⟩ : ByteArray)) ++ t156) (wrap64 (x4 + 1))) else (none))) else (none)) else ((spec_TxText.f k ((rd_T60 x0 x4).f0) ((rd_T60 x0 x4).f1) ((rd_T60 x0 x4).f2) ((rd_T60 x0 x4).f3)).bind fun t158 => (if x3.size + t158.size ≤ 9223372036854775807 then (spec_TxsText.l0 k x0 (x3 ++ t158) (wrap64 (x4 + 1))) else (none)))) else (some (⟨#[]⟩ : ByteArray)))) else (none)) else (some x3)
def spec_TxsText.f (k : Nat) (l0 : List (S60)) : Option (ByteArray) := spec_TxsText.l0 k l0 (⟨#[]⟩ : ByteArray) 0
theorem spec_TxsText.mono_l : ∀ k, (∀ y0 y1 y2, LeO (spec_TxsText.l0 k y0 y1 y2) (spec_TxsText.l0 (k + 1) y0 y1 y2))
 | 0 => fun _ _ _ r h => by simp [spec_TxsText.l0] at h
 | k + 1 => by
  have ih0 := spec_TxsText.mono_l k
  ·intro y0 y1 y2
   unfold spec_TxsText.l0
   repeat' first
   | (with_reducible exact ih0 _ _ _)
   | (with_reducible exact spec_TxText.mono _ _ _ _ _)
   | (with_reducible exact LeO.refl _)
   | (with_reducible exact LeO.none _)
   | (with_reducible refine LeO.ite ?_ ?_)
   | (with_reducible refine LeO.bind ?_ (fun _ => ?_))
   | exact ih0 _ _ _
   | exact spec_TxText.mono _ _ _ _ _
   | exact LeO.none _
   | refine LeO.ite ?_ ?_
   | refine LeO.bind ?_ (fun _ => ?_)
theorem spec_TxsText.mono : ∀ a0 k, LeO (spec_TxsText.f k a0) (spec_TxsText.f (k + 1) a0) := by
 intro a0 k
 have ih0 := spec_TxsText.mono_l k
 unfold spec_TxsText.f
 repeat' first
   | (with_reducible exact ih0 _ _ _)
   | (with_reducible exact spec_TxText.mono _ _ _ _ _)
   | (with_reducible exact LeO.refl _)
   | (with_reducible exact LeO.none _)
   | (with_reducible refine LeO.ite ?_ ?_)
   | (with_reducible refine LeO.bind ?_ (fun _ => ?_))
   | exact ih0 _ _ _
   | exact spec_TxText.mono _ _ _ _ _
   | exact LeO.none _
   | refine LeO.ite ?_ ?_
   | refine LeO.bind ?_ (fun _ => ?_)
theorem spec_TxsText.calls (k : Nat) (A0 : Option Addr) (c0 : Nat) (l0 : List (S60)) (r : ByteArray) (w : World) (hr0 : Kd.C k60 w A0 l0.length l0) (hc0 : l0.length ≤ c0) (h : spec_TxsText.f k l0 = some r) :
  Calls Tryz.prog 26 #[.slice A0 l0.length c0] w fun e w' => e = .returned (.string r) ∧ Below w.heap.size w w' := by
 have hu60 := Tryz.underlying60
 have HR0 := Aside0.mk hr0
 have HC0 := Aside0.mk hc0
 clear hr0 hc0
 have HB := Aside0.mk (Below.refl w.heap.size w)
 have H : (spec_TxsText.l0 k l0 (⟨#[]⟩ : ByteArray) 0) = some r := h
 clear h
 have H' := Aside0.mk H
 clear H
 go_enter Tryz.func26, Tryz.ntmps26
 go_wp2
 go_loopg [3, 4] k (fun kq v3 v4 w' => ∃ (x3_1 : ByteArray) (x4_1 : Int), v3 = .string x3_1 ∧ v4 = .int .i64 x4_1 ∧ Aside0 (spec_TxsText.l0 kq l0 x3_1 x4_1 = some r) ∧ Aside0 (kq ≤ k) ∧ Aside0 (Below w.heap.size w w'))
 case atStart => exact ⟨((⟨#[]⟩ : ByteArray)), (0), (by first | rfl | (simp; done) | (simp [*]; done)), (by first | rfl | (simp; done) | (simp [*]; done)), H', ⟨Nat.le_refl _⟩, ⟨by repeat (first | exact HB.out | apply below_alloc | apply pw_below_drewN | apply below_drew1)⟩⟩
 case round =>
  clear H'
  obtain ⟨x3_1, x4_1, rfl, rfl, HA, HK1, HB⟩ := hrel
  cases gk with
  | zero => exact absurd HA.out (by simp [spec_TxsText.l0])
  | succ k1 =>
   have H := HA.out
   clear HA
   simp only [spec_TxsText.l0] at H
   have HF := Aside0.mk H
   clear H
   go_upto_if 8 with (fail)
   have H := HF.out
   clear HF
   by_cases c2 : x4_1 < (l0.length : Int)
   ·rw [if_pos c2] at H
    have c2b0 : decide (x4_1 < (l0.length : Int)) = true := decide_eq_true c2
    clear c2
    (first | rw [c2b0] | (simp only [i64_w, i32_w]; rw [c2b0]) | skip)
    by_cases c3 : 0 ≤ x4_1
    ·rw [if_pos c3] at H
     have c3b0 : decide (0 ≤ x4_1) = true := decide_eq_true c3
     clear c3
     replace H := Option.bind_eq_some_iff.mp H
     obtain ⟨t154, A40, H⟩ := H
     replace H : (if t154 = true then (if x4_1 > 0 then (if x3_1.size + 1 ≤ 9223372036854775807 then ((spec_TxText.f k1 ((rd_T60 l0 x4_1).f0) ((rd_T60 l0 x4_1).f1) ((rd_T60 l0 x4_1).f2) ((rd_T60 l0 x4_1).f3)).bind fun t156 => (if (x3_1 ++ (⟨#[44]⟩ : ByteArray)).size + t156.size ≤ 9223372036854775807 then (spec_TxsText.l0 k1 l0 ((x3_1 ++ (⟨#[44]⟩ : ByteArray)) ++ t156) (wrap64 (x4_1 + 1))) else (none))) else (none)) else ((spec_TxText.f k1 ((rd_T60 l0 x4_1).f0) ((rd_T60 l0 x4_1).f1) ((rd_T60 l0 x4_1).f2) ((rd_T60 l0 x4_1).f3)).bind fun t158 => (if x3_1.size + t158.size ≤ 9223372036854775807 then (spec_TxsText.l0 k1 l0 (x3_1 ++ t158) (wrap64 (x4_1 + 1))) else (none)))) else (some (⟨#[]⟩ : ByteArray))) = some r := H
     have A4 := Aside0.mk A40
     clear A40
     have HF := Aside0.mk H
     clear H
     have p153 : 0 ≤ (x4_1 : Int) := of_decide_eq_true (by first | (with_reducible assumption) | assumption)
     have q153 : x4_1 < (l0.length : Int) := of_decide_eq_true (by first | (with_reducible assumption) | assumption)
     obtain ⟨ad153, e153, hx153_0, hx153_1, hx153_2, hx153_3⟩ := at_T60 HR0.out x4_1 p153 q153
     cases e153
     replace hx153_0 := (HB.out.cell (World.block_lt_of_cell? w _ hx153_0)).trans hx153_0
     replace hx153_1 := (HB.out.cell (World.block_lt_of_cell? w _ hx153_1)).trans hx153_1
     replace hx153_2 := (HB.out.cell (World.block_lt_of_cell? w _ hx153_2)).trans hx153_2
     replace hx153_3 := (HB.out.cell (World.block_lt_of_cell? w _ hx153_3)).trans hx153_3
     replace p153 := eq_true p153
     replace q153 := eq_true q153
     go_upto_if 16 with (go_big_may; first | ((with_reducible refine gate_callee (f := 47) rfl ?_); refine goesL_ (some 15) rfl rfl Tryz.func47 (by kernel_rfl) rfl #[.agg #[.int .i64 ((rd_T60 l0 x4_1).f0), .int .i64 ((rd_T60 l0 x4_1).f1), .int .i64 ((rd_T60 l0 x4_1).f2), .int .i64 ((rd_T60 l0 x4_1).f3)]] rfl (by (try simp only [List.map_toArray, List.map_cons, List.map_nil]); first | done | rfl) ?_; (with_reducible refine (spec_TxOk.calls ((rd_T60 l0 x4_1).f0) ((rd_T60 l0 x4_1).f1) ((rd_T60 l0 x4_1).f2) ((rd_T60 l0 x4_1).f3) t154 _ A4.out).mono ?_); rintro e w5 ⟨rfl, hb⟩; refine ⟨_, rfl, ?_⟩; have n0_ := Aside0.mk (below_step (by repeat (first | exact HB.out | apply below_alloc | apply pw_below_drewN | apply below_drew1)) hb); clear HB; have HB := n0_; clear n0_; (try clear hb)))
     have H := HF.out
     clear HF
     by_cases c6 : t154 = true
     ·subst c6
      have H1 : (if x4_1 > 0 then (if x3_1.size + 1 ≤ 9223372036854775807 then ((spec_TxText.f k1 ((rd_T60 l0 x4_1).f0) ((rd_T60 l0 x4_1).f1) ((rd_T60 l0 x4_1).f2) ((rd_T60 l0 x4_1).f3)).bind fun t156 => (if (x3_1 ++ (⟨#[44]⟩ : ByteArray)).size + t156.size ≤ 9223372036854775807 then (spec_TxsText.l0 k1 l0 ((x3_1 ++ (⟨#[44]⟩ : ByteArray)) ++ t156) (wrap64 (x4_1 + 1))) else (none))) else (none)) else ((spec_TxText.f k1 ((rd_T60 l0 x4_1).f0) ((rd_T60 l0 x4_1).f1) ((rd_T60 l0 x4_1).f2) ((rd_T60 l0 x4_1).f3)).bind fun t158 => (if x3_1.size + t158.size ≤ 9223372036854775807 then (spec_TxsText.l0 k1 l0 (x3_1 ++ t158) (wrap64 (x4_1 + 1))) else (none)))) = some r := by rw [if_pos rfl] at H; exact H
      clear H
      have H := H1
      clear H1
      have HF := Aside0.mk H
      clear H
      go_upto_if 18 with (fail)
      have H := HF.out
      clear HF
      by_cases c7 : x4_1 > 0
      ·rw [if_pos c7] at H
       have c7b0 : decide (0 < x4_1) = true := decide_eq_true c7
       clear c7
       (first | rw [c7b0] | (simp only [i64_w, i32_w]; rw [c7b0]) | skip)
       by_cases c8 : x3_1.size + 1 ≤ 9223372036854775807
       ·rw [if_pos c8] at H
        have c8b0 := eq_true c8
        have c8b1 : decide (x3_1.size + 1 ≤ 9223372036854775807) = true := decide_eq_true c8
        try have c8b2 : (9223372036854775807 < x3_1.size + 1) = False := eq_false (Nat.not_lt.2 c8)
        replace H := Option.bind_eq_some_iff.mp H
        obtain ⟨t156, A90, H⟩ := H
        replace H : (if (x3_1 ++ (⟨#[44]⟩ : ByteArray)).size + t156.size ≤ 9223372036854775807 then (spec_TxsText.l0 k1 l0 ((x3_1 ++ (⟨#[44]⟩ : ByteArray)) ++ t156) (wrap64 (x4_1 + 1))) else (none)) = some r := H
        have A9 := Aside0.mk A90
        clear A90
        by_cases c10 : (x3_1 ++ (⟨#[44]⟩ : ByteArray)).size + t156.size ≤ 9223372036854775807
        ·rw [if_pos c10] at H
         have c10b0 := eq_true c10
         have c10b1 : decide ((x3_1 ++ (⟨#[44]⟩ : ByteArray)).size + t156.size ≤ 9223372036854775807) = true := decide_eq_true c10
         try have c10b2 : (9223372036854775807 < (x3_1 ++ (⟨#[44]⟩ : ByteArray)).size + t156.size) = False := eq_false (Nat.not_lt.2 c10)
         try (have c10b3 := Nat.not_lt.2 c10; simp only [ByteArray.size_append, show ∀ x_ : UInt8, (⟨#[x_]⟩ : ByteArray).size = 1 from fun _ => rfl] at c10b3; replace c10b3 := eq_false c10b3)
         have H' := Aside0.mk H
         clear H
         have p155 : 0 ≤ (x4_1 : Int) := of_decide_eq_true (by first | (with_reducible assumption) | assumption)
         have q155 : x4_1 < (l0.length : Int) := of_decide_eq_true (by first | (with_reducible assumption) | assumption)
         obtain ⟨ad155, e155, hx155_0, hx155_1, hx155_2, hx155_3⟩ := at_T60 HR0.out x4_1 p155 q155
         obtain rfl : ad153 = ad155 := (by injection e155)
         replace hx155_0 := (HB.out.cell (World.block_lt_of_cell? w _ hx155_0)).trans hx155_0
         replace hx155_1 := (HB.out.cell (World.block_lt_of_cell? w _ hx155_1)).trans hx155_1
         replace hx155_2 := (HB.out.cell (World.block_lt_of_cell? w _ hx155_2)).trans hx155_2
         replace hx155_3 := (HB.out.cell (World.block_lt_of_cell? w _ hx155_3)).trans hx155_3
         replace p155 := eq_true p155
         replace q155 := eq_true q155
         go_wp2_with (first | ((with_reducible refine gate_callee (f := 53) rfl ?_); refine goesL_ (some 26) rfl rfl Tryz.func53 (by kernel_rfl) rfl #[.agg #[.int .i64 ((rd_T60 l0 x4_1).f0), .int .i64 ((rd_T60 l0 x4_1).f1), .int .i64 ((rd_T60 l0 x4_1).f2), .int .i64 ((rd_T60 l0 x4_1).f3)]] rfl (by (try simp only [List.map_toArray, List.map_cons, List.map_nil]); first | done | rfl) ?_; (with_reducible refine (spec_TxText.calls k1 ((rd_T60 l0 x4_1).f0) ((rd_T60 l0 x4_1).f1) ((rd_T60 l0 x4_1).f2) ((rd_T60 l0 x4_1).f3) t156 _ A9.out).mono ?_); rintro e w11 ⟨rfl, hb⟩; refine ⟨_, rfl, ?_⟩; have n0_ := Aside0.mk (below_step (by repeat (first | exact HB.out | apply below_alloc | apply pw_below_drewN | apply below_drew1)) hb); clear HB; have HB := n0_; clear n0_; (try clear hb)))
         go_roundg k1
         case measure => have := HK1.out; omega
         case rel => exact ⟨((x3_1 ++ (⟨#[44]⟩ : ByteArray)) ++ t156), (wrap64 (x4_1 + 1)), (by first | rfl | (simp; done) | (simp [*]; done)), (by first | rfl | (simp; done) | (simp [*]; done)), H', ⟨by have := HK1.out; omega⟩, ⟨by repeat (first | exact HB.out | apply below_alloc | apply pw_below_drewN | apply below_drew1)⟩⟩
        ·rw [if_neg c10] at H
         exact absurd H (by simp)
       ·rw [if_neg c8] at H
        exact absurd H (by simp)
      ·rw [if_neg c7] at H
       have c7b0 : decide (0 < x4_1) = false := decide_eq_false c7
       clear c7
       (first | rw [c7b0] | (simp only [i64_w, i32_w]; rw [c7b0]) | skip)
       replace H := Option.bind_eq_some_iff.mp H
       obtain ⟨t158, A120, H⟩ := H
       replace H : (if x3_1.size + t158.size ≤ 9223372036854775807 then (spec_TxsText.l0 k1 l0 (x3_1 ++ t158) (wrap64 (x4_1 + 1))) else (none)) = some r := H
       have A12 := Aside0.mk A120
       clear A120
       by_cases c13 : x3_1.size + t158.size ≤ 9223372036854775807
       ·rw [if_pos c13] at H
        have c13b0 := eq_true c13
        have c13b1 : decide (x3_1.size + t158.size ≤ 9223372036854775807) = true := decide_eq_true c13
        try have c13b2 : (9223372036854775807 < x3_1.size + t158.size) = False := eq_false (Nat.not_lt.2 c13)
        have H' := Aside0.mk H
        clear H
        have p157 : 0 ≤ (x4_1 : Int) := of_decide_eq_true (by first | (with_reducible assumption) | assumption)
        have q157 : x4_1 < (l0.length : Int) := of_decide_eq_true (by first | (with_reducible assumption) | assumption)
        obtain ⟨ad157, e157, hx157_0, hx157_1, hx157_2, hx157_3⟩ := at_T60 HR0.out x4_1 p157 q157
        obtain rfl : ad153 = ad157 := (by injection e157)
        replace hx157_0 := (HB.out.cell (World.block_lt_of_cell? w _ hx157_0)).trans hx157_0
        replace hx157_1 := (HB.out.cell (World.block_lt_of_cell? w _ hx157_1)).trans hx157_1
        replace hx157_2 := (HB.out.cell (World.block_lt_of_cell? w _ hx157_2)).trans hx157_2
        replace hx157_3 := (HB.out.cell (World.block_lt_of_cell? w _ hx157_3)).trans hx157_3
        replace p157 := eq_true p157
        replace q157 := eq_true q157
        go_wp2_with (first | ((with_reducible refine gate_callee (f := 53) rfl ?_); refine goesL_ (some 26) rfl rfl Tryz.func53 (by kernel_rfl) rfl #[.agg #[.int .i64 ((rd_T60 l0 x4_1).f0), .int .i64 ((rd_T60 l0 x4_1).f1), .int .i64 ((rd_T60 l0 x4_1).f2), .int .i64 ((rd_T60 l0 x4_1).f3)]] rfl (by (try simp only [List.map_toArray, List.map_cons, List.map_nil]); first | done | rfl) ?_; (with_reducible refine (spec_TxText.calls k1 ((rd_T60 l0 x4_1).f0) ((rd_T60 l0 x4_1).f1) ((rd_T60 l0 x4_1).f2) ((rd_T60 l0 x4_1).f3) t158 _ A12.out).mono ?_); rintro e w14 ⟨rfl, hb⟩; refine ⟨_, rfl, ?_⟩; have n0_ := Aside0.mk (below_step (by repeat (first | exact HB.out | apply below_alloc | apply pw_below_drewN | apply below_drew1)) hb); clear HB; have HB := n0_; clear n0_; (try clear hb)))
        go_roundg k1
        case measure => have := HK1.out; omega
        case rel => exact ⟨(x3_1 ++ t158), (wrap64 (x4_1 + 1)), (by first | rfl | (simp; done) | (simp [*]; done)), (by first | rfl | (simp; done) | (simp [*]; done)), H', ⟨by have := HK1.out; omega⟩, ⟨by repeat (first | exact HB.out | apply below_alloc | apply pw_below_drewN | apply below_drew1)⟩⟩
       ·rw [if_neg c13] at H
        exact absurd H (by simp)
     ·replace c6 := Bool.eq_false_iff.mpr c6
      subst c6
      have H1 : (some (⟨#[]⟩ : ByteArray)) = some r := by rw [if_neg (show ¬ (false = true) by decide)] at H; exact H
      clear H
      have H := H1
      clear H1
      obtain rfl := Option.some.inj H
      go_wp2
      go_ret
      exact ⟨by first | rfl | (simp [*] <;> rfl), by repeat (first | exact HB.out | apply below_alloc | apply pw_below_drewN | apply below_drew1)⟩
    ·rw [if_neg c3] at H
     exact absurd H (by simp)
   ·rw [if_neg c2] at H
    have c2b0 : decide (x4_1 < (l0.length : Int)) = false := decide_eq_false c2
    clear c2
    (first | rw [c2b0] | (simp only [i64_w, i32_w]; rw [c2b0]) | skip)
    obtain rfl := Option.some.inj H
    go_wp2
    go_ret
    exact ⟨by first | rfl | (simp [*] <;> rfl), by repeat (first | exact HB.out | apply below_alloc | apply pw_below_drewN | apply below_drew1)⟩

/-! ### spec_Split: function 35 -/
def spec_Split.l0 : Nat → ByteArray → Int → List ByteArray → Int → Int → Option (List ByteArray)
 | 0, _, _, _, _, _ => none
 | k + 1, x0, x1, x5, x6, x7 => if x7 ≤ (x0.size : Int) then (if x7 = (x0.size : Int) then (if 0 ≤ x6 then (if x6 ≤ x7 then (if x5.length < 8796093022208 then (spec_Split.l0 k x0 x1 (x5 ++ [x0.extract (x6 : Int).toNat (x7 : Int).toNat]) (wrap64 (x7 + 1)) (wrap64 (x7 + 1))) else (none)) else (none)) else (none)) else (if 0 ≤ x7 then (if x7 < (x0.size : Int) then (if (bt x0 x7) = x1 then (if 0 ≤ x6 then (if x6 ≤ x7 then (if x5.length < 8796093022208 then (spec_Split.l0 k x0 x1 (x5 ++ [x0.extract (x6 : Int).toNat (x7 : Int).toNat]) (wrap64 (x7 + 1)) (wrap64 (x7 + 1))) else (none)) else (none)) else (none)) else (spec_Split.l0 k x0 x1 x5 x6 (wrap64 (x7 + 1)))) else (none)) else (none))) else (some x5)
def spec_Split.f (k : Nat) (a0 : ByteArray) (a1 : Int) : Option (List ByteArray) := spec_Split.l0 k a0 a1 (([] : List ByteArray)) 0 0
theorem spec_Split.mono_l : ∀ k, (∀ y0 y1 y2 y3 y4, LeO (spec_Split.l0 k y0 y1 y2 y3 y4) (spec_Split.l0 (k + 1) y0 y1 y2 y3 y4))
 | 0 => fun _ _ _ _ _ r h => by simp [spec_Split.l0] at h
 | k + 1 => by
  have ih0 := spec_Split.mono_l k
  ·intro y0 y1 y2 y3 y4
   unfold spec_Split.l0
   repeat' first
   | (with_reducible exact ih0 _ _ _ _ _)
   | (with_reducible exact LeO.refl _)
   | (with_reducible exact LeO.none _)
   | (with_reducible refine LeO.ite ?_ ?_)
   | (with_reducible refine LeO.bind ?_ (fun _ => ?_))
   | exact ih0 _ _ _ _ _
   | exact LeO.none _
   | refine LeO.ite ?_ ?_
   | refine LeO.bind ?_ (fun _ => ?_)
theorem spec_Split.mono : ∀ a0 a1 k, LeO (spec_Split.f k a0 a1) (spec_Split.f (k + 1) a0 a1) := by
 intro a0 a1 k
 have ih0 := spec_Split.mono_l k
 unfold spec_Split.f
 repeat' first
   | (with_reducible exact ih0 _ _ _ _ _)
   | (with_reducible exact LeO.refl _)
   | (with_reducible exact LeO.none _)
   | (with_reducible refine LeO.ite ?_ ?_)
   | (with_reducible refine LeO.bind ?_ (fun _ => ?_))
   | exact ih0 _ _ _ _ _
   | exact LeO.none _
   | refine LeO.ite ?_ ?_
   | refine LeO.bind ?_ (fun _ => ?_)
theorem spec_Split.calls (k : Nat) (a0 : ByteArray) (a1 : Int) (r : List ByteArray) (w : World) (h : spec_Split.f k a0 a1 = some r) :
  Calls Tryz.prog 35 #[.string a0, .int .u8 a1] w fun e w' => ∃ v0_ : Value, e = .returned (v0_) ∧ Kd.R Kd.string 9 w' w.heap.size (fun _ => True) v0_ r ∧ Below w.heap.size w w' := by
 have HB := Aside0.mk (Below.refl w.heap.size w)
 have H : (spec_Split.l0 k a0 a1 (([] : List ByteArray)) 0 0) = some r := h
 clear h
 obtain ⟨y159, hy159⟩ : ∃ y_ : List ByteArray, y_ = (([] : List ByteArray)) := ⟨_, rfl⟩
 replace H : (spec_Split.l0 k a0 a1 y159 0 0) = some r := by first | (rw [hy159]; with_reducible exact H) | (have H2_ := (Option.bind_some _ _).symm.trans H; rw [hy159]; with_reducible exact H2_) | (have H2_ := (Option.bind_some _ _).symm.trans H; with_reducible exact H2_) | with_reducible exact H | (rw [hy159]; exact H) | exact H
 have Ny159 := Aside0.mk hy159
 clear hy159
 have H' := Aside0.mk H
 clear H
 go_enter Tryz.func35, Tryz.ntmps35
 go_wp2_with (first | ((with_reducible refine gate_dst (N := 8) rfl ?_); refine Kd.R_lit Kd.string _ 9 ?hg (N := 8) ?hd (xs := ([] : List ByteArray)) (inner := []) (ok := fun _ => True) (okp := fun _ => True) ?hr ?hp (fun _ hk => hk) trivial (Below.refl _ _) (Nat.le_refl _) (by simp) ?_; (case hd => rfl); (case hg => rfl); (case hr => first | (go_simp; done) | (go_simp; rfl)); (case hp => exact (Reps.none _ _)); intro v160 w3 ho4 hb hg_ hnew_; clear hg_ hnew_; (first | rw [← Ny159.out] at ho4 | (simp only [Int.reduceToNat] at ho4; rw [← Ny159.out] at ho4)); have n0_ := Aside0.mk (Kd.R_lower ho4 (below_size (by repeat (first | exact HB.out | apply below_alloc | apply pw_below_drewN | apply below_drew1)))); have n1_ := Aside0.mk (below_step (by repeat (first | exact HB.out | apply below_alloc | apply pw_below_drewN | apply below_drew1)) hb); clear HB; have HO161 := n0_; have HB := n1_; clear n0_ n1_; clear hb ho4))
 go_loopg [5, 6, 7] k (fun kq v5 v6 v7 w' => ∃ (x5_1 : List ByteArray) (x6_1 : Int) (x7_1 : Int), v6 = .int .i64 x6_1 ∧ v7 = .int .i64 x7_1 ∧ Aside0 (spec_Split.l0 kq a0 a1 x5_1 x6_1 x7_1 = some r) ∧ Aside0 (kq ≤ k) ∧ Aside0 (Kd.R Kd.string 9 w' w.heap.size (fun _ => True) v5 x5_1) ∧ Aside0 (Below w.heap.size w w'))
 case atStart => exact ⟨(y159), (0), (0), (by first | rfl | (simp; done) | (simp [*]; done)), (by first | rfl | (simp; done) | (simp [*]; done)), H', ⟨Nat.le_refl _⟩, ⟨by (with_reducible repeat (first | apply Kd.R_alloc | apply Kd.R_drewN | apply Kd.R_drew)); exact HO161.out⟩, ⟨by repeat (first | exact HB.out | apply below_alloc | apply pw_below_drewN | apply below_drew1)⟩⟩
 case round =>
  clear H'
  try clear p2
  try clear c3
  obtain ⟨x5_1, x6_1, x7_1, rfl, rfl, HA, HK1, HO_5, HB⟩ := hrel
  cases gk with
  | zero => exact absurd HA.out (by simp [spec_Split.l0])
  | succ k1 =>
   have H := HA.out
   clear HA
   simp only [spec_Split.l0] at H
   have HF := Aside0.mk H
   clear H
   go_upto_if 12 with (fail)
   have H := HF.out
   clear HF
   by_cases c5 : x7_1 ≤ (a0.size : Int)
   ·rw [if_pos c5] at H
    have c5b0 : decide (x7_1 ≤ (a0.size : Int)) = true := decide_eq_true c5
    clear c5
    (first | rw [c5b0] | (simp only [i64_w, i32_w]; rw [c5b0]) | skip)
    by_cases c6 : x7_1 = (a0.size : Int)
    ·rw [if_pos c6] at H
     have c6b0 : (x7_1 == (a0.size : Int)) = true := beq_iff_eq.mpr c6
     have c6b1 : (x7_1 != (a0.size : Int)) = false := bne_eq_false_iff_eq.mpr c6
     clear c6
     by_cases c7 : 0 ≤ x6_1
     ·rw [if_pos c7] at H
      have c7b0 := eq_true c7
      have c7b1 : decide (0 ≤ x6_1) = true := decide_eq_true c7
      clear c7
      by_cases c8 : x6_1 ≤ x7_1
      ·rw [if_pos c8] at H
       have c8b0 := eq_true c8
       have c8b1 : decide (x6_1 ≤ x7_1) = true := decide_eq_true c8
       clear c8
       have c9b0 := eq_true (of_decide_eq_true (by first | (with_reducible assumption) | assumption) : x7_1 ≤ (a0.size : Int))
       by_cases c10 : x5_1.length < 8796093022208
       ·rw [if_pos c10] at H
        have LMc10 := Aside0.mk c10
        clear c10
        obtain ⟨y162, hy162⟩ : ∃ y_ : List ByteArray, y_ = (x5_1 ++ [a0.extract (x6_1 : Int).toNat (x7_1 : Int).toNat]) := ⟨_, rfl⟩
        replace H : (spec_Split.l0 k1 a0 a1 y162 (wrap64 (x7_1 + 1)) (wrap64 (x7_1 + 1))) = some r := by first | (rw [hy162]; with_reducible exact H) | (have H2_ := (Option.bind_some _ _).symm.trans H; rw [hy162]; with_reducible exact H2_) | (have H2_ := (Option.bind_some _ _).symm.trans H; with_reducible exact H2_) | with_reducible exact H | (rw [hy162]; exact H) | exact H
        have Ny162 := Aside0.mk hy162
        clear hy162
        have H' := Aside0.mk H
        clear H
        go_wp2_with (first | ((with_reducible refine gate_builtin (b := .append) (xs := #[.tmp 26, .tmp 31]) rfl ?_); at_builtin; refine Kd.R_append Kd.string (w0 := w) w.heap.size rfl (.tmp 26) (.tmp 31) 45 9 (.string ⟨#[]⟩) 16 rfl Tryz.underlying45 info9 rfl (by decide) (by omega) u5 x5_1 (a0.extract (x6_1 : Int).toNat (x7_1 : Int).toNat) [.string (a0.extract (x6_1 : Int).toNat (x7_1 : Int).toNat)] (fun _ => True) (fun _ => False) rfl rfl ?aP (fun _ hk => hk.elim) ?aF ?aO ?aB ?aS ?aL ?_; (case aP => exact rfl); (case aB => exact (by repeat (first | exact HB.out | apply below_alloc | apply pw_below_drewN | apply below_drew1))); (case aF => exact (fun _ _ => trivial)); (case aO => exact (by (with_reducible repeat (first | apply Kd.R_alloc | apply Kd.R_drewN | apply Kd.R_drew)); exact HO_5.out)); (case aS => exact (below_size (by repeat (first | exact HB.out | apply below_alloc | apply pw_below_drewN | apply below_drew1)))); (case aL => have := LMc10.out; omega); intro v163 w11 ho hb hg hat; rw [← Ny162.out] at ho; have n0_ := Aside0.mk (hb); have n1_ := Aside0.mk (ho); clear HB; clear HO_5; have HB := n0_; have HO164 := n1_; clear n0_ n1_; clear ho hb hg hat))
        go_roundg k1
        case measure => have := HK1.out; omega
        case rel => exact ⟨(y162), (wrap64 (x7_1 + 1)), (wrap64 (x7_1 + 1)), (by first | rfl | (simp; done) | (simp [*]; done)), (by first | rfl | (simp; done) | (simp [*]; done)), H', ⟨by have := HK1.out; omega⟩, ⟨by (with_reducible repeat (first | apply Kd.R_alloc | apply Kd.R_drewN | apply Kd.R_drew)); exact HO164.out⟩, ⟨by repeat (first | exact HB.out | apply below_alloc | apply pw_below_drewN | apply below_drew1)⟩⟩
       ·rw [if_neg c10] at H
        exact absurd H (by simp)
      ·rw [if_neg c8] at H
       exact absurd H (by simp)
     ·rw [if_neg c7] at H
      exact absurd H (by simp)
    ·rw [if_neg c6] at H
     have c6b0 : (x7_1 == (a0.size : Int)) = false := beq_eq_false_iff_ne.mpr c6
     have c6b1 : (x7_1 != (a0.size : Int)) = true := bne_iff_ne.mpr c6
     by_cases c12 : 0 ≤ x7_1
     ·rw [if_pos c12] at H
      have c12b0 : decide (0 ≤ x7_1) = true := decide_eq_true c12
      clear c12
      by_cases c13 : x7_1 < (a0.size : Int)
      ·rw [if_pos c13] at H
       have c13b0 : decide (x7_1 < (a0.size : Int)) = true := decide_eq_true c13
       clear c13
       have HF := Aside0.mk H
       clear H
       have p14 : 0 ≤ (x7_1 : Int) := of_decide_eq_true (by first | (with_reducible assumption) | assumption)
       have q14 : x7_1 < (a0.size : Int) := of_decide_eq_true (by first | (with_reducible assumption) | assumption)
       have hx14 := bt_at a0 x7_1
       replace p14 := eq_true p14
       replace q14 := eq_true q14
       go_upto_if 25 with (fail)
       have H := HF.out
       clear HF
       by_cases c15 : (bt a0 x7_1) = a1
       ·rw [if_pos c15] at H
        have c15b0 : ((bt a0 x7_1) == a1) = true := beq_iff_eq.mpr c15
        have c15b1 : ((bt a0 x7_1) != a1) = false := bne_eq_false_iff_eq.mpr c15
        clear c15
        (first | rw [c15b0] | (simp only [i64_w, i32_w]; rw [c15b0]) | skip)
        by_cases c16 : 0 ≤ x6_1
        ·rw [if_pos c16] at H
         have c16b0 := eq_true c16
         have c16b1 : decide (0 ≤ x6_1) = true := decide_eq_true c16
         clear c16
         by_cases c17 : x6_1 ≤ x7_1
         ·rw [if_pos c17] at H
          have c17b0 := eq_true c17
          have c17b1 : decide (x6_1 ≤ x7_1) = true := decide_eq_true c17
          clear c17
          have c18b0 := eq_true (of_decide_eq_true (by first | (with_reducible assumption) | assumption) : x7_1 ≤ (a0.size : Int))
          by_cases c19 : x5_1.length < 8796093022208
          ·rw [if_pos c19] at H
           have LMc19 := Aside0.mk c19
           clear c19
           obtain ⟨y165, hy165⟩ : ∃ y_ : List ByteArray, y_ = (x5_1 ++ [a0.extract (x6_1 : Int).toNat (x7_1 : Int).toNat]) := ⟨_, rfl⟩
           replace H : (spec_Split.l0 k1 a0 a1 y165 (wrap64 (x7_1 + 1)) (wrap64 (x7_1 + 1))) = some r := by first | (rw [hy165]; with_reducible exact H) | (have H2_ := (Option.bind_some _ _).symm.trans H; rw [hy165]; with_reducible exact H2_) | (have H2_ := (Option.bind_some _ _).symm.trans H; with_reducible exact H2_) | with_reducible exact H | (rw [hy165]; exact H) | exact H
           have Ny165 := Aside0.mk hy165
           clear hy165
           have H' := Aside0.mk H
           clear H
           go_wp2_with (first | ((with_reducible refine gate_builtin (b := .append) (xs := #[.tmp 26, .tmp 31]) rfl ?_); at_builtin; refine Kd.R_append Kd.string (w0 := w) w.heap.size rfl (.tmp 26) (.tmp 31) 45 9 (.string ⟨#[]⟩) 16 rfl Tryz.underlying45 info9 rfl (by decide) (by omega) u5 x5_1 (a0.extract (x6_1 : Int).toNat (x7_1 : Int).toNat) [.string (a0.extract (x6_1 : Int).toNat (x7_1 : Int).toNat)] (fun _ => True) (fun _ => False) rfl rfl ?aP (fun _ hk => hk.elim) ?aF ?aO ?aB ?aS ?aL ?_; (case aP => exact rfl); (case aB => exact (by repeat (first | exact HB.out | apply below_alloc | apply pw_below_drewN | apply below_drew1))); (case aF => exact (fun _ _ => trivial)); (case aO => exact (by (with_reducible repeat (first | apply Kd.R_alloc | apply Kd.R_drewN | apply Kd.R_drew)); exact HO_5.out)); (case aS => exact (below_size (by repeat (first | exact HB.out | apply below_alloc | apply pw_below_drewN | apply below_drew1)))); (case aL => have := LMc19.out; omega); intro v166 w20 ho hb hg hat; rw [← Ny165.out] at ho; have n0_ := Aside0.mk (hb); have n1_ := Aside0.mk (ho); clear HB; clear HO_5; have HB := n0_; have HO167 := n1_; clear n0_ n1_; clear ho hb hg hat))
           go_roundg k1
           case measure => have := HK1.out; omega
           case rel => exact ⟨(y165), (wrap64 (x7_1 + 1)), (wrap64 (x7_1 + 1)), (by first | rfl | (simp; done) | (simp [*]; done)), (by first | rfl | (simp; done) | (simp [*]; done)), H', ⟨by have := HK1.out; omega⟩, ⟨by (with_reducible repeat (first | apply Kd.R_alloc | apply Kd.R_drewN | apply Kd.R_drew)); exact HO167.out⟩, ⟨by repeat (first | exact HB.out | apply below_alloc | apply pw_below_drewN | apply below_drew1)⟩⟩
          ·rw [if_neg c19] at H
           exact absurd H (by simp)
         ·rw [if_neg c17] at H
          exact absurd H (by simp)
        ·rw [if_neg c16] at H
         exact absurd H (by simp)
       ·rw [if_neg c15] at H
        have c15b0 : ((bt a0 x7_1) == a1) = false := beq_eq_false_iff_ne.mpr c15
        have c15b1 : ((bt a0 x7_1) != a1) = true := bne_iff_ne.mpr c15
        (first | rw [c15b0] | (simp only [i64_w, i32_w]; rw [c15b0]) | skip)
        have H' := Aside0.mk H
        clear H
        go_wp2
        go_roundg k1
        case measure => have := HK1.out; omega
        case rel => exact ⟨(x5_1), (x6_1), (wrap64 (x7_1 + 1)), (by first | rfl | (simp; done) | (simp [*]; done)), (by first | rfl | (simp; done) | (simp [*]; done)), H', ⟨by have := HK1.out; omega⟩, ⟨by (with_reducible repeat (first | apply Kd.R_alloc | apply Kd.R_drewN | apply Kd.R_drew)); exact HO_5.out⟩, ⟨by repeat (first | exact HB.out | apply below_alloc | apply pw_below_drewN | apply below_drew1)⟩⟩
      ·rw [if_neg c13] at H
       exact absurd H (by simp)
     ·rw [if_neg c12] at H
      exact absurd H (by simp)
   ·rw [if_neg c5] at H
    have c5b0 : decide (x7_1 ≤ (a0.size : Int)) = false := decide_eq_false c5
    clear c5
    (first | rw [c5b0] | (simp only [i64_w, i32_w]; rw [c5b0]) | skip)
    obtain rfl := Option.some.inj H
    go_wp2
    go_ret
    exact ⟨_, by first | rfl | (simp [*] <;> rfl), by (with_reducible repeat (first | apply Kd.R_alloc | apply Kd.R_drewN | apply Kd.R_drew)); exact HO_5.out, by repeat (first | exact HB.out | apply below_alloc | apply pw_below_drewN | apply below_drew1)⟩

/-! ### spec_l2Cut: function 36 -/
def spec_l2Cut.l0 : Nat → ByteArray → Int → Int → Option (ByteArray × ByteArray × Bool)
 | 0, _, _, _ => none
 | k + 1, x0, x1, x7 => if x7 < (x0.size : Int) then (if 0 ≤ x7 then (if (bt x0 x7) = x1 then (if x7 ≤ (x0.size : Int) then (if 0 ≤ (wrap64 (x7 + 1)) then (if (wrap64 (x7 + 1)) ≤ (x0.size : Int) then (some (x0.extract 0 (x7 : Int).toNat, x0.extract ((wrap64 (x7 + 1)) : Int).toNat x0.size, true)) else (none)) else (none)) else (none)) else (spec_l2Cut.l0 k x0 x1 (wrap64 (x7 + 1)))) else (none)) else (some ((⟨#[]⟩ : ByteArray), (⟨#[]⟩ : ByteArray), false))
def spec_l2Cut.f (k : Nat) (a0 : ByteArray) (a1 : Int) : Option (ByteArray × ByteArray × Bool) := spec_l2Cut.l0 k a0 a1 0
theorem spec_l2Cut.mono_l : ∀ k, (∀ y0 y1 y2, LeO (spec_l2Cut.l0 k y0 y1 y2) (spec_l2Cut.l0 (k + 1) y0 y1 y2))
 | 0 => fun _ _ _ r h => by simp [spec_l2Cut.l0] at h
 | k + 1 => by
  have ih0 := spec_l2Cut.mono_l k
  ·intro y0 y1 y2
   unfold spec_l2Cut.l0
   repeat' first
   | (with_reducible exact ih0 _ _ _)
   | (with_reducible exact LeO.refl _)
   | (with_reducible exact LeO.none _)
   | (with_reducible refine LeO.ite ?_ ?_)
   | (with_reducible refine LeO.bind ?_ (fun _ => ?_))
   | exact ih0 _ _ _
   | exact LeO.none _
   | refine LeO.ite ?_ ?_
   | refine LeO.bind ?_ (fun _ => ?_)
theorem spec_l2Cut.mono : ∀ a0 a1 k, LeO (spec_l2Cut.f k a0 a1) (spec_l2Cut.f (k + 1) a0 a1) := by
 intro a0 a1 k
 have ih0 := spec_l2Cut.mono_l k
 unfold spec_l2Cut.f
 repeat' first
   | (with_reducible exact ih0 _ _ _)
   | (with_reducible exact LeO.refl _)
   | (with_reducible exact LeO.none _)
   | (with_reducible refine LeO.ite ?_ ?_)
   | (with_reducible refine LeO.bind ?_ (fun _ => ?_))
   | exact ih0 _ _ _
   | exact LeO.none _
   | refine LeO.ite ?_ ?_
   | refine LeO.bind ?_ (fun _ => ?_)
theorem spec_l2Cut.calls (k : Nat) (a0 : ByteArray) (a1 : Int) (r1 : ByteArray) (r2 : ByteArray) (r3 : Bool) (w : World) (h : spec_l2Cut.f k a0 a1 = some (r1, r2, r3)) :
  Calls Tryz.prog 36 #[.string a0, .int .u8 a1] w fun e w' => e = .returned (.tuple #[.string r1, .string r2, .bool r3]) ∧ Drawn0 w w' := by
 have H : (spec_l2Cut.l0 k a0 a1 0) = some (r1, r2, r3) := h
 clear h
 have H' := Aside0.mk H
 clear H
 go_enter Tryz.func36, Tryz.ntmps36
 go_wp2
 repeat (go_quiet (fail); try go_wp2)
 go_loopg [7] k (fun kq v7 w' => ∃ (x7_1 : Int), v7 = .int .i64 x7_1 ∧ Aside0 (spec_l2Cut.l0 kq a0 a1 x7_1 = some (r1, r2, r3)) ∧ Aside0 (kq ≤ k) ∧ Drawn0 w w')
 case atStart => exact ⟨(0), (by first | rfl | (simp; done) | (simp [*]; done)), H', ⟨Nat.le_refl _⟩, by repeat (first | exact Drawn0.refl _ | apply Drawn0.step)⟩
 case round =>
  clear H'
  try clear p2
  obtain ⟨x7_1, rfl, HA, HK1, ⟨m1, rfl⟩⟩ := hrel
  cases gk with
  | zero => exact absurd HA.out (by simp [spec_l2Cut.l0])
  | succ k1 =>
   have H := HA.out
   clear HA
   simp only [spec_l2Cut.l0] at H
   have HF := Aside0.mk H
   clear H
   go_upto_if 11 with (fail)
   repeat (go_quiet (fail); go_upto_if 11 with (fail))
   have H := HF.out
   clear HF
   by_cases c3 : x7_1 < (a0.size : Int)
   ·rw [if_pos c3] at H
    have c3b0 : decide (x7_1 < (a0.size : Int)) = true := decide_eq_true c3
    clear c3
    (first | rw [c3b0] | (simp only [i64_w, i32_w]; rw [c3b0]) | skip)
    by_cases c4 : 0 ≤ x7_1
    ·rw [if_pos c4] at H
     have c4b0 : decide (0 ≤ x7_1) = true := decide_eq_true c4
     clear c4
     have HF := Aside0.mk H
     clear H
     have p5 : 0 ≤ (x7_1 : Int) := of_decide_eq_true (by first | (with_reducible assumption) | assumption)
     have q5 : x7_1 < (a0.size : Int) := of_decide_eq_true (by first | (with_reducible assumption) | assumption)
     have hx5 := bt_at a0 x7_1
     replace p5 := eq_true p5
     replace q5 := eq_true q5
     go_upto_if 18 with (fail)
     repeat (go_quiet (fail); go_upto_if 18 with (fail))
     have H := HF.out
     clear HF
     by_cases c6 : (bt a0 x7_1) = a1
     ·rw [if_pos c6] at H
      have c6b0 : ((bt a0 x7_1) == a1) = true := beq_iff_eq.mpr c6
      have c6b1 : ((bt a0 x7_1) != a1) = false := bne_eq_false_iff_eq.mpr c6
      clear c6
      (first | rw [c6b0] | (simp only [i64_w, i32_w]; rw [c6b0]) | skip)
      have c7b0 := eq_true (of_decide_eq_true (by first | (with_reducible assumption) | assumption) : 0 ≤ x7_1)
      by_cases c8 : x7_1 ≤ (a0.size : Int)
      ·rw [if_pos c8] at H
       have c8b0 := eq_true c8
       have c8b1 : decide (x7_1 ≤ (a0.size : Int)) = true := decide_eq_true c8
       clear c8
       obtain ⟨ji9, hji9⟩ : ∃ j_ : Int, (wrap64 (x7_1 + 1)) = j_ := ⟨_, rfl⟩
       replace H : (if 0 ≤ (ji9) then (if (ji9) ≤ (a0.size : Int) then (some (a0.extract 0 (x7_1 : Int).toNat, a0.extract ((ji9) : Int).toNat a0.size, true)) else (none)) else (none)) = some (r1, r2, r3) := by first | (rw [hji9] at H; exact H) | (simp only [hji9] at H ⊢; exact H)
       have hji9w : (IntKind.i64.wrap (x7_1 + 1)) = ji9 := (i64_w _).trans hji9
       by_cases c10 : 0 ≤ (ji9)
       ·rw [if_pos c10] at H
        have c10b0 := eq_true c10
        have c10b1 : decide (0 ≤ (ji9)) = true := decide_eq_true c10
        clear c10
        by_cases c11 : (ji9) ≤ (a0.size : Int)
        ·rw [if_pos c11] at H
         have c11b0 := eq_true c11
         have c11b1 : decide ((ji9) ≤ (a0.size : Int)) = true := decide_eq_true c11
         clear c11
         simp only [Option.some.injEq, Prod.mk.injEq] at H
         obtain ⟨rfl, rfl, rfl⟩ := H
         go_wp2
         repeat (go_quiet (fail); try go_wp2)
         go_ret3
         exact ⟨by first | rfl | (simp; done) | (simp only [← hji9] <;> (first | rfl | simp)) | (simp [*]; done), by repeat (first | exact Drawn0.refl _ | apply Drawn0.step)⟩
        ·rw [if_neg c11] at H
         exact absurd H (by simp)
       ·rw [if_neg c10] at H
        exact absurd H (by simp)
      ·rw [if_neg c8] at H
       exact absurd H (by simp)
     ·rw [if_neg c6] at H
      have c6b0 : ((bt a0 x7_1) == a1) = false := beq_eq_false_iff_ne.mpr c6
      have c6b1 : ((bt a0 x7_1) != a1) = true := bne_iff_ne.mpr c6
      (first | rw [c6b0] | (simp only [i64_w, i32_w]; rw [c6b0]) | skip)
      have H' := Aside0.mk H
      clear H
      go_wp2
      repeat (go_quiet (fail); try go_wp2)
      go_roundg k1
      case measure => have := HK1.out; omega
      case rel => exact ⟨(wrap64 (x7_1 + 1)), (by first | rfl | (simp; done) | (simp [*]; done)), H', ⟨by have := HK1.out; omega⟩, by repeat (first | exact Drawn0.refl _ | apply Drawn0.step)⟩
    ·rw [if_neg c4] at H
     exact absurd H (by simp)
   ·rw [if_neg c3] at H
    have c3b0 : decide (x7_1 < (a0.size : Int)) = false := decide_eq_false c3
    clear c3
    (first | rw [c3b0] | (simp only [i64_w, i32_w]; rw [c3b0]) | skip)
    simp only [Option.some.injEq, Prod.mk.injEq] at H
    obtain ⟨rfl, rfl, rfl⟩ := H
    go_wp2
    repeat (go_quiet (fail); try go_wp2)
    go_ret3
    exact ⟨by first | rfl | (simp; done) | (simp [*]; done), by repeat (first | exact Drawn0.refl _ | apply Drawn0.step)⟩

end Go.Proofs.YtbecffgalndagaaGreatDoor.PFnNames
