/- Walks of the functions that a law of seat YtbecffgalndagaaGreatDoor reaches, each against a Lean function, printed by this session's wip/myprint.py; no condition of their own. -/
import Derived.Test.YtbecffgalndagaaGreatDoorPFnNamesx0
import Derived.Test.YtbecffgalndagaaGreatDoorPFnNamesx4
import Derived.Test.YtbecffgalndagaaGreatDoorPFnNamesx5
import Derived.Test.YtbecffgalndagaaGreatDoorPFnNamesx6
import Derived.Test.YtbecffgalndagaaGreatDoorPFnNamesx7
import Derived.Test.YtbecffgalndagaaGreatDoorPFnNamesx8
namespace Go.Proofs.YtbecffgalndagaaGreatDoor.PFnNames
open Go.RowKit Go.Proofs.YtbecffgalndagaaGreatDoorW.PrintWords Go.Proofs.YtbecffgalndagaaGreatDoorW.PrintLast Go.Proofs.YtbecffgalndagaaGreatDoorW.PrintMore
attribute [local go_sem] max2_int min2_int max_two min_two max_three min_three max_four min_four   -- for this text's walks alone
set_option maxHeartbeats 8000000
set_option maxRecDepth 100000
set_option linter.unusedVariables false
set_option linter.unusedSimpArgs false

/-! ### impl_NameOf: function 11 -/
def impl_NameOf.l0 : Nat → ByteArray → Int → List (S60) → List (S60) → Int → Int → Option (ByteArray)
 | 0, _, _, _, _, _, _ => none
 | k + 1, x0, x1, x2, x10, x11, x12 => if x12 < x11 then (if 0 ≤ x12 then (if x12 < (x10.length : Int) then ((impl_TxOk.f ((rd_T60 x10 x12).f0) ((rd_T60 x10 x12).f1) ((rd_T60 x10 x12).f2) ((rd_T60 x10 x12).f3)).bind fun t477 => (if t477 = true then (impl_NameOf.l0 k x0 x1 x2 x10 x11 (wrap64 (x12 + 1))) else (some (⟨#[]⟩ : ByteArray)))) else (none)) else (none)) else (if x0.size + 1 ≤ 9223372036854775807 then ((impl_Digits.f x1).bind fun t478 => (if (x0 ++ (⟨#[47]⟩ : ByteArray)).size + t478.size ≤ 9223372036854775807 then (if ((x0 ++ (⟨#[47]⟩ : ByteArray)) ++ t478).size + 1 ≤ 9223372036854775807 then ((impl_TxsText.f k x2).bind fun t479 => (if (((x0 ++ (⟨#[47]⟩ : ByteArray)) ++ t478) ++ (⟨#[124]⟩ : ByteArray)).size + t479.size ≤ 9223372036854775807 then (if (x2.length : Int) > 2 then (some (⟨#[]⟩ : ByteArray)) else ((impl_NameOk.f k ((((x0 ++ (⟨#[47]⟩ : ByteArray)) ++ t478) ++ (⟨#[124]⟩ : ByteArray)) ++ t479)).bind fun t480 => (if t480 = true then (some ((((x0 ++ (⟨#[47]⟩ : ByteArray)) ++ t478) ++ (⟨#[124]⟩ : ByteArray)) ++ t479)) else (some (⟨#[]⟩ : ByteArray))))) else (none))) else (none)) else (none))) else (none))
def impl_NameOf.f (k : Nat) (a0 : ByteArray) (a1 : Int) (l2 : List (S60)) : Option (ByteArray) := impl_NameOf.l0 k a0 a1 l2 l2 (l2.length : Int) 0
theorem impl_NameOf.mono_l : ∀ k, (∀ y0 y1 y2 y3 y4 y5, LeO (impl_NameOf.l0 k y0 y1 y2 y3 y4 y5) (impl_NameOf.l0 (k + 1) y0 y1 y2 y3 y4 y5))
 | 0 => fun _ _ _ _ _ _ r h => by simp [impl_NameOf.l0] at h
 | k + 1 => by
  have ih0 := impl_NameOf.mono_l k
  ·intro y0 y1 y2 y3 y4 y5
   unfold impl_NameOf.l0
   repeat' first
   | (with_reducible exact ih0 _ _ _ _ _ _)
   | (with_reducible exact impl_NameOk.mono _ _)
   | (with_reducible exact impl_TxsText.mono _ _)
   | (with_reducible exact LeO.refl _)
   | (with_reducible exact LeO.none _)
   | (with_reducible refine LeO.ite ?_ ?_)
   | (with_reducible refine LeO.bind ?_ (fun _ => ?_))
   | exact ih0 _ _ _ _ _ _
   | exact impl_NameOk.mono _ _
   | exact impl_TxsText.mono _ _
   | exact LeO.none _
   | refine LeO.ite ?_ ?_
   | refine LeO.bind ?_ (fun _ => ?_)
theorem impl_NameOf.mono : ∀ a0 a1 a2 k, LeO (impl_NameOf.f k a0 a1 a2) (impl_NameOf.f (k + 1) a0 a1 a2) := by
 intro a0 a1 a2 k
 have ih0 := impl_NameOf.mono_l k
 unfold impl_NameOf.f
 repeat' first
   | (with_reducible exact ih0 _ _ _ _ _ _)
   | (with_reducible exact impl_NameOk.mono _ _)
   | (with_reducible exact impl_TxsText.mono _ _)
   | (with_reducible exact LeO.refl _)
   | (with_reducible exact LeO.none _)
   | (with_reducible refine LeO.ite ?_ ?_)
   | (with_reducible refine LeO.bind ?_ (fun _ => ?_))
   | exact ih0 _ _ _ _ _ _
   | exact impl_NameOk.mono _ _
   | exact impl_TxsText.mono _ _
   | exact LeO.none _
   | refine LeO.ite ?_ ?_
   | refine LeO.bind ?_ (fun _ => ?_)
theorem impl_NameOf.calls (k : Nat) (a0 : ByteArray) (a1 : Int) (A2 : Option Addr) (c2 : Nat) (l2 : List (S60)) (r : ByteArray) (w : World) (hr2 : Kd.C k60 w A2 l2.length l2) (hc2 : l2.length ≤ c2) (hL : LaidW w) (h : impl_NameOf.f k a0 a1 l2 = some r) :
  Calls Tryz.prog 11 #[.string a0, .int .i64 a1, .slice A2 l2.length c2] w fun e w' => e = .returned (.string r) ∧ Below w.heap.size w w' := by
 have hu60 := Tryz.underlying60
 have HR2 := Aside0.mk hr2
 have HC2 := Aside0.mk hc2
 clear hr2 hc2
 have HL0 := Aside0.mk hL
 clear hL
 have HB := Aside0.mk (Below.refl w.heap.size w)
 have H : (impl_NameOf.l0 k a0 a1 l2 l2 (l2.length : Int) 0) = some r := h
 clear h
 have H' := Aside0.mk H
 clear H
 go_enter Tryz.func11, Tryz.ntmps11
 go_wp2
 go_loopg [12] k (fun kq v12 w' => ∃ (x12_1 : Int), v12 = .int .i64 x12_1 ∧ Aside0 (impl_NameOf.l0 kq a0 a1 l2 l2 (l2.length : Int) x12_1 = some r) ∧ Aside0 (kq ≤ k) ∧ Aside0 (Below w.heap.size w w'))
 case atStart => exact ⟨(0), (by first | rfl | (simp; done) | (simp [*]; done)), H', ⟨Nat.le_refl _⟩, ⟨by repeat (first | exact HB.out | apply below_alloc | apply pw_below_drewN | apply below_drew1)⟩⟩
 case round =>
  clear H'
  try clear c1
  try clear c2
  try clear p2
  obtain ⟨x12_1, rfl, HA, HK1, HB⟩ := hrel
  cases gk with
  | zero => exact absurd HA.out (by simp [impl_NameOf.l0])
  | succ k1 =>
   have H := HA.out
   clear HA
   simp only [impl_NameOf.l0] at H
   have HF := Aside0.mk H
   clear H
   go_upto_if 13 with (fail)
   have H := HF.out
   clear HF
   by_cases c4 : x12_1 < (l2.length : Int)
   ·rw [if_pos c4] at H
    have c4b0 : decide (x12_1 < (l2.length : Int)) = true := decide_eq_true c4
    clear c4
    (first | rw [c4b0] | (simp only [i64_w, i32_w]; rw [c4b0]) | skip)
    by_cases c5 : 0 ≤ x12_1
    ·rw [if_pos c5] at H
     have c5b0 : decide (0 ≤ x12_1) = true := decide_eq_true c5
     clear c5
     by_cases c6 : x12_1 < (l2.length : Int)
     ·rw [if_pos c6] at H
      have c6b0 : decide (x12_1 < (l2.length : Int)) = true := decide_eq_true c6
      clear c6
      replace H := Option.bind_eq_some_iff.mp H
      obtain ⟨t477, A70, H⟩ := H
      replace H : (if t477 = true then (impl_NameOf.l0 k1 a0 a1 l2 l2 (l2.length : Int) (wrap64 (x12_1 + 1))) else (some (⟨#[]⟩ : ByteArray))) = some r := H
      have A7 := Aside0.mk A70
      clear A70
      have HF := Aside0.mk H
      clear H
      have p475 : 0 ≤ (x12_1 : Int) := of_decide_eq_true (by first | (with_reducible assumption) | assumption)
      have q475 : x12_1 < (l2.length : Int) := of_decide_eq_true (by first | (with_reducible assumption) | assumption)
      obtain ⟨ad475, e475, hx475_0, hx475_1, hx475_2, hx475_3⟩ := at_T60 HR2.out x12_1 p475 q475
      cases e475
      replace hx475_0 := (HB.out.cell (World.block_lt_of_cell? w _ hx475_0)).trans hx475_0
      replace hx475_1 := (HB.out.cell (World.block_lt_of_cell? w _ hx475_1)).trans hx475_1
      replace hx475_2 := (HB.out.cell (World.block_lt_of_cell? w _ hx475_2)).trans hx475_2
      replace hx475_3 := (HB.out.cell (World.block_lt_of_cell? w _ hx475_3)).trans hx475_3
      replace p475 := eq_true p475
      replace q475 := eq_true q475
      go_upto_if 18 with (go_big_may; first | ((with_reducible refine gate_dst (N := 8) rfl ?_); refine box_event ?hg (N := 8) ?hd (cs := #[.int .i64 0, .int .i64 0, .int .i64 0, .int .i64 0]) (t := 60) ?hr ?_; (case hd => rfl); (case hg => rfl); (case hr => first | (go_simp; done) | (go_simp; rfl)); intro gb476 hg w8 hbox hb; have n0_ := Aside0.mk (below_step (by repeat (first | exact HB.out | apply below_alloc | apply pw_below_drewN | apply below_drew1)) hb); have n1_ := Aside0.mk (hbox); have n2_ := Aside0.mk ((by rw [hg]; exact (below_size (by repeat (first | exact HB.out | apply below_alloc | apply pw_below_drewN | apply below_drew1))) : w.heap.size ≤ gb476)); have n3_ := Aside0.mk ((by rw [hg]; exact (below_size (by repeat (first | exact HB.out | apply below_alloc | apply pw_below_drewN | apply below_drew1))) : w.heap.size ≤ gb476)); clear HB; have HB := n0_; have BK476 := n1_; have GW476 := n2_; have GE476 := n3_; clear n0_ n1_ n2_ n3_; clear hb hbox hg; have hcz9_0 : w8.cell? ⟨gb476, 0, none⟩ = some (.int .i64 0) := (blk_cell BK476.out 0).trans rfl; have hcz9_1 : w8.cell? ⟨gb476, 1, none⟩ = some (.int .i64 0) := (blk_cell BK476.out 1).trans rfl; have hcz9_2 : w8.cell? ⟨gb476, 2, none⟩ = some (.int .i64 0) := (blk_cell BK476.out 2).trans rfl; have hcz9_3 : w8.cell? ⟨gb476, 3, none⟩ = some (.int .i64 0) := (blk_cell BK476.out 3).trans rfl; have hfz9_0 := blk_frozen BK476.out 0; have hfz9_1 := blk_frozen BK476.out 1; have hfz9_2 := blk_frozen BK476.out 2; have hfz9_3 := blk_frozen BK476.out 3) | ((with_reducible refine gate_callee (f := 43) rfl ?_); refine goesL_ (some 17) rfl rfl Tryz.func43 (by kernel_rfl) rfl #[.agg #[.int .i64 ((rd_T60 l2 x12_1).f0), .int .i64 ((rd_T60 l2 x12_1).f1), .int .i64 ((rd_T60 l2 x12_1).f2), .int .i64 ((rd_T60 l2 x12_1).f3)]] rfl (by (try simp only [List.map_toArray, List.map_cons, List.map_nil]); first | done | rfl) ?_; (with_reducible refine (impl_TxOk.calls ((rd_T60 l2 x12_1).f0) ((rd_T60 l2 x12_1).f1) ((rd_T60 l2 x12_1).f2) ((rd_T60 l2 x12_1).f3) t477 _ A7.out).mono ?_); rintro e w10 ⟨rfl, hb⟩; refine ⟨_, rfl, ?_⟩; have n0_ := Aside0.mk (blk_below (g := gb476) (o := .cells #[.int .i64 ((rd_T60 l2 x12_1).f0), .int .i64 ((rd_T60 l2 x12_1).f1), .int .i64 ((rd_T60 l2 x12_1).f2), .int .i64 ((rd_T60 l2 x12_1).f3)] 60 (0, 0)) (by (with_reducible repeat (first | refine blk_drewN ?_ _ | refine blk_drew ?_ | refine blk_alloc ?_ _)); refine blk_put (cs := #[.int .i64 ((rd_T60 l2 x12_1).f0), .int .i64 ((rd_T60 l2 x12_1).f1), .int .i64 ((rd_T60 l2 x12_1).f2), .int .i64 0]) ?_ 3 _ rfl; (with_reducible repeat (first | refine blk_drewN ?_ _ | refine blk_drew ?_ | refine blk_alloc ?_ _)); refine blk_put (cs := #[.int .i64 ((rd_T60 l2 x12_1).f0), .int .i64 ((rd_T60 l2 x12_1).f1), .int .i64 0, .int .i64 0]) ?_ 2 _ rfl; (with_reducible repeat (first | refine blk_drewN ?_ _ | refine blk_drew ?_ | refine blk_alloc ?_ _)); refine blk_put (cs := #[.int .i64 ((rd_T60 l2 x12_1).f0), .int .i64 0, .int .i64 0, .int .i64 0]) ?_ 1 _ rfl; (with_reducible repeat (first | refine blk_drewN ?_ _ | refine blk_drew ?_ | refine blk_alloc ?_ _)); refine blk_put (cs := #[.int .i64 0, .int .i64 0, .int .i64 0, .int .i64 0]) ?_ 0 _ rfl; (with_reducible repeat (first | refine blk_drewN ?_ _ | refine blk_drew ?_ | refine blk_alloc ?_ _)); exact BK476.out) hb); have n1_ := Aside0.mk (below_step (by repeat (first | (with_reducible first | exact HB.out | apply below_alloc | apply pw_below_drewN | apply below_drew1 | refine below_set ?_ GE476.out) | exact HB.out)) hb); clear BK476; clear HB; have BK476 := n0_; have HB := n1_; clear n0_ n1_; (try clear hb)))
      have H := HF.out
      clear HF
      by_cases c11 : t477 = true
      ·subst c11
       have H1 : (impl_NameOf.l0 k1 a0 a1 l2 l2 (l2.length : Int) (wrap64 (x12_1 + 1))) = some r := by rw [if_pos rfl] at H; exact H
       clear H
       have H := H1
       clear H1
       have H' := Aside0.mk H
       clear H
       go_wp2
       go_roundg k1
       case measure => have := HK1.out; omega
       case rel => exact ⟨(wrap64 (x12_1 + 1)), (by first | rfl | (simp; done) | (simp [*]; done)), H', ⟨by have := HK1.out; omega⟩, ⟨by repeat (first | (with_reducible first | exact HB.out | apply below_alloc | apply pw_below_drewN | apply below_drew1 | refine below_set ?_ GE476.out) | exact HB.out)⟩⟩
      ·replace c11 := Bool.eq_false_iff.mpr c11
       subst c11
       have H1 : (some (⟨#[]⟩ : ByteArray)) = some r := by rw [if_neg (show ¬ (false = true) by decide)] at H; exact H
       clear H
       have H := H1
       clear H1
       obtain rfl := Option.some.inj H
       go_wp2
       go_ret
       exact ⟨by first | rfl | (simp [*] <;> rfl), by repeat (first | (with_reducible first | exact HB.out | apply below_alloc | apply pw_below_drewN | apply below_drew1 | refine below_set ?_ GE476.out) | exact HB.out)⟩
     ·rw [if_neg c6] at H
      exact absurd H (by simp)
    ·rw [if_neg c5] at H
     exact absurd H (by simp)
   ·rw [if_neg c4] at H
    have c4b0 : decide (x12_1 < (l2.length : Int)) = false := decide_eq_false c4
    clear c4
    (first | rw [c4b0] | (simp only [i64_w, i32_w]; rw [c4b0]) | skip)
    by_cases c12 : a0.size + 1 ≤ 9223372036854775807
    ·rw [if_pos c12] at H
     have c12b0 := eq_true c12
     have c12b1 : decide (a0.size + 1 ≤ 9223372036854775807) = true := decide_eq_true c12
     try have c12b2 : (9223372036854775807 < a0.size + 1) = False := eq_false (Nat.not_lt.2 c12)
     replace H := Option.bind_eq_some_iff.mp H
     obtain ⟨t478, A130, H⟩ := H
     replace H : (if (a0 ++ (⟨#[47]⟩ : ByteArray)).size + t478.size ≤ 9223372036854775807 then (if ((a0 ++ (⟨#[47]⟩ : ByteArray)) ++ t478).size + 1 ≤ 9223372036854775807 then ((impl_TxsText.f k1 l2).bind fun t479 => (if (((a0 ++ (⟨#[47]⟩ : ByteArray)) ++ t478) ++ (⟨#[124]⟩ : ByteArray)).size + t479.size ≤ 9223372036854775807 then (if (l2.length : Int) > 2 then (some (⟨#[]⟩ : ByteArray)) else ((impl_NameOk.f k1 ((((a0 ++ (⟨#[47]⟩ : ByteArray)) ++ t478) ++ (⟨#[124]⟩ : ByteArray)) ++ t479)).bind fun t480 => (if t480 = true then (some ((((a0 ++ (⟨#[47]⟩ : ByteArray)) ++ t478) ++ (⟨#[124]⟩ : ByteArray)) ++ t479)) else (some (⟨#[]⟩ : ByteArray))))) else (none))) else (none)) else (none)) = some r := H
     have A13 := Aside0.mk A130
     clear A130
     by_cases c14 : (a0 ++ (⟨#[47]⟩ : ByteArray)).size + t478.size ≤ 9223372036854775807
     ·rw [if_pos c14] at H
      have c14b0 := eq_true c14
      have c14b1 : decide ((a0 ++ (⟨#[47]⟩ : ByteArray)).size + t478.size ≤ 9223372036854775807) = true := decide_eq_true c14
      try have c14b2 : (9223372036854775807 < (a0 ++ (⟨#[47]⟩ : ByteArray)).size + t478.size) = False := eq_false (Nat.not_lt.2 c14)
      try (have c14b3 := Nat.not_lt.2 c14; simp only [ByteArray.size_append, show ∀ x_ : UInt8, (⟨#[x_]⟩ : ByteArray).size = 1 from fun _ => rfl] at c14b3; replace c14b3 := eq_false c14b3)
      by_cases c15 : ((a0 ++ (⟨#[47]⟩ : ByteArray)) ++ t478).size + 1 ≤ 9223372036854775807
      ·rw [if_pos c15] at H
       have c15b0 := eq_true c15
       have c15b1 : decide (((a0 ++ (⟨#[47]⟩ : ByteArray)) ++ t478).size + 1 ≤ 9223372036854775807) = true := decide_eq_true c15
       try have c15b2 : (9223372036854775807 < ((a0 ++ (⟨#[47]⟩ : ByteArray)) ++ t478).size + 1) = False := eq_false (Nat.not_lt.2 c15)
       try (have c15b3 := Nat.not_lt.2 c15; simp only [ByteArray.size_append, show ∀ x_ : UInt8, (⟨#[x_]⟩ : ByteArray).size = 1 from fun _ => rfl] at c15b3; replace c15b3 := eq_false c15b3)
       replace H := Option.bind_eq_some_iff.mp H
       obtain ⟨t479, A160, H⟩ := H
       replace H : (if (((a0 ++ (⟨#[47]⟩ : ByteArray)) ++ t478) ++ (⟨#[124]⟩ : ByteArray)).size + t479.size ≤ 9223372036854775807 then (if (l2.length : Int) > 2 then (some (⟨#[]⟩ : ByteArray)) else ((impl_NameOk.f k1 ((((a0 ++ (⟨#[47]⟩ : ByteArray)) ++ t478) ++ (⟨#[124]⟩ : ByteArray)) ++ t479)).bind fun t480 => (if t480 = true then (some ((((a0 ++ (⟨#[47]⟩ : ByteArray)) ++ t478) ++ (⟨#[124]⟩ : ByteArray)) ++ t479)) else (some (⟨#[]⟩ : ByteArray))))) else (none)) = some r := H
       have A16 := Aside0.mk A160
       clear A160
       by_cases c17 : (((a0 ++ (⟨#[47]⟩ : ByteArray)) ++ t478) ++ (⟨#[124]⟩ : ByteArray)).size + t479.size ≤ 9223372036854775807
       ·rw [if_pos c17] at H
        have c17b0 := eq_true c17
        have c17b1 : decide ((((a0 ++ (⟨#[47]⟩ : ByteArray)) ++ t478) ++ (⟨#[124]⟩ : ByteArray)).size + t479.size ≤ 9223372036854775807) = true := decide_eq_true c17
        try have c17b2 : (9223372036854775807 < (((a0 ++ (⟨#[47]⟩ : ByteArray)) ++ t478) ++ (⟨#[124]⟩ : ByteArray)).size + t479.size) = False := eq_false (Nat.not_lt.2 c17)
        try (have c17b3 := Nat.not_lt.2 c17; simp only [ByteArray.size_append, show ∀ x_ : UInt8, (⟨#[x_]⟩ : ByteArray).size = 1 from fun _ => rfl] at c17b3; replace c17b3 := eq_false c17b3)
        by_cases c18 : (l2.length : Int) > 2
        ·rw [if_pos c18] at H
         have c18b0 : decide (2 < (l2.length : Int)) = true := decide_eq_true c18
         have c18b1 : decide (2 < l2.length) = true := decide_eq_true (by omega)
         clear c18
         obtain rfl := Option.some.inj H
         go_wp2_with (first | ((with_reducible refine gate_callee (f := 44) rfl ?_); refine goesL_ (some 23) rfl rfl Tryz.func44 (by kernel_rfl) rfl #[.int .i64 a1] rfl (by (try simp only [List.map_toArray, List.map_cons, List.map_nil]); first | done | rfl) ?_; (with_reducible refine (impl_Digits.calls a1 t478 _ ?side1 A13.out).mono ?_); (case side1 => exact LaidW.below HL0.out (by repeat (first | exact HB.out | apply below_alloc | apply pw_below_drewN | apply below_drew1))); rintro e w19 ⟨rfl, hb⟩; refine ⟨_, rfl, ?_⟩; have n0_ := Aside0.mk (below_step (by repeat (first | exact HB.out | apply below_alloc | apply pw_below_drewN | apply below_drew1)) hb); clear HB; have HB := n0_; clear n0_; (try clear hb)) | ((with_reducible refine gate_callee (f := 24) rfl ?_); refine goesL_ (some 27) rfl rfl Tryz.func24 (by kernel_rfl) rfl #[.slice A2 l2.length c2] rfl (by (try simp only [List.map_toArray, List.map_cons, List.map_nil]); first | done | rfl) ?_; (with_reducible refine (impl_TxsText.calls k1 _ _ l2 t479 _ ?side1 ?side2 ?side3 A16.out).mono ?_); (case side1 => repeat (first | exact (Kd.C_below HR2.out HB.out) | (with_reducible refine Kd.C_alloc ?_ _) | (with_reducible refine Kd.C_drewN ?_ _) | (with_reducible refine Kd.C_drew ?_))); (case side2 => exact HC2.out); (case side3 => exact LaidW.below HL0.out (by repeat (first | exact HB.out | apply below_alloc | apply pw_below_drewN | apply below_drew1))); rintro e w20 ⟨rfl, hb⟩; refine ⟨_, rfl, ?_⟩; have n0_ := Aside0.mk (below_step (by repeat (first | exact HB.out | apply below_alloc | apply pw_below_drewN | apply below_drew1)) hb); clear HB; have HB := n0_; clear n0_; (try clear hb)))
         go_ret
         exact ⟨by first | rfl | (simp [*] <;> rfl), by repeat (first | exact HB.out | apply below_alloc | apply pw_below_drewN | apply below_drew1)⟩
        ·rw [if_neg c18] at H
         have c18b0 : decide (2 < (l2.length : Int)) = false := decide_eq_false c18
         have c18b1 : decide (2 < l2.length) = false := decide_eq_false (by omega)
         clear c18
         replace H := Option.bind_eq_some_iff.mp H
         obtain ⟨t480, A210, H⟩ := H
         replace H : (if t480 = true then (some ((((a0 ++ (⟨#[47]⟩ : ByteArray)) ++ t478) ++ (⟨#[124]⟩ : ByteArray)) ++ t479)) else (some (⟨#[]⟩ : ByteArray))) = some r := H
         have A21 := Aside0.mk A210
         clear A210
         have HF := Aside0.mk H
         clear H
         go_upto_if 36 with (go_big_may; first | ((with_reducible refine gate_callee (f := 44) rfl ?_); refine goesL_ (some 23) rfl rfl Tryz.func44 (by kernel_rfl) rfl #[.int .i64 a1] rfl (by (try simp only [List.map_toArray, List.map_cons, List.map_nil]); first | done | rfl) ?_; (with_reducible refine (impl_Digits.calls a1 t478 _ ?side1 A13.out).mono ?_); (case side1 => exact LaidW.below HL0.out (by repeat (first | exact HB.out | apply below_alloc | apply pw_below_drewN | apply below_drew1))); rintro e w22 ⟨rfl, hb⟩; refine ⟨_, rfl, ?_⟩; have n0_ := Aside0.mk (below_step (by repeat (first | exact HB.out | apply below_alloc | apply pw_below_drewN | apply below_drew1)) hb); clear HB; have HB := n0_; clear n0_; (try clear hb)) | ((with_reducible refine gate_callee (f := 24) rfl ?_); refine goesL_ (some 27) rfl rfl Tryz.func24 (by kernel_rfl) rfl #[.slice A2 l2.length c2] rfl (by (try simp only [List.map_toArray, List.map_cons, List.map_nil]); first | done | rfl) ?_; (with_reducible refine (impl_TxsText.calls k1 _ _ l2 t479 _ ?side1 ?side2 ?side3 A16.out).mono ?_); (case side1 => repeat (first | exact (Kd.C_below HR2.out HB.out) | (with_reducible refine Kd.C_alloc ?_ _) | (with_reducible refine Kd.C_drewN ?_ _) | (with_reducible refine Kd.C_drew ?_))); (case side2 => exact HC2.out); (case side3 => exact LaidW.below HL0.out (by repeat (first | exact HB.out | apply below_alloc | apply pw_below_drewN | apply below_drew1))); rintro e w23 ⟨rfl, hb⟩; refine ⟨_, rfl, ?_⟩; have n0_ := Aside0.mk (below_step (by repeat (first | exact HB.out | apply below_alloc | apply pw_below_drewN | apply below_drew1)) hb); clear HB; have HB := n0_; clear n0_; (try clear hb)) | (go_at_call 12; (with_reducible refine (impl_NameOk.calls k1 ((((a0 ++ (⟨#[47]⟩ : ByteArray)) ++ t478) ++ (⟨#[124]⟩ : ByteArray)) ++ t479) t480 _ ?side1 A21.out).mono ?_); (case side1 => exact LaidW.below HL0.out (by repeat (first | exact HB.out | apply below_alloc | apply pw_below_drewN | apply below_drew1))); rintro e w24 ⟨rfl, hb⟩; have n0_ := Aside0.mk (below_step (by repeat (first | exact HB.out | apply below_alloc | apply pw_below_drewN | apply below_drew1)) hb); clear HB; have HB := n0_; clear n0_; (try clear hb)))
         have H := HF.out
         clear HF
         by_cases c25 : t480 = true
         ·subst c25
          have H1 : (some ((((a0 ++ (⟨#[47]⟩ : ByteArray)) ++ t478) ++ (⟨#[124]⟩ : ByteArray)) ++ t479)) = some r := by rw [if_pos rfl] at H; exact H
          clear H
          have H := H1
          clear H1
          obtain rfl := Option.some.inj H
          go_wp2
          go_ret
          exact ⟨by first | rfl | (simp [*] <;> rfl), by repeat (first | exact HB.out | apply below_alloc | apply pw_below_drewN | apply below_drew1)⟩
         ·replace c25 := Bool.eq_false_iff.mpr c25
          subst c25
          have H1 : (some (⟨#[]⟩ : ByteArray)) = some r := by rw [if_neg (show ¬ (false = true) by decide)] at H; exact H
          clear H
          have H := H1
          clear H1
          obtain rfl := Option.some.inj H
          go_wp2
          go_ret
          exact ⟨by first | rfl | (simp [*] <;> rfl), by repeat (first | exact HB.out | apply below_alloc | apply pw_below_drewN | apply below_drew1)⟩
       ·rw [if_neg c17] at H
        exact absurd H (by simp)
      ·rw [if_neg c15] at H
       exact absurd H (by simp)
     ·rw [if_neg c14] at H
      exact absurd H (by simp)
    ·rw [if_neg c12] at H
     exact absurd H (by simp)

/-! ### strings_HasPrefix: function 45 -/
def strings_HasPrefix.f (a0 : ByteArray) (a1 : ByteArray) : Option (Bool) := some (Lib.hasPrefix a0.data.toList a1.data.toList)
theorem strings_HasPrefix.calls (a0 : ByteArray) (a1 : ByteArray) (r : Bool) (w : World) (h : strings_HasPrefix.f a0 a1 = some r) :
  Calls Tryz.prog 45 #[.string a0, .string a1] w fun e w' => e = .returned (.bool r) ∧ Drawn0 w w' := by
 unfold strings_HasPrefix.f at h
 obtain rfl := Option.some.inj h
 refine (Tryz.strings_HasPrefix a0 a1 w).mono ?_
 rintro e w' ⟨rfl, rfl⟩
 exact ⟨rfl, Drawn0.refl _⟩

/-! ### impl_Extends: function 13 -/
def impl_Extends.f (k : Nat) (a0 : ByteArray) (a1 : ByteArray) : Option (Bool) := (impl_NameOk.f k a0).bind fun t481 => (if t481 = true then ((impl_NameOk.f k a1).bind fun t482 => (if t482 = true then ((strings_HasPrefix.f a0 a1).bind fun t483 => (if t483 = true then (if (a0.size : Int) = (a1.size : Int) then (some true) else (if 0 ≤ (a1.size : Int) then (if (a1.size : Int) < (a0.size : Int) then (some ((bt a0 (a1.size : Int)) == 47)) else (none)) else (none))) else (some false))) else (some false))) else (some false))
theorem impl_Extends.mono : ∀ a0 a1 k, LeO (impl_Extends.f k a0 a1) (impl_Extends.f (k + 1) a0 a1) := by
 intro a0 a1 k
 unfold impl_Extends.f
 repeat' first
   | (with_reducible exact impl_NameOk.mono _ _)
   | (with_reducible exact LeO.refl _)
   | (with_reducible exact LeO.none _)
   | (with_reducible refine LeO.ite ?_ ?_)
   | (with_reducible refine LeO.bind ?_ (fun _ => ?_))
   | exact impl_NameOk.mono _ _
   | exact LeO.none _
   | refine LeO.ite ?_ ?_
   | refine LeO.bind ?_ (fun _ => ?_)
theorem impl_Extends.calls (k : Nat) (a0 : ByteArray) (a1 : ByteArray) (r : Bool) (w : World) (hL : LaidW w) (h : impl_Extends.f k a0 a1 = some r) :
  Calls Tryz.prog 13 #[.string a0, .string a1] w fun e w' => e = .returned (.bool r) ∧ Below w.heap.size w w' := by
 have HL0 := Aside0.mk hL
 clear hL
 have HB := Aside0.mk (Below.refl w.heap.size w)
 have H : ((impl_NameOk.f k a0).bind fun t481 => (if t481 = true then ((impl_NameOk.f k a1).bind fun t482 => (if t482 = true then ((strings_HasPrefix.f a0 a1).bind fun t483 => (if t483 = true then (if (a0.size : Int) = (a1.size : Int) then (some true) else (if 0 ≤ (a1.size : Int) then (if (a1.size : Int) < (a0.size : Int) then (some ((bt a0 (a1.size : Int)) == 47)) else (none)) else (none))) else (some false))) else (some false))) else (some false))) = some r := h
 clear h
 replace H := Option.bind_eq_some_iff.mp H
 obtain ⟨t481, A30, H⟩ := H
 replace H : (if t481 = true then ((impl_NameOk.f k a1).bind fun t482 => (if t482 = true then ((strings_HasPrefix.f a0 a1).bind fun t483 => (if t483 = true then (if (a0.size : Int) = (a1.size : Int) then (some true) else (if 0 ≤ (a1.size : Int) then (if (a1.size : Int) < (a0.size : Int) then (some ((bt a0 (a1.size : Int)) == 47)) else (none)) else (none))) else (some false))) else (some false))) else (some false)) = some r := H
 have A3 := Aside0.mk A30
 clear A30
 by_cases c4 : t481 = true
 ·subst c4
  have H1 : ((impl_NameOk.f k a1).bind fun t482 => (if t482 = true then ((strings_HasPrefix.f a0 a1).bind fun t483 => (if t483 = true then (if (a0.size : Int) = (a1.size : Int) then (some true) else (if 0 ≤ (a1.size : Int) then (if (a1.size : Int) < (a0.size : Int) then (some ((bt a0 (a1.size : Int)) == 47)) else (none)) else (none))) else (some false))) else (some false))) = some r := by rw [if_pos rfl] at H; exact H
  clear H
  have H := H1
  clear H1
  replace H := Option.bind_eq_some_iff.mp H
  obtain ⟨t482, A50, H⟩ := H
  replace H : (if t482 = true then ((strings_HasPrefix.f a0 a1).bind fun t483 => (if t483 = true then (if (a0.size : Int) = (a1.size : Int) then (some true) else (if 0 ≤ (a1.size : Int) then (if (a1.size : Int) < (a0.size : Int) then (some ((bt a0 (a1.size : Int)) == 47)) else (none)) else (none))) else (some false))) else (some false)) = some r := H
  have A5 := Aside0.mk A50
  clear A50
  by_cases c6 : t482 = true
  ·subst c6
   have H1 : ((strings_HasPrefix.f a0 a1).bind fun t483 => (if t483 = true then (if (a0.size : Int) = (a1.size : Int) then (some true) else (if 0 ≤ (a1.size : Int) then (if (a1.size : Int) < (a0.size : Int) then (some ((bt a0 (a1.size : Int)) == 47)) else (none)) else (none))) else (some false))) = some r := by rw [if_pos rfl] at H; exact H
   clear H
   have H := H1
   clear H1
   replace H := Option.bind_eq_some_iff.mp H
   obtain ⟨t483, A70, H⟩ := H
   replace H : (if t483 = true then (if (a0.size : Int) = (a1.size : Int) then (some true) else (if 0 ≤ (a1.size : Int) then (if (a1.size : Int) < (a0.size : Int) then (some ((bt a0 (a1.size : Int)) == 47)) else (none)) else (none))) else (some false)) = some r := H
   have A7 := Aside0.mk A70
   clear A70
   by_cases c8 : t483 = true
   ·subst c8
    have H1 : (if (a0.size : Int) = (a1.size : Int) then (some true) else (if 0 ≤ (a1.size : Int) then (if (a1.size : Int) < (a0.size : Int) then (some ((bt a0 (a1.size : Int)) == 47)) else (none)) else (none))) = some r := by rw [if_pos rfl] at H; exact H
    clear H
    have H := H1
    clear H1
    by_cases c9 : (a0.size : Int) = (a1.size : Int)
    ·rw [if_pos c9] at H
     have c9b0 : ((a0.size : Int) == (a1.size : Int)) = true := beq_iff_eq.mpr c9
     have c9b1 : ((a0.size : Int) != (a1.size : Int)) = false := bne_eq_false_iff_eq.mpr c9
     have c9b2 : (a0.size == a1.size) = true := by first | simpa using c9 | (simp at c9 ⊢; omega)
     clear c9
     obtain rfl := Option.some.inj H
     go_enter Tryz.func13, Tryz.ntmps13
     go_wp2_with (first | ((with_reducible refine gate_callee (f := 12) rfl ?_); refine goesL_ (some 6) rfl rfl Tryz.func12 (by kernel_rfl) rfl #[.string a0] rfl (by (try simp only [List.map_toArray, List.map_cons, List.map_nil]); first | done | rfl) ?_; (with_reducible refine (impl_NameOk.calls k a0 true _ ?side1 A3.out).mono ?_); (case side1 => exact LaidW.below HL0.out (by repeat (first | exact HB.out | apply below_alloc | apply pw_below_drewN | apply below_drew1))); rintro e w10 ⟨rfl, hb⟩; refine ⟨_, rfl, ?_⟩; have n0_ := Aside0.mk (below_step (by repeat (first | exact HB.out | apply below_alloc | apply pw_below_drewN | apply below_drew1)) hb); clear HB; have HB := n0_; clear n0_; (try clear hb)) | (go_at_call 12; (with_reducible refine (impl_NameOk.calls k a1 true _ ?side1 A5.out).mono ?_); (case side1 => exact LaidW.below HL0.out (by repeat (first | exact HB.out | apply below_alloc | apply pw_below_drewN | apply below_drew1))); rintro e w11 ⟨rfl, hb⟩; have n0_ := Aside0.mk (below_step (by repeat (first | exact HB.out | apply below_alloc | apply pw_below_drewN | apply below_drew1)) hb); clear HB; have HB := n0_; clear n0_; (try clear hb)) | (go_at_call 45; (with_reducible refine (strings_HasPrefix.calls a0 a1 true _ A7.out).mono ?_); rintro e w' ⟨rfl, ⟨nd, rfl⟩⟩))
     go_ret
     exact ⟨by first | rfl | (simp [*] <;> rfl), by repeat (first | exact HB.out | apply below_alloc | apply pw_below_drewN | apply below_drew1)⟩
    ·rw [if_neg c9] at H
     have c9b0 : ((a0.size : Int) == (a1.size : Int)) = false := beq_eq_false_iff_ne.mpr c9
     have c9b1 : ((a0.size : Int) != (a1.size : Int)) = true := bne_iff_ne.mpr c9
     have c9b2 : (a0.size == a1.size) = false := by first | simpa using c9 | (simp at c9 ⊢; omega)
     by_cases c12 : 0 ≤ (a1.size : Int)
     ·rw [if_pos c12] at H
      have c12b0 : decide (0 ≤ (a1.size : Int)) = true := decide_eq_true c12
      have c12b1 : decide (0 ≤ a1.size) = true := decide_eq_true (by omega)
      clear c12
      by_cases c13 : (a1.size : Int) < (a0.size : Int)
      ·rw [if_pos c13] at H
       have c13b0 : decide ((a1.size : Int) < (a0.size : Int)) = true := decide_eq_true c13
       have c13b1 : decide (a1.size < a0.size) = true := decide_eq_true (Int.ofNat_lt.mp c13)
       clear c13
       obtain rfl := Option.some.inj H
       go_enter Tryz.func13, Tryz.ntmps13
       go_wp2_with (first | ((with_reducible refine gate_callee (f := 12) rfl ?_); refine goesL_ (some 6) rfl rfl Tryz.func12 (by kernel_rfl) rfl #[.string a0] rfl (by (try simp only [List.map_toArray, List.map_cons, List.map_nil]); first | done | rfl) ?_; (with_reducible refine (impl_NameOk.calls k a0 true _ ?side1 A3.out).mono ?_); (case side1 => exact LaidW.below HL0.out (by repeat (first | exact HB.out | apply below_alloc | apply pw_below_drewN | apply below_drew1))); rintro e w15 ⟨rfl, hb⟩; refine ⟨_, rfl, ?_⟩; have n0_ := Aside0.mk (below_step (by repeat (first | exact HB.out | apply below_alloc | apply pw_below_drewN | apply below_drew1)) hb); clear HB; have HB := n0_; clear n0_; (try clear hb)) | (go_at_call 12; (with_reducible refine (impl_NameOk.calls k a1 true _ ?side1 A5.out).mono ?_); (case side1 => exact LaidW.below HL0.out (by repeat (first | exact HB.out | apply below_alloc | apply pw_below_drewN | apply below_drew1))); rintro e w16 ⟨rfl, hb⟩; have n0_ := Aside0.mk (below_step (by repeat (first | exact HB.out | apply below_alloc | apply pw_below_drewN | apply below_drew1)) hb); clear HB; have HB := n0_; clear n0_; (try clear hb)) | (go_at_call 45; (with_reducible refine (strings_HasPrefix.calls a0 a1 true _ A7.out).mono ?_); rintro e w' ⟨rfl, ⟨nd, rfl⟩⟩; have p14 : 0 ≤ ((a1.size : Int) : Int) := of_decide_eq_true (by first | (with_reducible assumption) | assumption); have q14 : (a1.size : Int) < (a0.size : Int) := of_decide_eq_true (by first | (with_reducible assumption) | assumption); have hx14 := bt_at a0 (a1.size : Int) (by omega); (try simp only [Int.toNat_natCast] at hx14); replace p14 := eq_true p14; replace q14 := eq_true q14))
       go_ret
       exact ⟨by first | rfl | (simp [*] <;> rfl), by repeat (first | exact HB.out | apply below_alloc | apply pw_below_drewN | apply below_drew1)⟩
      ·rw [if_neg c13] at H
       exact absurd H (by simp)
     ·rw [if_neg c12] at H
      exact absurd H (by simp)
   ·replace c8 := Bool.eq_false_iff.mpr c8
    subst c8
    have H1 : (some false) = some r := by rw [if_neg (show ¬ (false = true) by decide)] at H; exact H
    clear H
    have H := H1
    clear H1
    obtain rfl := Option.some.inj H
    go_enter Tryz.func13, Tryz.ntmps13
    go_wp2_with (first | ((with_reducible refine gate_callee (f := 12) rfl ?_); refine goesL_ (some 6) rfl rfl Tryz.func12 (by kernel_rfl) rfl #[.string a0] rfl (by (try simp only [List.map_toArray, List.map_cons, List.map_nil]); first | done | rfl) ?_; (with_reducible refine (impl_NameOk.calls k a0 true _ ?side1 A3.out).mono ?_); (case side1 => exact LaidW.below HL0.out (by repeat (first | exact HB.out | apply below_alloc | apply pw_below_drewN | apply below_drew1))); rintro e w17 ⟨rfl, hb⟩; refine ⟨_, rfl, ?_⟩; have n0_ := Aside0.mk (below_step (by repeat (first | exact HB.out | apply below_alloc | apply pw_below_drewN | apply below_drew1)) hb); clear HB; have HB := n0_; clear n0_; (try clear hb)) | (go_at_call 12; (with_reducible refine (impl_NameOk.calls k a1 true _ ?side1 A5.out).mono ?_); (case side1 => exact LaidW.below HL0.out (by repeat (first | exact HB.out | apply below_alloc | apply pw_below_drewN | apply below_drew1))); rintro e w18 ⟨rfl, hb⟩; have n0_ := Aside0.mk (below_step (by repeat (first | exact HB.out | apply below_alloc | apply pw_below_drewN | apply below_drew1)) hb); clear HB; have HB := n0_; clear n0_; (try clear hb)) | (go_at_call 45; (with_reducible refine (strings_HasPrefix.calls a0 a1 false _ A7.out).mono ?_); rintro e w' ⟨rfl, ⟨nd, rfl⟩⟩))
    go_ret
    exact ⟨by first | rfl | (simp [*] <;> rfl), by repeat (first | exact HB.out | apply below_alloc | apply pw_below_drewN | apply below_drew1)⟩
  ·replace c6 := Bool.eq_false_iff.mpr c6
   subst c6
   have H1 : (some false) = some r := by rw [if_neg (show ¬ (false = true) by decide)] at H; exact H
   clear H
   have H := H1
   clear H1
   obtain rfl := Option.some.inj H
   go_enter Tryz.func13, Tryz.ntmps13
   go_wp2_with (first | ((with_reducible refine gate_callee (f := 12) rfl ?_); refine goesL_ (some 6) rfl rfl Tryz.func12 (by kernel_rfl) rfl #[.string a0] rfl (by (try simp only [List.map_toArray, List.map_cons, List.map_nil]); first | done | rfl) ?_; (with_reducible refine (impl_NameOk.calls k a0 true _ ?side1 A3.out).mono ?_); (case side1 => exact LaidW.below HL0.out (by repeat (first | exact HB.out | apply below_alloc | apply pw_below_drewN | apply below_drew1))); rintro e w19 ⟨rfl, hb⟩; refine ⟨_, rfl, ?_⟩; have n0_ := Aside0.mk (below_step (by repeat (first | exact HB.out | apply below_alloc | apply pw_below_drewN | apply below_drew1)) hb); clear HB; have HB := n0_; clear n0_; (try clear hb)) | (go_at_call 12; (with_reducible refine (impl_NameOk.calls k a1 false _ ?side1 A5.out).mono ?_); (case side1 => exact LaidW.below HL0.out (by repeat (first | exact HB.out | apply below_alloc | apply pw_below_drewN | apply below_drew1))); rintro e w20 ⟨rfl, hb⟩; have n0_ := Aside0.mk (below_step (by repeat (first | exact HB.out | apply below_alloc | apply pw_below_drewN | apply below_drew1)) hb); clear HB; have HB := n0_; clear n0_; (try clear hb)))
   go_ret
   exact ⟨by first | rfl | (simp [*] <;> rfl), by repeat (first | exact HB.out | apply below_alloc | apply pw_below_drewN | apply below_drew1)⟩
 ·replace c4 := Bool.eq_false_iff.mpr c4
  subst c4
  have H1 : (some false) = some r := by rw [if_neg (show ¬ (false = true) by decide)] at H; exact H
  clear H
  have H := H1
  clear H1
  obtain rfl := Option.some.inj H
  go_enter Tryz.func13, Tryz.ntmps13
  go_wp2_with (first | ((with_reducible refine gate_callee (f := 12) rfl ?_); refine goesL_ (some 6) rfl rfl Tryz.func12 (by kernel_rfl) rfl #[.string a0] rfl (by (try simp only [List.map_toArray, List.map_cons, List.map_nil]); first | done | rfl) ?_; (with_reducible refine (impl_NameOk.calls k a0 false _ ?side1 A3.out).mono ?_); (case side1 => exact LaidW.below HL0.out (by repeat (first | exact HB.out | apply below_alloc | apply pw_below_drewN | apply below_drew1))); rintro e w21 ⟨rfl, hb⟩; refine ⟨_, rfl, ?_⟩; have n0_ := Aside0.mk (below_step (by repeat (first | exact HB.out | apply below_alloc | apply pw_below_drewN | apply below_drew1)) hb); clear HB; have HB := n0_; clear n0_; (try clear hb)))
  go_ret
  exact ⟨by first | rfl | (simp [*] <;> rfl), by repeat (first | exact HB.out | apply below_alloc | apply pw_below_drewN | apply below_drew1)⟩

/-! ### spec_Extends: function 14 -/
def spec_Extends.f (k : Nat) (a0 : ByteArray) (a1 : ByteArray) : Option (Bool) := (spec_NameOk.f k a0).bind fun t484 => (if t484 = true then ((spec_NameOk.f k a1).bind fun t485 => (if t485 = true then (if (a1.size : Int) > (a0.size : Int) then (some false) else (if 0 ≤ (a1.size : Int) then (if (a1.size : Int) ≤ (a0.size : Int) then (if (a0.extract 0 ((a1.size : Int) : Int).toNat).toList = a1.toList then (if (a0.size : Int) = (a1.size : Int) then (some true) else (if (a1.size : Int) < (a0.size : Int) then (some ((bt a0 (a1.size : Int)) == 47)) else (none))) else (some false)) else (none)) else (none))) else (some false))) else (some false))
theorem spec_Extends.mono : ∀ a0 a1 k, LeO (spec_Extends.f k a0 a1) (spec_Extends.f (k + 1) a0 a1) := by
 intro a0 a1 k
 unfold spec_Extends.f
 repeat' first
   | (with_reducible exact spec_NameOk.mono _ _)
   | (with_reducible exact LeO.refl _)
   | (with_reducible exact LeO.none _)
   | (with_reducible refine LeO.ite ?_ ?_)
   | (with_reducible refine LeO.bind ?_ (fun _ => ?_))
   | exact spec_NameOk.mono _ _
   | exact LeO.none _
   | refine LeO.ite ?_ ?_
   | refine LeO.bind ?_ (fun _ => ?_)
theorem spec_Extends.calls (k : Nat) (a0 : ByteArray) (a1 : ByteArray) (r : Bool) (w : World) (h : spec_Extends.f k a0 a1 = some r) :
  Calls Tryz.prog 14 #[.string a0, .string a1] w fun e w' => e = .returned (.bool r) ∧ Below w.heap.size w w' := by
 have HB := Aside0.mk (Below.refl w.heap.size w)
 have H : ((spec_NameOk.f k a0).bind fun t484 => (if t484 = true then ((spec_NameOk.f k a1).bind fun t485 => (if t485 = true then (if (a1.size : Int) > (a0.size : Int) then (some false) else (if 0 ≤ (a1.size : Int) then (if (a1.size : Int) ≤ (a0.size : Int) then (if (a0.extract 0 ((a1.size : Int) : Int).toNat).toList = a1.toList then (if (a0.size : Int) = (a1.size : Int) then (some true) else (if (a1.size : Int) < (a0.size : Int) then (some ((bt a0 (a1.size : Int)) == 47)) else (none))) else (some false)) else (none)) else (none))) else (some false))) else (some false))) = some r := h
 clear h
 replace H := Option.bind_eq_some_iff.mp H
 obtain ⟨t484, A30, H⟩ := H
 replace H : (if t484 = true then ((spec_NameOk.f k a1).bind fun t485 => (if t485 = true then (if (a1.size : Int) > (a0.size : Int) then (some false) else (if 0 ≤ (a1.size : Int) then (if (a1.size : Int) ≤ (a0.size : Int) then (if (a0.extract 0 ((a1.size : Int) : Int).toNat).toList = a1.toList then (if (a0.size : Int) = (a1.size : Int) then (some true) else (if (a1.size : Int) < (a0.size : Int) then (some ((bt a0 (a1.size : Int)) == 47)) else (none))) else (some false)) else (none)) else (none))) else (some false))) else (some false)) = some r := H
 have A3 := Aside0.mk A30
 clear A30
 by_cases c4 : t484 = true
 ·subst c4
  have H1 : ((spec_NameOk.f k a1).bind fun t485 => (if t485 = true then (if (a1.size : Int) > (a0.size : Int) then (some false) else (if 0 ≤ (a1.size : Int) then (if (a1.size : Int) ≤ (a0.size : Int) then (if (a0.extract 0 ((a1.size : Int) : Int).toNat).toList = a1.toList then (if (a0.size : Int) = (a1.size : Int) then (some true) else (if (a1.size : Int) < (a0.size : Int) then (some ((bt a0 (a1.size : Int)) == 47)) else (none))) else (some false)) else (none)) else (none))) else (some false))) = some r := by rw [if_pos rfl] at H; exact H
  clear H
  have H := H1
  clear H1
  replace H := Option.bind_eq_some_iff.mp H
  obtain ⟨t485, A50, H⟩ := H
  replace H : (if t485 = true then (if (a1.size : Int) > (a0.size : Int) then (some false) else (if 0 ≤ (a1.size : Int) then (if (a1.size : Int) ≤ (a0.size : Int) then (if (a0.extract 0 ((a1.size : Int) : Int).toNat).toList = a1.toList then (if (a0.size : Int) = (a1.size : Int) then (some true) else (if (a1.size : Int) < (a0.size : Int) then (some ((bt a0 (a1.size : Int)) == 47)) else (none))) else (some false)) else (none)) else (none))) else (some false)) = some r := H
  have A5 := Aside0.mk A50
  clear A50
  by_cases c6 : t485 = true
  ·subst c6
   have H1 : (if (a1.size : Int) > (a0.size : Int) then (some false) else (if 0 ≤ (a1.size : Int) then (if (a1.size : Int) ≤ (a0.size : Int) then (if (a0.extract 0 ((a1.size : Int) : Int).toNat).toList = a1.toList then (if (a0.size : Int) = (a1.size : Int) then (some true) else (if (a1.size : Int) < (a0.size : Int) then (some ((bt a0 (a1.size : Int)) == 47)) else (none))) else (some false)) else (none)) else (none))) = some r := by rw [if_pos rfl] at H; exact H
   clear H
   have H := H1
   clear H1
   by_cases c7 : (a1.size : Int) > (a0.size : Int)
   ·rw [if_pos c7] at H
    have c7b0 : decide ((a0.size : Int) < (a1.size : Int)) = true := decide_eq_true c7
    have c7b1 : decide (a0.size < a1.size) = true := decide_eq_true (Int.ofNat_lt.mp c7)
    clear c7
    obtain rfl := Option.some.inj H
    go_enter Tryz.func14, Tryz.ntmps14
    go_wp2_with (first | ((with_reducible refine gate_callee (f := 46) rfl ?_); refine goesL_ (some 6) rfl rfl Tryz.func46 (by kernel_rfl) rfl #[.string a0] rfl (by (try simp only [List.map_toArray, List.map_cons, List.map_nil]); first | done | rfl) ?_; (with_reducible refine (spec_NameOk.calls k a0 true _ A3.out).mono ?_); rintro e w8 ⟨rfl, hb⟩; refine ⟨_, rfl, ?_⟩; have n0_ := Aside0.mk (below_step (by repeat (first | exact HB.out | apply below_alloc | apply pw_below_drewN | apply below_drew1)) hb); clear HB; have HB := n0_; clear n0_; (try clear hb)) | (go_at_call 46; (with_reducible refine (spec_NameOk.calls k a1 true _ A5.out).mono ?_); rintro e w9 ⟨rfl, hb⟩; have n0_ := Aside0.mk (below_step (by repeat (first | exact HB.out | apply below_alloc | apply pw_below_drewN | apply below_drew1)) hb); clear HB; have HB := n0_; clear n0_; (try clear hb)))
    go_ret
    exact ⟨by first | rfl | (simp [*] <;> rfl), by repeat (first | exact HB.out | apply below_alloc | apply pw_below_drewN | apply below_drew1)⟩
   ·rw [if_neg c7] at H
    have c7b0 : decide ((a0.size : Int) < (a1.size : Int)) = false := decide_eq_false c7
    have c7b1 : decide (a0.size < a1.size) = false := decide_eq_false (fun h => c7 (Int.ofNat_lt.mpr h))
    clear c7
    by_cases c10 : 0 ≤ (a1.size : Int)
    ·rw [if_pos c10] at H
     have c10b0 := eq_true c10
     have c10b1 : decide (0 ≤ (a1.size : Int)) = true := decide_eq_true c10
     clear c10
     by_cases c11 : (a1.size : Int) ≤ (a0.size : Int)
     ·rw [if_pos c11] at H
      have c11b0 := eq_true c11
      have c11b1 : decide ((a1.size : Int) ≤ (a0.size : Int)) = true := decide_eq_true c11
      clear c11
      have HF := Aside0.mk H
      clear H
      go_enter Tryz.func14, Tryz.ntmps14
      go_upto_if 27 with (go_big_may; first | ((with_reducible refine gate_callee (f := 46) rfl ?_); refine goesL_ (some 6) rfl rfl Tryz.func46 (by kernel_rfl) rfl #[.string a0] rfl (by (try simp only [List.map_toArray, List.map_cons, List.map_nil]); first | done | rfl) ?_; (with_reducible refine (spec_NameOk.calls k a0 true _ A3.out).mono ?_); rintro e w12 ⟨rfl, hb⟩; refine ⟨_, rfl, ?_⟩; have n0_ := Aside0.mk (below_step (by repeat (first | exact HB.out | apply below_alloc | apply pw_below_drewN | apply below_drew1)) hb); clear HB; have HB := n0_; clear n0_; (try clear hb)) | (go_at_call 46; (with_reducible refine (spec_NameOk.calls k a1 true _ A5.out).mono ?_); rintro e w13 ⟨rfl, hb⟩; have n0_ := Aside0.mk (below_step (by repeat (first | exact HB.out | apply below_alloc | apply pw_below_drewN | apply below_drew1)) hb); clear HB; have HB := n0_; clear n0_; (try clear hb)))
      have H := HF.out
      clear HF
      by_cases c14 : (a0.extract 0 ((a1.size : Int) : Int).toNat).toList = a1.toList
      ·rw [if_pos c14] at H
       have c14b0 : ((a0.extract 0 ((a1.size : Int) : Int).toNat).toList == a1.toList) = true := beq_iff_eq.mpr c14
       (try simp only [Int.toNat_natCast] at c14b0)
       have c14b1 : ((a0.extract 0 ((a1.size : Int) : Int).toNat).toList != a1.toList) = false := bne_eq_false_iff_eq.mpr c14
       (try simp only [Int.toNat_natCast] at c14b1)
       clear c14
       (first | rw [c14b0] | (simp only [i64_w, i32_w]; rw [c14b0]) | skip)
       by_cases c15 : (a0.size : Int) = (a1.size : Int)
       ·rw [if_pos c15] at H
        have c15b0 : ((a0.size : Int) == (a1.size : Int)) = true := beq_iff_eq.mpr c15
        have c15b1 : ((a0.size : Int) != (a1.size : Int)) = false := bne_eq_false_iff_eq.mpr c15
        have c15b2 : (a0.size == a1.size) = true := by first | simpa using c15 | (simp at c15 ⊢; omega)
        clear c15
        obtain rfl := Option.some.inj H
        go_wp2
        go_ret
        exact ⟨by first | rfl | (simp [*] <;> rfl), by repeat (first | exact HB.out | apply below_alloc | apply pw_below_drewN | apply below_drew1)⟩
       ·rw [if_neg c15] at H
        have c15b0 : ((a0.size : Int) == (a1.size : Int)) = false := beq_eq_false_iff_ne.mpr c15
        have c15b1 : ((a0.size : Int) != (a1.size : Int)) = true := bne_iff_ne.mpr c15
        have c15b2 : (a0.size == a1.size) = false := by first | simpa using c15 | (simp at c15 ⊢; omega)
        by_cases c16 : (a1.size : Int) < (a0.size : Int)
        ·rw [if_pos c16] at H
         have c16b0 : decide ((a1.size : Int) < (a0.size : Int)) = true := decide_eq_true c16
         have c16b1 : decide (a1.size < a0.size) = true := decide_eq_true (Int.ofNat_lt.mp c16)
         clear c16
         obtain rfl := Option.some.inj H
         have p17 : 0 ≤ ((a1.size : Int) : Int) := of_decide_eq_true (by first | (with_reducible assumption) | assumption)
         have q17 : (a1.size : Int) < (a0.size : Int) := of_decide_eq_true (by first | (with_reducible assumption) | assumption)
         have hx17 := bt_at a0 (a1.size : Int) (by omega)
         (try simp only [Int.toNat_natCast] at hx17)
         replace p17 := eq_true p17
         replace q17 := eq_true q17
         go_wp2
         go_ret
         exact ⟨by first | rfl | (simp [*] <;> rfl), by repeat (first | exact HB.out | apply below_alloc | apply pw_below_drewN | apply below_drew1)⟩
        ·rw [if_neg c16] at H
         exact absurd H (by simp)
      ·rw [if_neg c14] at H
       have c14b0 : ((a0.extract 0 ((a1.size : Int) : Int).toNat).toList == a1.toList) = false := beq_eq_false_iff_ne.mpr c14
       (try simp only [Int.toNat_natCast] at c14b0)
       have c14b1 : ((a0.extract 0 ((a1.size : Int) : Int).toNat).toList != a1.toList) = true := bne_iff_ne.mpr c14
       (try simp only [Int.toNat_natCast] at c14b1)
       (first | rw [c14b0] | (simp only [i64_w, i32_w]; rw [c14b0]) | skip)
       obtain rfl := Option.some.inj H
       go_wp2
       go_ret
       exact ⟨by first | rfl | (simp [*] <;> rfl), by repeat (first | exact HB.out | apply below_alloc | apply pw_below_drewN | apply below_drew1)⟩
     ·rw [if_neg c11] at H
      exact absurd H (by simp)
    ·rw [if_neg c10] at H
     exact absurd H (by simp)
  ·replace c6 := Bool.eq_false_iff.mpr c6
   subst c6
   have H1 : (some false) = some r := by rw [if_neg (show ¬ (false = true) by decide)] at H; exact H
   clear H
   have H := H1
   clear H1
   obtain rfl := Option.some.inj H
   go_enter Tryz.func14, Tryz.ntmps14
   go_wp2_with (first | ((with_reducible refine gate_callee (f := 46) rfl ?_); refine goesL_ (some 6) rfl rfl Tryz.func46 (by kernel_rfl) rfl #[.string a0] rfl (by (try simp only [List.map_toArray, List.map_cons, List.map_nil]); first | done | rfl) ?_; (with_reducible refine (spec_NameOk.calls k a0 true _ A3.out).mono ?_); rintro e w18 ⟨rfl, hb⟩; refine ⟨_, rfl, ?_⟩; have n0_ := Aside0.mk (below_step (by repeat (first | exact HB.out | apply below_alloc | apply pw_below_drewN | apply below_drew1)) hb); clear HB; have HB := n0_; clear n0_; (try clear hb)) | (go_at_call 46; (with_reducible refine (spec_NameOk.calls k a1 false _ A5.out).mono ?_); rintro e w19 ⟨rfl, hb⟩; have n0_ := Aside0.mk (below_step (by repeat (first | exact HB.out | apply below_alloc | apply pw_below_drewN | apply below_drew1)) hb); clear HB; have HB := n0_; clear n0_; (try clear hb)))
   go_ret
   exact ⟨by first | rfl | (simp [*] <;> rfl), by repeat (first | exact HB.out | apply below_alloc | apply pw_below_drewN | apply below_drew1)⟩
 ·replace c4 := Bool.eq_false_iff.mpr c4
  subst c4
  have H1 : (some false) = some r := by rw [if_neg (show ¬ (false = true) by decide)] at H; exact H
  clear H
  have H := H1
  clear H1
  obtain rfl := Option.some.inj H
  go_enter Tryz.func14, Tryz.ntmps14
  go_wp2_with (first | ((with_reducible refine gate_callee (f := 46) rfl ?_); refine goesL_ (some 6) rfl rfl Tryz.func46 (by kernel_rfl) rfl #[.string a0] rfl (by (try simp only [List.map_toArray, List.map_cons, List.map_nil]); first | done | rfl) ?_; (with_reducible refine (spec_NameOk.calls k a0 false _ A3.out).mono ?_); rintro e w20 ⟨rfl, hb⟩; refine ⟨_, rfl, ?_⟩; have n0_ := Aside0.mk (below_step (by repeat (first | exact HB.out | apply below_alloc | apply pw_below_drewN | apply below_drew1)) hb); clear HB; have HB := n0_; clear n0_; (try clear hb)))
  go_ret
  exact ⟨by first | rfl | (simp [*] <;> rfl), by repeat (first | exact HB.out | apply below_alloc | apply pw_below_drewN | apply below_drew1)⟩

/-! ### impl_Meets: function 15 -/
def impl_Meets.f (k : Nat) (a0 : ByteArray) (a1 : ByteArray) : Option (Bool) := (impl_Extends.f k a0 a1).bind fun t486 => (if t486 = true then (some true) else ((impl_Extends.f k a1 a0).bind fun t487 => (some t487)))
theorem impl_Meets.mono : ∀ a0 a1 k, LeO (impl_Meets.f k a0 a1) (impl_Meets.f (k + 1) a0 a1) := by
 intro a0 a1 k
 unfold impl_Meets.f
 repeat' first
   | (with_reducible exact impl_Extends.mono _ _ _)
   | (with_reducible exact LeO.refl _)
   | (with_reducible exact LeO.none _)
   | (with_reducible refine LeO.ite ?_ ?_)
   | (with_reducible refine LeO.bind ?_ (fun _ => ?_))
   | exact impl_Extends.mono _ _ _
   | exact LeO.none _
   | refine LeO.ite ?_ ?_
   | refine LeO.bind ?_ (fun _ => ?_)
theorem impl_Meets.calls (k : Nat) (a0 : ByteArray) (a1 : ByteArray) (r : Bool) (w : World) (hL : LaidW w) (h : impl_Meets.f k a0 a1 = some r) :
  Calls Tryz.prog 15 #[.string a0, .string a1] w fun e w' => e = .returned (.bool r) ∧ Below w.heap.size w w' := by
 have HL0 := Aside0.mk hL
 clear hL
 have HB := Aside0.mk (Below.refl w.heap.size w)
 have H : ((impl_Extends.f k a0 a1).bind fun t486 => (if t486 = true then (some true) else ((impl_Extends.f k a1 a0).bind fun t487 => (some t487)))) = some r := h
 clear h
 replace H := Option.bind_eq_some_iff.mp H
 obtain ⟨t486, A30, H⟩ := H
 replace H : (if t486 = true then (some true) else ((impl_Extends.f k a1 a0).bind fun t487 => (some t487))) = some r := H
 have A3 := Aside0.mk A30
 clear A30
 by_cases c4 : t486 = true
 ·subst c4
  have H1 : (some true) = some r := by rw [if_pos rfl] at H; exact H
  clear H
  have H := H1
  clear H1
  obtain rfl := Option.some.inj H
  go_enter Tryz.func15, Tryz.ntmps15
  go_wp2_with (first | ((with_reducible refine gate_callee (f := 13) rfl ?_); refine goesL_ (some 7) rfl rfl Tryz.func13 (by kernel_rfl) rfl #[.string a0, .string a1] rfl (by (try simp only [List.map_toArray, List.map_cons, List.map_nil]); first | done | rfl) ?_; (with_reducible refine (impl_Extends.calls k a0 a1 true _ ?side1 A3.out).mono ?_); (case side1 => exact LaidW.below HL0.out (by repeat (first | exact HB.out | apply below_alloc | apply pw_below_drewN | apply below_drew1))); rintro e w5 ⟨rfl, hb⟩; refine ⟨_, rfl, ?_⟩; have n0_ := Aside0.mk (below_step (by repeat (first | exact HB.out | apply below_alloc | apply pw_below_drewN | apply below_drew1)) hb); clear HB; have HB := n0_; clear n0_; (try clear hb)))
  go_ret
  exact ⟨by first | rfl | (simp [*] <;> rfl), by repeat (first | exact HB.out | apply below_alloc | apply pw_below_drewN | apply below_drew1)⟩
 ·replace c4 := Bool.eq_false_iff.mpr c4
  subst c4
  have H1 : ((impl_Extends.f k a1 a0).bind fun t487 => (some t487)) = some r := by rw [if_neg (show ¬ (false = true) by decide)] at H; exact H
  clear H
  have H := H1
  clear H1
  replace H := Option.bind_eq_some_iff.mp H
  obtain ⟨t487, A60, H⟩ := H
  replace H : (some t487) = some r := H
  have A6 := Aside0.mk A60
  clear A60
  obtain rfl := Option.some.inj H
  go_enter Tryz.func15, Tryz.ntmps15
  go_wp2_with (first | ((with_reducible refine gate_callee (f := 13) rfl ?_); refine goesL_ (some 7) rfl rfl Tryz.func13 (by kernel_rfl) rfl #[.string a0, .string a1] rfl (by (try simp only [List.map_toArray, List.map_cons, List.map_nil]); first | done | rfl) ?_; (with_reducible refine (impl_Extends.calls k a0 a1 false _ ?side1 A3.out).mono ?_); (case side1 => exact LaidW.below HL0.out (by repeat (first | exact HB.out | apply below_alloc | apply pw_below_drewN | apply below_drew1))); rintro e w7 ⟨rfl, hb⟩; refine ⟨_, rfl, ?_⟩; have n0_ := Aside0.mk (below_step (by repeat (first | exact HB.out | apply below_alloc | apply pw_below_drewN | apply below_drew1)) hb); clear HB; have HB := n0_; clear n0_; (try clear hb)) | (go_at_call 13; (with_reducible refine (impl_Extends.calls k a1 a0 t487 _ ?side1 A6.out).mono ?_); (case side1 => exact LaidW.below HL0.out (by repeat (first | exact HB.out | apply below_alloc | apply pw_below_drewN | apply below_drew1))); rintro e w8 ⟨rfl, hb⟩; have n0_ := Aside0.mk (below_step (by repeat (first | exact HB.out | apply below_alloc | apply pw_below_drewN | apply below_drew1)) hb); clear HB; have HB := n0_; clear n0_; (try clear hb)))
  go_ret
  exact ⟨by first | rfl | (simp [*] <;> rfl), by repeat (first | exact HB.out | apply below_alloc | apply pw_below_drewN | apply below_drew1)⟩

/-! ### spec_Meets: function 16 -/
def spec_Meets.f (k : Nat) (a0 : ByteArray) (a1 : ByteArray) : Option (Bool) := (spec_Extends.f k a0 a1).bind fun t488 => (if t488 = true then (some true) else ((spec_Extends.f k a1 a0).bind fun t489 => (some t489)))
theorem spec_Meets.mono : ∀ a0 a1 k, LeO (spec_Meets.f k a0 a1) (spec_Meets.f (k + 1) a0 a1) := by
 intro a0 a1 k
 unfold spec_Meets.f
 repeat' first
   | (with_reducible exact spec_Extends.mono _ _ _)
   | (with_reducible exact LeO.refl _)
   | (with_reducible exact LeO.none _)
   | (with_reducible refine LeO.ite ?_ ?_)
   | (with_reducible refine LeO.bind ?_ (fun _ => ?_))
   | exact spec_Extends.mono _ _ _
   | exact LeO.none _
   | refine LeO.ite ?_ ?_
   | refine LeO.bind ?_ (fun _ => ?_)
theorem spec_Meets.calls (k : Nat) (a0 : ByteArray) (a1 : ByteArray) (r : Bool) (w : World) (h : spec_Meets.f k a0 a1 = some r) :
  Calls Tryz.prog 16 #[.string a0, .string a1] w fun e w' => e = .returned (.bool r) ∧ Below w.heap.size w w' := by
 have HB := Aside0.mk (Below.refl w.heap.size w)
 have H : ((spec_Extends.f k a0 a1).bind fun t488 => (if t488 = true then (some true) else ((spec_Extends.f k a1 a0).bind fun t489 => (some t489)))) = some r := h
 clear h
 replace H := Option.bind_eq_some_iff.mp H
 obtain ⟨t488, A30, H⟩ := H
 replace H : (if t488 = true then (some true) else ((spec_Extends.f k a1 a0).bind fun t489 => (some t489))) = some r := H
 have A3 := Aside0.mk A30
 clear A30
 by_cases c4 : t488 = true
 ·subst c4
  have H1 : (some true) = some r := by rw [if_pos rfl] at H; exact H
  clear H
  have H := H1
  clear H1
  obtain rfl := Option.some.inj H
  go_enter Tryz.func16, Tryz.ntmps16
  go_wp2_with (first | ((with_reducible refine gate_callee (f := 14) rfl ?_); refine goesL_ (some 7) rfl rfl Tryz.func14 (by kernel_rfl) rfl #[.string a0, .string a1] rfl (by (try simp only [List.map_toArray, List.map_cons, List.map_nil]); first | done | rfl) ?_; (with_reducible refine (spec_Extends.calls k a0 a1 true _ A3.out).mono ?_); rintro e w5 ⟨rfl, hb⟩; refine ⟨_, rfl, ?_⟩; have n0_ := Aside0.mk (below_step (by repeat (first | exact HB.out | apply below_alloc | apply pw_below_drewN | apply below_drew1)) hb); clear HB; have HB := n0_; clear n0_; (try clear hb)))
  go_ret
  exact ⟨by first | rfl | (simp [*] <;> rfl), by repeat (first | exact HB.out | apply below_alloc | apply pw_below_drewN | apply below_drew1)⟩
 ·replace c4 := Bool.eq_false_iff.mpr c4
  subst c4
  have H1 : ((spec_Extends.f k a1 a0).bind fun t489 => (some t489)) = some r := by rw [if_neg (show ¬ (false = true) by decide)] at H; exact H
  clear H
  have H := H1
  clear H1
  replace H := Option.bind_eq_some_iff.mp H
  obtain ⟨t489, A60, H⟩ := H
  replace H : (some t489) = some r := H
  have A6 := Aside0.mk A60
  clear A60
  obtain rfl := Option.some.inj H
  go_enter Tryz.func16, Tryz.ntmps16
  go_wp2_with (first | ((with_reducible refine gate_callee (f := 14) rfl ?_); refine goesL_ (some 7) rfl rfl Tryz.func14 (by kernel_rfl) rfl #[.string a0, .string a1] rfl (by (try simp only [List.map_toArray, List.map_cons, List.map_nil]); first | done | rfl) ?_; (with_reducible refine (spec_Extends.calls k a0 a1 false _ A3.out).mono ?_); rintro e w7 ⟨rfl, hb⟩; refine ⟨_, rfl, ?_⟩; have n0_ := Aside0.mk (below_step (by repeat (first | exact HB.out | apply below_alloc | apply pw_below_drewN | apply below_drew1)) hb); clear HB; have HB := n0_; clear n0_; (try clear hb)) | (go_at_call 14; (with_reducible refine (spec_Extends.calls k a1 a0 t489 _ A6.out).mono ?_); rintro e w8 ⟨rfl, hb⟩; have n0_ := Aside0.mk (below_step (by repeat (first | exact HB.out | apply below_alloc | apply pw_below_drewN | apply below_drew1)) hb); clear HB; have HB := n0_; clear n0_; (try clear hb)))
  go_ret
  exact ⟨by first | rfl | (simp [*] <;> rfl), by repeat (first | exact HB.out | apply below_alloc | apply pw_below_drewN | apply below_drew1)⟩

/-! ### impl_Height: function 18 -/
def impl_Height.f (k : Nat) (a0 : ByteArray) : Option (Int) := (impl_Steps.f k a0).bind fun bt490 => (if bt490.2 = true then (some (bt490.1.length : Int)) else (some (-1)))
theorem impl_Height.mono : ∀ a0 k, LeO (impl_Height.f k a0) (impl_Height.f (k + 1) a0) := by
 intro a0 k
 unfold impl_Height.f
 repeat' first
   | (with_reducible exact impl_Steps.mono _ _)
   | (with_reducible exact LeO.refl _)
   | (with_reducible exact LeO.none _)
   | (with_reducible refine LeO.ite ?_ ?_)
   | (with_reducible refine LeO.bind ?_ (fun _ => ?_))
   | exact impl_Steps.mono _ _
   | exact LeO.none _
   | refine LeO.ite ?_ ?_
   | refine LeO.bind ?_ (fun _ => ?_)
theorem impl_Height.calls (k : Nat) (a0 : ByteArray) (r : Int) (w : World) (hL : LaidW w) (h : impl_Height.f k a0 = some r) :
  Calls Tryz.prog 18 #[.string a0] w fun e w' => e = .returned (.int .i64 r) ∧ Below w.heap.size w w' := by
 have HL0 := Aside0.mk hL
 clear hL
 have HB := Aside0.mk (Below.refl w.heap.size w)
 have H : ((impl_Steps.f k a0).bind fun bt490 => (if bt490.2 = true then (some (bt490.1.length : Int)) else (some (-1)))) = some r := h
 clear h
 replace H := Option.bind_eq_some_iff.mp H
 obtain ⟨⟨t490, t491⟩, A20, H⟩ := H
 replace H : (if t491 = true then (some (t490.length : Int)) else (some (-1))) = some r := H
 have A2 := Aside0.mk A20
 clear A20
 have HF := Aside0.mk H
 clear H
 go_enter Tryz.func18, Tryz.ntmps18
 go_upto_if 11 with (go_big_may; first | ((with_reducible refine gate_callee (f := 6) rfl ?_); refine goesL_ (some 7) rfl rfl Tryz.func6 (by kernel_rfl) rfl #[.string a0] rfl (by (try simp only [List.map_toArray, List.map_cons, List.map_nil]); first | done | rfl) ?_; (with_reducible refine (impl_Steps.calls k a0 t490 t491 _ ?side1 A2.out).mono ?_); (case side1 => exact LaidW.below HL0.out (by repeat (first | exact HB.out | apply below_alloc | apply pw_below_drewN | apply below_drew1))); rintro e w3 ⟨v492, rfl, ho0, hb⟩; refine ⟨_, rfl, ?_⟩; have n0_ := Aside0.mk (Kd.S_lower ho0 (below_size (by repeat (first | exact HB.out | apply below_alloc | apply pw_below_drewN | apply below_drew1)))); have n1_ := Aside0.mk (below_step (by repeat (first | exact HB.out | apply below_alloc | apply pw_below_drewN | apply below_drew1)) hb); clear HB; have HO493 := n0_; have HB := n1_; clear n0_ n1_; (try clear hb); (try clear ho0)))
 have H := HF.out
 clear HF
 by_cases c4 : t491 = true
 ·subst c4
  have H1 : (some (t490.length : Int)) = some r := by rw [if_pos rfl] at H; exact H
  clear H
  have H := H1
  clear H1
  obtain rfl := Option.some.inj H
  obtain ⟨Ao5, co5, eo5⟩ := Kd.S_slice HO493.out
  subst eo5
  go_wp2
  go_ret
  exact ⟨by first | rfl | (simp [*] <;> rfl), by repeat (first | exact HB.out | apply below_alloc | apply pw_below_drewN | apply below_drew1)⟩
 ·replace c4 := Bool.eq_false_iff.mpr c4
  subst c4
  have H1 : (some (-1)) = some r := by rw [if_neg (show ¬ (false = true) by decide)] at H; exact H
  clear H
  have H := H1
  clear H1
  obtain rfl := Option.some.inj H
  go_wp2
  go_ret
  exact ⟨by first | rfl | (simp [*] <;> rfl), by repeat (first | exact HB.out | apply below_alloc | apply pw_below_drewN | apply below_drew1)⟩

/-! ### spec_Height: function 19 -/
def spec_Height.f (k : Nat) (a0 : ByteArray) : Option (Int) := (spec_Steps.f k a0).bind fun bt494 => (if bt494.2 = true then (some (bt494.1.length : Int)) else (some (-1)))
theorem spec_Height.mono : ∀ a0 k, LeO (spec_Height.f k a0) (spec_Height.f (k + 1) a0) := by
 intro a0 k
 unfold spec_Height.f
 repeat' first
   | (with_reducible exact spec_Steps.mono _ _)
   | (with_reducible exact LeO.refl _)
   | (with_reducible exact LeO.none _)
   | (with_reducible refine LeO.ite ?_ ?_)
   | (with_reducible refine LeO.bind ?_ (fun _ => ?_))
   | exact spec_Steps.mono _ _
   | exact LeO.none _
   | refine LeO.ite ?_ ?_
   | refine LeO.bind ?_ (fun _ => ?_)
theorem spec_Height.calls (k : Nat) (a0 : ByteArray) (r : Int) (w : World) (h : spec_Height.f k a0 = some r) :
  Calls Tryz.prog 19 #[.string a0] w fun e w' => e = .returned (.int .i64 r) ∧ Below w.heap.size w w' := by
 have HB := Aside0.mk (Below.refl w.heap.size w)
 have H : ((spec_Steps.f k a0).bind fun bt494 => (if bt494.2 = true then (some (bt494.1.length : Int)) else (some (-1)))) = some r := h
 clear h
 replace H := Option.bind_eq_some_iff.mp H
 obtain ⟨⟨t494, t495⟩, A20, H⟩ := H
 replace H : (if t495 = true then (some (t494.length : Int)) else (some (-1))) = some r := H
 have A2 := Aside0.mk A20
 clear A20
 have HF := Aside0.mk H
 clear H
 go_enter Tryz.func19, Tryz.ntmps19
 go_upto_if 11 with (go_big_may; first | ((with_reducible refine gate_callee (f := 7) rfl ?_); refine goesL_ (some 7) rfl rfl Tryz.func7 (by kernel_rfl) rfl #[.string a0] rfl (by (try simp only [List.map_toArray, List.map_cons, List.map_nil]); first | done | rfl) ?_; (with_reducible refine (spec_Steps.calls k a0 t494 t495 _ A2.out).mono ?_); rintro e w3 ⟨v496, rfl, ho0, hb⟩; refine ⟨_, rfl, ?_⟩; have n0_ := Aside0.mk (Kd.S_lower ho0 (below_size (by repeat (first | exact HB.out | apply below_alloc | apply pw_below_drewN | apply below_drew1)))); have n1_ := Aside0.mk (below_step (by repeat (first | exact HB.out | apply below_alloc | apply pw_below_drewN | apply below_drew1)) hb); clear HB; have HO497 := n0_; have HB := n1_; clear n0_ n1_; (try clear hb); (try clear ho0)))
 have H := HF.out
 clear HF
 by_cases c4 : t495 = true
 ·subst c4
  have H1 : (some (t494.length : Int)) = some r := by rw [if_pos rfl] at H; exact H
  clear H
  have H := H1
  clear H1
  obtain rfl := Option.some.inj H
  obtain ⟨Ao5, co5, eo5⟩ := Kd.S_slice HO497.out
  subst eo5
  go_wp2
  go_ret
  exact ⟨by first | rfl | (simp [*] <;> rfl), by repeat (first | exact HB.out | apply below_alloc | apply pw_below_drewN | apply below_drew1)⟩
 ·replace c4 := Bool.eq_false_iff.mpr c4
  subst c4
  have H1 : (some (-1)) = some r := by rw [if_neg (show ¬ (false = true) by decide)] at H; exact H
  clear H
  have H := H1
  clear H1
  obtain rfl := Option.some.inj H
  go_wp2
  go_ret
  exact ⟨by first | rfl | (simp [*] <;> rfl), by repeat (first | exact HB.out | apply below_alloc | apply pw_below_drewN | apply below_drew1)⟩

/-! ### strings_LastIndexByte: function 49 -/
def strings_LastIndexByte.f (a0 : ByteArray) (a1 : Int) : Option (Int) := if a0.size < 4611686018427387904 then some (Lib.lastIndexByte a0 a1) else none
theorem strings_LastIndexByte.calls (a0 : ByteArray) (a1 : Int) (r : Int) (w : World) (h : strings_LastIndexByte.f a0 a1 = some r) :
  Calls Tryz.prog 49 #[.string a0, .int .u8 a1] w fun e w' => e = .returned (.int .i64 r) ∧ Drawn0 w w' := by
 unfold strings_LastIndexByte.f at h
 by_cases hb : a0.size < 4611686018427387904
 ·rw [if_pos hb] at h
  obtain rfl := Option.some.inj h
  refine (Tryz.strings_LastIndexByte a0 a1 hb w).mono ?_
  rintro e w' ⟨rfl, rfl⟩
  exact ⟨rfl, Drawn0.refl _⟩
 ·rw [if_neg hb] at h
  cases h

/-! ### impl_UpOf: function 20 -/
def impl_UpOf.f (k : Nat) (a0 : ByteArray) : Option (ByteArray) := (impl_NameOk.f k a0).bind fun t498 => (if t498 = true then (if a0.toList = ([] : List UInt8) then (some (⟨#[]⟩ : ByteArray)) else ((strings_LastIndexByte.f a0 47).bind fun t499 => (if 0 ≤ t499 then (if t499 ≤ (a0.size : Int) then (some (a0.extract 0 (t499 : Int).toNat)) else (none)) else (none)))) else (some (⟨#[]⟩ : ByteArray)))
theorem impl_UpOf.mono : ∀ a0 k, LeO (impl_UpOf.f k a0) (impl_UpOf.f (k + 1) a0) := by
 intro a0 k
 unfold impl_UpOf.f
 repeat' first
   | (with_reducible exact impl_NameOk.mono _ _)
   | (with_reducible exact LeO.refl _)
   | (with_reducible exact LeO.none _)
   | (with_reducible refine LeO.ite ?_ ?_)
   | (with_reducible refine LeO.bind ?_ (fun _ => ?_))
   | exact impl_NameOk.mono _ _
   | exact LeO.none _
   | refine LeO.ite ?_ ?_
   | refine LeO.bind ?_ (fun _ => ?_)
theorem impl_UpOf.calls (k : Nat) (a0 : ByteArray) (r : ByteArray) (w : World) (hL : LaidW w) (h : impl_UpOf.f k a0 = some r) :
  Calls Tryz.prog 20 #[.string a0] w fun e w' => e = .returned (.string r) ∧ Below w.heap.size w w' := by
 have HL0 := Aside0.mk hL
 clear hL
 have HB := Aside0.mk (Below.refl w.heap.size w)
 have H : ((impl_NameOk.f k a0).bind fun t498 => (if t498 = true then (if a0.toList = ([] : List UInt8) then (some (⟨#[]⟩ : ByteArray)) else ((strings_LastIndexByte.f a0 47).bind fun t499 => (if 0 ≤ t499 then (if t499 ≤ (a0.size : Int) then (some (a0.extract 0 (t499 : Int).toNat)) else (none)) else (none)))) else (some (⟨#[]⟩ : ByteArray)))) = some r := h
 clear h
 replace H := Option.bind_eq_some_iff.mp H
 obtain ⟨t498, A20, H⟩ := H
 replace H : (if t498 = true then (if a0.toList = ([] : List UInt8) then (some (⟨#[]⟩ : ByteArray)) else ((strings_LastIndexByte.f a0 47).bind fun t499 => (if 0 ≤ t499 then (if t499 ≤ (a0.size : Int) then (some (a0.extract 0 (t499 : Int).toNat)) else (none)) else (none)))) else (some (⟨#[]⟩ : ByteArray))) = some r := H
 have A2 := Aside0.mk A20
 clear A20
 by_cases c3 : t498 = true
 ·subst c3
  have H1 : (if a0.toList = ([] : List UInt8) then (some (⟨#[]⟩ : ByteArray)) else ((strings_LastIndexByte.f a0 47).bind fun t499 => (if 0 ≤ t499 then (if t499 ≤ (a0.size : Int) then (some (a0.extract 0 (t499 : Int).toNat)) else (none)) else (none)))) = some r := by rw [if_pos rfl] at H; exact H
  clear H
  have H := H1
  clear H1
  have HF := Aside0.mk H
  clear H
  go_enter Tryz.func20, Tryz.ntmps20
  go_upto_if 9 with (go_big_may; first | ((with_reducible refine gate_callee (f := 12) rfl ?_); refine goesL_ (some 4) rfl rfl Tryz.func12 (by kernel_rfl) rfl #[.string a0] rfl (by (try simp only [List.map_toArray, List.map_cons, List.map_nil]); first | done | rfl) ?_; (with_reducible refine (impl_NameOk.calls k a0 true _ ?side1 A2.out).mono ?_); (case side1 => exact LaidW.below HL0.out (by repeat (first | exact HB.out | apply below_alloc | apply pw_below_drewN | apply below_drew1))); rintro e w4 ⟨rfl, hb⟩; refine ⟨_, rfl, ?_⟩; have n0_ := Aside0.mk (below_step (by repeat (first | exact HB.out | apply below_alloc | apply pw_below_drewN | apply below_drew1)) hb); clear HB; have HB := n0_; clear n0_; (try clear hb)))
  have H := HF.out
  clear HF
  by_cases c5 : a0.toList = ([] : List UInt8)
  ·rw [if_pos c5] at H
   have c5b0 : (a0.toList == ([] : List UInt8)) = true := beq_iff_eq.mpr c5
   have c5b8 : (a0.toList).isEmpty = true := List.isEmpty_iff.2 c5
   have c5b1 : (a0.toList != ([] : List UInt8)) = false := bne_eq_false_iff_eq.mpr c5
   clear c5
   (first | rw [c5b8] | rw [c5b0] | (simp only [i64_w, i32_w]; rw [c5b0]) | skip)
   obtain rfl := Option.some.inj H
   go_wp2
   go_ret
   exact ⟨by first | rfl | (simp [*] <;> rfl), by repeat (first | exact HB.out | apply below_alloc | apply pw_below_drewN | apply below_drew1)⟩
  ·rw [if_neg c5] at H
   have c5b0 : (a0.toList == ([] : List UInt8)) = false := beq_eq_false_iff_ne.mpr c5
   have c5b8 : (a0.toList).isEmpty = false := Bool.eq_false_iff.2 (fun h_ => c5 (List.isEmpty_iff.1 h_))
   have c5b1 : (a0.toList != ([] : List UInt8)) = true := bne_iff_ne.mpr c5
   (first | rw [c5b8] | rw [c5b0] | (simp only [i64_w, i32_w]; rw [c5b0]) | skip)
   replace H := Option.bind_eq_some_iff.mp H
   obtain ⟨t499, A60, H⟩ := H
   replace H : (if 0 ≤ t499 then (if t499 ≤ (a0.size : Int) then (some (a0.extract 0 (t499 : Int).toNat)) else (none)) else (none)) = some r := H
   have A6 := Aside0.mk A60
   clear A60
   by_cases c7 : 0 ≤ t499
   ·rw [if_pos c7] at H
    have c7b0 := eq_true c7
    have c7b1 : decide (0 ≤ t499) = true := decide_eq_true c7
    clear c7
    by_cases c8 : t499 ≤ (a0.size : Int)
    ·rw [if_pos c8] at H
     have c8b0 := eq_true c8
     have c8b1 : decide (t499 ≤ (a0.size : Int)) = true := decide_eq_true c8
     clear c8
     obtain rfl := Option.some.inj H
     go_wp2_with (first | ((with_reducible refine gate_callee (f := 49) rfl ?_); refine goesL_ (some 12) rfl rfl Tryz.func49 (by kernel_rfl) rfl #[.string a0, .int .u8 47] rfl (by (try simp only [List.map_toArray, List.map_cons, List.map_nil]); first | done | rfl) ?_; (with_reducible refine (strings_LastIndexByte.calls a0 47 t499 _ A6.out).mono ?_); rintro e w' ⟨rfl, ⟨nd, rfl⟩⟩; refine ⟨_, rfl, ?_⟩))
     go_ret
     exact ⟨by first | rfl | (simp [*] <;> rfl), by repeat (first | exact HB.out | apply below_alloc | apply pw_below_drewN | apply below_drew1)⟩
    ·rw [if_neg c8] at H
     exact absurd H (by simp)
   ·rw [if_neg c7] at H
    exact absurd H (by simp)
 ·replace c3 := Bool.eq_false_iff.mpr c3
  subst c3
  have H1 : (some (⟨#[]⟩ : ByteArray)) = some r := by rw [if_neg (show ¬ (false = true) by decide)] at H; exact H
  clear H
  have H := H1
  clear H1
  obtain rfl := Option.some.inj H
  go_enter Tryz.func20, Tryz.ntmps20
  go_wp2_with (first | ((with_reducible refine gate_callee (f := 12) rfl ?_); refine goesL_ (some 4) rfl rfl Tryz.func12 (by kernel_rfl) rfl #[.string a0] rfl (by (try simp only [List.map_toArray, List.map_cons, List.map_nil]); first | done | rfl) ?_; (with_reducible refine (impl_NameOk.calls k a0 false _ ?side1 A2.out).mono ?_); (case side1 => exact LaidW.below HL0.out (by repeat (first | exact HB.out | apply below_alloc | apply pw_below_drewN | apply below_drew1))); rintro e w9 ⟨rfl, hb⟩; refine ⟨_, rfl, ?_⟩; have n0_ := Aside0.mk (below_step (by repeat (first | exact HB.out | apply below_alloc | apply pw_below_drewN | apply below_drew1)) hb); clear HB; have HB := n0_; clear n0_; (try clear hb)))
  go_ret
  exact ⟨by first | rfl | (simp [*] <;> rfl), by repeat (first | exact HB.out | apply below_alloc | apply pw_below_drewN | apply below_drew1)⟩

end Go.Proofs.YtbecffgalndagaaGreatDoor.PFnNames
