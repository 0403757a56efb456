/- Walks of the functions that a law of seat Ytajblkfgdalldaa reaches, each against a Lean function, printed by this session's wip/myprint.py; no condition of their own. -/
import Derived.Test.YtajblkfgdalldaaH
import Derived.Test.YtajblkfgdalldaaPFnLedgersx0
import Derived.Test.YtajblkfgdalldaaPFnLedgersx1
import Derived.Test.YtajblkfgdalldaaPFnLedgersx2
namespace Go.Proofs.Ytajblkfgdalldaa.PFnLedgers
open Go.RowKit Go.Proofs.YtajblkfgdalldaaW.PrintWords Go.Proofs.YtajblkfgdalldaaW.PrintLast Go.Proofs.YtajblkfgdalldaaW.PrintMore
attribute [local go_sem] max2_int min2_int max_two min_two max_three min_three max_four min_four   -- for this text's walks alone
set_option linter.unusedVariables false
set_option linter.unusedSimpArgs false

/-! ### spec_TxOk: function 56 -/
def spec_TxOk.f (a0_0 : Int) (a0_1 : Int) (a0_2 : Int) (a0_3 : Int) : Option (Bool) := (spec_l1In.f a0_0 0 3).bind fun t149 => (if t149 = true then ((spec_l1In.f a0_1 0 3).bind fun t150 => (if t150 = true then ((spec_l1In.f a0_2 0 1000).bind fun t151 => (if t151 = true then ((spec_l1In.f a0_3 0 99).bind fun t152 => (some t152)) else (some false))) else (some false))) else (some false))
set_option maxHeartbeats 8000000 in
set_option maxRecDepth 100000 in
theorem spec_TxOk.calls (a0_0 : Int) (a0_1 : Int) (a0_2 : Int) (a0_3 : Int) (r : Bool) (w : World) (h : spec_TxOk.f a0_0 a0_1 a0_2 a0_3 = some r) :
    Calls Try.prog 56 #[.agg #[.int .i64 a0_0, .int .i64 a0_1, .int .i64 a0_2, .int .i64 a0_3]] w fun e w' => e = .returned (.bool r) ∧ Below w.heap.size w w' := by
  have hu45 := Try.underlying45
  have HB := Aside0.mk (Below.refl w.heap.size w)
  have H : ((spec_l1In.f a0_0 0 3).bind fun t149 => (if t149 = true then ((spec_l1In.f a0_1 0 3).bind fun t150 => (if t150 = true then ((spec_l1In.f a0_2 0 1000).bind fun t151 => (if t151 = true then ((spec_l1In.f a0_3 0 99).bind fun t152 => (some t152)) else (some false))) else (some false))) else (some false))) = some r := h
  clear h
  replace H := Option.bind_eq_some_iff.mp H
  obtain ⟨t149, A20, H⟩ := H
  replace H : (if t149 = true then ((spec_l1In.f a0_1 0 3).bind fun t150 => (if t150 = true then ((spec_l1In.f a0_2 0 1000).bind fun t151 => (if t151 = true then ((spec_l1In.f a0_3 0 99).bind fun t152 => (some t152)) else (some false))) else (some false))) else (some false)) = some r := H
  have A2 := Aside0.mk A20
  clear A20
  by_cases c3 : t149 = true
  · subst c3
    have H1 : ((spec_l1In.f a0_1 0 3).bind fun t150 => (if t150 = true then ((spec_l1In.f a0_2 0 1000).bind fun t151 => (if t151 = true then ((spec_l1In.f a0_3 0 99).bind fun t152 => (some t152)) else (some false))) else (some false))) = some r := by rw [if_pos rfl] at H; exact H
    clear H
    have H := H1
    clear H1
    replace H := Option.bind_eq_some_iff.mp H
    obtain ⟨t150, A40, H⟩ := H
    replace H : (if t150 = true then ((spec_l1In.f a0_2 0 1000).bind fun t151 => (if t151 = true then ((spec_l1In.f a0_3 0 99).bind fun t152 => (some t152)) else (some false))) else (some false)) = some r := H
    have A4 := Aside0.mk A40
    clear A40
    by_cases c5 : t150 = true
    · subst c5
      have H1 : ((spec_l1In.f a0_2 0 1000).bind fun t151 => (if t151 = true then ((spec_l1In.f a0_3 0 99).bind fun t152 => (some t152)) else (some false))) = some r := by rw [if_pos rfl] at H; exact H
      clear H
      have H := H1
      clear H1
      replace H := Option.bind_eq_some_iff.mp H
      obtain ⟨t151, A60, H⟩ := H
      replace H : (if t151 = true then ((spec_l1In.f a0_3 0 99).bind fun t152 => (some t152)) else (some false)) = some r := H
      have A6 := Aside0.mk A60
      clear A60
      by_cases c7 : t151 = true
      · subst c7
        have H1 : ((spec_l1In.f a0_3 0 99).bind fun t152 => (some t152)) = some r := by rw [if_pos rfl] at H; exact H
        clear H
        have H := H1
        clear H1
        replace H := Option.bind_eq_some_iff.mp H
        obtain ⟨t152, A80, H⟩ := H
        replace H : (some t152) = some r := H
        have A8 := Aside0.mk A80
        clear A80
        obtain rfl := Option.some.inj H
        go_enter Try.func56, Try.ntmps56
        go_wp2_with (first | ((with_reducible refine gate_dst (N := 1) rfl ?_); refine box_event ?hg (N := 1) ?hd (cs := #[.int .i64 a0_0, .int .i64 a0_1, .int .i64 a0_2, .int .i64 a0_3]) (t := 45) ?hr ?_; (case hd => rfl); (case hg => rfl); (case hr => first | (go_simp; done) | (go_simp; rfl)); intro gb148 hg w9 hbox hb; have n0_ := Aside0.mk (below_step (by repeat (first | (with_reducible first | exact HB.out | apply below_alloc | apply pw_below_drewN | apply below_drew1) | exact HB.out)) hb); have n1_ := Aside0.mk (hbox); have n2_ := Aside0.mk ((by rw [hg]; exact (below_size (by repeat (first | (with_reducible first | exact HB.out | apply below_alloc | apply pw_below_drewN | apply below_drew1) | exact HB.out))) : w.heap.size ≤ gb148)); have n3_ := Aside0.mk ((by rw [hg]; exact (below_size (by repeat (first | (with_reducible first | exact HB.out | apply below_alloc | apply pw_below_drewN | apply below_drew1) | exact HB.out))) : w.heap.size ≤ gb148)); clear HB; have HB := n0_; have BK148 := n1_; have GW148 := n2_; have GE148 := n3_; clear n0_ n1_ n2_ n3_; clear hb hbox hg; have hcz10_0 : w9.cell? ⟨gb148, 0, none⟩ = some (.int .i64 a0_0) := (blk_cell BK148.out 0).trans rfl; have hcz10_1 : w9.cell? ⟨gb148, 1, none⟩ = some (.int .i64 a0_1) := (blk_cell BK148.out 1).trans rfl; have hcz10_2 : w9.cell? ⟨gb148, 2, none⟩ = some (.int .i64 a0_2) := (blk_cell BK148.out 2).trans rfl; have hcz10_3 : w9.cell? ⟨gb148, 3, none⟩ = some (.int .i64 a0_3) := (blk_cell BK148.out 3).trans rfl; have hfz10_0 := blk_frozen BK148.out 0; have hfz10_1 := blk_frozen BK148.out 1; have hfz10_2 := blk_frozen BK148.out 2; have hfz10_3 := blk_frozen BK148.out 3) | ((with_reducible refine gate_callee (f := 54) rfl ?_); refine goesL_ (some 5) rfl rfl Try.func54 (by kernel_rfl) rfl #[.int .i64 a0_0, .int .i64 0, .int .i64 3] rfl (by (try simp only [List.map_toArray, List.map_cons, List.map_nil]); first | done | rfl | (simp only [List.length_drop, List.length_take]; rfl)) ?_; (with_reducible refine (spec_l1In.calls a0_0 0 3 true _ A2.out).mono ?_); rintro e w' ⟨rfl, ⟨nd, rfl⟩⟩; refine ⟨_, rfl, ?_⟩) | (go_at_call 54; (with_reducible refine (spec_l1In.calls a0_1 0 3 true _ A4.out).mono ?_); rintro e w' ⟨rfl, ⟨nd, rfl⟩⟩) | (go_at_call 54; (with_reducible refine (spec_l1In.calls a0_2 0 1000 true _ A6.out).mono ?_); rintro e w' ⟨rfl, ⟨nd, rfl⟩⟩) | (go_at_call 54; (with_reducible refine (spec_l1In.calls a0_3 0 99 t152 _ A8.out).mono ?_); rintro e w' ⟨rfl, ⟨nd, rfl⟩⟩))
        go_ret
        exact ⟨by first | rfl | (simp [errW_none, errW_some] <;> rfl) | (simp [*, errW_none, errW_some] <;> rfl), by repeat (first | (with_reducible first | exact HB.out | apply below_alloc | apply pw_below_drewN | apply below_drew1 | refine below_set ?_ GE148.out) | exact HB.out)⟩
      · replace c7 := Bool.eq_false_iff.mpr c7
        subst c7
        have H1 : (some false) = some r := by rw [if_neg (show ¬ (false = true) by decide)] at H; exact H
        clear H
        have H := H1
        clear H1
        obtain rfl := Option.some.inj H
        go_enter Try.func56, Try.ntmps56
        go_wp2_with (first | ((with_reducible refine gate_dst (N := 1) rfl ?_); refine box_event ?hg (N := 1) ?hd (cs := #[.int .i64 a0_0, .int .i64 a0_1, .int .i64 a0_2, .int .i64 a0_3]) (t := 45) ?hr ?_; (case hd => rfl); (case hg => rfl); (case hr => first | (go_simp; done) | (go_simp; rfl)); intro gb148 hg w11 hbox hb; have n0_ := Aside0.mk (below_step (by repeat (first | (with_reducible first | exact HB.out | apply below_alloc | apply pw_below_drewN | apply below_drew1) | exact HB.out)) hb); have n1_ := Aside0.mk (hbox); have n2_ := Aside0.mk ((by rw [hg]; exact (below_size (by repeat (first | (with_reducible first | exact HB.out | apply below_alloc | apply pw_below_drewN | apply below_drew1) | exact HB.out))) : w.heap.size ≤ gb148)); have n3_ := Aside0.mk ((by rw [hg]; exact (below_size (by repeat (first | (with_reducible first | exact HB.out | apply below_alloc | apply pw_below_drewN | apply below_drew1) | exact HB.out))) : w.heap.size ≤ gb148)); clear HB; have HB := n0_; have BK148 := n1_; have GW148 := n2_; have GE148 := n3_; clear n0_ n1_ n2_ n3_; clear hb hbox hg; have hcz12_0 : w11.cell? ⟨gb148, 0, none⟩ = some (.int .i64 a0_0) := (blk_cell BK148.out 0).trans rfl; have hcz12_1 : w11.cell? ⟨gb148, 1, none⟩ = some (.int .i64 a0_1) := (blk_cell BK148.out 1).trans rfl; have hcz12_2 : w11.cell? ⟨gb148, 2, none⟩ = some (.int .i64 a0_2) := (blk_cell BK148.out 2).trans rfl; have hcz12_3 : w11.cell? ⟨gb148, 3, none⟩ = some (.int .i64 a0_3) := (blk_cell BK148.out 3).trans rfl; have hfz12_0 := blk_frozen BK148.out 0; have hfz12_1 := blk_frozen BK148.out 1; have hfz12_2 := blk_frozen BK148.out 2; have hfz12_3 := blk_frozen BK148.out 3) | ((with_reducible refine gate_callee (f := 54) rfl ?_); refine goesL_ (some 5) rfl rfl Try.func54 (by kernel_rfl) rfl #[.int .i64 a0_0, .int .i64 0, .int .i64 3] rfl (by (try simp only [List.map_toArray, List.map_cons, List.map_nil]); first | done | rfl | (simp only [List.length_drop, List.length_take]; rfl)) ?_; (with_reducible refine (spec_l1In.calls a0_0 0 3 true _ A2.out).mono ?_); rintro e w' ⟨rfl, ⟨nd, rfl⟩⟩; refine ⟨_, rfl, ?_⟩) | (go_at_call 54; (with_reducible refine (spec_l1In.calls a0_1 0 3 true _ A4.out).mono ?_); rintro e w' ⟨rfl, ⟨nd, rfl⟩⟩) | (go_at_call 54; (with_reducible refine (spec_l1In.calls a0_2 0 1000 false _ A6.out).mono ?_); rintro e w' ⟨rfl, ⟨nd, rfl⟩⟩))
        go_ret
        exact ⟨by first | rfl | (simp [errW_none, errW_some] <;> rfl) | (simp [*, errW_none, errW_some] <;> rfl), by repeat (first | (with_reducible first | exact HB.out | apply below_alloc | apply pw_below_drewN | apply below_drew1 | refine below_set ?_ GE148.out) | exact HB.out)⟩
    · replace c5 := Bool.eq_false_iff.mpr c5
      subst c5
      have H1 : (some false) = some r := by rw [if_neg (show ¬ (false = true) by decide)] at H; exact H
      clear H
      have H := H1
      clear H1
      obtain rfl := Option.some.inj H
      go_enter Try.func56, Try.ntmps56
      go_wp2_with (first | ((with_reducible refine gate_dst (N := 1) rfl ?_); refine box_event ?hg (N := 1) ?hd (cs := #[.int .i64 a0_0, .int .i64 a0_1, .int .i64 a0_2, .int .i64 a0_3]) (t := 45) ?hr ?_; (case hd => rfl); (case hg => rfl); (case hr => first | (go_simp; done) | (go_simp; rfl)); intro gb148 hg w13 hbox hb; have n0_ := Aside0.mk (below_step (by repeat (first | (with_reducible first | exact HB.out | apply below_alloc | apply pw_below_drewN | apply below_drew1) | exact HB.out)) hb); have n1_ := Aside0.mk (hbox); have n2_ := Aside0.mk ((by rw [hg]; exact (below_size (by repeat (first | (with_reducible first | exact HB.out | apply below_alloc | apply pw_below_drewN | apply below_drew1) | exact HB.out))) : w.heap.size ≤ gb148)); have n3_ := Aside0.mk ((by rw [hg]; exact (below_size (by repeat (first | (with_reducible first | exact HB.out | apply below_alloc | apply pw_below_drewN | apply below_drew1) | exact HB.out))) : w.heap.size ≤ gb148)); clear HB; have HB := n0_; have BK148 := n1_; have GW148 := n2_; have GE148 := n3_; clear n0_ n1_ n2_ n3_; clear hb hbox hg; have hcz14_0 : w13.cell? ⟨gb148, 0, none⟩ = some (.int .i64 a0_0) := (blk_cell BK148.out 0).trans rfl; have hcz14_1 : w13.cell? ⟨gb148, 1, none⟩ = some (.int .i64 a0_1) := (blk_cell BK148.out 1).trans rfl; have hcz14_2 : w13.cell? ⟨gb148, 2, none⟩ = some (.int .i64 a0_2) := (blk_cell BK148.out 2).trans rfl; have hcz14_3 : w13.cell? ⟨gb148, 3, none⟩ = some (.int .i64 a0_3) := (blk_cell BK148.out 3).trans rfl; have hfz14_0 := blk_frozen BK148.out 0; have hfz14_1 := blk_frozen BK148.out 1; have hfz14_2 := blk_frozen BK148.out 2; have hfz14_3 := blk_frozen BK148.out 3) | ((with_reducible refine gate_callee (f := 54) rfl ?_); refine goesL_ (some 5) rfl rfl Try.func54 (by kernel_rfl) rfl #[.int .i64 a0_0, .int .i64 0, .int .i64 3] rfl (by (try simp only [List.map_toArray, List.map_cons, List.map_nil]); first | done | rfl | (simp only [List.length_drop, List.length_take]; rfl)) ?_; (with_reducible refine (spec_l1In.calls a0_0 0 3 true _ A2.out).mono ?_); rintro e w' ⟨rfl, ⟨nd, rfl⟩⟩; refine ⟨_, rfl, ?_⟩) | (go_at_call 54; (with_reducible refine (spec_l1In.calls a0_1 0 3 false _ A4.out).mono ?_); rintro e w' ⟨rfl, ⟨nd, rfl⟩⟩))
      go_ret
      exact ⟨by first | rfl | (simp [errW_none, errW_some] <;> rfl) | (simp [*, errW_none, errW_some] <;> rfl), by repeat (first | (with_reducible first | exact HB.out | apply below_alloc | apply pw_below_drewN | apply below_drew1 | refine below_set ?_ GE148.out) | exact HB.out)⟩
  · replace c3 := Bool.eq_false_iff.mpr c3
    subst c3
    have H1 : (some false) = some r := by rw [if_neg (show ¬ (false = true) by decide)] at H; exact H
    clear H
    have H := H1
    clear H1
    obtain rfl := Option.some.inj H
    go_enter Try.func56, Try.ntmps56
    go_wp2_with (first | ((with_reducible refine gate_dst (N := 1) rfl ?_); refine box_event ?hg (N := 1) ?hd (cs := #[.int .i64 a0_0, .int .i64 a0_1, .int .i64 a0_2, .int .i64 a0_3]) (t := 45) ?hr ?_; (case hd => rfl); (case hg => rfl); (case hr => first | (go_simp; done) | (go_simp; rfl)); intro gb148 hg w15 hbox hb; have n0_ := Aside0.mk (below_step (by repeat (first | (with_reducible first | exact HB.out | apply below_alloc | apply pw_below_drewN | apply below_drew1) | exact HB.out)) hb); have n1_ := Aside0.mk (hbox); have n2_ := Aside0.mk ((by rw [hg]; exact (below_size (by repeat (first | (with_reducible first | exact HB.out | apply below_alloc | apply pw_below_drewN | apply below_drew1) | exact HB.out))) : w.heap.size ≤ gb148)); have n3_ := Aside0.mk ((by rw [hg]; exact (below_size (by repeat (first | (with_reducible first | exact HB.out | apply below_alloc | apply pw_below_drewN | apply below_drew1) | exact HB.out))) : w.heap.size ≤ gb148)); clear HB; have HB := n0_; have BK148 := n1_; have GW148 := n2_; have GE148 := n3_; clear n0_ n1_ n2_ n3_; clear hb hbox hg; have hcz16_0 : w15.cell? ⟨gb148, 0, none⟩ = some (.int .i64 a0_0) := (blk_cell BK148.out 0).trans rfl; have hcz16_1 : w15.cell? ⟨gb148, 1, none⟩ = some (.int .i64 a0_1) := (blk_cell BK148.out 1).trans rfl; have hcz16_2 : w15.cell? ⟨gb148, 2, none⟩ = some (.int .i64 a0_2) := (blk_cell BK148.out 2).trans rfl; have hcz16_3 : w15.cell? ⟨gb148, 3, none⟩ = some (.int .i64 a0_3) := (blk_cell BK148.out 3).trans rfl; have hfz16_0 := blk_frozen BK148.out 0; have hfz16_1 := blk_frozen BK148.out 1; have hfz16_2 := blk_frozen BK148.out 2; have hfz16_3 := blk_frozen BK148.out 3) | ((with_reducible refine gate_callee (f := 54) rfl ?_); refine goesL_ (some 5) rfl rfl Try.func54 (by kernel_rfl) rfl #[.int .i64 a0_0, .int .i64 0, .int .i64 3] rfl (by (try simp only [List.map_toArray, List.map_cons, List.map_nil]); first | done | rfl | (simp only [List.length_drop, List.length_take]; rfl)) ?_; (with_reducible refine (spec_l1In.calls a0_0 0 3 false _ A2.out).mono ?_); rintro e w' ⟨rfl, ⟨nd, rfl⟩⟩; refine ⟨_, rfl, ?_⟩))
    go_ret
    exact ⟨by first | rfl | (simp [errW_none, errW_some] <;> rfl) | (simp [*, errW_none, errW_some] <;> rfl), by repeat (first | (with_reducible first | exact HB.out | apply below_alloc | apply pw_below_drewN | apply below_drew1 | refine below_set ?_ GE148.out) | exact HB.out)⟩

/-! ### spec_Pay: function 34 -/
-- included common.lean
theorem up1 (n : Nat) (h : n < 4611686018427387904) : wrap64 ((n : Int) + 1) = ((n + 1 : Nat) : Int) := by
  unfold wrap64; omega
theorem up1' (a : Int) (h0 : -4611686018427387904 ≤ a) (h : a < 4611686018427387904) : wrap64 (a + 1) = a + 1 := by
  unfold wrap64; omega
theorem dn1 (a : Int) (h0 : -4611686018427387904 ≤ a) (h : a < 4611686018427387904) : wrap64 (a - 1) = a - 1 := by
  unfold wrap64; omega
theorem wrapI (a : Int) (h0 : -4611686018427387904 ≤ a) (h : a < 4611686018427387904) : wrap64 a = a := by
  unfold wrap64; omega
theorem rd_nat (xs : List Int) (n : Nat) (h : n < xs.length) : rd xs (n : Int) = xs[n] := by
  unfold rd; simp [List.getD_eq_getElem?_getD, h]
theorem ev_eq {α : Type} {g : Nat → Option α} {r s : α} (h : Ev g r) (e : r = s) : Ev g s := e ▸ h
theorem ev_ite {α : Type} {c : Prop} [Decidable c] {g f : Nat → Option α} {r s : α} (hg : c → Ev g r) (hf : ¬ c → Ev f s) : Ev (fun k => if c then g k else f k) (if c then r else s) := by
  by_cases h : c
  · simp only [if_pos h]; exact hg h
  · simp only [if_neg h]; exact hf h
theorem ev_pos {α : Type} {c : Prop} [Decidable c] {g f : Nat → Option α} {r : α} (h : c) (hg : Ev g r) : Ev (fun k => if c then g k else f k) r := by
  simp only [if_pos h]; exact hg
theorem ev_neg {α : Type} {c : Prop} [Decidable c] {g f : Nat → Option α} {r : α} (h : ¬ c) (hf : Ev f r) : Ev (fun k => if c then g k else f k) r := by
  simp only [if_neg h]; exact hf
theorem ev_some {α : Type} {r s : α} (e : r = s) : Ev (fun _ => some r) s := e ▸ Ev.now r
theorem ev_const {α β : Type} {o : Option α} {f : Nat → α → Option β} {a : α} {r : β} (h : o = some a) (k : Ev (fun n => f n a) r) : Ev (fun n => o.bind (f n)) r := by
  subst h; exact k
theorem ev_up {α : Type} {g : Nat → Option α} {r : α} (h : Ev (fun k => g (k + 1)) r) : Ev g r := by
  obtain ⟨K, hK⟩ := h
  refine ⟨K + 1, fun k hk => ?_⟩
  obtain ⟨m, rfl⟩ : ∃ m, k = m + 1 := ⟨k - 1, by omega⟩
  exact hK m (by omega)
theorem wNat (c : Nat) (h : c < 4611686018427387904) : wrap64 (c : Int) = (c : Int) := by unfold wrap64; omega
theorem wAdd (a i : Nat) (h : a + i < 4611686018427387904) : wrap64 ((a : Int) + (i : Int)) = ((a + i : Nat) : Int) := by unfold wrap64; omega
theorem wAdd1 (a i : Nat) (h : a + i < 4611686018427387904) : wrap64 (((a + i : Nat) : Int) + 1) = (a : Int) + ((i + 1 : Nat) : Int) := by unfold wrap64; omega
theorem wSub (a i : Nat) (h : a < 4611686018427387904) (h' : i < 4611686018427387904) : wrap64 ((a : Int) - (i : Int)) = (a : Int) - (i : Int) := by unfold wrap64; omega
theorem tmod128 (c : Nat) : Int.tmod (c : Int) 128 = ((c % 128 : Nat) : Int) := by rw [Int.tmod_eq_emod_of_nonneg (by omega)]; omega
theorem all_drop {α : Type} {P : α → Prop} {l : List α} {i : Nat} (h : i < l.length) : (∀ x ∈ l.drop i, P x) ↔ P l[i] ∧ ∀ x ∈ l.drop (i + 1), P x := by
  rw [List.drop_eq_getElem_cons h, List.forall_mem_cons]
-- included spec_l1In.lean
theorem spec_l1In_val (a b c : Int) : spec_l1In.f a b c = some (decide (b ≤ a ∧ a ≤ c)) := by
  unfold spec_l1In.f
  by_cases h : a ≥ b <;> by_cases h2 : a ≤ c <;> simp [h, h2] <;> omega
-- included spec_l3Copy.lean
theorem spec_l3Copy_val (h n : List Int) (b1 : h.length ≤ 1048576) (b2 : n.length ≤ 1048576) : spec_l3Copy.f h n = some (h, n) := by
  unfold spec_l3Copy.f
  simp only [Option.bind_some, List.length_nil, List.nil_append]
  rw [if_pos (by omega), if_pos (by omega)]
-- included spec_LedgerOk.lean
-- included ledger.inc
def ledgerIs (h n : List Int) : Prop := (h.length = 4 ∧ n.length = 4) ∧ (∀ x ∈ h, 0 ≤ x ∧ x ≤ 400) ∧ ∀ x ∈ n, 0 ≤ x ∧ x ≤ 100
instance (h n : List Int) : Decidable (ledgerIs h n) := by unfold ledgerIs; infer_instance
theorem spec_LedgerOk_loop (h n : List Int) (hh : h.length = 4) (hn : n.length = 4) : ∀ (d i : Nat), i + d = 4 → Ev (fun k => spec_LedgerOk.l0 k (i : Int) h n) (decide ((∀ x ∈ h.drop i, 0 ≤ x ∧ x ≤ 400) ∧ ∀ x ∈ n.drop i, 0 ≤ x ∧ x ≤ 100)) := by
  intro d
  induction d with
  | zero =>
    intro i hi
    refine Ev.step (f := fun _ => some true) (fun k => by simp only [spec_LedgerOk.l0]; rw [if_neg (by omega)]) (ev_some ?_)
    rw [List.drop_of_length_le (by omega), List.drop_of_length_le (by omega)]; simp
  | succ d ih =>
    intro i hi
    have h1 : i < h.length := by omega
    have h2 : i < n.length := by omega
    refine Ev.step (f := fun k => (spec_l1In.f h[i] 0 400).bind fun t => if t = true then ((spec_l1In.f n[i] 0 100).bind fun u => if u = true then spec_LedgerOk.l0 k ((i + 1 : Nat) : Int) h n else some false) else some false) (fun k => by simp only [spec_LedgerOk.l0]; rw [if_pos (by omega), if_pos (by omega), if_pos (by omega), if_pos (by omega), rd_nat h i h1, rd_nat n i h2, up1 i (by omega)]) ?_
    refine ev_const (spec_l1In_val _ _ _) ?_
    by_cases c1 : 0 ≤ h[i] ∧ h[i] ≤ 400
    · refine ev_pos (by simpa using c1) (ev_const (spec_l1In_val _ _ _) ?_)
      by_cases c2 : 0 ≤ n[i] ∧ n[i] ≤ 100
      · exact ev_pos (by simpa using c2) (ev_eq (ih (i + 1) (by omega)) (decide_eq_decide.mpr (by rw [all_drop h1, all_drop h2]; exact ⟨fun z => ⟨⟨c1, z.1⟩, c2, z.2⟩, fun z => ⟨z.1.2, z.2.2⟩⟩)))
      · exact ev_neg (by simpa using c2) (ev_some (decide_eq_false (by rw [all_drop h2]; exact fun z => c2 z.2.1)).symm)
    · exact ev_neg (by simpa using c1) (ev_some (decide_eq_false (by rw [all_drop h1]; exact fun z => c1 z.1.1)).symm)
theorem spec_LedgerOk_ev (h n : List Int) : Ev (fun k => spec_LedgerOk.f k h n) (decide (ledgerIs h n)) := by
  unfold spec_LedgerOk.f ledgerIs
  have tr : ∀ b : Bool, b = true → Ev (fun k => spec_LedgerOk.j0 k b h n) false := fun b hb => Ev.step (f := fun _ => some false) (fun k => by simp only [spec_LedgerOk.j0]; rw [if_pos hb]) (ev_some rfl)
  by_cases hh : h.length = 4
  · refine ev_pos (by omega) ?_
    by_cases hn : n.length = 4
    · rw [show ((n.length : Int) != 4) = false by simp; omega]
      refine Ev.step (f := fun k => spec_LedgerOk.l0 k 0 h n) (fun k => by simp only [spec_LedgerOk.j0]; rw [if_neg (by decide)]) ?_
      refine ev_eq (spec_LedgerOk_loop h n hh hn 4 0 rfl) (decide_eq_decide.mpr ?_)
      simp [hh, hn]
    · exact ev_eq (tr _ (by simp; omega)) (decide_eq_false (fun z => hn z.1.2)).symm
  · exact ev_neg (by omega) (ev_eq (tr true rfl) (decide_eq_false (fun z => hh z.1.1)).symm)
-- included spec_TxOk.lean
-- included txis.inc
def txIs (f t a n : Int) : Prop := (0 ≤ f ∧ f ≤ 3) ∧ (0 ≤ t ∧ t ≤ 3) ∧ (0 ≤ a ∧ a ≤ 1000) ∧ 0 ≤ n ∧ n ≤ 99
instance (f t a n : Int) : Decidable (txIs f t a n) := by unfold txIs; infer_instance
theorem spec_TxOk_val (f t a n : Int) : spec_TxOk.f f t a n = some (decide (txIs f t a n)) := by
  unfold spec_TxOk.f txIs
  simp only [spec_l1In_val, Option.bind_some, decide_eq_true_eq]
  by_cases h1 : 0 ≤ f ∧ f ≤ 3 <;> by_cases h2 : 0 ≤ t ∧ t ≤ 3 <;> by_cases h3 : 0 ≤ a ∧ a ≤ 1000 <;> simp only [h1, h2, h3, if_true, if_false, true_and, false_and, and_false, and_self, decide_false]
-- included pay.inc
def mvL (h : List Int) (f t a : Int) : List Int := (h.set f.toNat (wrap64 (rd h f - a))).set t.toNat (wrap64 (rd (h.set f.toNat (wrap64 (rd h f - a))) t + a))
def payL (h n : List Int) (f t a m : Int) : List Int × List Int × Int :=
  if ¬ (ledgerIs h n ∧ txIs f t a m) then (h, n, 1) else if m < rd n f then (h, n, 2) else if m > rd n f then (h, n, 3) else if a > rd h f then (h, n.set f.toNat (wrap64 (m + 1)), 4) else if ledgerIs (mvL h f t a) (n.set f.toNat (wrap64 (m + 1))) then (mvL h f t a, n.set f.toNat (wrap64 (m + 1)), 0) else (h, n, 1)
-- included sl_ledger.inc
theorem wrapEq (x : Int) : IntKind.i64.wrap x = wrap64 x := by rw [IntKind.wrap_i64]; unfold wrap64; rfl
theorem mvL_len (h : List Int) (f t a : Int) : h.length = (mvL h f t a).length := by unfold mvL; rw [List.length_set, List.length_set]
def payF (b : Bool) (h n : List Int) (f t a m : Int) : List Int × List Int × Int :=
  if m < rd n f then (h, n, 2) else if m > rd n f then (h, n, 3) else if a > rd h f then (h, n.set f.toNat (wrap64 (m + 1)), 4) else if b = true then (mvL h f t a, n.set f.toNat (wrap64 (m + 1)), 0) else (h, n, 1)
instance : Go.Proofs.YtajblkfgdalldaaH.ZeroT Try.prog 27 #[.slice none 0 0, .slice none 0 0] := ⟨by kernel_rfl⟩
instance : Go.Proofs.YtajblkfgdalldaaH.AggT Try.prog 27 2 := ⟨by kernel_rfl, by kernel_rfl⟩
instance : Go.Proofs.YtajblkfgdalldaaH.AggT Try.prog 45 4 := ⟨by kernel_rfl, by kernel_rfl⟩
instance : Go.Proofs.YtajblkfgdalldaaH.CellT Try.prog 3 := ⟨by kernel_rfl, by kernel_rfl⟩
instance : Go.Proofs.YtajblkfgdalldaaH.CellT Try.prog 22 := ⟨by kernel_rfl, by kernel_rfl⟩
theorem spec_Pay.lok (k : Nat) (A0 : Option Addr) (c0 : Nat) (l0 : List Int) (n0 : Nat) (A1 : Option Addr) (c1 : Nat) (l1 : List Int) (n1 : Nat) (r : Bool) (w : World) (e0 : n0 = l0.length) (e1 : n1 = l1.length) (hr0 : Kd.C (Kd.int .i64) w A0 l0.length l0) (hc0 : l0.length ≤ c0) (hr1 : Kd.C (Kd.int .i64) w A1 l1.length l1) (hc1 : l1.length ≤ c1) (h : spec_LedgerOk.f k l0 l1 = some r) :
    Calls Try.prog 24 #[.agg #[.slice A0 n0 c0, .slice A1 n1 c1]] w fun e w' => e = .returned (.bool r) ∧ Below w.heap.size w w' := by
  subst e0
  subst e1
  exact spec_LedgerOk.calls _ _ _ _ _ _ _ _ _ hr0 hc0 hr1 hc1 h
open Go.Proofs.YtajblkfgdalldaaH in
set_option maxHeartbeats 4000000 in
set_option maxRecDepth 100000 in
theorem spec_Pay.bad (k : Nat) (A0_0 : Option Addr) (c0_0 : Nat) (l0_0 : List Int) (A0_1 : Option Addr) (c0_1 : Nat) (l0_1 : List Int) (a1_0 a1_1 a1_2 a1_3 : Int) (b0 b1 : Bool) (w : World) (hr0 : Aside0 (Kd.C (Kd.int .i64) w A0_0 l0_0.length l0_0)) (hc0 : Aside0 (l0_0.length ≤ c0_0)) (hr1 : Aside0 (Kd.C (Kd.int .i64) w A0_1 l0_1.length l0_1)) (hc1 : Aside0 (l0_1.length ≤ c0_1)) (hcp : Aside0 (spec_l3Copy.f l0_0 l0_1 = some (l0_0, l0_1))) (hk : Aside0 (spec_LedgerOk.f k l0_0 l0_1 = some b0)) (hx : Aside0 (spec_TxOk.f a1_0 a1_1 a1_2 a1_3 = some b1)) (hb : (b0 && b1) = false) :
    Calls Try.prog 34 #[.agg #[.slice A0_0 l0_0.length c0_0, .slice A0_1 l0_1.length c0_1], .agg #[.int .i64 a1_0, .int .i64 a1_1, .int .i64 a1_2, .int .i64 a1_3]] w fun e w' => ∃ v0_ v1_ : Value, e = .returned (.tuple #[.agg #[v0_, v1_], .int .i64 (1)]) ∧ Kd.R (Kd.int .i64) 3 w' w.heap.size (fun k_ => some k_ ≠ (v1_ : Value).ownBlock) v0_ (l0_0) ∧ Kd.R (Kd.int .i64) 3 w' w.heap.size (fun k_ => some k_ ≠ (v0_ : Value).ownBlock) v1_ (l0_1) ∧ Below w.heap.size w w' := by
  have HS := SS.nil w
  rcases b0 with _ | _
  · clear hb
    go_enter Try.func34, Try.ntmps34
    go_wp2_with (first | ((with_reducible refine gate_dst (N := 4) rfl ?_); refine ev_alloc HS rfl rfl ?_; clear HS; intro g4 w1 HS) | ((with_reducible refine gate_dst (N := 6) rfl ?_); refine ev_alloc HS rfl rfl ?_; clear HS; intro g6 w1 HS) | ((with_reducible refine gate_dst (N := 2) rfl ?_); refine ev_box HS (cs := #[.slice A0_0 l0_0.length c0_0, .slice A0_1 l0_1.length c0_1]) rfl rfl rfl ?_; clear HS; intro g2 w1 HS) | ((with_reducible refine gate_dst (N := 3) rfl ?_); refine ev_box HS (cs := #[.int .i64 a1_0, .int .i64 a1_1, .int .i64 a1_2, .int .i64 a1_3]) rfl rfl rfl ?_; clear HS; intro g3 w1 HS) | ((with_reducible refine gate_load rfl ?_); first | refine ev_loadC HS rfl rfl rfl (by rfl) ?_ | refine ev_loadS HS rfl rfl rfl (by rfl) ?_) | ((with_reducible refine gate_put rfl ?_); (first | refine ev_storeC HS rfl rfl rfl rfl rfl (by rfl) (by rfl) ?_ | refine ev_storeS HS rfl rfl rfl rfl rfl (by rfl) (by rfl) (by rfl) ?_); clear HS; intro w1 HS) | (go_at_call 65; refine (spec_l3Copy.calls _ _ _ _ _ _ _ _ _ (Kd.C_below hr0.out HS.below) hc0.out (Kd.C_below hr1.out HS.below) hc1.out hcp.out).mono ?_; rintro e w1 ⟨v0, v1, rfl, ho0, ho1, hb⟩; obtain ⟨Ao0, co0, Ao1, co1, rfl, rfl, HS1⟩ := HS.got2 hb ho0 ho1 (fun _ h => h); clear HS ho0 ho1 hb; have HS := HS1; clear HS1) | (go_at_call 24; refine (spec_LedgerOk.calls _ _ _ _ _ _ _ _ _ (Kd.C_below hr0.out HS.below) hc0.out (Kd.C_below hr1.out HS.below) hc1.out hk.out).mono ?_; rintro e w1 ⟨rfl, hb⟩; have HS1 := HS.later hb; clear HS hb; have HS := HS1; clear HS1) | (go_at_call 56; refine (spec_TxOk.calls _ _ _ _ _ _ hx.out).mono ?_; rintro e w1 ⟨rfl, hb⟩; have HS1 := HS.later hb; clear HS hb; have HS := HS1; clear HS1))
    refine bodyPost_ret (results_ct rfl _ _ g4 27 #[.slice Ao0 l0_0.length co0, .slice Ao1 l0_1.length co1] (0, 0) _ rfl (HS.box g4) Try.underlying27 rfl (by kernel_rfl)) rfl ?_
    exact ⟨_, _, rfl, HS.out2 Ao0 Ao1 (by decide), HS.out2 Ao1 Ao0 (by decide), HS.below⟩
  · obtain rfl : b1 = false := by simpa using hb
    clear hb
    go_enter Try.func34, Try.ntmps34
    go_wp2_with (first | ((with_reducible refine gate_dst (N := 4) rfl ?_); refine ev_alloc HS rfl rfl ?_; clear HS; intro g4 w1 HS) | ((with_reducible refine gate_dst (N := 6) rfl ?_); refine ev_alloc HS rfl rfl ?_; clear HS; intro g6 w1 HS) | ((with_reducible refine gate_dst (N := 2) rfl ?_); refine ev_box HS (cs := #[.slice A0_0 l0_0.length c0_0, .slice A0_1 l0_1.length c0_1]) rfl rfl rfl ?_; clear HS; intro g2 w1 HS) | ((with_reducible refine gate_dst (N := 3) rfl ?_); refine ev_box HS (cs := #[.int .i64 a1_0, .int .i64 a1_1, .int .i64 a1_2, .int .i64 a1_3]) rfl rfl rfl ?_; clear HS; intro g3 w1 HS) | ((with_reducible refine gate_load rfl ?_); first | refine ev_loadC HS rfl rfl rfl (by rfl) ?_ | refine ev_loadS HS rfl rfl rfl (by rfl) ?_) | ((with_reducible refine gate_put rfl ?_); (first | refine ev_storeC HS rfl rfl rfl rfl rfl (by rfl) (by rfl) ?_ | refine ev_storeS HS rfl rfl rfl rfl rfl (by rfl) (by rfl) (by rfl) ?_); clear HS; intro w1 HS) | (go_at_call 65; refine (spec_l3Copy.calls _ _ _ _ _ _ _ _ _ (Kd.C_below hr0.out HS.below) hc0.out (Kd.C_below hr1.out HS.below) hc1.out hcp.out).mono ?_; rintro e w1 ⟨v0, v1, rfl, ho0, ho1, hb⟩; obtain ⟨Ao0, co0, Ao1, co1, rfl, rfl, HS1⟩ := HS.got2 hb ho0 ho1 (fun _ h => h); clear HS ho0 ho1 hb; have HS := HS1; clear HS1) | (go_at_call 24; refine (spec_LedgerOk.calls _ _ _ _ _ _ _ _ _ (Kd.C_below hr0.out HS.below) hc0.out (Kd.C_below hr1.out HS.below) hc1.out hk.out).mono ?_; rintro e w1 ⟨rfl, hb⟩; have HS1 := HS.later hb; clear HS hb; have HS := HS1; clear HS1) | (go_at_call 56; refine (spec_TxOk.calls _ _ _ _ _ _ hx.out).mono ?_; rintro e w1 ⟨rfl, hb⟩; have HS1 := HS.later hb; clear HS hb; have HS := HS1; clear HS1))
    refine bodyPost_ret (results_ct rfl _ _ g4 27 #[.slice Ao0 l0_0.length co0, .slice Ao1 l0_1.length co1] (0, 0) _ rfl (HS.box g4) Try.underlying27 rfl (by kernel_rfl)) rfl ?_
    exact ⟨_, _, rfl, HS.out2 Ao0 Ao1 (by decide), HS.out2 Ao1 Ao0 (by decide), HS.below⟩

open Go.Proofs.YtajblkfgdalldaaH in
set_option maxHeartbeats 4000000 in
set_option maxRecDepth 100000 in
theorem spec_Pay.fine (k k2 : Nat) (ad0 ad1 : Addr) (c0_0 : Nat) (l0_0 : List Int) (c0_1 : Nat) (l0_1 : List Int) (a1_0 a1_1 a1_2 a1_3 : Int) (w : World) (hr0 : Aside0 (Kd.C (Kd.int .i64) w (some ad0) l0_0.length l0_0)) (hc0 : Aside0 (l0_0.length ≤ c0_0)) (hr1 : Aside0 (Kd.C (Kd.int .i64) w (some ad1) l0_1.length l0_1)) (hc1 : Aside0 (l0_1.length ≤ c0_1)) (hcp : Aside0 (spec_l3Copy.f l0_0 l0_1 = some (l0_0, l0_1))) (hk : Aside0 (spec_LedgerOk.f k l0_0 l0_1 = some true)) (hx : Aside0 (spec_TxOk.f a1_0 a1_1 a1_2 a1_3 = some true))
    (hx0 : Aside0 (w.cell? (ad0.add a1_0.toNat) = some (.int .i64 (rd l0_0 a1_0)))) (hx1 : Aside0 (w.cell? (ad1.add a1_0.toNat) = some (.int .i64 (rd l0_1 a1_0)))) (f0 : 0 ≤ a1_0) (f1 : a1_0 < (l0_0.length : Int)) (f2 : a1_0 < (l0_1.length : Int)) (t0 : 0 ≤ a1_1) (t1 : a1_1 < (l0_0.length : Int)) (t1' : a1_1 < ((l0_0.set a1_0.toNat (wrap64 (rd l0_0 a1_0 - a1_2))).length : Int)) (b6 : Bool) (hk2 : Aside0 (spec_LedgerOk.f k2 (mvL l0_0 a1_0 a1_1 a1_2) (l0_1.set a1_0.toNat (wrap64 (a1_3 + 1))) = some b6)) (r1 r2 : List Int) (r3 : Int) (hR : Aside0 (payF b6 l0_0 l0_1 a1_0 a1_1 a1_2 a1_3 = (r1, r2, r3))) :
    Calls Try.prog 34 #[.agg #[.slice (some ad0) l0_0.length c0_0, .slice (some ad1) l0_1.length c0_1], .agg #[.int .i64 a1_0, .int .i64 a1_1, .int .i64 a1_2, .int .i64 a1_3]] w fun e w' => ∃ v0_ v1_ : Value, e = .returned (.tuple #[.agg #[v0_, v1_], .int .i64 (r3)]) ∧ Kd.R (Kd.int .i64) 3 w' w.heap.size (fun k_ => some k_ ≠ (v1_ : Value).ownBlock) v0_ (r1) ∧ Kd.R (Kd.int .i64) 3 w' w.heap.size (fun k_ => some k_ ≠ (v0_ : Value).ownBlock) v1_ (r2) ∧ Below w.heap.size w w' := by
  have HS := SS.nil w
  go_enter Try.func34, Try.ntmps34
  go_upto_region 4 with (first | ((with_reducible refine gate_dst (N := 4) rfl ?_); refine ev_alloc HS rfl rfl ?_; clear HS; intro g4 w1 HS) | ((with_reducible refine gate_dst (N := 6) rfl ?_); refine ev_alloc HS rfl rfl ?_; clear HS; intro g6 w1 HS) | ((with_reducible refine gate_dst (N := 2) rfl ?_); refine ev_box HS (cs := #[.slice (some ad0) l0_0.length c0_0, .slice (some ad1) l0_1.length c0_1]) rfl rfl rfl ?_; clear HS; intro g2 w1 HS) | ((with_reducible refine gate_dst (N := 3) rfl ?_); refine ev_box HS (cs := #[.int .i64 a1_0, .int .i64 a1_1, .int .i64 a1_2, .int .i64 a1_3]) rfl rfl rfl ?_; clear HS; intro g3 w1 HS) | ((with_reducible refine gate_load rfl ?_); first | refine ev_loadC HS rfl rfl rfl (by rfl) ?_ | refine ev_loadS HS rfl rfl rfl (by rfl) ?_) | ((with_reducible refine gate_put rfl ?_); (first | refine ev_storeC HS rfl rfl rfl rfl rfl (by rfl) (by rfl) ?_ | refine ev_storeS HS rfl rfl rfl rfl rfl (by rfl) (by rfl) (by rfl) ?_); clear HS; intro w1 HS) | (go_at_call 65; refine (spec_l3Copy.calls _ _ _ _ _ _ _ _ _ (Kd.C_below hr0.out HS.below) hc0.out (Kd.C_below hr1.out HS.below) hc1.out hcp.out).mono ?_; rintro e w1 ⟨v0, v1, rfl, ho0, ho1, hb⟩; obtain ⟨Ao0, co0, Ao1, co1, rfl, rfl, HS1⟩ := HS.got2 hb ho0 ho1 (fun _ h => h); clear HS ho0 ho1 hb; have HS := HS1; clear HS1) | (go_at_call 24; refine (spec_LedgerOk.calls _ _ _ _ _ _ _ _ _ (Kd.C_below hr0.out HS.below) hc0.out (Kd.C_below hr1.out HS.below) hc1.out hk.out).mono ?_; rintro e w1 ⟨rfl, hb⟩; have HS1 := HS.later hb; clear HS hb; have HS := HS1; clear HS1) | (go_at_call 56; refine (spec_TxOk.calls _ _ _ _ _ _ hx.out).mono ?_; rintro e w1 ⟨rfl, hb⟩; have HS1 := HS.later hb; clear HS hb; have HS := HS1; clear HS1))
  have o1 := (HS.below.cell (World.block_lt_of_cell? w _ hx1.out)).trans hx1.out
  have b2 := fun j => HS.cell g2 j
  have b3 := fun j => HS.cell g3 j
  by_cases c3 : a1_3 < rd l0_1 a1_0
  · have c3b : decide (a1_3 < rd l0_1 a1_0) = true := decide_eq_true c3
    have hp := hR.out; unfold payF at hp; rw [if_pos c3] at hp; simp only [Prod.mk.injEq] at hp; obtain ⟨rfl, rfl, rfl⟩ := hp
    clear c3 hR
    go_quiet (fail)
    rename_i nq
    replace HS := HS.drewN nq
    generalize w1.drewN nq = w1 at HS ⊢
    clear b2 b3 o1
    go_wp2_with (first | ((with_reducible refine gate_load rfl ?_); first | refine ev_loadC HS rfl rfl rfl (by rfl) ?_ | refine ev_loadS HS rfl rfl rfl (by rfl) ?_) | ((with_reducible refine gate_put rfl ?_); (first | refine ev_storeC HS rfl rfl rfl rfl rfl (by rfl) (by rfl) ?_ | refine ev_storeS HS rfl rfl rfl rfl rfl (by rfl) (by rfl) (by rfl) ?_); clear HS; intro w1 HS))
    refine bodyPost_ret (results_ct rfl _ _ g4 27 #[.slice Ao0 l0_0.length co0, .slice Ao1 l0_1.length co1] (0, 0) _ rfl (HS.box g4) Try.underlying27 rfl (by kernel_rfl)) rfl ?_
    exact ⟨_, _, rfl, HS.out2 Ao0 Ao1 (by decide), HS.out2 Ao1 Ao0 (by decide), HS.below⟩
  have c3b : decide (a1_3 < rd l0_1 a1_0) = false := decide_eq_false c3
  go_quiet (fail)
  rename_i nq
  replace HS := HS.drewN nq
  generalize w1.drewN nq = w1 at HS ⊢
  clear b2 b3 o1
  go_upto_region 6 with (fail)
  have o1 := (HS.below.cell (World.block_lt_of_cell? w _ hx1.out)).trans hx1.out
  have b2 := fun j => HS.cell g2 j
  have b3 := fun j => HS.cell g3 j
  by_cases c4 : a1_3 > rd l0_1 a1_0
  · have c4b : decide (rd l0_1 a1_0 < a1_3) = true := decide_eq_true c4
    have hp := hR.out; unfold payF at hp; rw [if_neg c3, if_pos c4] at hp; simp only [Prod.mk.injEq] at hp; obtain ⟨rfl, rfl, rfl⟩ := hp
    clear c3 c4 hR
    go_quiet (fail)
    rename_i nq
    replace HS := HS.drewN nq
    generalize w1.drewN nq = w1 at HS ⊢
    clear b2 b3 o1
    go_wp2_with (first | ((with_reducible refine gate_load rfl ?_); first | refine ev_loadC HS rfl rfl rfl (by rfl) ?_ | refine ev_loadS HS rfl rfl rfl (by rfl) ?_) | ((with_reducible refine gate_put rfl ?_); (first | refine ev_storeC HS rfl rfl rfl rfl rfl (by rfl) (by rfl) ?_ | refine ev_storeS HS rfl rfl rfl rfl rfl (by rfl) (by rfl) (by rfl) ?_); clear HS; intro w1 HS))
    refine bodyPost_ret (results_ct rfl _ _ g4 27 #[.slice Ao0 l0_0.length co0, .slice Ao1 l0_1.length co1] (0, 0) _ rfl (HS.box g4) Try.underlying27 rfl (by kernel_rfl)) rfl ?_
    exact ⟨_, _, rfl, HS.out2 Ao0 Ao1 (by decide), HS.out2 Ao1 Ao0 (by decide), HS.below⟩
  have c4b : decide (rd l0_1 a1_0 < a1_3) = false := decide_eq_false c4
  go_quiet (fail)
  rename_i nq
  replace HS := HS.drewN nq
  generalize w1.drewN nq = w1 at HS ⊢
  clear b2 b3 o1
  obtain ⟨b1, rfl⟩ := HS.form Ao1 (by omega)
  go_upto_region 9 with (first | ((with_reducible refine gate_load rfl ?_); first | refine ev_loadC HS rfl rfl rfl (by rfl) ?_ | refine ev_loadS HS rfl rfl rfl (by rfl) ?_ | refine ev_loadI HS rfl rfl rfl (by assumption) (by assumption) ?_) | ((with_reducible refine gate_put rfl ?_); (first | refine ev_storeC HS rfl rfl rfl rfl rfl (by rfl) (by rfl) ?_ | refine ev_storeS HS rfl rfl rfl rfl rfl (by rfl) (by rfl) (by rfl) ?_ | refine ev_storeI HS rfl rfl rfl rfl rfl (by assumption) (by assumption) ?_); clear HS; intro w1 HS))
  have o1 := (HS.below.cell (World.block_lt_of_cell? w _ hx0.out)).trans hx0.out
  have b2 := fun j => HS.cell g2 j
  have b3 := fun j => HS.cell g3 j
  by_cases c5 : a1_2 > rd l0_0 a1_0
  · have c5b : decide (rd l0_0 a1_0 < a1_2) = true := decide_eq_true c5
    have hp := hR.out; unfold payF at hp; rw [if_neg c3, if_neg c4, if_pos c5] at hp; simp only [Prod.mk.injEq] at hp; obtain ⟨rfl, rfl, rfl⟩ := hp
    clear c3 c4 c5 hR
    go_quiet (fail)
    rename_i nq
    replace HS := HS.drewN nq
    generalize w1.drewN nq = w1 at HS ⊢
    clear b2 b3 o1
    go_wp2_with (first | ((with_reducible refine gate_load rfl ?_); first | refine ev_loadC HS rfl rfl rfl (by rfl) ?_ | refine ev_loadS HS rfl rfl rfl (by rfl) ?_) | ((with_reducible refine gate_put rfl ?_); (first | refine ev_storeC HS rfl rfl rfl rfl rfl (by rfl) (by rfl) ?_ | refine ev_storeS HS rfl rfl rfl rfl rfl (by rfl) (by rfl) (by rfl) ?_); clear HS; intro w1 HS))
    refine bodyPost_ret (results_ct rfl _ _ g4 27 #[.slice Ao0 l0_0.length co0, .slice (some ⟨b1, 0, none⟩) l0_1.length co1] (0, 0) _ rfl (HS.box g4) Try.underlying27 rfl (by kernel_rfl)) rfl ?_
    exact ⟨_, _, rfl, HS.out2 Ao0 (some ⟨b1, 0, none⟩) (by decide), HS.out2 (some ⟨b1, 0, none⟩) Ao0 (by decide), HS.below⟩
  have c5b : decide (rd l0_0 a1_0 < a1_2) = false := decide_eq_false c5
  go_quiet (fail)
  rename_i nq
  replace HS := HS.drewN nq
  generalize w1.drewN nq = w1 at HS ⊢
  clear b2 b3 o1
  obtain ⟨b0, rfl⟩ := HS.form Ao0 (by omega)
  go_upto_region 11 with (fail)
  have r0 := HS.cellI b0 a1_0 f0 f1
  have b3 := fun j => HS.cell g3 j
  have b6 := fun j => HS.cell g6 j
  go_still_tail 14, (by kernel_rfl)
  clear r0 b3 b6
  replace HS := HS.drew
  change wpList _ _ _ _ _ w1.drew
  generalize w1.drew = w1 at HS ⊢
  go_upto_region 12 with ((with_reducible refine gate_put rfl ?_); (first | refine ev_storeC HS rfl rfl rfl rfl rfl (by rfl) (by rfl) ?_ | refine ev_storeS HS rfl rfl rfl rfl rfl (by rfl) (by rfl) (by rfl) ?_ | refine ev_storeI HS rfl rfl rfl rfl rfl (by assumption) (by assumption) ?_); clear HS; intro w1 HS)
  try rw [wrapEq] at HS
  go_upto_region 12 with (fail)
  have r0 := HS.cellI b0 a1_1 t0 t1'
  have b3 := fun j => HS.cell g3 j
  have b6 := fun j => HS.cell g6 j
  go_still_tail 14, (by kernel_rfl)
  clear r0 b3 b6
  replace HS := HS.drew
  change wpList _ _ _ _ _ w1.drew
  generalize w1.drew = w1 at HS ⊢
  go_upto_region 13 with ((with_reducible refine gate_put rfl ?_); (first | refine ev_storeC HS rfl rfl rfl rfl rfl (by rfl) (by rfl) ?_ | refine ev_storeS HS rfl rfl rfl rfl rfl (by rfl) (by rfl) (by rfl) ?_ | refine ev_storeI HS rfl rfl rfl rfl rfl (by assumption) (by assumption) ?_); clear HS; intro w1 HS)
  try rw [wrapEq] at HS
  rcases b6 with _ | _
  · have hp := hR.out; unfold payF at hp; rw [if_neg c3, if_neg c4, if_neg c5] at hp; rw [if_neg (by decide)] at hp; simp only [Prod.mk.injEq] at hp; obtain ⟨rfl, rfl, rfl⟩ := hp
    clear c3 c4 c5 hR
    go_wp2_with (first | ((with_reducible refine gate_load rfl ?_); first | refine ev_loadC HS rfl rfl rfl (by rfl) ?_ | refine ev_loadS HS rfl rfl rfl (by rfl) ?_) | ((with_reducible refine gate_put rfl ?_); (first | refine ev_storeC HS rfl rfl rfl rfl rfl (by rfl) (by rfl) ?_ | refine ev_storeS HS rfl rfl rfl rfl rfl (by rfl) (by rfl) (by rfl) ?_); clear HS; intro w1 HS) | (go_at_call 65; refine (spec_l3Copy.calls _ _ _ _ _ _ _ _ _ (Kd.C_below hr0.out HS.below) hc0.out (Kd.C_below hr1.out HS.below) hc1.out hcp.out).mono ?_; rintro e w1 ⟨v0, v1, rfl, ho0, ho1, hb⟩; obtain ⟨Aq0, cq0, Aq1, cq1, rfl, rfl, HS1⟩ := HS.got2 hb ho0 ho1 (fun _ h => h); clear HS ho0 ho1 hb; have HS := HS1; clear HS1) | (go_at_call 24; refine (spec_Pay.lok _ _ _ (mvL l0_0 a1_0 a1_1 a1_2) _ _ _ (l0_1.set a1_0.toNat (wrap64 (a1_3 + 1))) _ _ _ (mvL_len _ _ _ _) (List.length_set ..).symm (HS.reads (some ⟨b0, 0, none⟩)) (HS.cap (some ⟨b0, 0, none⟩)) (HS.reads (some ⟨b1, 0, none⟩)) (HS.cap (some ⟨b1, 0, none⟩)) hk2.out).mono ?_; rintro e w1 ⟨rfl, hb⟩; have HS1 := HS.later hb; clear HS hb; have HS := HS1; clear HS1))
    refine bodyPost_ret (results_ct rfl _ _ g4 27 #[.slice Aq0 l0_0.length cq0, .slice Aq1 l0_1.length cq1] (0, 0) _ rfl (HS.box g4) Try.underlying27 rfl (by kernel_rfl)) rfl ?_
    exact ⟨_, _, rfl, HS.out2 Aq0 Aq1 (by decide), HS.out2 Aq1 Aq0 (by decide), HS.below⟩
  · have hp := hR.out; unfold payF at hp; rw [if_neg c3, if_neg c4, if_neg c5] at hp; rw [if_pos rfl] at hp; simp only [Prod.mk.injEq] at hp; obtain ⟨rfl, rfl, rfl⟩ := hp
    clear c3 c4 c5 hR
    go_wp2_with (first | ((with_reducible refine gate_load rfl ?_); first | refine ev_loadC HS rfl rfl rfl (by rfl) ?_ | refine ev_loadS HS rfl rfl rfl (by rfl) ?_) | ((with_reducible refine gate_put rfl ?_); (first | refine ev_storeC HS rfl rfl rfl rfl rfl (by rfl) (by rfl) ?_ | refine ev_storeS HS rfl rfl rfl rfl rfl (by rfl) (by rfl) (by rfl) ?_); clear HS; intro w1 HS) | (go_at_call 24; refine (spec_Pay.lok _ _ _ (mvL l0_0 a1_0 a1_1 a1_2) _ _ _ (l0_1.set a1_0.toNat (wrap64 (a1_3 + 1))) _ _ _ (mvL_len _ _ _ _) (List.length_set ..).symm (HS.reads (some ⟨b0, 0, none⟩)) (HS.cap (some ⟨b0, 0, none⟩)) (HS.reads (some ⟨b1, 0, none⟩)) (HS.cap (some ⟨b1, 0, none⟩)) hk2.out).mono ?_; rintro e w1 ⟨rfl, hb⟩; have HS1 := HS.later hb; clear HS hb; have HS := HS1; clear HS1))
    refine bodyPost_ret (results_ct rfl _ _ g4 27 #[.slice (some ⟨b0, 0, none⟩) l0_0.length co0, .slice (some ⟨b1, 0, none⟩) l0_1.length co1] (0, 0) _ rfl (HS.box g4) Try.underlying27 rfl (by kernel_rfl)) rfl ?_
    exact ⟨_, _, rfl, HS.out2 (some ⟨b0, 0, none⟩) (some ⟨b1, 0, none⟩) (by decide), HS.out2 (some ⟨b1, 0, none⟩) (some ⟨b0, 0, none⟩) (by decide), HS.below⟩
/-- Pay: what it comes to (rounds of its own it has none). -/
def spec_Pay.f (k : Nat) (l0_0 l0_1 : List Int) (a1_0 a1_1 a1_2 a1_3 : Int) : Option (List Int × List Int × Int) := if l0_0.length ≤ 1048576 ∧ l0_1.length ≤ 1048576 then some (payL l0_0 l0_1 a1_0 a1_1 a1_2 a1_3) else none
theorem spec_Pay.mono : ∀ a0 a1 a2 a3 a4 a5 k, LeO (spec_Pay.f k a0 a1 a2 a3 a4 a5) (spec_Pay.f (k + 1) a0 a1 a2 a3 a4 a5) := fun _ _ _ _ _ _ _ => LeO.refl _
theorem spec_Pay.calls (k : Nat) (A0_0 : Option Addr) (c0_0 : Nat) (l0_0 : List Int) (A0_1 : Option Addr) (c0_1 : Nat) (l0_1 : List Int) (a1_0 a1_1 a1_2 a1_3 : Int) (r1 r2 : List Int) (r3 : Int) (w : World) (hr0_0 : Kd.C (Kd.int .i64) w A0_0 l0_0.length l0_0) (hc0_0 : l0_0.length ≤ c0_0) (hr0_1 : Kd.C (Kd.int .i64) w A0_1 l0_1.length l0_1) (hc0_1 : l0_1.length ≤ c0_1) (h : spec_Pay.f k l0_0 l0_1 a1_0 a1_1 a1_2 a1_3 = some (r1, r2, r3)) :
    Calls Try.prog 34 #[.agg #[.slice A0_0 l0_0.length c0_0, .slice A0_1 l0_1.length c0_1], .agg #[.int .i64 a1_0, .int .i64 a1_1, .int .i64 a1_2, .int .i64 a1_3]] w fun e w' => ∃ v0_ v1_ : Value, e = .returned (.tuple #[.agg #[v0_, v1_], .int .i64 (r3)]) ∧ Kd.R (Kd.int .i64) 3 w' w.heap.size (fun k_ => some k_ ≠ (v1_ : Value).ownBlock) v0_ (r1) ∧ Kd.R (Kd.int .i64) 3 w' w.heap.size (fun k_ => some k_ ≠ (v0_ : Value).ownBlock) v1_ (r2) ∧ Below w.heap.size w w' := by
  unfold spec_Pay.f at h
  by_cases hb : l0_0.length ≤ 1048576 ∧ l0_1.length ≤ 1048576
  · rw [if_pos hb] at h
    replace h := Option.some.inj h
    obtain ⟨hz0, hz1⟩ := hb
    have hcp := Aside0.mk (spec_l3Copy_val l0_0 l0_1 hz0 hz1)
    obtain ⟨k1, hk⟩ := (spec_LedgerOk_ev l0_0 l0_1).rounds
    have hx := spec_TxOk_val a1_0 a1_1 a1_2 a1_3
    by_cases c1 : ledgerIs l0_0 l0_1 ∧ txIs a1_0 a1_1 a1_2 a1_3
    · obtain ⟨c1, c2⟩ := c1
      rw [decide_eq_true c1] at hk
      rw [decide_eq_true c2] at hx
      have l1 : l0_0.length = 4 := c1.1.1
      have l2 : l0_1.length = 4 := c1.1.2
      have f0 : 0 ≤ a1_0 := c2.1.1
      have f3 : a1_0 ≤ 3 := c2.1.2
      have t0 : 0 ≤ a1_1 := c2.2.1.1
      have t3 : a1_1 ≤ 3 := c2.2.1.2
      obtain ⟨k2, hk2⟩ := (spec_LedgerOk_ev (mvL l0_0 a1_0 a1_1 a1_2) (l0_1.set a1_0.toNat (wrap64 (a1_3 + 1)))).rounds
      obtain ⟨ad0, rfl, hx0⟩ := Kd.at_int hr0_0 a1_0 f0 (by omega)
      obtain ⟨ad1, rfl, hx1⟩ := Kd.at_int hr0_1 a1_0 f0 (by omega)
      have e : payF (decide (ledgerIs (mvL l0_0 a1_0 a1_1 a1_2) (l0_1.set a1_0.toNat (wrap64 (a1_3 + 1))))) l0_0 l0_1 a1_0 a1_1 a1_2 a1_3 = (r1, r2, r3) := by
        rw [← h]
        unfold payL
        rw [if_neg (fun z => z ⟨c1, c2⟩)]
        unfold payF
        by_cases c6 : ledgerIs (mvL l0_0 a1_0 a1_1 a1_2) (l0_1.set a1_0.toNat (wrap64 (a1_3 + 1))) <;> simp only [c6, decide_true, decide_false, if_true, if_false, Bool.false_eq_true]
      exact spec_Pay.fine k1 k2 ad0 ad1 c0_0 l0_0 c0_1 l0_1 a1_0 a1_1 a1_2 a1_3 w ⟨hr0_0⟩ ⟨hc0_0⟩ ⟨hr0_1⟩ ⟨hc0_1⟩ hcp ⟨hk⟩ ⟨hx⟩ ⟨hx0⟩ ⟨hx1⟩ f0 (by omega) (by omega) t0 (by omega) (by rw [List.length_set]; omega) _ ⟨hk2⟩ r1 r2 r3 ⟨e⟩
    · have hp : payL l0_0 l0_1 a1_0 a1_1 a1_2 a1_3 = (l0_0, l0_1, 1) := by unfold payL; rw [if_pos c1]
      rw [hp] at h
      simp only [Prod.mk.injEq] at h
      obtain ⟨rfl, rfl, rfl⟩ := h
      exact spec_Pay.bad k1 A0_0 c0_0 l0_0 A0_1 c0_1 l0_1 a1_0 a1_1 a1_2 a1_3 _ _ w ⟨hr0_0⟩ ⟨hc0_0⟩ ⟨hr0_1⟩ ⟨hc0_1⟩ hcp ⟨hk⟩ ⟨hx⟩ (by rw [Bool.and_eq_false_iff, decide_eq_false_iff_not, decide_eq_false_iff_not]; exact Classical.or_iff_not_imp_left.2 (fun c3 c4 => c1 ⟨Classical.not_not.1 c3, c4⟩))
  · rw [if_neg hb] at h
    cases h

/-! ### spec_l1Byte: function 79 -/
def spec_l1Byte.f (s0_0 : List Int) (s0_1 : Int) (s0_2 : Int) : Option (Int × Int × Int) := if s0_1 < (s0_0.length : Int) then (if 0 ≤ s0_1 then (some (Go.bits .and .i64 (wrap64 ((Go.bits .and .i64 (Go.bits .xor .i64 ((wrap64 ((wrap64 (s0_2 * 6364136223846793005)) + 1442695040888963407)) / 8589934592) ((wrap64 ((wrap64 (s0_2 * 6364136223846793005)) + 1442695040888963407)) / 35184372088832)) 255) + (wrap64 (rd s0_0 s0_1)))) 255, wrap64 (s0_1 + 1), wrap64 ((wrap64 (s0_2 * 6364136223846793005)) + 1442695040888963407))) else (none)) else (some (Go.bits .and .i64 (Go.bits .xor .i64 ((wrap64 ((wrap64 (s0_2 * 6364136223846793005)) + 1442695040888963407)) / 8589934592) ((wrap64 ((wrap64 (s0_2 * 6364136223846793005)) + 1442695040888963407)) / 35184372088832)) 255, s0_1, wrap64 ((wrap64 (s0_2 * 6364136223846793005)) + 1442695040888963407)))
set_option maxHeartbeats 8000000 in
set_option maxRecDepth 100000 in
theorem spec_l1Byte.calls (g : Nat) (s0_0 : List Int) (s0_1 : Int) (s0_2 : Int) (r1 : Int) (r2 : Int) (r3 : Int) (w0 w : World) (hI : IsS81 w0 w g s0_0 s0_1 s0_2) (hB : Below w0.heap.size w0 w) (h : spec_l1Byte.f s0_0 s0_1 s0_2 = some (r1, r2, r3)) :
    Calls Try.prog 79 #[.pointer (some ⟨g, 0, none⟩)] w fun e w' => e = .returned (.int .i64 r1) ∧ IsS81 w0 w' g s0_0 r2 r3 ∧ Below w0.heap.size w0 w' ∧ KeepBut w w' g none := by
  have HI0 := Aside0.mk hI
  have HK := Aside0.mk (KeepBut.refl w g none)
  have HL := Aside0.mk hB.size
  clear hI
  have HW0 := Aside0.mk hB.size
  have HB := Aside0.mk hB
  clear hB
  have H : (if s0_1 < (s0_0.length : Int) then (if 0 ≤ s0_1 then (some (Go.bits .and .i64 (wrap64 ((Go.bits .and .i64 (Go.bits .xor .i64 ((wrap64 ((wrap64 (s0_2 * 6364136223846793005)) + 1442695040888963407)) / 8589934592) ((wrap64 ((wrap64 (s0_2 * 6364136223846793005)) + 1442695040888963407)) / 35184372088832)) 255) + (wrap64 (rd s0_0 s0_1)))) 255, wrap64 (s0_1 + 1), wrap64 ((wrap64 (s0_2 * 6364136223846793005)) + 1442695040888963407))) else (none)) else (some (Go.bits .and .i64 (Go.bits .xor .i64 ((wrap64 ((wrap64 (s0_2 * 6364136223846793005)) + 1442695040888963407)) / 8589934592) ((wrap64 ((wrap64 (s0_2 * 6364136223846793005)) + 1442695040888963407)) / 35184372088832)) 255, s0_1, wrap64 ((wrap64 (s0_2 * 6364136223846793005)) + 1442695040888963407)))) = some (r1, r2, r3) := h
  clear h
  by_cases c2 : s0_1 < (s0_0.length : Int)
  · rw [if_pos c2] at H
    have c2b0 : decide (s0_1 < (s0_0.length : Int)) = true := decide_eq_true c2
    clear c2
    by_cases c3 : 0 ≤ s0_1
    · rw [if_pos c3] at H
      have c3b0 : decide (0 ≤ s0_1) = true := decide_eq_true c3
      clear c3
      simp only [Option.some.injEq, Prod.mk.injEq] at H
      obtain ⟨rfl, rfl, rfl⟩ := H
      obtain ⟨ASz4_0, cSz4_0, HGz4, hgz4, HSz4_0⟩ := HI0.out
      have hcz4_0 := cellS81_0 HGz4
      have hcz4_1 := cellS81_1 HGz4
      have hcz4_2 := cellS81_2 HGz4
      have hfz4_1 := blk_frozen HGz4 1
      have hfz4_2 := blk_frozen HGz4 2
      clear HGz4 hgz4
      have p153 : 0 ≤ (s0_1 : Int) := of_decide_eq_true (by first | (with_reducible assumption) | assumption)
      have q153 : s0_1 < (s0_0.length : Int) := of_decide_eq_true (by first | (with_reducible assumption) | assumption)
      obtain ⟨ad153, e153, hx153_0⟩ := Kd.at_int HSz4_0 s0_1 p153 q153
      cases e153
      have hn153_0 : ad153.block ≠ g := Nat.ne_of_lt (Nat.lt_of_lt_of_le (by have := World.block_lt_of_cell? _ _ hx153_0; first | rwa [add_block] at this | exact this) (IsS81.ge HI0.out))
      replace hx153_0 := pw_cell_below HB.out hx153_0
      replace hx153_0 := (cell_far (p := ⟨g, 2, none⟩) (by first | (rw [add_block]; exact hn153_0) | (show (Addr.add _ _).block ≠ _; rw [add_block]; exact hn153_0) | exact hn153_0) (.int .i64 (wrap64 ((wrap64 (s0_2 * 6364136223846793005)) + 1442695040888963407)))).trans hx153_0
      (try have hy153_0 := fun (n_ : Nat) => (show (((w.drewN n_).setCell ⟨g, 2, none⟩ (.int .i64 (wrap64 ((wrap64 (s0_2 * 6364136223846793005)) + 1442695040888963407))))).cell? _ = some _ from hx153_0))
      clear hn153_0
      replace p153 := eq_true p153
      replace q153 := eq_true q153
      go_enter Try.func79, Try.ntmps79
      go_wp2
      repeat (go_quiet (fail); try go_wp2)
      go_ret
      exact ⟨by first | rfl | (simp [errW_none, errW_some] <;> rfl) | (simp [*, errW_none, errW_some] <;> rfl), by repeat (first | (with_reducible first | exact HI0.out | apply IsS81.alloc | apply IsS81.drewN | apply IsS81.drew | apply IsS81.set_1 | apply IsS81.set_2) | exact HI0.out), by repeat (first | (with_reducible first | exact HB.out | apply below_alloc | apply pw_below_drewN | apply below_drew1 | refine below_set ?_ (IsS81.ge HI0.out)) | exact HB.out), by repeat (first | (with_reducible first | exact HK.out | apply KeepBut.set_ | apply keep_drewN | apply keep_drew | apply keep_alloc) | exact HK.out)⟩
    · rw [if_neg c3] at H
      exact absurd H (by simp)
  · rw [if_neg c2] at H
    have c2b0 : decide (s0_1 < (s0_0.length : Int)) = false := decide_eq_false c2
    clear c2
    simp only [Option.some.injEq, Prod.mk.injEq] at H
    obtain ⟨rfl, rfl, rfl⟩ := H
    obtain ⟨ASz5_0, cSz5_0, HGz5, hgz5, HSz5_0⟩ := HI0.out
    have hcz5_0 := cellS81_0 HGz5
    have hcz5_1 := cellS81_1 HGz5
    have hcz5_2 := cellS81_2 HGz5
    have hfz5_1 := blk_frozen HGz5 1
    have hfz5_2 := blk_frozen HGz5 2
    clear HGz5 hgz5
    go_enter Try.func79, Try.ntmps79
    go_wp2
    repeat (go_quiet (fail); try go_wp2)
    go_ret
    exact ⟨by first | rfl | (simp [errW_none, errW_some] <;> rfl) | (simp [*, errW_none, errW_some] <;> rfl), by repeat (first | (with_reducible first | exact HI0.out | apply IsS81.alloc | apply IsS81.drewN | apply IsS81.drew | apply IsS81.set_1 | apply IsS81.set_2) | exact HI0.out), by repeat (first | (with_reducible first | exact HB.out | apply below_alloc | apply pw_below_drewN | apply below_drew1 | refine below_set ?_ (IsS81.ge HI0.out)) | exact HB.out), by repeat (first | (with_reducible first | exact HK.out | apply KeepBut.set_ | apply keep_drewN | apply keep_drew | apply keep_alloc) | exact HK.out)⟩

/-! ### spec_l1Below: function 73 -/
def spec_l1Below.f (s0_0 : List Int) (s0_1 : Int) (s0_2 : Int) (a1 : Int) : Option (Int × Int × Int) := if a1 ≤ 0 then (some (0, s0_1, s0_2)) else (if a1 ≤ 256 then ((spec_l1Byte.f s0_0 s0_1 s0_2).bind fun bt154 => (if a1 = 0 then (none) else (some (Int.tmod bt154.1 a1, bt154.2.1, bt154.2.2)))) else ((spec_l1Byte.f s0_0 s0_1 s0_2).bind fun bt157 => ((spec_l1Byte.f s0_0 bt157.2.1 bt157.2.2).bind fun bt160 => ((spec_l1Byte.f s0_0 bt160.2.1 bt160.2.2).bind fun bt163 => ((spec_l1Byte.f s0_0 bt163.2.1 bt163.2.2).bind fun bt166 => (if a1 = 0 then (none) else (some (Int.tmod (wrap64 ((wrap64 ((wrap64 ((wrap64 (bt157.1 * 16777216)) + (wrap64 (bt160.1 * 65536)))) + (wrap64 (bt163.1 * 256)))) + bt166.1)) a1, bt166.2.1, bt166.2.2))))))))
set_option maxHeartbeats 8000000 in
set_option maxRecDepth 100000 in
theorem spec_l1Below.calls (g : Nat) (s0_0 : List Int) (s0_1 : Int) (s0_2 : Int) (a1 : Int) (r1 : Int) (r2 : Int) (r3 : Int) (w0 w : World) (hI : IsS81 w0 w g s0_0 s0_1 s0_2) (hB : Below w0.heap.size w0 w) (h : spec_l1Below.f s0_0 s0_1 s0_2 a1 = some (r1, r2, r3)) :
    Calls Try.prog 73 #[.pointer (some ⟨g, 0, none⟩), .int .i64 a1] w fun e w' => e = .returned (.int .i64 r1) ∧ IsS81 w0 w' g s0_0 r2 r3 ∧ Below w0.heap.size w0 w' ∧ KeepBut w w' g none := by
  have HI0 := Aside0.mk hI
  have HK := Aside0.mk (KeepBut.refl w g none)
  have HL := Aside0.mk hB.size
  clear hI
  have HW0 := Aside0.mk hB.size
  have HB := Aside0.mk hB
  clear hB
  have H : (if a1 ≤ 0 then (some (0, s0_1, s0_2)) else (if a1 ≤ 256 then ((spec_l1Byte.f s0_0 s0_1 s0_2).bind fun bt154 => (if a1 = 0 then (none) else (some (Int.tmod bt154.1 a1, bt154.2.1, bt154.2.2)))) else ((spec_l1Byte.f s0_0 s0_1 s0_2).bind fun bt157 => ((spec_l1Byte.f s0_0 bt157.2.1 bt157.2.2).bind fun bt160 => ((spec_l1Byte.f s0_0 bt160.2.1 bt160.2.2).bind fun bt163 => ((spec_l1Byte.f s0_0 bt163.2.1 bt163.2.2).bind fun bt166 => (if a1 = 0 then (none) else (some (Int.tmod (wrap64 ((wrap64 ((wrap64 ((wrap64 (bt157.1 * 16777216)) + (wrap64 (bt160.1 * 65536)))) + (wrap64 (bt163.1 * 256)))) + bt166.1)) a1, bt166.2.1, bt166.2.2))))))))) = some (r1, r2, r3) := h
  clear h
  by_cases c3 : a1 ≤ 0
  · rw [if_pos c3] at H
    have c3b0 : decide (a1 ≤ 0) = true := decide_eq_true c3
    clear c3
    simp only [Option.some.injEq, Prod.mk.injEq] at H
    obtain ⟨rfl, rfl, rfl⟩ := H
    go_enter Try.func73, Try.ntmps73
    go_wp2
    go_ret
    exact ⟨by first | rfl | (simp [errW_none, errW_some] <;> rfl) | (simp [*, errW_none, errW_some] <;> rfl), by repeat (first | (with_reducible first | exact HI0.out | apply IsS81.alloc | apply IsS81.drewN | apply IsS81.drew | apply IsS81.set_1 | apply IsS81.set_2) | exact HI0.out), by repeat (first | (with_reducible first | exact HB.out | apply below_alloc | apply pw_below_drewN | apply below_drew1 | refine below_set ?_ (IsS81.ge HI0.out)) | exact HB.out), by repeat (first | (with_reducible first | exact HK.out | apply KeepBut.set_ | apply keep_drewN | apply keep_drew | apply keep_alloc) | exact HK.out)⟩
  · rw [if_neg c3] at H
    have c3b0 : decide (a1 ≤ 0) = false := decide_eq_false c3
    clear c3
    by_cases c4 : a1 ≤ 256
    · rw [if_pos c4] at H
      have c4b0 : decide (a1 ≤ 256) = true := decide_eq_true c4
      clear c4
      replace H := Option.bind_eq_some_iff.mp H
      obtain ⟨⟨t154, t155, t156⟩, A50, H⟩ := H
      replace H : (if a1 = 0 then (none) else (some (Int.tmod t154 a1, t155, t156))) = some (r1, r2, r3) := H
      have A5 := Aside0.mk A50
      clear A50
      by_cases c6 : a1 = 0
      · rw [if_pos c6] at H
        exact absurd H (by simp)
      · rw [if_neg c6] at H
        have c6b0 : (a1 == 0) = false := beq_eq_false_iff_ne.mpr c6
        have c6b1 : (a1 != 0) = true := bne_iff_ne.mpr c6
        simp only [Option.some.injEq, Prod.mk.injEq] at H
        obtain ⟨rfl, rfl, rfl⟩ := H
        go_enter Try.func73, Try.ntmps73
        go_wp2_with (first | ((with_reducible refine gate_callee (f := 79) rfl ?_); refine goesL_ (some 14) rfl rfl Try.func79 (by kernel_rfl) rfl #[.pointer (some ⟨g, 0, none⟩)] rfl (by (try simp only [List.map_toArray, List.map_cons, List.map_nil]); first | done | rfl | (simp only [List.length_drop, List.length_take]; rfl)) ?_; (with_reducible refine (spec_l1Byte.calls g s0_0 s0_1 s0_2 t154 t155 t156 w0 _ ?side1 ?side2 A5.out).mono ?_); (case side1 => repeat (first | (with_reducible first | exact HI0.out | apply IsS81.alloc | apply IsS81.drewN | apply IsS81.drew | apply IsS81.set_1 | apply IsS81.set_2) | exact HI0.out)); (case side2 => repeat (first | (with_reducible first | exact HB.out | apply below_alloc | apply pw_below_drewN | apply below_drew1 | refine below_set ?_ (IsS81.ge HI0.out)) | exact HB.out)); rintro e w7 ⟨rfl, hi, hb, hk⟩; refine ⟨_, rfl, ?_⟩; have n0_ := Aside0.mk (KeepBut.trans (by repeat (first | (with_reducible first | exact HK.out | apply KeepBut.set_ | apply keep_drewN | apply keep_drew | apply keep_alloc) | exact HK.out)) hk (.inl rfl)); have n1_ := Aside0.mk (hb); have n2_ := Aside0.mk (hi); clear HK; clear HB; clear HI0; have HK := n0_; have HB := n1_; have HI0 := n2_; clear n0_ n1_ n2_; (try clear hb); (try clear hb2); (try clear hk); (try clear hi)))
        go_ret
        exact ⟨by first | rfl | (simp [errW_none, errW_some] <;> rfl) | (simp [*, errW_none, errW_some] <;> rfl), by repeat (first | (with_reducible first | exact HI0.out | apply IsS81.alloc | apply IsS81.drewN | apply IsS81.drew | apply IsS81.set_1 | apply IsS81.set_2) | exact HI0.out), by repeat (first | (with_reducible first | exact HB.out | apply below_alloc | apply pw_below_drewN | apply below_drew1 | refine below_set ?_ (IsS81.ge HI0.out)) | exact HB.out), by repeat (first | (with_reducible first | exact HK.out | apply KeepBut.set_ | apply keep_drewN | apply keep_drew | apply keep_alloc) | exact HK.out)⟩
    · rw [if_neg c4] at H
      have c4b0 : decide (a1 ≤ 256) = false := decide_eq_false c4
      clear c4
      replace H := Option.bind_eq_some_iff.mp H
      obtain ⟨⟨t157, t158, t159⟩, A80, H⟩ := H
      replace H : ((spec_l1Byte.f s0_0 t158 t159).bind fun bt160 => ((spec_l1Byte.f s0_0 bt160.2.1 bt160.2.2).bind fun bt163 => ((spec_l1Byte.f s0_0 bt163.2.1 bt163.2.2).bind fun bt166 => (if a1 = 0 then (none) else (some (Int.tmod (wrap64 ((wrap64 ((wrap64 ((wrap64 (t157 * 16777216)) + (wrap64 (bt160.1 * 65536)))) + (wrap64 (bt163.1 * 256)))) + bt166.1)) a1, bt166.2.1, bt166.2.2)))))) = some (r1, r2, r3) := H
      have A8 := Aside0.mk A80
      clear A80
      replace H := Option.bind_eq_some_iff.mp H
      obtain ⟨⟨t160, t161, t162⟩, A90, H⟩ := H
      replace H : ((spec_l1Byte.f s0_0 t161 t162).bind fun bt163 => ((spec_l1Byte.f s0_0 bt163.2.1 bt163.2.2).bind fun bt166 => (if a1 = 0 then (none) else (some (Int.tmod (wrap64 ((wrap64 ((wrap64 ((wrap64 (t157 * 16777216)) + (wrap64 (t160 * 65536)))) + (wrap64 (bt163.1 * 256)))) + bt166.1)) a1, bt166.2.1, bt166.2.2))))) = some (r1, r2, r3) := H
      have A9 := Aside0.mk A90
      clear A90
      replace H := Option.bind_eq_some_iff.mp H
      obtain ⟨⟨t163, t164, t165⟩, A100, H⟩ := H
      replace H : ((spec_l1Byte.f s0_0 t164 t165).bind fun bt166 => (if a1 = 0 then (none) else (some (Int.tmod (wrap64 ((wrap64 ((wrap64 ((wrap64 (t157 * 16777216)) + (wrap64 (t160 * 65536)))) + (wrap64 (t163 * 256)))) + bt166.1)) a1, bt166.2.1, bt166.2.2)))) = some (r1, r2, r3) := H
      have A10 := Aside0.mk A100
      clear A100
      replace H := Option.bind_eq_some_iff.mp H
      obtain ⟨⟨t166, t167, t168⟩, A110, H⟩ := H
      replace H : (if a1 = 0 then (none) else (some (Int.tmod (wrap64 ((wrap64 ((wrap64 ((wrap64 (t157 * 16777216)) + (wrap64 (t160 * 65536)))) + (wrap64 (t163 * 256)))) + t166)) a1, t167, t168))) = some (r1, r2, r3) := H
      have A11 := Aside0.mk A110
      clear A110
      by_cases c12 : a1 = 0
      · rw [if_pos c12] at H
        exact absurd H (by simp)
      · rw [if_neg c12] at H
        have c12b0 : (a1 == 0) = false := beq_eq_false_iff_ne.mpr c12
        have c12b1 : (a1 != 0) = true := bne_iff_ne.mpr c12
        simp only [Option.some.injEq, Prod.mk.injEq] at H
        obtain ⟨rfl, rfl, rfl⟩ := H
        go_enter Try.func73, Try.ntmps73
        go_wp2_with (first | ((with_reducible refine gate_callee (f := 79) rfl ?_); refine goesL_ (some 18) rfl rfl Try.func79 (by kernel_rfl) rfl #[.pointer (some ⟨g, 0, none⟩)] rfl (by (try simp only [List.map_toArray, List.map_cons, List.map_nil]); first | done | rfl | (simp only [List.length_drop, List.length_take]; rfl)) ?_; (with_reducible refine (spec_l1Byte.calls g s0_0 s0_1 s0_2 t157 t158 t159 w0 _ ?side1 ?side2 A8.out).mono ?_); (case side1 => repeat (first | (with_reducible first | exact HI0.out | apply IsS81.alloc | apply IsS81.drewN | apply IsS81.drew | apply IsS81.set_1 | apply IsS81.set_2) | exact HI0.out)); (case side2 => repeat (first | (with_reducible first | exact HB.out | apply below_alloc | apply pw_below_drewN | apply below_drew1 | refine below_set ?_ (IsS81.ge HI0.out)) | exact HB.out)); rintro e w13 ⟨rfl, hi, hb, hk⟩; refine ⟨_, rfl, ?_⟩; have n0_ := Aside0.mk (KeepBut.trans (by repeat (first | (with_reducible first | exact HK.out | apply KeepBut.set_ | apply keep_drewN | apply keep_drew | apply keep_alloc) | exact HK.out)) hk (.inl rfl)); have n1_ := Aside0.mk (hb); have n2_ := Aside0.mk (hi); clear HK; clear HB; clear HI0; have HK := n0_; have HB := n1_; have HI0 := n2_; clear n0_ n1_ n2_; (try clear hb); (try clear hb2); (try clear hk); (try clear hi)) | ((with_reducible refine gate_callee (f := 79) rfl ?_); refine goesL_ (some 20) rfl rfl Try.func79 (by kernel_rfl) rfl #[.pointer (some ⟨g, 0, none⟩)] rfl (by (try simp only [List.map_toArray, List.map_cons, List.map_nil]); first | done | rfl | (simp only [List.length_drop, List.length_take]; rfl)) ?_; (with_reducible refine (spec_l1Byte.calls g s0_0 t158 t159 t160 t161 t162 w0 _ ?side1 ?side2 A9.out).mono ?_); (case side1 => repeat (first | (with_reducible first | exact HI0.out | apply IsS81.alloc | apply IsS81.drewN | apply IsS81.drew | apply IsS81.set_1 | apply IsS81.set_2) | exact HI0.out)); (case side2 => repeat (first | (with_reducible first | exact HB.out | apply below_alloc | apply pw_below_drewN | apply below_drew1 | refine below_set ?_ (IsS81.ge HI0.out)) | exact HB.out)); rintro e w14 ⟨rfl, hi, hb, hk⟩; refine ⟨_, rfl, ?_⟩; have n0_ := Aside0.mk (KeepBut.trans (by repeat (first | (with_reducible first | exact HK.out | apply KeepBut.set_ | apply keep_drewN | apply keep_drew | apply keep_alloc) | exact HK.out)) hk (.inl rfl)); have n1_ := Aside0.mk (hb); have n2_ := Aside0.mk (hi); clear HK; clear HB; clear HI0; have HK := n0_; have HB := n1_; have HI0 := n2_; clear n0_ n1_ n2_; (try clear hb); (try clear hb2); (try clear hk); (try clear hi)) | ((with_reducible refine gate_callee (f := 79) rfl ?_); refine goesL_ (some 22) rfl rfl Try.func79 (by kernel_rfl) rfl #[.pointer (some ⟨g, 0, none⟩)] rfl (by (try simp only [List.map_toArray, List.map_cons, List.map_nil]); first | done | rfl | (simp only [List.length_drop, List.length_take]; rfl)) ?_; (with_reducible refine (spec_l1Byte.calls g s0_0 t161 t162 t163 t164 t165 w0 _ ?side1 ?side2 A10.out).mono ?_); (case side1 => repeat (first | (with_reducible first | exact HI0.out | apply IsS81.alloc | apply IsS81.drewN | apply IsS81.drew | apply IsS81.set_1 | apply IsS81.set_2) | exact HI0.out)); (case side2 => repeat (first | (with_reducible first | exact HB.out | apply below_alloc | apply pw_below_drewN | apply below_drew1 | refine below_set ?_ (IsS81.ge HI0.out)) | exact HB.out)); rintro e w15 ⟨rfl, hi, hb, hk⟩; refine ⟨_, rfl, ?_⟩; have n0_ := Aside0.mk (KeepBut.trans (by repeat (first | (with_reducible first | exact HK.out | apply KeepBut.set_ | apply keep_drewN | apply keep_drew | apply keep_alloc) | exact HK.out)) hk (.inl rfl)); have n1_ := Aside0.mk (hb); have n2_ := Aside0.mk (hi); clear HK; clear HB; clear HI0; have HK := n0_; have HB := n1_; have HI0 := n2_; clear n0_ n1_ n2_; (try clear hb); (try clear hb2); (try clear hk); (try clear hi)) | ((with_reducible refine gate_callee (f := 79) rfl ?_); refine goesL_ (some 24) rfl rfl Try.func79 (by kernel_rfl) rfl #[.pointer (some ⟨g, 0, none⟩)] rfl (by (try simp only [List.map_toArray, List.map_cons, List.map_nil]); first | done | rfl | (simp only [List.length_drop, List.length_take]; rfl)) ?_; (with_reducible refine (spec_l1Byte.calls g s0_0 t164 t165 t166 t167 t168 w0 _ ?side1 ?side2 A11.out).mono ?_); (case side1 => repeat (first | (with_reducible first | exact HI0.out | apply IsS81.alloc | apply IsS81.drewN | apply IsS81.drew | apply IsS81.set_1 | apply IsS81.set_2) | exact HI0.out)); (case side2 => repeat (first | (with_reducible first | exact HB.out | apply below_alloc | apply pw_below_drewN | apply below_drew1 | refine below_set ?_ (IsS81.ge HI0.out)) | exact HB.out)); rintro e w16 ⟨rfl, hi, hb, hk⟩; refine ⟨_, rfl, ?_⟩; have n0_ := Aside0.mk (KeepBut.trans (by repeat (first | (with_reducible first | exact HK.out | apply KeepBut.set_ | apply keep_drewN | apply keep_drew | apply keep_alloc) | exact HK.out)) hk (.inl rfl)); have n1_ := Aside0.mk (hb); have n2_ := Aside0.mk (hi); clear HK; clear HB; clear HI0; have HK := n0_; have HB := n1_; have HI0 := n2_; clear n0_ n1_ n2_; (try clear hb); (try clear hb2); (try clear hk); (try clear hi)))
        go_ret
        exact ⟨by first | rfl | (simp [errW_none, errW_some] <;> rfl) | (simp [*, errW_none, errW_some] <;> rfl), by repeat (first | (with_reducible first | exact HI0.out | apply IsS81.alloc | apply IsS81.drewN | apply IsS81.drew | apply IsS81.set_1 | apply IsS81.set_2) | exact HI0.out), by repeat (first | (with_reducible first | exact HB.out | apply below_alloc | apply pw_below_drewN | apply below_drew1 | refine below_set ?_ (IsS81.ge HI0.out)) | exact HB.out), by repeat (first | (with_reducible first | exact HK.out | apply KeepBut.set_ | apply keep_drewN | apply keep_drew | apply keep_alloc) | exact HK.out)⟩

/-! ### spec_l1PickInt: function 74 -/
def spec_l1PickInt.f (s0_0 : List Int) (s0_1 : Int) (s0_2 : Int) (l1 : List Int) : Option (Int × Int × Int) := (spec_l1Below.f s0_0 s0_1 s0_2 (l1.length : Int)).bind fun bt169 => (if 0 ≤ bt169.1 then (if bt169.1 < (l1.length : Int) then (some (rd l1 bt169.1, bt169.2.1, bt169.2.2)) else (none)) else (none))
set_option maxHeartbeats 8000000 in
set_option maxRecDepth 100000 in
theorem spec_l1PickInt.calls (g : Nat) (s0_0 : List Int) (s0_1 : Int) (s0_2 : Int) (A1 : Option Addr) (c1 : Nat) (l1 : List Int) (r1 : Int) (r2 : Int) (r3 : Int) (w0 w : World) (hI : IsS81 w0 w g s0_0 s0_1 s0_2) (hB : Below w0.heap.size w0 w) (hr1 : Kd.C (Kd.int .i64) w A1 l1.length l1) (hc1 : l1.length ≤ c1) (hf1 : ∀ ad, A1 = some ad → 0 < l1.length → ad.block ≠ g) (h : spec_l1PickInt.f s0_0 s0_1 s0_2 l1 = some (r1, r2, r3)) :
    Calls Try.prog 74 #[.pointer (some ⟨g, 0, none⟩), .slice A1 l1.length c1] w fun e w' => e = .returned (.int .i64 r1) ∧ IsS81 w0 w' g s0_0 r2 r3 ∧ Below w0.heap.size w0 w' ∧ KeepBut w w' g none := by
  have HR1 := Aside0.mk hr1
  have HC1 := Aside0.mk hc1
  clear hr1 hc1
  have HI0 := Aside0.mk hI
  have HK := Aside0.mk (KeepBut.refl w g none)
  have HL := Aside0.mk hB.size
  clear hI
  have HW0 := Aside0.mk hB.size
  have HB := Aside0.mk hB
  clear hB
  have H : ((spec_l1Below.f s0_0 s0_1 s0_2 (l1.length : Int)).bind fun bt169 => (if 0 ≤ bt169.1 then (if bt169.1 < (l1.length : Int) then (some (rd l1 bt169.1, bt169.2.1, bt169.2.2)) else (none)) else (none))) = some (r1, r2, r3) := h
  clear h
  replace H := Option.bind_eq_some_iff.mp H
  obtain ⟨⟨t169, t170, t171⟩, A30, H⟩ := H
  replace H : (if 0 ≤ t169 then (if t169 < (l1.length : Int) then (some (rd l1 t169, t170, t171)) else (none)) else (none)) = some (r1, r2, r3) := H
  have A3 := Aside0.mk A30
  clear A30
  by_cases c4 : 0 ≤ t169
  · rw [if_pos c4] at H
    have c4b0 : decide (0 ≤ t169) = true := decide_eq_true c4
    clear c4
    by_cases c5 : t169 < (l1.length : Int)
    · rw [if_pos c5] at H
      have c5b0 : decide (t169 < (l1.length : Int)) = true := decide_eq_true c5
      clear c5
      simp only [Option.some.injEq, Prod.mk.injEq] at H
      obtain ⟨rfl, rfl, rfl⟩ := H
      go_enter Try.func74, Try.ntmps74
      go_wp2_with (first | ((with_reducible refine gate_callee (f := 73) rfl ?_); refine goesL_ (some 9) rfl rfl Try.func73 (by kernel_rfl) rfl #[.pointer (some ⟨g, 0, none⟩), .int .i64 (l1.length : Int)] rfl (by (try simp only [List.map_toArray, List.map_cons, List.map_nil]); first | done | rfl | (simp only [List.length_drop, List.length_take]; rfl)) ?_; (with_reducible refine (spec_l1Below.calls g s0_0 s0_1 s0_2 (l1.length : Int) t169 t170 t171 w0 _ ?side1 ?side2 A3.out).mono ?_); (case side1 => repeat (first | (with_reducible first | exact HI0.out | apply IsS81.alloc | apply IsS81.drewN | apply IsS81.drew | apply IsS81.set_1 | apply IsS81.set_2) | exact HI0.out)); (case side2 => repeat (first | (with_reducible first | exact HB.out | apply below_alloc | apply pw_below_drewN | apply below_drew1 | refine below_set ?_ (IsS81.ge HI0.out)) | exact HB.out)); rintro e w6 ⟨rfl, hi, hb, hk⟩; refine ⟨_, rfl, ?_⟩; have n0_ := Aside0.mk (KeepBut.trans (by repeat (first | (with_reducible first | exact HK.out | apply KeepBut.set_ | apply keep_drewN | apply keep_drew | apply keep_alloc) | exact HK.out)) hk (.inl rfl)); have n1_ := Aside0.mk (hb); have n2_ := Aside0.mk (hi); clear HK; clear HB; clear HI0; have HK := n0_; have HB := n1_; have HI0 := n2_; clear n0_ n1_ n2_; (try clear hb); (try clear hb2); (try clear hk); (try clear hi); have p172 : 0 ≤ (t169 : Int) := of_decide_eq_true (by first | (with_reducible assumption) | assumption); have q172 : t169 < (l1.length : Int) := of_decide_eq_true (by first | (with_reducible assumption) | assumption); obtain ⟨ad172, e172, hx172_0⟩ := Kd.at_int HR1.out t169 p172 q172; cases e172; replace hx172_0 := keep_cell HK.out hx172_0 (by first | (rw [add_block]; exact hf1 _ rfl (by omega)) | exact hf1 _ rfl (by omega) | exact hf1 ad172 rfl (by omega)); replace p172 := eq_true p172; replace q172 := eq_true q172))
      go_ret
      exact ⟨by first | rfl | (simp [errW_none, errW_some] <;> rfl) | (simp [*, errW_none, errW_some] <;> rfl), by repeat (first | (with_reducible first | exact HI0.out | apply IsS81.alloc | apply IsS81.drewN | apply IsS81.drew | apply IsS81.set_1 | apply IsS81.set_2) | exact HI0.out), by repeat (first | (with_reducible first | exact HB.out | apply below_alloc | apply pw_below_drewN | apply below_drew1 | refine below_set ?_ (IsS81.ge HI0.out)) | exact HB.out), by repeat (first | (with_reducible first | exact HK.out | apply KeepBut.set_ | apply keep_drewN | apply keep_drew | apply keep_alloc) | exact HK.out)⟩
    · rw [if_neg c5] at H
      exact absurd H (by simp)
  · rw [if_neg c4] at H
    exact absurd H (by simp)

/-! ### spec_l2DrawRight: function 75 -/
def spec_l2DrawRight.f (s0_0 : List Int) (s0_1 : Int) (s0_2 : Int) : Option (Int × Int × Int × Int × Int × Int) := (spec_l1Below.f s0_0 s0_1 s0_2 4).bind fun bt174 => ((spec_l1Below.f s0_0 bt174.2.1 bt174.2.2 4).bind fun bt177 => ((spec_l1PickInt.f s0_0 bt177.2.1 bt177.2.2 (([0, 5, 60, 100, 1000] : List Int))).bind fun bt183 => ((spec_l1Below.f s0_0 bt183.2.1 bt183.2.2 3).bind fun bt186 => (some (bt174.1, bt177.1, bt183.1, bt186.1, bt186.2.1, bt186.2.2)))))
set_option maxHeartbeats 8000000 in
set_option maxRecDepth 100000 in
theorem spec_l2DrawRight.calls (g : Nat) (s0_0 : List Int) (s0_1 : Int) (s0_2 : Int) (r1 : Int) (r2 : Int) (r3 : Int) (r4 : Int) (r5 : Int) (r6 : Int) (w0 w : World) (hI : IsS81 w0 w g s0_0 s0_1 s0_2) (hB : Below w0.heap.size w0 w) (h : spec_l2DrawRight.f s0_0 s0_1 s0_2 = some (r1, r2, r3, r4, r5, r6)) :
    Calls Try.prog 75 #[.pointer (some ⟨g, 0, none⟩)] w fun e w' => e = .returned (.agg #[.int .i64 r1, .int .i64 r2, .int .i64 r3, .int .i64 r4]) ∧ IsS81 w0 w' g s0_0 r5 r6 ∧ Below w0.heap.size w0 w' ∧ KeepBut w w' g none := by
  have hu45 := Try.underlying45
  have HI0 := Aside0.mk hI
  have HK := Aside0.mk (KeepBut.refl w g none)
  have HL := Aside0.mk hB.size
  clear hI
  have HW0 := Aside0.mk hB.size
  have HB := Aside0.mk hB
  clear hB
  have H : ((spec_l1Below.f s0_0 s0_1 s0_2 4).bind fun bt174 => ((spec_l1Below.f s0_0 bt174.2.1 bt174.2.2 4).bind fun bt177 => ((spec_l1PickInt.f s0_0 bt177.2.1 bt177.2.2 (([0, 5, 60, 100, 1000] : List Int))).bind fun bt183 => ((spec_l1Below.f s0_0 bt183.2.1 bt183.2.2 3).bind fun bt186 => (some (bt174.1, bt177.1, bt183.1, bt186.1, bt186.2.1, bt186.2.2)))))) = some (r1, r2, r3, r4, r5, r6) := h
  clear h
  replace H := Option.bind_eq_some_iff.mp H
  obtain ⟨⟨t174, t175, t176⟩, A20, H⟩ := H
  replace H : ((spec_l1Below.f s0_0 t175 t176 4).bind fun bt177 => ((spec_l1PickInt.f s0_0 bt177.2.1 bt177.2.2 (([0, 5, 60, 100, 1000] : List Int))).bind fun bt183 => ((spec_l1Below.f s0_0 bt183.2.1 bt183.2.2 3).bind fun bt186 => (some (t174, bt177.1, bt183.1, bt186.1, bt186.2.1, bt186.2.2))))) = some (r1, r2, r3, r4, r5, r6) := H
  have A2 := Aside0.mk A20
  clear A20
  replace H := Option.bind_eq_some_iff.mp H
  obtain ⟨⟨t177, t178, t179⟩, A30, H⟩ := H
  replace H : ((spec_l1PickInt.f s0_0 t178 t179 (([0, 5, 60, 100, 1000] : List Int))).bind fun bt183 => ((spec_l1Below.f s0_0 bt183.2.1 bt183.2.2 3).bind fun bt186 => (some (t174, t177, bt183.1, bt186.1, bt186.2.1, bt186.2.2)))) = some (r1, r2, r3, r4, r5, r6) := H
  have A3 := Aside0.mk A30
  clear A30
  obtain ⟨y180, hy180⟩ : ∃ y_ : List Int, y_ = (([0, 5, 60, 100, 1000] : List Int)) := ⟨_, rfl⟩
  replace H : ((spec_l1PickInt.f s0_0 t178 t179 y180).bind fun bt183 => ((spec_l1Below.f s0_0 bt183.2.1 bt183.2.2 3).bind fun bt186 => (some (t174, t177, bt183.1, bt186.1, bt186.2.1, bt186.2.2)))) = some (r1, r2, r3, r4, r5, r6) := by first | (rw [hy180]; with_reducible exact H) | (have H2_ := (Option.bind_some _ _).symm.trans H; rw [hy180]; with_reducible exact H2_) | (have H2_ := (Option.bind_some _ _).symm.trans H; with_reducible exact H2_) | with_reducible exact H | (rw [hy180]; exact H) | exact H
  have Ny180 := Aside0.mk hy180
  clear hy180
  replace H := Option.bind_eq_some_iff.mp H
  obtain ⟨⟨t183, t184, t185⟩, A40, H⟩ := H
  replace H : ((spec_l1Below.f s0_0 t184 t185 3).bind fun bt186 => (some (t174, t177, t183, bt186.1, bt186.2.1, bt186.2.2))) = some (r1, r2, r3, r4, r5, r6) := H
  have A4 := Aside0.mk A40
  clear A40
  replace H := Option.bind_eq_some_iff.mp H
  obtain ⟨⟨t186, t187, t188⟩, A50, H⟩ := H
  replace H : (some (t174, t177, t183, t186, t187, t188)) = some (r1, r2, r3, r4, r5, r6) := H
  have A5 := Aside0.mk A50
  clear A50
  simp only [Option.some.injEq, Prod.mk.injEq] at H
  obtain ⟨rfl, rfl, rfl, rfl, rfl, rfl⟩ := H
  go_enter Try.func75, Try.ntmps75
  go_wp2_with (first | ((with_reducible refine gate_dst (N := 2) rfl ?_); refine box_event ?hg (N := 2) ?hd (cs := #[.int .i64 0, .int .i64 0, .int .i64 0, .int .i64 0]) (t := 45) ?hr ?_; (case hd => rfl); (case hg => rfl); (case hr => first | (go_simp; done) | (go_simp; rfl)); intro gb173 hg w6 hbox hb; have n0_ := Aside0.mk (IsS81.below (by repeat (first | (with_reducible first | exact HI0.out | apply IsS81.alloc | apply IsS81.drewN | apply IsS81.drew | apply IsS81.set_1 | apply IsS81.set_2) | exact HI0.out)) hb); have n1_ := Aside0.mk (KeepBut.trans (by repeat (first | (with_reducible first | exact HK.out | apply KeepBut.set_ | apply keep_drewN | apply keep_drew | apply keep_alloc) | exact HK.out)) (KeepBut.of_below hb g none) (.inl rfl)); have n2_ := Aside0.mk (below_step (by repeat (first | (with_reducible first | exact HB.out | apply below_alloc | apply pw_below_drewN | apply below_drew1 | refine below_set ?_ (IsS81.ge HI0.out)) | exact HB.out)) hb); have n3_ := Aside0.mk (hbox); have n4_ := Aside0.mk ((by rw [hg]; exact (keep_size (w := w) (g := g) (row := none) (by repeat (first | (with_reducible first | exact HK.out | apply KeepBut.set_ | apply keep_drewN | apply keep_drew | apply keep_alloc) | exact HK.out))) : w.heap.size ≤ gb173)); have n5_ := Aside0.mk ((Nat.le_trans HW0.out (by rw [hg]; exact (keep_size (w := w) (g := g) (row := none) (by repeat (first | (with_reducible first | exact HK.out | apply KeepBut.set_ | apply keep_drewN | apply keep_drew | apply keep_alloc) | exact HK.out))) : w.heap.size ≤ gb173) : w0.heap.size ≤ gb173)); have n6_ := Aside0.mk ((by rw [hg]; exact Nat.ne_of_lt (IsS81.lt (show IsS81 w0 _ g s0_0 s0_1 s0_2 from by repeat (first | (with_reducible first | exact HI0.out | apply IsS81.alloc | apply IsS81.drewN | apply IsS81.drew | apply IsS81.set_1 | apply IsS81.set_2) | exact HI0.out))) : g ≠ gb173)); have n7_ := Aside0.mk ((by rw [hg]; exact Nat.ne_of_gt (IsS81.lt (show IsS81 w0 _ g s0_0 s0_1 s0_2 from by repeat (first | (with_reducible first | exact HI0.out | apply IsS81.alloc | apply IsS81.drewN | apply IsS81.drew | apply IsS81.set_1 | apply IsS81.set_2) | exact HI0.out))) : gb173 ≠ g)); clear HI0; clear HK; clear HB; have HI0 := n0_; have HK := n1_; have HB := n2_; have BK173 := n3_; have GW173 := n4_; have GE173 := n5_; have NB0_173 := n6_; have NB173_0 := n7_; clear n0_ n1_ n2_ n3_ n4_ n5_ n6_ n7_; clear hb hbox hg) | ((with_reducible refine gate_callee (f := 73) rfl ?_); refine goesL_ (some 4) rfl rfl Try.func73 (by kernel_rfl) rfl #[.pointer (some ⟨g, 0, none⟩), .int .i64 4] rfl (by (try simp only [List.map_toArray, List.map_cons, List.map_nil]); first | done | rfl | (simp only [List.length_drop, List.length_take]; rfl)) ?_; (with_reducible refine (spec_l1Below.calls g s0_0 s0_1 s0_2 4 t174 t175 t176 w0 _ ?side1 ?side2 A2.out).mono ?_); (case side1 => repeat (first | (with_reducible first | exact HI0.out | apply IsS81.alloc | apply IsS81.drewN | apply IsS81.drew | apply IsS81.set_1 | apply IsS81.set_2 | refine IsS81.far ?_ NB0_173.out _) | exact HI0.out)); (case side2 => repeat (first | (with_reducible first | exact HB.out | apply below_alloc | apply pw_below_drewN | apply below_drew1 | refine below_set ?_ (IsS81.ge HI0.out) | refine below_set ?_ GE173.out) | exact HB.out)); rintro e w7 ⟨rfl, hi, hb, hk⟩; refine ⟨_, rfl, ?_⟩; have n0_ := Aside0.mk (KeepBut.blk hk (g' := gb173) (o := .cells #[.int .i64 0, .int .i64 0, .int .i64 0, .int .i64 0] 45 (0, 0)) (by (with_reducible repeat (first | refine blk_drewN ?_ _ | refine blk_drew ?_ | refine blk_alloc ?_ _)); exact BK173.out) NB173_0.out (by simp)); have n1_ := Aside0.mk (KeepBut.trans (by repeat (first | (with_reducible first | exact HK.out | apply KeepBut.set_ | apply keep_drewN | apply keep_drew | apply keep_alloc | refine keep_far ?_ GW173.out _) | exact HK.out)) hk (.inl rfl)); have n2_ := Aside0.mk (hb); have n3_ := Aside0.mk (hi); clear BK173; clear HK; clear HB; clear HI0; have BK173 := n0_; have HK := n1_; have HB := n2_; have HI0 := n3_; clear n0_ n1_ n2_ n3_; (try clear hb); (try clear hb2); (try clear hk); (try clear hi)) | ((with_reducible refine gate_callee (f := 73) rfl ?_); refine goesL_ (some 6) rfl rfl Try.func73 (by kernel_rfl) rfl #[.pointer (some ⟨g, 0, none⟩), .int .i64 4] rfl (by (try simp only [List.map_toArray, List.map_cons, List.map_nil]); first | done | rfl | (simp only [List.length_drop, List.length_take]; rfl)) ?_; (with_reducible refine (spec_l1Below.calls g s0_0 t175 t176 4 t177 t178 t179 w0 _ ?side1 ?side2 A3.out).mono ?_); (case side1 => repeat (first | (with_reducible first | exact HI0.out | apply IsS81.alloc | apply IsS81.drewN | apply IsS81.drew | apply IsS81.set_1 | apply IsS81.set_2 | refine IsS81.far ?_ NB0_173.out _) | exact HI0.out)); (case side2 => repeat (first | (with_reducible first | exact HB.out | apply below_alloc | apply pw_below_drewN | apply below_drew1 | refine below_set ?_ (IsS81.ge HI0.out) | refine below_set ?_ GE173.out) | exact HB.out)); rintro e w8 ⟨rfl, hi, hb, hk⟩; refine ⟨_, rfl, ?_⟩; have n0_ := Aside0.mk (KeepBut.blk hk (g' := gb173) (o := .cells #[.int .i64 0, .int .i64 0, .int .i64 0, .int .i64 0] 45 (0, 0)) (by (with_reducible repeat (first | refine blk_drewN ?_ _ | refine blk_drew ?_ | refine blk_alloc ?_ _)); exact BK173.out) NB173_0.out (by simp)); have n1_ := Aside0.mk (KeepBut.trans (by repeat (first | (with_reducible first | exact HK.out | apply KeepBut.set_ | apply keep_drewN | apply keep_drew | apply keep_alloc | refine keep_far ?_ GW173.out _) | exact HK.out)) hk (.inl rfl)); have n2_ := Aside0.mk (hb); have n3_ := Aside0.mk (hi); clear BK173; clear HK; clear HB; clear HI0; have BK173 := n0_; have HK := n1_; have HB := n2_; have HI0 := n3_; clear n0_ n1_ n2_ n3_; (try clear hb); (try clear hb2); (try clear hk); (try clear hi)) | ((with_reducible refine gate_dst (N := 8) rfl ?_); refine Kd.R_lit (Kd.int .i64) _ 3 ?hg (N := 8) ?hd (xs := ([0, 5, 60, 100, 1000] : List Int)) (inner := [.int .i64 0, .int .i64 5, .int .i64 60, .int .i64 100, .int .i64 1000]) (ok := fun _ => True) (okp := fun _ => True) ?hr ?hp (fun _ hk => hk) trivial (Below.refl _ _) (Nat.le_refl _) (by simp) ?_; (case hd => rfl); (case hg => rfl); (case hr => first | (go_simp; done) | (go_simp; rfl)); (case hp => exact (Reps.one (show Kd.M (Kd.int .i64) _ _ _ 0 [.int .i64 0] from rfl) (Reps.one (show Kd.M (Kd.int .i64) _ _ _ 5 [.int .i64 5] from rfl) (Reps.one (show Kd.M (Kd.int .i64) _ _ _ 60 [.int .i64 60] from rfl) (Reps.one (show Kd.M (Kd.int .i64) _ _ _ 100 [.int .i64 100] from rfl) (Reps.one (show Kd.M (Kd.int .i64) _ _ _ 1000 [.int .i64 1000] from rfl) (Reps.none _ _))))))); intro v181 w9 ho10 hb hg_ hnew_; clear hg_ hnew_; (first | rw [← Ny180.out] at ho10 | (simp only [Int.reduceToNat] at ho10; rw [← Ny180.out] at ho10)); have n0_ := Aside0.mk (Kd.R_lower ho10 (keep_size (w := w) (g := g) (row := none) (by repeat (first | (with_reducible first | exact HK.out | apply KeepBut.set_ | apply keep_drewN | apply keep_drew | apply keep_alloc | refine keep_far ?_ GW173.out _) | exact HK.out)))); have n1_ := Aside0.mk (IsS81.below (by repeat (first | (with_reducible first | exact HI0.out | apply IsS81.alloc | apply IsS81.drewN | apply IsS81.drew | apply IsS81.set_1 | apply IsS81.set_2 | refine IsS81.far ?_ NB0_173.out _) | exact HI0.out)) hb); have n2_ := Aside0.mk (blk_below (g := gb173) (o := .cells #[.int .i64 0, .int .i64 0, .int .i64 0, .int .i64 0] 45 (0, 0)) (by (with_reducible repeat (first | refine blk_drewN ?_ _ | refine blk_drew ?_ | refine blk_alloc ?_ _)); exact BK173.out) hb); have n3_ := Aside0.mk (KeepBut.trans (by repeat (first | (with_reducible first | exact HK.out | apply KeepBut.set_ | apply keep_drewN | apply keep_drew | apply keep_alloc | refine keep_far ?_ GW173.out _) | exact HK.out)) (KeepBut.of_below hb g none) (.inl rfl)); have n4_ := Aside0.mk (below_step (by repeat (first | (with_reducible first | exact HB.out | apply below_alloc | apply pw_below_drewN | apply below_drew1 | refine below_set ?_ (IsS81.ge HI0.out) | refine below_set ?_ GE173.out) | exact HB.out)) hb); clear HI0; clear BK173; clear HK; clear HB; have HO182 := n0_; have HI0 := n1_; have BK173 := n2_; have HK := n3_; have HB := n4_; clear n0_ n1_ n2_ n3_ n4_; clear hb ho10; obtain ⟨Ao11, co11, eo11⟩ := Kd.R_slice HO182.out; subst eo11) | ((with_reducible refine gate_callee (f := 74) rfl ?_); refine goesL_ (some 9) rfl rfl Try.func74 (by kernel_rfl) rfl #[.pointer (some ⟨g, 0, none⟩), .slice Ao11 y180.length co11] rfl (by (try simp only [List.map_toArray, List.map_cons, List.map_nil]); first | done | rfl | (simp only [List.length_drop, List.length_take]; rfl)) ?_; (with_reducible refine (spec_l1PickInt.calls g s0_0 t178 t179 _ _ y180 t183 t184 t185 w0 _ ?side1 ?side2 ?side3 ?side4 ?side5 A4.out).mono ?_); (case side1 => repeat (first | (with_reducible first | exact HI0.out | apply IsS81.alloc | apply IsS81.drewN | apply IsS81.drew | apply IsS81.set_1 | apply IsS81.set_2 | refine IsS81.far ?_ NB0_173.out _) | exact HI0.out)); (case side2 => repeat (first | (with_reducible first | exact HB.out | apply below_alloc | apply pw_below_drewN | apply below_drew1 | refine below_set ?_ (IsS81.ge HI0.out) | refine below_set ?_ GE173.out) | exact HB.out)); (case side3 => repeat (first | exact (Kd.R_reads' HO182.out).2.2 | (with_reducible refine Kd.C_alloc ?_ _) | (with_reducible refine Kd.C_drewN ?_ _) | (with_reducible refine Kd.C_drew ?_))); (case side4 => exact (Kd.R_reads' HO182.out).2.1); (case side5 => exact far_slice (IsS81.own_ne HI0.out HO182.out (by decide))); rintro e w12 ⟨rfl, hi, hb, hk⟩; refine ⟨_, rfl, ?_⟩; have n0_ := Aside0.mk (KeepBut.blk hk (g' := gb173) (o := .cells #[.int .i64 0, .int .i64 0, .int .i64 0, .int .i64 0] 45 (0, 0)) (by (with_reducible repeat (first | refine blk_drewN ?_ _ | refine blk_drew ?_ | refine blk_alloc ?_ _)); exact BK173.out) NB173_0.out (by simp)); have n1_ := Aside0.mk (Kd.R_mono (Kd.R_keep (IsS81.apart (show IsS81 w0 _ g s0_0 t178 t179 from by repeat (first | (with_reducible first | exact HI0.out | apply IsS81.alloc | apply IsS81.drewN | apply IsS81.drew | apply IsS81.set_1 | apply IsS81.set_2 | refine IsS81.far ?_ NB0_173.out _) | exact HI0.out)) (by (with_reducible repeat (first | apply Kd.R_alloc | apply Kd.R_drewN | apply Kd.R_drew)); exact HO182.out) (by decide)) hk (fun _ h => h.2)) (fun _ h => h.1)); have n2_ := Aside0.mk (KeepBut.trans (by repeat (first | (with_reducible first | exact HK.out | apply KeepBut.set_ | apply keep_drewN | apply keep_drew | apply keep_alloc | refine keep_far ?_ GW173.out _) | exact HK.out)) hk (.inl rfl)); have n3_ := Aside0.mk (hb); have n4_ := Aside0.mk (hi); clear BK173; clear HO182; clear HK; clear HB; clear HI0; have BK173 := n0_; have HO182 := n1_; have HK := n2_; have HB := n3_; have HI0 := n4_; clear n0_ n1_ n2_ n3_ n4_; (try clear hb); (try clear hb2); (try clear hk); (try clear hi)) | ((with_reducible refine gate_callee (f := 73) rfl ?_); refine goesL_ (some 11) rfl rfl Try.func73 (by kernel_rfl) rfl #[.pointer (some ⟨g, 0, none⟩), .int .i64 3] rfl (by (try simp only [List.map_toArray, List.map_cons, List.map_nil]); first | done | rfl | (simp only [List.length_drop, List.length_take]; rfl)) ?_; (with_reducible refine (spec_l1Below.calls g s0_0 t184 t185 3 t186 t187 t188 w0 _ ?side1 ?side2 A5.out).mono ?_); (case side1 => repeat (first | (with_reducible first | exact HI0.out | apply IsS81.alloc | apply IsS81.drewN | apply IsS81.drew | apply IsS81.set_1 | apply IsS81.set_2 | refine IsS81.far ?_ NB0_173.out _) | exact HI0.out)); (case side2 => repeat (first | (with_reducible first | exact HB.out | apply below_alloc | apply pw_below_drewN | apply below_drew1 | refine below_set ?_ (IsS81.ge HI0.out) | refine below_set ?_ GE173.out) | exact HB.out)); rintro e w13 ⟨rfl, hi, hb, hk⟩; refine ⟨_, rfl, ?_⟩; have n0_ := Aside0.mk (KeepBut.blk hk (g' := gb173) (o := .cells #[.int .i64 0, .int .i64 0, .int .i64 0, .int .i64 0] 45 (0, 0)) (by (with_reducible repeat (first | refine blk_drewN ?_ _ | refine blk_drew ?_ | refine blk_alloc ?_ _)); exact BK173.out) NB173_0.out (by simp)); have n1_ := Aside0.mk (Kd.R_mono (Kd.R_keep (IsS81.apart (show IsS81 w0 _ g s0_0 t184 t185 from by repeat (first | (with_reducible first | exact HI0.out | apply IsS81.alloc | apply IsS81.drewN | apply IsS81.drew | apply IsS81.set_1 | apply IsS81.set_2 | refine IsS81.far ?_ NB0_173.out _) | exact HI0.out)) (by (with_reducible repeat (first | apply Kd.R_alloc | apply Kd.R_drewN | apply Kd.R_drew)); exact HO182.out) (by decide)) hk (fun _ h => h.2)) (fun _ h => h.1)); have n2_ := Aside0.mk (KeepBut.trans (by repeat (first | (with_reducible first | exact HK.out | apply KeepBut.set_ | apply keep_drewN | apply keep_drew | apply keep_alloc | refine keep_far ?_ GW173.out _) | exact HK.out)) hk (.inl rfl)); have n3_ := Aside0.mk (hb); have n4_ := Aside0.mk (hi); clear BK173; clear HO182; clear HK; clear HB; clear HI0; have BK173 := n0_; have HO182 := n1_; have HK := n2_; have HB := n3_; have HI0 := n4_; clear n0_ n1_ n2_ n3_ n4_; (try clear hb); (try clear hb2); (try clear hk); (try clear hi); have hnb14 := NB173_0.out; have hnc14 := NB0_173.out; have hcz15_0 : w13.cell? ⟨gb173, 0, none⟩ = some (.int .i64 0) := (blk_cell BK173.out 0).trans rfl; have hcz15_1 : w13.cell? ⟨gb173, 1, none⟩ = some (.int .i64 0) := (blk_cell BK173.out 1).trans rfl; have hcz15_2 : w13.cell? ⟨gb173, 2, none⟩ = some (.int .i64 0) := (blk_cell BK173.out 2).trans rfl; have hcz15_3 : w13.cell? ⟨gb173, 3, none⟩ = some (.int .i64 0) := (blk_cell BK173.out 3).trans rfl; have hfz15_0 := blk_frozen BK173.out 0; have hfz15_1 := blk_frozen BK173.out 1; have hfz15_2 := blk_frozen BK173.out 2; have hfz15_3 := blk_frozen BK173.out 3))
  refine bodyPost_ret (results_cell_row rfl _ _ gb173 45 #[.int .i64 t174, .int .i64 t177, .int .i64 t183, .int .i64 t186] (0, 0) _ rfl (by (with_reducible repeat (first | refine blk_drewN ?_ _ | refine blk_drew ?_ | refine blk_alloc ?_ _)); refine blk_put (cs := #[.int .i64 t174, .int .i64 t177, .int .i64 t183, .int .i64 0]) ?_ 3 _ rfl; (with_reducible repeat (first | refine blk_drewN ?_ _ | refine blk_drew ?_ | refine blk_alloc ?_ _)); refine blk_put (cs := #[.int .i64 t174, .int .i64 t177, .int .i64 0, .int .i64 0]) ?_ 2 _ rfl; (with_reducible repeat (first | refine blk_drewN ?_ _ | refine blk_drew ?_ | refine blk_alloc ?_ _)); refine blk_put (cs := #[.int .i64 t174, .int .i64 0, .int .i64 0, .int .i64 0]) ?_ 1 _ rfl; (with_reducible repeat (first | refine blk_drewN ?_ _ | refine blk_drew ?_ | refine blk_alloc ?_ _)); refine blk_put (cs := #[.int .i64 0, .int .i64 0, .int .i64 0, .int .i64 0]) ?_ 0 _ rfl; (with_reducible repeat (first | refine blk_drewN ?_ _ | refine blk_drew ?_ | refine blk_alloc ?_ _)); exact BK173.out) Try.underlying45 rfl (by kernel_rfl)) rfl ?_
  exact ⟨by first | rfl | (simp [errW_none, errW_some] <;> rfl) | (simp [*, errW_none, errW_some] <;> rfl), by repeat (first | (with_reducible first | exact HI0.out | apply IsS81.alloc | apply IsS81.drewN | apply IsS81.drew | apply IsS81.set_1 | apply IsS81.set_2 | refine IsS81.far ?_ NB0_173.out _) | exact HI0.out), by repeat (first | (with_reducible first | exact HB.out | apply below_alloc | apply pw_below_drewN | apply below_drew1 | refine below_set ?_ (IsS81.ge HI0.out) | refine below_set ?_ GE173.out) | exact HB.out), by repeat (first | (with_reducible first | exact HK.out | apply KeepBut.set_ | apply keep_drewN | apply keep_drew | apply keep_alloc | refine keep_far ?_ GW173.out _) | exact HK.out)⟩

theorem ld_row {P : Program} {ops : Array Oper} {rest : List Oper} {o : Oper} {a : Act} {Q : Exit → Act → World → Prop} {W : World} {t t' : TypeId} {x : Operand} {n : Nat} (g : Nat) (cs : Array Value) (ho : o.op = .load t x) (hw : Region.wanted o (yielded ops a.tmps) = true) (hx : a.eval x = .pointer (some ⟨g, 0, none⟩)) [hA : Go.Proofs.YtajblkfgdalldaaH.AggT P t n] (hn : cs.size = n)
    (hB : W.heap[g]? = some (.cells cs t' (0, 0))) (h : wpList P ops Q rest (a.put o.dst (.agg cs)) W) : wpList P ops Q (o :: rest) a W := by
  refine Go.Proofs.YtajblkfgdalldaaH.ev_val hw ?_ h
  obtain ⟨d, hu, hd⟩ := Option.map_eq_some_iff.1 hA.agg
  unfold execOp
  simp only [ho, hx, Instr.loadAt, Instr.sureAddr, Sem.run_bind, Sem.run_pure, Result.andThen_ok, run_loadVar_row W g t' t cs (0, 0) d hB hu (by cases d <;> first | rfl | (exact hd)) (by rw [hA.size, hn])]
local instance : Go.Proofs.YtajblkfgdalldaaH.AggT Try.prog 45 4 := ⟨by kernel_rfl, by kernel_rfl⟩

/-! ### spec_l3DrawRight: function 72 -/
def spec_l3DrawRight.l0 : Nat → Int → List Int → Int → Int → List Int → List Int → Option (List Int × List Int × Int × Int)
  | 0, _, _, _, _, _, _ => none
  | k + 1, x4, x1000, x1001, x1002, x197000, x197001 => (spec_l1Below.f x1000 x1001 x1002 6).bind fun bt197 => (if x4 < bt197.1 then ((spec_l2DrawRight.f x1000 bt197.2.1 bt197.2.2).bind fun bt200 => (if 0 ≤ bt200.1 then (if bt200.1 < (x197001.length : Int) then ((spec_Pay.f k x197000 x197001 bt200.1 bt200.2.1 bt200.2.2.1 (rd x197001 bt200.1)).bind fun bt208 => (spec_l3DrawRight.l0 k (wrap64 (x4 + 1)) x1000 bt200.2.2.2.2.1 bt200.2.2.2.2.2 bt208.1 bt208.2.1)) else (none)) else (none))) else (some (x197000, x197001, bt197.2.1, bt197.2.2)))
def spec_l3DrawRight.f (k : Nat) (s0_0 : List Int) (s0_1 : Int) (s0_2 : Int) : Option (List Int × List Int × Int × Int) := (spec_LedgerNew.f k).bind fun bt190 => (spec_l3DrawRight.l0 k 0 s0_0 s0_1 s0_2 bt190.1 bt190.2)
theorem spec_l3DrawRight.mono_l : ∀ k, (∀ y0 y1 y2 y3 y4 y5, LeO (spec_l3DrawRight.l0 k y0 y1 y2 y3 y4 y5) (spec_l3DrawRight.l0 (k + 1) y0 y1 y2 y3 y4 y5))
  | 0 => fun _ _ _ _ _ _ r h => by simp [spec_l3DrawRight.l0] at h
  | k + 1 => by
    have ih0 := spec_l3DrawRight.mono_l k
    · intro y0 y1 y2 y3 y4 y5
      unfold spec_l3DrawRight.l0
      repeat' first
      | (with_reducible exact ih0 _ _ _ _ _ _)
      | (with_reducible exact spec_LedgerNew.mono _)
      | (with_reducible exact spec_Pay.mono _ _ _ _ _ _ _)
      | (with_reducible exact LeO.refl _)
      | (with_reducible exact LeO.none _)
      | (with_reducible refine LeO.ite ?_ ?_)
      | (with_reducible refine LeO.bind ?_ (fun _ => ?_))
      | exact ih0 _ _ _ _ _ _
      | exact spec_LedgerNew.mono _
      | exact spec_Pay.mono _ _ _ _ _ _ _
      | exact LeO.none _
      | refine LeO.ite ?_ ?_
      | refine LeO.bind ?_ (fun _ => ?_)
theorem spec_l3DrawRight.mono : ∀ a0 a1 a2 k, LeO (spec_l3DrawRight.f k a0 a1 a2) (spec_l3DrawRight.f (k + 1) a0 a1 a2) := by
  intro a0 a1 a2 k
  have ih0 := spec_l3DrawRight.mono_l k
  unfold spec_l3DrawRight.f
  repeat' first
      | (with_reducible exact ih0 _ _ _ _ _ _)
      | (with_reducible exact spec_LedgerNew.mono _)
      | (with_reducible exact spec_Pay.mono _ _ _ _ _ _ _)
      | (with_reducible exact LeO.refl _)
      | (with_reducible exact LeO.none _)
      | (with_reducible refine LeO.ite ?_ ?_)
      | (with_reducible refine LeO.bind ?_ (fun _ => ?_))
      | exact ih0 _ _ _ _ _ _
      | exact spec_LedgerNew.mono _
      | exact spec_Pay.mono _ _ _ _ _ _ _
      | exact LeO.none _
      | refine LeO.ite ?_ ?_
      | refine LeO.bind ?_ (fun _ => ?_)
set_option maxHeartbeats 8000000 in
set_option maxRecDepth 100000 in
theorem spec_l3DrawRight.calls (k : Nat) (g : Nat) (s0_0 : List Int) (s0_1 : Int) (s0_2 : Int) (r1 : List Int) (r2 : List Int) (r3 : Int) (r4 : Int) (w0 w : World) (hI : IsS81 w0 w g s0_0 s0_1 s0_2) (hB : Below w0.heap.size w0 w) (h : spec_l3DrawRight.f k s0_0 s0_1 s0_2 = some (r1, r2, r3, r4)) :
    Calls Try.prog 72 #[.pointer (some ⟨g, 0, none⟩)] w fun e w' => ∃ v0_ v1_ : Value, e = .returned (.agg #[v0_, v1_]) ∧ Kd.R (Kd.int .i64) 3 w' w.heap.size (fun k_ => some k_ ≠ (v1_ : Value).ownBlock) v0_ r1 ∧ Kd.R (Kd.int .i64) 3 w' w.heap.size (fun k_ => some k_ ≠ (v0_ : Value).ownBlock) v1_ r2 ∧ IsS81 w0 w' g s0_0 r3 r4 ∧ Below w0.heap.size w0 w' ∧ KeepBut w w' g none := by
  have hu27 := Try.underlying27
  have hu45 := Try.underlying45
  have HI0 := Aside0.mk hI
  have HK := Aside0.mk (KeepBut.refl w g none)
  have HL := Aside0.mk hB.size
  clear hI
  have HW0 := Aside0.mk hB.size
  have HB := Aside0.mk hB
  clear hB
  have H : ((spec_LedgerNew.f k).bind fun bt190 => (spec_l3DrawRight.l0 k 0 s0_0 s0_1 s0_2 bt190.1 bt190.2)) = some (r1, r2, r3, r4) := h
  clear h
  replace H := Option.bind_eq_some_iff.mp H
  obtain ⟨⟨t190, t193⟩, A20, H⟩ := H
  replace H : (spec_l3DrawRight.l0 k 0 s0_0 s0_1 s0_2 t190 t193) = some (r1, r2, r3, r4) := H
  have A2 := Aside0.mk A20
  clear A20
  have H' := Aside0.mk H
  clear H
  go_enter Try.func72, Try.ntmps72
  go_wp2_with (first | ((with_reducible refine gate_dst (N := 2) rfl ?_); refine box_event ?hg (N := 2) ?hd (cs := #[.slice none 0 0, .slice none 0 0]) (t := 27) ?hr ?_; (case hd => rfl); (case hg => rfl); (case hr => first | (go_simp; done) | (go_simp; rfl)); intro gb189 hg w3 hbox hb; have n0_ := Aside0.mk (IsS81.below (by repeat (first | (with_reducible first | exact HI0.out | apply IsS81.alloc | apply IsS81.drewN | apply IsS81.drew | apply IsS81.set_1 | apply IsS81.set_2) | exact HI0.out)) hb); have n1_ := Aside0.mk (KeepBut.trans (by repeat (first | (with_reducible first | exact HK.out | apply KeepBut.set_ | apply keep_drewN | apply keep_drew | apply keep_alloc) | exact HK.out)) (KeepBut.of_below hb g none) (.inl rfl)); have n2_ := Aside0.mk (below_step (by repeat (first | (with_reducible first | exact HB.out | apply below_alloc | apply pw_below_drewN | apply below_drew1 | refine below_set ?_ (IsS81.ge HI0.out)) | exact HB.out)) hb); have n3_ := Aside0.mk (hbox); have n4_ := Aside0.mk ((by rw [hg]; exact (keep_size (w := w) (g := g) (row := none) (by repeat (first | (with_reducible first | exact HK.out | apply KeepBut.set_ | apply keep_drewN | apply keep_drew | apply keep_alloc) | exact HK.out))) : w.heap.size ≤ gb189)); have n5_ := Aside0.mk ((Nat.le_trans HW0.out (by rw [hg]; exact (keep_size (w := w) (g := g) (row := none) (by repeat (first | (with_reducible first | exact HK.out | apply KeepBut.set_ | apply keep_drewN | apply keep_drew | apply keep_alloc) | exact HK.out))) : w.heap.size ≤ gb189) : w0.heap.size ≤ gb189)); have n6_ := Aside0.mk ((by rw [hg]; exact Nat.ne_of_lt (IsS81.lt (show IsS81 w0 _ g s0_0 s0_1 s0_2 from by repeat (first | (with_reducible first | exact HI0.out | apply IsS81.alloc | apply IsS81.drewN | apply IsS81.drew | apply IsS81.set_1 | apply IsS81.set_2) | exact HI0.out))) : g ≠ gb189)); have n7_ := Aside0.mk ((by rw [hg]; exact Nat.ne_of_gt (IsS81.lt (show IsS81 w0 _ g s0_0 s0_1 s0_2 from by repeat (first | (with_reducible first | exact HI0.out | apply IsS81.alloc | apply IsS81.drewN | apply IsS81.drew | apply IsS81.set_1 | apply IsS81.set_2) | exact HI0.out))) : gb189 ≠ g)); clear HI0; clear HK; clear HB; have HI0 := n0_; have HK := n1_; have HB := n2_; have BK189 := n3_; have GW189 := n4_; have GE189 := n5_; have NB0_189 := n6_; have NB189_0 := n7_; clear n0_ n1_ n2_ n3_ n4_ n5_ n6_ n7_; clear hb hbox hg) | ((with_reducible refine gate_callee (f := 20) rfl ?_); refine goesL_ (some 6) rfl rfl Try.func20 (by kernel_rfl) rfl #[] rfl (by (try simp only [List.map_toArray, List.map_cons, List.map_nil]); first | done | rfl | (simp only [List.length_drop, List.length_take]; rfl)) ?_; (with_reducible refine (spec_LedgerNew.calls k  t190 t193 _ A2.out).mono ?_); rintro e w4 ⟨v191, v194, rfl, ho0, ho1, hb⟩; refine ⟨_, rfl, ?_⟩; have n0_ := Aside0.mk (Kd.R_lower ho0 (keep_size (w := w) (g := g) (row := none) (by repeat (first | (with_reducible first | exact HK.out | apply KeepBut.set_ | apply keep_drewN | apply keep_drew | apply keep_alloc | refine keep_far ?_ GW189.out _) | exact HK.out)))); have n1_ := Aside0.mk (Kd.R_lower ho1 (keep_size (w := w) (g := g) (row := none) (by repeat (first | (with_reducible first | exact HK.out | apply KeepBut.set_ | apply keep_drewN | apply keep_drew | apply keep_alloc | refine keep_far ?_ GW189.out _) | exact HK.out)))); have n2_ := Aside0.mk (IsS81.below (by repeat (first | (with_reducible first | exact HI0.out | apply IsS81.alloc | apply IsS81.drewN | apply IsS81.drew | apply IsS81.set_1 | apply IsS81.set_2 | refine IsS81.far ?_ NB0_189.out _) | exact HI0.out)) hb); have n3_ := Aside0.mk (blk_below (g := gb189) (o := .cells #[.slice none 0 0, .slice none 0 0] 27 (0, 0)) (by (with_reducible repeat (first | refine blk_drewN ?_ _ | refine blk_drew ?_ | refine blk_alloc ?_ _)); exact BK189.out) hb); have n4_ := Aside0.mk (KeepBut.trans (by repeat (first | (with_reducible first | exact HK.out | apply KeepBut.set_ | apply keep_drewN | apply keep_drew | apply keep_alloc | refine keep_far ?_ GW189.out _) | exact HK.out)) (KeepBut.of_below hb g none) (.inl rfl)); have n5_ := Aside0.mk (below_step (by repeat (first | (with_reducible first | exact HB.out | apply below_alloc | apply pw_below_drewN | apply below_drew1 | refine below_set ?_ (IsS81.ge HI0.out) | refine below_set ?_ GE189.out) | exact HB.out)) hb); clear HI0; clear BK189; clear HK; clear HB; have HO192 := n0_; have HO195 := n1_; have HI0 := n2_; have BK189 := n3_; have HK := n4_; have HB := n5_; clear n0_ n1_ n2_ n3_ n4_ n5_; (try clear hb); (try clear hb2); (try clear hk); (try clear hi); (try clear ho0); (try clear ho1)) | ((with_reducible refine gate_dst (N := 3) rfl ?_); refine box_event ?hg (N := 3) ?hd (cs := #[.slice none 0 0, .slice none 0 0]) (t := 27) ?hr ?_; (case hd => rfl); (case hg => rfl); (case hr => first | (go_simp; done) | (go_simp; rfl)); intro gb196 hg w5 hbox hb; have n0_ := Aside0.mk (Kd.R_below (by (with_reducible repeat (first | apply Kd.R_alloc | apply Kd.R_drewN | apply Kd.R_drew)); exact HO192.out) hb); have n1_ := Aside0.mk (Kd.R_below (by (with_reducible repeat (first | apply Kd.R_alloc | apply Kd.R_drewN | apply Kd.R_drew)); exact HO195.out) hb); have n2_ := Aside0.mk (IsS81.below (by repeat (first | (with_reducible first | exact HI0.out | apply IsS81.alloc | apply IsS81.drewN | apply IsS81.drew | apply IsS81.set_1 | apply IsS81.set_2 | refine IsS81.far ?_ NB0_189.out _) | exact HI0.out)) hb); have n3_ := Aside0.mk (blk_below (g := gb189) (o := .cells #[.slice none 0 0, .slice none 0 0] 27 (0, 0)) (by (with_reducible repeat (first | refine blk_drewN ?_ _ | refine blk_drew ?_ | refine blk_alloc ?_ _)); exact BK189.out) hb); have n4_ := Aside0.mk (KeepBut.trans (by repeat (first | (with_reducible first | exact HK.out | apply KeepBut.set_ | apply keep_drewN | apply keep_drew | apply keep_alloc | refine keep_far ?_ GW189.out _) | exact HK.out)) (KeepBut.of_below hb g none) (.inl rfl)); have n5_ := Aside0.mk (below_step (by repeat (first | (with_reducible first | exact HB.out | apply below_alloc | apply pw_below_drewN | apply below_drew1 | refine below_set ?_ (IsS81.ge HI0.out) | refine below_set ?_ GE189.out) | exact HB.out)) hb); have n6_ := Aside0.mk (hbox); have n7_ := Aside0.mk ((by rw [hg]; exact (keep_size (w := w) (g := g) (row := none) (by repeat (first | (with_reducible first | exact HK.out | apply KeepBut.set_ | apply keep_drewN | apply keep_drew | apply keep_alloc | refine keep_far ?_ GW189.out _) | exact HK.out))) : w.heap.size ≤ gb196)); have n8_ := Aside0.mk ((Nat.le_trans HW0.out (by rw [hg]; exact (keep_size (w := w) (g := g) (row := none) (by repeat (first | (with_reducible first | exact HK.out | apply KeepBut.set_ | apply keep_drewN | apply keep_drew | apply keep_alloc | refine keep_far ?_ GW189.out _) | exact HK.out))) : w.heap.size ≤ gb196) : w0.heap.size ≤ gb196)); have n9_ := Aside0.mk ((by rw [hg]; exact Nat.ne_of_lt (blk_lt (g := gb189) (o := .cells #[.slice none 0 0, .slice none 0 0] 27 (0, 0)) (by (with_reducible repeat (first | refine blk_drewN ?_ _ | refine blk_drew ?_ | refine blk_alloc ?_ _)); exact BK189.out)) : gb189 ≠ gb196)); have n10_ := Aside0.mk ((by rw [hg]; exact Nat.ne_of_gt (blk_lt (g := gb189) (o := .cells #[.slice none 0 0, .slice none 0 0] 27 (0, 0)) (by (with_reducible repeat (first | refine blk_drewN ?_ _ | refine blk_drew ?_ | refine blk_alloc ?_ _)); exact BK189.out)) : gb196 ≠ gb189)); have n11_ := Aside0.mk ((by rw [hg]; exact Nat.ne_of_lt (IsS81.lt (show IsS81 w0 _ g s0_0 s0_1 s0_2 from by repeat (first | (with_reducible first | exact HI0.out | apply IsS81.alloc | apply IsS81.drewN | apply IsS81.drew | apply IsS81.set_1 | apply IsS81.set_2 | refine IsS81.far ?_ NB0_189.out _) | exact HI0.out))) : g ≠ gb196)); have n12_ := Aside0.mk ((by rw [hg]; exact Nat.ne_of_gt (IsS81.lt (show IsS81 w0 _ g s0_0 s0_1 s0_2 from by repeat (first | (with_reducible first | exact HI0.out | apply IsS81.alloc | apply IsS81.drewN | apply IsS81.drew | apply IsS81.set_1 | apply IsS81.set_2 | refine IsS81.far ?_ NB0_189.out _) | exact HI0.out))) : gb196 ≠ g)); clear HO192; clear HO195; clear HI0; clear BK189; clear HK; clear HB; have HO192 := n0_; have HO195 := n1_; have HI0 := n2_; have BK189 := n3_; have HK := n4_; have HB := n5_; have BK196 := n6_; have GW196 := n7_; have GE196 := n8_; have NB189_196 := n9_; have NB196_189 := n10_; have NB0_196 := n11_; have NB196_0 := n12_; clear n0_ n1_ n2_ n3_ n4_ n5_ n6_ n7_ n8_ n9_ n10_ n11_ n12_; clear hb hbox hg; obtain ⟨Ao6, co6, eo6⟩ := Kd.R_slice HO192.out; subst eo6; have hnb7 := NB196_189.out; have hnc7 := NB189_196.out; have hnb8 := NB196_0.out; have hnc8 := NB0_196.out; have hcz9_0 : w5.cell? ⟨gb196, 0, none⟩ = some (.slice none 0 0) := (blk_cell BK196.out 0).trans rfl; have hcz9_1 : w5.cell? ⟨gb196, 1, none⟩ = some (.slice none 0 0) := (blk_cell BK196.out 1).trans rfl; have hfz9_0 := blk_frozen BK196.out 0; have hfz9_1 := blk_frozen BK196.out 1; obtain ⟨Ao10, co10, eo10⟩ := Kd.R_slice HO195.out; subst eo10))
  go_loopg [4] k (fun kq v4 w' => ∃ (x4_1 : Int) (x1001_1 : Int) (x1002_1 : Int) (x197000_1 : List Int) (x197001_1 : List Int) (u197000 : Value) (u197001 : Value), v4 = .int .i64 x4_1 ∧ Aside0 (spec_l3DrawRight.l0 kq x4_1 s0_0 x1001_1 x1002_1 x197000_1 x197001_1 = some (r1, r2, r3, r4)) ∧ Aside0 (kq ≤ k) ∧ Aside0 (Kd.R (Kd.int .i64) 3 w' w.heap.size (fun k_ => some k_ ≠ (u197001 : Value).ownBlock) u197000 x197000_1) ∧ Aside0 (Kd.R (Kd.int .i64) 3 w' w.heap.size (fun k_ => some k_ ≠ (u197000 : Value).ownBlock) u197001 x197001_1) ∧ Aside0 (w'.heap[gb189]? = some (.cells #[(.slice none 0 0), (.slice none 0 0)] 27 (0, 0))) ∧ Aside0 (w'.heap[gb196]? = some (.cells #[u197000, u197001] 27 (0, 0))) ∧ Aside0 (IsS81 w0 w' g s0_0 x1001_1 x1002_1) ∧ Aside0 (KeepBut w w' g none) ∧ Aside0 (Below w0.heap.size w0 w'))
  case atStart => exact ⟨(0), (s0_1), (s0_2), (t190), (t193), (.slice Ao6 t190.length co6), (.slice Ao10 t193.length co10), (by first | rfl | (simp; done) | (simp [*]; done)), H', ⟨Nat.le_refl _⟩, ⟨by (with_reducible repeat (first | apply Kd.R_alloc | apply Kd.R_drewN | apply Kd.R_drew)); exact Kd.R_mono (Kd.R_far (p := ⟨gb196, 1, none⟩) (Kd.R_far (p := ⟨gb196, 0, none⟩) (Kd.R_types HO192.out BK196.out (by decide)) (fun _ hk => hk.2) (.slice Ao6 t190.length co6)) (fun _ hk => hk.2) (.slice Ao10 t193.length co10)) (fun _ hk => hk.1)⟩, ⟨by (with_reducible repeat (first | apply Kd.R_alloc | apply Kd.R_drewN | apply Kd.R_drew)); exact Kd.R_mono (Kd.R_far (p := ⟨gb196, 1, none⟩) (Kd.R_far (p := ⟨gb196, 0, none⟩) (Kd.R_types HO195.out BK196.out (by decide)) (fun _ hk => hk.2) (.slice Ao6 t190.length co6)) (fun _ hk => hk.2) (.slice Ao10 t193.length co10)) (fun _ hk => hk.1)⟩, ⟨by (with_reducible repeat (first | refine blk_drewN ?_ _ | refine blk_drew ?_ | refine blk_alloc ?_ _)); refine blk_far ?_ NB189_196.out _; (with_reducible repeat (first | refine blk_drewN ?_ _ | refine blk_drew ?_ | refine blk_alloc ?_ _)); refine blk_far ?_ NB189_196.out _; (with_reducible repeat (first | refine blk_drewN ?_ _ | refine blk_drew ?_ | refine blk_alloc ?_ _)); exact BK189.out⟩, ⟨by (with_reducible repeat (first | refine blk_drewN ?_ _ | refine blk_drew ?_ | refine blk_alloc ?_ _)); refine blk_put (cs := #[.slice Ao6 t190.length co6, .slice none 0 0]) ?_ 1 _ rfl; (with_reducible repeat (first | refine blk_drewN ?_ _ | refine blk_drew ?_ | refine blk_alloc ?_ _)); refine blk_put (cs := #[.slice none 0 0, .slice none 0 0]) ?_ 0 _ rfl; (with_reducible repeat (first | refine blk_drewN ?_ _ | refine blk_drew ?_ | refine blk_alloc ?_ _)); exact BK196.out⟩, ⟨by repeat (first | (with_reducible first | exact HI0.out | apply IsS81.alloc | apply IsS81.drewN | apply IsS81.drew | apply IsS81.set_1 | apply IsS81.set_2 | refine IsS81.far ?_ NB0_189.out _ | refine IsS81.far ?_ NB0_196.out _) | exact HI0.out)⟩, ⟨by repeat (first | (with_reducible first | exact HK.out | apply KeepBut.set_ | apply keep_drewN | apply keep_drew | apply keep_alloc | refine keep_far ?_ GW189.out _ | refine keep_far ?_ GW196.out _) | exact HK.out)⟩, ⟨by repeat (first | (with_reducible first | exact HB.out | apply below_alloc | apply pw_below_drewN | apply below_drew1 | refine below_set ?_ (IsS81.ge HI0.out) | refine below_set ?_ GE189.out | refine below_set ?_ GE196.out) | exact HB.out)⟩⟩
  case round =>
    clear H'
    try clear c2
    try clear p2
    try clear c7
    try clear c8
    try clear hcz9_0
    try clear hcz9_1
    try clear hfz9_0
    try clear hfz9_1
    obtain ⟨x4_1, x1001_1, x1002_1, x197000_1, x197001_1, u197000, u197001, rfl, HA, HK1, HO_197000, HO_197001, BK189, BK196, HI0, HK, HB⟩ := hrel
    cases gk with
    | zero => exact absurd HA.out (by simp [spec_l3DrawRight.l0])
    | succ k1 =>
      have H := HA.out
      clear HA
      simp only [spec_l3DrawRight.l0] at H
      replace H := Option.bind_eq_some_iff.mp H
      obtain ⟨⟨t197, t198, t199⟩, A110, H⟩ := H
      replace H : (if x4_1 < t197 then ((spec_l2DrawRight.f s0_0 t198 t199).bind fun bt200 => (if 0 ≤ bt200.1 then (if bt200.1 < (x197001_1.length : Int) then ((spec_Pay.f k1 x197000_1 x197001_1 bt200.1 bt200.2.1 bt200.2.2.1 (rd x197001_1 bt200.1)).bind fun bt208 => (spec_l3DrawRight.l0 k1 (wrap64 (x4_1 + 1)) s0_0 bt200.2.2.2.2.1 bt200.2.2.2.2.2 bt208.1 bt208.2.1)) else (none)) else (none))) else (some (x197000_1, x197001_1, t198, t199))) = some (r1, r2, r3, r4) := H
      have A11 := Aside0.mk A110
      clear A110
      by_cases c12 : x4_1 < t197
      · rw [if_pos c12] at H
        have c12b0 : decide (x4_1 < t197) = true := decide_eq_true c12
        clear c12
        replace H := Option.bind_eq_some_iff.mp H
        obtain ⟨⟨t200, t201, t202, t203, t204, t205⟩, A130, H⟩ := H
        replace H : (if 0 ≤ t200 then (if t200 < (x197001_1.length : Int) then ((spec_Pay.f k1 x197000_1 x197001_1 t200 t201 t202 (rd x197001_1 t200)).bind fun bt208 => (spec_l3DrawRight.l0 k1 (wrap64 (x4_1 + 1)) s0_0 t204 t205 bt208.1 bt208.2.1)) else (none)) else (none)) = some (r1, r2, r3, r4) := H
        have A13 := Aside0.mk A130
        clear A130
        by_cases c14 : 0 ≤ t200
        · rw [if_pos c14] at H
          have c14b0 : decide (0 ≤ t200) = true := decide_eq_true c14
          clear c14
          by_cases c15 : t200 < (x197001_1.length : Int)
          · rw [if_pos c15] at H
            have c15b0 : decide (t200 < (x197001_1.length : Int)) = true := decide_eq_true c15
            clear c15
            replace H := Option.bind_eq_some_iff.mp H
            obtain ⟨⟨t208, t211, t214⟩, A160, H⟩ := H
            replace H : (spec_l3DrawRight.l0 k1 (wrap64 (x4_1 + 1)) s0_0 t204 t205 t208 t211) = some (r1, r2, r3, r4) := H
            have A16 := Aside0.mk A160
            clear A160
            have H' := Aside0.mk H
            clear H
            go_wp2_with (first | ((with_reducible refine gate_callee (f := 73) rfl ?_); refine goesL_ (some 9) rfl rfl Try.func73 (by kernel_rfl) rfl #[.pointer (some ⟨g, 0, none⟩), .int .i64 6] rfl (by (try simp only [List.map_toArray, List.map_cons, List.map_nil]); first | done | rfl | (simp only [List.length_drop, List.length_take]; rfl)) ?_; (with_reducible refine (spec_l1Below.calls g s0_0 x1001_1 x1002_1 6 t197 t198 t199 w0 _ ?side1 ?side2 A11.out).mono ?_); (case side1 => repeat (first | (with_reducible first | exact HI0.out | apply IsS81.alloc | apply IsS81.drewN | apply IsS81.drew | apply IsS81.set_1 | apply IsS81.set_2 | refine IsS81.far ?_ NB0_189.out _ | refine IsS81.far ?_ NB0_196.out _) | exact HI0.out)); (case side2 => repeat (first | (with_reducible first | exact HB.out | apply below_alloc | apply pw_below_drewN | apply below_drew1 | refine below_set ?_ (IsS81.ge HI0.out) | refine below_set ?_ GE189.out | refine below_set ?_ GE196.out) | exact HB.out)); rintro e w17 ⟨rfl, hi, hb, hk⟩; refine ⟨_, rfl, ?_⟩; have n0_ := Aside0.mk (Kd.R_mono (Kd.R_keep (IsS81.apart (show IsS81 w0 _ g s0_0 x1001_1 x1002_1 from by repeat (first | (with_reducible first | exact HI0.out | apply IsS81.alloc | apply IsS81.drewN | apply IsS81.drew | apply IsS81.set_1 | apply IsS81.set_2 | refine IsS81.far ?_ NB0_189.out _ | refine IsS81.far ?_ NB0_196.out _) | exact HI0.out)) (by (with_reducible repeat (first | apply Kd.R_alloc | apply Kd.R_drewN | apply Kd.R_drew)); exact HO_197000.out) (by decide)) hk (fun _ h => h.2)) (fun _ h => h.1)); have n1_ := Aside0.mk (Kd.R_mono (Kd.R_keep (IsS81.apart (show IsS81 w0 _ g s0_0 x1001_1 x1002_1 from by repeat (first | (with_reducible first | exact HI0.out | apply IsS81.alloc | apply IsS81.drewN | apply IsS81.drew | apply IsS81.set_1 | apply IsS81.set_2 | refine IsS81.far ?_ NB0_189.out _ | refine IsS81.far ?_ NB0_196.out _) | exact HI0.out)) (by (with_reducible repeat (first | apply Kd.R_alloc | apply Kd.R_drewN | apply Kd.R_drew)); exact HO_197001.out) (by decide)) hk (fun _ h => h.2)) (fun _ h => h.1)); have n2_ := Aside0.mk (KeepBut.blk hk (g' := gb189) (o := .cells #[.slice none 0 0, .slice none 0 0] 27 (0, 0)) (by (with_reducible repeat (first | refine blk_drewN ?_ _ | refine blk_drew ?_ | refine blk_alloc ?_ _)); exact BK189.out) NB189_0.out (by simp)); have n3_ := Aside0.mk (KeepBut.blk hk (g' := gb196) (o := .cells #[u197000, u197001] 27 (0, 0)) (by (with_reducible repeat (first | refine blk_drewN ?_ _ | refine blk_drew ?_ | refine blk_alloc ?_ _)); exact BK196.out) NB196_0.out (by simp)); have n4_ := Aside0.mk (KeepBut.trans (by repeat (first | (with_reducible first | exact HK.out | apply KeepBut.set_ | apply keep_drewN | apply keep_drew | apply keep_alloc | refine keep_far ?_ GW189.out _ | refine keep_far ?_ GW196.out _) | exact HK.out)) hk (.inl rfl)); have n5_ := Aside0.mk (hb); have n6_ := Aside0.mk (hi); clear HO_197000; clear HO_197001; clear BK189; clear BK196; clear HK; clear HB; clear HI0; have HO_197000 := n0_; have HO_197001 := n1_; have BK189 := n2_; have BK196 := n3_; have HK := n4_; have HB := n5_; have HI0 := n6_; clear n0_ n1_ n2_ n3_ n4_ n5_ n6_; (try clear hb); (try clear hb2); (try clear hk); (try clear hi)) | ((with_reducible refine gate_callee (f := 75) rfl ?_); refine goesL_ (some 14) rfl rfl Try.func75 (by kernel_rfl) rfl #[.pointer (some ⟨g, 0, none⟩)] rfl (by (try simp only [List.map_toArray, List.map_cons, List.map_nil]); first | done | rfl | (simp only [List.length_drop, List.length_take]; rfl)) ?_; (with_reducible refine (spec_l2DrawRight.calls g s0_0 t198 t199 t200 t201 t202 t203 t204 t205 w0 _ ?side1 ?side2 A13.out).mono ?_); (case side1 => repeat (first | (with_reducible first | exact HI0.out | apply IsS81.alloc | apply IsS81.drewN | apply IsS81.drew | apply IsS81.set_1 | apply IsS81.set_2 | refine IsS81.far ?_ NB0_189.out _ | refine IsS81.far ?_ NB0_196.out _) | exact HI0.out)); (case side2 => repeat (first | (with_reducible first | exact HB.out | apply below_alloc | apply pw_below_drewN | apply below_drew1 | refine below_set ?_ (IsS81.ge HI0.out) | refine below_set ?_ GE189.out | refine below_set ?_ GE196.out) | exact HB.out)); rintro e w18 ⟨rfl, hi, hb, hk⟩; refine ⟨_, rfl, ?_⟩; have n0_ := Aside0.mk (Kd.R_mono (Kd.R_keep (IsS81.apart (show IsS81 w0 _ g s0_0 t198 t199 from by repeat (first | (with_reducible first | exact HI0.out | apply IsS81.alloc | apply IsS81.drewN | apply IsS81.drew | apply IsS81.set_1 | apply IsS81.set_2 | refine IsS81.far ?_ NB0_189.out _ | refine IsS81.far ?_ NB0_196.out _) | exact HI0.out)) (by (with_reducible repeat (first | apply Kd.R_alloc | apply Kd.R_drewN | apply Kd.R_drew)); exact HO_197000.out) (by decide)) hk (fun _ h => h.2)) (fun _ h => h.1)); have n1_ := Aside0.mk (Kd.R_mono (Kd.R_keep (IsS81.apart (show IsS81 w0 _ g s0_0 t198 t199 from by repeat (first | (with_reducible first | exact HI0.out | apply IsS81.alloc | apply IsS81.drewN | apply IsS81.drew | apply IsS81.set_1 | apply IsS81.set_2 | refine IsS81.far ?_ NB0_189.out _ | refine IsS81.far ?_ NB0_196.out _) | exact HI0.out)) (by (with_reducible repeat (first | apply Kd.R_alloc | apply Kd.R_drewN | apply Kd.R_drew)); exact HO_197001.out) (by decide)) hk (fun _ h => h.2)) (fun _ h => h.1)); have n2_ := Aside0.mk (KeepBut.blk hk (g' := gb189) (o := .cells #[.slice none 0 0, .slice none 0 0] 27 (0, 0)) (by (with_reducible repeat (first | refine blk_drewN ?_ _ | refine blk_drew ?_ | refine blk_alloc ?_ _)); exact BK189.out) NB189_0.out (by simp)); have n3_ := Aside0.mk (KeepBut.blk hk (g' := gb196) (o := .cells #[u197000, u197001] 27 (0, 0)) (by (with_reducible repeat (first | refine blk_drewN ?_ _ | refine blk_drew ?_ | refine blk_alloc ?_ _)); exact BK196.out) NB196_0.out (by simp)); have n4_ := Aside0.mk (KeepBut.trans (by repeat (first | (with_reducible first | exact HK.out | apply KeepBut.set_ | apply keep_drewN | apply keep_drew | apply keep_alloc | refine keep_far ?_ GW189.out _ | refine keep_far ?_ GW196.out _) | exact HK.out)) hk (.inl rfl)); have n5_ := Aside0.mk (hb); have n6_ := Aside0.mk (hi); clear HO_197000; clear HO_197001; clear BK189; clear BK196; clear HK; clear HB; clear HI0; have HO_197000 := n0_; have HO_197001 := n1_; have BK189 := n2_; have BK196 := n3_; have HK := n4_; have HB := n5_; have HI0 := n6_; clear n0_ n1_ n2_ n3_ n4_ n5_ n6_; (try clear hb); (try clear hb2); (try clear hk); (try clear hi)) | ((with_reducible refine gate_dst (N := 5) rfl ?_); refine box_event ?hg (N := 5) ?hd (cs := #[.int .i64 0, .int .i64 0, .int .i64 0, .int .i64 0]) (t := 45) ?hr ?_; (case hd => rfl); (case hg => rfl); (case hr => first | (go_simp; done) | (go_simp; rfl)); intro gb206 hg w19 hbox hb; have n0_ := Aside0.mk (Kd.R_below (by (with_reducible repeat (first | apply Kd.R_alloc | apply Kd.R_drewN | apply Kd.R_drew)); exact HO_197000.out) hb); have n1_ := Aside0.mk (Kd.R_below (by (with_reducible repeat (first | apply Kd.R_alloc | apply Kd.R_drewN | apply Kd.R_drew)); exact HO_197001.out) hb); have n2_ := Aside0.mk (blk_below (g := gb189) (o := .cells #[.slice none 0 0, .slice none 0 0] 27 (0, 0)) (by (with_reducible repeat (first | refine blk_drewN ?_ _ | refine blk_drew ?_ | refine blk_alloc ?_ _)); exact BK189.out) hb); have n3_ := Aside0.mk (blk_below (g := gb196) (o := .cells #[u197000, u197001] 27 (0, 0)) (by (with_reducible repeat (first | refine blk_drewN ?_ _ | refine blk_drew ?_ | refine blk_alloc ?_ _)); exact BK196.out) hb); have n4_ := Aside0.mk (IsS81.below (by repeat (first | (with_reducible first | exact HI0.out | apply IsS81.alloc | apply IsS81.drewN | apply IsS81.drew | apply IsS81.set_1 | apply IsS81.set_2 | refine IsS81.far ?_ NB0_189.out _ | refine IsS81.far ?_ NB0_196.out _) | exact HI0.out)) hb); have n5_ := Aside0.mk (KeepBut.trans (by repeat (first | (with_reducible first | exact HK.out | apply KeepBut.set_ | apply keep_drewN | apply keep_drew | apply keep_alloc | refine keep_far ?_ GW189.out _ | refine keep_far ?_ GW196.out _) | exact HK.out)) (KeepBut.of_below hb g none) (.inl rfl)); have n6_ := Aside0.mk (below_step (by repeat (first | (with_reducible first | exact HB.out | apply below_alloc | apply pw_below_drewN | apply below_drew1 | refine below_set ?_ (IsS81.ge HI0.out) | refine below_set ?_ GE189.out | refine below_set ?_ GE196.out) | exact HB.out)) hb); have n7_ := Aside0.mk (hbox); have n8_ := Aside0.mk ((by rw [hg]; exact (keep_size (w := w) (g := g) (row := none) (by repeat (first | (with_reducible first | exact HK.out | apply KeepBut.set_ | apply keep_drewN | apply keep_drew | apply keep_alloc | refine keep_far ?_ GW189.out _ | refine keep_far ?_ GW196.out _) | exact HK.out))) : w.heap.size ≤ gb206)); have n9_ := Aside0.mk ((Nat.le_trans HW0.out (by rw [hg]; exact (keep_size (w := w) (g := g) (row := none) (by repeat (first | (with_reducible first | exact HK.out | apply KeepBut.set_ | apply keep_drewN | apply keep_drew | apply keep_alloc | refine keep_far ?_ GW189.out _ | refine keep_far ?_ GW196.out _) | exact HK.out))) : w.heap.size ≤ gb206) : w0.heap.size ≤ gb206)); have n10_ := Aside0.mk ((by rw [hg]; exact Nat.ne_of_lt (blk_lt (g := gb189) (o := .cells #[.slice none 0 0, .slice none 0 0] 27 (0, 0)) (by (with_reducible repeat (first | refine blk_drewN ?_ _ | refine blk_drew ?_ | refine blk_alloc ?_ _)); exact BK189.out)) : gb189 ≠ gb206)); have n11_ := Aside0.mk ((by rw [hg]; exact Nat.ne_of_gt (blk_lt (g := gb189) (o := .cells #[.slice none 0 0, .slice none 0 0] 27 (0, 0)) (by (with_reducible repeat (first | refine blk_drewN ?_ _ | refine blk_drew ?_ | refine blk_alloc ?_ _)); exact BK189.out)) : gb206 ≠ gb189)); have n12_ := Aside0.mk ((by rw [hg]; exact Nat.ne_of_lt (blk_lt (g := gb196) (o := .cells #[u197000, u197001] 27 (0, 0)) (by (with_reducible repeat (first | refine blk_drewN ?_ _ | refine blk_drew ?_ | refine blk_alloc ?_ _)); exact BK196.out)) : gb196 ≠ gb206)); have n13_ := Aside0.mk ((by rw [hg]; exact Nat.ne_of_gt (blk_lt (g := gb196) (o := .cells #[u197000, u197001] 27 (0, 0)) (by (with_reducible repeat (first | refine blk_drewN ?_ _ | refine blk_drew ?_ | refine blk_alloc ?_ _)); exact BK196.out)) : gb206 ≠ gb196)); have n14_ := Aside0.mk ((by rw [hg]; exact Nat.ne_of_lt (IsS81.lt (show IsS81 w0 _ g s0_0 t204 t205 from by repeat (first | (with_reducible first | exact HI0.out | apply IsS81.alloc | apply IsS81.drewN | apply IsS81.drew | apply IsS81.set_1 | apply IsS81.set_2 | refine IsS81.far ?_ NB0_189.out _ | refine IsS81.far ?_ NB0_196.out _) | exact HI0.out))) : g ≠ gb206)); have n15_ := Aside0.mk ((by rw [hg]; exact Nat.ne_of_gt (IsS81.lt (show IsS81 w0 _ g s0_0 t204 t205 from by repeat (first | (with_reducible first | exact HI0.out | apply IsS81.alloc | apply IsS81.drewN | apply IsS81.drew | apply IsS81.set_1 | apply IsS81.set_2 | refine IsS81.far ?_ NB0_189.out _ | refine IsS81.far ?_ NB0_196.out _) | exact HI0.out))) : gb206 ≠ g)); clear HO_197000; clear HO_197001; clear BK189; clear BK196; clear HI0; clear HK; clear HB; have HO_197000 := n0_; have HO_197001 := n1_; have BK189 := n2_; have BK196 := n3_; have HI0 := n4_; have HK := n5_; have HB := n6_; have BK206 := n7_; have GW206 := n8_; have GE206 := n9_; have NB189_206 := n10_; have NB206_189 := n11_; have NB196_206 := n12_; have NB206_196 := n13_; have NB0_206 := n14_; have NB206_0 := n15_; clear n0_ n1_ n2_ n3_ n4_ n5_ n6_ n7_ n8_ n9_ n10_ n11_ n12_ n13_ n14_ n15_; clear hb hbox hg; have hnb20 := NB206_189.out; have hnc20 := NB189_206.out; have hnb21 := NB206_196.out; have hnc21 := NB196_206.out; have hnb22 := NB206_0.out; have hnc22 := NB0_206.out; have hcz23_0 : w19.cell? ⟨gb206, 0, none⟩ = some (.int .i64 0) := (blk_cell BK206.out 0).trans rfl; have hcz23_1 : w19.cell? ⟨gb206, 1, none⟩ = some (.int .i64 0) := (blk_cell BK206.out 1).trans rfl; have hcz23_2 : w19.cell? ⟨gb206, 2, none⟩ = some (.int .i64 0) := (blk_cell BK206.out 2).trans rfl; have hcz23_3 : w19.cell? ⟨gb206, 3, none⟩ = some (.int .i64 0) := (blk_cell BK206.out 3).trans rfl; have hfz23_0 := blk_frozen BK206.out 0; have hfz23_1 := blk_frozen BK206.out 1; have hfz23_2 := blk_frozen BK206.out 2; have hfz23_3 := blk_frozen BK206.out 3; have hnb24 := NB196_189.out; have hnc24 := NB189_196.out; have hnb25 := NB196_0.out; have hnc25 := NB0_196.out; have hcz26_0 : w19.cell? ⟨gb196, 0, none⟩ = some (u197000) := (blk_cell BK196.out 0).trans rfl; have hcz26_1 : w19.cell? ⟨gb196, 1, none⟩ = some (u197001) := (blk_cell BK196.out 1).trans rfl; have hfz26_0 := blk_frozen BK196.out 0; have hfz26_1 := blk_frozen BK196.out 1; obtain ⟨Ao27, co27, eo27⟩ := Kd.R_slice HO_197001.out; subst eo27; have p207 : 0 ≤ (t200 : Int) := of_decide_eq_true (by first | (with_reducible assumption) | assumption); have q207 : t200 < (x197001_1.length : Int) := of_decide_eq_true (by first | (with_reducible assumption) | assumption); obtain ⟨ad207, e207, hx207_0⟩ := Kd.at_int (Kd.R_reads' HO_197001.out).2.2 t200 p207 q207; cases e207; have hn207_0 : ad207.block ≠ gb206 := Kd.own_blk (Kd.R_ne HO_197001.out BK206.out (by decide)); have hn207_1 : ad207.block ≠ gb206 := Kd.own_blk (Kd.R_ne HO_197001.out BK206.out (by decide)); have hn207_2 : ad207.block ≠ gb206 := Kd.own_blk (Kd.R_ne HO_197001.out BK206.out (by decide)); have hn207_3 : ad207.block ≠ gb206 := Kd.own_blk (Kd.R_ne HO_197001.out BK206.out (by decide)); replace hx207_0 := (cell_far (p := ⟨gb206, 0, none⟩) (by first | (rw [add_block]; exact hn207_0) | (show (Addr.add _ _).block ≠ _; rw [add_block]; exact hn207_0) | exact hn207_0) (.int .i64 t200)).trans hx207_0; replace hx207_0 := (cell_far (p := ⟨gb206, 1, none⟩) (by first | (rw [add_block]; exact hn207_1) | (show (Addr.add _ _).block ≠ _; rw [add_block]; exact hn207_1) | exact hn207_1) (.int .i64 t201)).trans hx207_0; replace hx207_0 := (cell_far (p := ⟨gb206, 2, none⟩) (by first | (rw [add_block]; exact hn207_2) | (show (Addr.add _ _).block ≠ _; rw [add_block]; exact hn207_2) | exact hn207_2) (.int .i64 t202)).trans hx207_0; replace hx207_0 := (cell_far (p := ⟨gb206, 3, none⟩) (by first | (rw [add_block]; exact hn207_3) | (show (Addr.add _ _).block ≠ _; rw [add_block]; exact hn207_3) | exact hn207_3) (.int .i64 t203)).trans hx207_0; clear hn207_0; clear hn207_1; clear hn207_2; clear hn207_3; replace p207 := eq_true p207; replace q207 := eq_true q207; obtain ⟨Ao28, co28, eo28⟩ := Kd.R_slice HO_197000.out; subst eo28) | ((with_reducible refine gate_dst (N := 24) rfl ?_); refine ld_row (t' := 45) gb206 #[.int .i64 t200, .int .i64 t201, .int .i64 t202, .int .i64 (rd x197001_1 t200)] rfl rfl rfl rfl ?hrow ?_; (case hrow => (with_reducible repeat (first | refine blk_drewN ?_ _ | refine blk_drew ?_ | refine blk_alloc ?_ _)); refine blk_put (cs := #[.int .i64 t200, .int .i64 t201, .int .i64 t202, .int .i64 t203]) ?_ 3 _ rfl; (with_reducible repeat (first | refine blk_drewN ?_ _ | refine blk_drew ?_ | refine blk_alloc ?_ _)); refine blk_put (cs := #[.int .i64 t200, .int .i64 t201, .int .i64 t202, .int .i64 0]) ?_ 3 _ rfl; (with_reducible repeat (first | refine blk_drewN ?_ _ | refine blk_drew ?_ | refine blk_alloc ?_ _)); refine blk_put (cs := #[.int .i64 t200, .int .i64 t201, .int .i64 0, .int .i64 0]) ?_ 2 _ rfl; (with_reducible repeat (first | refine blk_drewN ?_ _ | refine blk_drew ?_ | refine blk_alloc ?_ _)); refine blk_put (cs := #[.int .i64 t200, .int .i64 0, .int .i64 0, .int .i64 0]) ?_ 1 _ rfl; (with_reducible repeat (first | refine blk_drewN ?_ _ | refine blk_drew ?_ | refine blk_alloc ?_ _)); refine blk_put (cs := #[.int .i64 0, .int .i64 0, .int .i64 0, .int .i64 0]) ?_ 0 _ rfl; (with_reducible repeat (first | refine blk_drewN ?_ _ | refine blk_drew ?_ | refine blk_alloc ?_ _)); exact BK206.out)) | ((with_reducible refine gate_callee (f := 34) rfl ?_); refine goesL_ (some 25) rfl rfl Try.func34 (by kernel_rfl) rfl #[.agg #[.slice Ao28 x197000_1.length co28, .slice (some ad207) x197001_1.length co27], .agg #[.int .i64 t200, .int .i64 t201, .int .i64 t202, .int .i64 (rd x197001_1 t200)]] rfl (by (try simp only [List.map_toArray, List.map_cons, List.map_nil]); first | done | rfl | (simp only [List.length_drop, List.length_take]; rfl)) ?_; (with_reducible refine (spec_Pay.calls k1 _ _ x197000_1 _ _ x197001_1 t200 t201 t202 (rd x197001_1 t200) t208 t211 t214 _ ?side1 ?side2 ?side3 ?side4 A16.out).mono ?_); (case side1 => refine (Kd.R_reads' (e := 3) (base := w.heap.size) (ok := fun k_ => some k_ ≠ (.slice (some ad207) x197001_1.length co27 : Value).ownBlock) (n := x197000_1.length) (c := co28) ?_).2.2; exact (by (with_reducible repeat (first | apply Kd.R_alloc | apply Kd.R_drewN | apply Kd.R_drew)); exact (Kd.R_mono (Kd.R_far (p := ⟨gb206, 3, none⟩) (Kd.R_far (p := ⟨gb206, 3, none⟩) (Kd.R_far (p := ⟨gb206, 2, none⟩) (Kd.R_far (p := ⟨gb206, 1, none⟩) (Kd.R_far (p := ⟨gb206, 0, none⟩) (Kd.R_types HO_197000.out BK206.out (by decide)) (fun _ hk => hk.2) (.int .i64 t200)) (fun _ hk => hk.2) (.int .i64 t201)) (fun _ hk => hk.2) (.int .i64 t202)) (fun _ hk => hk.2) (.int .i64 t203)) (fun _ hk => hk.2) (.int .i64 (rd x197001_1 t200))) (fun _ h_ => h_.1)))); (case side2 => exact (Kd.R_reads' HO_197000.out).2.1); (case side3 => refine (Kd.R_reads' (e := 3) (base := w.heap.size) (ok := fun k_ => some k_ ≠ (.slice Ao28 x197000_1.length co28 : Value).ownBlock) (n := x197001_1.length) (c := co27) ?_).2.2; exact (by (with_reducible repeat (first | apply Kd.R_alloc | apply Kd.R_drewN | apply Kd.R_drew)); exact (Kd.R_mono (Kd.R_far (p := ⟨gb206, 3, none⟩) (Kd.R_far (p := ⟨gb206, 3, none⟩) (Kd.R_far (p := ⟨gb206, 2, none⟩) (Kd.R_far (p := ⟨gb206, 1, none⟩) (Kd.R_far (p := ⟨gb206, 0, none⟩) (Kd.R_types HO_197001.out BK206.out (by decide)) (fun _ hk => hk.2) (.int .i64 t200)) (fun _ hk => hk.2) (.int .i64 t201)) (fun _ hk => hk.2) (.int .i64 t202)) (fun _ hk => hk.2) (.int .i64 t203)) (fun _ hk => hk.2) (.int .i64 (rd x197001_1 t200))) (fun _ h_ => h_.1)))); (case side4 => exact (Kd.R_reads' HO_197001.out).2.1); rintro e w29 ⟨v209, v212, rfl, ho0, ho1, hb⟩; refine ⟨_, rfl, ?_⟩; have n0_ := Aside0.mk (Kd.R_mono (Kd.R_told (Kd.R_told (Kd.R_old (by (with_reducible repeat (first | apply Kd.R_alloc | apply Kd.R_drewN | apply Kd.R_drew)); exact (Kd.R_mono (Kd.R_far (p := ⟨gb206, 3, none⟩) (Kd.R_far (p := ⟨gb206, 3, none⟩) (Kd.R_far (p := ⟨gb206, 2, none⟩) (Kd.R_far (p := ⟨gb206, 1, none⟩) (Kd.R_far (p := ⟨gb206, 0, none⟩) (Kd.R_types HO_197000.out BK206.out (by decide)) (fun _ hk => hk.2) (.int .i64 t200)) (fun _ hk => hk.2) (.int .i64 t201)) (fun _ hk => hk.2) (.int .i64 t202)) (fun _ hk => hk.2) (.int .i64 t203)) (fun _ hk => hk.2) (.int .i64 (rd x197001_1 t200))) (fun _ h_ => h_.1))) hb) (Kd.R_base ho0)) (Kd.R_base ho1)) (fun _ h_ => h_.1)); have n1_ := Aside0.mk (Kd.R_mono (Kd.R_told (Kd.R_told (Kd.R_old (by (with_reducible repeat (first | apply Kd.R_alloc | apply Kd.R_drewN | apply Kd.R_drew)); exact (Kd.R_mono (Kd.R_far (p := ⟨gb206, 3, none⟩) (Kd.R_far (p := ⟨gb206, 3, none⟩) (Kd.R_far (p := ⟨gb206, 2, none⟩) (Kd.R_far (p := ⟨gb206, 1, none⟩) (Kd.R_far (p := ⟨gb206, 0, none⟩) (Kd.R_types HO_197001.out BK206.out (by decide)) (fun _ hk => hk.2) (.int .i64 t200)) (fun _ hk => hk.2) (.int .i64 t201)) (fun _ hk => hk.2) (.int .i64 t202)) (fun _ hk => hk.2) (.int .i64 t203)) (fun _ hk => hk.2) (.int .i64 (rd x197001_1 t200))) (fun _ h_ => h_.1))) hb) (Kd.R_base ho0)) (Kd.R_base ho1)) (fun _ h_ => h_.1)); have n2_ := Aside0.mk (Kd.R_lower (Kd.R_new' (Kd.R_new' ho0 (Kd.R_lt (by (with_reducible repeat (first | apply Kd.R_alloc | apply Kd.R_drewN | apply Kd.R_drew)); exact (Kd.R_mono (Kd.R_far (p := ⟨gb206, 3, none⟩) (Kd.R_far (p := ⟨gb206, 3, none⟩) (Kd.R_far (p := ⟨gb206, 2, none⟩) (Kd.R_far (p := ⟨gb206, 1, none⟩) (Kd.R_far (p := ⟨gb206, 0, none⟩) (Kd.R_types HO_197000.out BK206.out (by decide)) (fun _ hk => hk.2) (.int .i64 t200)) (fun _ hk => hk.2) (.int .i64 t201)) (fun _ hk => hk.2) (.int .i64 t202)) (fun _ hk => hk.2) (.int .i64 t203)) (fun _ hk => hk.2) (.int .i64 (rd x197001_1 t200))) (fun _ h_ => h_.1))))) (Kd.R_lt (by (with_reducible repeat (first | apply Kd.R_alloc | apply Kd.R_drewN | apply Kd.R_drew)); exact (Kd.R_mono (Kd.R_far (p := ⟨gb206, 3, none⟩) (Kd.R_far (p := ⟨gb206, 3, none⟩) (Kd.R_far (p := ⟨gb206, 2, none⟩) (Kd.R_far (p := ⟨gb206, 1, none⟩) (Kd.R_far (p := ⟨gb206, 0, none⟩) (Kd.R_types HO_197001.out BK206.out (by decide)) (fun _ hk => hk.2) (.int .i64 t200)) (fun _ hk => hk.2) (.int .i64 t201)) (fun _ hk => hk.2) (.int .i64 t202)) (fun _ hk => hk.2) (.int .i64 t203)) (fun _ hk => hk.2) (.int .i64 (rd x197001_1 t200))) (fun _ h_ => h_.1))))) (keep_size (w := w) (g := g) (row := none) (by repeat (first | (with_reducible first | exact HK.out | apply KeepBut.set_ | apply keep_drewN | apply keep_drew | apply keep_alloc | refine keep_far ?_ GW189.out _ | refine keep_far ?_ GW196.out _ | refine keep_far ?_ GW206.out _) | exact HK.out)))); have n3_ := Aside0.mk (Kd.R_lower (Kd.R_new' (Kd.R_new' ho1 (Kd.R_lt (by (with_reducible repeat (first | apply Kd.R_alloc | apply Kd.R_drewN | apply Kd.R_drew)); exact (Kd.R_mono (Kd.R_far (p := ⟨gb206, 3, none⟩) (Kd.R_far (p := ⟨gb206, 3, none⟩) (Kd.R_far (p := ⟨gb206, 2, none⟩) (Kd.R_far (p := ⟨gb206, 1, none⟩) (Kd.R_far (p := ⟨gb206, 0, none⟩) (Kd.R_types HO_197000.out BK206.out (by decide)) (fun _ hk => hk.2) (.int .i64 t200)) (fun _ hk => hk.2) (.int .i64 t201)) (fun _ hk => hk.2) (.int .i64 t202)) (fun _ hk => hk.2) (.int .i64 t203)) (fun _ hk => hk.2) (.int .i64 (rd x197001_1 t200))) (fun _ h_ => h_.1))))) (Kd.R_lt (by (with_reducible repeat (first | apply Kd.R_alloc | apply Kd.R_drewN | apply Kd.R_drew)); exact (Kd.R_mono (Kd.R_far (p := ⟨gb206, 3, none⟩) (Kd.R_far (p := ⟨gb206, 3, none⟩) (Kd.R_far (p := ⟨gb206, 2, none⟩) (Kd.R_far (p := ⟨gb206, 1, none⟩) (Kd.R_far (p := ⟨gb206, 0, none⟩) (Kd.R_types HO_197001.out BK206.out (by decide)) (fun _ hk => hk.2) (.int .i64 t200)) (fun _ hk => hk.2) (.int .i64 t201)) (fun _ hk => hk.2) (.int .i64 t202)) (fun _ hk => hk.2) (.int .i64 t203)) (fun _ hk => hk.2) (.int .i64 (rd x197001_1 t200))) (fun _ h_ => h_.1))))) (keep_size (w := w) (g := g) (row := none) (by repeat (first | (with_reducible first | exact HK.out | apply KeepBut.set_ | apply keep_drewN | apply keep_drew | apply keep_alloc | refine keep_far ?_ GW189.out _ | refine keep_far ?_ GW196.out _ | refine keep_far ?_ GW206.out _) | exact HK.out)))); have n4_ := Aside0.mk (blk_below (g := gb189) (o := .cells #[.slice none 0 0, .slice none 0 0] 27 (0, 0)) (by (with_reducible repeat (first | refine blk_drewN ?_ _ | refine blk_drew ?_ | refine blk_alloc ?_ _)); refine blk_far ?_ NB189_206.out _; (with_reducible repeat (first | refine blk_drewN ?_ _ | refine blk_drew ?_ | refine blk_alloc ?_ _)); refine blk_far ?_ NB189_206.out _; (with_reducible repeat (first | refine blk_drewN ?_ _ | refine blk_drew ?_ | refine blk_alloc ?_ _)); refine blk_far ?_ NB189_206.out _; (with_reducible repeat (first | refine blk_drewN ?_ _ | refine blk_drew ?_ | refine blk_alloc ?_ _)); refine blk_far ?_ NB189_206.out _; (with_reducible repeat (first | refine blk_drewN ?_ _ | refine blk_drew ?_ | refine blk_alloc ?_ _)); refine blk_far ?_ NB189_206.out _; (with_reducible repeat (first | refine blk_drewN ?_ _ | refine blk_drew ?_ | refine blk_alloc ?_ _)); exact BK189.out) hb); have n5_ := Aside0.mk (blk_below (g := gb196) (o := .cells #[.slice Ao28 x197000_1.length co28, .slice (some ad207) x197001_1.length co27] 27 (0, 0)) (by (with_reducible repeat (first | refine blk_drewN ?_ _ | refine blk_drew ?_ | refine blk_alloc ?_ _)); refine blk_far ?_ NB196_206.out _; (with_reducible repeat (first | refine blk_drewN ?_ _ | refine blk_drew ?_ | refine blk_alloc ?_ _)); refine blk_far ?_ NB196_206.out _; (with_reducible repeat (first | refine blk_drewN ?_ _ | refine blk_drew ?_ | refine blk_alloc ?_ _)); refine blk_far ?_ NB196_206.out _; (with_reducible repeat (first | refine blk_drewN ?_ _ | refine blk_drew ?_ | refine blk_alloc ?_ _)); refine blk_far ?_ NB196_206.out _; (with_reducible repeat (first | refine blk_drewN ?_ _ | refine blk_drew ?_ | refine blk_alloc ?_ _)); refine blk_far ?_ NB196_206.out _; (with_reducible repeat (first | refine blk_drewN ?_ _ | refine blk_drew ?_ | refine blk_alloc ?_ _)); exact BK196.out) hb); have n6_ := Aside0.mk (IsS81.below (show IsS81 w0 (((((w19.setCell ⟨gb206, 0, none⟩ (.int .i64 t200)).setCell ⟨gb206, 1, none⟩ (.int .i64 t201)).setCell ⟨gb206, 2, none⟩ (.int .i64 t202)).setCell ⟨gb206, 3, none⟩ (.int .i64 t203)).setCell ⟨gb206, 3, none⟩ (.int .i64 (rd x197001_1 t200))) g s0_0 t204 t205 from by repeat (first | (with_reducible first | exact HI0.out | apply IsS81.alloc | apply IsS81.drewN | apply IsS81.drew | apply IsS81.set_1 | apply IsS81.set_2 | refine IsS81.far ?_ NB0_189.out _ | refine IsS81.far ?_ NB0_196.out _ | refine IsS81.far ?_ NB0_206.out _) | exact HI0.out)) hb); have n7_ := Aside0.mk (blk_below (g := gb206) (o := .cells #[.int .i64 t200, .int .i64 t201, .int .i64 t202, .int .i64 (rd x197001_1 t200)] 45 (0, 0)) (by (with_reducible repeat (first | refine blk_drewN ?_ _ | refine blk_drew ?_ | refine blk_alloc ?_ _)); refine blk_put (cs := #[.int .i64 t200, .int .i64 t201, .int .i64 t202, .int .i64 t203]) ?_ 3 _ rfl; (with_reducible repeat (first | refine blk_drewN ?_ _ | refine blk_drew ?_ | refine blk_alloc ?_ _)); refine blk_put (cs := #[.int .i64 t200, .int .i64 t201, .int .i64 t202, .int .i64 0]) ?_ 3 _ rfl; (with_reducible repeat (first | refine blk_drewN ?_ _ | refine blk_drew ?_ | refine blk_alloc ?_ _)); refine blk_put (cs := #[.int .i64 t200, .int .i64 t201, .int .i64 0, .int .i64 0]) ?_ 2 _ rfl; (with_reducible repeat (first | refine blk_drewN ?_ _ | refine blk_drew ?_ | refine blk_alloc ?_ _)); refine blk_put (cs := #[.int .i64 t200, .int .i64 0, .int .i64 0, .int .i64 0]) ?_ 1 _ rfl; (with_reducible repeat (first | refine blk_drewN ?_ _ | refine blk_drew ?_ | refine blk_alloc ?_ _)); refine blk_put (cs := #[.int .i64 0, .int .i64 0, .int .i64 0, .int .i64 0]) ?_ 0 _ rfl; (with_reducible repeat (first | refine blk_drewN ?_ _ | refine blk_drew ?_ | refine blk_alloc ?_ _)); exact BK206.out) hb); have n8_ := Aside0.mk (KeepBut.trans (by repeat (first | (with_reducible first | exact HK.out | apply KeepBut.set_ | apply keep_drewN | apply keep_drew | apply keep_alloc | refine keep_far ?_ GW189.out _ | refine keep_far ?_ GW196.out _ | refine keep_far ?_ GW206.out _) | exact HK.out)) (KeepBut.of_below hb g none) (.inl rfl)); have n9_ := Aside0.mk (below_step (by repeat (first | (with_reducible first | exact HB.out | apply below_alloc | apply pw_below_drewN | apply below_drew1 | refine below_set ?_ (IsS81.ge HI0.out) | refine below_set ?_ GE189.out | refine below_set ?_ GE196.out | refine below_set ?_ GE206.out) | exact HB.out)) hb); clear HO_197000; clear HO_197001; clear BK189; clear BK196; clear HI0; clear BK206; clear HK; clear HB; have HO_197000 := n0_; have HO_197001 := n1_; have HO210 := n2_; have HO213 := n3_; have BK189 := n4_; have BK196 := n5_; have HI0 := n6_; have BK206 := n7_; have HK := n8_; have HB := n9_; clear n0_ n1_ n2_ n3_ n4_ n5_ n6_ n7_ n8_ n9_; (try clear hb); (try clear hb2); (try clear hk); (try clear hi); (try clear ho0); (try clear ho1); obtain ⟨Ao30, co30, eo30⟩ := Kd.R_slice HO210.out; subst eo30; have hcz31_0 : w29.cell? ⟨gb196, 0, none⟩ = some (.slice Ao28 x197000_1.length co28) := (blk_cell BK196.out 0).trans rfl; have hcz31_1 : w29.cell? ⟨gb196, 1, none⟩ = some (.slice (some ad207) x197001_1.length co27) := (blk_cell BK196.out 1).trans rfl; have hfz31_0 := blk_frozen BK196.out 0; have hfz31_1 := blk_frozen BK196.out 1; obtain ⟨Ao32, co32, eo32⟩ := Kd.R_slice HO213.out; subst eo32))
            go_roundg k1
            case measure => have := HK1.out; omega
            case rel => exact ⟨(wrap64 (x4_1 + 1)), (t204), (t205), (t208), (t211), (.slice Ao30 t208.length co30), (.slice Ao32 t211.length co32), (by first | rfl | (simp; done) | (simp [*]; done)), H', ⟨by have := HK1.out; omega⟩, ⟨by (with_reducible repeat (first | apply Kd.R_alloc | apply Kd.R_drewN | apply Kd.R_drew)); exact Kd.R_mono (Kd.R_far (p := ⟨gb196, 1, none⟩) (Kd.R_far (p := ⟨gb196, 0, none⟩) (Kd.R_types HO210.out BK196.out (by decide)) (fun _ hk => hk.2) (.slice Ao30 t208.length co30)) (fun _ hk => hk.2) (.slice Ao32 t211.length co32)) (fun _ hk => hk.1.1.1)⟩, ⟨by (with_reducible repeat (first | apply Kd.R_alloc | apply Kd.R_drewN | apply Kd.R_drew)); exact Kd.R_mono (Kd.R_far (p := ⟨gb196, 1, none⟩) (Kd.R_far (p := ⟨gb196, 0, none⟩) (Kd.R_types HO213.out BK196.out (by decide)) (fun _ hk => hk.2) (.slice Ao30 t208.length co30)) (fun _ hk => hk.2) (.slice Ao32 t211.length co32)) (fun _ hk => hk.1.1.1)⟩, ⟨by (with_reducible repeat (first | refine blk_drewN ?_ _ | refine blk_drew ?_ | refine blk_alloc ?_ _)); refine blk_far ?_ NB189_196.out _; (with_reducible repeat (first | refine blk_drewN ?_ _ | refine blk_drew ?_ | refine blk_alloc ?_ _)); refine blk_far ?_ NB189_196.out _; (with_reducible repeat (first | refine blk_drewN ?_ _ | refine blk_drew ?_ | refine blk_alloc ?_ _)); exact BK189.out⟩, ⟨by (with_reducible repeat (first | refine blk_drewN ?_ _ | refine blk_drew ?_ | refine blk_alloc ?_ _)); refine blk_put (cs := #[.slice Ao30 t208.length co30, .slice (some ad207) x197001_1.length co27]) ?_ 1 _ rfl; (with_reducible repeat (first | refine blk_drewN ?_ _ | refine blk_drew ?_ | refine blk_alloc ?_ _)); refine blk_put (cs := #[.slice Ao28 x197000_1.length co28, .slice (some ad207) x197001_1.length co27]) ?_ 0 _ rfl; (with_reducible repeat (first | refine blk_drewN ?_ _ | refine blk_drew ?_ | refine blk_alloc ?_ _)); exact BK196.out⟩, ⟨by repeat (first | (with_reducible first | exact HI0.out | apply IsS81.alloc | apply IsS81.drewN | apply IsS81.drew | apply IsS81.set_1 | apply IsS81.set_2 | refine IsS81.far ?_ NB0_189.out _ | refine IsS81.far ?_ NB0_196.out _ | refine IsS81.far ?_ NB0_206.out _) | exact HI0.out)⟩, ⟨by repeat (first | (with_reducible first | exact HK.out | apply KeepBut.set_ | apply keep_drewN | apply keep_drew | apply keep_alloc | refine keep_far ?_ GW189.out _ | refine keep_far ?_ GW196.out _ | refine keep_far ?_ GW206.out _) | exact HK.out)⟩, ⟨by repeat (first | (with_reducible first | exact HB.out | apply below_alloc | apply pw_below_drewN | apply below_drew1 | refine below_set ?_ (IsS81.ge HI0.out) | refine below_set ?_ GE189.out | refine below_set ?_ GE196.out | refine below_set ?_ GE206.out) | exact HB.out)⟩⟩
          · rw [if_neg c15] at H
            exact absurd H (by simp)
        · rw [if_neg c14] at H
          exact absurd H (by simp)
      · rw [if_neg c12] at H
        have c12b0 : decide (x4_1 < t197) = false := decide_eq_false c12
        clear c12
        simp only [Option.some.injEq, Prod.mk.injEq] at H
        obtain ⟨rfl, rfl, rfl, rfl⟩ := H
        go_wp2_with (first | ((with_reducible refine gate_callee (f := 73) rfl ?_); refine goesL_ (some 9) rfl rfl Try.func73 (by kernel_rfl) rfl #[.pointer (some ⟨g, 0, none⟩), .int .i64 6] rfl (by (try simp only [List.map_toArray, List.map_cons, List.map_nil]); first | done | rfl | (simp only [List.length_drop, List.length_take]; rfl)) ?_; (with_reducible refine (spec_l1Below.calls g s0_0 x1001_1 x1002_1 6 t197 t198 t199 w0 _ ?side1 ?side2 A11.out).mono ?_); (case side1 => repeat (first | (with_reducible first | exact HI0.out | apply IsS81.alloc | apply IsS81.drewN | apply IsS81.drew | apply IsS81.set_1 | apply IsS81.set_2 | refine IsS81.far ?_ NB0_189.out _ | refine IsS81.far ?_ NB0_196.out _) | exact HI0.out)); (case side2 => repeat (first | (with_reducible first | exact HB.out | apply below_alloc | apply pw_below_drewN | apply below_drew1 | refine below_set ?_ (IsS81.ge HI0.out) | refine below_set ?_ GE189.out | refine below_set ?_ GE196.out) | exact HB.out)); rintro e w33 ⟨rfl, hi, hb, hk⟩; refine ⟨_, rfl, ?_⟩; have n0_ := Aside0.mk (Kd.R_mono (Kd.R_keep (IsS81.apart (show IsS81 w0 _ g s0_0 x1001_1 x1002_1 from by repeat (first | (with_reducible first | exact HI0.out | apply IsS81.alloc | apply IsS81.drewN | apply IsS81.drew | apply IsS81.set_1 | apply IsS81.set_2 | refine IsS81.far ?_ NB0_189.out _ | refine IsS81.far ?_ NB0_196.out _) | exact HI0.out)) (by (with_reducible repeat (first | apply Kd.R_alloc | apply Kd.R_drewN | apply Kd.R_drew)); exact HO_197000.out) (by decide)) hk (fun _ h => h.2)) (fun _ h => h.1)); have n1_ := Aside0.mk (Kd.R_mono (Kd.R_keep (IsS81.apart (show IsS81 w0 _ g s0_0 x1001_1 x1002_1 from by repeat (first | (with_reducible first | exact HI0.out | apply IsS81.alloc | apply IsS81.drewN | apply IsS81.drew | apply IsS81.set_1 | apply IsS81.set_2 | refine IsS81.far ?_ NB0_189.out _ | refine IsS81.far ?_ NB0_196.out _) | exact HI0.out)) (by (with_reducible repeat (first | apply Kd.R_alloc | apply Kd.R_drewN | apply Kd.R_drew)); exact HO_197001.out) (by decide)) hk (fun _ h => h.2)) (fun _ h => h.1)); have n2_ := Aside0.mk (KeepBut.blk hk (g' := gb189) (o := .cells #[.slice none 0 0, .slice none 0 0] 27 (0, 0)) (by (with_reducible repeat (first | refine blk_drewN ?_ _ | refine blk_drew ?_ | refine blk_alloc ?_ _)); exact BK189.out) NB189_0.out (by simp)); have n3_ := Aside0.mk (KeepBut.blk hk (g' := gb196) (o := .cells #[u197000, u197001] 27 (0, 0)) (by (with_reducible repeat (first | refine blk_drewN ?_ _ | refine blk_drew ?_ | refine blk_alloc ?_ _)); exact BK196.out) NB196_0.out (by simp)); have n4_ := Aside0.mk (KeepBut.trans (by repeat (first | (with_reducible first | exact HK.out | apply KeepBut.set_ | apply keep_drewN | apply keep_drew | apply keep_alloc | refine keep_far ?_ GW189.out _ | refine keep_far ?_ GW196.out _) | exact HK.out)) hk (.inl rfl)); have n5_ := Aside0.mk (hb); have n6_ := Aside0.mk (hi); clear HO_197000; clear HO_197001; clear BK189; clear BK196; clear HK; clear HB; clear HI0; have HO_197000 := n0_; have HO_197001 := n1_; have BK189 := n2_; have BK196 := n3_; have HK := n4_; have HB := n5_; have HI0 := n6_; clear n0_ n1_ n2_ n3_ n4_ n5_ n6_; (try clear hb); (try clear hb2); (try clear hk); (try clear hi); have hnb34 := NB196_189.out; have hnc34 := NB189_196.out; have hnb35 := NB196_0.out; have hnc35 := NB0_196.out; have hcz36_0 : w33.cell? ⟨gb196, 0, none⟩ = some (u197000) := (blk_cell BK196.out 0).trans rfl; have hcz36_1 : w33.cell? ⟨gb196, 1, none⟩ = some (u197001) := (blk_cell BK196.out 1).trans rfl; have hfz36_0 := blk_frozen BK196.out 0; have hfz36_1 := blk_frozen BK196.out 1; obtain ⟨Ao37, co37, eo37⟩ := Kd.R_slice HO_197000.out; subst eo37; have hnb38 := NB189_0.out; have hnc38 := NB0_189.out; have hcz39_0 : w33.cell? ⟨gb189, 0, none⟩ = some (.slice none 0 0) := (blk_cell BK189.out 0).trans rfl; have hcz39_1 : w33.cell? ⟨gb189, 1, none⟩ = some (.slice none 0 0) := (blk_cell BK189.out 1).trans rfl; have hfz39_0 := blk_frozen BK189.out 0; have hfz39_1 := blk_frozen BK189.out 1; obtain ⟨Ao40, co40, eo40⟩ := Kd.R_slice HO_197001.out; subst eo40))
        refine bodyPost_ret (results_cell_row rfl _ _ gb189 27 #[.slice Ao37 x197000_1.length co37, .slice Ao40 x197001_1.length co40] (0, 0) _ rfl (by (with_reducible repeat (first | refine blk_drewN ?_ _ | refine blk_drew ?_ | refine blk_alloc ?_ _)); refine blk_put (cs := #[.slice Ao37 x197000_1.length co37, .slice none 0 0]) ?_ 1 _ rfl; (with_reducible repeat (first | refine blk_drewN ?_ _ | refine blk_drew ?_ | refine blk_alloc ?_ _)); refine blk_put (cs := #[.slice none 0 0, .slice none 0 0]) ?_ 0 _ rfl; (with_reducible repeat (first | refine blk_drewN ?_ _ | refine blk_drew ?_ | refine blk_alloc ?_ _)); exact BK189.out) Try.underlying27 rfl (by kernel_rfl)) rfl ?_
        exact ⟨_, _, by first | rfl | (simp [errW_none, errW_some] <;> rfl) | (simp [*, errW_none, errW_some] <;> rfl), by (with_reducible repeat (first | apply Kd.R_alloc | apply Kd.R_drewN | apply Kd.R_drew)); exact Kd.R_mono (Kd.R_far (p := ⟨gb189, 1, none⟩) (Kd.R_far (p := ⟨gb189, 0, none⟩) (Kd.R_types HO_197000.out BK189.out (by decide)) (fun _ hk => hk.2) (.slice Ao37 x197000_1.length co37)) (fun _ hk => hk.2) (.slice Ao40 x197001_1.length co40)) (fun _ hk => hk.1), by (with_reducible repeat (first | apply Kd.R_alloc | apply Kd.R_drewN | apply Kd.R_drew)); exact Kd.R_mono (Kd.R_far (p := ⟨gb189, 1, none⟩) (Kd.R_far (p := ⟨gb189, 0, none⟩) (Kd.R_types HO_197001.out BK189.out (by decide)) (fun _ hk => hk.2) (.slice Ao37 x197000_1.length co37)) (fun _ hk => hk.2) (.slice Ao40 x197001_1.length co40)) (fun _ hk => hk.1), by repeat (first | (with_reducible first | exact HI0.out | apply IsS81.alloc | apply IsS81.drewN | apply IsS81.drew | apply IsS81.set_1 | apply IsS81.set_2 | refine IsS81.far ?_ NB0_189.out _ | refine IsS81.far ?_ NB0_196.out _) | exact HI0.out), by repeat (first | (with_reducible first | exact HB.out | apply below_alloc | apply pw_below_drewN | apply below_drew1 | refine below_set ?_ (IsS81.ge HI0.out) | refine below_set ?_ GE189.out | refine below_set ?_ GE196.out) | exact HB.out), by repeat (first | (with_reducible first | exact HK.out | apply KeepBut.set_ | apply keep_drewN | apply keep_drew | apply keep_alloc | refine keep_far ?_ GW189.out _ | refine keep_far ?_ GW196.out _) | exact HK.out)⟩

end Go.Proofs.Ytajblkfgdalldaa.PFnLedgers
