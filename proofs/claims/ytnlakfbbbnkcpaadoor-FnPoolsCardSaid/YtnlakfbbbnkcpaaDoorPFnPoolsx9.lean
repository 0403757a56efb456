/- Walks of the functions that a law of seat YtnlakfbbbnkcpaaDoor reaches, each against a Lean function, printed by this session's wip/myprint.py; no condition of their own. -/
import Derived.Test.YtnlakfbbbnkcpaaDoorH
import Derived.Test.YtnlakfbbbnkcpaaDoorPFnPoolsx0
import Derived.Test.YtnlakfbbbnkcpaaDoorPFnPoolsx2
import Derived.Test.YtnlakfbbbnkcpaaDoorPFnPoolsx4
import Derived.Test.YtnlakfbbbnkcpaaDoorPFnPoolsx8
namespace Go.Proofs.YtnlakfbbbnkcpaaDoor.PFnPools
open Go.RowKit Go.Proofs.YtnlakfbbbnkcpaaDoorW.PrintWords Go.Proofs.YtnlakfbbbnkcpaaDoorW.PrintLast Go.Proofs.YtnlakfbbbnkcpaaDoorW.PrintMore
attribute [local go_sem] max2_int min2_int max_two min_two max_three min_three max_four min_four   -- for this text's walks alone
set_option linter.unusedVariables false
set_option linter.unusedSimpArgs false

/-! ### spec_Pay: function 36 -/
-- included common.lean
theorem up1 (n : Nat) (h : n < 4611686018427387904) : wrap64 ((n : Int) + 1) = ((n + 1 : Nat) : Int) := by
  unfold wrap64; omega
theorem up1' (a : Int) (h0 : -4611686018427387904 ≤ a) (h : a < 4611686018427387904) : wrap64 (a + 1) = a + 1 := by
  unfold wrap64; omega
theorem dn1 (a : Int) (h0 : -4611686018427387904 ≤ a) (h : a < 4611686018427387904) : wrap64 (a - 1) = a - 1 := by
  unfold wrap64; omega
theorem wrapI (a : Int) (h0 : -4611686018427387904 ≤ a) (h : a < 4611686018427387904) : wrap64 a = a := by
  unfold wrap64; omega
theorem rd_nat (xs : List Int) (n : Nat) (h : n < xs.length) : rd xs (n : Int) = xs[n] := by
  unfold rd; simp [List.getD_eq_getElem?_getD, h]
theorem ev_eq {α : Type} {g : Nat → Option α} {r s : α} (h : Ev g r) (e : r = s) : Ev g s := e ▸ h
theorem ev_ite {α : Type} {c : Prop} [Decidable c] {g f : Nat → Option α} {r s : α} (hg : c → Ev g r) (hf : ¬ c → Ev f s) : Ev (fun k => if c then g k else f k) (if c then r else s) := by
  by_cases h : c
  · simp only [if_pos h]; exact hg h
  · simp only [if_neg h]; exact hf h
theorem ev_pos {α : Type} {c : Prop} [Decidable c] {g f : Nat → Option α} {r : α} (h : c) (hg : Ev g r) : Ev (fun k => if c then g k else f k) r := by
  simp only [if_pos h]; exact hg
theorem ev_neg {α : Type} {c : Prop} [Decidable c] {g f : Nat → Option α} {r : α} (h : ¬ c) (hf : Ev f r) : Ev (fun k => if c then g k else f k) r := by
  simp only [if_neg h]; exact hf
theorem ev_some {α : Type} {r s : α} (e : r = s) : Ev (fun _ => some r) s := e ▸ Ev.now r
theorem ev_const {α β : Type} {o : Option α} {f : Nat → α → Option β} {a : α} {r : β} (h : o = some a) (k : Ev (fun n => f n a) r) : Ev (fun n => o.bind (f n)) r := by
  subst h; exact k
theorem ev_up {α : Type} {g : Nat → Option α} {r : α} (h : Ev (fun k => g (k + 1)) r) : Ev g r := by
  obtain ⟨K, hK⟩ := h
  refine ⟨K + 1, fun k hk => ?_⟩
  obtain ⟨m, rfl⟩ : ∃ m, k = m + 1 := ⟨k - 1, by omega⟩
  exact hK m (by omega)
theorem wNat (c : Nat) (h : c < 4611686018427387904) : wrap64 (c : Int) = (c : Int) := by unfold wrap64; omega
theorem wAdd (a i : Nat) (h : a + i < 4611686018427387904) : wrap64 ((a : Int) + (i : Int)) = ((a + i : Nat) : Int) := by unfold wrap64; omega
theorem wAdd1 (a i : Nat) (h : a + i < 4611686018427387904) : wrap64 (((a + i : Nat) : Int) + 1) = (a : Int) + ((i + 1 : Nat) : Int) := by unfold wrap64; omega
theorem wSub (a i : Nat) (h : a < 4611686018427387904) (h' : i < 4611686018427387904) : wrap64 ((a : Int) - (i : Int)) = (a : Int) - (i : Int) := by unfold wrap64; omega
theorem tmod128 (c : Nat) : Int.tmod (c : Int) 128 = ((c % 128 : Nat) : Int) := by rw [Int.tmod_eq_emod_of_nonneg (by omega)]; omega
theorem all_drop {α : Type} {P : α → Prop} {l : List α} {i : Nat} (h : i < l.length) : (∀ x ∈ l.drop i, P x) ↔ P l[i] ∧ ∀ x ∈ l.drop (i + 1), P x := by
  rw [List.drop_eq_getElem_cons h, List.forall_mem_cons]
-- included spec_l1In.lean
theorem spec_l1In_val (a b c : Int) : spec_l1In.f a b c = some (decide (b ≤ a ∧ a ≤ c)) := by
  unfold spec_l1In.f
  by_cases h : a ≥ b <;> by_cases h2 : a ≤ c <;> simp [h, h2] <;> omega
-- included spec_l3Copy.lean
theorem spec_l3Copy_val (h n : List Int) (b1 : h.length ≤ 1048576) (b2 : n.length ≤ 1048576) : spec_l3Copy.f h n = some (h, n) := by
  unfold spec_l3Copy.f
  simp only [Option.bind_some, List.length_nil, List.nil_append]
  rw [if_pos (by omega), if_pos (by omega)]
-- included spec_LedgerOk.lean
-- included ledger.inc
def ledgerIs (h n : List Int) : Prop := (h.length = 4 ∧ n.length = 4) ∧ (∀ x ∈ h, 0 ≤ x ∧ x ≤ 400) ∧ ∀ x ∈ n, 0 ≤ x ∧ x ≤ 100
instance (h n : List Int) : Decidable (ledgerIs h n) := by unfold ledgerIs; infer_instance
theorem spec_LedgerOk_loop (h n : List Int) (hh : h.length = 4) (hn : n.length = 4) : ∀ (d i : Nat), i + d = 4 → Ev (fun k => spec_LedgerOk.l0 k (i : Int) h n) (decide ((∀ x ∈ h.drop i, 0 ≤ x ∧ x ≤ 400) ∧ ∀ x ∈ n.drop i, 0 ≤ x ∧ x ≤ 100)) := by
  intro d
  induction d with
  | zero =>
    intro i hi
    refine Ev.step (f := fun _ => some true) (fun k => by simp only [spec_LedgerOk.l0]; rw [if_neg (by omega)]) (ev_some ?_)
    rw [List.drop_of_length_le (by omega), List.drop_of_length_le (by omega)]; simp
  | succ d ih =>
    intro i hi
    have h1 : i < h.length := by omega
    have h2 : i < n.length := by omega
    refine Ev.step (f := fun k => (spec_l1In.f h[i] 0 400).bind fun t => if t = true then ((spec_l1In.f n[i] 0 100).bind fun u => if u = true then spec_LedgerOk.l0 k ((i + 1 : Nat) : Int) h n else some false) else some false) (fun k => by simp only [spec_LedgerOk.l0]; rw [if_pos (by omega), if_pos (by omega), if_pos (by omega), if_pos (by omega), rd_nat h i h1, rd_nat n i h2, up1 i (by omega)]) ?_
    refine ev_const (spec_l1In_val _ _ _) ?_
    by_cases c1 : 0 ≤ h[i] ∧ h[i] ≤ 400
    · refine ev_pos (by simpa using c1) (ev_const (spec_l1In_val _ _ _) ?_)
      by_cases c2 : 0 ≤ n[i] ∧ n[i] ≤ 100
      · exact ev_pos (by simpa using c2) (ev_eq (ih (i + 1) (by omega)) (decide_eq_decide.mpr (by rw [all_drop h1, all_drop h2]; exact ⟨fun z => ⟨⟨c1, z.1⟩, c2, z.2⟩, fun z => ⟨z.1.2, z.2.2⟩⟩)))
      · exact ev_neg (by simpa using c2) (ev_some (decide_eq_false (by rw [all_drop h2]; exact fun z => c2 z.2.1)).symm)
    · exact ev_neg (by simpa using c1) (ev_some (decide_eq_false (by rw [all_drop h1]; exact fun z => c1 z.1.1)).symm)
theorem spec_LedgerOk_ev (h n : List Int) : Ev (fun k => spec_LedgerOk.f k h n) (decide (ledgerIs h n)) := by
  unfold spec_LedgerOk.f ledgerIs
  have tr : ∀ b : Bool, b = true → Ev (fun k => spec_LedgerOk.j0 k b h n) false := fun b hb => Ev.step (f := fun _ => some false) (fun k => by simp only [spec_LedgerOk.j0]; rw [if_pos hb]) (ev_some rfl)
  by_cases hh : h.length = 4
  · refine ev_pos (by omega) ?_
    by_cases hn : n.length = 4
    · rw [show ((n.length : Int) != 4) = false by simp; omega]
      refine Ev.step (f := fun k => spec_LedgerOk.l0 k 0 h n) (fun k => by simp only [spec_LedgerOk.j0]; rw [if_neg (by decide)]) ?_
      refine ev_eq (spec_LedgerOk_loop h n hh hn 4 0 rfl) (decide_eq_decide.mpr ?_)
      simp [hh, hn]
    · exact ev_eq (tr _ (by simp; omega)) (decide_eq_false (fun z => hn z.1.2)).symm
  · exact ev_neg (by omega) (ev_eq (tr true rfl) (decide_eq_false (fun z => hh z.1.1)).symm)
-- included spec_TxOk.lean
-- included txis.inc
def txIs (f t a n : Int) : Prop := (0 ≤ f ∧ f ≤ 3) ∧ (0 ≤ t ∧ t ≤ 3) ∧ (0 ≤ a ∧ a ≤ 1000) ∧ 0 ≤ n ∧ n ≤ 99
instance (f t a n : Int) : Decidable (txIs f t a n) := by unfold txIs; infer_instance
theorem spec_TxOk_val (f t a n : Int) : spec_TxOk.f f t a n = some (decide (txIs f t a n)) := by
  unfold spec_TxOk.f txIs
  simp only [spec_l1In_val, Option.bind_some, decide_eq_true_eq]
  by_cases h1 : 0 ≤ f ∧ f ≤ 3 <;> by_cases h2 : 0 ≤ t ∧ t ≤ 3 <;> by_cases h3 : 0 ≤ a ∧ a ≤ 1000 <;> simp only [h1, h2, h3, if_true, if_false, true_and, false_and, and_false, and_self, decide_false]
-- included pay.inc
def mvL (h : List Int) (f t a : Int) : List Int := (h.set f.toNat (wrap64 (rd h f - a))).set t.toNat (wrap64 (rd (h.set f.toNat (wrap64 (rd h f - a))) t + a))
def payL (h n : List Int) (f t a m : Int) : List Int × List Int × Int :=
  if ¬ (ledgerIs h n ∧ txIs f t a m) then (h, n, 1) else if m < rd n f then (h, n, 2) else if m > rd n f then (h, n, 3) else if a > rd h f then (h, n.set f.toNat (wrap64 (m + 1)), 4) else if ledgerIs (mvL h f t a) (n.set f.toNat (wrap64 (m + 1))) then (mvL h f t a, n.set f.toNat (wrap64 (m + 1)), 0) else (h, n, 1)
-- included sl_ledger.inc
theorem wrapEq (x : Int) : IntKind.i64.wrap x = wrap64 x := by rw [IntKind.wrap_i64]; unfold wrap64; rfl
theorem mvL_len (h : List Int) (f t a : Int) : h.length = (mvL h f t a).length := by unfold mvL; rw [List.length_set, List.length_set]
def payF (b : Bool) (h n : List Int) (f t a m : Int) : List Int × List Int × Int :=
  if m < rd n f then (h, n, 2) else if m > rd n f then (h, n, 3) else if a > rd h f then (h, n.set f.toNat (wrap64 (m + 1)), 4) else if b = true then (mvL h f t a, n.set f.toNat (wrap64 (m + 1)), 0) else (h, n, 1)
instance : Go.Proofs.YtnlakfbbbnkcpaaDoorH.ZeroT Tryd.prog 33 #[.slice none 0 0, .slice none 0 0] := ⟨by kernel_rfl⟩
instance : Go.Proofs.YtnlakfbbbnkcpaaDoorH.AggT Tryd.prog 33 2 := ⟨by kernel_rfl, by kernel_rfl⟩
instance : Go.Proofs.YtnlakfbbbnkcpaaDoorH.AggT Tryd.prog 26 4 := ⟨by kernel_rfl, by kernel_rfl⟩
instance : Go.Proofs.YtnlakfbbbnkcpaaDoorH.CellT Tryd.prog 3 := ⟨by kernel_rfl, by kernel_rfl⟩
instance : Go.Proofs.YtnlakfbbbnkcpaaDoorH.CellT Tryd.prog 31 := ⟨by kernel_rfl, by kernel_rfl⟩
theorem spec_Pay.lok (k : Nat) (A0 : Option Addr) (c0 : Nat) (l0 : List Int) (n0 : Nat) (A1 : Option Addr) (c1 : Nat) (l1 : List Int) (n1 : Nat) (r : Bool) (w : World) (e0 : n0 = l0.length) (e1 : n1 = l1.length) (hr0 : Kd.C (Kd.int .i64) w A0 l0.length l0) (hc0 : l0.length ≤ c0) (hr1 : Kd.C (Kd.int .i64) w A1 l1.length l1) (hc1 : l1.length ≤ c1) (h : spec_LedgerOk.f k l0 l1 = some r) :
    Calls Tryd.prog 53 #[.agg #[.slice A0 n0 c0, .slice A1 n1 c1]] w fun e w' => e = .returned (.bool r) ∧ Below w.heap.size w w' := by
  subst e0
  subst e1
  exact spec_LedgerOk.calls _ _ _ _ _ _ _ _ _ hr0 hc0 hr1 hc1 h
open Go.Proofs.YtnlakfbbbnkcpaaDoorH in
set_option maxHeartbeats 4000000 in
set_option maxRecDepth 100000 in
theorem spec_Pay.bad (k : Nat) (A0_0 : Option Addr) (c0_0 : Nat) (l0_0 : List Int) (A0_1 : Option Addr) (c0_1 : Nat) (l0_1 : List Int) (a1_0 a1_1 a1_2 a1_3 : Int) (b0 b1 : Bool) (w : World) (hr0 : Aside0 (Kd.C (Kd.int .i64) w A0_0 l0_0.length l0_0)) (hc0 : Aside0 (l0_0.length ≤ c0_0)) (hr1 : Aside0 (Kd.C (Kd.int .i64) w A0_1 l0_1.length l0_1)) (hc1 : Aside0 (l0_1.length ≤ c0_1)) (hcp : Aside0 (spec_l3Copy.f l0_0 l0_1 = some (l0_0, l0_1))) (hk : Aside0 (spec_LedgerOk.f k l0_0 l0_1 = some b0)) (hx : Aside0 (spec_TxOk.f a1_0 a1_1 a1_2 a1_3 = some b1)) (hb : (b0 && b1) = false) :
    Calls Tryd.prog 36 #[.agg #[.slice A0_0 l0_0.length c0_0, .slice A0_1 l0_1.length c0_1], .agg #[.int .i64 a1_0, .int .i64 a1_1, .int .i64 a1_2, .int .i64 a1_3]] w fun e w' => ∃ v0_ v1_ : Value, e = .returned (.tuple #[.agg #[v0_, v1_], .int .i64 (1)]) ∧ Kd.R (Kd.int .i64) 3 w' w.heap.size (fun k_ => some k_ ≠ (v1_ : Value).ownBlock) v0_ (l0_0) ∧ Kd.R (Kd.int .i64) 3 w' w.heap.size (fun k_ => some k_ ≠ (v0_ : Value).ownBlock) v1_ (l0_1) ∧ Below w.heap.size w w' := by
  have HS := SS.nil w
  rcases b0 with _ | _
  · clear hb
    go_enter Tryd.func36, Tryd.ntmps36
    go_wp2_with (first | ((with_reducible refine gate_dst (N := 4) rfl ?_); refine ev_alloc HS rfl rfl ?_; clear HS; intro g4 w1 HS) | ((with_reducible refine gate_dst (N := 6) rfl ?_); refine ev_alloc HS rfl rfl ?_; clear HS; intro g6 w1 HS) | ((with_reducible refine gate_dst (N := 2) rfl ?_); refine ev_box HS (cs := #[.slice A0_0 l0_0.length c0_0, .slice A0_1 l0_1.length c0_1]) rfl rfl rfl ?_; clear HS; intro g2 w1 HS) | ((with_reducible refine gate_dst (N := 3) rfl ?_); refine ev_box HS (cs := #[.int .i64 a1_0, .int .i64 a1_1, .int .i64 a1_2, .int .i64 a1_3]) rfl rfl rfl ?_; clear HS; intro g3 w1 HS) | ((with_reducible refine gate_load rfl ?_); first | refine ev_loadC HS rfl rfl rfl (by rfl) ?_ | refine ev_loadS HS rfl rfl rfl (by rfl) ?_) | ((with_reducible refine gate_put rfl ?_); (first | refine ev_storeC HS rfl rfl rfl rfl rfl (by rfl) (by rfl) ?_ | refine ev_storeS HS rfl rfl rfl rfl rfl (by rfl) (by rfl) (by rfl) ?_); clear HS; intro w1 HS) | (go_at_call 35; refine (spec_l3Copy.calls _ _ _ _ _ _ _ _ _ (Kd.C_below hr0.out HS.below) hc0.out (Kd.C_below hr1.out HS.below) hc1.out hcp.out).mono ?_; rintro e w1 ⟨v0, v1, rfl, ho0, ho1, hb⟩; obtain ⟨Ao0, co0, Ao1, co1, rfl, rfl, HS1⟩ := HS.got2 hb ho0 ho1 (fun _ h => h); clear HS ho0 ho1 hb; have HS := HS1; clear HS1) | (go_at_call 53; refine (spec_LedgerOk.calls _ _ _ _ _ _ _ _ _ (Kd.C_below hr0.out HS.below) hc0.out (Kd.C_below hr1.out HS.below) hc1.out hk.out).mono ?_; rintro e w1 ⟨rfl, hb⟩; have HS1 := HS.later hb; clear HS hb; have HS := HS1; clear HS1) | (go_at_call 33; refine (spec_TxOk.calls _ _ _ _ _ _ hx.out).mono ?_; rintro e w1 ⟨rfl, hb⟩; have HS1 := HS.later hb; clear HS hb; have HS := HS1; clear HS1))
    refine bodyPost_ret (results_ct rfl _ _ g4 33 #[.slice Ao0 l0_0.length co0, .slice Ao1 l0_1.length co1] (0, 0) _ rfl (HS.box g4) Tryd.underlying33 rfl (by kernel_rfl)) rfl ?_
    exact ⟨_, _, rfl, HS.out2 Ao0 Ao1 (by decide), HS.out2 Ao1 Ao0 (by decide), HS.below⟩
  · obtain rfl : b1 = false := by simpa using hb
    clear hb
    go_enter Tryd.func36, Tryd.ntmps36
    go_wp2_with (first | ((with_reducible refine gate_dst (N := 4) rfl ?_); refine ev_alloc HS rfl rfl ?_; clear HS; intro g4 w1 HS) | ((with_reducible refine gate_dst (N := 6) rfl ?_); refine ev_alloc HS rfl rfl ?_; clear HS; intro g6 w1 HS) | ((with_reducible refine gate_dst (N := 2) rfl ?_); refine ev_box HS (cs := #[.slice A0_0 l0_0.length c0_0, .slice A0_1 l0_1.length c0_1]) rfl rfl rfl ?_; clear HS; intro g2 w1 HS) | ((with_reducible refine gate_dst (N := 3) rfl ?_); refine ev_box HS (cs := #[.int .i64 a1_0, .int .i64 a1_1, .int .i64 a1_2, .int .i64 a1_3]) rfl rfl rfl ?_; clear HS; intro g3 w1 HS) | ((with_reducible refine gate_load rfl ?_); first | refine ev_loadC HS rfl rfl rfl (by rfl) ?_ | refine ev_loadS HS rfl rfl rfl (by rfl) ?_) | ((with_reducible refine gate_put rfl ?_); (first | refine ev_storeC HS rfl rfl rfl rfl rfl (by rfl) (by rfl) ?_ | refine ev_storeS HS rfl rfl rfl rfl rfl (by rfl) (by rfl) (by rfl) ?_); clear HS; intro w1 HS) | (go_at_call 35; refine (spec_l3Copy.calls _ _ _ _ _ _ _ _ _ (Kd.C_below hr0.out HS.below) hc0.out (Kd.C_below hr1.out HS.below) hc1.out hcp.out).mono ?_; rintro e w1 ⟨v0, v1, rfl, ho0, ho1, hb⟩; obtain ⟨Ao0, co0, Ao1, co1, rfl, rfl, HS1⟩ := HS.got2 hb ho0 ho1 (fun _ h => h); clear HS ho0 ho1 hb; have HS := HS1; clear HS1) | (go_at_call 53; refine (spec_LedgerOk.calls _ _ _ _ _ _ _ _ _ (Kd.C_below hr0.out HS.below) hc0.out (Kd.C_below hr1.out HS.below) hc1.out hk.out).mono ?_; rintro e w1 ⟨rfl, hb⟩; have HS1 := HS.later hb; clear HS hb; have HS := HS1; clear HS1) | (go_at_call 33; refine (spec_TxOk.calls _ _ _ _ _ _ hx.out).mono ?_; rintro e w1 ⟨rfl, hb⟩; have HS1 := HS.later hb; clear HS hb; have HS := HS1; clear HS1))
    refine bodyPost_ret (results_ct rfl _ _ g4 33 #[.slice Ao0 l0_0.length co0, .slice Ao1 l0_1.length co1] (0, 0) _ rfl (HS.box g4) Tryd.underlying33 rfl (by kernel_rfl)) rfl ?_
    exact ⟨_, _, rfl, HS.out2 Ao0 Ao1 (by decide), HS.out2 Ao1 Ao0 (by decide), HS.below⟩

open Go.Proofs.YtnlakfbbbnkcpaaDoorH in
set_option maxHeartbeats 4000000 in
set_option maxRecDepth 100000 in
theorem spec_Pay.fine (k k2 : Nat) (ad0 ad1 : Addr) (c0_0 : Nat) (l0_0 : List Int) (c0_1 : Nat) (l0_1 : List Int) (a1_0 a1_1 a1_2 a1_3 : Int) (w : World) (hr0 : Aside0 (Kd.C (Kd.int .i64) w (some ad0) l0_0.length l0_0)) (hc0 : Aside0 (l0_0.length ≤ c0_0)) (hr1 : Aside0 (Kd.C (Kd.int .i64) w (some ad1) l0_1.length l0_1)) (hc1 : Aside0 (l0_1.length ≤ c0_1)) (hcp : Aside0 (spec_l3Copy.f l0_0 l0_1 = some (l0_0, l0_1))) (hk : Aside0 (spec_LedgerOk.f k l0_0 l0_1 = some true)) (hx : Aside0 (spec_TxOk.f a1_0 a1_1 a1_2 a1_3 = some true))
    (hx0 : Aside0 (w.cell? (ad0.add a1_0.toNat) = some (.int .i64 (rd l0_0 a1_0)))) (hx1 : Aside0 (w.cell? (ad1.add a1_0.toNat) = some (.int .i64 (rd l0_1 a1_0)))) (f0 : 0 ≤ a1_0) (f1 : a1_0 < (l0_0.length : Int)) (f2 : a1_0 < (l0_1.length : Int)) (t0 : 0 ≤ a1_1) (t1 : a1_1 < (l0_0.length : Int)) (t1' : a1_1 < ((l0_0.set a1_0.toNat (wrap64 (rd l0_0 a1_0 - a1_2))).length : Int)) (b6 : Bool) (hk2 : Aside0 (spec_LedgerOk.f k2 (mvL l0_0 a1_0 a1_1 a1_2) (l0_1.set a1_0.toNat (wrap64 (a1_3 + 1))) = some b6)) (r1 r2 : List Int) (r3 : Int) (hR : Aside0 (payF b6 l0_0 l0_1 a1_0 a1_1 a1_2 a1_3 = (r1, r2, r3))) :
    Calls Tryd.prog 36 #[.agg #[.slice (some ad0) l0_0.length c0_0, .slice (some ad1) l0_1.length c0_1], .agg #[.int .i64 a1_0, .int .i64 a1_1, .int .i64 a1_2, .int .i64 a1_3]] w fun e w' => ∃ v0_ v1_ : Value, e = .returned (.tuple #[.agg #[v0_, v1_], .int .i64 (r3)]) ∧ Kd.R (Kd.int .i64) 3 w' w.heap.size (fun k_ => some k_ ≠ (v1_ : Value).ownBlock) v0_ (r1) ∧ Kd.R (Kd.int .i64) 3 w' w.heap.size (fun k_ => some k_ ≠ (v0_ : Value).ownBlock) v1_ (r2) ∧ Below w.heap.size w w' := by
  have HS := SS.nil w
  go_enter Tryd.func36, Tryd.ntmps36
  go_upto_region 4 with (first | ((with_reducible refine gate_dst (N := 4) rfl ?_); refine ev_alloc HS rfl rfl ?_; clear HS; intro g4 w1 HS) | ((with_reducible refine gate_dst (N := 6) rfl ?_); refine ev_alloc HS rfl rfl ?_; clear HS; intro g6 w1 HS) | ((with_reducible refine gate_dst (N := 2) rfl ?_); refine ev_box HS (cs := #[.slice (some ad0) l0_0.length c0_0, .slice (some ad1) l0_1.length c0_1]) rfl rfl rfl ?_; clear HS; intro g2 w1 HS) | ((with_reducible refine gate_dst (N := 3) rfl ?_); refine ev_box HS (cs := #[.int .i64 a1_0, .int .i64 a1_1, .int .i64 a1_2, .int .i64 a1_3]) rfl rfl rfl ?_; clear HS; intro g3 w1 HS) | ((with_reducible refine gate_load rfl ?_); first | refine ev_loadC HS rfl rfl rfl (by rfl) ?_ | refine ev_loadS HS rfl rfl rfl (by rfl) ?_) | ((with_reducible refine gate_put rfl ?_); (first | refine ev_storeC HS rfl rfl rfl rfl rfl (by rfl) (by rfl) ?_ | refine ev_storeS HS rfl rfl rfl rfl rfl (by rfl) (by rfl) (by rfl) ?_); clear HS; intro w1 HS) | (go_at_call 35; refine (spec_l3Copy.calls _ _ _ _ _ _ _ _ _ (Kd.C_below hr0.out HS.below) hc0.out (Kd.C_below hr1.out HS.below) hc1.out hcp.out).mono ?_; rintro e w1 ⟨v0, v1, rfl, ho0, ho1, hb⟩; obtain ⟨Ao0, co0, Ao1, co1, rfl, rfl, HS1⟩ := HS.got2 hb ho0 ho1 (fun _ h => h); clear HS ho0 ho1 hb; have HS := HS1; clear HS1) | (go_at_call 53; refine (spec_LedgerOk.calls _ _ _ _ _ _ _ _ _ (Kd.C_below hr0.out HS.below) hc0.out (Kd.C_below hr1.out HS.below) hc1.out hk.out).mono ?_; rintro e w1 ⟨rfl, hb⟩; have HS1 := HS.later hb; clear HS hb; have HS := HS1; clear HS1) | (go_at_call 33; refine (spec_TxOk.calls _ _ _ _ _ _ hx.out).mono ?_; rintro e w1 ⟨rfl, hb⟩; have HS1 := HS.later hb; clear HS hb; have HS := HS1; clear HS1))
  have o1 := (HS.below.cell (World.block_lt_of_cell? w _ hx1.out)).trans hx1.out
  have b2 := fun j => HS.cell g2 j
  have b3 := fun j => HS.cell g3 j
  by_cases c3 : a1_3 < rd l0_1 a1_0
  · have c3b : decide (a1_3 < rd l0_1 a1_0) = true := decide_eq_true c3
    have hp := hR.out; unfold payF at hp; rw [if_pos c3] at hp; simp only [Prod.mk.injEq] at hp; obtain ⟨rfl, rfl, rfl⟩ := hp
    clear c3 hR
    go_quiet (fail)
    rename_i nq
    replace HS := HS.drewN nq
    generalize w1.drewN nq = w1 at HS ⊢
    clear b2 b3 o1
    go_wp2_with (first | ((with_reducible refine gate_load rfl ?_); first | refine ev_loadC HS rfl rfl rfl (by rfl) ?_ | refine ev_loadS HS rfl rfl rfl (by rfl) ?_) | ((with_reducible refine gate_put rfl ?_); (first | refine ev_storeC HS rfl rfl rfl rfl rfl (by rfl) (by rfl) ?_ | refine ev_storeS HS rfl rfl rfl rfl rfl (by rfl) (by rfl) (by rfl) ?_); clear HS; intro w1 HS))
    refine bodyPost_ret (results_ct rfl _ _ g4 33 #[.slice Ao0 l0_0.length co0, .slice Ao1 l0_1.length co1] (0, 0) _ rfl (HS.box g4) Tryd.underlying33 rfl (by kernel_rfl)) rfl ?_
    exact ⟨_, _, rfl, HS.out2 Ao0 Ao1 (by decide), HS.out2 Ao1 Ao0 (by decide), HS.below⟩
  have c3b : decide (a1_3 < rd l0_1 a1_0) = false := decide_eq_false c3
  go_quiet (fail)
  rename_i nq
  replace HS := HS.drewN nq
  generalize w1.drewN nq = w1 at HS ⊢
  clear b2 b3 o1
  go_upto_region 6 with (fail)
  have o1 := (HS.below.cell (World.block_lt_of_cell? w _ hx1.out)).trans hx1.out
  have b2 := fun j => HS.cell g2 j
  have b3 := fun j => HS.cell g3 j
  by_cases c4 : a1_3 > rd l0_1 a1_0
  · have c4b : decide (rd l0_1 a1_0 < a1_3) = true := decide_eq_true c4
    have hp := hR.out; unfold payF at hp; rw [if_neg c3, if_pos c4] at hp; simp only [Prod.mk.injEq] at hp; obtain ⟨rfl, rfl, rfl⟩ := hp
    clear c3 c4 hR
    go_quiet (fail)
    rename_i nq
    replace HS := HS.drewN nq
    generalize w1.drewN nq = w1 at HS ⊢
    clear b2 b3 o1
    go_wp2_with (first | ((with_reducible refine gate_load rfl ?_); first | refine ev_loadC HS rfl rfl rfl (by rfl) ?_ | refine ev_loadS HS rfl rfl rfl (by rfl) ?_) | ((with_reducible refine gate_put rfl ?_); (first | refine ev_storeC HS rfl rfl rfl rfl rfl (by rfl) (by rfl) ?_ | refine ev_storeS HS rfl rfl rfl rfl rfl (by rfl) (by rfl) (by rfl) ?_); clear HS; intro w1 HS))
    refine bodyPost_ret (results_ct rfl _ _ g4 33 #[.slice Ao0 l0_0.length co0, .slice Ao1 l0_1.length co1] (0, 0) _ rfl (HS.box g4) Tryd.underlying33 rfl (by kernel_rfl)) rfl ?_
    exact ⟨_, _, rfl, HS.out2 Ao0 Ao1 (by decide), HS.out2 Ao1 Ao0 (by decide), HS.below⟩
  have c4b : decide (rd l0_1 a1_0 < a1_3) = false := decide_eq_false c4
  go_quiet (fail)
  rename_i nq
  replace HS := HS.drewN nq
  generalize w1.drewN nq = w1 at HS ⊢
  clear b2 b3 o1
  obtain ⟨b1, rfl⟩ := HS.form Ao1 (by omega)
  go_upto_region 9 with (first | ((with_reducible refine gate_load rfl ?_); first | refine ev_loadC HS rfl rfl rfl (by rfl) ?_ | refine ev_loadS HS rfl rfl rfl (by rfl) ?_ | refine ev_loadI HS rfl rfl rfl (by assumption) (by assumption) ?_) | ((with_reducible refine gate_put rfl ?_); (first | refine ev_storeC HS rfl rfl rfl rfl rfl (by rfl) (by rfl) ?_ | refine ev_storeS HS rfl rfl rfl rfl rfl (by rfl) (by rfl) (by rfl) ?_ | refine ev_storeI HS rfl rfl rfl rfl rfl (by assumption) (by assumption) ?_); clear HS; intro w1 HS))
  have o1 := (HS.below.cell (World.block_lt_of_cell? w _ hx0.out)).trans hx0.out
  have b2 := fun j => HS.cell g2 j
  have b3 := fun j => HS.cell g3 j
  by_cases c5 : a1_2 > rd l0_0 a1_0
  · have c5b : decide (rd l0_0 a1_0 < a1_2) = true := decide_eq_true c5
    have hp := hR.out; unfold payF at hp; rw [if_neg c3, if_neg c4, if_pos c5] at hp; simp only [Prod.mk.injEq] at hp; obtain ⟨rfl, rfl, rfl⟩ := hp
    clear c3 c4 c5 hR
    go_quiet (fail)
    rename_i nq
    replace HS := HS.drewN nq
    generalize w1.drewN nq = w1 at HS ⊢
    clear b2 b3 o1
    go_wp2_with (first | ((with_reducible refine gate_load rfl ?_); first | refine ev_loadC HS rfl rfl rfl (by rfl) ?_ | refine ev_loadS HS rfl rfl rfl (by rfl) ?_) | ((with_reducible refine gate_put rfl ?_); (first | refine ev_storeC HS rfl rfl rfl rfl rfl (by rfl) (by rfl) ?_ | refine ev_storeS HS rfl rfl rfl rfl rfl (by rfl) (by rfl) (by rfl) ?_); clear HS; intro w1 HS))
    refine bodyPost_ret (results_ct rfl _ _ g4 33 #[.slice Ao0 l0_0.length co0, .slice (some ⟨b1, 0, none⟩) l0_1.length co1] (0, 0) _ rfl (HS.box g4) Tryd.underlying33 rfl (by kernel_rfl)) rfl ?_
    exact ⟨_, _, rfl, HS.out2 Ao0 (some ⟨b1, 0, none⟩) (by decide), HS.out2 (some ⟨b1, 0, none⟩) Ao0 (by decide), HS.below⟩
  have c5b : decide (rd l0_0 a1_0 < a1_2) = false := decide_eq_false c5
  go_quiet (fail)
  rename_i nq
  replace HS := HS.drewN nq
  generalize w1.drewN nq = w1 at HS ⊢
  clear b2 b3 o1
  obtain ⟨b0, rfl⟩ := HS.form Ao0 (by omega)
  go_upto_region 11 with (fail)
  have r0 := HS.cellI b0 a1_0 f0 f1
  have b3 := fun j => HS.cell g3 j
  have b6 := fun j => HS.cell g6 j
  go_still_tail 14, (by kernel_rfl)
  clear r0 b3 b6
  replace HS := HS.drew
  change wpList _ _ _ _ _ w1.drew
  generalize w1.drew = w1 at HS ⊢
  go_upto_region 12 with ((with_reducible refine gate_put rfl ?_); (first | refine ev_storeC HS rfl rfl rfl rfl rfl (by rfl) (by rfl) ?_ | refine ev_storeS HS rfl rfl rfl rfl rfl (by rfl) (by rfl) (by rfl) ?_ | refine ev_storeI HS rfl rfl rfl rfl rfl (by assumption) (by assumption) ?_); clear HS; intro w1 HS)
  try rw [wrapEq] at HS
  go_upto_region 12 with (fail)
  have r0 := HS.cellI b0 a1_1 t0 t1'
  have b3 := fun j => HS.cell g3 j
  have b6 := fun j => HS.cell g6 j
  go_still_tail 14, (by kernel_rfl)
  clear r0 b3 b6
  replace HS := HS.drew
  change wpList _ _ _ _ _ w1.drew
  generalize w1.drew = w1 at HS ⊢
  go_upto_region 13 with ((with_reducible refine gate_put rfl ?_); (first | refine ev_storeC HS rfl rfl rfl rfl rfl (by rfl) (by rfl) ?_ | refine ev_storeS HS rfl rfl rfl rfl rfl (by rfl) (by rfl) (by rfl) ?_ | refine ev_storeI HS rfl rfl rfl rfl rfl (by assumption) (by assumption) ?_); clear HS; intro w1 HS)
  try rw [wrapEq] at HS
  rcases b6 with _ | _
  · have hp := hR.out; unfold payF at hp; rw [if_neg c3, if_neg c4, if_neg c5] at hp; rw [if_neg (by decide)] at hp; simp only [Prod.mk.injEq] at hp; obtain ⟨rfl, rfl, rfl⟩ := hp
    clear c3 c4 c5 hR
    go_wp2_with (first | ((with_reducible refine gate_load rfl ?_); first | refine ev_loadC HS rfl rfl rfl (by rfl) ?_ | refine ev_loadS HS rfl rfl rfl (by rfl) ?_) | ((with_reducible refine gate_put rfl ?_); (first | refine ev_storeC HS rfl rfl rfl rfl rfl (by rfl) (by rfl) ?_ | refine ev_storeS HS rfl rfl rfl rfl rfl (by rfl) (by rfl) (by rfl) ?_); clear HS; intro w1 HS) | (go_at_call 35; refine (spec_l3Copy.calls _ _ _ _ _ _ _ _ _ (Kd.C_below hr0.out HS.below) hc0.out (Kd.C_below hr1.out HS.below) hc1.out hcp.out).mono ?_; rintro e w1 ⟨v0, v1, rfl, ho0, ho1, hb⟩; obtain ⟨Aq0, cq0, Aq1, cq1, rfl, rfl, HS1⟩ := HS.got2 hb ho0 ho1 (fun _ h => h); clear HS ho0 ho1 hb; have HS := HS1; clear HS1) | (go_at_call 53; refine (spec_Pay.lok _ _ _ (mvL l0_0 a1_0 a1_1 a1_2) _ _ _ (l0_1.set a1_0.toNat (wrap64 (a1_3 + 1))) _ _ _ (mvL_len _ _ _ _) (List.length_set ..).symm (HS.reads (some ⟨b0, 0, none⟩)) (HS.cap (some ⟨b0, 0, none⟩)) (HS.reads (some ⟨b1, 0, none⟩)) (HS.cap (some ⟨b1, 0, none⟩)) hk2.out).mono ?_; rintro e w1 ⟨rfl, hb⟩; have HS1 := HS.later hb; clear HS hb; have HS := HS1; clear HS1))
    refine bodyPost_ret (results_ct rfl _ _ g4 33 #[.slice Aq0 l0_0.length cq0, .slice Aq1 l0_1.length cq1] (0, 0) _ rfl (HS.box g4) Tryd.underlying33 rfl (by kernel_rfl)) rfl ?_
    exact ⟨_, _, rfl, HS.out2 Aq0 Aq1 (by decide), HS.out2 Aq1 Aq0 (by decide), HS.below⟩
  · have hp := hR.out; unfold payF at hp; rw [if_neg c3, if_neg c4, if_neg c5] at hp; rw [if_pos rfl] at hp; simp only [Prod.mk.injEq] at hp; obtain ⟨rfl, rfl, rfl⟩ := hp
    clear c3 c4 c5 hR
    go_wp2_with (first | ((with_reducible refine gate_load rfl ?_); first | refine ev_loadC HS rfl rfl rfl (by rfl) ?_ | refine ev_loadS HS rfl rfl rfl (by rfl) ?_) | ((with_reducible refine gate_put rfl ?_); (first | refine ev_storeC HS rfl rfl rfl rfl rfl (by rfl) (by rfl) ?_ | refine ev_storeS HS rfl rfl rfl rfl rfl (by rfl) (by rfl) (by rfl) ?_); clear HS; intro w1 HS) | (go_at_call 53; refine (spec_Pay.lok _ _ _ (mvL l0_0 a1_0 a1_1 a1_2) _ _ _ (l0_1.set a1_0.toNat (wrap64 (a1_3 + 1))) _ _ _ (mvL_len _ _ _ _) (List.length_set ..).symm (HS.reads (some ⟨b0, 0, none⟩)) (HS.cap (some ⟨b0, 0, none⟩)) (HS.reads (some ⟨b1, 0, none⟩)) (HS.cap (some ⟨b1, 0, none⟩)) hk2.out).mono ?_; rintro e w1 ⟨rfl, hb⟩; have HS1 := HS.later hb; clear HS hb; have HS := HS1; clear HS1))
    refine bodyPost_ret (results_ct rfl _ _ g4 33 #[.slice (some ⟨b0, 0, none⟩) l0_0.length co0, .slice (some ⟨b1, 0, none⟩) l0_1.length co1] (0, 0) _ rfl (HS.box g4) Tryd.underlying33 rfl (by kernel_rfl)) rfl ?_
    exact ⟨_, _, rfl, HS.out2 (some ⟨b0, 0, none⟩) (some ⟨b1, 0, none⟩) (by decide), HS.out2 (some ⟨b1, 0, none⟩) (some ⟨b0, 0, none⟩) (by decide), HS.below⟩
/-- Pay: what it comes to (rounds of its own it has none). -/
def spec_Pay.f (k : Nat) (l0_0 l0_1 : List Int) (a1_0 a1_1 a1_2 a1_3 : Int) : Option (List Int × List Int × Int) := if l0_0.length ≤ 1048576 ∧ l0_1.length ≤ 1048576 then some (payL l0_0 l0_1 a1_0 a1_1 a1_2 a1_3) else none
theorem spec_Pay.mono : ∀ a0 a1 a2 a3 a4 a5 k, LeO (spec_Pay.f k a0 a1 a2 a3 a4 a5) (spec_Pay.f (k + 1) a0 a1 a2 a3 a4 a5) := fun _ _ _ _ _ _ _ => LeO.refl _
theorem spec_Pay.calls (k : Nat) (A0_0 : Option Addr) (c0_0 : Nat) (l0_0 : List Int) (A0_1 : Option Addr) (c0_1 : Nat) (l0_1 : List Int) (a1_0 a1_1 a1_2 a1_3 : Int) (r1 r2 : List Int) (r3 : Int) (w : World) (hr0_0 : Kd.C (Kd.int .i64) w A0_0 l0_0.length l0_0) (hc0_0 : l0_0.length ≤ c0_0) (hr0_1 : Kd.C (Kd.int .i64) w A0_1 l0_1.length l0_1) (hc0_1 : l0_1.length ≤ c0_1) (h : spec_Pay.f k l0_0 l0_1 a1_0 a1_1 a1_2 a1_3 = some (r1, r2, r3)) :
    Calls Tryd.prog 36 #[.agg #[.slice A0_0 l0_0.length c0_0, .slice A0_1 l0_1.length c0_1], .agg #[.int .i64 a1_0, .int .i64 a1_1, .int .i64 a1_2, .int .i64 a1_3]] w fun e w' => ∃ v0_ v1_ : Value, e = .returned (.tuple #[.agg #[v0_, v1_], .int .i64 (r3)]) ∧ Kd.R (Kd.int .i64) 3 w' w.heap.size (fun k_ => some k_ ≠ (v1_ : Value).ownBlock) v0_ (r1) ∧ Kd.R (Kd.int .i64) 3 w' w.heap.size (fun k_ => some k_ ≠ (v0_ : Value).ownBlock) v1_ (r2) ∧ Below w.heap.size w w' := by
  unfold spec_Pay.f at h
  by_cases hb : l0_0.length ≤ 1048576 ∧ l0_1.length ≤ 1048576
  · rw [if_pos hb] at h
    replace h := Option.some.inj h
    obtain ⟨hz0, hz1⟩ := hb
    have hcp := Aside0.mk (spec_l3Copy_val l0_0 l0_1 hz0 hz1)
    obtain ⟨k1, hk⟩ := (spec_LedgerOk_ev l0_0 l0_1).rounds
    have hx := spec_TxOk_val a1_0 a1_1 a1_2 a1_3
    by_cases c1 : ledgerIs l0_0 l0_1 ∧ txIs a1_0 a1_1 a1_2 a1_3
    · obtain ⟨c1, c2⟩ := c1
      rw [decide_eq_true c1] at hk
      rw [decide_eq_true c2] at hx
      have l1 : l0_0.length = 4 := c1.1.1
      have l2 : l0_1.length = 4 := c1.1.2
      have f0 : 0 ≤ a1_0 := c2.1.1
      have f3 : a1_0 ≤ 3 := c2.1.2
      have t0 : 0 ≤ a1_1 := c2.2.1.1
      have t3 : a1_1 ≤ 3 := c2.2.1.2
      obtain ⟨k2, hk2⟩ := (spec_LedgerOk_ev (mvL l0_0 a1_0 a1_1 a1_2) (l0_1.set a1_0.toNat (wrap64 (a1_3 + 1)))).rounds
      obtain ⟨ad0, rfl, hx0⟩ := Kd.at_int hr0_0 a1_0 f0 (by omega)
      obtain ⟨ad1, rfl, hx1⟩ := Kd.at_int hr0_1 a1_0 f0 (by omega)
      have e : payF (decide (ledgerIs (mvL l0_0 a1_0 a1_1 a1_2) (l0_1.set a1_0.toNat (wrap64 (a1_3 + 1))))) l0_0 l0_1 a1_0 a1_1 a1_2 a1_3 = (r1, r2, r3) := by
        rw [← h]
        unfold payL
        rw [if_neg (fun z => z ⟨c1, c2⟩)]
        unfold payF
        by_cases c6 : ledgerIs (mvL l0_0 a1_0 a1_1 a1_2) (l0_1.set a1_0.toNat (wrap64 (a1_3 + 1))) <;> simp only [c6, decide_true, decide_false, if_true, if_false, Bool.false_eq_true]
      exact spec_Pay.fine k1 k2 ad0 ad1 c0_0 l0_0 c0_1 l0_1 a1_0 a1_1 a1_2 a1_3 w ⟨hr0_0⟩ ⟨hc0_0⟩ ⟨hr0_1⟩ ⟨hc0_1⟩ hcp ⟨hk⟩ ⟨hx⟩ ⟨hx0⟩ ⟨hx1⟩ f0 (by omega) (by omega) t0 (by omega) (by rw [List.length_set]; omega) _ ⟨hk2⟩ r1 r2 r3 ⟨e⟩
    · have hp : payL l0_0 l0_1 a1_0 a1_1 a1_2 a1_3 = (l0_0, l0_1, 1) := by unfold payL; rw [if_pos c1]
      rw [hp] at h
      simp only [Prod.mk.injEq] at h
      obtain ⟨rfl, rfl, rfl⟩ := h
      exact spec_Pay.bad k1 A0_0 c0_0 l0_0 A0_1 c0_1 l0_1 a1_0 a1_1 a1_2 a1_3 _ _ w ⟨hr0_0⟩ ⟨hc0_0⟩ ⟨hr0_1⟩ ⟨hc0_1⟩ hcp ⟨hk⟩ ⟨hx⟩ (by rw [Bool.and_eq_false_iff, decide_eq_false_iff_not, decide_eq_false_iff_not]; exact Classical.or_iff_not_imp_left.2 (fun c3 c4 => c1 ⟨Classical.not_not.1 c3, c4⟩))
  · rw [if_neg hb] at h
    cases h

/-! ### spec_LedgerNew: function 57 -/
def spec_LedgerNew.l0 : Nat → Int → List Int → List Int → Option (List Int × List Int)
  | 0, _, _, _ => none
  | k + 1, x2, x336000, x336001 => if x2 < 4 then (if x336000.length < 17592186044416 then (spec_LedgerNew.l0 k (wrap64 (x2 + 1)) (x336000 ++ [100]) x336001) else (none)) else (some (x336000, x336001))
def spec_LedgerNew.f (k : Nat)  : Option (List Int × List Int) := if 4 ≤ 35184372088832 then (spec_LedgerNew.l0 k 0 ([] : List Int) (List.replicate 4 0)) else (none)
theorem spec_LedgerNew.mono_l : ∀ k, (∀ y0 y1 y2, LeO (spec_LedgerNew.l0 k y0 y1 y2) (spec_LedgerNew.l0 (k + 1) y0 y1 y2))
  | 0 => fun _ _ _ r h => by simp [spec_LedgerNew.l0] at h
  | k + 1 => by
    have ih0 := spec_LedgerNew.mono_l k
    · intro y0 y1 y2
      unfold spec_LedgerNew.l0
      repeat' first
      | (with_reducible exact ih0 _ _ _)
      | (with_reducible exact LeO.refl _)
      | (with_reducible exact LeO.none _)
      | (with_reducible refine LeO.ite ?_ ?_)
      | (with_reducible refine LeO.bind ?_ (fun _ => ?_))
      | exact ih0 _ _ _
      | exact LeO.none _
      | refine LeO.ite ?_ ?_
      | refine LeO.bind ?_ (fun _ => ?_)
theorem spec_LedgerNew.mono : ∀ k, LeO (spec_LedgerNew.f k ) (spec_LedgerNew.f (k + 1) ) := by
  intro  k
  have ih0 := spec_LedgerNew.mono_l k
  unfold spec_LedgerNew.f
  repeat' first
      | (with_reducible exact ih0 _ _ _)
      | (with_reducible exact LeO.refl _)
      | (with_reducible exact LeO.none _)
      | (with_reducible refine LeO.ite ?_ ?_)
      | (with_reducible refine LeO.bind ?_ (fun _ => ?_))
      | exact ih0 _ _ _
      | exact LeO.none _
      | refine LeO.ite ?_ ?_
      | refine LeO.bind ?_ (fun _ => ?_)
set_option maxHeartbeats 8000000 in
set_option maxRecDepth 100000 in
theorem spec_LedgerNew.calls (k : Nat)  (r1 : List Int) (r2 : List Int) (w : World) (h : spec_LedgerNew.f k  = some (r1, r2)) :
    Calls Tryd.prog 57 #[] w fun e w' => ∃ v0_ v1_ : Value, e = .returned (.agg #[v0_, v1_]) ∧ Kd.R (Kd.int .i64) 3 w' w.heap.size (fun k_ => some k_ ≠ (v1_ : Value).ownBlock) v0_ r1 ∧ Kd.R (Kd.int .i64) 3 w' w.heap.size (fun k_ => some k_ ≠ (v0_ : Value).ownBlock) v1_ r2 ∧ Below w.heap.size w w' := by
  have hu33 := Tryd.underlying33
  have HB := Aside0.mk (Below.refl w.heap.size w)
  have H : (if 4 ≤ 35184372088832 then (spec_LedgerNew.l0 k 0 ([] : List Int) (List.replicate 4 0)) else (none)) = some (r1, r2) := h
  clear h
  by_cases c1 : 4 ≤ 35184372088832
  · rw [if_pos c1] at H
    have c1b0 := eq_true c1
    have c1b1 : decide (4 ≤ 35184372088832) = true := decide_eq_true c1
    clear c1
    obtain ⟨y332, hy332⟩ : ∃ y_ : List Int, y_ = (List.replicate 4 0) := ⟨_, rfl⟩
    replace H : (spec_LedgerNew.l0 k 0 ([] : List Int) y332) = some (r1, r2) := by rw [hy332]; exact H
    have Ny332 := Aside0.mk hy332
    clear hy332
    have H' := Aside0.mk H
    clear H
    go_enter Tryd.func57, Tryd.ntmps57
    go_wp2_with (first | ((with_reducible refine gate_dst (N := 0) rfl ?_); refine box_event ?hg (N := 0) ?hd (cs := #[.slice none 0 0, .slice none 0 0]) (t := 33) ?hr ?_; (case hd => rfl); (case hg => rfl); (case hr => go_simp <;> rfl); intro gb331 hg w2 hbox hb; have n0_ := Aside0.mk (below_step (HB.out) hb); have n1_ := Aside0.mk (hbox); have n2_ := Aside0.mk ((by rw [hg]; exact (below_size (HB.out)) : w.heap.size ≤ gb331)); have n3_ := Aside0.mk ((by rw [hg]; exact (below_size (HB.out)) : w.heap.size ≤ gb331)); clear HB; have HB := n0_; have BK331 := n1_; have GW331 := n2_; have GE331 := n3_; clear n0_ n1_ n2_ n3_; clear hb hbox hg) | ((with_reducible refine gate_dst (N := 3) rfl ?_); refine Kd.R_make (Kd.int .i64) _ 3 rfl (N := 3) rfl 31 _ _ rfl 4 rfl rfl Tryd.underlying31 (.int .i64 0) 8 info3 rfl (by decide) (by omega) 0 (ok := fun _ => True) (okp := fun _ => True) rfl (fun _ hk => hk) trivial (by omega) (by omega) (Below.refl _ _) (Nat.le_refl _) ?_; intro v333 w3 ho4 hb hg_ hnew_; clear hg_ hnew_; (first | rw [← Ny332.out] at ho4 | (simp only [Int.reduceToNat] at ho4; rw [← Ny332.out] at ho4)); have n0_ := Aside0.mk (Kd.R_lower ho4 (below_size (HB.out))); have n1_ := Aside0.mk (blk_below (g := gb331) (o := .cells #[.slice none 0 0, .slice none 0 0] 33 (0, 0)) (by exact BK331.out) hb); have n2_ := Aside0.mk (below_step (HB.out) hb); clear BK331; clear HB; have HO334 := n0_; have BK331 := n1_; have HB := n2_; clear n0_ n1_ n2_; clear hb ho4; obtain ⟨Ao5, co5, eo5⟩ := Kd.R_slice HO334.out; subst eo5) | ((with_reducible refine gate_dst (N := 1) rfl ?_); refine box_event ?hg (N := 1) ?hd (cs := #[.slice none 0 0, .slice none 0 0]) (t := 33) ?hr ?_; (case hd => rfl); (case hg => rfl); (case hr => go_simp <;> rfl); intro gb335 hg w6 hbox hb; have n0_ := Aside0.mk (Kd.R_below (by exact HO334.out) hb); have n1_ := Aside0.mk (blk_below (g := gb331) (o := .cells #[.slice none 0 0, .slice none 0 0] 33 (0, 0)) (by exact BK331.out) hb); have n2_ := Aside0.mk (below_step (HB.out) hb); have n3_ := Aside0.mk (hbox); have n4_ := Aside0.mk ((by rw [hg]; exact (below_size (HB.out)) : w.heap.size ≤ gb335)); have n5_ := Aside0.mk ((by rw [hg]; exact (below_size (HB.out)) : w.heap.size ≤ gb335)); have n6_ := Aside0.mk ((by rw [hg]; exact Nat.ne_of_lt (blk_lt (g := gb331) (o := .cells #[.slice none 0 0, .slice none 0 0] 33 (0, 0)) (by exact BK331.out)) : gb331 ≠ gb335)); have n7_ := Aside0.mk ((by rw [hg]; exact Nat.ne_of_gt (blk_lt (g := gb331) (o := .cells #[.slice none 0 0, .slice none 0 0] 33 (0, 0)) (by exact BK331.out)) : gb335 ≠ gb331)); clear HO334; clear BK331; clear HB; have HO334 := n0_; have BK331 := n1_; have HB := n2_; have BK335 := n3_; have GW335 := n4_; have GE335 := n5_; have NB331_335 := n6_; have NB335_331 := n7_; clear n0_ n1_ n2_ n3_ n4_ n5_ n6_ n7_; clear hb hbox hg; have hnb7 := NB335_331.out; have hnc7 := NB331_335.out; have hcz8_0 : w6.cell? ⟨gb335, 0, none⟩ = some (.slice none 0 0) := (blk_cell BK335.out 0).trans rfl; have hcz8_1 : w6.cell? ⟨gb335, 1, none⟩ = some (.slice none 0 0) := (blk_cell BK335.out 1).trans rfl; have hfz8_0 := blk_frozen BK335.out 0; have hfz8_1 := blk_frozen BK335.out 1))
    go_loopg [2] k (fun kq v2 w' => ∃ (x2_1 : Int) (x336000_1 : List Int) (u336000 : Value), v2 = .int .i64 x2_1 ∧ Aside0 (spec_LedgerNew.l0 kq x2_1 x336000_1 y332 = some (r1, r2)) ∧ Aside0 (kq ≤ k) ∧ Aside0 (Kd.R (Kd.int .i64) 3 w' w.heap.size (fun k_ => some k_ ≠ ((.slice Ao5 y332.length co5) : Value).ownBlock) u336000 x336000_1) ∧ Aside0 (Kd.R (Kd.int .i64) 3 w' w.heap.size (fun k_ => some k_ ≠ (u336000 : Value).ownBlock) (.slice Ao5 y332.length co5) y332) ∧ Aside0 (w'.heap[gb331]? = some (.cells #[(.slice none 0 0), (.slice none 0 0)] 33 (0, 0))) ∧ Aside0 (w'.heap[gb335]? = some (.cells #[u336000, (.slice Ao5 y332.length co5)] 33 (0, 0))) ∧ Aside0 (Below w.heap.size w w'))
    case atStart => exact ⟨(0), (([] : List Int)), (.slice none 0 0), (by first | rfl | (simp; done) | (simp [*]; done)), H', ⟨Nat.le_refl _⟩, ⟨by first | exact Kd.R_nil _ _ _ _ _ | exact Kd.N_nil _ _ _ _ _ | exact Kd.V_nil _ _ _ _ _ | exact Kd.Q_nil _ _ _ _ _ | exact Kd.S_nil _ _ _ _ _⟩, ⟨by exact Kd.R_mono (Kd.R_far (p := ⟨gb335, 1, none⟩) (Kd.R_far (p := ⟨gb335, 0, none⟩) (Kd.R_types HO334.out BK335.out (by decide)) (fun _ hk => hk.2) (.slice none 0 0)) (fun _ hk => hk.2) (.slice Ao5 y332.length co5)) (fun _ hk => (by simp [Value.ownBlock]))⟩, ⟨by refine blk_far ?_ NB331_335.out _; refine blk_far ?_ NB331_335.out _; exact BK331.out⟩, ⟨by refine blk_put (cs := #[.slice none 0 0, .slice none 0 0]) ?_ 1 _ rfl; refine blk_put (cs := #[.slice none 0 0, .slice none 0 0]) ?_ 0 _ rfl; exact BK335.out⟩, ⟨by repeat (first | (with_reducible first | exact HB.out | apply below_alloc | apply pw_below_drewN | apply below_drew1 | refine below_set ?_ GE331.out | refine below_set ?_ GE335.out) | exact HB.out)⟩⟩
    case round =>
      clear H'
      try clear c1
      try clear c1b0
      try clear c1b1
      try clear p2
      try clear c5
      try clear c7
      try clear hcz8_0
      try clear hcz8_1
      try clear hfz8_0
      try clear hfz8_1
      obtain ⟨x2_1, x336000_1, u336000, rfl, HA, HK1, HO_336000, HO_336001, BK331, BK335, HB⟩ := hrel
      cases gk with
      | zero => exact absurd HA.out (by simp [spec_LedgerNew.l0])
      | succ k1 =>
        have H := HA.out
        clear HA
        simp only [spec_LedgerNew.l0] at H
        have HF := Aside0.mk H
        clear H
        go_upto_if 6 with (fail)
        have H := HF.out
        clear HF
        by_cases c9 : x2_1 < 4
        · rw [if_pos c9] at H
          have c9b0 : decide (x2_1 < 4) = true := decide_eq_true c9
          clear c9
          (first | rw [c9b0] | (simp only [i64_w, i32_w]; rw [c9b0]) | skip)
          by_cases c10 : x336000_1.length < 17592186044416
          · rw [if_pos c10] at H
            have LMc10 := Aside0.mk c10
            clear c10
            obtain ⟨y336, hy336⟩ : ∃ y_ : List Int, y_ = (x336000_1 ++ [100]) := ⟨_, rfl⟩
            replace H : (spec_LedgerNew.l0 k1 (wrap64 (x2_1 + 1)) y336 y332) = some (r1, r2) := by rw [hy336]; exact H
            have Ny336 := Aside0.mk hy336
            clear hy336
            have H' := Aside0.mk H
            clear H
            have hnb11 := NB335_331.out
            have hnc11 := NB331_335.out
            have hcz12_0 : wr.cell? ⟨gb335, 0, none⟩ = some (u336000) := (blk_cell BK335.out 0).trans rfl
            have hcz12_1 : wr.cell? ⟨gb335, 1, none⟩ = some (.slice Ao5 y332.length co5) := (blk_cell BK335.out 1).trans rfl
            have hfz12_0 := blk_frozen BK335.out 0
            have hfz12_1 := blk_frozen BK335.out 1
            go_wp2_with (first | ((with_reducible refine gate_builtin (b := .append) (xs := #[.tmp 10, .tmp 11]) rfl ?_); at_builtin; refine Kd.R_append (Kd.int .i64) (w0 := w) w.heap.size rfl (.tmp 10) (.tmp 11) 31 3 (.int .i64 0) 8 rfl Tryd.underlying31 info3 rfl (by decide) (by omega) u336000 x336000_1 100 [.int .i64 100] (fun k_ => some k_ ≠ (.slice Ao5 y332.length co5 : Value).ownBlock) (fun _ => False) rfl rfl ?aP (fun _ hk => hk.elim) ?aF ?aO ?aB ?aS ?aL ?_; (case aP => exact rfl); (case aB => exact (HB.out)); (case aF => exact (fun k_ hk => Kd.fresh' (Kd.R_lt (by exact HO_336001.out)) k_ hk)); (case aO => exact (by exact HO_336000.out)); (case aS => exact (below_size (HB.out))); (case aL => have := LMc10.out; omega); intro v337 w13 ho hb hg hat; rw [← Ny336.out] at ho; have n0_ := Aside0.mk (Kd.R_after (ok := (fun _ => True)) (by exact Kd.R_mono HO_336001.out (fun _ hk => ⟨trivial, hk⟩)) hg hat); have n1_ := Aside0.mk (blk_grown (g := gb331) (o := .cells #[.slice none 0 0, .slice none 0 0] 33 (0, 0)) (by exact BK331.out) hg (Kd.R_ne HO_336000.out BK331.out (by decide))); have n2_ := Aside0.mk (blk_grown (g := gb335) (o := .cells #[u336000, .slice Ao5 y332.length co5] 33 (0, 0)) (by exact BK335.out) hg (Kd.R_ne HO_336000.out BK335.out (by decide))); have n3_ := Aside0.mk (hb); have n4_ := Aside0.mk (ho); clear HO_336001; clear BK331; clear BK335; clear HB; clear HO_336000; have HO_336001 := n0_; have BK331 := n1_; have BK335 := n2_; have HB := n3_; have HO338 := n4_; clear n0_ n1_ n2_ n3_ n4_; clear ho hb hg hat; obtain ⟨Ao14, co14, eo14⟩ := Kd.R_slice HO338.out; subst eo14; have hcz15_0 : w13.cell? ⟨gb335, 0, none⟩ = some (u336000) := (blk_cell BK335.out 0).trans rfl; have hcz15_1 : w13.cell? ⟨gb335, 1, none⟩ = some (.slice Ao5 y332.length co5) := (blk_cell BK335.out 1).trans rfl; have hfz15_0 := blk_frozen BK335.out 0; have hfz15_1 := blk_frozen BK335.out 1))
            go_roundg k1
            case measure => have := HK1.out; omega
            case rel => exact ⟨(wrap64 (x2_1 + 1)), (y336), (.slice Ao14 y336.length co14), (by first | rfl | (simp; done) | (simp [*]; done)), H', ⟨by have := HK1.out; omega⟩, ⟨by exact Kd.R_mono (Kd.R_far (p := ⟨gb335, 0, none⟩) (Kd.R_types HO338.out BK335.out (by decide)) (fun _ hk => hk.2) (.slice Ao14 y336.length co14)) (fun _ hk => hk.1)⟩, ⟨by exact Kd.R_mono (Kd.R_far (p := ⟨gb335, 0, none⟩) (Kd.R_types HO_336001.out BK335.out (by decide)) (fun _ hk => hk.2) (.slice Ao14 y336.length co14)) (fun _ hk => hk.1.2)⟩, ⟨by refine blk_far ?_ NB331_335.out _; exact BK331.out⟩, ⟨by refine blk_put (cs := #[u336000, .slice Ao5 y332.length co5]) ?_ 0 _ rfl; exact BK335.out⟩, ⟨by repeat (first | (with_reducible first | exact HB.out | apply below_alloc | apply pw_below_drewN | apply below_drew1 | refine below_set ?_ GE331.out | refine below_set ?_ GE335.out) | exact HB.out)⟩⟩
          · rw [if_neg c10] at H
            exact absurd H (by simp)
        · rw [if_neg c9] at H
          have c9b0 : decide (x2_1 < 4) = false := decide_eq_false c9
          clear c9
          (first | rw [c9b0] | (simp only [i64_w, i32_w]; rw [c9b0]) | skip)
          simp only [Option.some.injEq, Prod.mk.injEq] at H
          obtain ⟨rfl, rfl⟩ := H
          have hnb16 := NB335_331.out
          have hnc16 := NB331_335.out
          have hcz17_0 : wr.cell? ⟨gb335, 0, none⟩ = some (u336000) := (blk_cell BK335.out 0).trans rfl
          have hcz17_1 : wr.cell? ⟨gb335, 1, none⟩ = some (.slice Ao5 y332.length co5) := (blk_cell BK335.out 1).trans rfl
          have hfz17_0 := blk_frozen BK335.out 0
          have hfz17_1 := blk_frozen BK335.out 1
          obtain ⟨Ao18, co18, eo18⟩ := Kd.R_slice HO_336000.out
          subst eo18
          have hcz19_0 : wr.cell? ⟨gb331, 0, none⟩ = some (.slice none 0 0) := (blk_cell BK331.out 0).trans rfl
          have hcz19_1 : wr.cell? ⟨gb331, 1, none⟩ = some (.slice none 0 0) := (blk_cell BK331.out 1).trans rfl
          have hfz19_0 := blk_frozen BK331.out 0
          have hfz19_1 := blk_frozen BK331.out 1
          go_wp2
          refine bodyPost_ret (results_cell_row rfl _ _ gb331 33 #[.slice Ao18 x336000_1.length co18, .slice Ao5 y332.length co5] (0, 0) _ rfl (by refine blk_put (cs := #[.slice Ao18 x336000_1.length co18, .slice none 0 0]) ?_ 1 _ rfl; refine blk_put (cs := #[.slice none 0 0, .slice none 0 0]) ?_ 0 _ rfl; exact BK331.out) Tryd.underlying33 rfl (by kernel_rfl)) rfl ?_
          exact ⟨_, _, rfl, by exact Kd.R_mono (Kd.R_far (p := ⟨gb331, 1, none⟩) (Kd.R_far (p := ⟨gb331, 0, none⟩) (Kd.R_types HO_336000.out BK331.out (by decide)) (fun _ hk => hk.2) (.slice Ao18 x336000_1.length co18)) (fun _ hk => hk.2) (.slice Ao5 y332.length co5)) (fun _ hk => hk.1), by exact Kd.R_mono (Kd.R_far (p := ⟨gb331, 1, none⟩) (Kd.R_far (p := ⟨gb331, 0, none⟩) (Kd.R_types HO_336001.out BK331.out (by decide)) (fun _ hk => hk.2) (.slice Ao18 x336000_1.length co18)) (fun _ hk => hk.2) (.slice Ao5 y332.length co5)) (fun _ hk => hk.1), by repeat (first | (with_reducible first | exact HB.out | apply below_alloc | apply pw_below_drewN | apply below_drew1 | refine below_set ?_ GE331.out | refine below_set ?_ GE335.out) | exact HB.out)⟩
  · rw [if_neg c1] at H
    exact absurd H (by simp)

theorem ld_row {P : Program} {ops : Array Oper} {rest : List Oper} {o : Oper} {a : Act} {Q : Exit → Act → World → Prop} {W : World} {t t' : TypeId} {x : Operand} {n : Nat} (g : Nat) (cs : Array Value) (ho : o.op = .load t x) (hw : Region.wanted o (yielded ops a.tmps) = true) (hx : a.eval x = .pointer (some ⟨g, 0, none⟩)) [hA : Go.Proofs.YtnlakfbbbnkcpaaDoorH.AggT P t n] (hn : cs.size = n)
    (hB : W.heap[g]? = some (.cells cs t' (0, 0))) (h : wpList P ops Q rest (a.put o.dst (.agg cs)) W) : wpList P ops Q (o :: rest) a W := by
  refine Go.Proofs.YtnlakfbbbnkcpaaDoorH.ev_val hw ?_ h
  obtain ⟨d, hu, hd⟩ := Option.map_eq_some_iff.1 hA.agg
  unfold execOp
  simp only [ho, hx, Instr.loadAt, Instr.sureAddr, Sem.run_bind, Sem.run_pure, Result.andThen_ok, run_loadVar_row W g t' t cs (0, 0) d hB hu (by cases d <;> first | rfl | (exact hd)) (by rw [hA.size, hn])]
local instance i9_1 : Go.Proofs.YtnlakfbbbnkcpaaDoorH.AggT Tryd.prog 26 4 := ⟨by kernel_rfl, by kernel_rfl⟩

/-! ### spec_l3DrawRight: function 44 -/
def spec_l3DrawRight.l0 : Nat → Int → List Int → Int → Int → List Int → List Int → Option (List Int × List Int × Int × Int)
  | 0, _, _, _, _, _, _ => none
  | k + 1, x4, x1000, x1001, x1002, x347000, x347001 => (spec_l1Below.f x1000 x1001 x1002 6).bind fun bt347 => (if x4 < bt347.1 then ((spec_l2DrawRight.f x1000 bt347.2.1 bt347.2.2).bind fun bt350 => (if 0 ≤ bt350.1 then (if bt350.1 < (x347001.length : Int) then ((spec_Pay.f k x347000 x347001 bt350.1 bt350.2.1 bt350.2.2.1 (rd x347001 bt350.1)).bind fun bt358 => (spec_l3DrawRight.l0 k (wrap64 (x4 + 1)) x1000 bt350.2.2.2.2.1 bt350.2.2.2.2.2 bt358.1 bt358.2.1)) else (none)) else (none))) else (some (x347000, x347001, bt347.2.1, bt347.2.2)))
def spec_l3DrawRight.f (k : Nat) (s0_0 : List Int) (s0_1 : Int) (s0_2 : Int) : Option (List Int × List Int × Int × Int) := (spec_LedgerNew.f k).bind fun bt340 => (spec_l3DrawRight.l0 k 0 s0_0 s0_1 s0_2 bt340.1 bt340.2)
theorem spec_l3DrawRight.mono_l : ∀ k, (∀ y0 y1 y2 y3 y4 y5, LeO (spec_l3DrawRight.l0 k y0 y1 y2 y3 y4 y5) (spec_l3DrawRight.l0 (k + 1) y0 y1 y2 y3 y4 y5))
  | 0 => fun _ _ _ _ _ _ r h => by simp [spec_l3DrawRight.l0] at h
  | k + 1 => by
    have ih0 := spec_l3DrawRight.mono_l k
    · intro y0 y1 y2 y3 y4 y5
      unfold spec_l3DrawRight.l0
      repeat' first
      | (with_reducible exact ih0 _ _ _ _ _ _)
      | (with_reducible exact spec_LedgerNew.mono _)
      | (with_reducible exact spec_Pay.mono _ _ _ _ _ _ _)
      | (with_reducible exact LeO.refl _)
      | (with_reducible exact LeO.none _)
      | (with_reducible refine LeO.ite ?_ ?_)
      | (with_reducible refine LeO.bind ?_ (fun _ => ?_))
      | exact ih0 _ _ _ _ _ _
      | exact spec_LedgerNew.mono _
      | exact spec_Pay.mono _ _ _ _ _ _ _
      | exact LeO.none _
      | refine LeO.ite ?_ ?_
      | refine LeO.bind ?_ (fun _ => ?_)
theorem spec_l3DrawRight.mono : ∀ a0 a1 a2 k, LeO (spec_l3DrawRight.f k a0 a1 a2) (spec_l3DrawRight.f (k + 1) a0 a1 a2) := by
  intro a0 a1 a2 k
  have ih0 := spec_l3DrawRight.mono_l k
  unfold spec_l3DrawRight.f
  repeat' first
      | (with_reducible exact ih0 _ _ _ _ _ _)
      | (with_reducible exact spec_LedgerNew.mono _)
      | (with_reducible exact spec_Pay.mono _ _ _ _ _ _ _)
      | (with_reducible exact LeO.refl _)
      | (with_reducible exact LeO.none _)
      | (with_reducible refine LeO.ite ?_ ?_)
      | (with_reducible refine LeO.bind ?_ (fun _ => ?_))
      | exact ih0 _ _ _ _ _ _
      | exact spec_LedgerNew.mono _
      | exact spec_Pay.mono _ _ _ _ _ _ _
      | exact LeO.none _
      | refine LeO.ite ?_ ?_
      | refine LeO.bind ?_ (fun _ => ?_)
set_option maxHeartbeats 8000000 in
set_option maxRecDepth 100000 in
theorem spec_l3DrawRight.calls (k : Nat) (g : Nat) (s0_0 : List Int) (s0_1 : Int) (s0_2 : Int) (r1 : List Int) (r2 : List Int) (r3 : Int) (r4 : Int) (w0 w : World) (hI : IsS59 w0 w g s0_0 s0_1 s0_2) (hB : Below w0.heap.size w0 w) (h : spec_l3DrawRight.f k s0_0 s0_1 s0_2 = some (r1, r2, r3, r4)) :
    Calls Tryd.prog 44 #[.pointer (some ⟨g, 0, none⟩)] w fun e w' => ∃ v0_ v1_ : Value, e = .returned (.agg #[v0_, v1_]) ∧ Kd.R (Kd.int .i64) 3 w' w.heap.size (fun k_ => some k_ ≠ (v1_ : Value).ownBlock) v0_ r1 ∧ Kd.R (Kd.int .i64) 3 w' w.heap.size (fun k_ => some k_ ≠ (v0_ : Value).ownBlock) v1_ r2 ∧ IsS59 w0 w' g s0_0 r3 r4 ∧ Below w0.heap.size w0 w' ∧ KeepBut w w' g none := by
  have hu33 := Tryd.underlying33
  have hu26 := Tryd.underlying26
  have HI0 := Aside0.mk hI
  have HK := Aside0.mk (KeepBut.refl w g none)
  have HL := Aside0.mk hB.size
  clear hI
  have HW0 := Aside0.mk hB.size
  have HB := Aside0.mk hB
  clear hB
  have H : ((spec_LedgerNew.f k).bind fun bt340 => (spec_l3DrawRight.l0 k 0 s0_0 s0_1 s0_2 bt340.1 bt340.2)) = some (r1, r2, r3, r4) := h
  clear h
  replace H := Option.bind_eq_some_iff.mp H
  obtain ⟨⟨t340, t343⟩, A20, H⟩ := H
  replace H : (spec_l3DrawRight.l0 k 0 s0_0 s0_1 s0_2 t340 t343) = some (r1, r2, r3, r4) := H
  have A2 := Aside0.mk A20
  clear A20
  have H' := Aside0.mk H
  clear H
  go_enter Tryd.func44, Tryd.ntmps44
  go_wp2_with (first | ((with_reducible refine gate_dst (N := 2) rfl ?_); refine box_event ?hg (N := 2) ?hd (cs := #[.slice none 0 0, .slice none 0 0]) (t := 33) ?hr ?_; (case hd => rfl); (case hg => rfl); (case hr => go_simp <;> rfl); intro gb339 hg w3 hbox hb; have n0_ := Aside0.mk (IsS59.below (HI0.out) hb); have n1_ := Aside0.mk (KeepBut.trans (HK.out) (KeepBut.of_below hb g none) (.inl rfl)); have n2_ := Aside0.mk (below_step (HB.out) hb); have n3_ := Aside0.mk (hbox); have n4_ := Aside0.mk ((by rw [hg]; exact (keep_size (w := w) (g := g) (row := none) (HK.out)) : w.heap.size ≤ gb339)); have n5_ := Aside0.mk ((Nat.le_trans HW0.out (by rw [hg]; exact (keep_size (w := w) (g := g) (row := none) (HK.out)) : w.heap.size ≤ gb339) : w0.heap.size ≤ gb339)); have n6_ := Aside0.mk ((by rw [hg]; exact Nat.ne_of_lt (IsS59.lt (show IsS59 w0 _ g s0_0 s0_1 s0_2 from HI0.out)) : g ≠ gb339)); have n7_ := Aside0.mk ((by rw [hg]; exact Nat.ne_of_gt (IsS59.lt (show IsS59 w0 _ g s0_0 s0_1 s0_2 from HI0.out)) : gb339 ≠ g)); clear HI0; clear HK; clear HB; have HI0 := n0_; have HK := n1_; have HB := n2_; have BK339 := n3_; have GW339 := n4_; have GE339 := n5_; have NB0_339 := n6_; have NB339_0 := n7_; clear n0_ n1_ n2_ n3_ n4_ n5_ n6_ n7_; clear hb hbox hg) | ((with_reducible refine gate_callee (f := 57) rfl ?_); refine goesL_ (some 6) rfl rfl Tryd.func57 (by kernel_rfl) rfl #[] rfl (by (try simp only [mp]); first | done | rfl) ?_; (with_reducible refine (spec_LedgerNew.calls k  t340 t343 _ A2.out).mono ?_); rintro e w4 ⟨v341, v344, rfl, ho0, ho1, hb⟩; refine ⟨_, rfl, ?_⟩; have n0_ := Aside0.mk (Kd.R_lower ho0 (keep_size (w := w) (g := g) (row := none) (HK.out))); have n1_ := Aside0.mk (Kd.R_lower ho1 (keep_size (w := w) (g := g) (row := none) (HK.out))); have n2_ := Aside0.mk (IsS59.below (HI0.out) hb); have n3_ := Aside0.mk (blk_below (g := gb339) (o := .cells #[.slice none 0 0, .slice none 0 0] 33 (0, 0)) (by exact BK339.out) hb); have n4_ := Aside0.mk (KeepBut.trans (HK.out) (KeepBut.of_below hb g none) (.inl rfl)); have n5_ := Aside0.mk (below_step (HB.out) hb); clear HI0; clear BK339; clear HK; clear HB; have HO342 := n0_; have HO345 := n1_; have HI0 := n2_; have BK339 := n3_; have HK := n4_; have HB := n5_; clear n0_ n1_ n2_ n3_ n4_ n5_; (try clear hb); (try clear hb2); (try clear hk); (try clear hi); (try clear ho0); (try clear ho1)) | ((with_reducible refine gate_dst (N := 3) rfl ?_); refine box_event ?hg (N := 3) ?hd (cs := #[.slice none 0 0, .slice none 0 0]) (t := 33) ?hr ?_; (case hd => rfl); (case hg => rfl); (case hr => go_simp <;> rfl); intro gb346 hg w5 hbox hb; have n0_ := Aside0.mk (Kd.R_below (by exact HO342.out) hb); have n1_ := Aside0.mk (Kd.R_below (by exact HO345.out) hb); have n2_ := Aside0.mk (IsS59.below (HI0.out) hb); have n3_ := Aside0.mk (blk_below (g := gb339) (o := .cells #[.slice none 0 0, .slice none 0 0] 33 (0, 0)) (by exact BK339.out) hb); have n4_ := Aside0.mk (KeepBut.trans (HK.out) (KeepBut.of_below hb g none) (.inl rfl)); have n5_ := Aside0.mk (below_step (HB.out) hb); have n6_ := Aside0.mk (hbox); have n7_ := Aside0.mk ((by rw [hg]; exact (keep_size (w := w) (g := g) (row := none) (HK.out)) : w.heap.size ≤ gb346)); have n8_ := Aside0.mk ((Nat.le_trans HW0.out (by rw [hg]; exact (keep_size (w := w) (g := g) (row := none) (HK.out)) : w.heap.size ≤ gb346) : w0.heap.size ≤ gb346)); have n9_ := Aside0.mk ((by rw [hg]; exact Nat.ne_of_lt (blk_lt (g := gb339) (o := .cells #[.slice none 0 0, .slice none 0 0] 33 (0, 0)) (by exact BK339.out)) : gb339 ≠ gb346)); have n10_ := Aside0.mk ((by rw [hg]; exact Nat.ne_of_gt (blk_lt (g := gb339) (o := .cells #[.slice none 0 0, .slice none 0 0] 33 (0, 0)) (by exact BK339.out)) : gb346 ≠ gb339)); have n11_ := Aside0.mk ((by rw [hg]; exact Nat.ne_of_lt (IsS59.lt (show IsS59 w0 _ g s0_0 s0_1 s0_2 from HI0.out)) : g ≠ gb346)); have n12_ := Aside0.mk ((by rw [hg]; exact Nat.ne_of_gt (IsS59.lt (show IsS59 w0 _ g s0_0 s0_1 s0_2 from HI0.out)) : gb346 ≠ g)); clear HO342; clear HO345; clear HI0; clear BK339; clear HK; clear HB; have HO342 := n0_; have HO345 := n1_; have HI0 := n2_; have BK339 := n3_; have HK := n4_; have HB := n5_; have BK346 := n6_; have GW346 := n7_; have GE346 := n8_; have NB339_346 := n9_; have NB346_339 := n10_; have NB0_346 := n11_; have NB346_0 := n12_; clear n0_ n1_ n2_ n3_ n4_ n5_ n6_ n7_ n8_ n9_ n10_ n11_ n12_; clear hb hbox hg; obtain ⟨Ao6, co6, eo6⟩ := Kd.R_slice HO342.out; subst eo6; have hnb7 := NB346_339.out; have hnc7 := NB339_346.out; have hnb8 := NB346_0.out; have hnc8 := NB0_346.out; have hcz9_0 : w5.cell? ⟨gb346, 0, none⟩ = some (.slice none 0 0) := (blk_cell BK346.out 0).trans rfl; have hcz9_1 : w5.cell? ⟨gb346, 1, none⟩ = some (.slice none 0 0) := (blk_cell BK346.out 1).trans rfl; have hfz9_0 := blk_frozen BK346.out 0; have hfz9_1 := blk_frozen BK346.out 1; obtain ⟨Ao10, co10, eo10⟩ := Kd.R_slice HO345.out; subst eo10))
  go_loopg [4] k (fun kq v4 w' => ∃ (x4_1 : Int) (x1001_1 : Int) (x1002_1 : Int) (x347000_1 : List Int) (x347001_1 : List Int) (u347000 : Value) (u347001 : Value), v4 = .int .i64 x4_1 ∧ Aside0 (spec_l3DrawRight.l0 kq x4_1 s0_0 x1001_1 x1002_1 x347000_1 x347001_1 = some (r1, r2, r3, r4)) ∧ Aside0 (kq ≤ k) ∧ Aside0 (Kd.R (Kd.int .i64) 3 w' w.heap.size (fun k_ => some k_ ≠ (u347001 : Value).ownBlock) u347000 x347000_1) ∧ Aside0 (Kd.R (Kd.int .i64) 3 w' w.heap.size (fun k_ => some k_ ≠ (u347000 : Value).ownBlock) u347001 x347001_1) ∧ Aside0 (w'.heap[gb339]? = some (.cells #[(.slice none 0 0), (.slice none 0 0)] 33 (0, 0))) ∧ Aside0 (w'.heap[gb346]? = some (.cells #[u347000, u347001] 33 (0, 0))) ∧ Aside0 (IsS59 w0 w' g s0_0 x1001_1 x1002_1) ∧ Aside0 (KeepBut w w' g none) ∧ Aside0 (Below w0.heap.size w0 w'))
  case atStart => exact ⟨(0), (s0_1), (s0_2), (t340), (t343), (.slice Ao6 t340.length co6), (.slice Ao10 t343.length co10), (by first | rfl | (simp; done) | (simp [*]; done)), H', ⟨Nat.le_refl _⟩, ⟨by exact Kd.R_mono (Kd.R_far (p := ⟨gb346, 1, none⟩) (Kd.R_far (p := ⟨gb346, 0, none⟩) (Kd.R_types HO342.out BK346.out (by decide)) (fun _ hk => hk.2) (.slice Ao6 t340.length co6)) (fun _ hk => hk.2) (.slice Ao10 t343.length co10)) (fun _ hk => hk.1)⟩, ⟨by exact Kd.R_mono (Kd.R_far (p := ⟨gb346, 1, none⟩) (Kd.R_far (p := ⟨gb346, 0, none⟩) (Kd.R_types HO345.out BK346.out (by decide)) (fun _ hk => hk.2) (.slice Ao6 t340.length co6)) (fun _ hk => hk.2) (.slice Ao10 t343.length co10)) (fun _ hk => hk.1)⟩, ⟨by refine blk_far ?_ NB339_346.out _; refine blk_far ?_ NB339_346.out _; exact BK339.out⟩, ⟨by refine blk_put (cs := #[.slice Ao6 t340.length co6, .slice none 0 0]) ?_ 1 _ rfl; refine blk_put (cs := #[.slice none 0 0, .slice none 0 0]) ?_ 0 _ rfl; exact BK346.out⟩, ⟨by repeat (first | (with_reducible first | exact HI0.out | apply IsS59.alloc | apply IsS59.drewN | apply IsS59.drew | apply IsS59.set_1 | apply IsS59.set_2 | refine IsS59.far ?_ NB0_339.out _ | refine IsS59.far ?_ NB0_346.out _) | exact HI0.out)⟩, ⟨by repeat (first | (with_reducible first | exact HK.out | apply KeepBut.set_ | apply keep_drewN | apply keep_drew | apply keep_alloc | refine keep_far ?_ GW339.out _ | refine keep_far ?_ GW346.out _) | exact HK.out)⟩, ⟨by repeat (first | (with_reducible first | exact HB.out | apply below_alloc | apply pw_below_drewN | apply below_drew1 | refine below_set ?_ (IsS59.ge HI0.out) | refine below_set ?_ GE339.out | refine below_set ?_ GE346.out) | exact HB.out)⟩⟩
  case round =>
    clear H'
    try clear p2
    try clear c4
    try clear c5
    try clear c7
    try clear c8
    try clear hcz9_0
    try clear hcz9_1
    try clear hfz9_0
    try clear hfz9_1
    obtain ⟨x4_1, x1001_1, x1002_1, x347000_1, x347001_1, u347000, u347001, rfl, HA, HK1, HO_347000, HO_347001, BK339, BK346, HI0, HK, HB⟩ := hrel
    cases gk with
    | zero => exact absurd HA.out (by simp [spec_l3DrawRight.l0])
    | succ k1 =>
      have H := HA.out
      clear HA
      simp only [spec_l3DrawRight.l0] at H
      replace H := Option.bind_eq_some_iff.mp H
      obtain ⟨⟨t347, t348, t349⟩, A110, H⟩ := H
      replace H : (if x4_1 < t347 then ((spec_l2DrawRight.f s0_0 t348 t349).bind fun bt350 => (if 0 ≤ bt350.1 then (if bt350.1 < (x347001_1.length : Int) then ((spec_Pay.f k1 x347000_1 x347001_1 bt350.1 bt350.2.1 bt350.2.2.1 (rd x347001_1 bt350.1)).bind fun bt358 => (spec_l3DrawRight.l0 k1 (wrap64 (x4_1 + 1)) s0_0 bt350.2.2.2.2.1 bt350.2.2.2.2.2 bt358.1 bt358.2.1)) else (none)) else (none))) else (some (x347000_1, x347001_1, t348, t349))) = some (r1, r2, r3, r4) := H
      have A11 := Aside0.mk A110
      clear A110
      by_cases c12 : x4_1 < t347
      · rw [if_pos c12] at H
        have c12b0 : decide (x4_1 < t347) = true := decide_eq_true c12
        clear c12
        replace H := Option.bind_eq_some_iff.mp H
        obtain ⟨⟨t350, t351, t352, t353, t354, t355⟩, A130, H⟩ := H
        replace H : (if 0 ≤ t350 then (if t350 < (x347001_1.length : Int) then ((spec_Pay.f k1 x347000_1 x347001_1 t350 t351 t352 (rd x347001_1 t350)).bind fun bt358 => (spec_l3DrawRight.l0 k1 (wrap64 (x4_1 + 1)) s0_0 t354 t355 bt358.1 bt358.2.1)) else (none)) else (none)) = some (r1, r2, r3, r4) := H
        have A13 := Aside0.mk A130
        clear A130
        by_cases c14 : 0 ≤ t350
        · rw [if_pos c14] at H
          have c14b0 : decide (0 ≤ t350) = true := decide_eq_true c14
          clear c14
          by_cases c15 : t350 < (x347001_1.length : Int)
          · rw [if_pos c15] at H
            have c15b0 : decide (t350 < (x347001_1.length : Int)) = true := decide_eq_true c15
            clear c15
            replace H := Option.bind_eq_some_iff.mp H
            obtain ⟨⟨t358, t361, t364⟩, A160, H⟩ := H
            replace H : (spec_l3DrawRight.l0 k1 (wrap64 (x4_1 + 1)) s0_0 t354 t355 t358 t361) = some (r1, r2, r3, r4) := H
            have A16 := Aside0.mk A160
            clear A160
            have H' := Aside0.mk H
            clear H
            go_wp2_with (first | ((with_reducible refine gate_callee (f := 39) rfl ?_); refine goesL_ (some 9) rfl rfl Tryd.func39 (by kernel_rfl) rfl #[.pointer (some ⟨g, 0, none⟩), .int .i64 6] rfl (by (try simp only [mp]); first | done | rfl) ?_; (with_reducible refine (spec_l1Below.calls g s0_0 x1001_1 x1002_1 6 t347 t348 t349 w0 _ ?side1 ?side2 A11.out).mono ?_); (case side1 => repeat (first | (with_reducible first | exact HI0.out | apply IsS59.alloc | apply IsS59.drewN | apply IsS59.drew | apply IsS59.set_1 | apply IsS59.set_2 | refine IsS59.far ?_ NB0_339.out _ | refine IsS59.far ?_ NB0_346.out _) | exact HI0.out)); (case side2 => repeat (first | (with_reducible first | exact HB.out | apply below_alloc | apply pw_below_drewN | apply below_drew1 | refine below_set ?_ (IsS59.ge HI0.out) | refine below_set ?_ GE339.out | refine below_set ?_ GE346.out) | exact HB.out)); rintro e w17 ⟨rfl, hi, hb, hk⟩; refine ⟨_, rfl, ?_⟩; have n0_ := Aside0.mk (Kd.R_mono (Kd.R_keep (IsS59.apart (show IsS59 w0 _ g s0_0 x1001_1 x1002_1 from by repeat (first | (with_reducible first | exact HI0.out | apply IsS59.alloc | apply IsS59.drewN | apply IsS59.drew | apply IsS59.set_1 | apply IsS59.set_2 | refine IsS59.far ?_ NB0_339.out _ | refine IsS59.far ?_ NB0_346.out _) | exact HI0.out)) (by exact HO_347000.out) (by decide)) hk (fun _ h => h.2)) (fun _ h => h.1)); have n1_ := Aside0.mk (Kd.R_mono (Kd.R_keep (IsS59.apart (show IsS59 w0 _ g s0_0 x1001_1 x1002_1 from by repeat (first | (with_reducible first | exact HI0.out | apply IsS59.alloc | apply IsS59.drewN | apply IsS59.drew | apply IsS59.set_1 | apply IsS59.set_2 | refine IsS59.far ?_ NB0_339.out _ | refine IsS59.far ?_ NB0_346.out _) | exact HI0.out)) (by exact HO_347001.out) (by decide)) hk (fun _ h => h.2)) (fun _ h => h.1)); have n2_ := Aside0.mk (KeepBut.blk hk (g' := gb339) (o := .cells #[.slice none 0 0, .slice none 0 0] 33 (0, 0)) (by exact BK339.out) NB339_0.out (by simp)); have n3_ := Aside0.mk (KeepBut.blk hk (g' := gb346) (o := .cells #[u347000, u347001] 33 (0, 0)) (by exact BK346.out) NB346_0.out (by simp)); have n4_ := Aside0.mk (KeepBut.trans (by repeat (first | (with_reducible first | exact HK.out | apply KeepBut.set_ | apply keep_drewN | apply keep_drew | apply keep_alloc | refine keep_far ?_ GW339.out _ | refine keep_far ?_ GW346.out _) | exact HK.out)) hk (.inl rfl)); have n5_ := Aside0.mk (hb); have n6_ := Aside0.mk (hi); clear HO_347000; clear HO_347001; clear BK339; clear BK346; clear HK; clear HB; clear HI0; have HO_347000 := n0_; have HO_347001 := n1_; have BK339 := n2_; have BK346 := n3_; have HK := n4_; have HB := n5_; have HI0 := n6_; clear n0_ n1_ n2_ n3_ n4_ n5_ n6_; (try clear hb); (try clear hb2); (try clear hk); (try clear hi)) | ((with_reducible refine gate_callee (f := 40) rfl ?_); refine goesL_ (some 14) rfl rfl Tryd.func40 (by kernel_rfl) rfl #[.pointer (some ⟨g, 0, none⟩)] rfl (by (try simp only [mp]); first | done | rfl) ?_; (with_reducible refine (spec_l2DrawRight.calls g s0_0 t348 t349 t350 t351 t352 t353 t354 t355 w0 _ ?side1 ?side2 A13.out).mono ?_); (case side1 => repeat (first | (with_reducible first | exact HI0.out | apply IsS59.alloc | apply IsS59.drewN | apply IsS59.drew | apply IsS59.set_1 | apply IsS59.set_2 | refine IsS59.far ?_ NB0_339.out _ | refine IsS59.far ?_ NB0_346.out _) | exact HI0.out)); (case side2 => repeat (first | (with_reducible first | exact HB.out | apply below_alloc | apply pw_below_drewN | apply below_drew1 | refine below_set ?_ (IsS59.ge HI0.out) | refine below_set ?_ GE339.out | refine below_set ?_ GE346.out) | exact HB.out)); rintro e w18 ⟨rfl, hi, hb, hk⟩; refine ⟨_, rfl, ?_⟩; have n0_ := Aside0.mk (Kd.R_mono (Kd.R_keep (IsS59.apart (show IsS59 w0 _ g s0_0 t348 t349 from by repeat (first | (with_reducible first | exact HI0.out | apply IsS59.alloc | apply IsS59.drewN | apply IsS59.drew | apply IsS59.set_1 | apply IsS59.set_2 | refine IsS59.far ?_ NB0_339.out _ | refine IsS59.far ?_ NB0_346.out _) | exact HI0.out)) (by exact HO_347000.out) (by decide)) hk (fun _ h => h.2)) (fun _ h => h.1)); have n1_ := Aside0.mk (Kd.R_mono (Kd.R_keep (IsS59.apart (show IsS59 w0 _ g s0_0 t348 t349 from by repeat (first | (with_reducible first | exact HI0.out | apply IsS59.alloc | apply IsS59.drewN | apply IsS59.drew | apply IsS59.set_1 | apply IsS59.set_2 | refine IsS59.far ?_ NB0_339.out _ | refine IsS59.far ?_ NB0_346.out _) | exact HI0.out)) (by exact HO_347001.out) (by decide)) hk (fun _ h => h.2)) (fun _ h => h.1)); have n2_ := Aside0.mk (KeepBut.blk hk (g' := gb339) (o := .cells #[.slice none 0 0, .slice none 0 0] 33 (0, 0)) (by exact BK339.out) NB339_0.out (by simp)); have n3_ := Aside0.mk (KeepBut.blk hk (g' := gb346) (o := .cells #[u347000, u347001] 33 (0, 0)) (by exact BK346.out) NB346_0.out (by simp)); have n4_ := Aside0.mk (KeepBut.trans (by repeat (first | (with_reducible first | exact HK.out | apply KeepBut.set_ | apply keep_drewN | apply keep_drew | apply keep_alloc | refine keep_far ?_ GW339.out _ | refine keep_far ?_ GW346.out _) | exact HK.out)) hk (.inl rfl)); have n5_ := Aside0.mk (hb); have n6_ := Aside0.mk (hi); clear HO_347000; clear HO_347001; clear BK339; clear BK346; clear HK; clear HB; clear HI0; have HO_347000 := n0_; have HO_347001 := n1_; have BK339 := n2_; have BK346 := n3_; have HK := n4_; have HB := n5_; have HI0 := n6_; clear n0_ n1_ n2_ n3_ n4_ n5_ n6_; (try clear hb); (try clear hb2); (try clear hk); (try clear hi)) | ((with_reducible refine gate_dst (N := 5) rfl ?_); refine box_event ?hg (N := 5) ?hd (cs := #[.int .i64 0, .int .i64 0, .int .i64 0, .int .i64 0]) (t := 26) ?hr ?_; (case hd => rfl); (case hg => rfl); (case hr => go_simp <;> rfl); intro gb356 hg w19 hbox hb; have n0_ := Aside0.mk (Kd.R_below (by exact HO_347000.out) hb); have n1_ := Aside0.mk (Kd.R_below (by exact HO_347001.out) hb); have n2_ := Aside0.mk (blk_below (g := gb339) (o := .cells #[.slice none 0 0, .slice none 0 0] 33 (0, 0)) (by exact BK339.out) hb); have n3_ := Aside0.mk (blk_below (g := gb346) (o := .cells #[u347000, u347001] 33 (0, 0)) (by exact BK346.out) hb); have n4_ := Aside0.mk (IsS59.below (by repeat (first | (with_reducible first | exact HI0.out | apply IsS59.alloc | apply IsS59.drewN | apply IsS59.drew | apply IsS59.set_1 | apply IsS59.set_2 | refine IsS59.far ?_ NB0_339.out _ | refine IsS59.far ?_ NB0_346.out _) | exact HI0.out)) hb); have n5_ := Aside0.mk (KeepBut.trans (by repeat (first | (with_reducible first | exact HK.out | apply KeepBut.set_ | apply keep_drewN | apply keep_drew | apply keep_alloc | refine keep_far ?_ GW339.out _ | refine keep_far ?_ GW346.out _) | exact HK.out)) (KeepBut.of_below hb g none) (.inl rfl)); have n6_ := Aside0.mk (below_step (by repeat (first | (with_reducible first | exact HB.out | apply below_alloc | apply pw_below_drewN | apply below_drew1 | refine below_set ?_ (IsS59.ge HI0.out) | refine below_set ?_ GE339.out | refine below_set ?_ GE346.out) | exact HB.out)) hb); have n7_ := Aside0.mk (hbox); have n8_ := Aside0.mk ((by rw [hg]; exact (keep_size (w := w) (g := g) (row := none) (by repeat (first | (with_reducible first | exact HK.out | apply KeepBut.set_ | apply keep_drewN | apply keep_drew | apply keep_alloc | refine keep_far ?_ GW339.out _ | refine keep_far ?_ GW346.out _) | exact HK.out))) : w.heap.size ≤ gb356)); have n9_ := Aside0.mk ((Nat.le_trans HW0.out (by rw [hg]; exact (keep_size (w := w) (g := g) (row := none) (by repeat (first | (with_reducible first | exact HK.out | apply KeepBut.set_ | apply keep_drewN | apply keep_drew | apply keep_alloc | refine keep_far ?_ GW339.out _ | refine keep_far ?_ GW346.out _) | exact HK.out))) : w.heap.size ≤ gb356) : w0.heap.size ≤ gb356)); have n10_ := Aside0.mk ((by rw [hg]; exact Nat.ne_of_lt (blk_lt (g := gb339) (o := .cells #[.slice none 0 0, .slice none 0 0] 33 (0, 0)) (by exact BK339.out)) : gb339 ≠ gb356)); have n11_ := Aside0.mk ((by rw [hg]; exact Nat.ne_of_gt (blk_lt (g := gb339) (o := .cells #[.slice none 0 0, .slice none 0 0] 33 (0, 0)) (by exact BK339.out)) : gb356 ≠ gb339)); have n12_ := Aside0.mk ((by rw [hg]; exact Nat.ne_of_lt (blk_lt (g := gb346) (o := .cells #[u347000, u347001] 33 (0, 0)) (by exact BK346.out)) : gb346 ≠ gb356)); have n13_ := Aside0.mk ((by rw [hg]; exact Nat.ne_of_gt (blk_lt (g := gb346) (o := .cells #[u347000, u347001] 33 (0, 0)) (by exact BK346.out)) : gb356 ≠ gb346)); have n14_ := Aside0.mk ((by rw [hg]; exact Nat.ne_of_lt (IsS59.lt (show IsS59 w0 _ g s0_0 t354 t355 from by repeat (first | (with_reducible first | exact HI0.out | apply IsS59.alloc | apply IsS59.drewN | apply IsS59.drew | apply IsS59.set_1 | apply IsS59.set_2 | refine IsS59.far ?_ NB0_339.out _ | refine IsS59.far ?_ NB0_346.out _) | exact HI0.out))) : g ≠ gb356)); have n15_ := Aside0.mk ((by rw [hg]; exact Nat.ne_of_gt (IsS59.lt (show IsS59 w0 _ g s0_0 t354 t355 from by repeat (first | (with_reducible first | exact HI0.out | apply IsS59.alloc | apply IsS59.drewN | apply IsS59.drew | apply IsS59.set_1 | apply IsS59.set_2 | refine IsS59.far ?_ NB0_339.out _ | refine IsS59.far ?_ NB0_346.out _) | exact HI0.out))) : gb356 ≠ g)); clear HO_347000; clear HO_347001; clear BK339; clear BK346; clear HI0; clear HK; clear HB; have HO_347000 := n0_; have HO_347001 := n1_; have BK339 := n2_; have BK346 := n3_; have HI0 := n4_; have HK := n5_; have HB := n6_; have BK356 := n7_; have GW356 := n8_; have GE356 := n9_; have NB339_356 := n10_; have NB356_339 := n11_; have NB346_356 := n12_; have NB356_346 := n13_; have NB0_356 := n14_; have NB356_0 := n15_; clear n0_ n1_ n2_ n3_ n4_ n5_ n6_ n7_ n8_ n9_ n10_ n11_ n12_ n13_ n14_ n15_; clear hb hbox hg; have hnb20 := NB356_339.out; have hnc20 := NB339_356.out; have hnb21 := NB356_346.out; have hnc21 := NB346_356.out; have hnb22 := NB356_0.out; have hnc22 := NB0_356.out; have hcz23_0 : w19.cell? ⟨gb356, 0, none⟩ = some (.int .i64 0) := (blk_cell BK356.out 0).trans rfl; have hcz23_1 : w19.cell? ⟨gb356, 1, none⟩ = some (.int .i64 0) := (blk_cell BK356.out 1).trans rfl; have hcz23_2 : w19.cell? ⟨gb356, 2, none⟩ = some (.int .i64 0) := (blk_cell BK356.out 2).trans rfl; have hcz23_3 : w19.cell? ⟨gb356, 3, none⟩ = some (.int .i64 0) := (blk_cell BK356.out 3).trans rfl; have hfz23_0 := blk_frozen BK356.out 0; have hfz23_1 := blk_frozen BK356.out 1; have hfz23_2 := blk_frozen BK356.out 2; have hfz23_3 := blk_frozen BK356.out 3; have hnb24 := NB346_339.out; have hnc24 := NB339_346.out; have hnb25 := NB346_0.out; have hnc25 := NB0_346.out; have hcz26_0 : w19.cell? ⟨gb346, 0, none⟩ = some (u347000) := (blk_cell BK346.out 0).trans rfl; have hcz26_1 : w19.cell? ⟨gb346, 1, none⟩ = some (u347001) := (blk_cell BK346.out 1).trans rfl; have hfz26_0 := blk_frozen BK346.out 0; have hfz26_1 := blk_frozen BK346.out 1; obtain ⟨Ao27, co27, eo27⟩ := Kd.R_slice HO_347001.out; subst eo27; have p357 : 0 ≤ (t350 : Int) := of_decide_eq_true (by first | (with_reducible assumption) | assumption); have q357 : t350 < (x347001_1.length : Int) := of_decide_eq_true (by first | (with_reducible assumption) | assumption); obtain ⟨ad357, e357, hx357_0⟩ := Kd.at_int (Kd.R_reads' HO_347001.out).2.2 t350 p357 q357; cases e357; have hn357_0 : ad357.block ≠ gb356 := Kd.own_blk (Kd.R_ne HO_347001.out BK356.out (by decide)); have hn357_1 : ad357.block ≠ gb356 := Kd.own_blk (Kd.R_ne HO_347001.out BK356.out (by decide)); have hn357_2 : ad357.block ≠ gb356 := Kd.own_blk (Kd.R_ne HO_347001.out BK356.out (by decide)); have hn357_3 : ad357.block ≠ gb356 := Kd.own_blk (Kd.R_ne HO_347001.out BK356.out (by decide)); replace hx357_0 := (cell_far (p := ⟨gb356, 0, none⟩) (by first | (rw [add_block]; exact hn357_0) | (show (Addr.add _ _).block ≠ _; rw [add_block]; exact hn357_0) | exact hn357_0) (.int .i64 t350)).trans hx357_0; replace hx357_0 := (cell_far (p := ⟨gb356, 1, none⟩) (by first | (rw [add_block]; exact hn357_1) | (show (Addr.add _ _).block ≠ _; rw [add_block]; exact hn357_1) | exact hn357_1) (.int .i64 t351)).trans hx357_0; replace hx357_0 := (cell_far (p := ⟨gb356, 2, none⟩) (by first | (rw [add_block]; exact hn357_2) | (show (Addr.add _ _).block ≠ _; rw [add_block]; exact hn357_2) | exact hn357_2) (.int .i64 t352)).trans hx357_0; replace hx357_0 := (cell_far (p := ⟨gb356, 3, none⟩) (by first | (rw [add_block]; exact hn357_3) | (show (Addr.add _ _).block ≠ _; rw [add_block]; exact hn357_3) | exact hn357_3) (.int .i64 t353)).trans hx357_0; clear hn357_0; clear hn357_1; clear hn357_2; clear hn357_3; replace p357 := eq_true p357; replace q357 := eq_true q357; obtain ⟨Ao28, co28, eo28⟩ := Kd.R_slice HO_347000.out; subst eo28) | ((with_reducible refine gate_dst (N := 24) rfl ?_); refine ld_row (t' := 26) gb356 #[.int .i64 t350, .int .i64 t351, .int .i64 t352, .int .i64 (rd x347001_1 t350)] rfl rfl rfl rfl ?hrow ?_; (case hrow => refine blk_put (cs := #[.int .i64 t350, .int .i64 t351, .int .i64 t352, .int .i64 t353]) ?_ 3 _ rfl; refine blk_put (cs := #[.int .i64 t350, .int .i64 t351, .int .i64 t352, .int .i64 0]) ?_ 3 _ rfl; refine blk_put (cs := #[.int .i64 t350, .int .i64 t351, .int .i64 0, .int .i64 0]) ?_ 2 _ rfl; refine blk_put (cs := #[.int .i64 t350, .int .i64 0, .int .i64 0, .int .i64 0]) ?_ 1 _ rfl; refine blk_put (cs := #[.int .i64 0, .int .i64 0, .int .i64 0, .int .i64 0]) ?_ 0 _ rfl; exact BK356.out)) | ((with_reducible refine gate_callee (f := 36) rfl ?_); refine goesL_ (some 25) rfl rfl Tryd.func36 (by kernel_rfl) rfl #[.agg #[.slice Ao28 x347000_1.length co28, .slice (some ad357) x347001_1.length co27], .agg #[.int .i64 t350, .int .i64 t351, .int .i64 t352, .int .i64 (rd x347001_1 t350)]] rfl (by (try simp only [mp]); first | done | rfl) ?_; (with_reducible refine (spec_Pay.calls k1 _ _ x347000_1 _ _ x347001_1 t350 t351 t352 (rd x347001_1 t350) t358 t361 t364 _ ?side1 ?side2 ?side3 ?side4 A16.out).mono ?_); (case side1 => refine (Kd.R_reads' (e := 3) (base := w.heap.size) (ok := fun k_ => some k_ ≠ (.slice (some ad357) x347001_1.length co27 : Value).ownBlock) (n := x347000_1.length) (c := co28) ?_).2.2; exact (by exact (Kd.R_mono (Kd.R_far (p := ⟨gb356, 3, none⟩) (Kd.R_far (p := ⟨gb356, 3, none⟩) (Kd.R_far (p := ⟨gb356, 2, none⟩) (Kd.R_far (p := ⟨gb356, 1, none⟩) (Kd.R_far (p := ⟨gb356, 0, none⟩) (Kd.R_types HO_347000.out BK356.out (by decide)) (fun _ hk => hk.2) (.int .i64 t350)) (fun _ hk => hk.2) (.int .i64 t351)) (fun _ hk => hk.2) (.int .i64 t352)) (fun _ hk => hk.2) (.int .i64 t353)) (fun _ hk => hk.2) (.int .i64 (rd x347001_1 t350))) (fun _ h_ => h_.1)))); (case side2 => exact (Kd.R_reads' HO_347000.out).2.1); (case side3 => refine (Kd.R_reads' (e := 3) (base := w.heap.size) (ok := fun k_ => some k_ ≠ (.slice Ao28 x347000_1.length co28 : Value).ownBlock) (n := x347001_1.length) (c := co27) ?_).2.2; exact (by exact (Kd.R_mono (Kd.R_far (p := ⟨gb356, 3, none⟩) (Kd.R_far (p := ⟨gb356, 3, none⟩) (Kd.R_far (p := ⟨gb356, 2, none⟩) (Kd.R_far (p := ⟨gb356, 1, none⟩) (Kd.R_far (p := ⟨gb356, 0, none⟩) (Kd.R_types HO_347001.out BK356.out (by decide)) (fun _ hk => hk.2) (.int .i64 t350)) (fun _ hk => hk.2) (.int .i64 t351)) (fun _ hk => hk.2) (.int .i64 t352)) (fun _ hk => hk.2) (.int .i64 t353)) (fun _ hk => hk.2) (.int .i64 (rd x347001_1 t350))) (fun _ h_ => h_.1)))); (case side4 => exact (Kd.R_reads' HO_347001.out).2.1); rintro e w29 ⟨v359, v362, rfl, ho0, ho1, hb⟩; refine ⟨_, rfl, ?_⟩; have n0_ := Aside0.mk (Kd.R_mono (Kd.R_told (Kd.R_told (Kd.R_old (by exact (Kd.R_mono (Kd.R_far (p := ⟨gb356, 3, none⟩) (Kd.R_far (p := ⟨gb356, 3, none⟩) (Kd.R_far (p := ⟨gb356, 2, none⟩) (Kd.R_far (p := ⟨gb356, 1, none⟩) (Kd.R_far (p := ⟨gb356, 0, none⟩) (Kd.R_types HO_347000.out BK356.out (by decide)) (fun _ hk => hk.2) (.int .i64 t350)) (fun _ hk => hk.2) (.int .i64 t351)) (fun _ hk => hk.2) (.int .i64 t352)) (fun _ hk => hk.2) (.int .i64 t353)) (fun _ hk => hk.2) (.int .i64 (rd x347001_1 t350))) (fun _ h_ => h_.1))) hb) (Kd.R_base ho0)) (Kd.R_base ho1)) (fun _ h_ => h_.1)); have n1_ := Aside0.mk (Kd.R_mono (Kd.R_told (Kd.R_told (Kd.R_old (by exact (Kd.R_mono (Kd.R_far (p := ⟨gb356, 3, none⟩) (Kd.R_far (p := ⟨gb356, 3, none⟩) (Kd.R_far (p := ⟨gb356, 2, none⟩) (Kd.R_far (p := ⟨gb356, 1, none⟩) (Kd.R_far (p := ⟨gb356, 0, none⟩) (Kd.R_types HO_347001.out BK356.out (by decide)) (fun _ hk => hk.2) (.int .i64 t350)) (fun _ hk => hk.2) (.int .i64 t351)) (fun _ hk => hk.2) (.int .i64 t352)) (fun _ hk => hk.2) (.int .i64 t353)) (fun _ hk => hk.2) (.int .i64 (rd x347001_1 t350))) (fun _ h_ => h_.1))) hb) (Kd.R_base ho0)) (Kd.R_base ho1)) (fun _ h_ => h_.1)); have n2_ := Aside0.mk (Kd.R_lower (Kd.R_new' (Kd.R_new' ho0 (Kd.R_lt (by exact (Kd.R_mono (Kd.R_far (p := ⟨gb356, 3, none⟩) (Kd.R_far (p := ⟨gb356, 3, none⟩) (Kd.R_far (p := ⟨gb356, 2, none⟩) (Kd.R_far (p := ⟨gb356, 1, none⟩) (Kd.R_far (p := ⟨gb356, 0, none⟩) (Kd.R_types HO_347000.out BK356.out (by decide)) (fun _ hk => hk.2) (.int .i64 t350)) (fun _ hk => hk.2) (.int .i64 t351)) (fun _ hk => hk.2) (.int .i64 t352)) (fun _ hk => hk.2) (.int .i64 t353)) (fun _ hk => hk.2) (.int .i64 (rd x347001_1 t350))) (fun _ h_ => h_.1))))) (Kd.R_lt (by exact (Kd.R_mono (Kd.R_far (p := ⟨gb356, 3, none⟩) (Kd.R_far (p := ⟨gb356, 3, none⟩) (Kd.R_far (p := ⟨gb356, 2, none⟩) (Kd.R_far (p := ⟨gb356, 1, none⟩) (Kd.R_far (p := ⟨gb356, 0, none⟩) (Kd.R_types HO_347001.out BK356.out (by decide)) (fun _ hk => hk.2) (.int .i64 t350)) (fun _ hk => hk.2) (.int .i64 t351)) (fun _ hk => hk.2) (.int .i64 t352)) (fun _ hk => hk.2) (.int .i64 t353)) (fun _ hk => hk.2) (.int .i64 (rd x347001_1 t350))) (fun _ h_ => h_.1))))) (keep_size (w := w) (g := g) (row := none) (by repeat (first | (with_reducible first | exact HK.out | apply KeepBut.set_ | apply keep_drewN | apply keep_drew | apply keep_alloc | refine keep_far ?_ GW339.out _ | refine keep_far ?_ GW346.out _ | refine keep_far ?_ GW356.out _) | exact HK.out)))); have n3_ := Aside0.mk (Kd.R_lower (Kd.R_new' (Kd.R_new' ho1 (Kd.R_lt (by exact (Kd.R_mono (Kd.R_far (p := ⟨gb356, 3, none⟩) (Kd.R_far (p := ⟨gb356, 3, none⟩) (Kd.R_far (p := ⟨gb356, 2, none⟩) (Kd.R_far (p := ⟨gb356, 1, none⟩) (Kd.R_far (p := ⟨gb356, 0, none⟩) (Kd.R_types HO_347000.out BK356.out (by decide)) (fun _ hk => hk.2) (.int .i64 t350)) (fun _ hk => hk.2) (.int .i64 t351)) (fun _ hk => hk.2) (.int .i64 t352)) (fun _ hk => hk.2) (.int .i64 t353)) (fun _ hk => hk.2) (.int .i64 (rd x347001_1 t350))) (fun _ h_ => h_.1))))) (Kd.R_lt (by exact (Kd.R_mono (Kd.R_far (p := ⟨gb356, 3, none⟩) (Kd.R_far (p := ⟨gb356, 3, none⟩) (Kd.R_far (p := ⟨gb356, 2, none⟩) (Kd.R_far (p := ⟨gb356, 1, none⟩) (Kd.R_far (p := ⟨gb356, 0, none⟩) (Kd.R_types HO_347001.out BK356.out (by decide)) (fun _ hk => hk.2) (.int .i64 t350)) (fun _ hk => hk.2) (.int .i64 t351)) (fun _ hk => hk.2) (.int .i64 t352)) (fun _ hk => hk.2) (.int .i64 t353)) (fun _ hk => hk.2) (.int .i64 (rd x347001_1 t350))) (fun _ h_ => h_.1))))) (keep_size (w := w) (g := g) (row := none) (by repeat (first | (with_reducible first | exact HK.out | apply KeepBut.set_ | apply keep_drewN | apply keep_drew | apply keep_alloc | refine keep_far ?_ GW339.out _ | refine keep_far ?_ GW346.out _ | refine keep_far ?_ GW356.out _) | exact HK.out)))); have n4_ := Aside0.mk (blk_below (g := gb339) (o := .cells #[.slice none 0 0, .slice none 0 0] 33 (0, 0)) (by refine blk_far ?_ NB339_356.out _; refine blk_far ?_ NB339_356.out _; refine blk_far ?_ NB339_356.out _; refine blk_far ?_ NB339_356.out _; refine blk_far ?_ NB339_356.out _; exact BK339.out) hb); have n5_ := Aside0.mk (blk_below (g := gb346) (o := .cells #[.slice Ao28 x347000_1.length co28, .slice (some ad357) x347001_1.length co27] 33 (0, 0)) (by refine blk_far ?_ NB346_356.out _; refine blk_far ?_ NB346_356.out _; refine blk_far ?_ NB346_356.out _; refine blk_far ?_ NB346_356.out _; refine blk_far ?_ NB346_356.out _; exact BK346.out) hb); have n6_ := Aside0.mk (IsS59.below (show IsS59 w0 (((((w19.setCell ⟨gb356, 0, none⟩ (.int .i64 t350)).setCell ⟨gb356, 1, none⟩ (.int .i64 t351)).setCell ⟨gb356, 2, none⟩ (.int .i64 t352)).setCell ⟨gb356, 3, none⟩ (.int .i64 t353)).setCell ⟨gb356, 3, none⟩ (.int .i64 (rd x347001_1 t350))) g s0_0 t354 t355 from by repeat (first | (with_reducible first | exact HI0.out | apply IsS59.alloc | apply IsS59.drewN | apply IsS59.drew | apply IsS59.set_1 | apply IsS59.set_2 | refine IsS59.far ?_ NB0_339.out _ | refine IsS59.far ?_ NB0_346.out _ | refine IsS59.far ?_ NB0_356.out _) | exact HI0.out)) hb); have n7_ := Aside0.mk (blk_below (g := gb356) (o := .cells #[.int .i64 t350, .int .i64 t351, .int .i64 t352, .int .i64 (rd x347001_1 t350)] 26 (0, 0)) (by refine blk_put (cs := #[.int .i64 t350, .int .i64 t351, .int .i64 t352, .int .i64 t353]) ?_ 3 _ rfl; refine blk_put (cs := #[.int .i64 t350, .int .i64 t351, .int .i64 t352, .int .i64 0]) ?_ 3 _ rfl; refine blk_put (cs := #[.int .i64 t350, .int .i64 t351, .int .i64 0, .int .i64 0]) ?_ 2 _ rfl; refine blk_put (cs := #[.int .i64 t350, .int .i64 0, .int .i64 0, .int .i64 0]) ?_ 1 _ rfl; refine blk_put (cs := #[.int .i64 0, .int .i64 0, .int .i64 0, .int .i64 0]) ?_ 0 _ rfl; exact BK356.out) hb); have n8_ := Aside0.mk (KeepBut.trans (by repeat (first | (with_reducible first | exact HK.out | apply KeepBut.set_ | apply keep_drewN | apply keep_drew | apply keep_alloc | refine keep_far ?_ GW339.out _ | refine keep_far ?_ GW346.out _ | refine keep_far ?_ GW356.out _) | exact HK.out)) (KeepBut.of_below hb g none) (.inl rfl)); have n9_ := Aside0.mk (below_step (by repeat (first | (with_reducible first | exact HB.out | apply below_alloc | apply pw_below_drewN | apply below_drew1 | refine below_set ?_ (IsS59.ge HI0.out) | refine below_set ?_ GE339.out | refine below_set ?_ GE346.out | refine below_set ?_ GE356.out) | exact HB.out)) hb); clear HO_347000; clear HO_347001; clear BK339; clear BK346; clear HI0; clear BK356; clear HK; clear HB; have HO_347000 := n0_; have HO_347001 := n1_; have HO360 := n2_; have HO363 := n3_; have BK339 := n4_; have BK346 := n5_; have HI0 := n6_; have BK356 := n7_; have HK := n8_; have HB := n9_; clear n0_ n1_ n2_ n3_ n4_ n5_ n6_ n7_ n8_ n9_; (try clear hb); (try clear hb2); (try clear hk); (try clear hi); (try clear ho0); (try clear ho1); obtain ⟨Ao30, co30, eo30⟩ := Kd.R_slice HO360.out; subst eo30; have hcz31_0 : w29.cell? ⟨gb346, 0, none⟩ = some (.slice Ao28 x347000_1.length co28) := (blk_cell BK346.out 0).trans rfl; have hcz31_1 : w29.cell? ⟨gb346, 1, none⟩ = some (.slice (some ad357) x347001_1.length co27) := (blk_cell BK346.out 1).trans rfl; have hfz31_0 := blk_frozen BK346.out 0; have hfz31_1 := blk_frozen BK346.out 1; obtain ⟨Ao32, co32, eo32⟩ := Kd.R_slice HO363.out; subst eo32))
            go_roundg k1
            case measure => have := HK1.out; omega
            case rel => exact ⟨(wrap64 (x4_1 + 1)), (t354), (t355), (t358), (t361), (.slice Ao30 t358.length co30), (.slice Ao32 t361.length co32), (by first | rfl | (simp; done) | (simp [*]; done)), H', ⟨by have := HK1.out; omega⟩, ⟨by exact Kd.R_mono (Kd.R_far (p := ⟨gb346, 1, none⟩) (Kd.R_far (p := ⟨gb346, 0, none⟩) (Kd.R_types HO360.out BK346.out (by decide)) (fun _ hk => hk.2) (.slice Ao30 t358.length co30)) (fun _ hk => hk.2) (.slice Ao32 t361.length co32)) (fun _ hk => hk.1.1.1)⟩, ⟨by exact Kd.R_mono (Kd.R_far (p := ⟨gb346, 1, none⟩) (Kd.R_far (p := ⟨gb346, 0, none⟩) (Kd.R_types HO363.out BK346.out (by decide)) (fun _ hk => hk.2) (.slice Ao30 t358.length co30)) (fun _ hk => hk.2) (.slice Ao32 t361.length co32)) (fun _ hk => hk.1.1.1)⟩, ⟨by refine blk_far ?_ NB339_346.out _; refine blk_far ?_ NB339_346.out _; exact BK339.out⟩, ⟨by refine blk_put (cs := #[.slice Ao30 t358.length co30, .slice (some ad357) x347001_1.length co27]) ?_ 1 _ rfl; refine blk_put (cs := #[.slice Ao28 x347000_1.length co28, .slice (some ad357) x347001_1.length co27]) ?_ 0 _ rfl; exact BK346.out⟩, ⟨by repeat (first | (with_reducible first | exact HI0.out | apply IsS59.alloc | apply IsS59.drewN | apply IsS59.drew | apply IsS59.set_1 | apply IsS59.set_2 | refine IsS59.far ?_ NB0_339.out _ | refine IsS59.far ?_ NB0_346.out _ | refine IsS59.far ?_ NB0_356.out _) | exact HI0.out)⟩, ⟨by repeat (first | (with_reducible first | exact HK.out | apply KeepBut.set_ | apply keep_drewN | apply keep_drew | apply keep_alloc | refine keep_far ?_ GW339.out _ | refine keep_far ?_ GW346.out _ | refine keep_far ?_ GW356.out _) | exact HK.out)⟩, ⟨by repeat (first | (with_reducible first | exact HB.out | apply below_alloc | apply pw_below_drewN | apply below_drew1 | refine below_set ?_ (IsS59.ge HI0.out) | refine below_set ?_ GE339.out | refine below_set ?_ GE346.out | refine below_set ?_ GE356.out) | exact HB.out)⟩⟩
          · rw [if_neg c15] at H
            exact absurd H (by simp)
        · rw [if_neg c14] at H
          exact absurd H (by simp)
      · rw [if_neg c12] at H
        have c12b0 : decide (x4_1 < t347) = false := decide_eq_false c12
        clear c12
        simp only [Option.some.injEq, Prod.mk.injEq] at H
        obtain ⟨rfl, rfl, rfl, rfl⟩ := H
        go_wp2_with (first | ((with_reducible refine gate_callee (f := 39) rfl ?_); refine goesL_ (some 9) rfl rfl Tryd.func39 (by kernel_rfl) rfl #[.pointer (some ⟨g, 0, none⟩), .int .i64 6] rfl (by (try simp only [mp]); first | done | rfl) ?_; (with_reducible refine (spec_l1Below.calls g s0_0 x1001_1 x1002_1 6 t347 t348 t349 w0 _ ?side1 ?side2 A11.out).mono ?_); (case side1 => exact HI0.out); (case side2 => exact HB.out); rintro e w33 ⟨rfl, hi, hb, hk⟩; refine ⟨_, rfl, ?_⟩; have n0_ := Aside0.mk (Kd.R_mono (Kd.R_keep (IsS59.apart (show IsS59 w0 _ g s0_0 x1001_1 x1002_1 from HI0.out) (by exact HO_347000.out) (by decide)) hk (fun _ h => h.2)) (fun _ h => h.1)); have n1_ := Aside0.mk (Kd.R_mono (Kd.R_keep (IsS59.apart (show IsS59 w0 _ g s0_0 x1001_1 x1002_1 from HI0.out) (by exact HO_347001.out) (by decide)) hk (fun _ h => h.2)) (fun _ h => h.1)); have n2_ := Aside0.mk (KeepBut.blk hk (g' := gb339) (o := .cells #[.slice none 0 0, .slice none 0 0] 33 (0, 0)) (by exact BK339.out) NB339_0.out (by simp)); have n3_ := Aside0.mk (KeepBut.blk hk (g' := gb346) (o := .cells #[u347000, u347001] 33 (0, 0)) (by exact BK346.out) NB346_0.out (by simp)); have n4_ := Aside0.mk (KeepBut.trans (HK.out) hk (.inl rfl)); have n5_ := Aside0.mk (hb); have n6_ := Aside0.mk (hi); clear HO_347000; clear HO_347001; clear BK339; clear BK346; clear HK; clear HB; clear HI0; have HO_347000 := n0_; have HO_347001 := n1_; have BK339 := n2_; have BK346 := n3_; have HK := n4_; have HB := n5_; have HI0 := n6_; clear n0_ n1_ n2_ n3_ n4_ n5_ n6_; (try clear hb); (try clear hb2); (try clear hk); (try clear hi); have hnb34 := NB346_339.out; have hnc34 := NB339_346.out; have hnb35 := NB346_0.out; have hnc35 := NB0_346.out; have hcz36_0 : w33.cell? ⟨gb346, 0, none⟩ = some (u347000) := (blk_cell BK346.out 0).trans rfl; have hcz36_1 : w33.cell? ⟨gb346, 1, none⟩ = some (u347001) := (blk_cell BK346.out 1).trans rfl; have hfz36_0 := blk_frozen BK346.out 0; have hfz36_1 := blk_frozen BK346.out 1; obtain ⟨Ao37, co37, eo37⟩ := Kd.R_slice HO_347000.out; subst eo37; have hnb38 := NB339_0.out; have hnc38 := NB0_339.out; have hcz39_0 : w33.cell? ⟨gb339, 0, none⟩ = some (.slice none 0 0) := (blk_cell BK339.out 0).trans rfl; have hcz39_1 : w33.cell? ⟨gb339, 1, none⟩ = some (.slice none 0 0) := (blk_cell BK339.out 1).trans rfl; have hfz39_0 := blk_frozen BK339.out 0; have hfz39_1 := blk_frozen BK339.out 1; obtain ⟨Ao40, co40, eo40⟩ := Kd.R_slice HO_347001.out; subst eo40))
        refine bodyPost_ret (results_cell_row rfl _ _ gb339 33 #[.slice Ao37 x347000_1.length co37, .slice Ao40 x347001_1.length co40] (0, 0) _ rfl (by refine blk_put (cs := #[.slice Ao37 x347000_1.length co37, .slice none 0 0]) ?_ 1 _ rfl; refine blk_put (cs := #[.slice none 0 0, .slice none 0 0]) ?_ 0 _ rfl; exact BK339.out) Tryd.underlying33 rfl (by kernel_rfl)) rfl ?_
        exact ⟨_, _, rfl, by exact Kd.R_mono (Kd.R_far (p := ⟨gb339, 1, none⟩) (Kd.R_far (p := ⟨gb339, 0, none⟩) (Kd.R_types HO_347000.out BK339.out (by decide)) (fun _ hk => hk.2) (.slice Ao37 x347000_1.length co37)) (fun _ hk => hk.2) (.slice Ao40 x347001_1.length co40)) (fun _ hk => hk.1), by exact Kd.R_mono (Kd.R_far (p := ⟨gb339, 1, none⟩) (Kd.R_far (p := ⟨gb339, 0, none⟩) (Kd.R_types HO_347001.out BK339.out (by decide)) (fun _ hk => hk.2) (.slice Ao37 x347000_1.length co37)) (fun _ hk => hk.2) (.slice Ao40 x347001_1.length co40)) (fun _ hk => hk.1), by repeat (first | (with_reducible first | exact HI0.out | apply IsS59.alloc | apply IsS59.drewN | apply IsS59.drew | apply IsS59.set_1 | apply IsS59.set_2 | refine IsS59.far ?_ NB0_339.out _ | refine IsS59.far ?_ NB0_346.out _) | exact HI0.out), by repeat (first | (with_reducible first | exact HB.out | apply below_alloc | apply pw_below_drewN | apply below_drew1 | refine below_set ?_ (IsS59.ge HI0.out) | refine below_set ?_ GE339.out | refine below_set ?_ GE346.out) | exact HB.out), by repeat (first | (with_reducible first | exact HK.out | apply KeepBut.set_ | apply keep_drewN | apply keep_drew | apply keep_alloc | refine keep_far ?_ GW339.out _ | refine keep_far ?_ GW346.out _) | exact HK.out)⟩

end Go.Proofs.YtnlakfbbbnkcpaaDoor.PFnPools
