/- Walks of the functions that a law of seat Ytajblkfgdalldaa reaches, each against a Lean function, printed by this session's wip/myprint.py; no condition of their own. -/
import Derived.Test.YtajblkfgdalldaaPFnExactPoolDropx0
import Derived.Test.YtajblkfgdalldaaPFnExactPoolDropx3
namespace Go.Proofs.Ytajblkfgdalldaa.PFnExactPoolDrop
open Go.RowKit Go.Proofs.YtajblkfgdalldaaW.PrintWords Go.Proofs.YtajblkfgdalldaaW.PrintLast Go.Proofs.YtajblkfgdalldaaW.PrintMore
attribute [local go_sem] max2_int min2_int max_two min_two max_three min_three max_four min_four   -- for this text's walks alone
set_option linter.unusedVariables false
set_option linter.unusedSimpArgs false

/-! ### spec_Pay: function 34 -/
-- included common.lean
theorem up1 (n : Nat) (h : n < 4611686018427387904) : wrap64 ((n : Int) + 1) = ((n + 1 : Nat) : Int) := by
  unfold wrap64; omega
theorem up1' (a : Int) (h0 : -4611686018427387904 ≤ a) (h : a < 4611686018427387904) : wrap64 (a + 1) = a + 1 := by
  unfold wrap64; omega
theorem dn1 (a : Int) (h0 : -4611686018427387904 ≤ a) (h : a < 4611686018427387904) : wrap64 (a - 1) = a - 1 := by
  unfold wrap64; omega
theorem wrapI (a : Int) (h0 : -4611686018427387904 ≤ a) (h : a < 4611686018427387904) : wrap64 a = a := by
  unfold wrap64; omega
theorem rd_nat (xs : List Int) (n : Nat) (h : n < xs.length) : rd xs (n : Int) = xs[n] := by
  unfold rd; simp [List.getD_eq_getElem?_getD, h]
theorem ev_eq {α : Type} {g : Nat → Option α} {r s : α} (h : Ev g r) (e : r = s) : Ev g s := e ▸ h
theorem ev_ite {α : Type} {c : Prop} [Decidable c] {g f : Nat → Option α} {r s : α} (hg : c → Ev g r) (hf : ¬ c → Ev f s) : Ev (fun k => if c then g k else f k) (if c then r else s) := by
  by_cases h : c
  · simp only [if_pos h]; exact hg h
  · simp only [if_neg h]; exact hf h
theorem ev_pos {α : Type} {c : Prop} [Decidable c] {g f : Nat → Option α} {r : α} (h : c) (hg : Ev g r) : Ev (fun k => if c then g k else f k) r := by
  simp only [if_pos h]; exact hg
theorem ev_neg {α : Type} {c : Prop} [Decidable c] {g f : Nat → Option α} {r : α} (h : ¬ c) (hf : Ev f r) : Ev (fun k => if c then g k else f k) r := by
  simp only [if_neg h]; exact hf
theorem ev_some {α : Type} {r s : α} (e : r = s) : Ev (fun _ => some r) s := e ▸ Ev.now r
theorem ev_const {α β : Type} {o : Option α} {f : Nat → α → Option β} {a : α} {r : β} (h : o = some a) (k : Ev (fun n => f n a) r) : Ev (fun n => o.bind (f n)) r := by
  subst h; exact k
theorem ev_up {α : Type} {g : Nat → Option α} {r : α} (h : Ev (fun k => g (k + 1)) r) : Ev g r := by
  obtain ⟨K, hK⟩ := h
  refine ⟨K + 1, fun k hk => ?_⟩
  obtain ⟨m, rfl⟩ : ∃ m, k = m + 1 := ⟨k - 1, by omega⟩
  exact hK m (by omega)
theorem wNat (c : Nat) (h : c < 4611686018427387904) : wrap64 (c : Int) = (c : Int) := by unfold wrap64; omega
theorem wAdd (a i : Nat) (h : a + i < 4611686018427387904) : wrap64 ((a : Int) + (i : Int)) = ((a + i : Nat) : Int) := by unfold wrap64; omega
theorem wAdd1 (a i : Nat) (h : a + i < 4611686018427387904) : wrap64 (((a + i : Nat) : Int) + 1) = (a : Int) + ((i + 1 : Nat) : Int) := by unfold wrap64; omega
theorem wSub (a i : Nat) (h : a < 4611686018427387904) (h' : i < 4611686018427387904) : wrap64 ((a : Int) - (i : Int)) = (a : Int) - (i : Int) := by unfold wrap64; omega
theorem tmod128 (c : Nat) : Int.tmod (c : Int) 128 = ((c % 128 : Nat) : Int) := by rw [Int.tmod_eq_emod_of_nonneg (by omega)]; omega
theorem all_drop {α : Type} {P : α → Prop} {l : List α} {i : Nat} (h : i < l.length) : (∀ x ∈ l.drop i, P x) ↔ P l[i] ∧ ∀ x ∈ l.drop (i + 1), P x := by
  rw [List.drop_eq_getElem_cons h, List.forall_mem_cons]
-- included spec_l1In.lean
theorem spec_l1In_val (a b c : Int) : spec_l1In.f a b c = some (decide (b ≤ a ∧ a ≤ c)) := by
  unfold spec_l1In.f
  by_cases h : a ≥ b <;> by_cases h2 : a ≤ c <;> simp [h, h2] <;> omega
-- included spec_l3Copy.lean
theorem spec_l3Copy_val (h n : List Int) (b1 : h.length ≤ 1048576) (b2 : n.length ≤ 1048576) : spec_l3Copy.f h n = some (h, n) := by
  unfold spec_l3Copy.f
  simp only [Option.bind_some, List.length_nil, List.nil_append]
  rw [if_pos (by omega), if_pos (by omega)]
-- included spec_LedgerOk.lean
-- included ledger.inc
def ledgerIs (h n : List Int) : Prop := (h.length = 4 ∧ n.length = 4) ∧ (∀ x ∈ h, 0 ≤ x ∧ x ≤ 400) ∧ ∀ x ∈ n, 0 ≤ x ∧ x ≤ 100
instance (h n : List Int) : Decidable (ledgerIs h n) := by unfold ledgerIs; infer_instance
theorem spec_LedgerOk_loop (h n : List Int) (hh : h.length = 4) (hn : n.length = 4) : ∀ (d i : Nat), i + d = 4 → Ev (fun k => spec_LedgerOk.l0 k (i : Int) h n) (decide ((∀ x ∈ h.drop i, 0 ≤ x ∧ x ≤ 400) ∧ ∀ x ∈ n.drop i, 0 ≤ x ∧ x ≤ 100)) := by
  intro d
  induction d with
  | zero =>
    intro i hi
    refine Ev.step (f := fun _ => some true) (fun k => by simp only [spec_LedgerOk.l0]; rw [if_neg (by omega)]) (ev_some ?_)
    rw [List.drop_of_length_le (by omega), List.drop_of_length_le (by omega)]; simp
  | succ d ih =>
    intro i hi
    have h1 : i < h.length := by omega
    have h2 : i < n.length := by omega
    refine Ev.step (f := fun k => (spec_l1In.f h[i] 0 400).bind fun t => if t = true then ((spec_l1In.f n[i] 0 100).bind fun u => if u = true then spec_LedgerOk.l0 k ((i + 1 : Nat) : Int) h n else some false) else some false) (fun k => by simp only [spec_LedgerOk.l0]; rw [if_pos (by omega), if_pos (by omega), if_pos (by omega), if_pos (by omega), rd_nat h i h1, rd_nat n i h2, up1 i (by omega)]) ?_
    refine ev_const (spec_l1In_val _ _ _) ?_
    by_cases c1 : 0 ≤ h[i] ∧ h[i] ≤ 400
    · refine ev_pos (by simpa using c1) (ev_const (spec_l1In_val _ _ _) ?_)
      by_cases c2 : 0 ≤ n[i] ∧ n[i] ≤ 100
      · exact ev_pos (by simpa using c2) (ev_eq (ih (i + 1) (by omega)) (decide_eq_decide.mpr (by rw [all_drop h1, all_drop h2]; exact ⟨fun z => ⟨⟨c1, z.1⟩, c2, z.2⟩, fun z => ⟨z.1.2, z.2.2⟩⟩)))
      · exact ev_neg (by simpa using c2) (ev_some (decide_eq_false (by rw [all_drop h2]; exact fun z => c2 z.2.1)).symm)
    · exact ev_neg (by simpa using c1) (ev_some (decide_eq_false (by rw [all_drop h1]; exact fun z => c1 z.1.1)).symm)
theorem spec_LedgerOk_ev (h n : List Int) : Ev (fun k => spec_LedgerOk.f k h n) (decide (ledgerIs h n)) := by
  unfold spec_LedgerOk.f ledgerIs
  have tr : ∀ b : Bool, b = true → Ev (fun k => spec_LedgerOk.j0 k b h n) false := fun b hb => Ev.step (f := fun _ => some false) (fun k => by simp only [spec_LedgerOk.j0]; rw [if_pos hb]) (ev_some rfl)
  by_cases hh : h.length = 4
  · refine ev_pos (by omega) ?_
    by_cases hn : n.length = 4
    · rw [show ((n.length : Int) != 4) = false by simp; omega]
      refine Ev.step (f := fun k => spec_LedgerOk.l0 k 0 h n) (fun k => by simp only [spec_LedgerOk.j0]; rw [if_neg (by decide)]) ?_
      refine ev_eq (spec_LedgerOk_loop h n hh hn 4 0 rfl) (decide_eq_decide.mpr ?_)
      simp [hh, hn]
    · exact ev_eq (tr _ (by simp; omega)) (decide_eq_false (fun z => hn z.1.2)).symm
  · exact ev_neg (by omega) (ev_eq (tr true rfl) (decide_eq_false (fun z => hh z.1.1)).symm)
-- included spec_TxOk.lean
-- included txis.inc
def txIs (f t a n : Int) : Prop := (0 ≤ f ∧ f ≤ 3) ∧ (0 ≤ t ∧ t ≤ 3) ∧ (0 ≤ a ∧ a ≤ 1000) ∧ 0 ≤ n ∧ n ≤ 99
instance (f t a n : Int) : Decidable (txIs f t a n) := by unfold txIs; infer_instance
theorem spec_TxOk_val (f t a n : Int) : spec_TxOk.f f t a n = some (decide (txIs f t a n)) := by
  unfold spec_TxOk.f txIs
  simp only [spec_l1In_val, Option.bind_some, decide_eq_true_eq]
  by_cases h1 : 0 ≤ f ∧ f ≤ 3 <;> by_cases h2 : 0 ≤ t ∧ t ≤ 3 <;> by_cases h3 : 0 ≤ a ∧ a ≤ 1000 <;> simp only [h1, h2, h3, if_true, if_false, true_and, false_and, and_false, and_self, decide_false]
-- included pay.inc
def mvL (h : List Int) (f t a : Int) : List Int := (h.set f.toNat (wrap64 (rd h f - a))).set t.toNat (wrap64 (rd (h.set f.toNat (wrap64 (rd h f - a))) t + a))
def payL (h n : List Int) (f t a m : Int) : List Int × List Int × Int :=
  if ¬ (ledgerIs h n ∧ txIs f t a m) then (h, n, 1) else if m < rd n f then (h, n, 2) else if m > rd n f then (h, n, 3) else if a > rd h f then (h, n.set f.toNat (wrap64 (m + 1)), 4) else if ledgerIs (mvL h f t a) (n.set f.toNat (wrap64 (m + 1))) then (mvL h f t a, n.set f.toNat (wrap64 (m + 1)), 0) else (h, n, 1)
-- included sl_ledger.inc
theorem wrapEq (x : Int) : IntKind.i64.wrap x = wrap64 x := by rw [IntKind.wrap_i64]; unfold wrap64; rfl
theorem mvL_len (h : List Int) (f t a : Int) : h.length = (mvL h f t a).length := by unfold mvL; rw [List.length_set, List.length_set]
def payF (b : Bool) (h n : List Int) (f t a m : Int) : List Int × List Int × Int :=
  if m < rd n f then (h, n, 2) else if m > rd n f then (h, n, 3) else if a > rd h f then (h, n.set f.toNat (wrap64 (m + 1)), 4) else if b = true then (mvL h f t a, n.set f.toNat (wrap64 (m + 1)), 0) else (h, n, 1)
instance : Go.Proofs.YtajblkfgdalldaaH.ZeroT Try.prog 27 #[.slice none 0 0, .slice none 0 0] := ⟨by kernel_rfl⟩
instance : Go.Proofs.YtajblkfgdalldaaH.AggT Try.prog 27 2 := ⟨by kernel_rfl, by kernel_rfl⟩
instance : Go.Proofs.YtajblkfgdalldaaH.AggT Try.prog 45 4 := ⟨by kernel_rfl, by kernel_rfl⟩
instance : Go.Proofs.YtajblkfgdalldaaH.CellT Try.prog 3 := ⟨by kernel_rfl, by kernel_rfl⟩
instance : Go.Proofs.YtajblkfgdalldaaH.CellT Try.prog 22 := ⟨by kernel_rfl, by kernel_rfl⟩
theorem spec_Pay.lok (k : Nat) (A0 : Option Addr) (c0 : Nat) (l0 : List Int) (n0 : Nat) (A1 : Option Addr) (c1 : Nat) (l1 : List Int) (n1 : Nat) (r : Bool) (w : World) (e0 : n0 = l0.length) (e1 : n1 = l1.length) (hr0 : Kd.C (Kd.int .i64) w A0 l0.length l0) (hc0 : l0.length ≤ c0) (hr1 : Kd.C (Kd.int .i64) w A1 l1.length l1) (hc1 : l1.length ≤ c1) (h : spec_LedgerOk.f k l0 l1 = some r) :
    Calls Try.prog 24 #[.agg #[.slice A0 n0 c0, .slice A1 n1 c1]] w fun e w' => e = .returned (.bool r) ∧ Below w.heap.size w w' := by
  subst e0
  subst e1
  exact spec_LedgerOk.calls _ _ _ _ _ _ _ _ _ hr0 hc0 hr1 hc1 h
open Go.Proofs.YtajblkfgdalldaaH in
set_option maxHeartbeats 4000000 in
set_option maxRecDepth 100000 in
theorem spec_Pay.bad (k : Nat) (A0_0 : Option Addr) (c0_0 : Nat) (l0_0 : List Int) (A0_1 : Option Addr) (c0_1 : Nat) (l0_1 : List Int) (a1_0 a1_1 a1_2 a1_3 : Int) (b0 b1 : Bool) (w : World) (hr0 : Aside0 (Kd.C (Kd.int .i64) w A0_0 l0_0.length l0_0)) (hc0 : Aside0 (l0_0.length ≤ c0_0)) (hr1 : Aside0 (Kd.C (Kd.int .i64) w A0_1 l0_1.length l0_1)) (hc1 : Aside0 (l0_1.length ≤ c0_1)) (hcp : Aside0 (spec_l3Copy.f l0_0 l0_1 = some (l0_0, l0_1))) (hk : Aside0 (spec_LedgerOk.f k l0_0 l0_1 = some b0)) (hx : Aside0 (spec_TxOk.f a1_0 a1_1 a1_2 a1_3 = some b1)) (hb : (b0 && b1) = false) :
    Calls Try.prog 34 #[.agg #[.slice A0_0 l0_0.length c0_0, .slice A0_1 l0_1.length c0_1], .agg #[.int .i64 a1_0, .int .i64 a1_1, .int .i64 a1_2, .int .i64 a1_3]] w fun e w' => ∃ v0_ v1_ : Value, e = .returned (.tuple #[.agg #[v0_, v1_], .int .i64 (1)]) ∧ Kd.R (Kd.int .i64) 3 w' w.heap.size (fun k_ => some k_ ≠ (v1_ : Value).ownBlock) v0_ (l0_0) ∧ Kd.R (Kd.int .i64) 3 w' w.heap.size (fun k_ => some k_ ≠ (v0_ : Value).ownBlock) v1_ (l0_1) ∧ Below w.heap.size w w' := by
  have HS := SS.nil w
  rcases b0 with _ | _
  · clear hb
    go_enter Try.func34, Try.ntmps34
    go_wp2_with (first | ((with_reducible refine gate_dst (N := 4) rfl ?_); refine ev_alloc HS rfl rfl ?_; clear HS; intro g4 w1 HS) | ((with_reducible refine gate_dst (N := 6) rfl ?_); refine ev_alloc HS rfl rfl ?_; clear HS; intro g6 w1 HS) | ((with_reducible refine gate_dst (N := 2) rfl ?_); refine ev_box HS (cs := #[.slice A0_0 l0_0.length c0_0, .slice A0_1 l0_1.length c0_1]) rfl rfl rfl ?_; clear HS; intro g2 w1 HS) | ((with_reducible refine gate_dst (N := 3) rfl ?_); refine ev_box HS (cs := #[.int .i64 a1_0, .int .i64 a1_1, .int .i64 a1_2, .int .i64 a1_3]) rfl rfl rfl ?_; clear HS; intro g3 w1 HS) | ((with_reducible refine gate_load rfl ?_); first | refine ev_loadC HS rfl rfl rfl (by rfl) ?_ | refine ev_loadS HS rfl rfl rfl (by rfl) ?_) | ((with_reducible refine gate_put rfl ?_); (first | refine ev_storeC HS rfl rfl rfl rfl rfl (by rfl) (by rfl) ?_ | refine ev_storeS HS rfl rfl rfl rfl rfl (by rfl) (by rfl) (by rfl) ?_); clear HS; intro w1 HS) | (go_at_call 65; refine (spec_l3Copy.calls _ _ _ _ _ _ _ _ _ (Kd.C_below hr0.out HS.below) hc0.out (Kd.C_below hr1.out HS.below) hc1.out hcp.out).mono ?_; rintro e w1 ⟨v0, v1, rfl, ho0, ho1, hb⟩; obtain ⟨Ao0, co0, Ao1, co1, rfl, rfl, HS1⟩ := HS.got2 hb ho0 ho1 (fun _ h => h); clear HS ho0 ho1 hb; have HS := HS1; clear HS1) | (go_at_call 24; refine (spec_LedgerOk.calls _ _ _ _ _ _ _ _ _ (Kd.C_below hr0.out HS.below) hc0.out (Kd.C_below hr1.out HS.below) hc1.out hk.out).mono ?_; rintro e w1 ⟨rfl, hb⟩; have HS1 := HS.later hb; clear HS hb; have HS := HS1; clear HS1) | (go_at_call 56; refine (spec_TxOk.calls _ _ _ _ _ _ hx.out).mono ?_; rintro e w1 ⟨rfl, hb⟩; have HS1 := HS.later hb; clear HS hb; have HS := HS1; clear HS1))
    refine bodyPost_ret (results_ct rfl _ _ g4 27 #[.slice Ao0 l0_0.length co0, .slice Ao1 l0_1.length co1] (0, 0) _ rfl (HS.box g4) Try.underlying27 rfl (by kernel_rfl)) rfl ?_
    exact ⟨_, _, rfl, HS.out2 Ao0 Ao1 (by decide), HS.out2 Ao1 Ao0 (by decide), HS.below⟩
  · obtain rfl : b1 = false := by simpa using hb
    clear hb
    go_enter Try.func34, Try.ntmps34
    go_wp2_with (first | ((with_reducible refine gate_dst (N := 4) rfl ?_); refine ev_alloc HS rfl rfl ?_; clear HS; intro g4 w1 HS) | ((with_reducible refine gate_dst (N := 6) rfl ?_); refine ev_alloc HS rfl rfl ?_; clear HS; intro g6 w1 HS) | ((with_reducible refine gate_dst (N := 2) rfl ?_); refine ev_box HS (cs := #[.slice A0_0 l0_0.length c0_0, .slice A0_1 l0_1.length c0_1]) rfl rfl rfl ?_; clear HS; intro g2 w1 HS) | ((with_reducible refine gate_dst (N := 3) rfl ?_); refine ev_box HS (cs := #[.int .i64 a1_0, .int .i64 a1_1, .int .i64 a1_2, .int .i64 a1_3]) rfl rfl rfl ?_; clear HS; intro g3 w1 HS) | ((with_reducible refine gate_load rfl ?_); first | refine ev_loadC HS rfl rfl rfl (by rfl) ?_ | refine ev_loadS HS rfl rfl rfl (by rfl) ?_) | ((with_reducible refine gate_put rfl ?_); (first | refine ev_storeC HS rfl rfl rfl rfl rfl (by rfl) (by rfl) ?_ | refine ev_storeS HS rfl rfl rfl rfl rfl (by rfl) (by rfl) (by rfl) ?_); clear HS; intro w1 HS) | (go_at_call 65; refine (spec_l3Copy.calls _ _ _ _ _ _ _ _ _ (Kd.C_below hr0.out HS.below) hc0.out (Kd.C_below hr1.out HS.below) hc1.out hcp.out).mono ?_; rintro e w1 ⟨v0, v1, rfl, ho0, ho1, hb⟩; obtain ⟨Ao0, co0, Ao1, co1, rfl, rfl, HS1⟩ := HS.got2 hb ho0 ho1 (fun _ h => h); clear HS ho0 ho1 hb; have HS := HS1; clear HS1) | (go_at_call 24; refine (spec_LedgerOk.calls _ _ _ _ _ _ _ _ _ (Kd.C_below hr0.out HS.below) hc0.out (Kd.C_below hr1.out HS.below) hc1.out hk.out).mono ?_; rintro e w1 ⟨rfl, hb⟩; have HS1 := HS.later hb; clear HS hb; have HS := HS1; clear HS1) | (go_at_call 56; refine (spec_TxOk.calls _ _ _ _ _ _ hx.out).mono ?_; rintro e w1 ⟨rfl, hb⟩; have HS1 := HS.later hb; clear HS hb; have HS := HS1; clear HS1))
    refine bodyPost_ret (results_ct rfl _ _ g4 27 #[.slice Ao0 l0_0.length co0, .slice Ao1 l0_1.length co1] (0, 0) _ rfl (HS.box g4) Try.underlying27 rfl (by kernel_rfl)) rfl ?_
    exact ⟨_, _, rfl, HS.out2 Ao0 Ao1 (by decide), HS.out2 Ao1 Ao0 (by decide), HS.below⟩

open Go.Proofs.YtajblkfgdalldaaH in
set_option maxHeartbeats 4000000 in
set_option maxRecDepth 100000 in
theorem spec_Pay.fine (k k2 : Nat) (ad0 ad1 : Addr) (c0_0 : Nat) (l0_0 : List Int) (c0_1 : Nat) (l0_1 : List Int) (a1_0 a1_1 a1_2 a1_3 : Int) (w : World) (hr0 : Aside0 (Kd.C (Kd.int .i64) w (some ad0) l0_0.length l0_0)) (hc0 : Aside0 (l0_0.length ≤ c0_0)) (hr1 : Aside0 (Kd.C (Kd.int .i64) w (some ad1) l0_1.length l0_1)) (hc1 : Aside0 (l0_1.length ≤ c0_1)) (hcp : Aside0 (spec_l3Copy.f l0_0 l0_1 = some (l0_0, l0_1))) (hk : Aside0 (spec_LedgerOk.f k l0_0 l0_1 = some true)) (hx : Aside0 (spec_TxOk.f a1_0 a1_1 a1_2 a1_3 = some true))
    (hx0 : Aside0 (w.cell? (ad0.add a1_0.toNat) = some (.int .i64 (rd l0_0 a1_0)))) (hx1 : Aside0 (w.cell? (ad1.add a1_0.toNat) = some (.int .i64 (rd l0_1 a1_0)))) (f0 : 0 ≤ a1_0) (f1 : a1_0 < (l0_0.length : Int)) (f2 : a1_0 < (l0_1.length : Int)) (t0 : 0 ≤ a1_1) (t1 : a1_1 < (l0_0.length : Int)) (t1' : a1_1 < ((l0_0.set a1_0.toNat (wrap64 (rd l0_0 a1_0 - a1_2))).length : Int)) (b6 : Bool) (hk2 : Aside0 (spec_LedgerOk.f k2 (mvL l0_0 a1_0 a1_1 a1_2) (l0_1.set a1_0.toNat (wrap64 (a1_3 + 1))) = some b6)) (r1 r2 : List Int) (r3 : Int) (hR : Aside0 (payF b6 l0_0 l0_1 a1_0 a1_1 a1_2 a1_3 = (r1, r2, r3))) :
    Calls Try.prog 34 #[.agg #[.slice (some ad0) l0_0.length c0_0, .slice (some ad1) l0_1.length c0_1], .agg #[.int .i64 a1_0, .int .i64 a1_1, .int .i64 a1_2, .int .i64 a1_3]] w fun e w' => ∃ v0_ v1_ : Value, e = .returned (.tuple #[.agg #[v0_, v1_], .int .i64 (r3)]) ∧ Kd.R (Kd.int .i64) 3 w' w.heap.size (fun k_ => some k_ ≠ (v1_ : Value).ownBlock) v0_ (r1) ∧ Kd.R (Kd.int .i64) 3 w' w.heap.size (fun k_ => some k_ ≠ (v0_ : Value).ownBlock) v1_ (r2) ∧ Below w.heap.size w w' := by
  have HS := SS.nil w
  go_enter Try.func34, Try.ntmps34
  go_upto_region 4 with (first | ((with_reducible refine gate_dst (N := 4) rfl ?_); refine ev_alloc HS rfl rfl ?_; clear HS; intro g4 w1 HS) | ((with_reducible refine gate_dst (N := 6) rfl ?_); refine ev_alloc HS rfl rfl ?_; clear HS; intro g6 w1 HS) | ((with_reducible refine gate_dst (N := 2) rfl ?_); refine ev_box HS (cs := #[.slice (some ad0) l0_0.length c0_0, .slice (some ad1) l0_1.length c0_1]) rfl rfl rfl ?_; clear HS; intro g2 w1 HS) | ((with_reducible refine gate_dst (N := 3) rfl ?_); refine ev_box HS (cs := #[.int .i64 a1_0, .int .i64 a1_1, .int .i64 a1_2, .int .i64 a1_3]) rfl rfl rfl ?_; clear HS; intro g3 w1 HS) | ((with_reducible refine gate_load rfl ?_); first | refine ev_loadC HS rfl rfl rfl (by rfl) ?_ | refine ev_loadS HS rfl rfl rfl (by rfl) ?_) | ((with_reducible refine gate_put rfl ?_); (first | refine ev_storeC HS rfl rfl rfl rfl rfl (by rfl) (by rfl) ?_ | refine ev_storeS HS rfl rfl rfl rfl rfl (by rfl) (by rfl) (by rfl) ?_); clear HS; intro w1 HS) | (go_at_call 65; refine (spec_l3Copy.calls _ _ _ _ _ _ _ _ _ (Kd.C_below hr0.out HS.below) hc0.out (Kd.C_below hr1.out HS.below) hc1.out hcp.out).mono ?_; rintro e w1 ⟨v0, v1, rfl, ho0, ho1, hb⟩; obtain ⟨Ao0, co0, Ao1, co1, rfl, rfl, HS1⟩ := HS.got2 hb ho0 ho1 (fun _ h => h); clear HS ho0 ho1 hb; have HS := HS1; clear HS1) | (go_at_call 24; refine (spec_LedgerOk.calls _ _ _ _ _ _ _ _ _ (Kd.C_below hr0.out HS.below) hc0.out (Kd.C_below hr1.out HS.below) hc1.out hk.out).mono ?_; rintro e w1 ⟨rfl, hb⟩; have HS1 := HS.later hb; clear HS hb; have HS := HS1; clear HS1) | (go_at_call 56; refine (spec_TxOk.calls _ _ _ _ _ _ hx.out).mono ?_; rintro e w1 ⟨rfl, hb⟩; have HS1 := HS.later hb; clear HS hb; have HS := HS1; clear HS1))
  have o1 := (HS.below.cell (World.block_lt_of_cell? w _ hx1.out)).trans hx1.out
  have b2 := fun j => HS.cell g2 j
  have b3 := fun j => HS.cell g3 j
  by_cases c3 : a1_3 < rd l0_1 a1_0
  · have c3b : decide (a1_3 < rd l0_1 a1_0) = true := decide_eq_true c3
    have hp := hR.out; unfold payF at hp; rw [if_pos c3] at hp; simp only [Prod.mk.injEq] at hp; obtain ⟨rfl, rfl, rfl⟩ := hp
    clear c3 hR
    go_quiet (fail)
    rename_i nq
    replace HS := HS.drewN nq
    generalize w1.drewN nq = w1 at HS ⊢
    clear b2 b3 o1
    go_wp2_with (first | ((with_reducible refine gate_load rfl ?_); first | refine ev_loadC HS rfl rfl rfl (by rfl) ?_ | refine ev_loadS HS rfl rfl rfl (by rfl) ?_) | ((with_reducible refine gate_put rfl ?_); (first | refine ev_storeC HS rfl rfl rfl rfl rfl (by rfl) (by rfl) ?_ | refine ev_storeS HS rfl rfl rfl rfl rfl (by rfl) (by rfl) (by rfl) ?_); clear HS; intro w1 HS))
    refine bodyPost_ret (results_ct rfl _ _ g4 27 #[.slice Ao0 l0_0.length co0, .slice Ao1 l0_1.length co1] (0, 0) _ rfl (HS.box g4) Try.underlying27 rfl (by kernel_rfl)) rfl ?_
    exact ⟨_, _, rfl, HS.out2 Ao0 Ao1 (by decide), HS.out2 Ao1 Ao0 (by decide), HS.below⟩
  have c3b : decide (a1_3 < rd l0_1 a1_0) = false := decide_eq_false c3
  go_quiet (fail)
  rename_i nq
  replace HS := HS.drewN nq
  generalize w1.drewN nq = w1 at HS ⊢
  clear b2 b3 o1
  go_upto_region 6 with (fail)
  have o1 := (HS.below.cell (World.block_lt_of_cell? w _ hx1.out)).trans hx1.out
  have b2 := fun j => HS.cell g2 j
  have b3 := fun j => HS.cell g3 j
  by_cases c4 : a1_3 > rd l0_1 a1_0
  · have c4b : decide (rd l0_1 a1_0 < a1_3) = true := decide_eq_true c4
    have hp := hR.out; unfold payF at hp; rw [if_neg c3, if_pos c4] at hp; simp only [Prod.mk.injEq] at hp; obtain ⟨rfl, rfl, rfl⟩ := hp
    clear c3 c4 hR
    go_quiet (fail)
    rename_i nq
    replace HS := HS.drewN nq
    generalize w1.drewN nq = w1 at HS ⊢
    clear b2 b3 o1
    go_wp2_with (first | ((with_reducible refine gate_load rfl ?_); first | refine ev_loadC HS rfl rfl rfl (by rfl) ?_ | refine ev_loadS HS rfl rfl rfl (by rfl) ?_) | ((with_reducible refine gate_put rfl ?_); (first | refine ev_storeC HS rfl rfl rfl rfl rfl (by rfl) (by rfl) ?_ | refine ev_storeS HS rfl rfl rfl rfl rfl (by rfl) (by rfl) (by rfl) ?_); clear HS; intro w1 HS))
    refine bodyPost_ret (results_ct rfl _ _ g4 27 #[.slice Ao0 l0_0.length co0, .slice Ao1 l0_1.length co1] (0, 0) _ rfl (HS.box g4) Try.underlying27 rfl (by kernel_rfl)) rfl ?_
    exact ⟨_, _, rfl, HS.out2 Ao0 Ao1 (by decide), HS.out2 Ao1 Ao0 (by decide), HS.below⟩
  have c4b : decide (rd l0_1 a1_0 < a1_3) = false := decide_eq_false c4
  go_quiet (fail)
  rename_i nq
  replace HS := HS.drewN nq
  generalize w1.drewN nq = w1 at HS ⊢
  clear b2 b3 o1
  obtain ⟨b1, rfl⟩ := HS.form Ao1 (by omega)
  go_upto_region 9 with (first | ((with_reducible refine gate_load rfl ?_); first | refine ev_loadC HS rfl rfl rfl (by rfl) ?_ | refine ev_loadS HS rfl rfl rfl (by rfl) ?_ | refine ev_loadI HS rfl rfl rfl (by assumption) (by assumption) ?_) | ((with_reducible refine gate_put rfl ?_); (first | refine ev_storeC HS rfl rfl rfl rfl rfl (by rfl) (by rfl) ?_ | refine ev_storeS HS rfl rfl rfl rfl rfl (by rfl) (by rfl) (by rfl) ?_ | refine ev_storeI HS rfl rfl rfl rfl rfl (by assumption) (by assumption) ?_); clear HS; intro w1 HS))
  have o1 := (HS.below.cell (World.block_lt_of_cell? w _ hx0.out)).trans hx0.out
  have b2 := fun j => HS.cell g2 j
  have b3 := fun j => HS.cell g3 j
  by_cases c5 : a1_2 > rd l0_0 a1_0
  · have c5b : decide (rd l0_0 a1_0 < a1_2) = true := decide_eq_true c5
    have hp := hR.out; unfold payF at hp; rw [if_neg c3, if_neg c4, if_pos c5] at hp; simp only [Prod.mk.injEq] at hp; obtain ⟨rfl, rfl, rfl⟩ := hp
    clear c3 c4 c5 hR
    go_quiet (fail)
    rename_i nq
    replace HS := HS.drewN nq
    generalize w1.drewN nq = w1 at HS ⊢
    clear b2 b3 o1
    go_wp2_with (first | ((with_reducible refine gate_load rfl ?_); first | refine ev_loadC HS rfl rfl rfl (by rfl) ?_ | refine ev_loadS HS rfl rfl rfl (by rfl) ?_) | ((with_reducible refine gate_put rfl ?_); (first | refine ev_storeC HS rfl rfl rfl rfl rfl (by rfl) (by rfl) ?_ | refine ev_storeS HS rfl rfl rfl rfl rfl (by rfl) (by rfl) (by rfl) ?_); clear HS; intro w1 HS))
    refine bodyPost_ret (results_ct rfl _ _ g4 27 #[.slice Ao0 l0_0.length co0, .slice (some ⟨b1, 0, none⟩) l0_1.length co1] (0, 0) _ rfl (HS.box g4) Try.underlying27 rfl (by kernel_rfl)) rfl ?_
    exact ⟨_, _, rfl, HS.out2 Ao0 (some ⟨b1, 0, none⟩) (by decide), HS.out2 (some ⟨b1, 0, none⟩) Ao0 (by decide), HS.below⟩
  have c5b : decide (rd l0_0 a1_0 < a1_2) = false := decide_eq_false c5
  go_quiet (fail)
  rename_i nq
  replace HS := HS.drewN nq
  generalize w1.drewN nq = w1 at HS ⊢
  clear b2 b3 o1
  obtain ⟨b0, rfl⟩ := HS.form Ao0 (by omega)
  go_upto_region 11 with (fail)
  have r0 := HS.cellI b0 a1_0 f0 f1
  have b3 := fun j => HS.cell g3 j
  have b6 := fun j => HS.cell g6 j
  go_still_tail 14, (by kernel_rfl)
  clear r0 b3 b6
  replace HS := HS.drew
  change wpList _ _ _ _ _ w1.drew
  generalize w1.drew = w1 at HS ⊢
  go_upto_region 12 with ((with_reducible refine gate_put rfl ?_); (first | refine ev_storeC HS rfl rfl rfl rfl rfl (by rfl) (by rfl) ?_ | refine ev_storeS HS rfl rfl rfl rfl rfl (by rfl) (by rfl) (by rfl) ?_ | refine ev_storeI HS rfl rfl rfl rfl rfl (by assumption) (by assumption) ?_); clear HS; intro w1 HS)
  try rw [wrapEq] at HS
  go_upto_region 12 with (fail)
  have r0 := HS.cellI b0 a1_1 t0 t1'
  have b3 := fun j => HS.cell g3 j
  have b6 := fun j => HS.cell g6 j
  go_still_tail 14, (by kernel_rfl)
  clear r0 b3 b6
  replace HS := HS.drew
  change wpList _ _ _ _ _ w1.drew
  generalize w1.drew = w1 at HS ⊢
  go_upto_region 13 with ((with_reducible refine gate_put rfl ?_); (first | refine ev_storeC HS rfl rfl rfl rfl rfl (by rfl) (by rfl) ?_ | refine ev_storeS HS rfl rfl rfl rfl rfl (by rfl) (by rfl) (by rfl) ?_ | refine ev_storeI HS rfl rfl rfl rfl rfl (by assumption) (by assumption) ?_); clear HS; intro w1 HS)
  try rw [wrapEq] at HS
  rcases b6 with _ | _
  · have hp := hR.out; unfold payF at hp; rw [if_neg c3, if_neg c4, if_neg c5] at hp; rw [if_neg (by decide)] at hp; simp only [Prod.mk.injEq] at hp; obtain ⟨rfl, rfl, rfl⟩ := hp
    clear c3 c4 c5 hR
    go_wp2_with (first | ((with_reducible refine gate_load rfl ?_); first | refine ev_loadC HS rfl rfl rfl (by rfl) ?_ | refine ev_loadS HS rfl rfl rfl (by rfl) ?_) | ((with_reducible refine gate_put rfl ?_); (first | refine ev_storeC HS rfl rfl rfl rfl rfl (by rfl) (by rfl) ?_ | refine ev_storeS HS rfl rfl rfl rfl rfl (by rfl) (by rfl) (by rfl) ?_); clear HS; intro w1 HS) | (go_at_call 65; refine (spec_l3Copy.calls _ _ _ _ _ _ _ _ _ (Kd.C_below hr0.out HS.below) hc0.out (Kd.C_below hr1.out HS.below) hc1.out hcp.out).mono ?_; rintro e w1 ⟨v0, v1, rfl, ho0, ho1, hb⟩; obtain ⟨Aq0, cq0, Aq1, cq1, rfl, rfl, HS1⟩ := HS.got2 hb ho0 ho1 (fun _ h => h); clear HS ho0 ho1 hb; have HS := HS1; clear HS1) | (go_at_call 24; refine (spec_Pay.lok _ _ _ (mvL l0_0 a1_0 a1_1 a1_2) _ _ _ (l0_1.set a1_0.toNat (wrap64 (a1_3 + 1))) _ _ _ (mvL_len _ _ _ _) (List.length_set ..).symm (HS.reads (some ⟨b0, 0, none⟩)) (HS.cap (some ⟨b0, 0, none⟩)) (HS.reads (some ⟨b1, 0, none⟩)) (HS.cap (some ⟨b1, 0, none⟩)) hk2.out).mono ?_; rintro e w1 ⟨rfl, hb⟩; have HS1 := HS.later hb; clear HS hb; have HS := HS1; clear HS1))
    refine bodyPost_ret (results_ct rfl _ _ g4 27 #[.slice Aq0 l0_0.length cq0, .slice Aq1 l0_1.length cq1] (0, 0) _ rfl (HS.box g4) Try.underlying27 rfl (by kernel_rfl)) rfl ?_
    exact ⟨_, _, rfl, HS.out2 Aq0 Aq1 (by decide), HS.out2 Aq1 Aq0 (by decide), HS.below⟩
  · have hp := hR.out; unfold payF at hp; rw [if_neg c3, if_neg c4, if_neg c5] at hp; rw [if_pos rfl] at hp; simp only [Prod.mk.injEq] at hp; obtain ⟨rfl, rfl, rfl⟩ := hp
    clear c3 c4 c5 hR
    go_wp2_with (first | ((with_reducible refine gate_load rfl ?_); first | refine ev_loadC HS rfl rfl rfl (by rfl) ?_ | refine ev_loadS HS rfl rfl rfl (by rfl) ?_) | ((with_reducible refine gate_put rfl ?_); (first | refine ev_storeC HS rfl rfl rfl rfl rfl (by rfl) (by rfl) ?_ | refine ev_storeS HS rfl rfl rfl rfl rfl (by rfl) (by rfl) (by rfl) ?_); clear HS; intro w1 HS) | (go_at_call 24; refine (spec_Pay.lok _ _ _ (mvL l0_0 a1_0 a1_1 a1_2) _ _ _ (l0_1.set a1_0.toNat (wrap64 (a1_3 + 1))) _ _ _ (mvL_len _ _ _ _) (List.length_set ..).symm (HS.reads (some ⟨b0, 0, none⟩)) (HS.cap (some ⟨b0, 0, none⟩)) (HS.reads (some ⟨b1, 0, none⟩)) (HS.cap (some ⟨b1, 0, none⟩)) hk2.out).mono ?_; rintro e w1 ⟨rfl, hb⟩; have HS1 := HS.later hb; clear HS hb; have HS := HS1; clear HS1))
    refine bodyPost_ret (results_ct rfl _ _ g4 27 #[.slice (some ⟨b0, 0, none⟩) l0_0.length co0, .slice (some ⟨b1, 0, none⟩) l0_1.length co1] (0, 0) _ rfl (HS.box g4) Try.underlying27 rfl (by kernel_rfl)) rfl ?_
    exact ⟨_, _, rfl, HS.out2 (some ⟨b0, 0, none⟩) (some ⟨b1, 0, none⟩) (by decide), HS.out2 (some ⟨b1, 0, none⟩) (some ⟨b0, 0, none⟩) (by decide), HS.below⟩
/-- Pay: what it comes to (rounds of its own it has none). -/
def spec_Pay.f (k : Nat) (l0_0 l0_1 : List Int) (a1_0 a1_1 a1_2 a1_3 : Int) : Option (List Int × List Int × Int) := if l0_0.length ≤ 1048576 ∧ l0_1.length ≤ 1048576 then some (payL l0_0 l0_1 a1_0 a1_1 a1_2 a1_3) else none
theorem spec_Pay.mono : ∀ a0 a1 a2 a3 a4 a5 k, LeO (spec_Pay.f k a0 a1 a2 a3 a4 a5) (spec_Pay.f (k + 1) a0 a1 a2 a3 a4 a5) := fun _ _ _ _ _ _ _ => LeO.refl _
theorem spec_Pay.calls (k : Nat) (A0_0 : Option Addr) (c0_0 : Nat) (l0_0 : List Int) (A0_1 : Option Addr) (c0_1 : Nat) (l0_1 : List Int) (a1_0 a1_1 a1_2 a1_3 : Int) (r1 r2 : List Int) (r3 : Int) (w : World) (hr0_0 : Kd.C (Kd.int .i64) w A0_0 l0_0.length l0_0) (hc0_0 : l0_0.length ≤ c0_0) (hr0_1 : Kd.C (Kd.int .i64) w A0_1 l0_1.length l0_1) (hc0_1 : l0_1.length ≤ c0_1) (h : spec_Pay.f k l0_0 l0_1 a1_0 a1_1 a1_2 a1_3 = some (r1, r2, r3)) :
    Calls Try.prog 34 #[.agg #[.slice A0_0 l0_0.length c0_0, .slice A0_1 l0_1.length c0_1], .agg #[.int .i64 a1_0, .int .i64 a1_1, .int .i64 a1_2, .int .i64 a1_3]] w fun e w' => ∃ v0_ v1_ : Value, e = .returned (.tuple #[.agg #[v0_, v1_], .int .i64 (r3)]) ∧ Kd.R (Kd.int .i64) 3 w' w.heap.size (fun k_ => some k_ ≠ (v1_ : Value).ownBlock) v0_ (r1) ∧ Kd.R (Kd.int .i64) 3 w' w.heap.size (fun k_ => some k_ ≠ (v0_ : Value).ownBlock) v1_ (r2) ∧ Below w.heap.size w w' := by
  unfold spec_Pay.f at h
  by_cases hb : l0_0.length ≤ 1048576 ∧ l0_1.length ≤ 1048576
  · rw [if_pos hb] at h
    replace h := Option.some.inj h
    obtain ⟨hz0, hz1⟩ := hb
    have hcp := Aside0.mk (spec_l3Copy_val l0_0 l0_1 hz0 hz1)
    obtain ⟨k1, hk⟩ := (spec_LedgerOk_ev l0_0 l0_1).rounds
    have hx := spec_TxOk_val a1_0 a1_1 a1_2 a1_3
    by_cases c1 : ledgerIs l0_0 l0_1 ∧ txIs a1_0 a1_1 a1_2 a1_3
    · obtain ⟨c1, c2⟩ := c1
      rw [decide_eq_true c1] at hk
      rw [decide_eq_true c2] at hx
      have l1 : l0_0.length = 4 := c1.1.1
      have l2 : l0_1.length = 4 := c1.1.2
      have f0 : 0 ≤ a1_0 := c2.1.1
      have f3 : a1_0 ≤ 3 := c2.1.2
      have t0 : 0 ≤ a1_1 := c2.2.1.1
      have t3 : a1_1 ≤ 3 := c2.2.1.2
      obtain ⟨k2, hk2⟩ := (spec_LedgerOk_ev (mvL l0_0 a1_0 a1_1 a1_2) (l0_1.set a1_0.toNat (wrap64 (a1_3 + 1)))).rounds
      obtain ⟨ad0, rfl, hx0⟩ := Kd.at_int hr0_0 a1_0 f0 (by omega)
      obtain ⟨ad1, rfl, hx1⟩ := Kd.at_int hr0_1 a1_0 f0 (by omega)
      have e : payF (decide (ledgerIs (mvL l0_0 a1_0 a1_1 a1_2) (l0_1.set a1_0.toNat (wrap64 (a1_3 + 1))))) l0_0 l0_1 a1_0 a1_1 a1_2 a1_3 = (r1, r2, r3) := by
        rw [← h]
        unfold payL
        rw [if_neg (fun z => z ⟨c1, c2⟩)]
        unfold payF
        by_cases c6 : ledgerIs (mvL l0_0 a1_0 a1_1 a1_2) (l0_1.set a1_0.toNat (wrap64 (a1_3 + 1))) <;> simp only [c6, decide_true, decide_false, if_true, if_false, Bool.false_eq_true]
      exact spec_Pay.fine k1 k2 ad0 ad1 c0_0 l0_0 c0_1 l0_1 a1_0 a1_1 a1_2 a1_3 w ⟨hr0_0⟩ ⟨hc0_0⟩ ⟨hr0_1⟩ ⟨hc0_1⟩ hcp ⟨hk⟩ ⟨hx⟩ ⟨hx0⟩ ⟨hx1⟩ f0 (by omega) (by omega) t0 (by omega) (by rw [List.length_set]; omega) _ ⟨hk2⟩ r1 r2 r3 ⟨e⟩
    · have hp : payL l0_0 l0_1 a1_0 a1_1 a1_2 a1_3 = (l0_0, l0_1, 1) := by unfold payL; rw [if_pos c1]
      rw [hp] at h
      simp only [Prod.mk.injEq] at h
      obtain ⟨rfl, rfl, rfl⟩ := h
      exact spec_Pay.bad k1 A0_0 c0_0 l0_0 A0_1 c0_1 l0_1 a1_0 a1_1 a1_2 a1_3 _ _ w ⟨hr0_0⟩ ⟨hc0_0⟩ ⟨hr0_1⟩ ⟨hc0_1⟩ hcp ⟨hk⟩ ⟨hx⟩ (by rw [Bool.and_eq_false_iff, decide_eq_false_iff_not, decide_eq_false_iff_not]; exact Classical.or_iff_not_imp_left.2 (fun c3 c4 => c1 ⟨Classical.not_not.1 c3, c4⟩))
  · rw [if_neg hb] at h
    cases h

/-! ### spec_PoolDrop: function 41 -/
def spec_PoolDrop.l0 : Nat → List (S45) → List (S45) → Int → List Int → List Int → Option ((List (S45)))
  | 0, _, _, _, _, _ => none
  | k + 1, x0, x5, x6, x172000, x172001 => if x6 < (x0.length : Int) then (if 0 ≤ x6 then ((spec_Pay.f k x172000 x172001 ((rd_T45 x0 x6).f0) ((rd_T45 x0 x6).f1) ((rd_T45 x0 x6).f2) ((rd_T45 x0 x6).f3)).bind fun bt176 => (if bt176.2.2 = 2 then (spec_PoolDrop.l0 k x0 x5 (wrap64 (x6 + 1)) x172000 x172001) else (if x5.length < 4398046511104 then (spec_PoolDrop.l0 k x0 (x5 ++ [(⟨(rd_T45 x0 x6).f0, (rd_T45 x0 x6).f1, (rd_T45 x0 x6).f2, (rd_T45 x0 x6).f3⟩ : S45)]) (wrap64 (x6 + 1)) x172000 x172001) else (none)))) else (none)) else (some x5)
def spec_PoolDrop.f (k : Nat) (l0 : List (S45)) (l1_0 : List Int) (l1_1 : List Int) : Option ((List (S45))) := spec_PoolDrop.l0 k l0 (([] : List (S45))) 0 l1_0 l1_1
theorem spec_PoolDrop.mono_l : ∀ k, (∀ y0 y1 y2 y3 y4, LeO (spec_PoolDrop.l0 k y0 y1 y2 y3 y4) (spec_PoolDrop.l0 (k + 1) y0 y1 y2 y3 y4))
  | 0 => fun _ _ _ _ _ r h => by simp [spec_PoolDrop.l0] at h
  | k + 1 => by
    have ih0 := spec_PoolDrop.mono_l k
    · intro y0 y1 y2 y3 y4
      unfold spec_PoolDrop.l0
      repeat' first
      | (with_reducible exact ih0 _ _ _ _ _)
      | (with_reducible exact spec_Pay.mono _ _ _ _ _ _ _)
      | (with_reducible exact LeO.refl _)
      | (with_reducible exact LeO.none _)
      | (with_reducible refine LeO.ite ?_ ?_)
      | (with_reducible refine LeO.bind ?_ (fun _ => ?_))
      | exact ih0 _ _ _ _ _
      | exact spec_Pay.mono _ _ _ _ _ _ _
      | exact LeO.none _
      | refine LeO.ite ?_ ?_
      | refine LeO.bind ?_ (fun _ => ?_)
theorem spec_PoolDrop.mono : ∀ a0 a1 a2 k, LeO (spec_PoolDrop.f k a0 a1 a2) (spec_PoolDrop.f (k + 1) a0 a1 a2) := by
  intro a0 a1 a2 k
  have ih0 := spec_PoolDrop.mono_l k
  unfold spec_PoolDrop.f
  repeat' first
      | (with_reducible exact ih0 _ _ _ _ _)
      | (with_reducible exact spec_Pay.mono _ _ _ _ _ _ _)
      | (with_reducible exact LeO.refl _)
      | (with_reducible exact LeO.none _)
      | (with_reducible refine LeO.ite ?_ ?_)
      | (with_reducible refine LeO.bind ?_ (fun _ => ?_))
      | exact ih0 _ _ _ _ _
      | exact spec_Pay.mono _ _ _ _ _ _ _
      | exact LeO.none _
      | refine LeO.ite ?_ ?_
      | refine LeO.bind ?_ (fun _ => ?_)
def spec_PoolDrop.T5 : Bool × List (List Nat × List Nat) := (true, [([], []), ([], []), ([], []), ([1, 2], [1, 2]), ([3], [3]), ([0, 4], [0, 4]), ([5], [5]), ([6], [6]), ([6], [6]), ([], []), ([9, 7, 5, 0, 1, 2, 3, 4, 5, 6, 7, 9], [7, 9]), ([8, 10, 0, 1, 2, 3, 4, 5, 6, 7, 8, 9, 10], [8])])
def spec_PoolDrop.B5 : List Nat := [0, 0, 0, 6, 14, 31, 63, 127, 127, 0, 767, 2047]
theorem spec_PoolDrop.tab5 : rtab .any (opsOf Try.f41 5) = spec_PoolDrop.T5 := by kernel_rfl
theorem spec_PoolDrop.bits5 : waitsOk spec_PoolDrop.T5.2 spec_PoolDrop.B5 = true := by kernel_rfl
set_option maxHeartbeats 8000000 in
set_option maxRecDepth 100000 in
theorem spec_PoolDrop.calls (k : Nat) (A0 : Option Addr) (c0 : Nat) (l0 : List (S45)) (A1_0 : Option Addr) (c1_0 : Nat) (l1_0 : List Int) (A1_1 : Option Addr) (c1_1 : Nat) (l1_1 : List Int) (r : List (S45)) (w : World) (hr0 : Kd.C k45 w A0 l0.length l0) (hc0 : l0.length ≤ c0) (hr1_0 : Kd.C (Kd.int .i64) w A1_0 l1_0.length l1_0) (hc1_0 : l1_0.length ≤ c1_0) (hr1_1 : Kd.C (Kd.int .i64) w A1_1 l1_1.length l1_1) (hc1_1 : l1_1.length ≤ c1_1) (h : spec_PoolDrop.f k l0 l1_0 l1_1 = some r) :
    Calls Try.prog 41 #[.slice A0 l0.length c0, .agg #[.slice A1_0 l1_0.length c1_0, .slice A1_1 l1_1.length c1_1]] w fun e w' => ∃ v0_ : Value, e = .returned (v0_) ∧ Kd.R k45 45 w' w.heap.size (fun _ => True) v0_ r ∧ Below w.heap.size w w' := by
  have hu27 := Try.underlying27
  have hu45 := Try.underlying45
  have HR0 := Aside0.mk hr0
  have HC0 := Aside0.mk hc0
  clear hr0 hc0
  have HR1_0 := Aside0.mk hr1_0
  have HC1_0 := Aside0.mk hc1_0
  clear hr1_0 hc1_0
  have HR1_1 := Aside0.mk hr1_1
  have HC1_1 := Aside0.mk hc1_1
  clear hr1_1 hc1_1
  have HB := Aside0.mk (Below.refl w.heap.size w)
  have H : (spec_PoolDrop.l0 k l0 (([] : List (S45))) 0 l1_0 l1_1) = some r := h
  clear h
  obtain ⟨y172, hy172⟩ : ∃ y_ : List (S45), y_ = (([] : List (S45))) := ⟨_, rfl⟩
  replace H : (spec_PoolDrop.l0 k l0 y172 0 l1_0 l1_1) = some r := by first | (rw [hy172]; with_reducible exact H) | (have H2_ := (Option.bind_some _ _).symm.trans H; rw [hy172]; with_reducible exact H2_) | (have H2_ := (Option.bind_some _ _).symm.trans H; with_reducible exact H2_) | with_reducible exact H | (rw [hy172]; exact H) | exact H
  have Ny172 := Aside0.mk hy172
  clear hy172
  have H' := Aside0.mk H
  clear H
  go_enter Try.func41, Try.ntmps41
  go_wp2_with (first | ((with_reducible refine gate_dst (N := 3) rfl ?_); refine box_event ?hg (N := 3) ?hd (cs := #[.slice A1_0 l1_0.length c1_0, .slice A1_1 l1_1.length c1_1]) (t := 27) ?hr ?_; (case hd => rfl); (case hg => rfl); (case hr => first | (go_simp; done) | (go_simp; rfl)); intro gb171 hg w3 hbox hb; have n0_ := Aside0.mk (below_step (by repeat (first | (with_reducible first | exact HB.out | apply below_alloc | apply pw_below_drewN | apply below_drew1) | exact HB.out)) hb); have n1_ := Aside0.mk (hbox); have n2_ := Aside0.mk ((by rw [hg]; exact (below_size (by repeat (first | (with_reducible first | exact HB.out | apply below_alloc | apply pw_below_drewN | apply below_drew1) | exact HB.out))) : w.heap.size ≤ gb171)); have n3_ := Aside0.mk ((by rw [hg]; exact (below_size (by repeat (first | (with_reducible first | exact HB.out | apply below_alloc | apply pw_below_drewN | apply below_drew1) | exact HB.out))) : w.heap.size ≤ gb171)); clear HB; have HB := n0_; have BK171 := n1_; have GW171 := n2_; have GE171 := n3_; clear n0_ n1_ n2_ n3_; clear hb hbox hg) | ((with_reducible refine gate_dst (N := 9) rfl ?_); refine Kd.R_lit k45 _ 45 ?hg (N := 9) ?hd (xs := ([] : List (S45))) (inner := []) (ok := fun _ => True) (okp := fun _ => True) ?hr ?hp (fun _ hk => hk) trivial (Below.refl _ _) (Nat.le_refl _) (by simp) ?_; (case hd => rfl); (case hg => rfl); (case hr => first | (go_simp; done) | (go_simp; rfl)); (case hp => exact (Reps.none _ _)); intro v173 w4 ho5 hb hg_ hnew_; clear hg_ hnew_; (first | rw [← Ny172.out] at ho5 | (simp only [Int.reduceToNat] at ho5; rw [← Ny172.out] at ho5)); have n0_ := Aside0.mk (Kd.R_lower ho5 (below_size (by repeat (first | (with_reducible first | exact HB.out | apply below_alloc | apply pw_below_drewN | apply below_drew1 | refine below_set ?_ GE171.out) | exact HB.out)))); have n1_ := Aside0.mk (blk_below (g := gb171) (o := .cells #[.slice A1_0 l1_0.length c1_0, .slice A1_1 l1_1.length c1_1] 27 (0, 0)) (by (with_reducible repeat (first | refine blk_drewN ?_ _ | refine blk_drew ?_ | refine blk_alloc ?_ _)); exact BK171.out) hb); have n2_ := Aside0.mk (below_step (by repeat (first | (with_reducible first | exact HB.out | apply below_alloc | apply pw_below_drewN | apply below_drew1 | refine below_set ?_ GE171.out) | exact HB.out)) hb); clear BK171; clear HB; have HO174 := n0_; have BK171 := n1_; have HB := n2_; clear n0_ n1_ n2_; clear hb ho5))
  go_loopg [5, 6] k (fun kq v5 v6 w' => ∃ (x5_1 : List (S45)) (x6_1 : Int), v6 = .int .i64 x6_1 ∧ Aside0 (spec_PoolDrop.l0 kq l0 x5_1 x6_1 l1_0 l1_1 = some r) ∧ Aside0 (kq ≤ k) ∧ Aside0 (Kd.R k45 45 w' w.heap.size (fun _ => True) v5 x5_1) ∧ Aside0 (w'.heap[gb171]? = some (.cells #[(.slice A1_0 l1_0.length c1_0), (.slice A1_1 l1_1.length c1_1)] 27 (0, 0))) ∧ Aside0 (Below w.heap.size w w'))
  case atStart => exact ⟨(y172), (0), (by first | rfl | (simp; done) | (simp [*]; done)), H', ⟨Nat.le_refl _⟩, ⟨by (with_reducible repeat (first | apply Kd.R_alloc | apply Kd.R_drewN | apply Kd.R_drew)); exact HO174.out⟩, ⟨by (with_reducible repeat (first | refine blk_drewN ?_ _ | refine blk_drew ?_ | refine blk_alloc ?_ _)); exact BK171.out⟩, ⟨by repeat (first | (with_reducible first | exact HB.out | apply below_alloc | apply pw_below_drewN | apply below_drew1 | refine below_set ?_ GE171.out) | exact HB.out)⟩⟩
  case round =>
    clear H'
    try clear c1
    try clear p2
    try clear c4
    obtain ⟨x5_1, x6_1, rfl, HA, HK1, HO_5, BK171, HB⟩ := hrel
    cases gk with
    | zero => exact absurd HA.out (by simp [spec_PoolDrop.l0])
    | succ k1 =>
      have H := HA.out
      clear HA
      simp only [spec_PoolDrop.l0] at H
      have HF := Aside0.mk H
      clear H
      go_upto_if 13 with (fail)
      have H := HF.out
      clear HF
      by_cases c6 : x6_1 < (l0.length : Int)
      · rw [if_pos c6] at H
        have c6b0 : decide (x6_1 < (l0.length : Int)) = true := decide_eq_true c6
        clear c6
        (first | rw [c6b0] | (simp only [i64_w, i32_w]; rw [c6b0]) | skip)
        by_cases c7 : 0 ≤ x6_1
        · rw [if_pos c7] at H
          have c7b0 : decide (0 ≤ x6_1) = true := decide_eq_true c7
          clear c7
          replace H := Option.bind_eq_some_iff.mp H
          obtain ⟨⟨t176, t179, t182⟩, A80, H⟩ := H
          replace H : (if t182 = 2 then (spec_PoolDrop.l0 k1 l0 x5_1 (wrap64 (x6_1 + 1)) l1_0 l1_1) else (if x5_1.length < 4398046511104 then (spec_PoolDrop.l0 k1 l0 (x5_1 ++ [(⟨(rd_T45 l0 x6_1).f0, (rd_T45 l0 x6_1).f1, (rd_T45 l0 x6_1).f2, (rd_T45 l0 x6_1).f3⟩ : S45)]) (wrap64 (x6_1 + 1)) l1_0 l1_1) else (none))) = some r := H
          have A8 := Aside0.mk A80
          clear A80
          have HF := Aside0.mk H
          clear H
          try go_wp2
          have n0_ := Aside0.mk (Kd.R_drew HO_5.out)
          have n1_ := Aside0.mk (blk_drew BK171.out)
          have n2_ := Aside0.mk (below_drew1 HB.out)
          clear HO_5
          clear BK171
          clear HB
          have HO_5 := n0_
          have BK171 := n1_
          have HB := n2_
          clear n0_ n1_ n2_
          have p175 : 0 ≤ (x6_1 : Int) := of_decide_eq_true (by first | (with_reducible assumption) | assumption)
          have q175 : x6_1 < (l0.length : Int) := of_decide_eq_true (by first | (with_reducible assumption) | assumption)
          obtain ⟨ad175, e175, hx175_0, hx175_1, hx175_2, hx175_3⟩ := at_T45 HR0.out x6_1 p175 q175
          have hw175_3 := hx175_3
          have hw175_2 := hx175_2
          have hw175_1 := hx175_1
          have hw175_0 := hx175_0
          cases e175
          replace hx175_0 := (HB.out.cell (World.block_lt_of_cell? w _ hx175_0)).trans hx175_0
          replace hx175_1 := (HB.out.cell (World.block_lt_of_cell? w _ hx175_1)).trans hx175_1
          replace hx175_2 := (HB.out.cell (World.block_lt_of_cell? w _ hx175_2)).trans hx175_2
          replace hx175_3 := (HB.out.cell (World.block_lt_of_cell? w _ hx175_3)).trans hx175_3
          replace p175 := eq_true p175
          replace q175 := eq_true q175
          refine start_ (n := 12) (S := fun w' => w'.cell? ⟨gb171, 0, none⟩ = some (.slice A1_0 l1_0.length c1_0) ∧ w'.cell? ⟨gb171, 1, none⟩ = some (.slice A1_1 l1_1.length c1_1) ∧ w'.cell? (ad175.add ((x6_1).toNat * 4)) = some (.int .i64 ((rd_T45 l0 x6_1).f0)) ∧ w'.cell? ⟨(ad175.add ((x6_1).toNat * 4)).block, (ad175.add ((x6_1).toNat * 4)).off + 1, none⟩ = some (.int .i64 ((rd_T45 l0 x6_1).f1)) ∧ w'.cell? ⟨(ad175.add ((x6_1).toNat * 4)).block, (ad175.add ((x6_1).toNat * 4)).off + 2, none⟩ = some (.int .i64 ((rd_T45 l0 x6_1).f2)) ∧ w'.cell? ⟨(ad175.add ((x6_1).toNat * 4)).block, (ad175.add ((x6_1).toNat * 4)).off + 3, none⟩ = some (.int .i64 ((rd_T45 l0 x6_1).f3))) (ds := []) #[false, false, false, false, false, false, false, false, false, false, false, false] (by kernel_rfl) rfl rfl ⟨(blk_cell BK171.out 0).trans rfl, (blk_cell BK171.out 1).trans rfl, ((HB.out.cell (World.block_lt_of_cell? w _ hw175_0)).trans hw175_0), ((HB.out.cell (World.block_lt_of_cell? w _ hw175_1)).trans hw175_1), ((HB.out.cell (World.block_lt_of_cell? w _ hw175_2)).trans hw175_2), ((HB.out.cell (World.block_lt_of_cell? w _ hw175_3)).trans hw175_3)⟩ (fun hHeld => ?_); refine with_tabW spec_PoolDrop.tab5 spec_PoolDrop.bits5 (fun HT_ HW_ => ?_)
          generalize wr.drew = w9 at HO_5 BK171 HB hx175_0 hx175_1 hx175_2 hx175_3 hHeld ⊢
          refine pure_ (i := 1) (N := some 18) (v := ?_) (a' := ?_) #[false, true, false, false, false, false, false, false, false, false, false, false] rfl rfl (any_of HT_.out (by kernel_rfl)) (fun _ _ _ h => h) (Or.inl ⟨by rfl, ?_⟩) ?_ ?_
          rotate_left
          · intro w'
            go_simp
            with_reducible rfl
          rotate_left
          · simp only [Act.put, List.setIfInBounds_toArray, List.set_cons_zero, List.set_cons_succ, i64_w, i32_w]
            rfl
          refine pure_ (i := 2) (N := some 19) (v := ?_) (a' := ?_) #[false, true, true, false, false, false, false, false, false, false, false, false] rfl rfl (any_of HT_.out (by kernel_rfl)) (fun _ _ _ h => h) (Or.inl ⟨by rfl, ?_⟩) ?_ ?_
          rotate_left
          · intro w'
            go_simp
            with_reducible rfl
          rotate_left
          · simp only [Act.put, List.setIfInBounds_toArray, List.set_cons_zero, List.set_cons_succ, i64_w, i32_w]
            rfl
          refine pure_ (i := 3) (N := some 20) (v := ?_) (a' := ?_) #[false, true, true, true, false, false, false, false, false, false, false, false] rfl rfl (any_of HT_.out (by kernel_rfl)) (fun _ _ _ h => h) (Or.inl ⟨by rfl, ?_⟩) ?_ ?_
          rotate_left
          · intro w'
            go_simp
            with_reducible rfl
          rotate_left
          · simp only [Act.put, List.setIfInBounds_toArray, List.set_cons_zero, List.set_cons_succ, i64_w, i32_w]
            rfl
          refine take_ (i := 0) (N := some 17) (v := ?_) (a' := ?_) #[true, true, true, true, false, false, false, false, false, false, false, false] rfl rfl (take_ofW HT_.out HW_.out (by kernel_rfl)) (fun _ _ _ h => h) (Or.inl ⟨by rfl, ?_⟩) hHeld ?_ ?_
          rotate_left
          · rintro w' ⟨s0, s1, s2, s3, s4, s5⟩
            go_simp
            with_reducible rfl
          rotate_left
          · simp only [Act.put, List.setIfInBounds_toArray, List.set_cons_zero, List.set_cons_succ, i64_w, i32_w]
            rfl
          refine take_ (i := 4) (N := some 21) (v := ?_) (a' := ?_) #[true, true, true, true, true, false, false, false, false, false, false, false] rfl rfl (take_ofW HT_.out HW_.out (by kernel_rfl)) (fun _ _ _ h => h) (Or.inl ⟨by rfl, ?_⟩) hHeld ?_ ?_
          rotate_left
          · rintro w' ⟨s0, s1, s2, s3, s4, s5⟩
            go_simp
            with_reducible rfl
          rotate_left
          · simp only [Act.put, List.setIfInBounds_toArray, List.set_cons_zero, List.set_cons_succ, i64_w, i32_w]
            rfl
          refine join_ (σ := Value × Value × Nat) 2 #[true, true, true, true, true, true, true, true, true, true, false, false] (fun s_ => [(22, .tuple #[.agg #[s_.1, s_.2.1], .int .i64 t182]), (7, .pointer (some ⟨s_.2.2, 0, none⟩)), (16, .tuple #[.agg #[s_.1, s_.2.1], .int .i64 t182]), (23, .agg #[s_.1, s_.2.1]), (24, .int .i64 t182)]) (fun s_ w' => (w'.cell? ⟨gb171, 0, none⟩ = some (.slice A1_0 l1_0.length c1_0) ∧ w'.cell? ⟨gb171, 1, none⟩ = some (.slice A1_1 l1_1.length c1_1) ∧ w'.cell? (ad175.add ((x6_1).toNat * 4)) = some (.int .i64 ((rd_T45 l0 x6_1).f0)) ∧ w'.cell? ⟨(ad175.add ((x6_1).toNat * 4)).block, (ad175.add ((x6_1).toNat * 4)).off + 1, none⟩ = some (.int .i64 ((rd_T45 l0 x6_1).f1)) ∧ w'.cell? ⟨(ad175.add ((x6_1).toNat * 4)).block, (ad175.add ((x6_1).toNat * 4)).off + 2, none⟩ = some (.int .i64 ((rd_T45 l0 x6_1).f2)) ∧ w'.cell? ⟨(ad175.add ((x6_1).toNat * 4)).block, (ad175.add ((x6_1).toNat * 4)).off + 3, none⟩ = some (.int .i64 ((rd_T45 l0 x6_1).f3))) ∧ (Kd.R (Kd.int .i64) 3 w' w.heap.size (fun k_ => some k_ ≠ (s_.2.1 : Value).ownBlock) s_.1 t176) ∧ (Kd.R (Kd.int .i64) 3 w' w.heap.size (fun k_ => some k_ ≠ (s_.1 : Value).ownBlock) s_.2.1 t179) ∧ (Kd.R k45 45 w' w.heap.size (fun _ => True) u5 x5_1) ∧ (w'.heap[gb171]? = some (.cells #[.slice A1_0 l1_0.length c1_0, .slice A1_1 l1_1.length c1_1] 27 (0, 0))) ∧ (w'.heap[s_.2.2]? = some (.cells #[.slice none 0 0, .slice none 0 0] 27 (0, 0))) ∧ (w.heap.size ≤ s_.2.2) ∧ (w.heap.size ≤ s_.2.2) ∧ (gb171 ≠ s_.2.2) ∧ (s_.2.2 ≠ gb171) ∧ (Below w.heap.size w w')) ?_ ?_
          rotate_left
          · intro hCont
            refine two_ (i := 5) (j := 9) (Ni := some 22) (Nj := some 7) #[true, true, true, true, true, true, false, false, false, false, false, false] #[true, true, true, true, true, false, false, false, false, true, false, false] rfl rfl rfl rfl (two_of HT_.out (by kernel_rfl)) (by decide) (by decide) (fun K hK => ?_) (fun K hK => ?_)
            · skip
              refine goes_ Try.func34 (by kernel_rfl) rfl #[.agg #[.slice A1_0 l1_0.length c1_0, .slice A1_1 l1_1.length c1_1], .agg #[.int .i64 ((rd_T45 l0 x6_1).f0), .int .i64 ((rd_T45 l0 x6_1).f1), .int .i64 ((rd_T45 l0 x6_1).f2), .int .i64 ((rd_T45 l0 x6_1).f3)]] (by rfl) rfl rfl (by (try simp only [List.map_toArray, List.map_cons, List.map_nil]); first | done | rfl | (simp only [List.length_drop, List.length_take]; rfl)) ?_
              with_reducible refine (spec_Pay.calls k1 _ _ l1_0 _ _ l1_1 ((rd_T45 l0 x6_1).f0) ((rd_T45 l0 x6_1).f1) ((rd_T45 l0 x6_1).f2) ((rd_T45 l0 x6_1).f3) t176 t179 t182 _ ?side1 ?side2 ?side3 ?side4 A8.out).mono ?_
              (case side1 => repeat (first | exact (Kd.C_below HR1_0.out HB.out) | (with_reducible refine Kd.C_alloc ?_ _) | (with_reducible refine Kd.C_drewN ?_ _) | (with_reducible refine Kd.C_drew ?_)))
              (case side2 => exact HC1_0.out)
              (case side3 => repeat (first | exact (Kd.C_below HR1_1.out HB.out) | (with_reducible refine Kd.C_alloc ?_ _) | (with_reducible refine Kd.C_drewN ?_ _) | (with_reducible refine Kd.C_drew ?_)))
              (case side4 => exact HC1_1.out)
              rintro e w10 ⟨v177, v180, rfl, ho0, ho1, hb⟩
              refine ⟨_, rfl, ?_⟩
              have n0_ := Aside0.mk (Kd.R_below (by (with_reducible repeat (first | apply Kd.R_alloc | apply Kd.R_drewN | apply Kd.R_drew)); exact HO_5.out) hb)
              have n1_ := Aside0.mk (Kd.R_lower ho0 (below_size (by repeat (first | (with_reducible first | exact HB.out | apply below_alloc | apply pw_below_drewN | apply below_drew1 | refine below_set ?_ GE171.out) | exact HB.out))))
              have n2_ := Aside0.mk (Kd.R_lower ho1 (below_size (by repeat (first | (with_reducible first | exact HB.out | apply below_alloc | apply pw_below_drewN | apply below_drew1 | refine below_set ?_ GE171.out) | exact HB.out))))
              have n3_ := Aside0.mk (blk_below (g := gb171) (o := .cells #[.slice A1_0 l1_0.length c1_0, .slice A1_1 l1_1.length c1_1] 27 (0, 0)) (by (with_reducible repeat (first | refine blk_drewN ?_ _ | refine blk_drew ?_ | refine blk_alloc ?_ _)); exact BK171.out) hb)
              have n4_ := Aside0.mk (below_step (by repeat (first | (with_reducible first | exact HB.out | apply below_alloc | apply pw_below_drewN | apply below_drew1 | refine below_set ?_ GE171.out) | exact HB.out)) hb)
              clear HO_5
              clear BK171
              clear HB
              have HO_5 := n0_
              have HO178 := n1_
              have HO181 := n2_
              have BK171 := n3_
              have HB := n4_
              clear n0_ n1_ n2_ n3_ n4_
              (try clear hb)
              (try clear hb2)
              (try clear hk)
              (try clear hi)
              (try clear ho0)
              (try clear ho1)
              refine hK.out _ _ ⟨(blk_cell BK171.out 0).trans rfl, (blk_cell BK171.out 1).trans rfl, ((HB.out.cell (World.block_lt_of_cell? w _ hw175_0)).trans hw175_0), ((HB.out.cell (World.block_lt_of_cell? w _ hw175_1)).trans hw175_1), ((HB.out.cell (World.block_lt_of_cell? w _ hw175_2)).trans hw175_2), ((HB.out.cell (World.block_lt_of_cell? w _ hw175_3)).trans hw175_3)⟩ (fun hHeld => ?_)
              clear hK K
              refine norm_ (a' := ?_) ?_ ?_
              rotate_left
              · show Act.put _ (some 22) _ = _
                simp only [Act.put, List.setIfInBounds_toArray, List.set_cons_zero, List.set_cons_succ, i64_w, i32_w]
                rfl
              refine pure_ (i := 6) (N := some 16) (v := ?_) (a' := ?_) #[true, true, true, true, true, true, true, false, false, false, false, false] rfl rfl (any_of HT_.out (by kernel_rfl)) (fun _ _ _ h => h) (Or.inl ⟨by rfl, ?_⟩) ?_ ?_
              rotate_left
              · intro w'
                go_simp
                with_reducible rfl
              rotate_left
              · simp only [Act.put, List.setIfInBounds_toArray, List.set_cons_zero, List.set_cons_succ, i64_w, i32_w]
                rfl
              refine pure_ (i := 7) (N := some 23) (v := ?_) (a' := ?_) #[true, true, true, true, true, true, true, true, false, false, false, false] rfl rfl (any_of HT_.out (by kernel_rfl)) (fun _ _ _ h => h) (Or.inl ⟨by rfl, ?_⟩) ?_ ?_
              rotate_left
              · intro w'
                go_simp
                with_reducible rfl
              rotate_left
              · simp only [Act.put, List.setIfInBounds_toArray, List.set_cons_zero, List.set_cons_succ, i64_w, i32_w]
                rfl
              refine pure_ (i := 8) (N := some 24) (v := ?_) (a' := ?_) #[true, true, true, true, true, true, true, true, true, false, false, false] rfl rfl (any_of HT_.out (by kernel_rfl)) (fun _ _ _ h => h) (Or.inl ⟨by rfl, ?_⟩) ?_ ?_
              rotate_left
              · intro w'
                go_simp
                with_reducible rfl
              rotate_left
              · simp only [Act.put, List.setIfInBounds_toArray, List.set_cons_zero, List.set_cons_succ, i64_w, i32_w]
                rfl
              refine one_ (i := 9) (N := some 7) #[true, true, true, true, true, true, true, true, true, true, false, false] rfl rfl (one_of HT_.out (by kernel_rfl)) (by decide) (fun K hK => ?_)
              refine box_step ?hg (N := 7) ?hd (cs := #[.slice none 0 0, .slice none 0 0]) (t := 27) ?hr ?_; (case hd => rfl); (case hg => rfl); (case hr => first | (go_simp; done) | (go_simp; rfl))
              intro gb183 hg w11 hbox hb
              have n0_ := Aside0.mk (Kd.R_below (by (with_reducible repeat (first | apply Kd.R_alloc | apply Kd.R_drewN | apply Kd.R_drew)); exact HO_5.out) hb)
              have n1_ := Aside0.mk (Kd.R_below (by (with_reducible repeat (first | apply Kd.R_alloc | apply Kd.R_drewN | apply Kd.R_drew)); exact HO178.out) hb)
              have n2_ := Aside0.mk (Kd.R_below (by (with_reducible repeat (first | apply Kd.R_alloc | apply Kd.R_drewN | apply Kd.R_drew)); exact HO181.out) hb)
              have n3_ := Aside0.mk (blk_below (g := gb171) (o := .cells #[.slice A1_0 l1_0.length c1_0, .slice A1_1 l1_1.length c1_1] 27 (0, 0)) (by (with_reducible repeat (first | refine blk_drewN ?_ _ | refine blk_drew ?_ | refine blk_alloc ?_ _)); exact BK171.out) hb)
              have n4_ := Aside0.mk (below_step (by repeat (first | (with_reducible first | exact HB.out | apply below_alloc | apply pw_below_drewN | apply below_drew1 | refine below_set ?_ GE171.out) | exact HB.out)) hb)
              have n5_ := Aside0.mk (hbox)
              have n6_ := Aside0.mk ((by rw [hg]; exact (below_size (by repeat (first | (with_reducible first | exact HB.out | apply below_alloc | apply pw_below_drewN | apply below_drew1 | refine below_set ?_ GE171.out) | exact HB.out))) : w.heap.size ≤ gb183))
              have n7_ := Aside0.mk ((by rw [hg]; exact (below_size (by repeat (first | (with_reducible first | exact HB.out | apply below_alloc | apply pw_below_drewN | apply below_drew1 | refine below_set ?_ GE171.out) | exact HB.out))) : w.heap.size ≤ gb183))
              have n8_ := Aside0.mk ((by rw [hg]; exact Nat.ne_of_lt (blk_lt (g := gb171) (o := .cells #[.slice A1_0 l1_0.length c1_0, .slice A1_1 l1_1.length c1_1] 27 (0, 0)) (by (with_reducible repeat (first | refine blk_drewN ?_ _ | refine blk_drew ?_ | refine blk_alloc ?_ _)); exact BK171.out)) : gb171 ≠ gb183))
              have n9_ := Aside0.mk ((by rw [hg]; exact Nat.ne_of_gt (blk_lt (g := gb171) (o := .cells #[.slice A1_0 l1_0.length c1_0, .slice A1_1 l1_1.length c1_1] 27 (0, 0)) (by (with_reducible repeat (first | refine blk_drewN ?_ _ | refine blk_drew ?_ | refine blk_alloc ?_ _)); exact BK171.out)) : gb183 ≠ gb171))
              clear HO_5
              clear HO178
              clear HO181
              clear BK171
              clear HB
              have HO_5 := n0_
              have HO178 := n1_
              have HO181 := n2_
              have BK171 := n3_
              have HB := n4_
              have BK183 := n5_
              have GW183 := n6_
              have GE183 := n7_
              have NB171_183 := n8_
              have NB183_171 := n9_
              clear n0_ n1_ n2_ n3_ n4_ n5_ n6_ n7_ n8_ n9_
              clear hb hbox hg
              refine hK.out _ _ ⟨(blk_cell BK171.out 0).trans rfl, (blk_cell BK171.out 1).trans rfl, ((HB.out.cell (World.block_lt_of_cell? w _ hw175_0)).trans hw175_0), ((HB.out.cell (World.block_lt_of_cell? w _ hw175_1)).trans hw175_1), ((HB.out.cell (World.block_lt_of_cell? w _ hw175_2)).trans hw175_2), ((HB.out.cell (World.block_lt_of_cell? w _ hw175_3)).trans hw175_3)⟩ (fun hHeld => ?_)
              clear hK K
              refine norm_ (a' := ?_) ?_ ?_
              rotate_left
              · show Act.put _ (some 7) _ = _
                simp only [Act.put, List.setIfInBounds_toArray, List.set_cons_zero, List.set_cons_succ, i64_w, i32_w]
                rfl
              exact norm_ (by simp only [putAll, Act.put, List.setIfInBounds_toArray, List.set_cons_zero, List.set_cons_succ]) (hCont (v177, v180, gb183) _ ⟨hHeld, (by (with_reducible repeat (first | apply Kd.R_alloc | apply Kd.R_drewN | apply Kd.R_drew)); exact HO178.out), (by (with_reducible repeat (first | apply Kd.R_alloc | apply Kd.R_drewN | apply Kd.R_drew)); exact HO181.out), (by (with_reducible repeat (first | apply Kd.R_alloc | apply Kd.R_drewN | apply Kd.R_drew)); exact HO_5.out), (by (with_reducible repeat (first | refine blk_drewN ?_ _ | refine blk_drew ?_ | refine blk_alloc ?_ _)); exact BK171.out), (by (with_reducible repeat (first | refine blk_drewN ?_ _ | refine blk_drew ?_ | refine blk_alloc ?_ _)); exact BK183.out), GW183.out, GE183.out, NB171_183.out, NB183_171.out, (by repeat (first | (with_reducible first | exact HB.out | apply below_alloc | apply pw_below_drewN | apply below_drew1 | refine below_set ?_ GE171.out | refine below_set ?_ GE183.out) | exact HB.out))⟩)
            · skip
              refine box_step ?hg (N := 7) ?hd (cs := #[.slice none 0 0, .slice none 0 0]) (t := 27) ?hr ?_; (case hd => rfl); (case hg => rfl); (case hr => first | (go_simp; done) | (go_simp; rfl))
              intro gb183 hg w10 hbox hb
              have n0_ := Aside0.mk (Kd.R_below (by (with_reducible repeat (first | apply Kd.R_alloc | apply Kd.R_drewN | apply Kd.R_drew)); exact HO_5.out) hb)
              have n1_ := Aside0.mk (blk_below (g := gb171) (o := .cells #[.slice A1_0 l1_0.length c1_0, .slice A1_1 l1_1.length c1_1] 27 (0, 0)) (by (with_reducible repeat (first | refine blk_drewN ?_ _ | refine blk_drew ?_ | refine blk_alloc ?_ _)); exact BK171.out) hb)
              have n2_ := Aside0.mk (below_step (by repeat (first | (with_reducible first | exact HB.out | apply below_alloc | apply pw_below_drewN | apply below_drew1 | refine below_set ?_ GE171.out) | exact HB.out)) hb)
              have n3_ := Aside0.mk (hbox)
              have n4_ := Aside0.mk ((by rw [hg]; exact (below_size (by repeat (first | (with_reducible first | exact HB.out | apply below_alloc | apply pw_below_drewN | apply below_drew1 | refine below_set ?_ GE171.out) | exact HB.out))) : w.heap.size ≤ gb183))
              have n5_ := Aside0.mk ((by rw [hg]; exact (below_size (by repeat (first | (with_reducible first | exact HB.out | apply below_alloc | apply pw_below_drewN | apply below_drew1 | refine below_set ?_ GE171.out) | exact HB.out))) : w.heap.size ≤ gb183))
              have n6_ := Aside0.mk ((by rw [hg]; exact Nat.ne_of_lt (blk_lt (g := gb171) (o := .cells #[.slice A1_0 l1_0.length c1_0, .slice A1_1 l1_1.length c1_1] 27 (0, 0)) (by (with_reducible repeat (first | refine blk_drewN ?_ _ | refine blk_drew ?_ | refine blk_alloc ?_ _)); exact BK171.out)) : gb171 ≠ gb183))
              have n7_ := Aside0.mk ((by rw [hg]; exact Nat.ne_of_gt (blk_lt (g := gb171) (o := .cells #[.slice A1_0 l1_0.length c1_0, .slice A1_1 l1_1.length c1_1] 27 (0, 0)) (by (with_reducible repeat (first | refine blk_drewN ?_ _ | refine blk_drew ?_ | refine blk_alloc ?_ _)); exact BK171.out)) : gb183 ≠ gb171))
              clear HO_5
              clear BK171
              clear HB
              have HO_5 := n0_
              have BK171 := n1_
              have HB := n2_
              have BK183 := n3_
              have GW183 := n4_
              have GE183 := n5_
              have NB171_183 := n6_
              have NB183_171 := n7_
              clear n0_ n1_ n2_ n3_ n4_ n5_ n6_ n7_
              clear hb hbox hg
              refine hK.out _ _ ⟨(blk_cell BK171.out 0).trans rfl, (blk_cell BK171.out 1).trans rfl, ((HB.out.cell (World.block_lt_of_cell? w _ hw175_0)).trans hw175_0), ((HB.out.cell (World.block_lt_of_cell? w _ hw175_1)).trans hw175_1), ((HB.out.cell (World.block_lt_of_cell? w _ hw175_2)).trans hw175_2), ((HB.out.cell (World.block_lt_of_cell? w _ hw175_3)).trans hw175_3)⟩ (fun hHeld => ?_)
              clear hK K
              refine norm_ (a' := ?_) ?_ ?_
              rotate_left
              · show Act.put _ (some 7) _ = _
                simp only [Act.put, List.setIfInBounds_toArray, List.set_cons_zero, List.set_cons_succ, i64_w, i32_w]
                rfl
              refine one_ (i := 5) (N := some 22) #[true, true, true, true, true, true, false, false, false, true, false, false] rfl rfl (one_of HT_.out (by kernel_rfl)) (by decide) (fun K hK => ?_)
              refine goes_ Try.func34 (by kernel_rfl) rfl #[.agg #[.slice A1_0 l1_0.length c1_0, .slice A1_1 l1_1.length c1_1], .agg #[.int .i64 ((rd_T45 l0 x6_1).f0), .int .i64 ((rd_T45 l0 x6_1).f1), .int .i64 ((rd_T45 l0 x6_1).f2), .int .i64 ((rd_T45 l0 x6_1).f3)]] (by rfl) rfl rfl (by (try simp only [List.map_toArray, List.map_cons, List.map_nil]); first | done | rfl | (simp only [List.length_drop, List.length_take]; rfl)) ?_
              with_reducible refine (spec_Pay.calls k1 _ _ l1_0 _ _ l1_1 ((rd_T45 l0 x6_1).f0) ((rd_T45 l0 x6_1).f1) ((rd_T45 l0 x6_1).f2) ((rd_T45 l0 x6_1).f3) t176 t179 t182 _ ?side1 ?side2 ?side3 ?side4 A8.out).mono ?_
              (case side1 => repeat (first | exact (Kd.C_below HR1_0.out HB.out) | (with_reducible refine Kd.C_alloc ?_ _) | (with_reducible refine Kd.C_drewN ?_ _) | (with_reducible refine Kd.C_drew ?_)))
              (case side2 => exact HC1_0.out)
              (case side3 => repeat (first | exact (Kd.C_below HR1_1.out HB.out) | (with_reducible refine Kd.C_alloc ?_ _) | (with_reducible refine Kd.C_drewN ?_ _) | (with_reducible refine Kd.C_drew ?_)))
              (case side4 => exact HC1_1.out)
              rintro e w11 ⟨v177, v180, rfl, ho0, ho1, hb⟩
              refine ⟨_, rfl, ?_⟩
              have n0_ := Aside0.mk (Kd.R_below (by (with_reducible repeat (first | apply Kd.R_alloc | apply Kd.R_drewN | apply Kd.R_drew)); exact HO_5.out) hb)
              have n1_ := Aside0.mk (Kd.R_lower ho0 (below_size (by repeat (first | (with_reducible first | exact HB.out | apply below_alloc | apply pw_below_drewN | apply below_drew1 | refine below_set ?_ GE171.out | refine below_set ?_ GE183.out) | exact HB.out))))
              have n2_ := Aside0.mk (Kd.R_lower ho1 (below_size (by repeat (first | (with_reducible first | exact HB.out | apply below_alloc | apply pw_below_drewN | apply below_drew1 | refine below_set ?_ GE171.out | refine below_set ?_ GE183.out) | exact HB.out))))
              have n3_ := Aside0.mk (blk_below (g := gb171) (o := .cells #[.slice A1_0 l1_0.length c1_0, .slice A1_1 l1_1.length c1_1] 27 (0, 0)) (by (with_reducible repeat (first | refine blk_drewN ?_ _ | refine blk_drew ?_ | refine blk_alloc ?_ _)); exact BK171.out) hb)
              have n4_ := Aside0.mk (blk_below (g := gb183) (o := .cells #[.slice none 0 0, .slice none 0 0] 27 (0, 0)) (by (with_reducible repeat (first | refine blk_drewN ?_ _ | refine blk_drew ?_ | refine blk_alloc ?_ _)); exact BK183.out) hb)
              have n5_ := Aside0.mk (below_step (by repeat (first | (with_reducible first | exact HB.out | apply below_alloc | apply pw_below_drewN | apply below_drew1 | refine below_set ?_ GE171.out | refine below_set ?_ GE183.out) | exact HB.out)) hb)
              clear HO_5
              clear BK171
              clear BK183
              clear HB
              have HO_5 := n0_
              have HO178 := n1_
              have HO181 := n2_
              have BK171 := n3_
              have BK183 := n4_
              have HB := n5_
              clear n0_ n1_ n2_ n3_ n4_ n5_
              (try clear hb)
              (try clear hb2)
              (try clear hk)
              (try clear hi)
              (try clear ho0)
              (try clear ho1)
              refine hK.out _ _ ⟨(blk_cell BK171.out 0).trans rfl, (blk_cell BK171.out 1).trans rfl, ((HB.out.cell (World.block_lt_of_cell? w _ hw175_0)).trans hw175_0), ((HB.out.cell (World.block_lt_of_cell? w _ hw175_1)).trans hw175_1), ((HB.out.cell (World.block_lt_of_cell? w _ hw175_2)).trans hw175_2), ((HB.out.cell (World.block_lt_of_cell? w _ hw175_3)).trans hw175_3)⟩ (fun hHeld => ?_)
              clear hK K
              refine norm_ (a' := ?_) ?_ ?_
              rotate_left
              · show Act.put _ (some 22) _ = _
                simp only [Act.put, List.setIfInBounds_toArray, List.set_cons_zero, List.set_cons_succ, i64_w, i32_w]
                rfl
              refine pure_ (i := 6) (N := some 16) (v := ?_) (a' := ?_) #[true, true, true, true, true, true, true, false, false, true, false, false] rfl rfl (any_of HT_.out (by kernel_rfl)) (fun _ _ _ h => h) (Or.inl ⟨by rfl, ?_⟩) ?_ ?_
              rotate_left
              · intro w'
                go_simp
                with_reducible rfl
              rotate_left
              · simp only [Act.put, List.setIfInBounds_toArray, List.set_cons_zero, List.set_cons_succ, i64_w, i32_w]
                rfl
              refine pure_ (i := 7) (N := some 23) (v := ?_) (a' := ?_) #[true, true, true, true, true, true, true, true, false, true, false, false] rfl rfl (any_of HT_.out (by kernel_rfl)) (fun _ _ _ h => h) (Or.inl ⟨by rfl, ?_⟩) ?_ ?_
              rotate_left
              · intro w'
                go_simp
                with_reducible rfl
              rotate_left
              · simp only [Act.put, List.setIfInBounds_toArray, List.set_cons_zero, List.set_cons_succ, i64_w, i32_w]
                rfl
              refine pure_ (i := 8) (N := some 24) (v := ?_) (a' := ?_) #[true, true, true, true, true, true, true, true, true, true, false, false] rfl rfl (any_of HT_.out (by kernel_rfl)) (fun _ _ _ h => h) (Or.inl ⟨by rfl, ?_⟩) ?_ ?_
              rotate_left
              · intro w'
                go_simp
                with_reducible rfl
              rotate_left
              · simp only [Act.put, List.setIfInBounds_toArray, List.set_cons_zero, List.set_cons_succ, i64_w, i32_w]
                rfl
              exact norm_ (by simp only [putAll, Act.put, List.setIfInBounds_toArray, List.set_cons_zero, List.set_cons_succ]) (hCont (v177, v180, gb183) _ ⟨hHeld, (by (with_reducible repeat (first | apply Kd.R_alloc | apply Kd.R_drewN | apply Kd.R_drew)); exact HO178.out), (by (with_reducible repeat (first | apply Kd.R_alloc | apply Kd.R_drewN | apply Kd.R_drew)); exact HO181.out), (by (with_reducible repeat (first | apply Kd.R_alloc | apply Kd.R_drewN | apply Kd.R_drew)); exact HO_5.out), (by (with_reducible repeat (first | refine blk_drewN ?_ _ | refine blk_drew ?_ | refine blk_alloc ?_ _)); exact BK171.out), (by (with_reducible repeat (first | refine blk_drewN ?_ _ | refine blk_drew ?_ | refine blk_alloc ?_ _)); exact BK183.out), GW183.out, GE183.out, NB171_183.out, NB183_171.out, (by repeat (first | (with_reducible first | exact HB.out | apply below_alloc | apply pw_below_drewN | apply below_drew1 | refine below_set ?_ GE171.out | refine below_set ?_ GE183.out) | exact HB.out))⟩)
          rintro ⟨v177, v180, gb183⟩ w12 ⟨hS_, h0_, h1_, h2_, h3_, h4_, h5_, h6_, h7_, h8_, h9_⟩
          have n0_ : Aside0 (Kd.R (Kd.int .i64) 3 w12 w.heap.size (fun k_ => some k_ ≠ (v180 : Value).ownBlock) v177 t176) := ⟨h0_⟩
          have n1_ : Aside0 (Kd.R (Kd.int .i64) 3 w12 w.heap.size (fun k_ => some k_ ≠ (v177 : Value).ownBlock) v180 t179) := ⟨h1_⟩
          have n2_ : Aside0 (Kd.R k45 45 w12 w.heap.size (fun _ => True) u5 x5_1) := ⟨h2_⟩
          have n3_ : Aside0 (w12.heap[gb171]? = some (.cells #[.slice A1_0 l1_0.length c1_0, .slice A1_1 l1_1.length c1_1] 27 (0, 0))) := ⟨h3_⟩
          have n4_ : Aside0 (w12.heap[gb183]? = some (.cells #[.slice none 0 0, .slice none 0 0] 27 (0, 0))) := ⟨h4_⟩
          have n5_ : Aside0 (w.heap.size ≤ gb183) := ⟨h5_⟩
          have n6_ : Aside0 (w.heap.size ≤ gb183) := ⟨h6_⟩
          have n7_ : Aside0 (gb171 ≠ gb183) := ⟨h7_⟩
          have n8_ : Aside0 (gb183 ≠ gb171) := ⟨h8_⟩
          have n9_ : Aside0 (Below w.heap.size w w12) := ⟨h9_⟩
          clear HO_5
          clear BK171
          clear HB
          clear h0_ h1_ h2_ h3_ h4_ h5_ h6_ h7_ h8_ h9_
          have HO178 := n0_
          have HO181 := n1_
          have HO_5 := n2_
          have BK171 := n3_
          have BK183 := n4_
          have GW183 := n5_
          have GE183 := n6_
          have NB171_183 := n7_
          have NB183_171 := n8_
          have HB := n9_
          clear n0_ n1_ n2_ n3_ n4_ n5_ n6_ n7_ n8_ n9_
          have hHeld : w12.cell? ⟨gb171, 0, none⟩ = some (.slice A1_0 l1_0.length c1_0) ∧ w12.cell? ⟨gb171, 1, none⟩ = some (.slice A1_1 l1_1.length c1_1) ∧ w12.cell? (ad175.add ((x6_1).toNat * 4)) = some (.int .i64 ((rd_T45 l0 x6_1).f0)) ∧ w12.cell? ⟨(ad175.add ((x6_1).toNat * 4)).block, (ad175.add ((x6_1).toNat * 4)).off + 1, none⟩ = some (.int .i64 ((rd_T45 l0 x6_1).f1)) ∧ w12.cell? ⟨(ad175.add ((x6_1).toNat * 4)).block, (ad175.add ((x6_1).toNat * 4)).off + 2, none⟩ = some (.int .i64 ((rd_T45 l0 x6_1).f2)) ∧ w12.cell? ⟨(ad175.add ((x6_1).toNat * 4)).block, (ad175.add ((x6_1).toNat * 4)).off + 3, none⟩ = some (.int .i64 ((rd_T45 l0 x6_1).f3)) := hS_
          obtain ⟨Ao13, co13, eo13⟩ := Kd.R_slice HO178.out
          (first | subst eo13 | (injection eo13 with f1_ f2_ f3_; have f4_ := f1_.symm; have f5_ := f3_.symm; clear f1_ f2_ f3_; subst f4_; subst f5_))
          obtain ⟨Ao15, co15, eo15⟩ := Kd.R_slice HO181.out
          (first | subst eo15 | (injection eo15 with f1_ f2_ f3_; have f4_ := f1_.symm; have f5_ := f3_.symm; clear f1_ f2_ f3_; subst f4_; subst f5_))
          refine norm_ (a' := ?_) ?_ ?_
          rotate_left
          · simp only [putAll, Act.put, List.setIfInBounds_toArray, List.set_cons_zero, List.set_cons_succ]
            rfl
          refine one_ (i := 10) (N := none) #[true, true, true, true, true, true, true, true, true, true, true, false] rfl rfl (one_of HT_.out (by kernel_rfl)) (by decide) (fun K hK => ?_)
          have hs14 : w12.cell? ⟨gb183, 0, none⟩ = some (.slice none 0 0) := (blk_cell BK183.out 0).trans rfl
          have hfs14 := blk_frozen BK183.out 0
          have hns14_0 := NB171_183.out
          have hms14_0 := NB183_171.out
          have hs16 : w12.cell? ⟨gb183, 1, none⟩ = some (.slice none 0 0) := (blk_cell BK183.out 1).trans rfl
          have hfs16 := blk_frozen BK183.out 1
          have hns16_0 := NB171_183.out
          have hms16_0 := NB183_171.out
          refine skip_ (w1 := ?_) (by rfl) rfl ?_ ?_
          rotate_left
          · go_simp
            rfl
          refine hK.out _ _ ⟨((cell_far (p := ⟨gb183, _, none⟩) NB171_183.out _).trans (((cell_far (p := ⟨gb183, _, none⟩) NB171_183.out _).trans (hHeld.1)))), ((cell_far (p := ⟨gb183, _, none⟩) NB171_183.out _).trans (((cell_far (p := ⟨gb183, _, none⟩) NB171_183.out _).trans (hHeld.2.1)))), ((cell_far (p := ⟨gb183, _, none⟩) (by first | exact Nat.ne_of_lt (Nat.lt_of_lt_of_le (by have := World.block_lt_of_cell? _ _ hw175_0; first | rwa [add_block] at this | exact this) GW183.out) | (rw [add_block]; exact Nat.ne_of_lt (Nat.lt_of_lt_of_le (by have := World.block_lt_of_cell? _ _ hw175_0; first | rwa [add_block] at this | exact this) GW183.out)) | (show (Addr.add _ _).block ≠ _; rw [add_block]; exact Nat.ne_of_lt (Nat.lt_of_lt_of_le (by have := World.block_lt_of_cell? _ _ hw175_0; first | rwa [add_block] at this | exact this) GW183.out)) | (dsimp only; exact Nat.ne_of_lt (Nat.lt_of_lt_of_le (by have := World.block_lt_of_cell? _ _ hw175_0; first | rwa [add_block] at this | exact this) GW183.out))) _).trans (((cell_far (p := ⟨gb183, _, none⟩) (by first | exact Nat.ne_of_lt (Nat.lt_of_lt_of_le (by have := World.block_lt_of_cell? _ _ hw175_0; first | rwa [add_block] at this | exact this) GW183.out) | (rw [add_block]; exact Nat.ne_of_lt (Nat.lt_of_lt_of_le (by have := World.block_lt_of_cell? _ _ hw175_0; first | rwa [add_block] at this | exact this) GW183.out)) | (show (Addr.add _ _).block ≠ _; rw [add_block]; exact Nat.ne_of_lt (Nat.lt_of_lt_of_le (by have := World.block_lt_of_cell? _ _ hw175_0; first | rwa [add_block] at this | exact this) GW183.out)) | (dsimp only; exact Nat.ne_of_lt (Nat.lt_of_lt_of_le (by have := World.block_lt_of_cell? _ _ hw175_0; first | rwa [add_block] at this | exact this) GW183.out))) _).trans (hHeld.2.2.1)))), ((cell_far (p := ⟨gb183, _, none⟩) (by first | exact Nat.ne_of_lt (Nat.lt_of_lt_of_le (by have := World.block_lt_of_cell? _ _ hw175_1; first | rwa [add_block] at this | exact this) GW183.out) | (rw [add_block]; exact Nat.ne_of_lt (Nat.lt_of_lt_of_le (by have := World.block_lt_of_cell? _ _ hw175_1; first | rwa [add_block] at this | exact this) GW183.out)) | (show (Addr.add _ _).block ≠ _; rw [add_block]; exact Nat.ne_of_lt (Nat.lt_of_lt_of_le (by have := World.block_lt_of_cell? _ _ hw175_1; first | rwa [add_block] at this | exact this) GW183.out)) | (dsimp only; exact Nat.ne_of_lt (Nat.lt_of_lt_of_le (by have := World.block_lt_of_cell? _ _ hw175_1; first | rwa [add_block] at this | exact this) GW183.out))) _).trans (((cell_far (p := ⟨gb183, _, none⟩) (by first | exact Nat.ne_of_lt (Nat.lt_of_lt_of_le (by have := World.block_lt_of_cell? _ _ hw175_1; first | rwa [add_block] at this | exact this) GW183.out) | (rw [add_block]; exact Nat.ne_of_lt (Nat.lt_of_lt_of_le (by have := World.block_lt_of_cell? _ _ hw175_1; first | rwa [add_block] at this | exact this) GW183.out)) | (show (Addr.add _ _).block ≠ _; rw [add_block]; exact Nat.ne_of_lt (Nat.lt_of_lt_of_le (by have := World.block_lt_of_cell? _ _ hw175_1; first | rwa [add_block] at this | exact this) GW183.out)) | (dsimp only; exact Nat.ne_of_lt (Nat.lt_of_lt_of_le (by have := World.block_lt_of_cell? _ _ hw175_1; first | rwa [add_block] at this | exact this) GW183.out))) _).trans (hHeld.2.2.2.1)))), ((cell_far (p := ⟨gb183, _, none⟩) (by first | exact Nat.ne_of_lt (Nat.lt_of_lt_of_le (by have := World.block_lt_of_cell? _ _ hw175_2; first | rwa [add_block] at this | exact this) GW183.out) | (rw [add_block]; exact Nat.ne_of_lt (Nat.lt_of_lt_of_le (by have := World.block_lt_of_cell? _ _ hw175_2; first | rwa [add_block] at this | exact this) GW183.out)) | (show (Addr.add _ _).block ≠ _; rw [add_block]; exact Nat.ne_of_lt (Nat.lt_of_lt_of_le (by have := World.block_lt_of_cell? _ _ hw175_2; first | rwa [add_block] at this | exact this) GW183.out)) | (dsimp only; exact Nat.ne_of_lt (Nat.lt_of_lt_of_le (by have := World.block_lt_of_cell? _ _ hw175_2; first | rwa [add_block] at this | exact this) GW183.out))) _).trans (((cell_far (p := ⟨gb183, _, none⟩) (by first | exact Nat.ne_of_lt (Nat.lt_of_lt_of_le (by have := World.block_lt_of_cell? _ _ hw175_2; first | rwa [add_block] at this | exact this) GW183.out) | (rw [add_block]; exact Nat.ne_of_lt (Nat.lt_of_lt_of_le (by have := World.block_lt_of_cell? _ _ hw175_2; first | rwa [add_block] at this | exact this) GW183.out)) | (show (Addr.add _ _).block ≠ _; rw [add_block]; exact Nat.ne_of_lt (Nat.lt_of_lt_of_le (by have := World.block_lt_of_cell? _ _ hw175_2; first | rwa [add_block] at this | exact this) GW183.out)) | (dsimp only; exact Nat.ne_of_lt (Nat.lt_of_lt_of_le (by have := World.block_lt_of_cell? _ _ hw175_2; first | rwa [add_block] at this | exact this) GW183.out))) _).trans (hHeld.2.2.2.2.1)))), ((cell_far (p := ⟨gb183, _, none⟩) (by first | exact Nat.ne_of_lt (Nat.lt_of_lt_of_le (by have := World.block_lt_of_cell? _ _ hw175_3; first | rwa [add_block] at this | exact this) GW183.out) | (rw [add_block]; exact Nat.ne_of_lt (Nat.lt_of_lt_of_le (by have := World.block_lt_of_cell? _ _ hw175_3; first | rwa [add_block] at this | exact this) GW183.out)) | (show (Addr.add _ _).block ≠ _; rw [add_block]; exact Nat.ne_of_lt (Nat.lt_of_lt_of_le (by have := World.block_lt_of_cell? _ _ hw175_3; first | rwa [add_block] at this | exact this) GW183.out)) | (dsimp only; exact Nat.ne_of_lt (Nat.lt_of_lt_of_le (by have := World.block_lt_of_cell? _ _ hw175_3; first | rwa [add_block] at this | exact this) GW183.out))) _).trans (((cell_far (p := ⟨gb183, _, none⟩) (by first | exact Nat.ne_of_lt (Nat.lt_of_lt_of_le (by have := World.block_lt_of_cell? _ _ hw175_3; first | rwa [add_block] at this | exact this) GW183.out) | (rw [add_block]; exact Nat.ne_of_lt (Nat.lt_of_lt_of_le (by have := World.block_lt_of_cell? _ _ hw175_3; first | rwa [add_block] at this | exact this) GW183.out)) | (show (Addr.add _ _).block ≠ _; rw [add_block]; exact Nat.ne_of_lt (Nat.lt_of_lt_of_le (by have := World.block_lt_of_cell? _ _ hw175_3; first | rwa [add_block] at this | exact this) GW183.out)) | (dsimp only; exact Nat.ne_of_lt (Nat.lt_of_lt_of_le (by have := World.block_lt_of_cell? _ _ hw175_3; first | rwa [add_block] at this | exact this) GW183.out))) _).trans (hHeld.2.2.2.2.2))))⟩ (fun hHeld => ?_)
          clear hK K
          refine pure_ (i := 11) (N := some 8) (v := ?_) (a' := ?_) #[true, true, true, true, true, true, true, true, true, true, true, true] rfl rfl (any_of HT_.out (by kernel_rfl)) (fun _ _ _ h => h) (Or.inl ⟨by rfl, ?_⟩) ?_ ?_
          rotate_left
          · intro w'
            go_simp
            with_reducible rfl
          rotate_left
          · simp only [Act.put, List.setIfInBounds_toArray, List.set_cons_zero, List.set_cons_succ, i64_w, i32_w]
            rfl
          refine done_ (done_of HT_.out (by kernel_rfl)) ?_
          go_upto_if 26 with (fail)
          have H := HF.out
          clear HF
          by_cases c17 : t182 = 2
          · rw [if_pos c17] at H
            have c17b0 : (t182 == 2) = true := beq_iff_eq.mpr c17
            have c17b1 : (t182 != 2) = false := bne_eq_false_iff_eq.mpr c17
            clear c17
            (first | rw [c17b0] | (simp only [i64_w, i32_w]; rw [c17b0]) | skip)
            have H' := Aside0.mk H
            clear H
            go_wp2
            go_roundg k1
            case measure => have := HK1.out; omega
            case rel => exact ⟨(x5_1), (wrap64 (x6_1 + 1)), (by first | rfl | (simp; done) | (simp [*]; done)), H', ⟨by have := HK1.out; omega⟩, ⟨by (with_reducible repeat (first | apply Kd.R_alloc | apply Kd.R_drewN | apply Kd.R_drew)); exact Kd.R_mono (Kd.R_far (p := ⟨gb183, 1, none⟩) (Kd.R_far (p := ⟨gb183, 0, none⟩) (Kd.R_types HO_5.out BK183.out (by decide)) (fun _ hk => hk.2) (.slice Ao13 t176.length co13)) (fun _ hk => hk.2) (.slice Ao15 t179.length co15)) (fun _ hk => trivial)⟩, ⟨by (with_reducible repeat (first | refine blk_drewN ?_ _ | refine blk_drew ?_ | refine blk_alloc ?_ _)); refine blk_far ?_ NB171_183.out _; (with_reducible repeat (first | refine blk_drewN ?_ _ | refine blk_drew ?_ | refine blk_alloc ?_ _)); refine blk_far ?_ NB171_183.out _; (with_reducible repeat (first | refine blk_drewN ?_ _ | refine blk_drew ?_ | refine blk_alloc ?_ _)); exact BK171.out⟩, ⟨by repeat (first | (with_reducible first | exact HB.out | apply below_alloc | apply pw_below_drewN | apply below_drew1 | refine below_set ?_ GE171.out | refine below_set ?_ GE183.out) | exact HB.out)⟩⟩
          · rw [if_neg c17] at H
            have c17b0 : (t182 == 2) = false := beq_eq_false_iff_ne.mpr c17
            have c17b1 : (t182 != 2) = true := bne_iff_ne.mpr c17
            (first | rw [c17b0] | (simp only [i64_w, i32_w]; rw [c17b0]) | skip)
            by_cases c18 : x5_1.length < 4398046511104
            · rw [if_pos c18] at H
              have LMc18 := Aside0.mk c18
              clear c18
              obtain ⟨y185, hy185⟩ : ∃ y_ : List (S45), y_ = (x5_1 ++ [(⟨(rd_T45 l0 x6_1).f0, (rd_T45 l0 x6_1).f1, (rd_T45 l0 x6_1).f2, (rd_T45 l0 x6_1).f3⟩ : S45)]) := ⟨_, rfl⟩
              replace H : (spec_PoolDrop.l0 k1 l0 y185 (wrap64 (x6_1 + 1)) l1_0 l1_1) = some r := by first | (rw [hy185]; with_reducible exact H) | (have H2_ := (Option.bind_some _ _).symm.trans H; rw [hy185]; with_reducible exact H2_) | (have H2_ := (Option.bind_some _ _).symm.trans H; with_reducible exact H2_) | with_reducible exact H | (rw [hy185]; exact H) | exact H
              have Ny185 := Aside0.mk hy185
              clear hy185
              have H' := Aside0.mk H
              clear H
              have p184 : 0 ≤ (x6_1 : Int) := of_decide_eq_true (by first | (with_reducible assumption) | assumption)
              have q184 : x6_1 < (l0.length : Int) := of_decide_eq_true (by first | (with_reducible assumption) | assumption)
              obtain ⟨ad184, e184, hx184_0, hx184_1, hx184_2, hx184_3⟩ := at_T45 HR0.out x6_1 p184 q184
              obtain rfl : ad175 = ad184 := (by injection e184)
              have hn184_0 : ad175.block ≠ gb183 := Nat.ne_of_lt (Nat.lt_of_lt_of_le (by have := World.block_lt_of_cell? _ _ hx184_0; first | rwa [add_block] at this | exact this) GW183.out)
              have hn184_1 : ad175.block ≠ gb183 := Nat.ne_of_lt (Nat.lt_of_lt_of_le (by have := World.block_lt_of_cell? _ _ hx184_0; first | rwa [add_block] at this | exact this) GW183.out)
              replace hx184_0 := (HB.out.cell (World.block_lt_of_cell? w _ hx184_0)).trans hx184_0
              replace hx184_1 := (HB.out.cell (World.block_lt_of_cell? w _ hx184_1)).trans hx184_1
              replace hx184_2 := (HB.out.cell (World.block_lt_of_cell? w _ hx184_2)).trans hx184_2
              replace hx184_3 := (HB.out.cell (World.block_lt_of_cell? w _ hx184_3)).trans hx184_3
              replace hx184_0 := (cell_far (p := ⟨gb183, 0, none⟩) (by first | (rw [add_block]; exact hn184_0) | (show (Addr.add _ _).block ≠ _; rw [add_block]; exact hn184_0) | exact hn184_0) (.slice Ao13 t176.length co13)).trans hx184_0
              replace hx184_1 := (cell_far (p := ⟨gb183, 0, none⟩) (by first | (rw [add_block]; exact hn184_0) | (show (Addr.add _ _).block ≠ _; rw [add_block]; exact hn184_0) | exact hn184_0) (.slice Ao13 t176.length co13)).trans hx184_1
              replace hx184_2 := (cell_far (p := ⟨gb183, 0, none⟩) (by first | (rw [add_block]; exact hn184_0) | (show (Addr.add _ _).block ≠ _; rw [add_block]; exact hn184_0) | exact hn184_0) (.slice Ao13 t176.length co13)).trans hx184_2
              replace hx184_3 := (cell_far (p := ⟨gb183, 0, none⟩) (by first | (rw [add_block]; exact hn184_0) | (show (Addr.add _ _).block ≠ _; rw [add_block]; exact hn184_0) | exact hn184_0) (.slice Ao13 t176.length co13)).trans hx184_3
              replace hx184_0 := (cell_far (p := ⟨gb183, 1, none⟩) (by first | (rw [add_block]; exact hn184_1) | (show (Addr.add _ _).block ≠ _; rw [add_block]; exact hn184_1) | exact hn184_1) (.slice Ao15 t179.length co15)).trans hx184_0
              replace hx184_1 := (cell_far (p := ⟨gb183, 1, none⟩) (by first | (rw [add_block]; exact hn184_1) | (show (Addr.add _ _).block ≠ _; rw [add_block]; exact hn184_1) | exact hn184_1) (.slice Ao15 t179.length co15)).trans hx184_1
              replace hx184_2 := (cell_far (p := ⟨gb183, 1, none⟩) (by first | (rw [add_block]; exact hn184_1) | (show (Addr.add _ _).block ≠ _; rw [add_block]; exact hn184_1) | exact hn184_1) (.slice Ao15 t179.length co15)).trans hx184_2
              replace hx184_3 := (cell_far (p := ⟨gb183, 1, none⟩) (by first | (rw [add_block]; exact hn184_1) | (show (Addr.add _ _).block ≠ _; rw [add_block]; exact hn184_1) | exact hn184_1) (.slice Ao15 t179.length co15)).trans hx184_3
              clear hn184_0
              clear hn184_1
              replace p184 := eq_true p184
              replace q184 := eq_true q184
              go_wp2_with (first | ((with_reducible refine gate_builtin (b := .append) (xs := #[.tmp 27, .tmp 32]) rfl ?_); at_builtin; refine Kd.R_append k45 (w0 := w) w.heap.size rfl (.tmp 27) (.tmp 32) 38 45 (.agg #[(.int .i64 0), (.int .i64 0), (.int .i64 0), (.int .i64 0)]) 32 rfl Try.underlying38 info45 rfl (by decide) (by omega) u5 x5_1 (⟨(rd_T45 l0 x6_1).f0, (rd_T45 l0 x6_1).f1, (rd_T45 l0 x6_1).f2, (rd_T45 l0 x6_1).f3⟩ : S45) [.int .i64 ((rd_T45 l0 x6_1).f0), .int .i64 ((rd_T45 l0 x6_1).f1), .int .i64 ((rd_T45 l0 x6_1).f2), .int .i64 ((rd_T45 l0 x6_1).f3)] (fun _ => True) (fun _ => False) rfl (by first | (go_simp; done) | (go_simp; rfl)) ?aP (fun _ hk => hk.elim) ?aF ?aO ?aB ?aS ?aL ?_; (case aP => exact k45_mkM _ _ _ (⟨(rd_T45 l0 x6_1).f0, (rd_T45 l0 x6_1).f1, (rd_T45 l0 x6_1).f2, (rd_T45 l0 x6_1).f3⟩ : S45)); (case aB => exact (by repeat (first | (with_reducible first | exact HB.out | apply below_alloc | apply pw_below_drewN | apply below_drew1 | refine below_set ?_ GE171.out | refine below_set ?_ GE183.out) | exact HB.out))); (case aF => exact (fun _ _ => trivial)); (case aO => exact (by (with_reducible repeat (first | apply Kd.R_alloc | apply Kd.R_drewN | apply Kd.R_drew)); exact Kd.R_mono (Kd.R_far (p := ⟨gb183, 1, none⟩) (Kd.R_far (p := ⟨gb183, 0, none⟩) (Kd.R_types HO_5.out BK183.out (by decide)) (fun _ hk => hk.2) (.slice Ao13 t176.length co13)) (fun _ hk => hk.2) (.slice Ao15 t179.length co15)) (fun _ hk => trivial))); (case aS => exact (below_size (by repeat (first | (with_reducible first | exact HB.out | apply below_alloc | apply pw_below_drewN | apply below_drew1 | refine below_set ?_ GE171.out | refine below_set ?_ GE183.out) | exact HB.out)))); (case aL => have := LMc18.out; omega); intro v186 w19 ho hb hg hat; rw [← Ny185.out] at ho; have n0_ := Aside0.mk (blk_grown (g := gb171) (o := .cells #[.slice A1_0 l1_0.length c1_0, .slice A1_1 l1_1.length c1_1] 27 (0, 0)) (by (with_reducible repeat (first | refine blk_drewN ?_ _ | refine blk_drew ?_ | refine blk_alloc ?_ _)); refine blk_far ?_ NB171_183.out _; (with_reducible repeat (first | refine blk_drewN ?_ _ | refine blk_drew ?_ | refine blk_alloc ?_ _)); refine blk_far ?_ NB171_183.out _; (with_reducible repeat (first | refine blk_drewN ?_ _ | refine blk_drew ?_ | refine blk_alloc ?_ _)); exact BK171.out) hg (Kd.R_ne HO_5.out BK171.out (by decide))); have n1_ := Aside0.mk (Kd.R_over' (by (with_reducible repeat (first | apply Kd.R_alloc | apply Kd.R_drewN | apply Kd.R_drew)); exact (Kd.R_mono (Kd.R_far (p := ⟨gb183, 1, none⟩) (Kd.R_far (p := ⟨gb183, 0, none⟩) (Kd.R_types HO178.out BK183.out (by decide)) (fun _ hk => hk.2) (.slice Ao13 t176.length co13)) (fun _ hk => hk.2) (.slice Ao15 t179.length co15)) (fun _ h_ => h_.1))) (Kd.R_typed (by (with_reducible repeat (first | apply Kd.R_alloc | apply Kd.R_drewN | apply Kd.R_drew)); exact (Kd.R_mono (Kd.R_far (p := ⟨gb183, 1, none⟩) (Kd.R_far (p := ⟨gb183, 0, none⟩) (Kd.R_types HO_5.out BK183.out (by decide)) (fun _ hk => hk.2) (.slice Ao13 t176.length co13)) (fun _ hk => hk.2) (.slice Ao15 t179.length co15)) (fun _ h_ => h_.1)))) (by decide) hg); have n2_ := Aside0.mk (Kd.R_over' (by (with_reducible repeat (first | apply Kd.R_alloc | apply Kd.R_drewN | apply Kd.R_drew)); exact (Kd.R_mono (Kd.R_far (p := ⟨gb183, 1, none⟩) (Kd.R_far (p := ⟨gb183, 0, none⟩) (Kd.R_types HO181.out BK183.out (by decide)) (fun _ hk => hk.2) (.slice Ao13 t176.length co13)) (fun _ hk => hk.2) (.slice Ao15 t179.length co15)) (fun _ h_ => h_.1))) (Kd.R_typed (by (with_reducible repeat (first | apply Kd.R_alloc | apply Kd.R_drewN | apply Kd.R_drew)); exact (Kd.R_mono (Kd.R_far (p := ⟨gb183, 1, none⟩) (Kd.R_far (p := ⟨gb183, 0, none⟩) (Kd.R_types HO_5.out BK183.out (by decide)) (fun _ hk => hk.2) (.slice Ao13 t176.length co13)) (fun _ hk => hk.2) (.slice Ao15 t179.length co15)) (fun _ h_ => h_.1)))) (by decide) hg); have n3_ := Aside0.mk (blk_grown (g := gb183) (o := .cells #[.slice Ao13 t176.length co13, .slice Ao15 t179.length co15] 27 (0, 0)) (by (with_reducible repeat (first | refine blk_drewN ?_ _ | refine blk_drew ?_ | refine blk_alloc ?_ _)); refine blk_put (cs := #[.slice Ao13 t176.length co13, .slice none 0 0]) ?_ 1 _ rfl; (with_reducible repeat (first | refine blk_drewN ?_ _ | refine blk_drew ?_ | refine blk_alloc ?_ _)); refine blk_put (cs := #[.slice none 0 0, .slice none 0 0]) ?_ 0 _ rfl; (with_reducible repeat (first | refine blk_drewN ?_ _ | refine blk_drew ?_ | refine blk_alloc ?_ _)); exact BK183.out) hg (Kd.R_ne HO_5.out BK183.out (by decide))); have n4_ := Aside0.mk (hb); have n5_ := Aside0.mk (ho); clear BK171; clear HO178; clear HO181; clear BK183; clear HB; clear HO_5; have BK171 := n0_; have HO178 := n1_; have HO181 := n2_; have BK183 := n3_; have HB := n4_; have HO187 := n5_; clear n0_ n1_ n2_ n3_ n4_ n5_; clear ho hb hg hat))
              go_roundg k1
              case measure => have := HK1.out; omega
              case rel => exact ⟨(y185), (wrap64 (x6_1 + 1)), (by first | rfl | (simp; done) | (simp [*]; done)), H', ⟨by have := HK1.out; omega⟩, ⟨by (with_reducible repeat (first | apply Kd.R_alloc | apply Kd.R_drewN | apply Kd.R_drew)); exact HO187.out⟩, ⟨by (with_reducible repeat (first | refine blk_drewN ?_ _ | refine blk_drew ?_ | refine blk_alloc ?_ _)); exact BK171.out⟩, ⟨by repeat (first | (with_reducible first | exact HB.out | apply below_alloc | apply pw_below_drewN | apply below_drew1 | refine below_set ?_ GE171.out | refine below_set ?_ GE183.out) | exact HB.out)⟩⟩
            · rw [if_neg c18] at H
              exact absurd H (by simp)
        · rw [if_neg c7] at H
          exact absurd H (by simp)
      · rw [if_neg c6] at H
        have c6b0 : decide (x6_1 < (l0.length : Int)) = false := decide_eq_false c6
        clear c6
        (first | rw [c6b0] | (simp only [i64_w, i32_w]; rw [c6b0]) | skip)
        obtain rfl := Option.some.inj H
        go_wp2
        go_ret
        exact ⟨_, by first | rfl | (simp [errW_none, errW_some] <;> rfl) | (simp [*, errW_none, errW_some] <;> rfl), by (with_reducible repeat (first | apply Kd.R_alloc | apply Kd.R_drewN | apply Kd.R_drew)); exact HO_5.out, by repeat (first | (with_reducible first | exact HB.out | apply below_alloc | apply pw_below_drewN | apply below_drew1 | refine below_set ?_ GE171.out) | exact HB.out)⟩

/-! ### impl_copyInts: function 76 -/
def impl_copyInts.f (l0 : List Int) : Option (List Int) := if ([] : List Int).length + l0.length < 17592186044416 then (some (([] : List Int) ++ l0)) else (none)
set_option maxHeartbeats 8000000 in
set_option maxRecDepth 100000 in
theorem impl_copyInts.calls (A0 : Option Addr) (c0 : Nat) (l0 : List Int) (r : List Int) (w : World) (hr0 : Kd.C (Kd.int .i64) w A0 l0.length l0) (hc0 : l0.length ≤ c0) (h : impl_copyInts.f l0 = some r) :
    Calls Try.prog 76 #[.slice A0 l0.length c0] w fun e w' => ∃ v0_ : Value, e = .returned (v0_) ∧ Kd.R (Kd.int .i64) 3 w' w.heap.size (fun _ => True) v0_ r ∧ Below w.heap.size w w' := by
  have HR0 := Aside0.mk hr0
  have HC0 := Aside0.mk hc0
  clear hr0 hc0
  have HB := Aside0.mk (Below.refl w.heap.size w)
  have H : (if ([] : List Int).length + l0.length < 17592186044416 then (some (([] : List Int) ++ l0)) else (none)) = some r := h
  clear h
  by_cases c2 : ([] : List Int).length + l0.length < 17592186044416
  · rw [if_pos c2] at H
    have LMc2 := Aside0.mk c2
    clear c2
    obtain ⟨y188, hy188⟩ : ∃ y_ : List Int, y_ = (([] : List Int) ++ l0) := ⟨_, rfl⟩
    replace H : (some y188) = some r := by first | (rw [hy188]; with_reducible exact H) | (have H2_ := (Option.bind_some _ _).symm.trans H; rw [hy188]; with_reducible exact H2_) | (have H2_ := (Option.bind_some _ _).symm.trans H; with_reducible exact H2_) | with_reducible exact H | (rw [hy188]; exact H) | exact H
    have Ny188 := Aside0.mk hy188
    clear hy188
    obtain rfl := Option.some.inj H
    go_enter Try.func76, Try.ntmps76
    go_wp2_with (first | ((with_reducible refine gate_builtin (b := .append) (xs := #[.const (.slice none 0 0), .tmp 3]) rfl ?_); at_builtin; refine Kd.R_append_rows (Kd.int .i64) (w0 := w) w.heap.size rfl (.const (.slice none 0 0)) (.tmp 3) 22 3 (.int .i64 0) 8 rfl Try.underlying22 info3 rfl (by decide) (by omega) (.slice none 0 0) ([] : List Int) l0 _ _ _ (fun _ => True) (fun _ => False) rfl rfl ?aO ?aR (fun _ _ h => h) (fun _ h => h.elim) ?aF ?aB ?aS ?aL ?_; (case aR => repeat (first | exact HR0.out | (with_reducible refine Kd.C_alloc ?_ _) | (with_reducible refine Kd.C_drewN ?_ _) | (with_reducible refine Kd.C_drew ?_))); (case aB => exact (by repeat (first | (with_reducible first | exact HB.out | apply below_alloc | apply pw_below_drewN | apply below_drew1) | exact HB.out))); (case aF => exact (fun _ _ => trivial)); (case aO => exact ((Kd.R_nil _ _ _ _ (fun _ => True)))); (case aS => exact (below_size (by repeat (first | (with_reducible first | exact HB.out | apply below_alloc | apply pw_below_drewN | apply below_drew1) | exact HB.out)))); (case aL => have := LMc2.out; omega); intro v189 w3 ho hb hg hat; rw [← Ny188.out] at ho; have n0_ := Aside0.mk (hb); have n1_ := Aside0.mk (ho); clear HB; have HB := n0_; have HO190 := n1_; clear n0_ n1_; clear ho hb hg hat))
    go_ret
    exact ⟨_, by first | rfl | (simp [errW_none, errW_some] <;> rfl) | (simp [*, errW_none, errW_some] <;> rfl), by (with_reducible repeat (first | apply Kd.R_alloc | apply Kd.R_drewN | apply Kd.R_drew)); exact HO190.out, by repeat (first | (with_reducible first | exact HB.out | apply below_alloc | apply pw_below_drewN | apply below_drew1) | exact HB.out)⟩
  · rw [if_neg c2] at H
    exact absurd H (by simp)

end Go.Proofs.Ytajblkfgdalldaa.PFnExactPoolDrop
