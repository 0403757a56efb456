/- For every ledger and every payment the program's Pay tells what the reference tells, the ledger that was handed in stays as it was, and the ledger that it tells shares nothing; no condition. -/
import Derived.Test.YtajblkfgdalldaaPFnExactPayx0
import Derived.Test.YtajblkfgdalldaaPFnExactPayx1
import Derived.Test.YtajblkfgdalldaaPFnExactPayx2
import Derived.Test.YtajblkfgdalldaaPFnExactPayx3
import Derived.Test.YtajblkfgdalldaaPFnExactPayx4
import Derived.Test.YtajblkfgdalldaaH
import Derived.Test.YtajblkfgdalldaaRowKit
namespace Go.Proofs.Ytajblkfgdalldaa.Law
open Go.RowKit Go.Proofs.YtajblkfgdalldaaW.PrintWords Go.Proofs.YtajblkfgdalldaaW.PrintLast Go.Proofs.YtajblkfgdalldaaW.PrintMore Go.Proofs.YtajblkfgdalldaaH Go.Proofs.Ytajblkfgdalldaa.PFnExactPay
set_option linter.unusedVariables false
set_option linter.unusedSimpArgs false

theorem szIntS_val (l : List Int) (a : Int) (hm : l.length ≤ maxLen) (h0 : 0 ≤ a) (h1 : a ≤ 1048576) : laws_szIntS.f l a = some (if a < l.length then -1 else a - l.length) := by
  unfold maxLen at hm
  have e : wrap64 (a - (l.length : Int)) = a - l.length := by unfold wrap64; omega
  unfold laws_szIntS.f
  rw [e]
  by_cases h : a < l.length
  · rw [if_pos (by omega), if_pos h]
  · rw [if_neg (by omega), if_neg h]

theorem szLedger_val (l m : List Int) (a : Int) (hl : l.length ≤ maxLen) (hm : m.length ≤ maxLen) (h0 : 0 ≤ a) (h1 : a ≤ 1048576) : ∃ r, laws_szLedger.f l m a = some r ∧ (r < 0 ∨ (0 ≤ r ∧ r = a - l.length - m.length)) := by
  unfold laws_szLedger.f
  rw [szIntS_val l a hl h0 h1, Option.bind_some]
  by_cases h : a < l.length
  · rw [if_pos h, if_pos (by omega)]
    exact ⟨-1, rfl, .inl (by omega)⟩
  · rw [if_neg h, if_neg (by omega), szIntS_val m _ hm (by omega) (by omega), Option.bind_some]
    by_cases h2 : a - l.length < m.length
    · rw [if_pos h2, if_pos (by omega)]
      exact ⟨-1, rfl, .inl (by omega)⟩
    · rw [if_neg h2, if_neg (by omega)]
      exact ⟨_, rfl, .inr ⟨by omega, rfl⟩⟩

theorem toIntS_loop (l : List Int) (hl : l.length ≤ 35184372088832) : ∀ (d n : Nat) (x : List Int), l.length - n = d → n ≤ l.length → x.length = l.length → x.take n = l.take n → Ev (fun k => laws_toIntS.l0 k l x (n : Int)) l := by
  intro d
  induction d with
  | zero =>
    intro n x hd hn hx ht
    obtain rfl : n = l.length := by omega
    refine Ev.step (f := fun _ => some x) (fun k => by simp only [laws_toIntS.l0]; rw [if_neg (by omega)]) (ev_some ?_)
    rw [List.take_of_length_le (by omega), List.take_of_length_le (by omega)] at ht
    exact ht
  | succ d ih =>
    intro n x hd hn hx ht
    have h1 : n < l.length := by omega
    refine Ev.step (f := fun k => laws_toIntS.l0 k l (x.set n l[n]) ((n + 1 : Nat) : Int)) (fun k => ?_) (ih (n + 1) (x.set n l[n]) (by omega) (by omega) (by simpa using hx) ?_)
    · simp only [laws_toIntS.l0]
      rw [if_pos (by omega), if_pos (by omega), if_pos (by omega), up1 n (by omega), rd_nat l n h1]
      rfl
    · rw [List.take_succ_eq_append_getElem (by simpa [hx] using h1), List.take_succ_eq_append_getElem h1]
      simp [List.take_set_of_le, ht]
theorem toIntS_ev (l : List Int) (hl : l.length ≤ 35184372088832) : Ev (fun k => laws_toIntS.f k l) l := by
  unfold laws_toIntS.f
  refine ev_pos (by omega) (ev_pos (by simpa using hl) ?_)
  exact toIntS_loop l hl l.length 0 _ (by omega) (by omega) (by simp) (by simp)

theorem toLedger_ev (l m : List Int) (hl : l.length ≤ 35184372088832) (hm : m.length ≤ 35184372088832) : Ev (fun k => laws_toLedger.f k l m) (l, m) := by
  unfold laws_toLedger.f
  exact Ev.bind (toIntS_ev l hl) (Ev.bind (toIntS_ev m hm) (ev_some rfl))

theorem eqIntS_loop (a b : List Int) (hl : a.length ≤ 35184372088832) (hab : a.length = b.length) : ∀ (d n : Nat), a.length - n = d → n ≤ a.length → Ev (fun k => laws_eqIntS.l0 k a b (n : Int)) (decide (a.drop n = b.drop n)) := by
  intro d
  induction d with
  | zero =>
    intro n hd hn
    obtain rfl : n = a.length := by omega
    refine Ev.step (f := fun _ => some true) (fun k => by simp only [laws_eqIntS.l0]; rw [if_neg (by omega)]) (ev_some ?_)
    rw [List.drop_of_length_le (by omega), List.drop_of_length_le (by omega)]; rfl
  | succ d ih =>
    intro n hd hn
    have h1 : n < a.length := by omega
    have h2 : n < b.length := by omega
    have e : (a.drop n = b.drop n) ↔ (a[n] = b[n] ∧ a.drop (n + 1) = b.drop (n + 1)) := by
      rw [List.drop_eq_getElem_cons h1, List.drop_eq_getElem_cons h2, List.cons.injEq]
    by_cases hc : a[n] = b[n]
    · refine Ev.step (f := fun k => laws_eqIntS.l0 k a b ((n + 1 : Nat) : Int)) (fun k => ?_) (ev_eq (ih (n + 1) (by omega) (by omega)) ?_)
      · simp only [laws_eqIntS.l0]
        rw [if_pos (by omega), if_pos (by omega), if_pos (by omega), rd_nat a n h1, rd_nat b n h2, if_pos hc, up1 n (by omega)]
      · exact decide_eq_decide.mpr (by rw [e]; simp [hc])
    · refine Ev.step (f := fun _ => some false) (fun k => ?_) (ev_some ?_)
      · simp only [laws_eqIntS.l0]
        rw [if_pos (by omega), if_pos (by omega), if_pos (by omega), rd_nat a n h1, rd_nat b n h2, if_neg hc]
      · exact (decide_eq_false (by rw [e]; exact fun h => hc h.1)).symm
theorem eqIntS_ev (a b : List Int) (hl : a.length ≤ 35184372088832) : Ev (fun k => laws_eqIntS.f k a b) (decide (a = b)) := by
  unfold laws_eqIntS.f
  by_cases h : a.length = b.length
  · exact ev_pos (by omega) (eqIntS_loop a b hl h a.length 0 (by omega) (by omega))
  · exact ev_neg (by omega) (ev_some (decide_eq_false (fun e => h (by rw [e]))).symm)

theorem eqLedger_refl (l m : List Int) (hl : l.length ≤ 35184372088832) (hm : m.length ≤ 35184372088832) : Ev (fun k => laws_eqLedger.f k l m l m) true := by
  unfold laws_eqLedger.f
  refine Ev.bind (eqIntS_ev l l hl) (ev_pos (by simp) ?_)
  exact Ev.bind (eqIntS_ev m m hm) (ev_pos (by simp) (ev_some rfl))

def marks (a : Int) (n : Nat) : List Int := (List.range n).map fun i : Nat => a + (i : Int)
theorem marks_length (a : Int) (n : Nat) : (marks a n).length = n := by simp [marks]
theorem marks_at (a : Int) (n i : Nat) (h : i < (marks a n).length) : (marks a n)[i] = a + (i : Int) := by simp [marks]
theorem markIntS_loop (a : Int) (N : Nat) (h0 : 0 ≤ a) (h1 : a + N < 4611686018427387904) : ∀ (d n : Nat) (x : List Int), N - n = d → n ≤ N → x.length = N → x.take n = (marks a N).take n → Ev (fun k => laws_markIntS.l0 k x (a + n) (n : Int)) (a + N, marks a N) := by
  intro d
  induction d with
  | zero =>
    intro n x hd hn hx ht
    obtain rfl : n = N := by omega
    refine Ev.step (f := fun _ => some (a + n, x)) (fun k => by simp only [laws_markIntS.l0]; rw [if_neg (by omega)]) (ev_some ?_)
    rw [List.take_of_length_le (by omega), List.take_of_length_le (by simp [marks_length])] at ht
    rw [ht]
  | succ d ih =>
    intro n x hd hn hx ht
    have hlt : n < N := by omega
    refine Ev.step (f := fun k => laws_markIntS.l0 k (x.set n (a + n)) (a + (n + 1 : Nat)) ((n + 1 : Nat) : Int)) (fun k => ?_) (ih (n + 1) (x.set n (a + n)) (by omega) (by omega) (by simpa using hx) ?_)
    · simp only [laws_markIntS.l0]
      rw [if_pos (by omega), if_pos (by omega), up1 n (by omega), up1' (a + n) (by omega) (by omega)]
      rw [show a + (n : Int) + 1 = a + ((n + 1 : Nat) : Int) by omega]
      rfl
    · rw [List.take_succ_eq_append_getElem (by simpa [hx] using hlt), List.take_succ_eq_append_getElem (by simpa [marks_length] using hlt)]
      simp [List.take_set_of_le, ht, marks_at]
theorem markIntS_ev (l : List Int) (a : Int) (h0 : 0 ≤ a) (h1 : a + l.length < 4611686018427387904) : Ev (fun k => laws_markIntS.f k l a) (a + l.length, marks a l.length) := by
  unfold laws_markIntS.f
  have := markIntS_loop a l.length h0 h1 l.length 0 l (by omega) (by omega) rfl (by simp)
  simpa using this

theorem markLedger_ev (l m : List Int) (a : Int) (h0 : 0 ≤ a) (h1 : a + l.length + m.length < 4611686018427387904) : Ev (fun k => laws_markLedger.f k l m a) (a + l.length + m.length, marks a l.length, marks (a + l.length) m.length) := by
  unfold laws_markLedger.f
  refine Ev.bind (markIntS_ev l a h0 (by omega)) ?_
  exact Ev.bind (markIntS_ev m _ (by omega) (by omega)) (ev_some rfl)

theorem heldIntS_loop (a : Int) (N : Nat) (h0 : 0 ≤ a) (h1 : a + N < 4611686018427387904) : ∀ (d n : Nat), N - n = d → n ≤ N → Ev (fun k => laws_heldIntS.l0 k (marks a N) (a + n) (n : Int)) (a + N) := by
  intro d
  have hl := marks_length a N
  induction d with
  | zero =>
    intro n hd hn
    obtain rfl : n = N := by omega
    exact Ev.step (f := fun _ => some (a + n)) (fun k => by simp only [laws_heldIntS.l0]; rw [if_neg (by omega)]) (ev_some rfl)
  | succ d ih =>
    intro n hd hn
    have hlt : n < (marks a N).length := by omega
    refine Ev.step (f := fun k => laws_heldIntS.l0 k (marks a N) (a + (n + 1 : Nat)) ((n + 1 : Nat) : Int)) (fun k => ?_) (ih (n + 1) (by omega) (by omega))
    simp only [laws_heldIntS.l0]
    rw [if_pos (by omega), if_pos (by omega), rd_nat _ n hlt, marks_at, if_pos rfl, up1 n (by omega), up1' (a + n) (by omega) (by omega)]
    rw [show a + (n : Int) + 1 = a + ((n + 1 : Nat) : Int) by omega]
theorem heldIntS_ev (a : Int) (N : Nat) (h0 : 0 ≤ a) (h1 : a + N < 4611686018427387904) : Ev (fun k => laws_heldIntS.f k (marks a N) a) (a + N) := by
  unfold laws_heldIntS.f
  have := heldIntS_loop a N h0 h1 N 0 (by omega) (by omega)
  simpa using this

theorem heldLedger_ev (a : Int) (n m : Nat) (h0 : 0 ≤ a) (h1 : a + n + m < 4611686018427387904) : Ev (fun k => laws_heldLedger.f k (marks a n) (marks (a + n) m) a) (a + n + m) := by
  unfold laws_heldLedger.f
  refine Ev.bind (heldIntS_ev a n h0 (by omega)) (ev_neg (by omega) ?_)
  exact Ev.bind (heldIntS_ev (a + n) m (by omega) (by omega)) (ev_neg (by omega) (ev_some rfl))

theorem impl_Pay_ev (h n : List Int) (f t a m : Int) (b1 : h.length ≤ 1048576) (b2 : n.length ≤ 1048576) : Ev (fun k => impl_Pay.f k h n f t a m) (payL h n f t a m) :=
  ⟨0, fun k _ => by show impl_Pay.f k h n f t a m = _; unfold impl_Pay.f; rw [if_pos ⟨b1, b2⟩]⟩

theorem spec_Pay_ev (h n : List Int) (f t a m : Int) (b1 : h.length ≤ 1048576) (b2 : n.length ≤ 1048576) : Ev (fun k => spec_Pay.f k h n f t a m) (payL h n f t a m) :=
  ⟨0, fun k _ => by show spec_Pay.f k h n f t a m = _; unfold spec_Pay.f; rw [if_pos ⟨b1, b2⟩]⟩

instance : AggT Try.prog 24 2 := ⟨by kernel_rfl, by kernel_rfl⟩
instance : AggT Try.prog 50 4 := ⟨by kernel_rfl, by kernel_rfl⟩
set_option maxHeartbeats 8000000 in
set_option maxRecDepth 100000 in
theorem walk0 (A0_0 : Option Addr) (c0_0 : Nat) (h : List Int) (A0_1 : Option Addr) (c0_1 : Nat) (n : List Int) (f t a m r : Int) (w : World) (hr0 : Aside0 (Kd.C (Kd.int .i64) w A0_0 h.length h)) (hc0 : Aside0 (h.length ≤ c0_0)) (hr1 : Aside0 (Kd.C (Kd.int .i64) w A0_1 n.length n)) (hc1 : Aside0 (n.length ≤ c0_1)) (hsz : Aside0 (laws_szLedger.f h n 1048576 = some r)) (hr_ : decide (r < 0) = true) :
    Calls Try.prog 8 #[.agg #[.slice A0_0 h.length c0_0, .slice A0_1 n.length c0_1], .agg #[.int .i64 f, .int .i64 t, .int .i64 a, .int .i64 m]] w fun e w' => e = .returned (.bool true) ∧ Below w.heap.size w w' := by
  have HS := SS.nil w
  go_enter Try.func8, Try.ntmps8
  go_wp2_with (first | ((with_reducible refine gate_dst (N := 2) rfl ?_); refine ev_box HS (cs := #[.slice A0_0 h.length c0_0, .slice A0_1 n.length c0_1]) rfl rfl rfl ?_; clear HS; intro g2 w1 HS) | ((with_reducible refine gate_dst (N := 3) rfl ?_); refine ev_box HS (cs := #[.int .i64 f, .int .i64 t, .int .i64 a, .int .i64 m]) rfl rfl rfl ?_; clear HS; intro g3 w1 HS) | ((with_reducible refine gate_load rfl ?_); first | refine ev_loadC HS rfl rfl rfl (by rfl) ?_ | refine ev_loadS HS rfl rfl rfl (by rfl) ?_) | ((with_reducible refine gate_dst (N := 18) rfl ?_); refine ev_call (some 18) rfl rfl Try.func15 (by kernel_rfl) rfl rfl (by simp only [List.map_toArray, List.map_cons, List.map_nil]; rfl) ?_; refine (HS.val (laws_szLedger.calls (w := _) (hr0_0 := Kd.C_below hr0.out HS.below) (hc0_0 := hc0.out) (hr0_1 := Kd.C_below hr1.out HS.below) (hc0_1 := hc1.out) (h := hsz.out))).mono ?_; clear HS; rintro e w1 ⟨rfl, HS⟩; refine ⟨_, rfl, ?_⟩))
  go_ret
  exact ⟨rfl, HS.below⟩

set_option maxHeartbeats 8000000 in
set_option maxRecDepth 100000 in
theorem walk1 (A0_0 : Option Addr) (c0_0 : Nat) (h : List Int) (A0_1 : Option Addr) (c0_1 : Nat) (n : List Int) (f t a m r : Int) (rh rn : List Int) (rc k1 : Int) (mh mn : List Int) (m1 : Int) (gh gn : List Int) (w : World) (hr0 : Aside0 (Kd.C (Kd.int .i64) w A0_0 h.length h)) (hc0 : Aside0 (h.length ≤ c0_0)) (hr1 : Aside0 (Kd.C (Kd.int .i64) w A0_1 n.length n)) (hc1 : Aside0 (n.length ≤ c0_1)) (hsz : Aside0 (laws_szLedger.f h n 1048576 = some r))
    (k_hto : Nat) (hto : Aside0 (laws_toLedger.f k_hto h n = some (h, n)))
    (htx : Aside0 (laws_toTx.f f t a m = some (f, t, a, m)))
    (k_hps : Nat) (hps : Aside0 (spec_Pay.f k_hps h n f t a m = some (rh, rn, rc)))
    (k_hpi : Nat) (hpi : Aside0 (impl_Pay.f k_hpi h n f t a m = some (rh, rn, rc)))
    (k_he1 : Nat) (he1 : Aside0 (laws_eqLedger.f k_he1 rh rn rh rn = some true))
    (k_he2 : Nat) (he2 : Aside0 (laws_eqLedger.f k_he2 h n h n = some true))
    (k_hm1 : Nat) (hm1 : Aside0 (laws_markLedger.f k_hm1 h n 1 = some (k1, mh, mn)))
    (k_hm2 : Nat) (hm2 : Aside0 (laws_markLedger.f k_hm2 rh rn 1 = some (m1, gh, gn)))
    (k_hh : Nat) (hh : Aside0 (laws_heldLedger.f k_hh gh gn 1 = some m1)) (hr_ : decide (r < 0) = false) (hk_ : decide (k1 < 0) = false) (hq_ : decide (m1 < 0) = false) (hl_gh : Aside0 (rh.length = gh.length)) (hl_gn : Aside0 (rn.length = gn.length)) :
    Calls Try.prog 8 #[.agg #[.slice A0_0 h.length c0_0, .slice A0_1 n.length c0_1], .agg #[.int .i64 f, .int .i64 t, .int .i64 a, .int .i64 m]] w fun e w' => e = .returned (.bool true) ∧ Below w.heap.size w w' := by
  have HS := SS.nil w
  go_enter Try.func8, Try.ntmps8
  go_upto_region 5 with (first | ((with_reducible refine gate_dst (N := 2) rfl ?_); refine ev_box HS (cs := #[.slice A0_0 h.length c0_0, .slice A0_1 n.length c0_1]) rfl rfl rfl ?_; clear HS; intro g2 w1 HS) | ((with_reducible refine gate_dst (N := 3) rfl ?_); refine ev_box HS (cs := #[.int .i64 f, .int .i64 t, .int .i64 a, .int .i64 m]) rfl rfl rfl ?_; clear HS; intro g3 w1 HS) | ((with_reducible refine gate_load rfl ?_); first | refine ev_loadC HS rfl rfl rfl (by rfl) ?_ | refine ev_loadS HS rfl rfl rfl (by rfl) ?_) | ((with_reducible refine gate_dst (N := 18) rfl ?_); refine ev_call (some 18) rfl rfl Try.func15 (by kernel_rfl) rfl rfl (by simp only [List.map_toArray, List.map_cons, List.map_nil]; rfl) ?_; refine (HS.val (laws_szLedger.calls (w := _) (hr0_0 := Kd.C_below hr0.out HS.below) (hc0_0 := hc0.out) (hr0_1 := Kd.C_below hr1.out HS.below) (hc0_1 := hc1.out) (h := hsz.out))).mono ?_; clear HS; rintro e w1 ⟨rfl, HS⟩; refine ⟨_, rfl, ?_⟩))
  refine start_ (n := 11) (S := fun w' => SS w w' _) (ds := []) #[false, false, false, false, false, false, false, false, false, false, false] (by kernel_rfl) rfl rfl HS.drew (fun _ => ?_)
  replace HS := HS.drew
  generalize w1.drew = w1 at HS ⊢
  refine take_ (i := 0) (N := some 22) (a' := ?_) #[true, false, false, false, false, false, false, false, false, false, false] rfl rfl (by kernel_rfl) (fun _ _ _ h => h) (Or.inl ⟨by rfl, fun w' hs => rl_S hs rfl rfl (by rfl)⟩) (HS.drop 0) ?_ ?_
  rotate_left
  · simp only [Act.put, List.setIfInBounds_toArray, List.set_cons_zero, List.set_cons_succ, i64_w, i32_w]; rfl
  refine take_ (i := 2) (N := some 24) (a' := ?_) #[true, false, true, false, false, false, false, false, false, false, false] rfl rfl (by kernel_rfl) (fun _ _ _ h => h) (Or.inl ⟨by rfl, fun w' hs => rl_S hs rfl rfl (by rfl)⟩) (HS.drop 0) ?_ ?_
  rotate_left
  · simp only [Act.put, List.setIfInBounds_toArray, List.set_cons_zero, List.set_cons_succ, i64_w, i32_w]; rfl
  refine join_ (σ := Option Addr × Nat × Option Addr × Nat × Option Addr × Nat × Option Addr × Nat × Nat) 2 #[true, true, true, true, true, true, true, true, true, false, false] (fun s_ => [(21, .tuple #[.agg #[.slice s_.2.2.2.2.1 rh.length s_.2.2.2.2.2.1, .slice s_.2.2.2.2.2.2.1 rn.length s_.2.2.2.2.2.2.2.1], .int .i64 rc]), (27, .agg #[.slice s_.2.2.2.2.1 rh.length s_.2.2.2.2.2.1, .slice s_.2.2.2.2.2.2.1 rn.length s_.2.2.2.2.2.2.2.1]), (28, .int .i64 rc), (23, .agg #[.slice s_.1 h.length s_.2.1, .slice s_.2.2.1 n.length s_.2.2.2.1]), (25, .agg #[.int .i64 f, .int .i64 t, .int .i64 a, .int .i64 m]), (26, .tuple #[.agg #[.slice s_.2.2.2.2.1 rh.length s_.2.2.2.2.2.1, .slice s_.2.2.2.2.2.2.1 rn.length s_.2.2.2.2.2.2.2.1], .int .i64 rc]), (6, .pointer (some ⟨s_.2.2.2.2.2.2.2.2, 0, none⟩))]) (fun s_ w' => SS w w' [row (Kd.int .i64) 3 (.slice s_.2.2.2.2.1 rh.length s_.2.2.2.2.2.1) rh, row (Kd.int .i64) 3 (.slice s_.2.2.2.2.2.2.1 rn.length s_.2.2.2.2.2.2.2.1) rn, row (Kd.int .i64) 3 (.slice s_.1 h.length s_.2.1) h, row (Kd.int .i64) 3 (.slice s_.2.2.1 n.length s_.2.2.2.1) n, box s_.2.2.2.2.2.2.2.2 #[.slice none 0 0, .slice none 0 0] 27, box g3 #[.int .i64 f, .int .i64 t, .int .i64 a, .int .i64 m] 50, box g2 #[.slice A0_0 h.length c0_0, .slice A0_1 n.length c0_1] 24]) ?_ (fun hcont => ?_)
  rotate_left
  · refine two_ (i := 1) (j := 8) (Ni := some 23) (Nj := some 6) #[true, true, true, false, false, false, false, false, false, false, false] #[true, false, true, false, false, false, false, false, true, false, false] rfl rfl rfl rfl (by kernel_rfl) (by decide) (by decide) (fun K hK => ?_) (fun K hK => ?_)
    · refine goes_ Try.func17 (by kernel_rfl) rfl _ (by rfl) rfl rfl (by simp only [List.map_toArray, List.map_cons, List.map_nil]; rfl) ?_
      refine (HS.get2 rfl rfl (laws_toLedger.calls (w := _) (hr0_0 := Kd.C_below hr0.out HS.below) (hc0_0 := hc0.out) (hr0_1 := Kd.C_below hr1.out HS.below) (hc0_1 := hc1.out) (h := hto.out))).mono ?_
      clear HS
      rintro e w1 ⟨A23, c23, B23, d23, rfl, HS⟩
      refine ⟨_, rfl, ?_⟩
      refine hK.out _ _ (HS.drop 2) (fun _ => ?_)
      clear hK K
      refine norm_ (a' := ?_) ?_ ?_
      rotate_left
      · simp only [Act.put, List.setIfInBounds_toArray, List.set_cons_zero, List.set_cons_succ, i64_w, i32_w]; rfl
      refine two_ (i := 3) (j := 8) (Ni := some 25) (Nj := some 6) #[true, true, true, true, false, false, false, false, false, false, false] #[true, true, true, false, false, false, false, false, true, false, false] rfl rfl rfl rfl (by kernel_rfl) (by decide) (by decide) (fun K hK => ?_) (fun K hK => ?_)
      · refine goes_ Try.func35 (by kernel_rfl) rfl _ (by rfl) rfl rfl (by simp only [List.map_toArray, List.map_cons, List.map_nil]; rfl) ?_
        refine (HS.val (laws_toTx.calls (w := _)  (h := htx.out))).mono ?_
        clear HS
        rintro e w1 ⟨rfl, HS⟩
        refine ⟨_, rfl, ?_⟩
        refine hK.out _ _ (HS.drop 2) (fun _ => ?_)
        clear hK K
        refine norm_ (a' := ?_) ?_ ?_
        rotate_left
        · simp only [Act.put, List.setIfInBounds_toArray, List.set_cons_zero, List.set_cons_succ, i64_w, i32_w]; rfl
        refine two_ (i := 4) (j := 8) (Ni := some 26) (Nj := some 6) #[true, true, true, true, true, false, false, false, false, false, false] #[true, true, true, true, false, false, false, false, true, false, false] rfl rfl rfl rfl (by kernel_rfl) (by decide) (by decide) (fun K hK => ?_) (fun K hK => ?_)
        · refine goes_ Try.func34 (by kernel_rfl) rfl _ (by rfl) rfl rfl (by simp only [List.map_toArray, List.map_cons, List.map_nil]; rfl) ?_
          refine (HS.get2 rfl rfl (spec_Pay.calls (w := _) (hr0_0 := HS.reads A23) (hc0_0 := HS.cap A23) (hr0_1 := HS.reads B23) (hc0_1 := HS.cap B23) (h := hps.out))).mono ?_
          clear HS
          rintro e w1 ⟨A26, c26, B26, d26, rfl, HS⟩
          refine ⟨_, rfl, ?_⟩
          refine hK.out _ _ (HS.drop 4) (fun _ => ?_)
          clear hK K
          refine norm_ (a' := ?_) ?_ ?_
          rotate_left
          · simp only [Act.put, List.setIfInBounds_toArray, List.set_cons_zero, List.set_cons_succ, i64_w, i32_w]; rfl
          refine pure_ (i := 5) (N := some 21) (v := ?_) (a' := ?_) #[true, true, true, true, true, true, false, false, false, false, false] rfl rfl (by kernel_rfl) (fun _ _ _ h => h) (Or.inl ⟨by rfl, ?_⟩) ?_ ?_
          rotate_left
          · intro w'; go_simp; with_reducible rfl
          rotate_left
          · simp only [Act.put, List.setIfInBounds_toArray, List.set_cons_zero, List.set_cons_succ, i64_w, i32_w]; rfl
          refine pure_ (i := 6) (N := some 27) (v := ?_) (a' := ?_) #[true, true, true, true, true, true, true, false, false, false, false] rfl rfl (by kernel_rfl) (fun _ _ _ h => h) (Or.inl ⟨by rfl, ?_⟩) ?_ ?_
          rotate_left
          · intro w'; go_simp; with_reducible rfl
          rotate_left
          · simp only [Act.put, List.setIfInBounds_toArray, List.set_cons_zero, List.set_cons_succ, i64_w, i32_w]; rfl
          refine pure_ (i := 7) (N := some 28) (v := ?_) (a' := ?_) #[true, true, true, true, true, true, true, true, false, false, false] rfl rfl (by kernel_rfl) (fun _ _ _ h => h) (Or.inl ⟨by rfl, ?_⟩) ?_ ?_
          rotate_left
          · intro w'; go_simp; with_reducible rfl
          rotate_left
          · simp only [Act.put, List.setIfInBounds_toArray, List.set_cons_zero, List.set_cons_succ, i64_w, i32_w]; rfl
          refine one_ (i := 8) (N := some 6) #[true, true, true, true, true, true, true, true, true, false, false] rfl rfl (by kernel_rfl) (by decide) (fun K hK => ?_)
          refine al_R HS (by rfl) rfl rfl ?_
          clear HS
          intro g6 w1 HS
          refine hK.out _ _ (HS.drop 5) (fun _ => ?_)
          clear hK K
          refine norm_ (a' := ?_) ?_ ?_
          rotate_left
          · simp only [Act.put, List.setIfInBounds_toArray, List.set_cons_zero, List.set_cons_succ, i64_w, i32_w]; rfl
          have hp := HS.perm [1, 2, 3, 4, 0, 5, 6] (by decide)
          have hc := hcont ⟨A23, c23, B23, d23, A26, c26, B26, d26, g6⟩ w1 hp
          simp only [putAll, Act.put, List.setIfInBounds_toArray, List.set_cons_zero, List.set_cons_succ, i64_w, i32_w] at hc
          exact hc
        · refine al_R HS (by rfl) rfl rfl ?_
          clear HS
          intro g6 w1 HS
          refine hK.out _ _ (HS.drop 3) (fun _ => ?_)
          clear hK K
          refine norm_ (a' := ?_) ?_ ?_
          rotate_left
          · simp only [Act.put, List.setIfInBounds_toArray, List.set_cons_zero, List.set_cons_succ, i64_w, i32_w]; rfl
          refine one_ (i := 4) (N := some 26) #[true, true, true, true, true, false, false, false, true, false, false] rfl rfl (by kernel_rfl) (by decide) (fun K hK => ?_)
          refine goes_ Try.func34 (by kernel_rfl) rfl _ (by rfl) rfl rfl (by simp only [List.map_toArray, List.map_cons, List.map_nil]; rfl) ?_
          refine (HS.get2 rfl rfl (spec_Pay.calls (w := _) (hr0_0 := HS.reads A23) (hc0_0 := HS.cap A23) (hr0_1 := HS.reads B23) (hc0_1 := HS.cap B23) (h := hps.out))).mono ?_
          clear HS
          rintro e w1 ⟨A26, c26, B26, d26, rfl, HS⟩
          refine ⟨_, rfl, ?_⟩
          refine hK.out _ _ (HS.drop 5) (fun _ => ?_)
          clear hK K
          refine norm_ (a' := ?_) ?_ ?_
          rotate_left
          · simp only [Act.put, List.setIfInBounds_toArray, List.set_cons_zero, List.set_cons_succ, i64_w, i32_w]; rfl
          refine pure_ (i := 5) (N := some 21) (v := ?_) (a' := ?_) #[true, true, true, true, true, true, false, false, true, false, false] rfl rfl (by kernel_rfl) (fun _ _ _ h => h) (Or.inl ⟨by rfl, ?_⟩) ?_ ?_
          rotate_left
          · intro w'; go_simp; with_reducible rfl
          rotate_left
          · simp only [Act.put, List.setIfInBounds_toArray, List.set_cons_zero, List.set_cons_succ, i64_w, i32_w]; rfl
          refine pure_ (i := 6) (N := some 27) (v := ?_) (a' := ?_) #[true, true, true, true, true, true, true, false, true, false, false] rfl rfl (by kernel_rfl) (fun _ _ _ h => h) (Or.inl ⟨by rfl, ?_⟩) ?_ ?_
          rotate_left
          · intro w'; go_simp; with_reducible rfl
          rotate_left
          · simp only [Act.put, List.setIfInBounds_toArray, List.set_cons_zero, List.set_cons_succ, i64_w, i32_w]; rfl
          refine pure_ (i := 7) (N := some 28) (v := ?_) (a' := ?_) #[true, true, true, true, true, true, true, true, true, false, false] rfl rfl (by kernel_rfl) (fun _ _ _ h => h) (Or.inl ⟨by rfl, ?_⟩) ?_ ?_
          rotate_left
          · intro w'; go_simp; with_reducible rfl
          rotate_left
          · simp only [Act.put, List.setIfInBounds_toArray, List.set_cons_zero, List.set_cons_succ, i64_w, i32_w]; rfl
          have hp := HS.perm [0, 1, 3, 4, 2, 5, 6] (by decide)
          have hc := hcont ⟨A23, c23, B23, d23, A26, c26, B26, d26, g6⟩ w1 hp
          simp only [putAll, Act.put, List.setIfInBounds_toArray, List.set_cons_zero, List.set_cons_succ, i64_w, i32_w] at hc
          exact hc
      · refine al_R HS (by rfl) rfl rfl ?_
        clear HS
        intro g6 w1 HS
        refine hK.out _ _ (HS.drop 3) (fun _ => ?_)
        clear hK K
        refine norm_ (a' := ?_) ?_ ?_
        rotate_left
        · simp only [Act.put, List.setIfInBounds_toArray, List.set_cons_zero, List.set_cons_succ, i64_w, i32_w]; rfl
        refine one_ (i := 3) (N := some 25) #[true, true, true, true, false, false, false, false, true, false, false] rfl rfl (by kernel_rfl) (by decide) (fun K hK => ?_)
        refine goes_ Try.func35 (by kernel_rfl) rfl _ (by rfl) rfl rfl (by simp only [List.map_toArray, List.map_cons, List.map_nil]; rfl) ?_
        refine (HS.val (laws_toTx.calls (w := _)  (h := htx.out))).mono ?_
        clear HS
        rintro e w1 ⟨rfl, HS⟩
        refine ⟨_, rfl, ?_⟩
        refine hK.out _ _ (HS.drop 3) (fun _ => ?_)
        clear hK K
        refine norm_ (a' := ?_) ?_ ?_
        rotate_left
        · simp only [Act.put, List.setIfInBounds_toArray, List.set_cons_zero, List.set_cons_succ, i64_w, i32_w]; rfl
        refine one_ (i := 4) (N := some 26) #[true, true, true, true, true, false, false, false, true, false, false] rfl rfl (by kernel_rfl) (by decide) (fun K hK => ?_)
        refine goes_ Try.func34 (by kernel_rfl) rfl _ (by rfl) rfl rfl (by simp only [List.map_toArray, List.map_cons, List.map_nil]; rfl) ?_
        refine (HS.get2 rfl rfl (spec_Pay.calls (w := _) (hr0_0 := HS.reads A23) (hc0_0 := HS.cap A23) (hr0_1 := HS.reads B23) (hc0_1 := HS.cap B23) (h := hps.out))).mono ?_
        clear HS
        rintro e w1 ⟨A26, c26, B26, d26, rfl, HS⟩
        refine ⟨_, rfl, ?_⟩
        refine hK.out _ _ (HS.drop 5) (fun _ => ?_)
        clear hK K
        refine norm_ (a' := ?_) ?_ ?_
        rotate_left
        · simp only [Act.put, List.setIfInBounds_toArray, List.set_cons_zero, List.set_cons_succ, i64_w, i32_w]; rfl
        refine pure_ (i := 5) (N := some 21) (v := ?_) (a' := ?_) #[true, true, true, true, true, true, false, false, true, false, false] rfl rfl (by kernel_rfl) (fun _ _ _ h => h) (Or.inl ⟨by rfl, ?_⟩) ?_ ?_
        rotate_left
        · intro w'; go_simp; with_reducible rfl
        rotate_left
        · simp only [Act.put, List.setIfInBounds_toArray, List.set_cons_zero, List.set_cons_succ, i64_w, i32_w]; rfl
        refine pure_ (i := 6) (N := some 27) (v := ?_) (a' := ?_) #[true, true, true, true, true, true, true, false, true, false, false] rfl rfl (by kernel_rfl) (fun _ _ _ h => h) (Or.inl ⟨by rfl, ?_⟩) ?_ ?_
        rotate_left
        · intro w'; go_simp; with_reducible rfl
        rotate_left
        · simp only [Act.put, List.setIfInBounds_toArray, List.set_cons_zero, List.set_cons_succ, i64_w, i32_w]; rfl
        refine pure_ (i := 7) (N := some 28) (v := ?_) (a' := ?_) #[true, true, true, true, true, true, true, true, true, false, false] rfl rfl (by kernel_rfl) (fun _ _ _ h => h) (Or.inl ⟨by rfl, ?_⟩) ?_ ?_
        rotate_left
        · intro w'; go_simp; with_reducible rfl
        rotate_left
        · simp only [Act.put, List.setIfInBounds_toArray, List.set_cons_zero, List.set_cons_succ, i64_w, i32_w]; rfl
        have hp := HS.perm [0, 1, 3, 4, 2, 5, 6] (by decide)
        have hc := hcont ⟨A23, c23, B23, d23, A26, c26, B26, d26, g6⟩ w1 hp
        simp only [putAll, Act.put, List.setIfInBounds_toArray, List.set_cons_zero, List.set_cons_succ, i64_w, i32_w] at hc
        exact hc
    · refine al_R HS (by rfl) rfl rfl ?_
      clear HS
      intro g6 w1 HS
      refine hK.out _ _ (HS.drop 1) (fun _ => ?_)
      clear hK K
      refine norm_ (a' := ?_) ?_ ?_
      rotate_left
      · simp only [Act.put, List.setIfInBounds_toArray, List.set_cons_zero, List.set_cons_succ, i64_w, i32_w]; rfl
      refine one_ (i := 1) (N := some 23) #[true, true, true, false, false, false, false, false, true, false, false] rfl rfl (by kernel_rfl) (by decide) (fun K hK => ?_)
      refine goes_ Try.func17 (by kernel_rfl) rfl _ (by rfl) rfl rfl (by simp only [List.map_toArray, List.map_cons, List.map_nil]; rfl) ?_
      refine (HS.get2 rfl rfl (laws_toLedger.calls (w := _) (hr0_0 := Kd.C_below hr0.out HS.below) (hc0_0 := hc0.out) (hr0_1 := Kd.C_below hr1.out HS.below) (hc0_1 := hc1.out) (h := hto.out))).mono ?_
      clear HS
      rintro e w1 ⟨A23, c23, B23, d23, rfl, HS⟩
      refine ⟨_, rfl, ?_⟩
      refine hK.out _ _ (HS.drop 3) (fun _ => ?_)
      clear hK K
      refine norm_ (a' := ?_) ?_ ?_
      rotate_left
      · simp only [Act.put, List.setIfInBounds_toArray, List.set_cons_zero, List.set_cons_succ, i64_w, i32_w]; rfl
      refine one_ (i := 3) (N := some 25) #[true, true, true, true, false, false, false, false, true, false, false] rfl rfl (by kernel_rfl) (by decide) (fun K hK => ?_)
      refine goes_ Try.func35 (by kernel_rfl) rfl _ (by rfl) rfl rfl (by simp only [List.map_toArray, List.map_cons, List.map_nil]; rfl) ?_
      refine (HS.val (laws_toTx.calls (w := _)  (h := htx.out))).mono ?_
      clear HS
      rintro e w1 ⟨rfl, HS⟩
      refine ⟨_, rfl, ?_⟩
      refine hK.out _ _ (HS.drop 3) (fun _ => ?_)
      clear hK K
      refine norm_ (a' := ?_) ?_ ?_
      rotate_left
      · simp only [Act.put, List.setIfInBounds_toArray, List.set_cons_zero, List.set_cons_succ, i64_w, i32_w]; rfl
      refine one_ (i := 4) (N := some 26) #[true, true, true, true, true, false, false, false, true, false, false] rfl rfl (by kernel_rfl) (by decide) (fun K hK => ?_)
      refine goes_ Try.func34 (by kernel_rfl) rfl _ (by rfl) rfl rfl (by simp only [List.map_toArray, List.map_cons, List.map_nil]; rfl) ?_
      refine (HS.get2 rfl rfl (spec_Pay.calls (w := _) (hr0_0 := HS.reads A23) (hc0_0 := HS.cap A23) (hr0_1 := HS.reads B23) (hc0_1 := HS.cap B23) (h := hps.out))).mono ?_
      clear HS
      rintro e w1 ⟨A26, c26, B26, d26, rfl, HS⟩
      refine ⟨_, rfl, ?_⟩
      refine hK.out _ _ (HS.drop 5) (fun _ => ?_)
      clear hK K
      refine norm_ (a' := ?_) ?_ ?_
      rotate_left
      · simp only [Act.put, List.setIfInBounds_toArray, List.set_cons_zero, List.set_cons_succ, i64_w, i32_w]; rfl
      refine pure_ (i := 5) (N := some 21) (v := ?_) (a' := ?_) #[true, true, true, true, true, true, false, false, true, false, false] rfl rfl (by kernel_rfl) (fun _ _ _ h => h) (Or.inl ⟨by rfl, ?_⟩) ?_ ?_
      rotate_left
      · intro w'; go_simp; with_reducible rfl
      rotate_left
      · simp only [Act.put, List.setIfInBounds_toArray, List.set_cons_zero, List.set_cons_succ, i64_w, i32_w]; rfl
      refine pure_ (i := 6) (N := some 27) (v := ?_) (a' := ?_) #[true, true, true, true, true, true, true, false, true, false, false] rfl rfl (by kernel_rfl) (fun _ _ _ h => h) (Or.inl ⟨by rfl, ?_⟩) ?_ ?_
      rotate_left
      · intro w'; go_simp; with_reducible rfl
      rotate_left
      · simp only [Act.put, List.setIfInBounds_toArray, List.set_cons_zero, List.set_cons_succ, i64_w, i32_w]; rfl
      refine pure_ (i := 7) (N := some 28) (v := ?_) (a' := ?_) #[true, true, true, true, true, true, true, true, true, false, false] rfl rfl (by kernel_rfl) (fun _ _ _ h => h) (Or.inl ⟨by rfl, ?_⟩) ?_ ?_
      rotate_left
      · intro w'; go_simp; with_reducible rfl
      rotate_left
      · simp only [Act.put, List.setIfInBounds_toArray, List.set_cons_zero, List.set_cons_succ, i64_w, i32_w]; rfl
      have hp := HS.perm [0, 1, 2, 3, 4, 5, 6] (by decide)
      have hc := hcont ⟨A23, c23, B23, d23, A26, c26, B26, d26, g6⟩ w1 hp
      simp only [putAll, Act.put, List.setIfInBounds_toArray, List.set_cons_zero, List.set_cons_succ, i64_w, i32_w] at hc
      exact hc
  clear HS
  rintro ⟨A23, c23, B23, d23, A26, c26, B26, d26, g6⟩ w1 HS
  dsimp only at HS
  refine norm_ (a' := ?_) ?_ ?_
  rotate_left
  · simp only [putAll, Act.put, List.setIfInBounds_toArray, List.set_cons_zero, List.set_cons_succ, i64_w, i32_w]; rfl
  refine one_ (i := 9) (N := none) #[true, true, true, true, true, true, true, true, true, true, false] rfl rfl (by kernel_rfl) (by decide) (fun K hK => ?_)
  refine st_R HS (by rfl) rfl rfl rfl rfl (by rfl) (by rfl) (by rfl) ?_
  clear HS
  intro w1 HS
  refine hK.out _ _ (HS.drop 5) (fun _ => ?_)
  clear hK K
  refine pure_ (i := 10) (N := some 7) (v := ?_) (a' := ?_) #[true, true, true, true, true, true, true, true, true, true, true] rfl rfl (by kernel_rfl) (fun _ _ _ h => h) (Or.inl ⟨by rfl, ?_⟩) ?_ ?_
  rotate_left
  · intro w'; go_simp; with_reducible rfl
  rotate_left
  · simp only [Act.put, List.setIfInBounds_toArray, List.set_cons_zero, List.set_cons_succ, i64_w, i32_w]; rfl
  refine done_ (by kernel_rfl) ?_
  go_upto_region 7 with (first | ((with_reducible refine gate_load rfl ?_); first | refine ev_loadC HS rfl rfl rfl (by rfl) ?_ | refine ev_loadS HS rfl rfl rfl (by rfl) ?_) | ((with_reducible refine gate_dst (N := 30) rfl ?_); refine ev_call (some 30) rfl rfl Try.func17 (by kernel_rfl) rfl rfl (by simp only [List.map_toArray, List.map_cons, List.map_nil]; rfl) ?_; refine (HS.get2 rfl rfl (laws_toLedger.calls (w := _) (hr0_0 := Kd.C_below hr0.out HS.below) (hc0_0 := hc0.out) (hr0_1 := Kd.C_below hr1.out HS.below) (hc0_1 := hc1.out) (h := hto.out))).mono ?_; clear HS; rintro e w1 ⟨A30, c30, B30, d30, rfl, HS⟩; refine ⟨_, rfl, ?_⟩) | ((with_reducible refine gate_dst (N := 8) rfl ?_); refine ev_alloc HS rfl rfl ?_; clear HS; intro g8 w1 HS) | ((with_reducible refine gate_put rfl ?_); (first | refine ev_storeC HS rfl rfl rfl rfl rfl (by rfl) (by rfl) ?_ | refine ev_storeS HS rfl rfl rfl rfl rfl (by rfl) (by rfl) (by rfl) ?_); clear HS; intro w1 HS))
  refine start_ (n := 10) (S := fun w' => SS w w' _) (ds := []) #[false, false, false, false, false, false, false, false, false, false] (by kernel_rfl) rfl rfl HS.drew (fun _ => ?_)
  replace HS := HS.drew
  generalize w1.drew = w1 at HS ⊢
  refine take_ (i := 0) (N := some 32) (a' := ?_) #[true, false, false, false, false, false, false, false, false, false] rfl rfl (by kernel_rfl) (fun _ _ _ h => h) (Or.inl ⟨by rfl, fun w' hs => rl_S hs rfl rfl (by rfl)⟩) (HS.drop 0) ?_ ?_
  rotate_left
  · simp only [Act.put, List.setIfInBounds_toArray, List.set_cons_zero, List.set_cons_succ, i64_w, i32_w]; rfl
  refine take_ (i := 1) (N := some 33) (a' := ?_) #[true, true, false, false, false, false, false, false, false, false] rfl rfl (by kernel_rfl) (fun _ _ _ h => h) (Or.inl ⟨by rfl, fun w' hs => rl_S hs rfl rfl (by rfl)⟩) (HS.drop 0) ?_ ?_
  rotate_left
  · simp only [Act.put, List.setIfInBounds_toArray, List.set_cons_zero, List.set_cons_succ, i64_w, i32_w]; rfl
  refine join_ (σ := Option Addr × Nat × Option Addr × Nat × Nat) 2 #[true, true, true, true, true, true, true, true, false, false] (fun s_ => [(31, .tuple #[.agg #[.slice s_.1 rh.length s_.2.1, .slice s_.2.2.1 rn.length s_.2.2.2.1], .int .i64 rc]), (36, .agg #[.slice s_.1 rh.length s_.2.1, .slice s_.2.2.1 rn.length s_.2.2.2.1]), (37, .int .i64 rc), (34, .agg #[.int .i64 f, .int .i64 t, .int .i64 a, .int .i64 m]), (35, .tuple #[.agg #[.slice s_.1 rh.length s_.2.1, .slice s_.2.2.1 rn.length s_.2.2.2.1], .int .i64 rc]), (9, .pointer (some ⟨s_.2.2.2.2, 0, none⟩))]) (fun s_ w' => SS w w' [row (Kd.int .i64) 3 (.slice s_.1 rh.length s_.2.1) rh, row (Kd.int .i64) 3 (.slice s_.2.2.1 rn.length s_.2.2.2.1) rn, box s_.2.2.2.2 #[.slice none 0 0, .slice none 0 0] 27, box g8 #[.slice A30 h.length c30, .slice B30 n.length d30] 27, row (Kd.int .i64) 3 (.slice A30 h.length c30) h, row (Kd.int .i64) 3 (.slice B30 n.length d30) n, row (Kd.int .i64) 3 (.slice A26 rh.length c26) rh, row (Kd.int .i64) 3 (.slice B26 rn.length d26) rn, row (Kd.int .i64) 3 (.slice A23 h.length c23) h, row (Kd.int .i64) 3 (.slice B23 n.length d23) n, box g6 #[.slice A26 rh.length c26, .slice B26 rn.length d26] 27, box g3 #[.int .i64 f, .int .i64 t, .int .i64 a, .int .i64 m] 50, box g2 #[.slice A0_0 h.length c0_0, .slice A0_1 n.length c0_1] 24]) ?_ (fun hcont => ?_)
  rotate_left
  · refine two_ (i := 2) (j := 7) (Ni := some 34) (Nj := some 9) #[true, true, true, false, false, false, false, false, false, false] #[true, true, false, false, false, false, false, true, false, false] rfl rfl rfl rfl (by kernel_rfl) (by decide) (by decide) (fun K hK => ?_) (fun K hK => ?_)
    · refine goes_ Try.func35 (by kernel_rfl) rfl _ (by rfl) rfl rfl (by simp only [List.map_toArray, List.map_cons, List.map_nil]; rfl) ?_
      refine (HS.val (laws_toTx.calls (w := _)  (h := htx.out))).mono ?_
      clear HS
      rintro e w1 ⟨rfl, HS⟩
      refine ⟨_, rfl, ?_⟩
      refine hK.out _ _ (HS.drop 0) (fun _ => ?_)
      clear hK K
      refine norm_ (a' := ?_) ?_ ?_
      rotate_left
      · simp only [Act.put, List.setIfInBounds_toArray, List.set_cons_zero, List.set_cons_succ, i64_w, i32_w]; rfl
      refine two_ (i := 3) (j := 7) (Ni := some 35) (Nj := some 9) #[true, true, true, true, false, false, false, false, false, false] #[true, true, true, false, false, false, false, true, false, false] rfl rfl rfl rfl (by kernel_rfl) (by decide) (by decide) (fun K hK => ?_) (fun K hK => ?_)
      · refine goes_ Try.func33 (by kernel_rfl) rfl _ (by rfl) rfl rfl (by simp only [List.map_toArray, List.map_cons, List.map_nil]; rfl) ?_
        refine (HS.get2 rfl rfl (impl_Pay.calls (w := _) (hr0_0 := HS.reads A30) (hc0_0 := HS.cap A30) (hr0_1 := HS.reads B30) (hc0_1 := HS.cap B30) (h := hpi.out))).mono ?_
        clear HS
        rintro e w1 ⟨A35, c35, B35, d35, rfl, HS⟩
        refine ⟨_, rfl, ?_⟩
        refine hK.out _ _ (HS.drop 2) (fun _ => ?_)
        clear hK K
        refine norm_ (a' := ?_) ?_ ?_
        rotate_left
        · simp only [Act.put, List.setIfInBounds_toArray, List.set_cons_zero, List.set_cons_succ, i64_w, i32_w]; rfl
        refine pure_ (i := 4) (N := some 31) (v := ?_) (a' := ?_) #[true, true, true, true, true, false, false, false, false, false] rfl rfl (by kernel_rfl) (fun _ _ _ h => h) (Or.inl ⟨by rfl, ?_⟩) ?_ ?_
        rotate_left
        · intro w'; go_simp; with_reducible rfl
        rotate_left
        · simp only [Act.put, List.setIfInBounds_toArray, List.set_cons_zero, List.set_cons_succ, i64_w, i32_w]; rfl
        refine pure_ (i := 5) (N := some 36) (v := ?_) (a' := ?_) #[true, true, true, true, true, true, false, false, false, false] rfl rfl (by kernel_rfl) (fun _ _ _ h => h) (Or.inl ⟨by rfl, ?_⟩) ?_ ?_
        rotate_left
        · intro w'; go_simp; with_reducible rfl
        rotate_left
        · simp only [Act.put, List.setIfInBounds_toArray, List.set_cons_zero, List.set_cons_succ, i64_w, i32_w]; rfl
        refine pure_ (i := 6) (N := some 37) (v := ?_) (a' := ?_) #[true, true, true, true, true, true, true, false, false, false] rfl rfl (by kernel_rfl) (fun _ _ _ h => h) (Or.inl ⟨by rfl, ?_⟩) ?_ ?_
        rotate_left
        · intro w'; go_simp; with_reducible rfl
        rotate_left
        · simp only [Act.put, List.setIfInBounds_toArray, List.set_cons_zero, List.set_cons_succ, i64_w, i32_w]; rfl
        refine one_ (i := 7) (N := some 9) #[true, true, true, true, true, true, true, true, false, false] rfl rfl (by kernel_rfl) (by decide) (fun K hK => ?_)
        refine al_R HS (by rfl) rfl rfl ?_
        clear HS
        intro g9 w1 HS
        refine hK.out _ _ (HS.drop 3) (fun _ => ?_)
        clear hK K
        refine norm_ (a' := ?_) ?_ ?_
        rotate_left
        · simp only [Act.put, List.setIfInBounds_toArray, List.set_cons_zero, List.set_cons_succ, i64_w, i32_w]; rfl
        have hp := HS.perm [1, 2, 0, 3, 4, 5, 6, 7, 8, 9, 10, 11, 12] (by decide)
        have hc := hcont ⟨A35, c35, B35, d35, g9⟩ w1 hp
        simp only [putAll, Act.put, List.setIfInBounds_toArray, List.set_cons_zero, List.set_cons_succ, i64_w, i32_w] at hc
        exact hc
      · refine al_R HS (by rfl) rfl rfl ?_
        clear HS
        intro g9 w1 HS
        refine hK.out _ _ (HS.drop 1) (fun _ => ?_)
        clear hK K
        refine norm_ (a' := ?_) ?_ ?_
        rotate_left
        · simp only [Act.put, List.setIfInBounds_toArray, List.set_cons_zero, List.set_cons_succ, i64_w, i32_w]; rfl
        refine one_ (i := 3) (N := some 35) #[true, true, true, true, false, false, false, true, false, false] rfl rfl (by kernel_rfl) (by decide) (fun K hK => ?_)
        refine goes_ Try.func33 (by kernel_rfl) rfl _ (by rfl) rfl rfl (by simp only [List.map_toArray, List.map_cons, List.map_nil]; rfl) ?_
        refine (HS.get2 rfl rfl (impl_Pay.calls (w := _) (hr0_0 := HS.reads A30) (hc0_0 := HS.cap A30) (hr0_1 := HS.reads B30) (hc0_1 := HS.cap B30) (h := hpi.out))).mono ?_
        clear HS
        rintro e w1 ⟨A35, c35, B35, d35, rfl, HS⟩
        refine ⟨_, rfl, ?_⟩
        refine hK.out _ _ (HS.drop 3) (fun _ => ?_)
        clear hK K
        refine norm_ (a' := ?_) ?_ ?_
        rotate_left
        · simp only [Act.put, List.setIfInBounds_toArray, List.set_cons_zero, List.set_cons_succ, i64_w, i32_w]; rfl
        refine pure_ (i := 4) (N := some 31) (v := ?_) (a' := ?_) #[true, true, true, true, true, false, false, true, false, false] rfl rfl (by kernel_rfl) (fun _ _ _ h => h) (Or.inl ⟨by rfl, ?_⟩) ?_ ?_
        rotate_left
        · intro w'; go_simp; with_reducible rfl
        rotate_left
        · simp only [Act.put, List.setIfInBounds_toArray, List.set_cons_zero, List.set_cons_succ, i64_w, i32_w]; rfl
        refine pure_ (i := 5) (N := some 36) (v := ?_) (a' := ?_) #[true, true, true, true, true, true, false, true, false, false] rfl rfl (by kernel_rfl) (fun _ _ _ h => h) (Or.inl ⟨by rfl, ?_⟩) ?_ ?_
        rotate_left
        · intro w'; go_simp; with_reducible rfl
        rotate_left
        · simp only [Act.put, List.setIfInBounds_toArray, List.set_cons_zero, List.set_cons_succ, i64_w, i32_w]; rfl
        refine pure_ (i := 6) (N := some 37) (v := ?_) (a' := ?_) #[true, true, true, true, true, true, true, true, false, false] rfl rfl (by kernel_rfl) (fun _ _ _ h => h) (Or.inl ⟨by rfl, ?_⟩) ?_ ?_
        rotate_left
        · intro w'; go_simp; with_reducible rfl
        rotate_left
        · simp only [Act.put, List.setIfInBounds_toArray, List.set_cons_zero, List.set_cons_succ, i64_w, i32_w]; rfl
        have hp := HS.perm [0, 1, 2, 3, 4, 5, 6, 7, 8, 9, 10, 11, 12] (by decide)
        have hc := hcont ⟨A35, c35, B35, d35, g9⟩ w1 hp
        simp only [putAll, Act.put, List.setIfInBounds_toArray, List.set_cons_zero, List.set_cons_succ, i64_w, i32_w] at hc
        exact hc
    · refine al_R HS (by rfl) rfl rfl ?_
      clear HS
      intro g9 w1 HS
      refine hK.out _ _ (HS.drop 1) (fun _ => ?_)
      clear hK K
      refine norm_ (a' := ?_) ?_ ?_
      rotate_left
      · simp only [Act.put, List.setIfInBounds_toArray, List.set_cons_zero, List.set_cons_succ, i64_w, i32_w]; rfl
      refine one_ (i := 2) (N := some 34) #[true, true, true, false, false, false, false, true, false, false] rfl rfl (by kernel_rfl) (by decide) (fun K hK => ?_)
      refine goes_ Try.func35 (by kernel_rfl) rfl _ (by rfl) rfl rfl (by simp only [List.map_toArray, List.map_cons, List.map_nil]; rfl) ?_
      refine (HS.val (laws_toTx.calls (w := _)  (h := htx.out))).mono ?_
      clear HS
      rintro e w1 ⟨rfl, HS⟩
      refine ⟨_, rfl, ?_⟩
      refine hK.out _ _ (HS.drop 1) (fun _ => ?_)
      clear hK K
      refine norm_ (a' := ?_) ?_ ?_
      rotate_left
      · simp only [Act.put, List.setIfInBounds_toArray, List.set_cons_zero, List.set_cons_succ, i64_w, i32_w]; rfl
      refine one_ (i := 3) (N := some 35) #[true, true, true, true, false, false, false, true, false, false] rfl rfl (by kernel_rfl) (by decide) (fun K hK => ?_)
      refine goes_ Try.func33 (by kernel_rfl) rfl _ (by rfl) rfl rfl (by simp only [List.map_toArray, List.map_cons, List.map_nil]; rfl) ?_
      refine (HS.get2 rfl rfl (impl_Pay.calls (w := _) (hr0_0 := HS.reads A30) (hc0_0 := HS.cap A30) (hr0_1 := HS.reads B30) (hc0_1 := HS.cap B30) (h := hpi.out))).mono ?_
      clear HS
      rintro e w1 ⟨A35, c35, B35, d35, rfl, HS⟩
      refine ⟨_, rfl, ?_⟩
      refine hK.out _ _ (HS.drop 3) (fun _ => ?_)
      clear hK K
      refine norm_ (a' := ?_) ?_ ?_
      rotate_left
      · simp only [Act.put, List.setIfInBounds_toArray, List.set_cons_zero, List.set_cons_succ, i64_w, i32_w]; rfl
      refine pure_ (i := 4) (N := some 31) (v := ?_) (a' := ?_) #[true, true, true, true, true, false, false, true, false, false] rfl rfl (by kernel_rfl) (fun _ _ _ h => h) (Or.inl ⟨by rfl, ?_⟩) ?_ ?_
      rotate_left
      · intro w'; go_simp; with_reducible rfl
      rotate_left
      · simp only [Act.put, List.setIfInBounds_toArray, List.set_cons_zero, List.set_cons_succ, i64_w, i32_w]; rfl
      refine pure_ (i := 5) (N := some 36) (v := ?_) (a' := ?_) #[true, true, true, true, true, true, false, true, false, false] rfl rfl (by kernel_rfl) (fun _ _ _ h => h) (Or.inl ⟨by rfl, ?_⟩) ?_ ?_
      rotate_left
      · intro w'; go_simp; with_reducible rfl
      rotate_left
      · simp only [Act.put, List.setIfInBounds_toArray, List.set_cons_zero, List.set_cons_succ, i64_w, i32_w]; rfl
      refine pure_ (i := 6) (N := some 37) (v := ?_) (a' := ?_) #[true, true, true, true, true, true, true, true, false, false] rfl rfl (by kernel_rfl) (fun _ _ _ h => h) (Or.inl ⟨by rfl, ?_⟩) ?_ ?_
      rotate_left
      · intro w'; go_simp; with_reducible rfl
      rotate_left
      · simp only [Act.put, List.setIfInBounds_toArray, List.set_cons_zero, List.set_cons_succ, i64_w, i32_w]; rfl
      have hp := HS.perm [0, 1, 2, 3, 4, 5, 6, 7, 8, 9, 10, 11, 12] (by decide)
      have hc := hcont ⟨A35, c35, B35, d35, g9⟩ w1 hp
      simp only [putAll, Act.put, List.setIfInBounds_toArray, List.set_cons_zero, List.set_cons_succ, i64_w, i32_w] at hc
      exact hc
  clear HS
  rintro ⟨A35, c35, B35, d35, g9⟩ w1 HS
  dsimp only at HS
  refine norm_ (a' := ?_) ?_ ?_
  rotate_left
  · simp only [putAll, Act.put, List.setIfInBounds_toArray, List.set_cons_zero, List.set_cons_succ, i64_w, i32_w]; rfl
  refine one_ (i := 8) (N := none) #[true, true, true, true, true, true, true, true, true, false] rfl rfl (by kernel_rfl) (by decide) (fun K hK => ?_)
  refine st_R HS (by rfl) rfl rfl rfl rfl (by rfl) (by rfl) (by rfl) ?_
  clear HS
  intro w1 HS
  refine hK.out _ _ (HS.drop 3) (fun _ => ?_)
  clear hK K
  refine pure_ (i := 9) (N := some 10) (v := ?_) (a' := ?_) #[true, true, true, true, true, true, true, true, true, true] rfl rfl (by kernel_rfl) (fun _ _ _ h => h) (Or.inl ⟨by rfl, ?_⟩) ?_ ?_
  rotate_left
  · intro w'; go_simp; with_reducible rfl
  rotate_left
  · simp only [Act.put, List.setIfInBounds_toArray, List.set_cons_zero, List.set_cons_succ, i64_w, i32_w]; rfl
  refine done_ (by kernel_rfl) ?_
  go_upto_region 10 with (first | ((with_reducible refine gate_load rfl ?_); first | refine ev_loadC HS rfl rfl rfl (by rfl) ?_ | refine ev_loadS HS rfl rfl rfl (by rfl) ?_) | ((with_reducible refine gate_dst (N := 40) rfl ?_); refine ev_call (some 40) rfl rfl Try.func19 (by kernel_rfl) rfl rfl (by simp only [List.map_toArray, List.map_cons, List.map_nil]; rfl) ?_; refine (HS.val (laws_eqLedger.calls (w := _) (hr0_0 := HS.reads A35) (hc0_0 := HS.cap A35) (hr0_1 := HS.reads B35) (hc0_1 := HS.cap B35) (hr1_0 := HS.reads A26) (hc1_0 := HS.cap A26) (hr1_1 := HS.reads B26) (hc1_1 := HS.cap B26) (h := he1.out))).mono ?_; clear HS; rintro e w1 ⟨rfl, HS⟩; refine ⟨_, rfl, ?_⟩))
  refine start_ (n := 5) (S := fun w' => SS w w' _) (ds := []) #[false, false, false, false, false] (by kernel_rfl) rfl rfl HS.drew (fun _ => ?_)
  replace HS := HS.drew
  generalize w1.drew = w1 at HS ⊢
  refine take_ (i := 0) (N := some 47) (a' := ?_) #[true, false, false, false, false] rfl rfl (by kernel_rfl) (fun _ _ _ h => h) (Or.inl ⟨by rfl, fun w' hs => rl_S hs rfl rfl (by rfl)⟩) (HS.drop 0) ?_ ?_
  rotate_left
  · simp only [Act.put, List.setIfInBounds_toArray, List.set_cons_zero, List.set_cons_succ, i64_w, i32_w]; rfl
  refine take_ (i := 1) (N := some 48) (a' := ?_) #[true, true, false, false, false] rfl rfl (by kernel_rfl) (fun _ _ _ h => h) (Or.inl ⟨by rfl, fun w' hs => rl_S hs rfl rfl (by rfl)⟩) (HS.drop 0) ?_ ?_
  rotate_left
  · simp only [Act.put, List.setIfInBounds_toArray, List.set_cons_zero, List.set_cons_succ, i64_w, i32_w]; rfl
  refine one_ (i := 2) (N := some 49) #[true, true, true, false, false] rfl rfl (by kernel_rfl) (by decide) (fun K hK => ?_)
  refine goes_ Try.func17 (by kernel_rfl) rfl _ (by rfl) rfl rfl (by simp only [List.map_toArray, List.map_cons, List.map_nil]; rfl) ?_
  refine (HS.get2 rfl rfl (laws_toLedger.calls (w := _) (hr0_0 := Kd.C_below hr0.out HS.below) (hc0_0 := hc0.out) (hr0_1 := Kd.C_below hr1.out HS.below) (hc0_1 := hc1.out) (h := hto.out))).mono ?_
  clear HS
  rintro e w1 ⟨A49, c49, B49, d49, rfl, HS⟩
  refine ⟨_, rfl, ?_⟩
  refine hK.out _ _ (HS.drop 2) (fun _ => ?_)
  clear hK K
  refine norm_ (a' := ?_) ?_ ?_
  rotate_left
  · simp only [Act.put, List.setIfInBounds_toArray, List.set_cons_zero, List.set_cons_succ, i64_w, i32_w]; rfl
  refine one_ (i := 3) (N := some 50) #[true, true, true, true, false] rfl rfl (by kernel_rfl) (by decide) (fun K hK => ?_)
  refine goes_ Try.func19 (by kernel_rfl) rfl _ (by rfl) rfl rfl (by simp only [List.map_toArray, List.map_cons, List.map_nil]; rfl) ?_
  refine (HS.val (laws_eqLedger.calls (w := _) (hr0_0 := HS.reads A30) (hc0_0 := HS.cap A30) (hr0_1 := HS.reads B30) (hc0_1 := HS.cap B30) (hr1_0 := HS.reads A49) (hc1_0 := HS.cap A49) (hr1_1 := HS.reads B49) (hc1_1 := HS.cap B49) (h := he2.out))).mono ?_
  clear HS
  rintro e w1 ⟨rfl, HS⟩
  refine ⟨_, rfl, ?_⟩
  refine hK.out _ _ (HS.drop 2) (fun _ => ?_)
  clear hK K
  refine norm_ (a' := ?_) ?_ ?_
  rotate_left
  · simp only [Act.put, List.setIfInBounds_toArray, List.set_cons_zero, List.set_cons_succ, i64_w, i32_w]; rfl
  refine pure_ (i := 4) (N := some 51) (v := ?_) (a' := ?_) #[true, true, true, true, true] rfl rfl (by kernel_rfl) (fun _ _ _ h => h) (Or.inl ⟨by rfl, ?_⟩) ?_ ?_
  rotate_left
  · intro w'; go_simp; with_reducible rfl
  rotate_left
  · simp only [Act.put, List.setIfInBounds_toArray, List.set_cons_zero, List.set_cons_succ, i64_w, i32_w]; rfl
  refine done_ (by kernel_rfl) ?_
  go_upto_region 24 with (first | ((with_reducible refine gate_load rfl ?_); first | refine ev_loadC HS rfl rfl rfl (by rfl) ?_ | refine ev_loadS HS rfl rfl rfl (by rfl) ?_) | ((with_reducible refine gate_dst (N := 54) rfl ?_); refine ev_call (some 54) rfl rfl Try.func22 (by kernel_rfl) rfl rfl (by simp only [List.map_toArray, List.map_cons, List.map_nil]; rfl) ?_; refine (HS.mark2 A30 B30 (by decide) rfl rfl (fun F G hF hFG hG hGF => laws_markLedger.calls (w0 := w) (P0_0_ := F) (P0_1_ := G) (hB := HS.below) (ho0_0 := hF) (hp0_0_0_1 := hFG) (ho0_1 := hG) (hp0_1_0_0 := hGF) (h := hm1.out))).mono ?_; clear HS; rintro e w1 ⟨rfl, HS⟩; refine ⟨_, rfl, ?_⟩) | ((with_reducible refine gate_dst (N := 60) rfl ?_); refine ev_call (some 60) rfl rfl Try.func19 (by kernel_rfl) rfl rfl (by simp only [List.map_toArray, List.map_cons, List.map_nil]; rfl) ?_; refine (HS.val (laws_eqLedger.calls (w := _) (hr0_0 := HS.reads A35) (hc0_0 := HS.cap A35) (hr0_1 := HS.reads B35) (hc0_1 := HS.cap B35) (hr1_0 := HS.reads A26) (hc1_0 := HS.cap A26) (hr1_1 := HS.reads B26) (hc1_1 := HS.cap B26) (h := he1.out))).mono ?_; clear HS; rintro e w1 ⟨rfl, HS⟩; refine ⟨_, rfl, ?_⟩) | ((with_reducible refine gate_dst (N := 70) rfl ?_); refine ev_call (some 70) rfl rfl Try.func22 (by kernel_rfl) rfl rfl (by simp only [List.map_toArray, List.map_cons, List.map_nil]; rfl) ?_; refine (HS.mark2 A35 B35 (by decide) rfl rfl (fun F G hF hFG hG hGF => laws_markLedger.calls (w0 := w) (P0_0_ := F) (P0_1_ := G) (hB := HS.below) (ho0_0 := hF) (hp0_0_0_1 := hFG) (ho0_1 := hG) (hp0_1_0_0 := hGF) (h := hm2.out))).mono ?_; clear HS; rintro e w1 ⟨rfl, HS⟩; refine ⟨_, rfl, ?_⟩) | ((with_reducible refine gate_dst (N := 73) rfl ?_); refine ev_call (some 73) rfl rfl Try.func23 (by kernel_rfl) rfl rfl (by simp only [List.map_toArray, List.map_cons, List.map_nil]; rfl) ?_; refine (calls_at (by rw [← hl_gh.out, ← hl_gn.out]; try rfl) (HS.val (laws_heldLedger.calls (w := _) (hr0_0 := HS.reads A35) (hc0_0 := HS.cap A35) (hr0_1 := HS.reads B35) (hc0_1 := HS.cap B35) (h := hh.out)))).mono ?_; clear HS; rintro e w1 ⟨rfl, HS⟩; refine ⟨_, rfl, ?_⟩))
  refine start_ (n := 11) (S := fun w' => SS w w' _) (ds := []) #[false, false, false, false, false, false, false, false, false, false, false] (by kernel_rfl) rfl rfl HS.drew (fun _ => ?_)
  replace HS := HS.drew
  generalize w1.drew = w1 at HS ⊢
  refine take_ (i := 0) (N := some 80) (a' := ?_) #[true, false, false, false, false, false, false, false, false, false, false] rfl rfl (by kernel_rfl) (fun _ _ _ h => h) (Or.inl ⟨by rfl, fun w' hs => rl_S hs rfl rfl (by rfl)⟩) (HS.drop 0) ?_ ?_
  rotate_left
  · simp only [Act.put, List.setIfInBounds_toArray, List.set_cons_zero, List.set_cons_succ, i64_w, i32_w]; rfl
  refine take_ (i := 2) (N := some 82) (a' := ?_) #[true, false, true, false, false, false, false, false, false, false, false] rfl rfl (by kernel_rfl) (fun _ _ _ h => h) (Or.inl ⟨by rfl, fun w' hs => rl_S hs rfl rfl (by rfl)⟩) (HS.drop 0) ?_ ?_
  rotate_left
  · simp only [Act.put, List.setIfInBounds_toArray, List.set_cons_zero, List.set_cons_succ, i64_w, i32_w]; rfl
  refine join_ (σ := Option Addr × Nat × Option Addr × Nat × Option Addr × Nat × Option Addr × Nat × Nat) 2 #[true, true, true, true, true, true, true, true, true, false, false] (fun s_ => [(79, .tuple #[.agg #[.slice s_.2.2.2.2.1 rh.length s_.2.2.2.2.2.1, .slice s_.2.2.2.2.2.2.1 rn.length s_.2.2.2.2.2.2.2.1], .int .i64 rc]), (85, .agg #[.slice s_.2.2.2.2.1 rh.length s_.2.2.2.2.2.1, .slice s_.2.2.2.2.2.2.1 rn.length s_.2.2.2.2.2.2.2.1]), (86, .int .i64 rc), (81, .agg #[.slice s_.1 h.length s_.2.1, .slice s_.2.2.1 n.length s_.2.2.2.1]), (83, .agg #[.int .i64 f, .int .i64 t, .int .i64 a, .int .i64 m]), (84, .tuple #[.agg #[.slice s_.2.2.2.2.1 rh.length s_.2.2.2.2.2.1, .slice s_.2.2.2.2.2.2.1 rn.length s_.2.2.2.2.2.2.2.1], .int .i64 rc]), (14, .pointer (some ⟨s_.2.2.2.2.2.2.2.2, 0, none⟩))]) (fun s_ w' => SS w w' [row (Kd.int .i64) 3 (.slice s_.2.2.2.2.1 rh.length s_.2.2.2.2.2.1) rh, row (Kd.int .i64) 3 (.slice s_.2.2.2.2.2.2.1 rn.length s_.2.2.2.2.2.2.2.1) rn, row (Kd.int .i64) 3 (.slice s_.1 h.length s_.2.1) h, row (Kd.int .i64) 3 (.slice s_.2.2.1 n.length s_.2.2.2.1) n, box s_.2.2.2.2.2.2.2.2 #[.slice none 0 0, .slice none 0 0] 27, row (Kd.int .i64) 3 (.slice A49 h.length c49) h, row (Kd.int .i64) 3 (.slice B49 n.length d49) n, row (Kd.int .i64) 3 (.slice A35 rh.length c35) gh, row (Kd.int .i64) 3 (.slice B35 rn.length d35) gn, box g9 #[.slice A35 rh.length c35, .slice B35 rn.length d35] 27, box g8 #[.slice A30 h.length c30, .slice B30 n.length d30] 27, row (Kd.int .i64) 3 (.slice A30 h.length c30) mh, row (Kd.int .i64) 3 (.slice B30 n.length d30) mn, row (Kd.int .i64) 3 (.slice A26 rh.length c26) rh, row (Kd.int .i64) 3 (.slice B26 rn.length d26) rn, row (Kd.int .i64) 3 (.slice A23 h.length c23) h, row (Kd.int .i64) 3 (.slice B23 n.length d23) n, box g6 #[.slice A26 rh.length c26, .slice B26 rn.length d26] 27, box g3 #[.int .i64 f, .int .i64 t, .int .i64 a, .int .i64 m] 50, box g2 #[.slice A0_0 h.length c0_0, .slice A0_1 n.length c0_1] 24]) ?_ (fun hcont => ?_)
  rotate_left
  · refine two_ (i := 1) (j := 8) (Ni := some 81) (Nj := some 14) #[true, true, true, false, false, false, false, false, false, false, false] #[true, false, true, false, false, false, false, false, true, false, false] rfl rfl rfl rfl (by kernel_rfl) (by decide) (by decide) (fun K hK => ?_) (fun K hK => ?_)
    · refine goes_ Try.func17 (by kernel_rfl) rfl _ (by rfl) rfl rfl (by simp only [List.map_toArray, List.map_cons, List.map_nil]; rfl) ?_
      refine (HS.get2 rfl rfl (laws_toLedger.calls (w := _) (hr0_0 := Kd.C_below hr0.out HS.below) (hc0_0 := hc0.out) (hr0_1 := Kd.C_below hr1.out HS.below) (hc0_1 := hc1.out) (h := hto.out))).mono ?_
      clear HS
      rintro e w1 ⟨A81, c81, B81, d81, rfl, HS⟩
      refine ⟨_, rfl, ?_⟩
      refine hK.out _ _ (HS.drop 2) (fun _ => ?_)
      clear hK K
      refine norm_ (a' := ?_) ?_ ?_
      rotate_left
      · simp only [Act.put, List.setIfInBounds_toArray, List.set_cons_zero, List.set_cons_succ, i64_w, i32_w]; rfl
      refine two_ (i := 3) (j := 8) (Ni := some 83) (Nj := some 14) #[true, true, true, true, false, false, false, false, false, false, false] #[true, true, true, false, false, false, false, false, true, false, false] rfl rfl rfl rfl (by kernel_rfl) (by decide) (by decide) (fun K hK => ?_) (fun K hK => ?_)
      · refine goes_ Try.func35 (by kernel_rfl) rfl _ (by rfl) rfl rfl (by simp only [List.map_toArray, List.map_cons, List.map_nil]; rfl) ?_
        refine (HS.val (laws_toTx.calls (w := _)  (h := htx.out))).mono ?_
        clear HS
        rintro e w1 ⟨rfl, HS⟩
        refine ⟨_, rfl, ?_⟩
        refine hK.out _ _ (HS.drop 2) (fun _ => ?_)
        clear hK K
        refine norm_ (a' := ?_) ?_ ?_
        rotate_left
        · simp only [Act.put, List.setIfInBounds_toArray, List.set_cons_zero, List.set_cons_succ, i64_w, i32_w]; rfl
        refine two_ (i := 4) (j := 8) (Ni := some 84) (Nj := some 14) #[true, true, true, true, true, false, false, false, false, false, false] #[true, true, true, true, false, false, false, false, true, false, false] rfl rfl rfl rfl (by kernel_rfl) (by decide) (by decide) (fun K hK => ?_) (fun K hK => ?_)
        · refine goes_ Try.func33 (by kernel_rfl) rfl _ (by rfl) rfl rfl (by simp only [List.map_toArray, List.map_cons, List.map_nil]; rfl) ?_
          refine (HS.get2 rfl rfl (impl_Pay.calls (w := _) (hr0_0 := HS.reads A81) (hc0_0 := HS.cap A81) (hr0_1 := HS.reads B81) (hc0_1 := HS.cap B81) (h := hpi.out))).mono ?_
          clear HS
          rintro e w1 ⟨A84, c84, B84, d84, rfl, HS⟩
          refine ⟨_, rfl, ?_⟩
          refine hK.out _ _ (HS.drop 4) (fun _ => ?_)
          clear hK K
          refine norm_ (a' := ?_) ?_ ?_
          rotate_left
          · simp only [Act.put, List.setIfInBounds_toArray, List.set_cons_zero, List.set_cons_succ, i64_w, i32_w]; rfl
          refine pure_ (i := 5) (N := some 79) (v := ?_) (a' := ?_) #[true, true, true, true, true, true, false, false, false, false, false] rfl rfl (by kernel_rfl) (fun _ _ _ h => h) (Or.inl ⟨by rfl, ?_⟩) ?_ ?_
          rotate_left
          · intro w'; go_simp; with_reducible rfl
          rotate_left
          · simp only [Act.put, List.setIfInBounds_toArray, List.set_cons_zero, List.set_cons_succ, i64_w, i32_w]; rfl
          refine pure_ (i := 6) (N := some 85) (v := ?_) (a' := ?_) #[true, true, true, true, true, true, true, false, false, false, false] rfl rfl (by kernel_rfl) (fun _ _ _ h => h) (Or.inl ⟨by rfl, ?_⟩) ?_ ?_
          rotate_left
          · intro w'; go_simp; with_reducible rfl
          rotate_left
          · simp only [Act.put, List.setIfInBounds_toArray, List.set_cons_zero, List.set_cons_succ, i64_w, i32_w]; rfl
          refine pure_ (i := 7) (N := some 86) (v := ?_) (a' := ?_) #[true, true, true, true, true, true, true, true, false, false, false] rfl rfl (by kernel_rfl) (fun _ _ _ h => h) (Or.inl ⟨by rfl, ?_⟩) ?_ ?_
          rotate_left
          · intro w'; go_simp; with_reducible rfl
          rotate_left
          · simp only [Act.put, List.setIfInBounds_toArray, List.set_cons_zero, List.set_cons_succ, i64_w, i32_w]; rfl
          refine one_ (i := 8) (N := some 14) #[true, true, true, true, true, true, true, true, true, false, false] rfl rfl (by kernel_rfl) (by decide) (fun K hK => ?_)
          refine al_R HS (by rfl) rfl rfl ?_
          clear HS
          intro g14 w1 HS
          refine hK.out _ _ (HS.drop 5) (fun _ => ?_)
          clear hK K
          refine norm_ (a' := ?_) ?_ ?_
          rotate_left
          · simp only [Act.put, List.setIfInBounds_toArray, List.set_cons_zero, List.set_cons_succ, i64_w, i32_w]; rfl
          have hp := HS.perm [1, 2, 3, 4, 0, 5, 6, 7, 8, 9, 10, 11, 12, 13, 14, 15, 16, 17, 18, 19] (by decide)
          have hc := hcont ⟨A81, c81, B81, d81, A84, c84, B84, d84, g14⟩ w1 hp
          simp only [putAll, Act.put, List.setIfInBounds_toArray, List.set_cons_zero, List.set_cons_succ, i64_w, i32_w] at hc
          exact hc
        · refine al_R HS (by rfl) rfl rfl ?_
          clear HS
          intro g14 w1 HS
          refine hK.out _ _ (HS.drop 3) (fun _ => ?_)
          clear hK K
          refine norm_ (a' := ?_) ?_ ?_
          rotate_left
          · simp only [Act.put, List.setIfInBounds_toArray, List.set_cons_zero, List.set_cons_succ, i64_w, i32_w]; rfl
          refine one_ (i := 4) (N := some 84) #[true, true, true, true, true, false, false, false, true, false, false] rfl rfl (by kernel_rfl) (by decide) (fun K hK => ?_)
          refine goes_ Try.func33 (by kernel_rfl) rfl _ (by rfl) rfl rfl (by simp only [List.map_toArray, List.map_cons, List.map_nil]; rfl) ?_
          refine (HS.get2 rfl rfl (impl_Pay.calls (w := _) (hr0_0 := HS.reads A81) (hc0_0 := HS.cap A81) (hr0_1 := HS.reads B81) (hc0_1 := HS.cap B81) (h := hpi.out))).mono ?_
          clear HS
          rintro e w1 ⟨A84, c84, B84, d84, rfl, HS⟩
          refine ⟨_, rfl, ?_⟩
          refine hK.out _ _ (HS.drop 5) (fun _ => ?_)
          clear hK K
          refine norm_ (a' := ?_) ?_ ?_
          rotate_left
          · simp only [Act.put, List.setIfInBounds_toArray, List.set_cons_zero, List.set_cons_succ, i64_w, i32_w]; rfl
          refine pure_ (i := 5) (N := some 79) (v := ?_) (a' := ?_) #[true, true, true, true, true, true, false, false, true, false, false] rfl rfl (by kernel_rfl) (fun _ _ _ h => h) (Or.inl ⟨by rfl, ?_⟩) ?_ ?_
          rotate_left
          · intro w'; go_simp; with_reducible rfl
          rotate_left
          · simp only [Act.put, List.setIfInBounds_toArray, List.set_cons_zero, List.set_cons_succ, i64_w, i32_w]; rfl
          refine pure_ (i := 6) (N := some 85) (v := ?_) (a' := ?_) #[true, true, true, true, true, true, true, false, true, false, false] rfl rfl (by kernel_rfl) (fun _ _ _ h => h) (Or.inl ⟨by rfl, ?_⟩) ?_ ?_
          rotate_left
          · intro w'; go_simp; with_reducible rfl
          rotate_left
          · simp only [Act.put, List.setIfInBounds_toArray, List.set_cons_zero, List.set_cons_succ, i64_w, i32_w]; rfl
          refine pure_ (i := 7) (N := some 86) (v := ?_) (a' := ?_) #[true, true, true, true, true, true, true, true, true, false, false] rfl rfl (by kernel_rfl) (fun _ _ _ h => h) (Or.inl ⟨by rfl, ?_⟩) ?_ ?_
          rotate_left
          · intro w'; go_simp; with_reducible rfl
          rotate_left
          · simp only [Act.put, List.setIfInBounds_toArray, List.set_cons_zero, List.set_cons_succ, i64_w, i32_w]; rfl
          have hp := HS.perm [0, 1, 3, 4, 2, 5, 6, 7, 8, 9, 10, 11, 12, 13, 14, 15, 16, 17, 18, 19] (by decide)
          have hc := hcont ⟨A81, c81, B81, d81, A84, c84, B84, d84, g14⟩ w1 hp
          simp only [putAll, Act.put, List.setIfInBounds_toArray, List.set_cons_zero, List.set_cons_succ, i64_w, i32_w] at hc
          exact hc
      · refine al_R HS (by rfl) rfl rfl ?_
        clear HS
        intro g14 w1 HS
        refine hK.out _ _ (HS.drop 3) (fun _ => ?_)
        clear hK K
        refine norm_ (a' := ?_) ?_ ?_
        rotate_left
        · simp only [Act.put, List.setIfInBounds_toArray, List.set_cons_zero, List.set_cons_succ, i64_w, i32_w]; rfl
        refine one_ (i := 3) (N := some 83) #[true, true, true, true, false, false, false, false, true, false, false] rfl rfl (by kernel_rfl) (by decide) (fun K hK => ?_)
        refine goes_ Try.func35 (by kernel_rfl) rfl _ (by rfl) rfl rfl (by simp only [List.map_toArray, List.map_cons, List.map_nil]; rfl) ?_
        refine (HS.val (laws_toTx.calls (w := _)  (h := htx.out))).mono ?_
        clear HS
        rintro e w1 ⟨rfl, HS⟩
        refine ⟨_, rfl, ?_⟩
        refine hK.out _ _ (HS.drop 3) (fun _ => ?_)
        clear hK K
        refine norm_ (a' := ?_) ?_ ?_
        rotate_left
        · simp only [Act.put, List.setIfInBounds_toArray, List.set_cons_zero, List.set_cons_succ, i64_w, i32_w]; rfl
        refine one_ (i := 4) (N := some 84) #[true, true, true, true, true, false, false, false, true, false, false] rfl rfl (by kernel_rfl) (by decide) (fun K hK => ?_)
        refine goes_ Try.func33 (by kernel_rfl) rfl _ (by rfl) rfl rfl (by simp only [List.map_toArray, List.map_cons, List.map_nil]; rfl) ?_
        refine (HS.get2 rfl rfl (impl_Pay.calls (w := _) (hr0_0 := HS.reads A81) (hc0_0 := HS.cap A81) (hr0_1 := HS.reads B81) (hc0_1 := HS.cap B81) (h := hpi.out))).mono ?_
        clear HS
        rintro e w1 ⟨A84, c84, B84, d84, rfl, HS⟩
        refine ⟨_, rfl, ?_⟩
        refine hK.out _ _ (HS.drop 5) (fun _ => ?_)
        clear hK K
        refine norm_ (a' := ?_) ?_ ?_
        rotate_left
        · simp only [Act.put, List.setIfInBounds_toArray, List.set_cons_zero, List.set_cons_succ, i64_w, i32_w]; rfl
        refine pure_ (i := 5) (N := some 79) (v := ?_) (a' := ?_) #[true, true, true, true, true, true, false, false, true, false, false] rfl rfl (by kernel_rfl) (fun _ _ _ h => h) (Or.inl ⟨by rfl, ?_⟩) ?_ ?_
        rotate_left
        · intro w'; go_simp; with_reducible rfl
        rotate_left
        · simp only [Act.put, List.setIfInBounds_toArray, List.set_cons_zero, List.set_cons_succ, i64_w, i32_w]; rfl
        refine pure_ (i := 6) (N := some 85) (v := ?_) (a' := ?_) #[true, true, true, true, true, true, true, false, true, false, false] rfl rfl (by kernel_rfl) (fun _ _ _ h => h) (Or.inl ⟨by rfl, ?_⟩) ?_ ?_
        rotate_left
        · intro w'; go_simp; with_reducible rfl
        rotate_left
        · simp only [Act.put, List.setIfInBounds_toArray, List.set_cons_zero, List.set_cons_succ, i64_w, i32_w]; rfl
        refine pure_ (i := 7) (N := some 86) (v := ?_) (a' := ?_) #[true, true, true, true, true, true, true, true, true, false, false] rfl rfl (by kernel_rfl) (fun _ _ _ h => h) (Or.inl ⟨by rfl, ?_⟩) ?_ ?_
        rotate_left
        · intro w'; go_simp; with_reducible rfl
        rotate_left
        · simp only [Act.put, List.setIfInBounds_toArray, List.set_cons_zero, List.set_cons_succ, i64_w, i32_w]; rfl
        have hp := HS.perm [0, 1, 3, 4, 2, 5, 6, 7, 8, 9, 10, 11, 12, 13, 14, 15, 16, 17, 18, 19] (by decide)
        have hc := hcont ⟨A81, c81, B81, d81, A84, c84, B84, d84, g14⟩ w1 hp
        simp only [putAll, Act.put, List.setIfInBounds_toArray, List.set_cons_zero, List.set_cons_succ, i64_w, i32_w] at hc
        exact hc
    · refine al_R HS (by rfl) rfl rfl ?_
      clear HS
      intro g14 w1 HS
      refine hK.out _ _ (HS.drop 1) (fun _ => ?_)
      clear hK K
      refine norm_ (a' := ?_) ?_ ?_
      rotate_left
      · simp only [Act.put, List.setIfInBounds_toArray, List.set_cons_zero, List.set_cons_succ, i64_w, i32_w]; rfl
      refine one_ (i := 1) (N := some 81) #[true, true, true, false, false, false, false, false, true, false, false] rfl rfl (by kernel_rfl) (by decide) (fun K hK => ?_)
      refine goes_ Try.func17 (by kernel_rfl) rfl _ (by rfl) rfl rfl (by simp only [List.map_toArray, List.map_cons, List.map_nil]; rfl) ?_
      refine (HS.get2 rfl rfl (laws_toLedger.calls (w := _) (hr0_0 := Kd.C_below hr0.out HS.below) (hc0_0 := hc0.out) (hr0_1 := Kd.C_below hr1.out HS.below) (hc0_1 := hc1.out) (h := hto.out))).mono ?_
      clear HS
      rintro e w1 ⟨A81, c81, B81, d81, rfl, HS⟩
      refine ⟨_, rfl, ?_⟩
      refine hK.out _ _ (HS.drop 3) (fun _ => ?_)
      clear hK K
      refine norm_ (a' := ?_) ?_ ?_
      rotate_left
      · simp only [Act.put, List.setIfInBounds_toArray, List.set_cons_zero, List.set_cons_succ, i64_w, i32_w]; rfl
      refine one_ (i := 3) (N := some 83) #[true, true, true, true, false, false, false, false, true, false, false] rfl rfl (by kernel_rfl) (by decide) (fun K hK => ?_)
      refine goes_ Try.func35 (by kernel_rfl) rfl _ (by rfl) rfl rfl (by simp only [List.map_toArray, List.map_cons, List.map_nil]; rfl) ?_
      refine (HS.val (laws_toTx.calls (w := _)  (h := htx.out))).mono ?_
      clear HS
      rintro e w1 ⟨rfl, HS⟩
      refine ⟨_, rfl, ?_⟩
      refine hK.out _ _ (HS.drop 3) (fun _ => ?_)
      clear hK K
      refine norm_ (a' := ?_) ?_ ?_
      rotate_left
      · simp only [Act.put, List.setIfInBounds_toArray, List.set_cons_zero, List.set_cons_succ, i64_w, i32_w]; rfl
      refine one_ (i := 4) (N := some 84) #[true, true, true, true, true, false, false, false, true, false, false] rfl rfl (by kernel_rfl) (by decide) (fun K hK => ?_)
      refine goes_ Try.func33 (by kernel_rfl) rfl _ (by rfl) rfl rfl (by simp only [List.map_toArray, List.map_cons, List.map_nil]; rfl) ?_
      refine (HS.get2 rfl rfl (impl_Pay.calls (w := _) (hr0_0 := HS.reads A81) (hc0_0 := HS.cap A81) (hr0_1 := HS.reads B81) (hc0_1 := HS.cap B81) (h := hpi.out))).mono ?_
      clear HS
      rintro e w1 ⟨A84, c84, B84, d84, rfl, HS⟩
      refine ⟨_, rfl, ?_⟩
      refine hK.out _ _ (HS.drop 5) (fun _ => ?_)
      clear hK K
      refine norm_ (a' := ?_) ?_ ?_
      rotate_left
      · simp only [Act.put, List.setIfInBounds_toArray, List.set_cons_zero, List.set_cons_succ, i64_w, i32_w]; rfl
      refine pure_ (i := 5) (N := some 79) (v := ?_) (a' := ?_) #[true, true, true, true, true, true, false, false, true, false, false] rfl rfl (by kernel_rfl) (fun _ _ _ h => h) (Or.inl ⟨by rfl, ?_⟩) ?_ ?_
      rotate_left
      · intro w'; go_simp; with_reducible rfl
      rotate_left
      · simp only [Act.put, List.setIfInBounds_toArray, List.set_cons_zero, List.set_cons_succ, i64_w, i32_w]; rfl
      refine pure_ (i := 6) (N := some 85) (v := ?_) (a' := ?_) #[true, true, true, true, true, true, true, false, true, false, false] rfl rfl (by kernel_rfl) (fun _ _ _ h => h) (Or.inl ⟨by rfl, ?_⟩) ?_ ?_
      rotate_left
      · intro w'; go_simp; with_reducible rfl
      rotate_left
      · simp only [Act.put, List.setIfInBounds_toArray, List.set_cons_zero, List.set_cons_succ, i64_w, i32_w]; rfl
      refine pure_ (i := 7) (N := some 86) (v := ?_) (a' := ?_) #[true, true, true, true, true, true, true, true, true, false, false] rfl rfl (by kernel_rfl) (fun _ _ _ h => h) (Or.inl ⟨by rfl, ?_⟩) ?_ ?_
      rotate_left
      · intro w'; go_simp; with_reducible rfl
      rotate_left
      · simp only [Act.put, List.setIfInBounds_toArray, List.set_cons_zero, List.set_cons_succ, i64_w, i32_w]; rfl
      have hp := HS.perm [0, 1, 2, 3, 4, 5, 6, 7, 8, 9, 10, 11, 12, 13, 14, 15, 16, 17, 18, 19] (by decide)
      have hc := hcont ⟨A81, c81, B81, d81, A84, c84, B84, d84, g14⟩ w1 hp
      simp only [putAll, Act.put, List.setIfInBounds_toArray, List.set_cons_zero, List.set_cons_succ, i64_w, i32_w] at hc
      exact hc
  clear HS
  rintro ⟨A81, c81, B81, d81, A84, c84, B84, d84, g14⟩ w1 HS
  dsimp only at HS
  refine norm_ (a' := ?_) ?_ ?_
  rotate_left
  · simp only [putAll, Act.put, List.setIfInBounds_toArray, List.set_cons_zero, List.set_cons_succ, i64_w, i32_w]; rfl
  refine one_ (i := 9) (N := none) #[true, true, true, true, true, true, true, true, true, true, false] rfl rfl (by kernel_rfl) (by decide) (fun K hK => ?_)
  refine st_R HS (by rfl) rfl rfl rfl rfl (by rfl) (by rfl) (by rfl) ?_
  clear HS
  intro w1 HS
  refine hK.out _ _ (HS.drop 5) (fun _ => ?_)
  clear hK K
  refine pure_ (i := 10) (N := some 15) (v := ?_) (a' := ?_) #[true, true, true, true, true, true, true, true, true, true, true] rfl rfl (by kernel_rfl) (fun _ _ _ h => h) (Or.inl ⟨by rfl, ?_⟩) ?_ ?_
  rotate_left
  · intro w'; go_simp; with_reducible rfl
  rotate_left
  · simp only [Act.put, List.setIfInBounds_toArray, List.set_cons_zero, List.set_cons_succ, i64_w, i32_w]; rfl
  refine done_ (by kernel_rfl) ?_
  go_wp2_with (first | ((with_reducible refine gate_load rfl ?_); first | refine ev_loadC HS rfl rfl rfl (by rfl) ?_ | refine ev_loadS HS rfl rfl rfl (by rfl) ?_) | ((with_reducible refine gate_dst (N := 89) rfl ?_); refine ev_call (some 89) rfl rfl Try.func19 (by kernel_rfl) rfl rfl (by simp only [List.map_toArray, List.map_cons, List.map_nil]; rfl) ?_; refine (HS.val (laws_eqLedger.calls (w := _) (hr0_0 := HS.reads A84) (hc0_0 := HS.cap A84) (hr0_1 := HS.reads B84) (hc0_1 := HS.cap B84) (hr1_0 := HS.reads A26) (hc1_0 := HS.cap A26) (hr1_1 := HS.reads B26) (hc1_1 := HS.cap B26) (h := he1.out))).mono ?_; clear HS; rintro e w1 ⟨rfl, HS⟩; refine ⟨_, rfl, ?_⟩) | ((with_reducible refine gate_dst (N := 98) rfl ?_); refine ev_call (some 98) rfl rfl Try.func23 (by kernel_rfl) rfl rfl (by simp only [List.map_toArray, List.map_cons, List.map_nil]; rfl) ?_; refine (calls_at (by rw [← hl_gh.out, ← hl_gn.out]; try rfl) (HS.val (laws_heldLedger.calls (w := _) (hr0_0 := HS.reads A35) (hc0_0 := HS.cap A35) (hr0_1 := HS.reads B35) (hc0_1 := HS.cap B35) (h := hh.out)))).mono ?_; clear HS; rintro e w1 ⟨rfl, HS⟩; refine ⟨_, rfl, ?_⟩))
  go_ret
  exact ⟨rfl, HS.below⟩

theorem payL_len (h n : List Int) (f t a m : Int) : (payL h n f t a m).1.length = h.length ∧ (payL h n f t a m).2.1.length = n.length := by
  unfold payL
  repeat' split
  all_goals first | exact ⟨rfl, rfl⟩ | exact ⟨rfl, by simp⟩ | exact ⟨by simp [mvL], by simp⟩
theorem FnExactPay {w : World} {A0_0 : Option Addr} {c0_0 : Nat} {A0_1 : Option Addr} {c0_1 : Nat} (h n : List Int) (f t a m : Int) (hm : h.length ≤ maxLen) (hw : ∀ x ∈ h, (Lit.int .i64 x).wf = true) (hm' : n.length ≤ maxLen) (hw' : ∀ x ∈ n, (Lit.int .i64 x).wf = true)
    (_ : (Lit.int .i64 f).wf = true) (_ : (Lit.int .i64 t).wf = true) (_ : (Lit.int .i64 a).wf = true) (_ : (Lit.int .i64 m).wf = true)
    (hr0_0 : Kd.C (Kd.int .i64) w A0_0 h.length h) (hc0_0 : h.length ≤ c0_0) (hr0_1 : Kd.C (Kd.int .i64) w A0_1 n.length n) (hc0_1 : n.length ≤ c0_1) :
    Calls Try.prog 8 #[.agg #[.slice A0_0 h.length c0_0, .slice A0_1 n.length c0_1], .agg #[.int .i64 f, .int .i64 t, .int .i64 a, .int .i64 m]] w fun e w' => e = .returned (.bool true) ∧ Below w.heap.size w w' := by
  obtain ⟨r, hr, hc⟩ := szLedger_val h n 1048576 hm hm' (by omega) (by omega)
  rcases hc with hc | ⟨h0, h1⟩
  · exact walk0 A0_0 c0_0 h A0_1 c0_1 n f t a m r w ⟨hr0_0⟩ ⟨hc0_0⟩ ⟨hr0_1⟩ ⟨hc0_1⟩ ⟨hr⟩ (decide_eq_true hc)
  have b1 : h.length ≤ 1048576 := by omega
  have b2 : n.length ≤ 1048576 := by omega
  obtain ⟨l1, l2⟩ := payL_len h n f t a m
  obtain ⟨p, q, c, hp⟩ : ∃ p q c, payL h n f t a m = (p, q, c) := ⟨_, _, _, rfl⟩
  rw [hp] at l1 l2
  simp only at l1 l2
  obtain ⟨kt, ht⟩ := (toLedger_ev h n (by omega) (by omega)).rounds
  obtain ⟨ke1, he1⟩ := (eqLedger_refl p q (by omega) (by omega)).rounds
  obtain ⟨ke2, he2⟩ := (eqLedger_refl h n (by omega) (by omega)).rounds
  obtain ⟨km1, hm1⟩ := (markLedger_ev h n 1 (by omega) (by omega)).rounds
  obtain ⟨km2, hm2⟩ := (markLedger_ev p q 1 (by omega) (by omega)).rounds
  obtain ⟨kh, hh⟩ := (heldLedger_ev 1 p.length q.length (by omega) (by omega)).rounds
  exact walk1 A0_0 c0_0 h A0_1 c0_1 n f t a m r p q c _ _ _ _ _ _ w ⟨hr0_0⟩ ⟨hc0_0⟩ ⟨hr0_1⟩ ⟨hc0_1⟩ ⟨hr⟩ kt ⟨ht⟩ ⟨rfl⟩ 0 ⟨by unfold spec_Pay.f; rw [if_pos ⟨b1, b2⟩, hp]⟩ 0 ⟨by unfold impl_Pay.f; rw [if_pos ⟨b1, b2⟩, hp]⟩ ke1 ⟨he1⟩ ke2 ⟨he2⟩ km1 ⟨hm1⟩ km2 ⟨hm2⟩ kh ⟨hh⟩
    (decide_eq_false (by omega)) (decide_eq_false (by omega)) (decide_eq_false (by omega)) ⟨(marks_length _ _).symm⟩ ⟨(marks_length _ _).symm⟩
end Go.Proofs.Ytajblkfgdalldaa.Law
