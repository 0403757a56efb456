/- For every ledger and every list of payments the program's PayAll tells what the reference tells, both stay as they were, and what it tells shares nothing; no condition. -/
import Derived.Test.YtajblkfgdalldaaPFnExactPayAllx0
import Derived.Test.YtajblkfgdalldaaPFnExactPayAllx1
import Derived.Test.YtajblkfgdalldaaPFnExactPayAllx2
import Derived.Test.YtajblkfgdalldaaPFnExactPayAllx3
import Derived.Test.YtajblkfgdalldaaPFnExactPayAllx4
import Derived.Test.YtajblkfgdalldaaPFnExactPayAllx5
import Derived.Test.YtajblkfgdalldaaPFnExactPayAllx6
import Derived.Test.YtajblkfgdalldaaH
import Derived.Test.YtajblkfgdalldaaRowKit
namespace Go.Proofs.Ytajblkfgdalldaa.Law
open Go.RowKit Go.Proofs.YtajblkfgdalldaaW.PrintWords Go.Proofs.YtajblkfgdalldaaW.PrintLast Go.Proofs.YtajblkfgdalldaaW.PrintMore Go.Proofs.YtajblkfgdalldaaH Go.Proofs.Ytajblkfgdalldaa.PFnExactPayAll
set_option linter.unusedVariables false
set_option linter.unusedSimpArgs false

theorem szIntS_val (l : List Int) (a : Int) (hm : l.length ≤ maxLen) (h0 : 0 ≤ a) (h1 : a ≤ 1048576) : laws_szIntS.f l a = some (if a < l.length then -1 else a - l.length) := by
  unfold maxLen at hm
  have e : wrap64 (a - (l.length : Int)) = a - l.length := by unfold wrap64; omega
  unfold laws_szIntS.f
  rw [e]
  by_cases h : a < l.length
  · rw [if_pos (by omega), if_pos h]
  · rw [if_neg (by omega), if_neg h]

theorem szLedger_val (l m : List Int) (a : Int) (hl : l.length ≤ maxLen) (hm : m.length ≤ maxLen) (h0 : 0 ≤ a) (h1 : a ≤ 1048576) : ∃ r, laws_szLedger.f l m a = some r ∧ (r < 0 ∨ (0 ≤ r ∧ r = a - l.length - m.length)) := by
  unfold laws_szLedger.f
  rw [szIntS_val l a hl h0 h1, Option.bind_some]
  by_cases h : a < l.length
  · rw [if_pos h, if_pos (by omega)]
    exact ⟨-1, rfl, .inl (by omega)⟩
  · rw [if_neg h, if_neg (by omega), szIntS_val m _ hm (by omega) (by omega), Option.bind_some]
    by_cases h2 : a - l.length < m.length
    · rw [if_pos h2, if_pos (by omega)]
      exact ⟨-1, rfl, .inl (by omega)⟩
    · rw [if_neg h2, if_neg (by omega)]
      exact ⟨_, rfl, .inr ⟨by omega, rfl⟩⟩

theorem toIntS_loop (l : List Int) (hl : l.length ≤ 35184372088832) : ∀ (d n : Nat) (x : List Int), l.length - n = d → n ≤ l.length → x.length = l.length → x.take n = l.take n → Ev (fun k => laws_toIntS.l0 k l x (n : Int)) l := by
  intro d
  induction d with
  | zero =>
    intro n x hd hn hx ht
    obtain rfl : n = l.length := by omega
    refine Ev.step (f := fun _ => some x) (fun k => by simp only [laws_toIntS.l0]; rw [if_neg (by omega)]) (ev_some ?_)
    rw [List.take_of_length_le (by omega), List.take_of_length_le (by omega)] at ht
    exact ht
  | succ d ih =>
    intro n x hd hn hx ht
    have h1 : n < l.length := by omega
    refine Ev.step (f := fun k => laws_toIntS.l0 k l (x.set n l[n]) ((n + 1 : Nat) : Int)) (fun k => ?_) (ih (n + 1) (x.set n l[n]) (by omega) (by omega) (by simpa using hx) ?_)
    · simp only [laws_toIntS.l0]
      rw [if_pos (by omega), if_pos (by omega), if_pos (by omega), up1 n (by omega), rd_nat l n h1]
      rfl
    · rw [List.take_succ_eq_append_getElem (by simpa [hx] using h1), List.take_succ_eq_append_getElem h1]
      simp [List.take_set_of_le, ht]
theorem toIntS_ev (l : List Int) (hl : l.length ≤ 35184372088832) : Ev (fun k => laws_toIntS.f k l) l := by
  unfold laws_toIntS.f
  refine ev_pos (by omega) (ev_pos (by simpa using hl) ?_)
  exact toIntS_loop l hl l.length 0 _ (by omega) (by omega) (by simp) (by simp)

theorem toLedger_ev (l m : List Int) (hl : l.length ≤ 35184372088832) (hm : m.length ≤ 35184372088832) : Ev (fun k => laws_toLedger.f k l m) (l, m) := by
  unfold laws_toLedger.f
  exact Ev.bind (toIntS_ev l hl) (Ev.bind (toIntS_ev m hm) (ev_some rfl))

theorem eqIntS_loop (a b : List Int) (hl : a.length ≤ 35184372088832) (hab : a.length = b.length) : ∀ (d n : Nat), a.length - n = d → n ≤ a.length → Ev (fun k => laws_eqIntS.l0 k a b (n : Int)) (decide (a.drop n = b.drop n)) := by
  intro d
  induction d with
  | zero =>
    intro n hd hn
    obtain rfl : n = a.length := by omega
    refine Ev.step (f := fun _ => some true) (fun k => by simp only [laws_eqIntS.l0]; rw [if_neg (by omega)]) (ev_some ?_)
    rw [List.drop_of_length_le (by omega), List.drop_of_length_le (by omega)]; rfl
  | succ d ih =>
    intro n hd hn
    have h1 : n < a.length := by omega
    have h2 : n < b.length := by omega
    have e : (a.drop n = b.drop n) ↔ (a[n] = b[n] ∧ a.drop (n + 1) = b.drop (n + 1)) := by
      rw [List.drop_eq_getElem_cons h1, List.drop_eq_getElem_cons h2, List.cons.injEq]
    by_cases hc : a[n] = b[n]
    · refine Ev.step (f := fun k => laws_eqIntS.l0 k a b ((n + 1 : Nat) : Int)) (fun k => ?_) (ev_eq (ih (n + 1) (by omega) (by omega)) ?_)
      · simp only [laws_eqIntS.l0]
        rw [if_pos (by omega), if_pos (by omega), if_pos (by omega), rd_nat a n h1, rd_nat b n h2, if_pos hc, up1 n (by omega)]
      · exact decide_eq_decide.mpr (by rw [e]; simp [hc])
    · refine Ev.step (f := fun _ => some false) (fun k => ?_) (ev_some ?_)
      · simp only [laws_eqIntS.l0]
        rw [if_pos (by omega), if_pos (by omega), if_pos (by omega), rd_nat a n h1, rd_nat b n h2, if_neg hc]
      · exact (decide_eq_false (by rw [e]; exact fun h => hc h.1)).symm
theorem eqIntS_ev (a b : List Int) (hl : a.length ≤ 35184372088832) : Ev (fun k => laws_eqIntS.f k a b) (decide (a = b)) := by
  unfold laws_eqIntS.f
  by_cases h : a.length = b.length
  · exact ev_pos (by omega) (eqIntS_loop a b hl h a.length 0 (by omega) (by omega))
  · exact ev_neg (by omega) (ev_some (decide_eq_false (fun e => h (by rw [e]))).symm)

theorem eqLedger_refl (l m : List Int) (hl : l.length ≤ 35184372088832) (hm : m.length ≤ 35184372088832) : Ev (fun k => laws_eqLedger.f k l m l m) true := by
  unfold laws_eqLedger.f
  refine Ev.bind (eqIntS_ev l l hl) (ev_pos (by simp) ?_)
  exact Ev.bind (eqIntS_ev m m hm) (ev_pos (by simp) (ev_some rfl))

def marks (a : Int) (n : Nat) : List Int := (List.range n).map fun i : Nat => a + (i : Int)
theorem marks_length (a : Int) (n : Nat) : (marks a n).length = n := by simp [marks]
theorem marks_at (a : Int) (n i : Nat) (h : i < (marks a n).length) : (marks a n)[i] = a + (i : Int) := by simp [marks]
theorem markIntS_loop (a : Int) (N : Nat) (h0 : 0 ≤ a) (h1 : a + N < 4611686018427387904) : ∀ (d n : Nat) (x : List Int), N - n = d → n ≤ N → x.length = N → x.take n = (marks a N).take n → Ev (fun k => laws_markIntS.l0 k x (a + n) (n : Int)) (a + N, marks a N) := by
  intro d
  induction d with
  | zero =>
    intro n x hd hn hx ht
    obtain rfl : n = N := by omega
    refine Ev.step (f := fun _ => some (a + n, x)) (fun k => by simp only [laws_markIntS.l0]; rw [if_neg (by omega)]) (ev_some ?_)
    rw [List.take_of_length_le (by omega), List.take_of_length_le (by simp [marks_length])] at ht
    rw [ht]
  | succ d ih =>
    intro n x hd hn hx ht
    have hlt : n < N := by omega
    refine Ev.step (f := fun k => laws_markIntS.l0 k (x.set n (a + n)) (a + (n + 1 : Nat)) ((n + 1 : Nat) : Int)) (fun k => ?_) (ih (n + 1) (x.set n (a + n)) (by omega) (by omega) (by simpa using hx) ?_)
    · simp only [laws_markIntS.l0]
      rw [if_pos (by omega), if_pos (by omega), up1 n (by omega), up1' (a + n) (by omega) (by omega)]
      rw [show a + (n : Int) + 1 = a + ((n + 1 : Nat) : Int) by omega]
      rfl
    · rw [List.take_succ_eq_append_getElem (by simpa [hx] using hlt), List.take_succ_eq_append_getElem (by simpa [marks_length] using hlt)]
      simp [List.take_set_of_le, ht, marks_at]
theorem markIntS_ev (l : List Int) (a : Int) (h0 : 0 ≤ a) (h1 : a + l.length < 4611686018427387904) : Ev (fun k => laws_markIntS.f k l a) (a + l.length, marks a l.length) := by
  unfold laws_markIntS.f
  have := markIntS_loop a l.length h0 h1 l.length 0 l (by omega) (by omega) rfl (by simp)
  simpa using this

theorem markLedger_ev (l m : List Int) (a : Int) (h0 : 0 ≤ a) (h1 : a + l.length + m.length < 4611686018427387904) : Ev (fun k => laws_markLedger.f k l m a) (a + l.length + m.length, marks a l.length, marks (a + l.length) m.length) := by
  unfold laws_markLedger.f
  refine Ev.bind (markIntS_ev l a h0 (by omega)) ?_
  exact Ev.bind (markIntS_ev m _ (by omega) (by omega)) (ev_some rfl)

theorem heldIntS_loop (a : Int) (N : Nat) (h0 : 0 ≤ a) (h1 : a + N < 4611686018427387904) : ∀ (d n : Nat), N - n = d → n ≤ N → Ev (fun k => laws_heldIntS.l0 k (marks a N) (a + n) (n : Int)) (a + N) := by
  intro d
  have hl := marks_length a N
  induction d with
  | zero =>
    intro n hd hn
    obtain rfl : n = N := by omega
    exact Ev.step (f := fun _ => some (a + n)) (fun k => by simp only [laws_heldIntS.l0]; rw [if_neg (by omega)]) (ev_some rfl)
  | succ d ih =>
    intro n hd hn
    have hlt : n < (marks a N).length := by omega
    refine Ev.step (f := fun k => laws_heldIntS.l0 k (marks a N) (a + (n + 1 : Nat)) ((n + 1 : Nat) : Int)) (fun k => ?_) (ih (n + 1) (by omega) (by omega))
    simp only [laws_heldIntS.l0]
    rw [if_pos (by omega), if_pos (by omega), rd_nat _ n hlt, marks_at, if_pos rfl, up1 n (by omega), up1' (a + n) (by omega) (by omega)]
    rw [show a + (n : Int) + 1 = a + ((n + 1 : Nat) : Int) by omega]
theorem heldIntS_ev (a : Int) (N : Nat) (h0 : 0 ≤ a) (h1 : a + N < 4611686018427387904) : Ev (fun k => laws_heldIntS.f k (marks a N) a) (a + N) := by
  unfold laws_heldIntS.f
  have := heldIntS_loop a N h0 h1 N 0 (by omega) (by omega)
  simpa using this

theorem heldLedger_ev (a : Int) (n m : Nat) (h0 : 0 ≤ a) (h1 : a + n + m < 4611686018427387904) : Ev (fun k => laws_heldLedger.f k (marks a n) (marks (a + n) m) a) (a + n + m) := by
  unfold laws_heldLedger.f
  refine Ev.bind (heldIntS_ev a n h0 (by omega)) (ev_neg (by omega) ?_)
  exact Ev.bind (heldIntS_ev (a + n) m (by omega) (by omega)) (ev_neg (by omega) (ev_some rfl))

theorem szTxS_val (l : List S50) (a : Int) (hm : l.length ≤ maxLen) (h0 : 0 ≤ a) (h1 : a ≤ 1048576) : laws_szTxS.f l a = some (if a < l.length then -1 else a - l.length) := by
  unfold maxLen at hm
  have e : wrap64 (a - (l.length : Int)) = a - l.length := by unfold wrap64; omega
  unfold laws_szTxS.f
  rw [e]
  by_cases h : a < l.length
  · rw [if_pos (by omega), if_pos h]
  · rw [if_neg (by omega), if_neg h]

def toI (x : S50) : S45 := ⟨x.f0, x.f1, x.f2, x.f3⟩
theorem rdJ_nat (xs : List S50) (n : Nat) (h : n < xs.length) : rd_T50 xs (n : Int) = xs[n] := by
  unfold rd_T50; simp [List.getD_eq_getElem?_getD, h]
theorem toTxS_loop (l : List S50) (hl : l.length ≤ 8796093022208) : ∀ (d n : Nat) (x : List S45), l.length - n = d → n ≤ l.length → x.length = l.length → x.take n = (l.map toI).take n → Ev (fun k => laws_toTxS.l0 k l x (n : Int)) (l.map toI) := by
  intro d
  induction d with
  | zero =>
    intro n x hd hn hx ht
    obtain rfl : n = l.length := by omega
    refine Ev.step (f := fun _ => some x) (fun k => by simp only [laws_toTxS.l0]; rw [if_neg (by omega)]) (ev_some ?_)
    rw [List.take_of_length_le (by omega), List.take_of_length_le (by simp)] at ht
    exact ht
  | succ d ih =>
    intro n x hd hn hx ht
    have h1 : n < l.length := by omega
    refine Ev.step (f := fun k => laws_toTxS.l0 k l (x.set n (toI l[n])) ((n + 1 : Nat) : Int)) (fun k => ?_) (ih (n + 1) (x.set n (toI l[n])) (by omega) (by omega) (by simpa using hx) ?_)
    · simp only [laws_toTxS.l0]
      rw [if_pos (by omega), if_pos (by omega), rdJ_nat l n h1]
      simp only [laws_toTx.f, Option.bind_some]
      rw [if_pos (by omega), up1 n (by omega)]
      rfl
    · rw [List.take_succ_eq_append_getElem (by simpa [hx] using h1), List.take_succ_eq_append_getElem (by simpa using h1)]
      simp only [List.take_set_of_le (Nat.le_refl n), ht, List.getElem_set_self, List.getElem_map]
theorem toTxS_ev (l : List S50) (hl : l.length ≤ 8796093022208) : Ev (fun k => laws_toTxS.f k l) (l.map toI) := by
  unfold laws_toTxS.f
  refine ev_pos (by omega) (ev_pos (by simpa using hl) ?_)
  exact toTxS_loop l hl l.length 0 _ (by omega) (by omega) (by simp) (by simp)

def txOkS (x : S45) : Prop := txIs x.f0 x.f1 x.f2 x.f3
instance (x : S45) : Decidable (txOkS x) := by unfold txOkS; infer_instance
theorem rdT_nat (xs : List S45) (n : Nat) (h : n < xs.length) : rd_T45 xs (n : Int) = xs[n] := by
  unfold rd_T45; simp [List.getD_eq_getElem?_getD, h]
theorem eqTxS_refl (l : List S45) (hl : l.length ≤ 35184372088832) : Ev (fun k => laws_eqTxS.f k l l) true := by
  unfold laws_eqTxS.f
  refine ev_pos rfl ?_
  have loop : ∀ (d n : Nat), l.length - n = d → n ≤ l.length → Ev (fun k => laws_eqTxS.l0 k l l (n : Int)) true := by
    intro d
    induction d with
    | zero =>
      intro n hd hn
      exact Ev.step (f := fun _ => some true) (fun k => by simp only [laws_eqTxS.l0]; rw [if_neg (by omega)]) (ev_some rfl)
    | succ d ih =>
      intro n hd hn
      have h1 : n < l.length := by omega
      refine Ev.step (f := fun k => laws_eqTxS.l0 k l l ((n + 1 : Nat) : Int)) (fun k => ?_) (ih (n + 1) (by omega) (by omega))
      simp only [laws_eqTxS.l0]
      rw [if_pos (by omega), if_pos (by omega), if_pos (by omega), up1 n (by omega)]
      simp [laws_eqTx.f]
  exact loop l.length 0 (by omega) (by omega)

theorem impl_Pay_ev (h n : List Int) (f t a m : Int) (b1 : h.length ≤ 1048576) (b2 : n.length ≤ 1048576) : Ev (fun k => impl_Pay.f k h n f t a m) (payL h n f t a m) :=
  ⟨0, fun k _ => by show impl_Pay.f k h n f t a m = _; unfold impl_Pay.f; rw [if_pos ⟨b1, b2⟩]⟩

def payS (h n : List Int) (x : S45) : List Int × List Int × Int := payL h n x.f0 x.f1 x.f2 x.f3
def dropS (h n : List Int) (l : List S45) : List S45 := l.filter fun x => decide ((payS h n x).2.2 ≠ 2)
theorem paid_len (h n : List Int) (f t a m : Int) : (payL h n f t a m).1.length = h.length ∧ (payL h n f t a m).2.1.length = n.length := by
  unfold payL
  repeat' split
  all_goals first | exact ⟨rfl, rfl⟩ | exact ⟨rfl, by simp⟩ | exact ⟨by simp [mvL], by simp⟩
def payA : List Int → List Int → List Int → List S45 → List Int × List Int × List Int
  | h, n, acc, [] => (h, n, acc)
  | h, n, acc, x :: l => payA (payS h n x).1 (payS h n x).2.1 (acc ++ [(payS h n x).2.2]) l
theorem payA_len : ∀ (h n acc : List Int) (l : List S45), (payA h n acc l).1.length = h.length ∧ (payA h n acc l).2.1.length = n.length ∧ (payA h n acc l).2.2.length = acc.length + l.length
  | h, n, acc, [] => by simp [payA]
  | h, n, acc, x :: l => by
    obtain ⟨a, b, c⟩ := payA_len (payS h n x).1 (payS h n x).2.1 (acc ++ [(payS h n x).2.2]) l
    obtain ⟨d, e⟩ := paid_len h n x.f0 x.f1 x.f2 x.f3
    unfold payA
    refine ⟨a.trans d, b.trans e, c.trans ?_⟩
    simp; omega
theorem impl_PayAll_loop (p : List S45) (hl : p.length ≤ 1048576) : ∀ (d i : Nat) (h n acc : List Int), h.length ≤ 1048576 → n.length ≤ 1048576 → p.length - i = d → i ≤ p.length → acc.length ≤ i → Ev (fun k => impl_PayAll.l0 k acc p (p.length : Int) (i : Int) h n) (payA h n acc (p.drop i)) := by
  intro d
  induction d with
  | zero =>
    intro i h n acc b1 b2 hd hi ha
    obtain rfl : i = p.length := by omega
    rw [List.drop_length]
    exact Ev.step (f := fun _ => some (h, n, acc)) (fun k => by simp only [impl_PayAll.l0]; rw [if_neg (by omega)]) (ev_some rfl)
  | succ d ih =>
    intro i h n acc b1 b2 hd hi ha
    have h1 : i < p.length := by omega
    rw [List.drop_eq_getElem_cons h1]
    unfold payA
    refine Ev.step (f := fun k => (impl_Pay.f k h n p[i].f0 p[i].f1 p[i].f2 p[i].f3).bind fun bt => if acc.length < 17592186044416 then (impl_PayAll.l0 k (acc ++ [bt.2.2]) p (p.length : Int) ((i + 1 : Nat) : Int) bt.1 bt.2.1) else none) (fun k => by simp only [impl_PayAll.l0]; rw [if_pos (by omega), if_pos (by omega), if_pos (by omega), rdT_nat p i h1, up1 i (by omega)]) ?_
    refine Ev.bind (impl_Pay_ev h n _ _ _ _ b1 b2) ?_
    obtain ⟨e1, e2⟩ := paid_len h n p[i].f0 p[i].f1 p[i].f2 p[i].f3
    exact ev_pos (by omega) (ih (i + 1) _ _ _ (by first | omega | (unfold payS; omega)) (by first | omega | (unfold payS; omega)) (by omega) (by omega) (by simp; omega))
theorem impl_PayAll_ev (h n : List Int) (b1 : h.length ≤ 1048576) (b2 : n.length ≤ 1048576) (p : List S45) (hl : p.length ≤ 1048576) : Ev (fun k => impl_PayAll.f k h n p) (payA h n [] p) := by
  unfold impl_PayAll.f
  exact ev_const (impl_copyLedger_val h n b1 b2) (impl_PayAll_loop p hl p.length 0 h n [] b1 b2 (by omega) (by omega) (by simp))

theorem spec_Pay_ev (h n : List Int) (f t a m : Int) (b1 : h.length ≤ 1048576) (b2 : n.length ≤ 1048576) : Ev (fun k => spec_Pay.f k h n f t a m) (payL h n f t a m) :=
  ⟨0, fun k _ => by show spec_Pay.f k h n f t a m = _; unfold spec_Pay.f; rw [if_pos ⟨b1, b2⟩]⟩

theorem spec_PayAll_loop (p : List S45) (hl : p.length ≤ 1048576) : ∀ (d i : Nat) (h n acc : List Int), h.length ≤ 1048576 → n.length ≤ 1048576 → p.length - i = d → i ≤ p.length → acc.length ≤ i → Ev (fun k => spec_PayAll.l0 k p acc (i : Int) h n) (payA h n acc (p.drop i)) := by
  intro d
  induction d with
  | zero =>
    intro i h n acc b1 b2 hd hi ha
    obtain rfl : i = p.length := by omega
    rw [List.drop_length]
    exact Ev.step (f := fun _ => some (h, n, acc)) (fun k => by simp only [spec_PayAll.l0]; rw [if_neg (by omega)]) (ev_some rfl)
  | succ d ih =>
    intro i h n acc b1 b2 hd hi ha
    have h1 : i < p.length := by omega
    rw [List.drop_eq_getElem_cons h1]
    unfold payA
    refine Ev.step (f := fun k => (spec_Pay.f k h n p[i].f0 p[i].f1 p[i].f2 p[i].f3).bind fun bt => if acc.length < 17592186044416 then (spec_PayAll.l0 k p (acc ++ [bt.2.2]) ((i + 1 : Nat) : Int) bt.1 bt.2.1) else none) (fun k => by simp only [spec_PayAll.l0]; rw [if_pos (by omega), if_pos (by omega), rdT_nat p i h1, up1 i (by omega)]) ?_
    refine Ev.bind (spec_Pay_ev h n _ _ _ _ b1 b2) ?_
    obtain ⟨e1, e2⟩ := paid_len h n p[i].f0 p[i].f1 p[i].f2 p[i].f3
    exact ev_pos (by omega) (ih (i + 1) _ _ _ (by first | omega | (unfold payS; omega)) (by first | omega | (unfold payS; omega)) (by omega) (by omega) (by simp; omega))
theorem spec_PayAll_ev (h n : List Int) (b1 : h.length ≤ 1048576) (b2 : n.length ≤ 1048576) (p : List S45) (hl : p.length ≤ 1048576) : Ev (fun k => spec_PayAll.f k h n p) (payA h n [] p) := by
  unfold spec_PayAll.f
  exact ev_const (spec_l3Copy_val h n b1 b2) (spec_PayAll_loop p hl p.length 0 h n [] b1 b2 (by omega) (by omega) (by simp))

def beforeS (a b : S45) : Prop := a.f0 < b.f0 ∨ (a.f0 = b.f0 ∧ a.f3 < b.f3)
instance (a b : S45) : Decidable (beforeS a b) := by unfold beforeS; infer_instance
def poolAt (p : List S45) (j : Nat) : Prop := txOkS (p.getD j z45) ∧ (0 < j → beforeS (p.getD (j - 1) z45) (p.getD j z45))
def poolFrom (p : List S45) (i : Nat) : Prop := ∀ j, i ≤ j → j < p.length → poolAt p j
def poolIs (p : List S45) : Prop := poolFrom p 0 ∧ p.length ≤ 12
theorem poolFrom_step {p : List S45} {i : Nat} (h : i < p.length) : poolFrom p i ↔ poolAt p i ∧ poolFrom p (i + 1) := by
  refine ⟨fun H => ⟨H i (Nat.le_refl _) h, fun j hj => H j (by omega)⟩, fun H j hj hl => ?_⟩
  rcases Nat.eq_or_lt_of_le hj with rfl | hj
  · exact H.1
  · exact H.2 j (by omega) hl
theorem poolFrom_end {p : List S45} : poolFrom p p.length := fun j h1 h2 => absurd h2 (by omega)
theorem getD_at {p : List S45} {i : Nat} (h : i < p.length) : p.getD i z45 = p[i] := by simp [List.getD_eq_getElem?_getD, h]
def marksT (a : Int) (n : Nat) : List S45 := (List.range n).map fun i : Nat => ⟨a + 4 * (i : Int), a + 4 * (i : Int) + 1, a + 4 * (i : Int) + 2, a + 4 * (i : Int) + 3⟩
theorem marksT_length (a : Int) (n : Nat) : (marksT a n).length = n := by simp [marksT]
theorem marksT_at (a : Int) (n i : Nat) (h : i < (marksT a n).length) : (marksT a n)[i] = ⟨a + 4 * (i : Int), a + 4 * (i : Int) + 1, a + 4 * (i : Int) + 2, a + 4 * (i : Int) + 3⟩ := by simp [marksT]
theorem rdT_set (xs : List S45) (n : Nat) (v : S45) (h : n < xs.length) : rd_T45 (xs.set n v) (n : Int) = v := by
  rw [rdT_nat _ n (by simpa using h)]; simp
theorem wr4 (a : Int) (h0 : 0 ≤ a) (h : a < 4611686018427387900) : wrap64 (a + 1) = a + 1 ∧ wrap64 (a + 1 + 1) = a + 2 ∧ wrap64 (a + 2 + 1) = a + 3 ∧ wrap64 (a + 3 + 1) = a + 4 := by unfold wrap64; omega
theorem markTxS_loop (a : Int) (N : Nat) (h0 : 0 ≤ a) (h1 : a + 4 * (N : Int) < 4611686018427387900) : ∀ (d n : Nat) (x : List S45), N - n = d → n ≤ N → x.length = N → x.take n = (marksT a N).take n → Ev (fun k => laws_markTxS.l0 k x (a + 4 * (n : Int)) (n : Int)) (a + 4 * (N : Int), marksT a N) := by
  intro d
  induction d with
  | zero =>
    intro n x hd hn hx ht
    obtain rfl : n = N := by omega
    refine Ev.step (f := fun _ => some (a + 4 * (n : Int), x)) (fun k => by simp only [laws_markTxS.l0]; rw [if_neg (by omega)]) (ev_some ?_)
    rw [List.take_of_length_le (by omega), List.take_of_length_le (by simp [marksT_length])] at ht
    rw [ht]
  | succ d ih =>
    intro n x hd hn hx ht
    have hlt : n < N := by omega
    have hx2 : n < x.length := by omega
    obtain ⟨w1, w2, w3, w4⟩ := wr4 (a + 4 * (n : Int)) (by omega) (by omega)
    refine Ev.step (f := fun k => laws_markTxS.l0 k (x.set n ⟨a + 4 * (n : Int), a + 4 * (n : Int) + 1, a + 4 * (n : Int) + 2, a + 4 * (n : Int) + 3⟩) (a + 4 * ((n + 1 : Nat) : Int)) ((n + 1 : Nat) : Int)) (fun k => ?_) (ih (n + 1) (x.set n ⟨a + 4 * (n : Int), a + 4 * (n : Int) + 1, a + 4 * (n : Int) + 2, a + 4 * (n : Int) + 3⟩) (by omega) (by omega) (by simpa using hx) ?_)
    · have wn := up1 n (by omega)
      have e4 : a + 4 * (n : Int) + 4 = a + 4 * ((n + 1 : Nat) : Int) := by clear w1 w2 w3 w4 wn; omega
      have c1 : (n : Int) < (x.length : Int) := by clear w1 w2 w3 w4 wn; omega
      have c2 : 0 ≤ (n : Int) := by clear w1 w2 w3 w4 wn; omega
      simp only [laws_markTxS.l0]
      rw [if_pos c1, if_pos c2, w1, w2, w3, w4, wn, e4]
      simp only [Option.bind_some, Int.toNat_natCast, List.set_set, rdT_set _ _ _ hx2]
    · clear w1 w2 w3 w4
      rw [List.take_succ_eq_append_getElem (by simpa [hx] using hlt), List.take_succ_eq_append_getElem (by simpa [marksT_length] using hlt)]
      simp [List.take_set_of_le, ht, marksT_at]
theorem markTxS_ev (l : List S45) (a : Int) (h0 : 0 ≤ a) (h1 : a + 4 * (l.length : Int) < 4611686018427387900) : Ev (fun k => laws_markTxS.f k l a) (a + 4 * (l.length : Int), marksT a l.length) := by
  unfold laws_markTxS.f
  have := markTxS_loop a l.length h0 h1 l.length 0 l (by omega) (by omega) rfl (by simp)
  simpa using this

instance : AggT Try.prog 24 2 := ⟨by kernel_rfl, by kernel_rfl⟩
set_option maxHeartbeats 8000000 in
set_option maxRecDepth 100000 in
theorem walk0 (A0_0 : Option Addr) (c0_0 : Nat) (h : List Int) (A0_1 : Option Addr) (c0_1 : Nat) (n : List Int) (A1 : Option Addr) (c1 : Nat) (p : List S50) (r0 r : Int) (w : World) (hr0 : Aside0 (Kd.C (Kd.int .i64) w A0_0 h.length h)) (hc0 : Aside0 (h.length ≤ c0_0)) (hr1 : Aside0 (Kd.C (Kd.int .i64) w A0_1 n.length n)) (hc1 : Aside0 (n.length ≤ c0_1)) (hr2 : Aside0 (Kd.C k50 w A1 p.length p)) (hc2 : Aside0 (p.length ≤ c1)) (hsz : Aside0 (laws_szLedger.f h n 1048576 = some r0)) (hr_ : decide (r0 < 0) = true) :
    Calls Try.prog 12 #[.agg #[.slice A0_0 h.length c0_0, .slice A0_1 n.length c0_1], .slice A1 p.length c1] w fun e w' => e = .returned (.bool true) ∧ Below w.heap.size w w' := by
  have HS := SS.nil w
  go_enter Try.func12, Try.ntmps12
  go_wp2_with (first | ((with_reducible refine gate_dst (N := 2) rfl ?_); refine ev_box HS (cs := #[.slice A0_0 h.length c0_0, .slice A0_1 n.length c0_1]) rfl rfl rfl ?_; clear HS; intro g2 w1 HS) | ((with_reducible refine gate_load rfl ?_); first | refine ev_loadC HS rfl rfl rfl (by rfl) ?_ | refine ev_loadS HS rfl rfl rfl (by rfl) ?_) | ((with_reducible refine gate_dst (N := 19) rfl ?_); refine ev_call (some 19) rfl rfl Try.func15 (by kernel_rfl) rfl rfl (by simp only [List.map_toArray, List.map_cons, List.map_nil]; rfl) ?_; refine (HS.val (laws_szLedger.calls (w := _) (hr0_0 := Kd.C_below hr0.out HS.below) (hc0_0 := hc0.out) (hr0_1 := Kd.C_below hr1.out HS.below) (hc0_1 := hc1.out) (h := hsz.out))).mono ?_; clear HS; rintro e w1 ⟨rfl, HS⟩; refine ⟨_, rfl, ?_⟩))
  go_ret
  exact ⟨rfl, HS.below⟩

set_option maxHeartbeats 8000000 in
set_option maxRecDepth 100000 in
theorem walk2 (A0_0 : Option Addr) (c0_0 : Nat) (h : List Int) (A0_1 : Option Addr) (c0_1 : Nat) (n : List Int) (A1 : Option Addr) (c1 : Nat) (p : List S50) (r0 r : Int) (w : World) (hr0 : Aside0 (Kd.C (Kd.int .i64) w A0_0 h.length h)) (hc0 : Aside0 (h.length ≤ c0_0)) (hr1 : Aside0 (Kd.C (Kd.int .i64) w A0_1 n.length n)) (hc1 : Aside0 (n.length ≤ c0_1)) (hr2 : Aside0 (Kd.C k50 w A1 p.length p)) (hc2 : Aside0 (p.length ≤ c1)) (hsz : Aside0 (laws_szLedger.f h n 1048576 = some r0))
    (hsp : Aside0 (laws_szTxS.f p r0 = some r)) (hr_ : decide (r0 < 0) = false) (hr2_ : decide (r < 0) = true) :
    Calls Try.prog 12 #[.agg #[.slice A0_0 h.length c0_0, .slice A0_1 n.length c0_1], .slice A1 p.length c1] w fun e w' => e = .returned (.bool true) ∧ Below w.heap.size w w' := by
  have HS := SS.nil w
  go_enter Try.func12, Try.ntmps12
  go_wp2_with (first | ((with_reducible refine gate_dst (N := 2) rfl ?_); refine ev_box HS (cs := #[.slice A0_0 h.length c0_0, .slice A0_1 n.length c0_1]) rfl rfl rfl ?_; clear HS; intro g2 w1 HS) | ((with_reducible refine gate_load rfl ?_); first | refine ev_loadC HS rfl rfl rfl (by rfl) ?_ | refine ev_loadS HS rfl rfl rfl (by rfl) ?_) | ((with_reducible refine gate_dst (N := 19) rfl ?_); refine ev_call (some 19) rfl rfl Try.func15 (by kernel_rfl) rfl rfl (by simp only [List.map_toArray, List.map_cons, List.map_nil]; rfl) ?_; refine (HS.val (laws_szLedger.calls (w := _) (hr0_0 := Kd.C_below hr0.out HS.below) (hc0_0 := hc0.out) (hr0_1 := Kd.C_below hr1.out HS.below) (hc0_1 := hc1.out) (h := hsz.out))).mono ?_; clear HS; rintro e w1 ⟨rfl, HS⟩; refine ⟨_, rfl, ?_⟩) | ((with_reducible refine gate_dst (N := 24) rfl ?_); refine ev_call (some 24) rfl rfl Try.func26 (by kernel_rfl) rfl rfl (by simp only [List.map_toArray, List.map_cons, List.map_nil]; rfl) ?_; refine (HS.valD (laws_szTxS.calls (w := _) (hr0 := Kd.C_below hr2.out HS.below) (hc0 := hc2.out) (h := hsp.out))).mono ?_; clear HS; rintro e w1 ⟨rfl, HS⟩; refine ⟨_, rfl, ?_⟩))
  go_ret
  exact ⟨rfl, HS.below⟩

set_option maxHeartbeats 8000000 in
set_option maxRecDepth 100000 in
theorem walk1 (A0_0 : Option Addr) (c0_0 : Nat) (h : List Int) (A0_1 : Option Addr) (c0_1 : Nat) (n : List Int) (A1 : Option Addr) (c1 : Nat) (p : List S50) (r0 r : Int) (q : List S45) (rh rn rc : List Int) (k0 k1 : Int) (mh mn : List Int) (mq : List S45) (m0 m1 : Int) (gh gn gc : List Int) (w : World) (hr0 : Aside0 (Kd.C (Kd.int .i64) w A0_0 h.length h)) (hc0 : Aside0 (h.length ≤ c0_0)) (hr1 : Aside0 (Kd.C (Kd.int .i64) w A0_1 n.length n)) (hc1 : Aside0 (n.length ≤ c0_1)) (hr2 : Aside0 (Kd.C k50 w A1 p.length p)) (hc2 : Aside0 (p.length ≤ c1)) (hsz : Aside0 (laws_szLedger.f h n 1048576 = some r0))
    (hsp : Aside0 (laws_szTxS.f p r0 = some r))
    (k_hto : Nat) (hto : Aside0 (laws_toLedger.f k_hto h n = some (h, n)))
    (k_htp : Nat) (htp : Aside0 (laws_toTxS.f k_htp p = some q))
    (k_hs : Nat) (hs : Aside0 (spec_PayAll.f k_hs h n q = some (rh, rn, rc)))
    (k_hi : Nat) (hi : Aside0 (impl_PayAll.f k_hi h n q = some (rh, rn, rc)))
    (k_he1 : Nat) (he1 : Aside0 (laws_eqLedger.f k_he1 rh rn rh rn = some true))
    (k_he2 : Nat) (he2 : Aside0 (laws_eqIntS.f k_he2 rc rc = some true))
    (k_he3 : Nat) (he3 : Aside0 (laws_eqLedger.f k_he3 h n h n = some true))
    (k_he4 : Nat) (he4 : Aside0 (laws_eqTxS.f k_he4 q q = some true))
    (k_hm0 : Nat) (hm0 : Aside0 (laws_markLedger.f k_hm0 h n 1 = some (k0, mh, mn)))
    (k_hm1 : Nat) (hm1 : Aside0 (laws_markTxS.f k_hm1 q k0 = some (k1, mq)))
    (k_hm2 : Nat) (hm2 : Aside0 (laws_markLedger.f k_hm2 rh rn 1 = some (m0, gh, gn)))
    (k_hm3 : Nat) (hm3 : Aside0 (laws_markIntS.f k_hm3 rc m0 = some (m1, gc)))
    (k_hh : Nat) (hh : Aside0 (laws_heldLedger.f k_hh gh gn 1 = some m0))
    (k_hh2 : Nat) (hh2 : Aside0 (laws_heldIntS.f k_hh2 gc m0 = some m1)) (hr_ : decide (r0 < 0) = false) (hr2_ : decide (r < 0) = false) (hk_ : decide (k1 < 0) = false) (hq_ : decide (m0 < 0) = false) (hq2_ : decide (m1 < 0) = false) (hl_gh : Aside0 (rh.length = gh.length)) (hl_gn : Aside0 (rn.length = gn.length)) (hl_gc : Aside0 (rc.length = gc.length)) :
    Calls Try.prog 12 #[.agg #[.slice A0_0 h.length c0_0, .slice A0_1 n.length c0_1], .slice A1 p.length c1] w fun e w' => e = .returned (.bool true) ∧ Below w.heap.size w w' := by
  have HS := SS.nil w
  go_enter Try.func12, Try.ntmps12
  go_upto_region 14 with (first | ((with_reducible refine gate_dst (N := 2) rfl ?_); refine ev_box HS (cs := #[.slice A0_0 h.length c0_0, .slice A0_1 n.length c0_1]) rfl rfl rfl ?_; clear HS; intro g2 w1 HS) | ((with_reducible refine gate_load rfl ?_); first | refine ev_loadC HS rfl rfl rfl (by rfl) ?_ | refine ev_loadS HS rfl rfl rfl (by rfl) ?_) | ((with_reducible refine gate_dst (N := 19) rfl ?_); refine ev_call (some 19) rfl rfl Try.func15 (by kernel_rfl) rfl rfl (by simp only [List.map_toArray, List.map_cons, List.map_nil]; rfl) ?_; refine (HS.val (laws_szLedger.calls (w := _) (hr0_0 := Kd.C_below hr0.out HS.below) (hc0_0 := hc0.out) (hr0_1 := Kd.C_below hr1.out HS.below) (hc0_1 := hc1.out) (h := hsz.out))).mono ?_; clear HS; rintro e w1 ⟨rfl, HS⟩; refine ⟨_, rfl, ?_⟩) | ((with_reducible refine gate_dst (N := 24) rfl ?_); refine ev_call (some 24) rfl rfl Try.func26 (by kernel_rfl) rfl rfl (by simp only [List.map_toArray, List.map_cons, List.map_nil]; rfl) ?_; refine (HS.valD (laws_szTxS.calls (w := _) (hr0 := Kd.C_below hr2.out HS.below) (hc0 := hc2.out) (h := hsp.out))).mono ?_; clear HS; rintro e w1 ⟨rfl, HS⟩; refine ⟨_, rfl, ?_⟩) | ((with_reducible refine gate_dst (N := 29) rfl ?_); refine ev_call (some 29) rfl rfl Try.func17 (by kernel_rfl) rfl rfl (by simp only [List.map_toArray, List.map_cons, List.map_nil]; rfl) ?_; refine (HS.get2 rfl rfl (laws_toLedger.calls (w := _) (hr0_0 := Kd.C_below hr0.out HS.below) (hc0_0 := hc0.out) (hr0_1 := Kd.C_below hr1.out HS.below) (hc0_1 := hc1.out) (h := hto.out))).mono ?_; clear HS; rintro e w1 ⟨A29, c29, B29, d29, rfl, HS⟩; refine ⟨_, rfl, ?_⟩) | ((with_reducible refine gate_dst (N := 31) rfl ?_); refine ev_call (some 31) rfl rfl Try.func28 (by kernel_rfl) rfl rfl (by simp only [List.map_toArray, List.map_cons, List.map_nil]; rfl) ?_; refine (HS.get1 (laws_toTxS.calls (w := _) (hr0 := Kd.C_below hr2.out HS.below) (hc0 := hc2.out) (h := htp.out))).mono ?_; clear HS; rintro e w1 ⟨A31, c31, rfl, HS⟩; refine ⟨_, rfl, ?_⟩) | ((with_reducible refine gate_dst (N := 32) rfl ?_); refine ev_call (some 32) rfl rfl Try.func40 (by kernel_rfl) rfl rfl (by simp only [List.map_toArray, List.map_cons, List.map_nil]; rfl) ?_; refine (HS.get3 rfl rfl rfl (spec_PayAll.calls (w := _) (hr0_0 := HS.reads A29) (hc0_0 := HS.cap A29) (hr0_1 := HS.reads B29) (hc0_1 := HS.cap B29) (hr1 := HS.reads A31) (hc1 := HS.cap A31) (h := hs.out))).mono ?_; clear HS; rintro e w1 ⟨A32, c32, B32, d32, C32, e32, rfl, HS⟩; refine ⟨_, rfl, ?_⟩) | ((with_reducible refine gate_dst (N := 6) rfl ?_); refine ev_alloc HS rfl rfl ?_; clear HS; intro g6 w1 HS) | ((with_reducible refine gate_put rfl ?_); (first | refine ev_storeC HS rfl rfl rfl rfl rfl (by rfl) (by rfl) ?_ | refine ev_storeS HS rfl rfl rfl rfl rfl (by rfl) (by rfl) (by rfl) ?_); clear HS; intro w1 HS) | ((with_reducible refine gate_dst (N := 36) rfl ?_); refine ev_call (some 36) rfl rfl Try.func17 (by kernel_rfl) rfl rfl (by simp only [List.map_toArray, List.map_cons, List.map_nil]; rfl) ?_; refine (HS.get2 rfl rfl (laws_toLedger.calls (w := _) (hr0_0 := Kd.C_below hr0.out HS.below) (hc0_0 := hc0.out) (hr0_1 := Kd.C_below hr1.out HS.below) (hc0_1 := hc1.out) (h := hto.out))).mono ?_; clear HS; rintro e w1 ⟨A36, c36, B36, d36, rfl, HS⟩; refine ⟨_, rfl, ?_⟩) | ((with_reducible refine gate_dst (N := 8) rfl ?_); refine ev_alloc HS rfl rfl ?_; clear HS; intro g8 w1 HS) | ((with_reducible refine gate_dst (N := 38) rfl ?_); refine ev_call (some 38) rfl rfl Try.func28 (by kernel_rfl) rfl rfl (by simp only [List.map_toArray, List.map_cons, List.map_nil]; rfl) ?_; refine (HS.get1 (laws_toTxS.calls (w := _) (hr0 := Kd.C_below hr2.out HS.below) (hc0 := hc2.out) (h := htp.out))).mono ?_; clear HS; rintro e w1 ⟨A38, c38, rfl, HS⟩; refine ⟨_, rfl, ?_⟩) | ((with_reducible refine gate_dst (N := 42) rfl ?_); refine ev_call (some 42) rfl rfl Try.func39 (by kernel_rfl) rfl rfl (by simp only [List.map_toArray, List.map_cons, List.map_nil]; rfl) ?_; refine (HS.get3 rfl rfl rfl (impl_PayAll.calls (w := _) (hr0_0 := HS.reads A36) (hc0_0 := HS.cap A36) (hr0_1 := HS.reads B36) (hc0_1 := HS.cap B36) (hr1 := HS.reads A38) (hc1 := HS.cap A38) (h := hi.out))).mono ?_; clear HS; rintro e w1 ⟨A42, c42, B42, d42, C42, e42, rfl, HS⟩; refine ⟨_, rfl, ?_⟩) | ((with_reducible refine gate_dst (N := 10) rfl ?_); refine ev_alloc HS rfl rfl ?_; clear HS; intro g10 w1 HS) | ((with_reducible refine gate_dst (N := 47) rfl ?_); refine ev_call (some 47) rfl rfl Try.func19 (by kernel_rfl) rfl rfl (by simp only [List.map_toArray, List.map_cons, List.map_nil]; rfl) ?_; refine (HS.val (laws_eqLedger.calls (w := _) (hr0_0 := HS.reads A42) (hc0_0 := HS.cap A42) (hr0_1 := HS.reads B42) (hc0_1 := HS.cap B42) (hr1_0 := HS.reads A32) (hc1_0 := HS.cap A32) (hr1_1 := HS.reads B32) (hc1_1 := HS.cap B32) (h := he1.out))).mono ?_; clear HS; rintro e w1 ⟨rfl, HS⟩; refine ⟨_, rfl, ?_⟩) | ((with_reducible refine gate_dst (N := 52) rfl ?_); refine ev_call (some 52) rfl rfl Try.func45 (by kernel_rfl) rfl rfl (by simp only [List.map_toArray, List.map_cons, List.map_nil]; rfl) ?_; refine (HS.valD (laws_eqIntS.calls (w := _) (hr0 := HS.reads C42) (hc0 := HS.cap C42) (hr1 := HS.reads C32) (hc1 := HS.cap C32) (h := he2.out))).mono ?_; clear HS; rintro e w1 ⟨rfl, HS⟩; refine ⟨_, rfl, ?_⟩))
  refine start_ (n := 5) (S := fun w' => SS w w' _) (ds := []) #[false, false, false, false, false] (by kernel_rfl) rfl rfl HS.drew (fun _ => ?_)
  replace HS := HS.drew
  generalize w1.drew = w1 at HS ⊢
  refine take_ (i := 0) (N := some 55) (a' := ?_) #[true, false, false, false, false] rfl rfl (by kernel_rfl) (fun _ _ _ h => h) (Or.inl ⟨by rfl, fun w' hs => rl_S hs rfl rfl (by rfl)⟩) (HS.drop 0) ?_ ?_
  rotate_left
  · simp only [Act.put, List.setIfInBounds_toArray, List.set_cons_zero, List.set_cons_succ, i64_w, i32_w]; rfl
  refine take_ (i := 1) (N := some 56) (a' := ?_) #[true, true, false, false, false] rfl rfl (by kernel_rfl) (fun _ _ _ h => h) (Or.inl ⟨by rfl, fun w' hs => rl_S hs rfl rfl (by rfl)⟩) (HS.drop 0) ?_ ?_
  rotate_left
  · simp only [Act.put, List.setIfInBounds_toArray, List.set_cons_zero, List.set_cons_succ, i64_w, i32_w]; rfl
  refine one_ (i := 2) (N := some 57) #[true, true, true, false, false] rfl rfl (by kernel_rfl) (by decide) (fun K hK => ?_)
  refine goes_ Try.func17 (by kernel_rfl) rfl _ (by rfl) rfl rfl (by simp only [List.map_toArray, List.map_cons, List.map_nil]; rfl) ?_
  refine (HS.get2 rfl rfl (laws_toLedger.calls (w := _) (hr0_0 := Kd.C_below hr0.out HS.below) (hc0_0 := hc0.out) (hr0_1 := Kd.C_below hr1.out HS.below) (hc0_1 := hc1.out) (h := hto.out))).mono ?_
  clear HS
  rintro e w1 ⟨A57, c57, B57, d57, rfl, HS⟩
  refine ⟨_, rfl, ?_⟩
  refine hK.out _ _ (HS.drop 2) (fun _ => ?_)
  clear hK K
  refine norm_ (a' := ?_) ?_ ?_
  rotate_left
  · simp only [Act.put, List.setIfInBounds_toArray, List.set_cons_zero, List.set_cons_succ, i64_w, i32_w]; rfl
  refine one_ (i := 3) (N := some 58) #[true, true, true, true, false] rfl rfl (by kernel_rfl) (by decide) (fun K hK => ?_)
  refine goes_ Try.func19 (by kernel_rfl) rfl _ (by rfl) rfl rfl (by simp only [List.map_toArray, List.map_cons, List.map_nil]; rfl) ?_
  refine (HS.val (laws_eqLedger.calls (w := _) (hr0_0 := HS.reads A36) (hc0_0 := HS.cap A36) (hr0_1 := HS.reads B36) (hc0_1 := HS.cap B36) (hr1_0 := HS.reads A57) (hc1_0 := HS.cap A57) (hr1_1 := HS.reads B57) (hc1_1 := HS.cap B57) (h := he3.out))).mono ?_
  clear HS
  rintro e w1 ⟨rfl, HS⟩
  refine ⟨_, rfl, ?_⟩
  refine hK.out _ _ (HS.drop 2) (fun _ => ?_)
  clear hK K
  refine norm_ (a' := ?_) ?_ ?_
  rotate_left
  · simp only [Act.put, List.setIfInBounds_toArray, List.set_cons_zero, List.set_cons_succ, i64_w, i32_w]; rfl
  refine pure_ (i := 4) (N := some 59) (v := ?_) (a' := ?_) #[true, true, true, true, true] rfl rfl (by kernel_rfl) (fun _ _ _ h => h) (Or.inl ⟨by rfl, ?_⟩) ?_ ?_
  rotate_left
  · intro w'; go_simp; (try with_reducible rfl)
  rotate_left
  · simp only [Act.put, List.setIfInBounds_toArray, List.set_cons_zero, List.set_cons_succ, i64_w, i32_w]; rfl
  refine done_ (by kernel_rfl) ?_
  go_wp2_with (first | ((with_reducible refine gate_dst (N := 62) rfl ?_); refine ev_call (some 62) rfl rfl Try.func28 (by kernel_rfl) rfl rfl (by simp only [List.map_toArray, List.map_cons, List.map_nil]; rfl) ?_; refine (HS.get1 (laws_toTxS.calls (w := _) (hr0 := Kd.C_below hr2.out HS.below) (hc0 := hc2.out) (h := htp.out))).mono ?_; clear HS; rintro e w1 ⟨A62, c62, rfl, HS⟩; refine ⟨_, rfl, ?_⟩) | ((with_reducible refine gate_dst (N := 63) rfl ?_); refine ev_call (some 63) rfl rfl Try.func30 (by kernel_rfl) rfl rfl (by simp only [List.map_toArray, List.map_cons, List.map_nil]; rfl) ?_; refine (HS.val (laws_eqTxS.calls (w := _) (hr0 := HS.reads A38) (hc0 := HS.cap A38) (hr1 := HS.reads A62) (hc1 := HS.cap A62) (h := he4.out))).mono ?_; clear HS; rintro e w1 ⟨rfl, HS⟩; refine ⟨_, rfl, ?_⟩) | ((with_reducible refine gate_load rfl ?_); first | refine ev_loadC HS rfl rfl rfl (by rfl) ?_ | refine ev_loadS HS rfl rfl rfl (by rfl) ?_) | ((with_reducible refine gate_dst (N := 67) rfl ?_); refine ev_call (some 67) rfl rfl Try.func22 (by kernel_rfl) rfl rfl (by simp only [List.map_toArray, List.map_cons, List.map_nil]; rfl) ?_; refine (HS.mark2 A36 B36 (by decide) rfl rfl (fun F G hF hFG hG hGF => laws_markLedger.calls (w0 := w) (P0_0_ := F) (P0_1_ := G) (hB := HS.below) (ho0_0 := hF) (hp0_0_0_1 := hFG) (ho0_1 := hG) (hp0_1_0_0 := hGF) (h := hm0.out))).mono ?_; clear HS; rintro e w1 ⟨rfl, HS⟩; refine ⟨_, rfl, ?_⟩) | ((with_reducible refine gate_dst (N := 70) rfl ?_); refine ev_call (some 70) rfl rfl Try.func43 (by kernel_rfl) rfl rfl (by simp only [List.map_toArray, List.map_cons, List.map_nil]; rfl) ?_; refine (HS.mark A38 (fun F hF => laws_markTxS.calls (w0 := w) (P0_ := F) (hB := HS.below) (ho0 := hF) (h := hm1.out))).mono ?_; clear HS; rintro e w1 ⟨rfl, HS⟩; refine ⟨_, rfl, ?_⟩) | ((with_reducible refine gate_dst (N := 76) rfl ?_); refine ev_call (some 76) rfl rfl Try.func19 (by kernel_rfl) rfl rfl (by simp only [List.map_toArray, List.map_cons, List.map_nil]; rfl) ?_; refine (HS.val (laws_eqLedger.calls (w := _) (hr0_0 := HS.reads A42) (hc0_0 := HS.cap A42) (hr0_1 := HS.reads B42) (hc0_1 := HS.cap B42) (hr1_0 := HS.reads A32) (hc1_0 := HS.cap A32) (hr1_1 := HS.reads B32) (hc1_1 := HS.cap B32) (h := he1.out))).mono ?_; clear HS; rintro e w1 ⟨rfl, HS⟩; refine ⟨_, rfl, ?_⟩) | ((with_reducible refine gate_dst (N := 82) rfl ?_); refine ev_call (some 82) rfl rfl Try.func45 (by kernel_rfl) rfl rfl (by simp only [List.map_toArray, List.map_cons, List.map_nil]; rfl) ?_; refine (HS.valD (laws_eqIntS.calls (w := _) (hr0 := HS.reads C42) (hc0 := HS.cap C42) (hr1 := HS.reads C32) (hc1 := HS.cap C32) (h := he2.out))).mono ?_; clear HS; rintro e w1 ⟨rfl, HS⟩; refine ⟨_, rfl, ?_⟩) | ((with_reducible refine gate_dst (N := 87) rfl ?_); refine ev_call (some 87) rfl rfl Try.func22 (by kernel_rfl) rfl rfl (by simp only [List.map_toArray, List.map_cons, List.map_nil]; rfl) ?_; refine (HS.mark2 A42 B42 (by decide) rfl rfl (fun F G hF hFG hG hGF => laws_markLedger.calls (w0 := w) (P0_0_ := F) (P0_1_ := G) (hB := HS.below) (ho0_0 := hF) (hp0_0_0_1 := hFG) (ho0_1 := hG) (hp0_1_0_0 := hGF) (h := hm2.out))).mono ?_; clear HS; rintro e w1 ⟨rfl, HS⟩; refine ⟨_, rfl, ?_⟩) | ((with_reducible refine gate_dst (N := 90) rfl ?_); refine ev_call (some 90) rfl rfl Try.func46 (by kernel_rfl) rfl rfl (by simp only [List.map_toArray, List.map_cons, List.map_nil]; rfl) ?_; refine (HS.mark C42 (fun F hF => laws_markIntS.calls (w0 := w) (P0_ := F) (hB := HS.below) (ho0 := hF) (h := hm3.out))).mono ?_; clear HS; rintro e w1 ⟨rfl, HS⟩; refine ⟨_, rfl, ?_⟩) | ((with_reducible refine gate_dst (N := 93) rfl ?_); refine ev_call (some 93) rfl rfl Try.func23 (by kernel_rfl) rfl rfl (by simp only [List.map_toArray, List.map_cons, List.map_nil]; rfl) ?_; refine (calls_at (by rw [← hl_gh.out, ← hl_gn.out]; try rfl) (HS.val (laws_heldLedger.calls (w := _) (hr0_0 := HS.reads A42) (hc0_0 := HS.cap A42) (hr0_1 := HS.reads B42) (hc0_1 := HS.cap B42) (h := hh.out)))).mono ?_; clear HS; rintro e w1 ⟨rfl, HS⟩; refine ⟨_, rfl, ?_⟩) | ((with_reducible refine gate_dst (N := 98) rfl ?_); refine ev_call (some 98) rfl rfl Try.func47 (by kernel_rfl) rfl rfl (by simp only [List.map_toArray, List.map_cons, List.map_nil]; rfl) ?_; refine (calls_at (by rw [← hl_gc.out]; try rfl) (HS.valD (laws_heldIntS.calls (w := _) (hr0 := HS.reads C42) (hc0 := HS.cap C42) (h := hh2.out)))).mono ?_; clear HS; rintro e w1 ⟨rfl, HS⟩; refine ⟨_, rfl, ?_⟩) | ((with_reducible refine gate_dst (N := 106) rfl ?_); refine ev_call (some 106) rfl rfl Try.func17 (by kernel_rfl) rfl rfl (by simp only [List.map_toArray, List.map_cons, List.map_nil]; rfl) ?_; refine (HS.get2 rfl rfl (laws_toLedger.calls (w := _) (hr0_0 := Kd.C_below hr0.out HS.below) (hc0_0 := hc0.out) (hr0_1 := Kd.C_below hr1.out HS.below) (hc0_1 := hc1.out) (h := hto.out))).mono ?_; clear HS; rintro e w1 ⟨A106, c106, B106, d106, rfl, HS⟩; refine ⟨_, rfl, ?_⟩) | ((with_reducible refine gate_dst (N := 108) rfl ?_); refine ev_call (some 108) rfl rfl Try.func28 (by kernel_rfl) rfl rfl (by simp only [List.map_toArray, List.map_cons, List.map_nil]; rfl) ?_; refine (HS.get1 (laws_toTxS.calls (w := _) (hr0 := Kd.C_below hr2.out HS.below) (hc0 := hc2.out) (h := htp.out))).mono ?_; clear HS; rintro e w1 ⟨A108, c108, rfl, HS⟩; refine ⟨_, rfl, ?_⟩) | ((with_reducible refine gate_dst (N := 109) rfl ?_); refine ev_call (some 109) rfl rfl Try.func39 (by kernel_rfl) rfl rfl (by simp only [List.map_toArray, List.map_cons, List.map_nil]; rfl) ?_; refine (HS.get3 rfl rfl rfl (impl_PayAll.calls (w := _) (hr0_0 := HS.reads A106) (hc0_0 := HS.cap A106) (hr0_1 := HS.reads B106) (hc0_1 := HS.cap B106) (hr1 := HS.reads A108) (hc1 := HS.cap A108) (h := hi.out))).mono ?_; clear HS; rintro e w1 ⟨A109, c109, B109, d109, C109, e109, rfl, HS⟩; refine ⟨_, rfl, ?_⟩) | ((with_reducible refine gate_dst (N := 15) rfl ?_); refine ev_alloc HS rfl rfl ?_; clear HS; intro g15 w1 HS) | ((with_reducible refine gate_put rfl ?_); (first | refine ev_storeC HS rfl rfl rfl rfl rfl (by rfl) (by rfl) ?_ | refine ev_storeS HS rfl rfl rfl rfl rfl (by rfl) (by rfl) (by rfl) ?_); clear HS; intro w1 HS) | ((with_reducible refine gate_dst (N := 114) rfl ?_); refine ev_call (some 114) rfl rfl Try.func19 (by kernel_rfl) rfl rfl (by simp only [List.map_toArray, List.map_cons, List.map_nil]; rfl) ?_; refine (HS.val (laws_eqLedger.calls (w := _) (hr0_0 := HS.reads A109) (hc0_0 := HS.cap A109) (hr0_1 := HS.reads B109) (hc0_1 := HS.cap B109) (hr1_0 := HS.reads A32) (hc1_0 := HS.cap A32) (hr1_1 := HS.reads B32) (hc1_1 := HS.cap B32) (h := he1.out))).mono ?_; clear HS; rintro e w1 ⟨rfl, HS⟩; refine ⟨_, rfl, ?_⟩) | ((with_reducible refine gate_dst (N := 119) rfl ?_); refine ev_call (some 119) rfl rfl Try.func45 (by kernel_rfl) rfl rfl (by simp only [List.map_toArray, List.map_cons, List.map_nil]; rfl) ?_; refine (HS.valD (laws_eqIntS.calls (w := _) (hr0 := HS.reads C109) (hc0 := HS.cap C109) (hr1 := HS.reads C32) (hc1 := HS.cap C32) (h := he2.out))).mono ?_; clear HS; rintro e w1 ⟨rfl, HS⟩; refine ⟨_, rfl, ?_⟩) | ((with_reducible refine gate_dst (N := 124) rfl ?_); refine ev_call (some 124) rfl rfl Try.func23 (by kernel_rfl) rfl rfl (by simp only [List.map_toArray, List.map_cons, List.map_nil]; rfl) ?_; refine (calls_at (by rw [← hl_gh.out, ← hl_gn.out]; try rfl) (HS.val (laws_heldLedger.calls (w := _) (hr0_0 := HS.reads A42) (hc0_0 := HS.cap A42) (hr0_1 := HS.reads B42) (hc0_1 := HS.cap B42) (h := hh.out)))).mono ?_; clear HS; rintro e w1 ⟨rfl, HS⟩; refine ⟨_, rfl, ?_⟩) | ((with_reducible refine gate_dst (N := 129) rfl ?_); refine ev_call (some 129) rfl rfl Try.func47 (by kernel_rfl) rfl rfl (by simp only [List.map_toArray, List.map_cons, List.map_nil]; rfl) ?_; refine (calls_at (by rw [← hl_gc.out]; try rfl) (HS.valD (laws_heldIntS.calls (w := _) (hr0 := HS.reads C42) (hc0 := HS.cap C42) (h := hh2.out)))).mono ?_; clear HS; rintro e w1 ⟨rfl, HS⟩; refine ⟨_, rfl, ?_⟩))
  go_ret
  exact ⟨rfl, HS.below⟩

theorem FnExactPayAll {w : World} {A0_0 : Option Addr} {c0_0 : Nat} {A0_1 : Option Addr} {c0_1 : Nat} {A1 : Option Addr} {c1 : Nat} (h n : List Int) (p : List S50) (hm : h.length ≤ maxLen) (hw : ∀ x ∈ h, (Lit.int .i64 x).wf = true) (hm' : n.length ≤ maxLen) (hw' : ∀ x ∈ n, (Lit.int .i64 x).wf = true) (hm0 : p.length ≤ maxLen) (hw0 : ∀ x ∈ p, Go.Proofs.Ytajblkfgdalldaa.RowKit.Fit4 (x.f0, x.f1, x.f2, x.f3))
    (hr0_0 : Kd.C (Kd.int .i64) w A0_0 h.length h) (hc0_0 : h.length ≤ c0_0) (hr0_1 : Kd.C (Kd.int .i64) w A0_1 n.length n) (hc0_1 : n.length ≤ c0_1) (hr1 : Kd.C k50 w A1 p.length p) (hc1 : p.length ≤ c1) :
    Calls Try.prog 12 #[.agg #[.slice A0_0 h.length c0_0, .slice A0_1 n.length c0_1], .slice A1 p.length c1] w fun e w' => e = .returned (.bool true) ∧ Below w.heap.size w w' := by
  obtain ⟨r0, hr, hc⟩ := szLedger_val h n 1048576 hm hm' (by omega) (by omega)
  rcases hc with hc | ⟨h0, h1⟩
  · exact walk0 A0_0 c0_0 h A0_1 c0_1 n A1 c1 p r0 0 w ⟨hr0_0⟩ ⟨hc0_0⟩ ⟨hr0_1⟩ ⟨hc0_1⟩ ⟨hr1⟩ ⟨hc1⟩ ⟨hr⟩ (decide_eq_true hc)
  have hs0 := szTxS_val p r0 hm0 (by omega) (by omega)
  by_cases c : r0 < p.length
  · rw [if_pos c] at hs0
    exact walk2 A0_0 c0_0 h A0_1 c0_1 n A1 c1 p r0 (-1) w ⟨hr0_0⟩ ⟨hc0_0⟩ ⟨hr0_1⟩ ⟨hc0_1⟩ ⟨hr1⟩ ⟨hc1⟩ ⟨hr⟩ ⟨hs0⟩ (decide_eq_false (by omega)) (by decide)
  rw [if_neg c] at hs0
  have b1 : h.length ≤ 1048576 := by omega
  have b2 : n.length ≤ 1048576 := by omega
  have b4 : (p.map toI).length ≤ 1048576 := by rw [List.length_map]; omega
  obtain ⟨rh, rn, rc, hp⟩ : ∃ a b c, payA h n [] (p.map toI) = (a, b, c) := ⟨_, _, _, rfl⟩
  obtain ⟨l1, l2, l3⟩ := payA_len h n [] (p.map toI)
  rw [hp] at l1 l2 l3
  simp only [List.length_nil, Nat.zero_add] at l1 l2 l3
  obtain ⟨k1, f1⟩ := (toLedger_ev h n (by omega) (by omega)).rounds
  obtain ⟨k2, f2⟩ := (toTxS_ev p (by omega)).rounds
  obtain ⟨k3, f3⟩ := (spec_PayAll_ev h n b1 b2 (p.map toI) b4).rounds
  obtain ⟨k4, f4⟩ := (impl_PayAll_ev h n b1 b2 (p.map toI) b4).rounds
  rw [hp] at f3 f4
  obtain ⟨k5, f5⟩ := (eqLedger_refl rh rn (by omega) (by omega)).rounds
  obtain ⟨k5', f5'⟩ := (eqIntS_ev rc rc (by omega)).rounds
  rw [decide_eq_true rfl] at f5'
  obtain ⟨k6, f6⟩ := (eqTxS_refl (p.map toI) (by omega)).rounds
  obtain ⟨k7, f7⟩ := (eqLedger_refl h n (by omega) (by omega)).rounds
  obtain ⟨k8, f8⟩ := (markLedger_ev h n 1 (by omega) (by omega)).rounds
  obtain ⟨k9, f9⟩ := (markTxS_ev (p.map toI) (1 + h.length + n.length) (by omega) (by omega)).rounds
  obtain ⟨k10, f10⟩ := (markLedger_ev rh rn 1 (by omega) (by omega)).rounds
  obtain ⟨k11, f11⟩ := (markIntS_ev rc (1 + rh.length + rn.length) (by omega) (by omega)).rounds
  obtain ⟨k12, f12⟩ := (heldLedger_ev 1 rh.length rn.length (by omega) (by omega)).rounds
  obtain ⟨k13, f13⟩ := (heldIntS_ev (1 + rh.length + rn.length) rc.length (by omega) (by omega)).rounds
  exact walk1 A0_0 c0_0 h A0_1 c0_1 n A1 c1 p r0 _ (p.map toI) rh rn rc _ _ _ _ _ _ _ _ _ _ w ⟨hr0_0⟩ ⟨hc0_0⟩ ⟨hr0_1⟩ ⟨hc0_1⟩ ⟨hr1⟩ ⟨hc1⟩ ⟨hr⟩ ⟨hs0⟩ k1 ⟨f1⟩ k2 ⟨f2⟩ k3 ⟨f3⟩ k4 ⟨f4⟩ k5 ⟨f5⟩ k5' ⟨f5'⟩ k7 ⟨f7⟩ k6 ⟨f6⟩ k8 ⟨f8⟩ k9 ⟨f9⟩ k10 ⟨f10⟩ k11 ⟨f11⟩ k12 ⟨f12⟩ k13 ⟨f13⟩
    (decide_eq_false (by omega)) (decide_eq_false (by omega)) (decide_eq_false (by omega)) (decide_eq_false (by omega)) (decide_eq_false (by omega)) ⟨(marks_length _ _).symm⟩ ⟨(marks_length _ _).symm⟩ ⟨(marks_length _ _).symm⟩
end Go.Proofs.Ytajblkfgdalldaa.Law
