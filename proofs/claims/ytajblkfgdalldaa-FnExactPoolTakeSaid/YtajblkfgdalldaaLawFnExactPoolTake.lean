/- For every list of payments and every ledger the program's PoolTake tells what the reference tells, both stay as they were, and the list it tells shares nothing; no condition. -/
import Derived.Test.YtajblkfgdalldaaPFnExactPoolTakex0
import Derived.Test.YtajblkfgdalldaaPFnExactPoolTakex1
import Derived.Test.YtajblkfgdalldaaPFnExactPoolTakex2
import Derived.Test.YtajblkfgdalldaaPFnExactPoolTakex3
import Derived.Test.YtajblkfgdalldaaPFnExactPoolTakex4
import Derived.Test.YtajblkfgdalldaaPFnExactPoolTakex5
import Derived.Test.YtajblkfgdalldaaPFnExactPoolTakex6
import Derived.Test.YtajblkfgdalldaaPFnExactPoolTakex7
import Derived.Test.YtajblkfgdalldaaH
import Derived.Test.YtajblkfgdalldaaRowKit
namespace Go.Proofs.Ytajblkfgdalldaa.Law
open Go.RowKit Go.Proofs.YtajblkfgdalldaaW.PrintWords Go.Proofs.YtajblkfgdalldaaW.PrintLast Go.Proofs.YtajblkfgdalldaaW.PrintMore Go.Proofs.YtajblkfgdalldaaH Go.Proofs.Ytajblkfgdalldaa.PFnExactPoolTake
set_option linter.unusedVariables false
set_option linter.unusedSimpArgs false

theorem szIntS_val (l : List Int) (a : Int) (hm : l.length ≤ maxLen) (h0 : 0 ≤ a) (h1 : a ≤ 1048576) : laws_szIntS.f l a = some (if a < l.length then -1 else a - l.length) := by
  unfold maxLen at hm
  have e : wrap64 (a - (l.length : Int)) = a - l.length := by unfold wrap64; omega
  unfold laws_szIntS.f
  rw [e]
  by_cases h : a < l.length
  · rw [if_pos (by omega), if_pos h]
  · rw [if_neg (by omega), if_neg h]

theorem szLedger_val (l m : List Int) (a : Int) (hl : l.length ≤ maxLen) (hm : m.length ≤ maxLen) (h0 : 0 ≤ a) (h1 : a ≤ 1048576) : ∃ r, laws_szLedger.f l m a = some r ∧ (r < 0 ∨ (0 ≤ r ∧ r = a - l.length - m.length)) := by
  unfold laws_szLedger.f
  rw [szIntS_val l a hl h0 h1, Option.bind_some]
  by_cases h : a < l.length
  · rw [if_pos h, if_pos (by omega)]
    exact ⟨-1, rfl, .inl (by omega)⟩
  · rw [if_neg h, if_neg (by omega), szIntS_val m _ hm (by omega) (by omega), Option.bind_some]
    by_cases h2 : a - l.length < m.length
    · rw [if_pos h2, if_pos (by omega)]
      exact ⟨-1, rfl, .inl (by omega)⟩
    · rw [if_neg h2, if_neg (by omega)]
      exact ⟨_, rfl, .inr ⟨by omega, rfl⟩⟩

theorem toIntS_loop (l : List Int) (hl : l.length ≤ 35184372088832) : ∀ (d n : Nat) (x : List Int), l.length - n = d → n ≤ l.length → x.length = l.length → x.take n = l.take n → Ev (fun k => laws_toIntS.l0 k l x (n : Int)) l := by
  intro d
  induction d with
  | zero =>
    intro n x hd hn hx ht
    obtain rfl : n = l.length := by omega
    refine Ev.step (f := fun _ => some x) (fun k => by simp only [laws_toIntS.l0]; rw [if_neg (by omega)]) (ev_some ?_)
    rw [List.take_of_length_le (by omega), List.take_of_length_le (by omega)] at ht
    exact ht
  | succ d ih =>
    intro n x hd hn hx ht
    have h1 : n < l.length := by omega
    refine Ev.step (f := fun k => laws_toIntS.l0 k l (x.set n l[n]) ((n + 1 : Nat) : Int)) (fun k => ?_) (ih (n + 1) (x.set n l[n]) (by omega) (by omega) (by simpa using hx) ?_)
    · simp only [laws_toIntS.l0]
      rw [if_pos (by omega), if_pos (by omega), if_pos (by omega), up1 n (by omega), rd_nat l n h1]
      rfl
    · rw [List.take_succ_eq_append_getElem (by simpa [hx] using h1), List.take_succ_eq_append_getElem h1]
      simp [List.take_set_of_le, ht]
theorem toIntS_ev (l : List Int) (hl : l.length ≤ 35184372088832) : Ev (fun k => laws_toIntS.f k l) l := by
  unfold laws_toIntS.f
  refine ev_pos (by omega) (ev_pos (by simpa using hl) ?_)
  exact toIntS_loop l hl l.length 0 _ (by omega) (by omega) (by simp) (by simp)

theorem toLedger_ev (l m : List Int) (hl : l.length ≤ 35184372088832) (hm : m.length ≤ 35184372088832) : Ev (fun k => laws_toLedger.f k l m) (l, m) := by
  unfold laws_toLedger.f
  exact Ev.bind (toIntS_ev l hl) (Ev.bind (toIntS_ev m hm) (ev_some rfl))

theorem eqIntS_loop (a b : List Int) (hl : a.length ≤ 35184372088832) (hab : a.length = b.length) : ∀ (d n : Nat), a.length - n = d → n ≤ a.length → Ev (fun k => laws_eqIntS.l0 k a b (n : Int)) (decide (a.drop n = b.drop n)) := by
  intro d
  induction d with
  | zero =>
    intro n hd hn
    obtain rfl : n = a.length := by omega
    refine Ev.step (f := fun _ => some true) (fun k => by simp only [laws_eqIntS.l0]; rw [if_neg (by omega)]) (ev_some ?_)
    rw [List.drop_of_length_le (by omega), List.drop_of_length_le (by omega)]; rfl
  | succ d ih =>
    intro n hd hn
    have h1 : n < a.length := by omega
    have h2 : n < b.length := by omega
    have e : (a.drop n = b.drop n) ↔ (a[n] = b[n] ∧ a.drop (n + 1) = b.drop (n + 1)) := by
      rw [List.drop_eq_getElem_cons h1, List.drop_eq_getElem_cons h2, List.cons.injEq]
    by_cases hc : a[n] = b[n]
    · refine Ev.step (f := fun k => laws_eqIntS.l0 k a b ((n + 1 : Nat) : Int)) (fun k => ?_) (ev_eq (ih (n + 1) (by omega) (by omega)) ?_)
      · simp only [laws_eqIntS.l0]
        rw [if_pos (by omega), if_pos (by omega), if_pos (by omega), rd_nat a n h1, rd_nat b n h2, if_pos hc, up1 n (by omega)]
      · exact decide_eq_decide.mpr (by rw [e]; simp [hc])
    · refine Ev.step (f := fun _ => some false) (fun k => ?_) (ev_some ?_)
      · simp only [laws_eqIntS.l0]
        rw [if_pos (by omega), if_pos (by omega), if_pos (by omega), rd_nat a n h1, rd_nat b n h2, if_neg hc]
      · exact (decide_eq_false (by rw [e]; exact fun h => hc h.1)).symm
theorem eqIntS_ev (a b : List Int) (hl : a.length ≤ 35184372088832) : Ev (fun k => laws_eqIntS.f k a b) (decide (a = b)) := by
  unfold laws_eqIntS.f
  by_cases h : a.length = b.length
  · exact ev_pos (by omega) (eqIntS_loop a b hl h a.length 0 (by omega) (by omega))
  · exact ev_neg (by omega) (ev_some (decide_eq_false (fun e => h (by rw [e]))).symm)

theorem eqLedger_refl (l m : List Int) (hl : l.length ≤ 35184372088832) (hm : m.length ≤ 35184372088832) : Ev (fun k => laws_eqLedger.f k l m l m) true := by
  unfold laws_eqLedger.f
  refine Ev.bind (eqIntS_ev l l hl) (ev_pos (by simp) ?_)
  exact Ev.bind (eqIntS_ev m m hm) (ev_pos (by simp) (ev_some rfl))

def marks (a : Int) (n : Nat) : List Int := (List.range n).map fun i : Nat => a + (i : Int)
theorem marks_length (a : Int) (n : Nat) : (marks a n).length = n := by simp [marks]
theorem marks_at (a : Int) (n i : Nat) (h : i < (marks a n).length) : (marks a n)[i] = a + (i : Int) := by simp [marks]
theorem markIntS_loop (a : Int) (N : Nat) (h0 : 0 ≤ a) (h1 : a + N < 4611686018427387904) : ∀ (d n : Nat) (x : List Int), N - n = d → n ≤ N → x.length = N → x.take n = (marks a N).take n → Ev (fun k => laws_markIntS.l0 k x (a + n) (n : Int)) (a + N, marks a N) := by
  intro d
  induction d with
  | zero =>
    intro n x hd hn hx ht
    obtain rfl : n = N := by omega
    refine Ev.step (f := fun _ => some (a + n, x)) (fun k => by simp only [laws_markIntS.l0]; rw [if_neg (by omega)]) (ev_some ?_)
    rw [List.take_of_length_le (by omega), List.take_of_length_le (by simp [marks_length])] at ht
    rw [ht]
  | succ d ih =>
    intro n x hd hn hx ht
    have hlt : n < N := by omega
    refine Ev.step (f := fun k => laws_markIntS.l0 k (x.set n (a + n)) (a + (n + 1 : Nat)) ((n + 1 : Nat) : Int)) (fun k => ?_) (ih (n + 1) (x.set n (a + n)) (by omega) (by omega) (by simpa using hx) ?_)
    · simp only [laws_markIntS.l0]
      rw [if_pos (by omega), if_pos (by omega), up1 n (by omega), up1' (a + n) (by omega) (by omega)]
      rw [show a + (n : Int) + 1 = a + ((n + 1 : Nat) : Int) by omega]
      rfl
    · rw [List.take_succ_eq_append_getElem (by simpa [hx] using hlt), List.take_succ_eq_append_getElem (by simpa [marks_length] using hlt)]
      simp [List.take_set_of_le, ht, marks_at]
theorem markIntS_ev (l : List Int) (a : Int) (h0 : 0 ≤ a) (h1 : a + l.length < 4611686018427387904) : Ev (fun k => laws_markIntS.f k l a) (a + l.length, marks a l.length) := by
  unfold laws_markIntS.f
  have := markIntS_loop a l.length h0 h1 l.length 0 l (by omega) (by omega) rfl (by simp)
  simpa using this

theorem markLedger_ev (l m : List Int) (a : Int) (h0 : 0 ≤ a) (h1 : a + l.length + m.length < 4611686018427387904) : Ev (fun k => laws_markLedger.f k l m a) (a + l.length + m.length, marks a l.length, marks (a + l.length) m.length) := by
  unfold laws_markLedger.f
  refine Ev.bind (markIntS_ev l a h0 (by omega)) ?_
  exact Ev.bind (markIntS_ev m _ (by omega) (by omega)) (ev_some rfl)

theorem szTxS_val (l : List S50) (a : Int) (hm : l.length ≤ maxLen) (h0 : 0 ≤ a) (h1 : a ≤ 1048576) : laws_szTxS.f l a = some (if a < l.length then -1 else a - l.length) := by
  unfold maxLen at hm
  have e : wrap64 (a - (l.length : Int)) = a - l.length := by unfold wrap64; omega
  unfold laws_szTxS.f
  rw [e]
  by_cases h : a < l.length
  · rw [if_pos (by omega), if_pos h]
  · rw [if_neg (by omega), if_neg h]

def toI (x : S50) : S45 := ⟨x.f0, x.f1, x.f2, x.f3⟩
theorem rdJ_nat (xs : List S50) (n : Nat) (h : n < xs.length) : rd_T50 xs (n : Int) = xs[n] := by
  unfold rd_T50; simp [List.getD_eq_getElem?_getD, h]
theorem toTxS_loop (l : List S50) (hl : l.length ≤ 8796093022208) : ∀ (d n : Nat) (x : List S45), l.length - n = d → n ≤ l.length → x.length = l.length → x.take n = (l.map toI).take n → Ev (fun k => laws_toTxS.l0 k l x (n : Int)) (l.map toI) := by
  intro d
  induction d with
  | zero =>
    intro n x hd hn hx ht
    obtain rfl : n = l.length := by omega
    refine Ev.step (f := fun _ => some x) (fun k => by simp only [laws_toTxS.l0]; rw [if_neg (by omega)]) (ev_some ?_)
    rw [List.take_of_length_le (by omega), List.take_of_length_le (by simp)] at ht
    exact ht
  | succ d ih =>
    intro n x hd hn hx ht
    have h1 : n < l.length := by omega
    refine Ev.step (f := fun k => laws_toTxS.l0 k l (x.set n (toI l[n])) ((n + 1 : Nat) : Int)) (fun k => ?_) (ih (n + 1) (x.set n (toI l[n])) (by omega) (by omega) (by simpa using hx) ?_)
    · simp only [laws_toTxS.l0]
      rw [if_pos (by omega), if_pos (by omega), rdJ_nat l n h1]
      simp only [laws_toTx.f, Option.bind_some]
      rw [if_pos (by omega), up1 n (by omega)]
      rfl
    · rw [List.take_succ_eq_append_getElem (by simpa [hx] using h1), List.take_succ_eq_append_getElem (by simpa using h1)]
      simp only [List.take_set_of_le (Nat.le_refl n), ht, List.getElem_set_self, List.getElem_map]
theorem toTxS_ev (l : List S50) (hl : l.length ≤ 8796093022208) : Ev (fun k => laws_toTxS.f k l) (l.map toI) := by
  unfold laws_toTxS.f
  refine ev_pos (by omega) (ev_pos (by simpa using hl) ?_)
  exact toTxS_loop l hl l.length 0 _ (by omega) (by omega) (by simp) (by simp)

def txOkS (x : S45) : Prop := txIs x.f0 x.f1 x.f2 x.f3
instance (x : S45) : Decidable (txOkS x) := by unfold txOkS; infer_instance
theorem rdT_nat (xs : List S45) (n : Nat) (h : n < xs.length) : rd_T45 xs (n : Int) = xs[n] := by
  unfold rd_T45; simp [List.getD_eq_getElem?_getD, h]
theorem eqTxS_refl (l : List S45) (hl : l.length ≤ 35184372088832) : Ev (fun k => laws_eqTxS.f k l l) true := by
  unfold laws_eqTxS.f
  refine ev_pos rfl ?_
  have loop : ∀ (d n : Nat), l.length - n = d → n ≤ l.length → Ev (fun k => laws_eqTxS.l0 k l l (n : Int)) true := by
    intro d
    induction d with
    | zero =>
      intro n hd hn
      exact Ev.step (f := fun _ => some true) (fun k => by simp only [laws_eqTxS.l0]; rw [if_neg (by omega)]) (ev_some rfl)
    | succ d ih =>
      intro n hd hn
      have h1 : n < l.length := by omega
      refine Ev.step (f := fun k => laws_eqTxS.l0 k l l ((n + 1 : Nat) : Int)) (fun k => ?_) (ih (n + 1) (by omega) (by omega))
      simp only [laws_eqTxS.l0]
      rw [if_pos (by omega), if_pos (by omega), if_pos (by omega), up1 n (by omega)]
      simp [laws_eqTx.f]
  exact loop l.length 0 (by omega) (by omega)

def beforeS (a b : S45) : Prop := a.f0 < b.f0 ∨ (a.f0 = b.f0 ∧ a.f3 < b.f3)
instance (a b : S45) : Decidable (beforeS a b) := by unfold beforeS; infer_instance
def poolAt (p : List S45) (j : Nat) : Prop := txOkS (p.getD j z45) ∧ (0 < j → beforeS (p.getD (j - 1) z45) (p.getD j z45))
def poolFrom (p : List S45) (i : Nat) : Prop := ∀ j, i ≤ j → j < p.length → poolAt p j
def poolIs (p : List S45) : Prop := poolFrom p 0 ∧ p.length ≤ 12
theorem poolFrom_step {p : List S45} {i : Nat} (h : i < p.length) : poolFrom p i ↔ poolAt p i ∧ poolFrom p (i + 1) := by
  refine ⟨fun H => ⟨H i (Nat.le_refl _) h, fun j hj => H j (by omega)⟩, fun H j hj hl => ?_⟩
  rcases Nat.eq_or_lt_of_le hj with rfl | hj
  · exact H.1
  · exact H.2 j (by omega) hl
theorem poolFrom_end {p : List S45} : poolFrom p p.length := fun j h1 h2 => absurd h2 (by omega)
theorem getD_at {p : List S45} {i : Nat} (h : i < p.length) : p.getD i z45 = p[i] := by simp [List.getD_eq_getElem?_getD, h]
def marksT (a : Int) (n : Nat) : List S45 := (List.range n).map fun i : Nat => ⟨a + 4 * (i : Int), a + 4 * (i : Int) + 1, a + 4 * (i : Int) + 2, a + 4 * (i : Int) + 3⟩
theorem marksT_length (a : Int) (n : Nat) : (marksT a n).length = n := by simp [marksT]
theorem marksT_at (a : Int) (n i : Nat) (h : i < (marksT a n).length) : (marksT a n)[i] = ⟨a + 4 * (i : Int), a + 4 * (i : Int) + 1, a + 4 * (i : Int) + 2, a + 4 * (i : Int) + 3⟩ := by simp [marksT]
theorem rdT_set (xs : List S45) (n : Nat) (v : S45) (h : n < xs.length) : rd_T45 (xs.set n v) (n : Int) = v := by
  rw [rdT_nat _ n (by simpa using h)]; simp
theorem wr4 (a : Int) (h0 : 0 ≤ a) (h : a < 4611686018427387900) : wrap64 (a + 1) = a + 1 ∧ wrap64 (a + 1 + 1) = a + 2 ∧ wrap64 (a + 2 + 1) = a + 3 ∧ wrap64 (a + 3 + 1) = a + 4 := by unfold wrap64; omega
theorem markTxS_loop (a : Int) (N : Nat) (h0 : 0 ≤ a) (h1 : a + 4 * (N : Int) < 4611686018427387900) : ∀ (d n : Nat) (x : List S45), N - n = d → n ≤ N → x.length = N → x.take n = (marksT a N).take n → Ev (fun k => laws_markTxS.l0 k x (a + 4 * (n : Int)) (n : Int)) (a + 4 * (N : Int), marksT a N) := by
  intro d
  induction d with
  | zero =>
    intro n x hd hn hx ht
    obtain rfl : n = N := by omega
    refine Ev.step (f := fun _ => some (a + 4 * (n : Int), x)) (fun k => by simp only [laws_markTxS.l0]; rw [if_neg (by omega)]) (ev_some ?_)
    rw [List.take_of_length_le (by omega), List.take_of_length_le (by simp [marksT_length])] at ht
    rw [ht]
  | succ d ih =>
    intro n x hd hn hx ht
    have hlt : n < N := by omega
    have hx2 : n < x.length := by omega
    obtain ⟨w1, w2, w3, w4⟩ := wr4 (a + 4 * (n : Int)) (by omega) (by omega)
    refine Ev.step (f := fun k => laws_markTxS.l0 k (x.set n ⟨a + 4 * (n : Int), a + 4 * (n : Int) + 1, a + 4 * (n : Int) + 2, a + 4 * (n : Int) + 3⟩) (a + 4 * ((n + 1 : Nat) : Int)) ((n + 1 : Nat) : Int)) (fun k => ?_) (ih (n + 1) (x.set n ⟨a + 4 * (n : Int), a + 4 * (n : Int) + 1, a + 4 * (n : Int) + 2, a + 4 * (n : Int) + 3⟩) (by omega) (by omega) (by simpa using hx) ?_)
    · have wn := up1 n (by omega)
      have e4 : a + 4 * (n : Int) + 4 = a + 4 * ((n + 1 : Nat) : Int) := by clear w1 w2 w3 w4 wn; omega
      have c1 : (n : Int) < (x.length : Int) := by clear w1 w2 w3 w4 wn; omega
      have c2 : 0 ≤ (n : Int) := by clear w1 w2 w3 w4 wn; omega
      simp only [laws_markTxS.l0]
      rw [if_pos c1, if_pos c2, w1, w2, w3, w4, wn, e4]
      simp only [Option.bind_some, Int.toNat_natCast, List.set_set, rdT_set _ _ _ hx2]
    · clear w1 w2 w3 w4
      rw [List.take_succ_eq_append_getElem (by simpa [hx] using hlt), List.take_succ_eq_append_getElem (by simpa [marksT_length] using hlt)]
      simp [List.take_set_of_le, ht, marksT_at]
theorem markTxS_ev (l : List S45) (a : Int) (h0 : 0 ≤ a) (h1 : a + 4 * (l.length : Int) < 4611686018427387900) : Ev (fun k => laws_markTxS.f k l a) (a + 4 * (l.length : Int), marksT a l.length) := by
  unfold laws_markTxS.f
  have := markTxS_loop a l.length h0 h1 l.length 0 l (by omega) (by omega) rfl (by simp)
  simpa using this

theorem heldTxS_loop (a : Int) (N : Nat) (h0 : 0 ≤ a) (h1 : a + 4 * (N : Int) < 4611686018427387900) : ∀ (d n : Nat), N - n = d → n ≤ N → Ev (fun k => laws_heldTxS.l0 k (marksT a N) (a + 4 * (n : Int)) (n : Int)) (a + 4 * (N : Int)) := by
  intro d
  have hl := marksT_length a N
  induction d with
  | zero =>
    intro n hd hn
    obtain rfl : n = N := by omega
    exact Ev.step (f := fun _ => some (a + 4 * (n : Int))) (fun k => by simp only [laws_heldTxS.l0]; rw [if_neg (by omega)]) (ev_some rfl)
  | succ d ih =>
    intro n hd hn
    have hlt : n < (marksT a N).length := by omega
    refine Ev.step (f := fun k => laws_heldTxS.l0 k (marksT a N) (a + 4 * ((n + 1 : Nat) : Int)) ((n + 1 : Nat) : Int)) (fun k => ?_) (ih (n + 1) (by omega) (by omega))
    have e4 : a + 4 * (n : Int) + 4 = a + 4 * ((n + 1 : Nat) : Int) := by omega
    have c1 : (n : Int) < ((marksT a N).length : Int) := by omega
    have c2 : 0 ≤ (n : Int) := by omega
    have wn := up1 n (by omega)
    obtain ⟨w1, w2, w3, w4⟩ := wr4 (a + 4 * (n : Int)) (by clear wn; omega) (by clear wn; omega)
    simp only [laws_heldTxS.l0]
    rw [if_pos c1, if_pos c2, w1, w2, w3, w4, wn, e4, rdT_nat _ n hlt, marksT_at]
    simp only [if_true]
theorem heldTxS_ev (a : Int) (N : Nat) (h0 : 0 ≤ a) (h1 : a + 4 * (N : Int) < 4611686018427387900) : Ev (fun k => laws_heldTxS.f k (marksT a N) a) (a + 4 * (N : Int)) := by
  unfold laws_heldTxS.f
  have := heldTxS_loop a N h0 h1 N 0 (by omega) (by omega)
  simpa using this

theorem spec_Pay_ev (h n : List Int) (f t a m : Int) (b1 : h.length ≤ 1048576) (b2 : n.length ≤ 1048576) : Ev (fun k => spec_Pay.f k h n f t a m) (payL h n f t a m) :=
  ⟨0, fun k _ => by show spec_Pay.f k h n f t a m = _; unfold spec_Pay.f; rw [if_pos ⟨b1, b2⟩]⟩

def payS (h n : List Int) (x : S45) : List Int × List Int × Int := payL h n x.f0 x.f1 x.f2 x.f3
def dropS (h n : List Int) (l : List S45) : List S45 := l.filter fun x => decide ((payS h n x).2.2 ≠ 2)
theorem paid_len (h n : List Int) (f t a m : Int) : (payL h n f t a m).1.length = h.length ∧ (payL h n f t a m).2.1.length = n.length := by
  unfold payL
  repeat' split
  all_goals first | exact ⟨rfl, rfl⟩ | exact ⟨rfl, by simp⟩ | exact ⟨by simp [mvL], by simp⟩
theorem paid_same (h n : List Int) (f t a m : Int) (h0 : (payL h n f t a m).2.2 ≠ 0) (h4 : (payL h n f t a m).2.2 ≠ 4) : (payL h n f t a m).1 = h ∧ (payL h n f t a m).2.1 = n := by
  unfold payL at *
  repeat' split
  all_goals first | exact ⟨rfl, rfl⟩ | (simp_all)
/-- What is taken behind what lies in acc. -/
def takeS (h n : List Int) (acc : List S45) : List S45 → List S45
  | [] => acc
  | x :: l => if 2 ≤ acc.length then acc else if (payS h n x).2.2 = 0 ∨ (payS h n x).2.2 = 4 then takeS (payS h n x).1 (payS h n x).2.1 (acc ++ [x]) l else takeS h n acc l
theorem takeS_le : ∀ (h n : List Int) (l acc : List S45), (takeS h n acc l).length ≤ acc.length + l.length
  | _, _, [], acc => by simp [takeS]
  | h, n, x :: l, acc => by
    unfold takeS
    split
    · simp
    · split
      · have := takeS_le (payS h n x).1 (payS h n x).2.1 l (acc ++ [x]); simp at this ⊢; omega
      · have := takeS_le h n l acc; simp; omega
theorem spec_PoolTake_loop (p : List S45) (hl : p.length ≤ 1048576) : ∀ (d i : Nat) (h n : List Int) (acc : List S45), h.length ≤ 1048576 → n.length ≤ 1048576 → p.length - i = d → i ≤ p.length → acc.length ≤ i → acc.length ≤ 2 → Ev (fun k => spec_PoolTake.l0 k p acc (i : Int) h n) (takeS h n acc (p.drop i)) := by
  intro d
  induction d with
  | zero =>
    intro i h n acc b1 b2 hd hi ha h2
    obtain rfl : i = p.length := by omega
    rw [List.drop_length]
    exact Ev.step (f := fun k => spec_PoolTake.j1 k p acc (p.length : Int) false h n) (fun k => by simp only [spec_PoolTake.l0]; rw [if_neg (by omega)]) (Ev.step (f := fun _ => some acc) (fun k => by simp only [spec_PoolTake.j1]; rw [if_neg (by decide)]) (ev_some rfl))
  | succ d ih =>
    intro i h n acc b1 b2 hd hi ha h2
    have h1 : i < p.length := by omega
    rw [List.drop_eq_getElem_cons h1]
    unfold takeS
    refine Ev.step (f := fun k => spec_PoolTake.j1 k p acc (i : Int) (decide ((acc.length : Int) < 2)) h n) (fun k => by simp only [spec_PoolTake.l0]; rw [if_pos (by omega)]) ?_
    by_cases c : 2 ≤ acc.length
    · rw [if_pos c, decide_eq_false (by omega)]
      exact Ev.step (f := fun _ => some acc) (fun k => by simp only [spec_PoolTake.j1]; rw [if_neg (by decide)]) (ev_some rfl)
    rw [if_neg c, decide_eq_true (show (acc.length : Int) < 2 by omega)]
    refine Ev.step (f := fun k => (spec_Pay.f k h n p[i].f0 p[i].f1 p[i].f2 p[i].f3).bind fun bt => if bt.2.2 = 0 then (if acc.length < 4398046511104 then (spec_PoolTake.l0 k p (acc ++ [(⟨p[i].f0, p[i].f1, p[i].f2, p[i].f3⟩ : S45)]) ((i + 1 : Nat) : Int) bt.1 bt.2.1) else none) else (if bt.2.2 = 4 then (if acc.length < 4398046511104 then (spec_PoolTake.l0 k p (acc ++ [(⟨p[i].f0, p[i].f1, p[i].f2, p[i].f3⟩ : S45)]) ((i + 1 : Nat) : Int) bt.1 bt.2.1) else none) else (spec_PoolTake.l0 k p acc ((i + 1 : Nat) : Int) h n))) (fun k => by simp only [spec_PoolTake.j1]; rw [if_pos (by first | trivial | rfl), if_pos (by omega), if_pos (by omega), rdT_nat p i h1, up1 i (by omega)]) ?_
    refine Ev.bind (spec_Pay_ev h n _ _ _ _ b1 b2) ?_
    obtain ⟨e1, e2⟩ := paid_len h n p[i].f0 p[i].f1 p[i].f2 p[i].f3
    by_cases c0 : (payS h n p[i]).2.2 = 0
    · rw [if_pos (.inl c0)]
      exact ev_pos c0 (ev_pos (by omega) (ih (i + 1) _ _ (acc ++ [p[i]]) (by first | omega | (unfold payS; omega)) (by first | omega | (unfold payS; omega)) (by omega) (by omega) (by simp; omega) (by simp; omega)))
    refine ev_neg c0 ?_
    by_cases c4 : (payS h n p[i]).2.2 = 4
    · rw [if_pos (.inr c4)]
      exact ev_pos c4 (ev_pos (by omega) (ih (i + 1) _ _ (acc ++ [p[i]]) (by first | omega | (unfold payS; omega)) (by first | omega | (unfold payS; omega)) (by omega) (by omega) (by simp; omega) (by simp; omega)))
    rw [if_neg (fun z => z.elim c0 c4)]
    exact ev_neg c4 (ih (i + 1) h n acc b1 b2 (by omega) (by omega) (by omega) h2)
theorem spec_PoolTake_ev (h n : List Int) (b1 : h.length ≤ 1048576) (b2 : n.length ≤ 1048576) (p : List S45) (hl : p.length ≤ 1048576) : Ev (fun k => spec_PoolTake.f k p h n) (takeS h n [] p) := by
  unfold spec_PoolTake.f
  exact ev_const (spec_l3Copy_val h n b1 b2) (spec_PoolTake_loop p hl p.length 0 h n [] b1 b2 (by omega) (by omega) (by simp) (by simp))

theorem impl_Pay_ev (h n : List Int) (f t a m : Int) (b1 : h.length ≤ 1048576) (b2 : n.length ≤ 1048576) : Ev (fun k => impl_Pay.f k h n f t a m) (payL h n f t a m) :=
  ⟨0, fun k _ => by show impl_Pay.f k h n f t a m = _; unfold impl_Pay.f; rw [if_pos ⟨b1, b2⟩]⟩

theorem impl_PoolTake_loop (p : List S45) (hl : p.length ≤ 1048576) : ∀ (d i : Nat) (h n : List Int) (acc : List S45), h.length ≤ 1048576 → n.length ≤ 1048576 → p.length - i = d → i ≤ p.length → acc.length ≤ i → acc.length ≤ 2 → Ev (fun k => impl_PoolTake.l0 k acc p (p.length : Int) (i : Int) h n) (takeS h n acc (p.drop i)) := by
  intro d
  induction d with
  | zero =>
    intro i h n acc b1 b2 hd hi ha h2
    obtain rfl : i = p.length := by omega
    rw [List.drop_length]
    exact Ev.step (f := fun _ => some acc) (fun k => by simp only [impl_PoolTake.l0]; rw [if_neg (by omega)]) (ev_some rfl)
  | succ d ih =>
    intro i h n acc b1 b2 hd hi ha h2
    have h1 : i < p.length := by omega
    rw [List.drop_eq_getElem_cons h1]
    unfold takeS
    by_cases c : 2 ≤ acc.length
    · rw [if_pos c]
      exact Ev.step (f := fun _ => some acc) (fun k => by simp only [impl_PoolTake.l0]; rw [if_pos (by omega), if_pos (by omega), if_pos (by omega), if_pos (by omega)]) (ev_some rfl)
    rw [if_neg c]
    refine Ev.step (f := fun k => (impl_Pay.f k h n p[i].f0 p[i].f1 p[i].f2 p[i].f3).bind fun bt => if bt.2.2 = 0 then (if acc.length < 4398046511104 then (impl_PoolTake.l0 k (acc ++ [(⟨p[i].f0, p[i].f1, p[i].f2, p[i].f3⟩ : S45)]) p (p.length : Int) ((i + 1 : Nat) : Int) bt.1 bt.2.1) else none) else (if bt.2.2 = 4 then (if acc.length < 4398046511104 then (impl_PoolTake.l0 k (acc ++ [(⟨p[i].f0, p[i].f1, p[i].f2, p[i].f3⟩ : S45)]) p (p.length : Int) ((i + 1 : Nat) : Int) bt.1 bt.2.1) else none) else (impl_PoolTake.l0 k acc p (p.length : Int) ((i + 1 : Nat) : Int) bt.1 bt.2.1))) (fun k => by simp only [impl_PoolTake.l0]; rw [if_pos (by omega), if_pos (by omega), if_pos (by omega), if_neg (by omega), rdT_nat p i h1, up1 i (by omega)]) ?_
    refine Ev.bind (impl_Pay_ev h n _ _ _ _ b1 b2) ?_
    obtain ⟨e1, e2⟩ := paid_len h n p[i].f0 p[i].f1 p[i].f2 p[i].f3
    by_cases c0 : (payS h n p[i]).2.2 = 0
    · rw [if_pos (.inl c0)]
      exact ev_pos c0 (ev_pos (by omega) (ih (i + 1) _ _ (acc ++ [p[i]]) (by first | omega | (unfold payS; omega)) (by first | omega | (unfold payS; omega)) (by omega) (by omega) (by simp; omega) (by simp; omega)))
    refine ev_neg c0 ?_
    by_cases c4 : (payS h n p[i]).2.2 = 4
    · rw [if_pos (.inr c4)]
      exact ev_pos c4 (ev_pos (by omega) (ih (i + 1) _ _ (acc ++ [p[i]]) (by first | omega | (unfold payS; omega)) (by first | omega | (unfold payS; omega)) (by omega) (by omega) (by simp; omega) (by simp; omega)))
    rw [if_neg (fun z => z.elim c0 c4)]
    obtain ⟨s1, s2⟩ := paid_same h n p[i].f0 p[i].f1 p[i].f2 p[i].f3 c0 c4
    refine ev_neg c4 ?_
    rw [s1, s2]
    exact ih (i + 1) h n acc b1 b2 (by omega) (by omega) (by omega) h2
theorem impl_PoolTake_ev (h n : List Int) (b1 : h.length ≤ 1048576) (b2 : n.length ≤ 1048576) (p : List S45) (hl : p.length ≤ 1048576) : Ev (fun k => impl_PoolTake.f k p h n) (takeS h n [] p) := by
  unfold impl_PoolTake.f
  exact impl_PoolTake_loop p hl p.length 0 h n [] b1 b2 (by omega) (by omega) (by simp) (by simp)

instance : AggT Try.prog 24 2 := ⟨by kernel_rfl, by kernel_rfl⟩
set_option maxHeartbeats 8000000 in
set_option maxRecDepth 100000 in
theorem walk0 (A0 : Option Addr) (c0 : Nat) (p : List S50) (A1_0 : Option Addr) (c1_0 : Nat) (h : List Int) (A1_1 : Option Addr) (c1_1 : Nat) (n : List Int) (r0 r : Int) (w : World) (hr0 : Aside0 (Kd.C k50 w A0 p.length p)) (hc0 : Aside0 (p.length ≤ c0)) (hr1 : Aside0 (Kd.C (Kd.int .i64) w A1_0 h.length h)) (hc1 : Aside0 (h.length ≤ c1_0)) (hr2 : Aside0 (Kd.C (Kd.int .i64) w A1_1 n.length n)) (hc2 : Aside0 (n.length ≤ c1_1)) (hsp : Aside0 (laws_szTxS.f p 1048576 = some r0)) (hr_ : decide (r0 < 0) = true) :
    Calls Try.prog 13 #[.slice A0 p.length c0, .agg #[.slice A1_0 h.length c1_0, .slice A1_1 n.length c1_1]] w fun e w' => e = .returned (.bool true) ∧ Below w.heap.size w w' := by
  have HS := SS.nil w
  go_enter Try.func13, Try.ntmps13
  go_wp2_with (first | ((with_reducible refine gate_dst (N := 3) rfl ?_); refine ev_box HS (cs := #[.slice A1_0 h.length c1_0, .slice A1_1 n.length c1_1]) rfl rfl rfl ?_; clear HS; intro g3 w1 HS) | ((with_reducible refine gate_dst (N := 16) rfl ?_); refine ev_call (some 16) rfl rfl Try.func26 (by kernel_rfl) rfl rfl (by simp only [List.map_toArray, List.map_cons, List.map_nil]; rfl) ?_; refine (HS.valD (laws_szTxS.calls (w := _) (hr0 := Kd.C_below hr0.out HS.below) (hc0 := hc0.out) (h := hsp.out))).mono ?_; clear HS; rintro e w1 ⟨rfl, HS⟩; refine ⟨_, rfl, ?_⟩))
  go_ret
  exact ⟨rfl, HS.below⟩

set_option maxHeartbeats 8000000 in
set_option maxRecDepth 100000 in
theorem walk2 (A0 : Option Addr) (c0 : Nat) (p : List S50) (A1_0 : Option Addr) (c1_0 : Nat) (h : List Int) (A1_1 : Option Addr) (c1_1 : Nat) (n : List Int) (r0 r : Int) (w : World) (hr0 : Aside0 (Kd.C k50 w A0 p.length p)) (hc0 : Aside0 (p.length ≤ c0)) (hr1 : Aside0 (Kd.C (Kd.int .i64) w A1_0 h.length h)) (hc1 : Aside0 (h.length ≤ c1_0)) (hr2 : Aside0 (Kd.C (Kd.int .i64) w A1_1 n.length n)) (hc2 : Aside0 (n.length ≤ c1_1)) (hsp : Aside0 (laws_szTxS.f p 1048576 = some r0))
    (hsz : Aside0 (laws_szLedger.f h n r0 = some r)) (hr_ : decide (r0 < 0) = false) (hr2_ : decide (r < 0) = true) :
    Calls Try.prog 13 #[.slice A0 p.length c0, .agg #[.slice A1_0 h.length c1_0, .slice A1_1 n.length c1_1]] w fun e w' => e = .returned (.bool true) ∧ Below w.heap.size w w' := by
  have HS := SS.nil w
  go_enter Try.func13, Try.ntmps13
  go_wp2_with (first | ((with_reducible refine gate_dst (N := 3) rfl ?_); refine ev_box HS (cs := #[.slice A1_0 h.length c1_0, .slice A1_1 n.length c1_1]) rfl rfl rfl ?_; clear HS; intro g3 w1 HS) | ((with_reducible refine gate_dst (N := 16) rfl ?_); refine ev_call (some 16) rfl rfl Try.func26 (by kernel_rfl) rfl rfl (by simp only [List.map_toArray, List.map_cons, List.map_nil]; rfl) ?_; refine (HS.valD (laws_szTxS.calls (w := _) (hr0 := Kd.C_below hr0.out HS.below) (hc0 := hc0.out) (h := hsp.out))).mono ?_; clear HS; rintro e w1 ⟨rfl, HS⟩; refine ⟨_, rfl, ?_⟩) | ((with_reducible refine gate_load rfl ?_); first | refine ev_loadC HS rfl rfl rfl (by rfl) ?_ | refine ev_loadS HS rfl rfl rfl (by rfl) ?_) | ((with_reducible refine gate_dst (N := 21) rfl ?_); refine ev_call (some 21) rfl rfl Try.func15 (by kernel_rfl) rfl rfl (by simp only [List.map_toArray, List.map_cons, List.map_nil]; rfl) ?_; refine (HS.val (laws_szLedger.calls (w := _) (hr0_0 := Kd.C_below hr1.out HS.below) (hc0_0 := hc1.out) (hr0_1 := Kd.C_below hr2.out HS.below) (hc0_1 := hc2.out) (h := hsz.out))).mono ?_; clear HS; rintro e w1 ⟨rfl, HS⟩; refine ⟨_, rfl, ?_⟩))
  go_ret
  exact ⟨rfl, HS.below⟩

set_option maxHeartbeats 8000000 in
set_option maxRecDepth 100000 in
theorem walk1 (A0 : Option Addr) (c0 : Nat) (p : List S50) (A1_0 : Option Addr) (c1_0 : Nat) (h : List Int) (A1_1 : Option Addr) (c1_1 : Nat) (n : List Int) (r0 r : Int) (q res : List S45) (k0 k1 : Int) (mq : List S45) (mh mn : List Int) (m1 : Int) (mr : List S45) (w : World) (hr0 : Aside0 (Kd.C k50 w A0 p.length p)) (hc0 : Aside0 (p.length ≤ c0)) (hr1 : Aside0 (Kd.C (Kd.int .i64) w A1_0 h.length h)) (hc1 : Aside0 (h.length ≤ c1_0)) (hr2 : Aside0 (Kd.C (Kd.int .i64) w A1_1 n.length n)) (hc2 : Aside0 (n.length ≤ c1_1)) (hsp : Aside0 (laws_szTxS.f p 1048576 = some r0))
    (hsz : Aside0 (laws_szLedger.f h n r0 = some r))
    (k_hto : Nat) (hto : Aside0 (laws_toLedger.f k_hto h n = some (h, n)))
    (k_htp : Nat) (htp : Aside0 (laws_toTxS.f k_htp p = some q))
    (k_hs : Nat) (hs : Aside0 (spec_PoolTake.f k_hs q h n = some res))
    (k_hi : Nat) (hi : Aside0 (impl_PoolTake.f k_hi q h n = some res))
    (k_he1 : Nat) (he1 : Aside0 (laws_eqTxS.f k_he1 res res = some true))
    (k_he2 : Nat) (he2 : Aside0 (laws_eqTxS.f k_he2 q q = some true))
    (k_he3 : Nat) (he3 : Aside0 (laws_eqLedger.f k_he3 h n h n = some true))
    (k_hm0 : Nat) (hm0 : Aside0 (laws_markTxS.f k_hm0 q 1 = some (k0, mq)))
    (k_hm1 : Nat) (hm1 : Aside0 (laws_markLedger.f k_hm1 h n k0 = some (k1, mh, mn)))
    (k_hm2 : Nat) (hm2 : Aside0 (laws_markTxS.f k_hm2 res 1 = some (m1, mr)))
    (k_hh : Nat) (hh : Aside0 (laws_heldTxS.f k_hh mr 1 = some m1)) (hr_ : decide (r0 < 0) = false) (hr2_ : decide (r < 0) = false) (hk_ : decide (k1 < 0) = false) (hq_ : decide (m1 < 0) = false) (hl_mr : Aside0 (res.length = mr.length)) :
    Calls Try.prog 13 #[.slice A0 p.length c0, .agg #[.slice A1_0 h.length c1_0, .slice A1_1 n.length c1_1]] w fun e w' => e = .returned (.bool true) ∧ Below w.heap.size w w' := by
  have HS := SS.nil w
  go_enter Try.func13, Try.ntmps13
  go_upto_region 8 with (first | ((with_reducible refine gate_dst (N := 3) rfl ?_); refine ev_box HS (cs := #[.slice A1_0 h.length c1_0, .slice A1_1 n.length c1_1]) rfl rfl rfl ?_; clear HS; intro g3 w1 HS) | ((with_reducible refine gate_dst (N := 16) rfl ?_); refine ev_call (some 16) rfl rfl Try.func26 (by kernel_rfl) rfl rfl (by simp only [List.map_toArray, List.map_cons, List.map_nil]; rfl) ?_; refine (HS.valD (laws_szTxS.calls (w := _) (hr0 := Kd.C_below hr0.out HS.below) (hc0 := hc0.out) (h := hsp.out))).mono ?_; clear HS; rintro e w1 ⟨rfl, HS⟩; refine ⟨_, rfl, ?_⟩) | ((with_reducible refine gate_load rfl ?_); first | refine ev_loadC HS rfl rfl rfl (by rfl) ?_ | refine ev_loadS HS rfl rfl rfl (by rfl) ?_) | ((with_reducible refine gate_dst (N := 21) rfl ?_); refine ev_call (some 21) rfl rfl Try.func15 (by kernel_rfl) rfl rfl (by simp only [List.map_toArray, List.map_cons, List.map_nil]; rfl) ?_; refine (HS.val (laws_szLedger.calls (w := _) (hr0_0 := Kd.C_below hr1.out HS.below) (hc0_0 := hc1.out) (hr0_1 := Kd.C_below hr2.out HS.below) (hc0_1 := hc2.out) (h := hsz.out))).mono ?_; clear HS; rintro e w1 ⟨rfl, HS⟩; refine ⟨_, rfl, ?_⟩))
  refine start_ (n := 6) (S := fun w' => SS w w' _) (ds := []) #[false, false, false, false, false, false] (by kernel_rfl) rfl rfl HS.drew (fun _ => ?_)
  replace HS := HS.drew
  generalize w1.drew = w1 at HS ⊢
  refine pure_ (i := 0) (N := some 24) (v := ?_) (a' := ?_) #[true, false, false, false, false, false] rfl rfl (by kernel_rfl) (fun _ _ _ h => h) (Or.inl ⟨by rfl, ?_⟩) ?_ ?_
  rotate_left
  · intro w'; go_simp; (try with_reducible rfl)
  rotate_left
  · simp only [Act.put, List.setIfInBounds_toArray, List.set_cons_zero, List.set_cons_succ, i64_w, i32_w]; rfl
  refine take_ (i := 2) (N := some 26) (a' := ?_) #[true, false, true, false, false, false] rfl rfl (by kernel_rfl) (fun _ _ _ h => h) (Or.inl ⟨by rfl, fun w' hs => rl_S hs rfl rfl (by rfl)⟩) (HS.drop 0) ?_ ?_
  rotate_left
  · simp only [Act.put, List.setIfInBounds_toArray, List.set_cons_zero, List.set_cons_succ, i64_w, i32_w]; rfl
  refine one_ (i := 1) (N := some 25) #[true, true, true, false, false, false] rfl rfl (by kernel_rfl) (by decide) (fun K hK => ?_)
  refine goes_ Try.func28 (by kernel_rfl) rfl _ (by rfl) rfl rfl (by simp only [List.map_toArray, List.map_cons, List.map_nil]; rfl) ?_
  refine (HS.get1 (laws_toTxS.calls (w := _) (hr0 := Kd.C_below hr0.out HS.below) (hc0 := hc0.out) (h := htp.out))).mono ?_
  clear HS
  rintro e w1 ⟨A25, c25, rfl, HS⟩
  refine ⟨_, rfl, ?_⟩
  refine hK.out _ _ (HS.drop 1) (fun _ => ?_)
  clear hK K
  refine norm_ (a' := ?_) ?_ ?_
  rotate_left
  · simp only [Act.put, List.setIfInBounds_toArray, List.set_cons_zero, List.set_cons_succ, i64_w, i32_w]; rfl
  refine one_ (i := 3) (N := some 27) #[true, true, true, true, false, false] rfl rfl (by kernel_rfl) (by decide) (fun K hK => ?_)
  refine goes_ Try.func17 (by kernel_rfl) rfl _ (by rfl) rfl rfl (by simp only [List.map_toArray, List.map_cons, List.map_nil]; rfl) ?_
  refine (HS.get2 rfl rfl (laws_toLedger.calls (w := _) (hr0_0 := Kd.C_below hr1.out HS.below) (hc0_0 := hc1.out) (hr0_1 := Kd.C_below hr2.out HS.below) (hc0_1 := hc2.out) (h := hto.out))).mono ?_
  clear HS
  rintro e w1 ⟨A27, c27, B27, d27, rfl, HS⟩
  refine ⟨_, rfl, ?_⟩
  refine hK.out _ _ (HS.drop 3) (fun _ => ?_)
  clear hK K
  refine norm_ (a' := ?_) ?_ ?_
  rotate_left
  · simp only [Act.put, List.setIfInBounds_toArray, List.set_cons_zero, List.set_cons_succ, i64_w, i32_w]; rfl
  refine one_ (i := 4) (N := some 28) #[true, true, true, true, true, false] rfl rfl (by kernel_rfl) (by decide) (fun K hK => ?_)
  refine goes_ Try.func48 (by kernel_rfl) rfl _ (by rfl) rfl rfl (by simp only [List.map_toArray, List.map_cons, List.map_nil]; rfl) ?_
  refine (HS.get1 (spec_PoolTake.calls (w := _) (hr0 := HS.reads A25) (hc0 := HS.cap A25) (hr1_0 := HS.reads A27) (hc1_0 := HS.cap A27) (hr1_1 := HS.reads B27) (hc1_1 := HS.cap B27) (h := hs.out))).mono ?_
  clear HS
  rintro e w1 ⟨A28, c28, rfl, HS⟩
  refine ⟨_, rfl, ?_⟩
  refine hK.out _ _ (HS.drop 4) (fun _ => ?_)
  clear hK K
  refine norm_ (a' := ?_) ?_ ?_
  rotate_left
  · simp only [Act.put, List.setIfInBounds_toArray, List.set_cons_zero, List.set_cons_succ, i64_w, i32_w]; rfl
  refine pure_ (i := 5) (N := some 6) (v := ?_) (a' := ?_) #[true, true, true, true, true, true] rfl rfl (by kernel_rfl) (fun _ _ _ h => h) (Or.inl ⟨by rfl, ?_⟩) ?_ ?_
  rotate_left
  · intro w'; go_simp; (try with_reducible rfl)
  rotate_left
  · simp only [Act.put, List.setIfInBounds_toArray, List.set_cons_zero, List.set_cons_succ, i64_w, i32_w]; rfl
  refine done_ (by kernel_rfl) ?_
  go_upto_region 16 with (first | ((with_reducible refine gate_dst (N := 30) rfl ?_); refine ev_call (some 30) rfl rfl Try.func28 (by kernel_rfl) rfl rfl (by simp only [List.map_toArray, List.map_cons, List.map_nil]; rfl) ?_; refine (HS.get1 (laws_toTxS.calls (w := _) (hr0 := Kd.C_below hr0.out HS.below) (hc0 := hc0.out) (h := htp.out))).mono ?_; clear HS; rintro e w1 ⟨A30, c30, rfl, HS⟩; refine ⟨_, rfl, ?_⟩) | ((with_reducible refine gate_load rfl ?_); first | refine ev_loadC HS rfl rfl rfl (by rfl) ?_ | refine ev_loadS HS rfl rfl rfl (by rfl) ?_) | ((with_reducible refine gate_dst (N := 32) rfl ?_); refine ev_call (some 32) rfl rfl Try.func17 (by kernel_rfl) rfl rfl (by simp only [List.map_toArray, List.map_cons, List.map_nil]; rfl) ?_; refine (HS.get2 rfl rfl (laws_toLedger.calls (w := _) (hr0_0 := Kd.C_below hr1.out HS.below) (hc0_0 := hc1.out) (hr0_1 := Kd.C_below hr2.out HS.below) (hc0_1 := hc2.out) (h := hto.out))).mono ?_; clear HS; rintro e w1 ⟨A32, c32, B32, d32, rfl, HS⟩; refine ⟨_, rfl, ?_⟩) | ((with_reducible refine gate_dst (N := 8) rfl ?_); refine ev_alloc HS rfl rfl ?_; clear HS; intro g8 w1 HS) | ((with_reducible refine gate_put rfl ?_); (first | refine ev_storeC HS rfl rfl rfl rfl rfl (by rfl) (by rfl) ?_ | refine ev_storeS HS rfl rfl rfl rfl rfl (by rfl) (by rfl) (by rfl) ?_); clear HS; intro w1 HS) | ((with_reducible refine gate_dst (N := 35) rfl ?_); refine ev_call (some 35) rfl rfl Try.func49 (by kernel_rfl) rfl rfl (by simp only [List.map_toArray, List.map_cons, List.map_nil]; rfl) ?_; refine (HS.get1 (impl_PoolTake.calls (w := _) (hr0 := HS.reads A30) (hc0 := HS.cap A30) (hs1_0 := Kd.R_V (HS.out1 A32)) (hs1_1 := Kd.R_V (HS.out1 B32)) (h := hi.out))).mono ?_; clear HS; rintro e w1 ⟨A35, c35, rfl, HS⟩; refine ⟨_, rfl, ?_⟩) | ((with_reducible refine gate_dst (N := 38) rfl ?_); refine ev_call (some 38) rfl rfl Try.func30 (by kernel_rfl) rfl rfl (by simp only [List.map_toArray, List.map_cons, List.map_nil]; rfl) ?_; refine (HS.val (laws_eqTxS.calls (w := _) (hr0 := HS.reads A35) (hc0 := HS.cap A35) (hr1 := HS.reads A28) (hc1 := HS.cap A28) (h := he1.out))).mono ?_; clear HS; rintro e w1 ⟨rfl, HS⟩; refine ⟨_, rfl, ?_⟩) | ((with_reducible refine gate_dst (N := 42) rfl ?_); refine ev_call (some 42) rfl rfl Try.func28 (by kernel_rfl) rfl rfl (by simp only [List.map_toArray, List.map_cons, List.map_nil]; rfl) ?_; refine (HS.get1 (laws_toTxS.calls (w := _) (hr0 := Kd.C_below hr0.out HS.below) (hc0 := hc0.out) (h := htp.out))).mono ?_; clear HS; rintro e w1 ⟨A42, c42, rfl, HS⟩; refine ⟨_, rfl, ?_⟩) | ((with_reducible refine gate_dst (N := 43) rfl ?_); refine ev_call (some 43) rfl rfl Try.func30 (by kernel_rfl) rfl rfl (by simp only [List.map_toArray, List.map_cons, List.map_nil]; rfl) ?_; refine (HS.val (laws_eqTxS.calls (w := _) (hr0 := HS.reads A30) (hc0 := HS.cap A30) (hr1 := HS.reads A42) (hc1 := HS.cap A42) (h := he2.out))).mono ?_; clear HS; rintro e w1 ⟨rfl, HS⟩; refine ⟨_, rfl, ?_⟩))
  refine start_ (n := 5) (S := fun w' => SS w w' _) (ds := []) #[false, false, false, false, false] (by kernel_rfl) rfl rfl HS.drew (fun _ => ?_)
  replace HS := HS.drew
  generalize w1.drew = w1 at HS ⊢
  refine take_ (i := 0) (N := some 45) (a' := ?_) #[true, false, false, false, false] rfl rfl (by kernel_rfl) (fun _ _ _ h => h) (Or.inl ⟨by rfl, fun w' hs => rl_S hs rfl rfl (by rfl)⟩) (HS.drop 0) ?_ ?_
  rotate_left
  · simp only [Act.put, List.setIfInBounds_toArray, List.set_cons_zero, List.set_cons_succ, i64_w, i32_w]; rfl
  refine take_ (i := 1) (N := some 46) (a' := ?_) #[true, true, false, false, false] rfl rfl (by kernel_rfl) (fun _ _ _ h => h) (Or.inl ⟨by rfl, fun w' hs => rl_S hs rfl rfl (by rfl)⟩) (HS.drop 0) ?_ ?_
  rotate_left
  · simp only [Act.put, List.setIfInBounds_toArray, List.set_cons_zero, List.set_cons_succ, i64_w, i32_w]; rfl
  refine one_ (i := 2) (N := some 47) #[true, true, true, false, false] rfl rfl (by kernel_rfl) (by decide) (fun K hK => ?_)
  refine goes_ Try.func17 (by kernel_rfl) rfl _ (by rfl) rfl rfl (by simp only [List.map_toArray, List.map_cons, List.map_nil]; rfl) ?_
  refine (HS.get2 rfl rfl (laws_toLedger.calls (w := _) (hr0_0 := Kd.C_below hr1.out HS.below) (hc0_0 := hc1.out) (hr0_1 := Kd.C_below hr2.out HS.below) (hc0_1 := hc2.out) (h := hto.out))).mono ?_
  clear HS
  rintro e w1 ⟨A47, c47, B47, d47, rfl, HS⟩
  refine ⟨_, rfl, ?_⟩
  refine hK.out _ _ (HS.drop 2) (fun _ => ?_)
  clear hK K
  refine norm_ (a' := ?_) ?_ ?_
  rotate_left
  · simp only [Act.put, List.setIfInBounds_toArray, List.set_cons_zero, List.set_cons_succ, i64_w, i32_w]; rfl
  refine one_ (i := 3) (N := some 48) #[true, true, true, true, false] rfl rfl (by kernel_rfl) (by decide) (fun K hK => ?_)
  refine goes_ Try.func19 (by kernel_rfl) rfl _ (by rfl) rfl rfl (by simp only [List.map_toArray, List.map_cons, List.map_nil]; rfl) ?_
  refine (HS.val (laws_eqLedger.calls (w := _) (hr0_0 := HS.reads A32) (hc0_0 := HS.cap A32) (hr0_1 := HS.reads B32) (hc0_1 := HS.cap B32) (hr1_0 := HS.reads A47) (hc1_0 := HS.cap A47) (hr1_1 := HS.reads B47) (hc1_1 := HS.cap B47) (h := he3.out))).mono ?_
  clear HS
  rintro e w1 ⟨rfl, HS⟩
  refine ⟨_, rfl, ?_⟩
  refine hK.out _ _ (HS.drop 2) (fun _ => ?_)
  clear hK K
  refine norm_ (a' := ?_) ?_ ?_
  rotate_left
  · simp only [Act.put, List.setIfInBounds_toArray, List.set_cons_zero, List.set_cons_succ, i64_w, i32_w]; rfl
  refine pure_ (i := 4) (N := some 49) (v := ?_) (a' := ?_) #[true, true, true, true, true] rfl rfl (by kernel_rfl) (fun _ _ _ h => h) (Or.inl ⟨by rfl, ?_⟩) ?_ ?_
  rotate_left
  · intro w'; go_simp; (try with_reducible rfl)
  rotate_left
  · simp only [Act.put, List.setIfInBounds_toArray, List.set_cons_zero, List.set_cons_succ, i64_w, i32_w]; rfl
  refine done_ (by kernel_rfl) ?_
  go_upto_region 31 with (first | ((with_reducible refine gate_dst (N := 52) rfl ?_); refine ev_call (some 52) rfl rfl Try.func43 (by kernel_rfl) rfl rfl (by simp only [List.map_toArray, List.map_cons, List.map_nil]; rfl) ?_; refine (HS.mark A30 (fun F hF => laws_markTxS.calls (w0 := w) (P0_ := F) (hB := HS.below) (ho0 := hF) (h := hm0.out))).mono ?_; clear HS; rintro e w1 ⟨rfl, HS⟩; refine ⟨_, rfl, ?_⟩) | ((with_reducible refine gate_load rfl ?_); first | refine ev_loadC HS rfl rfl rfl (by rfl) ?_ | refine ev_loadS HS rfl rfl rfl (by rfl) ?_) | ((with_reducible refine gate_dst (N := 55) rfl ?_); refine ev_call (some 55) rfl rfl Try.func22 (by kernel_rfl) rfl rfl (by simp only [List.map_toArray, List.map_cons, List.map_nil]; rfl) ?_; refine (HS.mark2 A32 B32 (by decide) rfl rfl (fun F G hF hFG hG hGF => laws_markLedger.calls (w0 := w) (P0_0_ := F) (P0_1_ := G) (hB := HS.below) (ho0_0 := hF) (hp0_0_0_1 := hFG) (ho0_1 := hG) (hp0_1_0_0 := hGF) (h := hm1.out))).mono ?_; clear HS; rintro e w1 ⟨rfl, HS⟩; refine ⟨_, rfl, ?_⟩) | ((with_reducible refine gate_dst (N := 61) rfl ?_); refine ev_call (some 61) rfl rfl Try.func30 (by kernel_rfl) rfl rfl (by simp only [List.map_toArray, List.map_cons, List.map_nil]; rfl) ?_; refine (HS.val (laws_eqTxS.calls (w := _) (hr0 := HS.reads A35) (hc0 := HS.cap A35) (hr1 := HS.reads A28) (hc1 := HS.cap A28) (h := he1.out))).mono ?_; clear HS; rintro e w1 ⟨rfl, HS⟩; refine ⟨_, rfl, ?_⟩) | ((with_reducible refine gate_dst (N := 66) rfl ?_); refine ev_call (some 66) rfl rfl Try.func43 (by kernel_rfl) rfl rfl (by simp only [List.map_toArray, List.map_cons, List.map_nil]; rfl) ?_; refine (HS.mark A35 (fun F hF => laws_markTxS.calls (w0 := w) (P0_ := F) (hB := HS.below) (ho0 := hF) (h := hm2.out))).mono ?_; clear HS; rintro e w1 ⟨rfl, HS⟩; refine ⟨_, rfl, ?_⟩) | ((with_reducible refine gate_dst (N := 69) rfl ?_); refine ev_call (some 69) rfl rfl Try.func44 (by kernel_rfl) rfl rfl (by simp only [List.map_toArray, List.map_cons, List.map_nil]; rfl) ?_; refine (calls_at (by rw [← hl_mr.out]; try rfl) (HS.valD (laws_heldTxS.calls (w := _) (hr0 := HS.reads A35) (hc0 := HS.cap A35) (h := hh.out)))).mono ?_; clear HS; rintro e w1 ⟨rfl, HS⟩; refine ⟨_, rfl, ?_⟩))
  refine start_ (n := 6) (S := fun w' => SS w w' _) (ds := []) #[false, false, false, false, false, false] (by kernel_rfl) rfl rfl HS.drew (fun _ => ?_)
  replace HS := HS.drew
  generalize w1.drew = w1 at HS ⊢
  refine pure_ (i := 0) (N := some 75) (v := ?_) (a' := ?_) #[true, false, false, false, false, false] rfl rfl (by kernel_rfl) (fun _ _ _ h => h) (Or.inl ⟨by rfl, ?_⟩) ?_ ?_
  rotate_left
  · intro w'; go_simp; (try with_reducible rfl)
  rotate_left
  · simp only [Act.put, List.setIfInBounds_toArray, List.set_cons_zero, List.set_cons_succ, i64_w, i32_w]; rfl
  refine take_ (i := 2) (N := some 77) (a' := ?_) #[true, false, true, false, false, false] rfl rfl (by kernel_rfl) (fun _ _ _ h => h) (Or.inl ⟨by rfl, fun w' hs => rl_S hs rfl rfl (by rfl)⟩) (HS.drop 0) ?_ ?_
  rotate_left
  · simp only [Act.put, List.setIfInBounds_toArray, List.set_cons_zero, List.set_cons_succ, i64_w, i32_w]; rfl
  refine one_ (i := 1) (N := some 76) #[true, true, true, false, false, false] rfl rfl (by kernel_rfl) (by decide) (fun K hK => ?_)
  refine goes_ Try.func28 (by kernel_rfl) rfl _ (by rfl) rfl rfl (by simp only [List.map_toArray, List.map_cons, List.map_nil]; rfl) ?_
  refine (HS.get1 (laws_toTxS.calls (w := _) (hr0 := Kd.C_below hr0.out HS.below) (hc0 := hc0.out) (h := htp.out))).mono ?_
  clear HS
  rintro e w1 ⟨A76, c76, rfl, HS⟩
  refine ⟨_, rfl, ?_⟩
  refine hK.out _ _ (HS.drop 1) (fun _ => ?_)
  clear hK K
  refine norm_ (a' := ?_) ?_ ?_
  rotate_left
  · simp only [Act.put, List.setIfInBounds_toArray, List.set_cons_zero, List.set_cons_succ, i64_w, i32_w]; rfl
  refine one_ (i := 3) (N := some 78) #[true, true, true, true, false, false] rfl rfl (by kernel_rfl) (by decide) (fun K hK => ?_)
  refine goes_ Try.func17 (by kernel_rfl) rfl _ (by rfl) rfl rfl (by simp only [List.map_toArray, List.map_cons, List.map_nil]; rfl) ?_
  refine (HS.get2 rfl rfl (laws_toLedger.calls (w := _) (hr0_0 := Kd.C_below hr1.out HS.below) (hc0_0 := hc1.out) (hr0_1 := Kd.C_below hr2.out HS.below) (hc0_1 := hc2.out) (h := hto.out))).mono ?_
  clear HS
  rintro e w1 ⟨A78, c78, B78, d78, rfl, HS⟩
  refine ⟨_, rfl, ?_⟩
  refine hK.out _ _ (HS.drop 3) (fun _ => ?_)
  clear hK K
  refine norm_ (a' := ?_) ?_ ?_
  rotate_left
  · simp only [Act.put, List.setIfInBounds_toArray, List.set_cons_zero, List.set_cons_succ, i64_w, i32_w]; rfl
  refine one_ (i := 4) (N := some 79) #[true, true, true, true, true, false] rfl rfl (by kernel_rfl) (by decide) (fun K hK => ?_)
  refine goes_ Try.func49 (by kernel_rfl) rfl _ (by rfl) rfl rfl (by simp only [List.map_toArray, List.map_cons, List.map_nil]; rfl) ?_
  refine (HS.get1 (impl_PoolTake.calls (w := _) (hr0 := HS.reads A76) (hc0 := HS.cap A76) (hs1_0 := Kd.R_V (HS.out1 A78)) (hs1_1 := Kd.R_V (HS.out1 B78)) (h := hi.out))).mono ?_
  clear HS
  rintro e w1 ⟨A79, c79, rfl, HS⟩
  refine ⟨_, rfl, ?_⟩
  refine hK.out _ _ (HS.drop 4) (fun _ => ?_)
  clear hK K
  refine norm_ (a' := ?_) ?_ ?_
  rotate_left
  · simp only [Act.put, List.setIfInBounds_toArray, List.set_cons_zero, List.set_cons_succ, i64_w, i32_w]; rfl
  refine pure_ (i := 5) (N := some 13) (v := ?_) (a' := ?_) #[true, true, true, true, true, true] rfl rfl (by kernel_rfl) (fun _ _ _ h => h) (Or.inl ⟨by rfl, ?_⟩) ?_ ?_
  rotate_left
  · intro w'; go_simp; (try with_reducible rfl)
  rotate_left
  · simp only [Act.put, List.setIfInBounds_toArray, List.set_cons_zero, List.set_cons_succ, i64_w, i32_w]; rfl
  refine done_ (by kernel_rfl) ?_
  go_wp2_with (first | ((with_reducible refine gate_dst (N := 82) rfl ?_); refine ev_call (some 82) rfl rfl Try.func30 (by kernel_rfl) rfl rfl (by simp only [List.map_toArray, List.map_cons, List.map_nil]; rfl) ?_; refine (HS.val (laws_eqTxS.calls (w := _) (hr0 := HS.reads A79) (hc0 := HS.cap A79) (hr1 := HS.reads A28) (hc1 := HS.cap A28) (h := he1.out))).mono ?_; clear HS; rintro e w1 ⟨rfl, HS⟩; refine ⟨_, rfl, ?_⟩) | ((with_reducible refine gate_dst (N := 86) rfl ?_); refine ev_call (some 86) rfl rfl Try.func44 (by kernel_rfl) rfl rfl (by simp only [List.map_toArray, List.map_cons, List.map_nil]; rfl) ?_; refine (calls_at (by rw [← hl_mr.out]; try rfl) (HS.valD (laws_heldTxS.calls (w := _) (hr0 := HS.reads A35) (hc0 := HS.cap A35) (h := hh.out)))).mono ?_; clear HS; rintro e w1 ⟨rfl, HS⟩; refine ⟨_, rfl, ?_⟩))
  go_ret
  exact ⟨rfl, HS.below⟩

theorem FnExactPoolTake {w : World} {A0 : Option Addr} {c0 : Nat} {A1_0 : Option Addr} {c1_0 : Nat} {A1_1 : Option Addr} {c1_1 : Nat} (p : List S50) (h n : List Int) (hm0 : p.length ≤ maxLen) (hw0 : ∀ x ∈ p, Go.Proofs.Ytajblkfgdalldaa.RowKit.Fit4 (x.f0, x.f1, x.f2, x.f3)) (hm : h.length ≤ maxLen) (hw : ∀ x ∈ h, (Lit.int .i64 x).wf = true) (hm' : n.length ≤ maxLen) (hw' : ∀ x ∈ n, (Lit.int .i64 x).wf = true)
    (hr0 : Kd.C k50 w A0 p.length p) (hc0 : p.length ≤ c0) (hr1_0 : Kd.C (Kd.int .i64) w A1_0 h.length h) (hc1_0 : h.length ≤ c1_0) (hr1_1 : Kd.C (Kd.int .i64) w A1_1 n.length n) (hc1_1 : n.length ≤ c1_1) :
    Calls Try.prog 13 #[.slice A0 p.length c0, .agg #[.slice A1_0 h.length c1_0, .slice A1_1 n.length c1_1]] w fun e w' => e = .returned (.bool true) ∧ Below w.heap.size w w' := by
  have hs0 := szTxS_val p 1048576 hm0 (by omega) (by omega)
  by_cases c : (1048576 : Int) < p.length
  · rw [if_pos c] at hs0
    exact walk0 A0 c0 p A1_0 c1_0 h A1_1 c1_1 n (-1) 0 w ⟨hr0⟩ ⟨hc0⟩ ⟨hr1_0⟩ ⟨hc1_0⟩ ⟨hr1_1⟩ ⟨hc1_1⟩ ⟨hs0⟩ (by decide)
  rw [if_neg c] at hs0
  obtain ⟨r, hr, hc⟩ := szLedger_val h n (1048576 - p.length) hm hm' (by omega) (by omega)
  rcases hc with hc | ⟨h0, h1⟩
  · exact walk2 A0 c0 p A1_0 c1_0 h A1_1 c1_1 n _ r w ⟨hr0⟩ ⟨hc0⟩ ⟨hr1_0⟩ ⟨hc1_0⟩ ⟨hr1_1⟩ ⟨hc1_1⟩ ⟨hs0⟩ ⟨hr⟩ (decide_eq_false (by omega)) (decide_eq_true hc)
  have b1 : h.length ≤ 1048576 := by omega
  have b2 : n.length ≤ 1048576 := by omega
  have b4 : (p.map toI).length ≤ 1048576 := by rw [List.length_map]; omega
  have b6 : (takeS h n [] (p.map toI)).length ≤ 1048576 := Nat.le_trans (by have := takeS_le h n (p.map toI) []; simpa using this) b4
  obtain ⟨k1, f1⟩ := (toLedger_ev h n (by omega) (by omega)).rounds
  obtain ⟨k2, f2⟩ := (toTxS_ev p (by omega)).rounds
  obtain ⟨k3, f3⟩ := (spec_PoolTake_ev h n b1 b2 (p.map toI) b4).rounds
  obtain ⟨k4, f4⟩ := (impl_PoolTake_ev h n b1 b2 (p.map toI) b4).rounds
  obtain ⟨k5, f5⟩ := (eqTxS_refl (takeS h n [] (p.map toI)) (by omega)).rounds
  obtain ⟨k6, f6⟩ := (eqTxS_refl (p.map toI) (by omega)).rounds
  obtain ⟨k7, f7⟩ := (eqLedger_refl h n (by omega) (by omega)).rounds
  obtain ⟨k8, f8⟩ := (markTxS_ev (p.map toI) 1 (by omega) (by omega)).rounds
  obtain ⟨k9, f9⟩ := (markLedger_ev h n (1 + 4 * ((p.map toI).length : Int)) (by omega) (by omega)).rounds
  obtain ⟨k10, f10⟩ := (markTxS_ev (takeS h n [] (p.map toI)) 1 (by omega) (by omega)).rounds
  obtain ⟨k11, f11⟩ := (heldTxS_ev 1 (takeS h n [] (p.map toI)).length (by omega) (by omega)).rounds
  exact walk1 A0 c0 p A1_0 c1_0 h A1_1 c1_1 n _ r (p.map toI) (takeS h n [] (p.map toI)) _ _ _ _ _ _ _ w ⟨hr0⟩ ⟨hc0⟩ ⟨hr1_0⟩ ⟨hc1_0⟩ ⟨hr1_1⟩ ⟨hc1_1⟩ ⟨hs0⟩ ⟨hr⟩ k1 ⟨f1⟩ k2 ⟨f2⟩ k3 ⟨f3⟩ k4 ⟨f4⟩ k5 ⟨f5⟩ k6 ⟨f6⟩ k7 ⟨f7⟩ k8 ⟨f8⟩ k9 ⟨f9⟩ k10 ⟨f10⟩ k11 ⟨f11⟩
    (decide_eq_false (by omega)) (decide_eq_false (by omega)) (decide_eq_false (by omega)) (decide_eq_false (by omega)) ⟨(marksT_length _ _).symm⟩
end Go.Proofs.Ytajblkfgdalldaa.Law
