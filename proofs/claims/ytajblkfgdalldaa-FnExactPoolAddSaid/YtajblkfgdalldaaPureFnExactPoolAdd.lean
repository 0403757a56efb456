/- For every list of payments and every payment the program's PoolAdd tells what the reference tells, the list stays as it was, and the list it tells shares nothing; no condition. -/
import Derived.Test.YtajblkfgdalldaaRowKit
import Derived.Test.YtajblkfgdalldaaPFnExactPoolAddx1
import Derived.Test.YtajblkfgdalldaaPFnExactPoolAddx2
import Derived.Test.YtajblkfgdalldaaPFnExactPoolAddx3
import Derived.Test.YtajblkfgdalldaaPFnExactPoolAddx4
import Derived.Test.YtajblkfgdalldaaPFnExactPoolAddx5
import Derived.Test.YtajblkfgdalldaaPFnExactPoolAddx6
import Derived.Test.YtajblkfgdalldaaPFnExactPoolAddx7
namespace Go.Proofs.Ytajblkfgdalldaa.Pure
open Go.RowKit Go.Proofs.Ytajblkfgdalldaa.PFnExactPoolAdd Go.Proofs.YtajblkfgdalldaaW.PrintWords Go.Proofs.YtajblkfgdalldaaW.PrintLast

section
set_option linter.unusedVariables false
set_option linter.unusedSimpArgs false
theorem up1 (n : Nat) (h : n < 4611686018427387904) : wrap64 ((n : Int) + 1) = ((n + 1 : Nat) : Int) := by
  unfold wrap64; omega
theorem up1' (a : Int) (h0 : -4611686018427387904 ≤ a) (h : a < 4611686018427387904) : wrap64 (a + 1) = a + 1 := by
  unfold wrap64; omega
theorem dn1 (a : Int) (h0 : -4611686018427387904 ≤ a) (h : a < 4611686018427387904) : wrap64 (a - 1) = a - 1 := by
  unfold wrap64; omega
theorem wrapI (a : Int) (h0 : -4611686018427387904 ≤ a) (h : a < 4611686018427387904) : wrap64 a = a := by
  unfold wrap64; omega
theorem rd_nat (xs : List Int) (n : Nat) (h : n < xs.length) : rd xs (n : Int) = xs[n] := by
  unfold rd; simp [List.getD_eq_getElem?_getD, h]
theorem ev_eq {α : Type} {g : Nat → Option α} {r s : α} (h : Ev g r) (e : r = s) : Ev g s := e ▸ h
theorem ev_ite {α : Type} {c : Prop} [Decidable c] {g f : Nat → Option α} {r s : α} (hg : c → Ev g r) (hf : ¬ c → Ev f s) : Ev (fun k => if c then g k else f k) (if c then r else s) := by
  by_cases h : c
  · simp only [if_pos h]; exact hg h
  · simp only [if_neg h]; exact hf h
theorem ev_pos {α : Type} {c : Prop} [Decidable c] {g f : Nat → Option α} {r : α} (h : c) (hg : Ev g r) : Ev (fun k => if c then g k else f k) r := by
  simp only [if_pos h]; exact hg
theorem ev_neg {α : Type} {c : Prop} [Decidable c] {g f : Nat → Option α} {r : α} (h : ¬ c) (hf : Ev f r) : Ev (fun k => if c then g k else f k) r := by
  simp only [if_neg h]; exact hf
theorem ev_some {α : Type} {r s : α} (e : r = s) : Ev (fun _ => some r) s := e ▸ Ev.now r
theorem ev_const {α β : Type} {o : Option α} {f : Nat → α → Option β} {a : α} {r : β} (h : o = some a) (k : Ev (fun n => f n a) r) : Ev (fun n => o.bind (f n)) r := by
  subst h; exact k
theorem ev_up {α : Type} {g : Nat → Option α} {r : α} (h : Ev (fun k => g (k + 1)) r) : Ev g r := by
  obtain ⟨K, hK⟩ := h
  refine ⟨K + 1, fun k hk => ?_⟩
  obtain ⟨m, rfl⟩ : ∃ m, k = m + 1 := ⟨k - 1, by omega⟩
  exact hK m (by omega)
theorem wNat (c : Nat) (h : c < 4611686018427387904) : wrap64 (c : Int) = (c : Int) := by unfold wrap64; omega
theorem wAdd (a i : Nat) (h : a + i < 4611686018427387904) : wrap64 ((a : Int) + (i : Int)) = ((a + i : Nat) : Int) := by unfold wrap64; omega
theorem wAdd1 (a i : Nat) (h : a + i < 4611686018427387904) : wrap64 (((a + i : Nat) : Int) + 1) = (a : Int) + ((i + 1 : Nat) : Int) := by unfold wrap64; omega
theorem wSub (a i : Nat) (h : a < 4611686018427387904) (h' : i < 4611686018427387904) : wrap64 ((a : Int) - (i : Int)) = (a : Int) - (i : Int) := by unfold wrap64; omega
theorem tmod128 (c : Nat) : Int.tmod (c : Int) 128 = ((c % 128 : Nat) : Int) := by rw [Int.tmod_eq_emod_of_nonneg (by omega)]; omega
theorem all_drop {α : Type} {P : α → Prop} {l : List α} {i : Nat} (h : i < l.length) : (∀ x ∈ l.drop i, P x) ↔ P l[i] ∧ ∀ x ∈ l.drop (i + 1), P x := by
  rw [List.drop_eq_getElem_cons h, List.forall_mem_cons]

theorem szTxS_val (l : List S50) (a : Int) (hm : l.length ≤ maxLen) (h0 : 0 ≤ a) (h1 : a ≤ 1048576) : laws_szTxS.f l a = some (if a < l.length then -1 else a - l.length) := by
  unfold maxLen at hm
  have e : wrap64 (a - (l.length : Int)) = a - l.length := by unfold wrap64; omega
  unfold laws_szTxS.f
  rw [e]
  by_cases h : a < l.length
  · rw [if_pos (by omega), if_pos h]
  · rw [if_neg (by omega), if_neg h]

def toI (x : S50) : S45 := ⟨x.f0, x.f1, x.f2, x.f3⟩
theorem rdJ_nat (xs : List S50) (n : Nat) (h : n < xs.length) : rd_T50 xs (n : Int) = xs[n] := by
  unfold rd_T50; simp [List.getD_eq_getElem?_getD, h]
theorem toTxS_loop (l : List S50) (hl : l.length ≤ 8796093022208) : ∀ (d n : Nat) (x : List S45), l.length - n = d → n ≤ l.length → x.length = l.length → x.take n = (l.map toI).take n → Ev (fun k => laws_toTxS.l0 k l x (n : Int)) (l.map toI) := by
  intro d
  induction d with
  | zero =>
    intro n x hd hn hx ht
    obtain rfl : n = l.length := by omega
    refine Ev.step (f := fun _ => some x) (fun k => by simp only [laws_toTxS.l0]; rw [if_neg (by omega)]) (ev_some ?_)
    rw [List.take_of_length_le (by omega), List.take_of_length_le (by simp)] at ht
    exact ht
  | succ d ih =>
    intro n x hd hn hx ht
    have h1 : n < l.length := by omega
    refine Ev.step (f := fun k => laws_toTxS.l0 k l (x.set n (toI l[n])) ((n + 1 : Nat) : Int)) (fun k => ?_) (ih (n + 1) (x.set n (toI l[n])) (by omega) (by omega) (by simpa using hx) ?_)
    · simp only [laws_toTxS.l0]
      rw [if_pos (by omega), if_pos (by omega), rdJ_nat l n h1]
      simp only [laws_toTx.f, Option.bind_some]
      rw [if_pos (by omega), up1 n (by omega)]
      rfl
    · rw [List.take_succ_eq_append_getElem (by simpa [hx] using h1), List.take_succ_eq_append_getElem (by simpa using h1)]
      simp only [List.take_set_of_le (Nat.le_refl n), ht, List.getElem_set_self, List.getElem_map]
theorem toTxS_ev (l : List S50) (hl : l.length ≤ 8796093022208) : Ev (fun k => laws_toTxS.f k l) (l.map toI) := by
  unfold laws_toTxS.f
  refine ev_pos (by omega) (ev_pos (by simpa using hl) ?_)
  exact toTxS_loop l hl l.length 0 _ (by omega) (by omega) (by simp) (by simp)

def txIs (f t a n : Int) : Prop := (0 ≤ f ∧ f ≤ 3) ∧ (0 ≤ t ∧ t ≤ 3) ∧ (0 ≤ a ∧ a ≤ 1000) ∧ 0 ≤ n ∧ n ≤ 99
instance (f t a n : Int) : Decidable (txIs f t a n) := by unfold txIs; infer_instance
def txOkS (x : S45) : Prop := txIs x.f0 x.f1 x.f2 x.f3
instance (x : S45) : Decidable (txOkS x) := by unfold txOkS; infer_instance
theorem rdT_nat (xs : List S45) (n : Nat) (h : n < xs.length) : rd_T45 xs (n : Int) = xs[n] := by
  unfold rd_T45; simp [List.getD_eq_getElem?_getD, h]
theorem eqTxS_refl (l : List S45) (hl : l.length ≤ 35184372088832) : Ev (fun k => laws_eqTxS.f k l l) true := by
  unfold laws_eqTxS.f
  refine ev_pos rfl ?_
  have loop : ∀ (d n : Nat), l.length - n = d → n ≤ l.length → Ev (fun k => laws_eqTxS.l0 k l l (n : Int)) true := by
    intro d
    induction d with
    | zero =>
      intro n hd hn
      exact Ev.step (f := fun _ => some true) (fun k => by simp only [laws_eqTxS.l0]; rw [if_neg (by omega)]) (ev_some rfl)
    | succ d ih =>
      intro n hd hn
      have h1 : n < l.length := by omega
      refine Ev.step (f := fun k => laws_eqTxS.l0 k l l ((n + 1 : Nat) : Int)) (fun k => ?_) (ih (n + 1) (by omega) (by omega))
      simp only [laws_eqTxS.l0]
      rw [if_pos (by omega), if_pos (by omega), if_pos (by omega), up1 n (by omega)]
      simp [laws_eqTx.f]
  exact loop l.length 0 (by omega) (by omega)

def beforeS (a b : S45) : Prop := a.f0 < b.f0 ∨ (a.f0 = b.f0 ∧ a.f3 < b.f3)
instance (a b : S45) : Decidable (beforeS a b) := by unfold beforeS; infer_instance
def poolAt (p : List S45) (j : Nat) : Prop := txOkS (p.getD j z45) ∧ (0 < j → beforeS (p.getD (j - 1) z45) (p.getD j z45))
def poolFrom (p : List S45) (i : Nat) : Prop := ∀ j, i ≤ j → j < p.length → poolAt p j
def poolIs (p : List S45) : Prop := poolFrom p 0 ∧ p.length ≤ 12
theorem poolFrom_step {p : List S45} {i : Nat} (h : i < p.length) : poolFrom p i ↔ poolAt p i ∧ poolFrom p (i + 1) := by
  refine ⟨fun H => ⟨H i (Nat.le_refl _) h, fun j hj => H j (by omega)⟩, fun H j hj hl => ?_⟩
  rcases Nat.eq_or_lt_of_le hj with rfl | hj
  · exact H.1
  · exact H.2 j (by omega) hl
theorem poolFrom_end {p : List S45} : poolFrom p p.length := fun j h1 h2 => absurd h2 (by omega)
theorem getD_at {p : List S45} {i : Nat} (h : i < p.length) : p.getD i z45 = p[i] := by simp [List.getD_eq_getElem?_getD, h]
def marksT (a : Int) (n : Nat) : List S45 := (List.range n).map fun i : Nat => ⟨a + 4 * (i : Int), a + 4 * (i : Int) + 1, a + 4 * (i : Int) + 2, a + 4 * (i : Int) + 3⟩
theorem marksT_length (a : Int) (n : Nat) : (marksT a n).length = n := by simp [marksT]
theorem marksT_at (a : Int) (n i : Nat) (h : i < (marksT a n).length) : (marksT a n)[i] = ⟨a + 4 * (i : Int), a + 4 * (i : Int) + 1, a + 4 * (i : Int) + 2, a + 4 * (i : Int) + 3⟩ := by simp [marksT]
theorem rdT_set (xs : List S45) (n : Nat) (v : S45) (h : n < xs.length) : rd_T45 (xs.set n v) (n : Int) = v := by
  rw [rdT_nat _ n (by simpa using h)]; simp
theorem wr4 (a : Int) (h0 : 0 ≤ a) (h : a < 4611686018427387900) : wrap64 (a + 1) = a + 1 ∧ wrap64 (a + 1 + 1) = a + 2 ∧ wrap64 (a + 2 + 1) = a + 3 ∧ wrap64 (a + 3 + 1) = a + 4 := by unfold wrap64; omega
theorem markTxS_loop (a : Int) (N : Nat) (h0 : 0 ≤ a) (h1 : a + 4 * (N : Int) < 4611686018427387900) : ∀ (d n : Nat) (x : List S45), N - n = d → n ≤ N → x.length = N → x.take n = (marksT a N).take n → Ev (fun k => laws_markTxS.l0 k x (a + 4 * (n : Int)) (n : Int)) (a + 4 * (N : Int), marksT a N) := by
  intro d
  induction d with
  | zero =>
    intro n x hd hn hx ht
    obtain rfl : n = N := by omega
    refine Ev.step (f := fun _ => some (a + 4 * (n : Int), x)) (fun k => by simp only [laws_markTxS.l0]; rw [if_neg (by omega)]) (ev_some ?_)
    rw [List.take_of_length_le (by omega), List.take_of_length_le (by simp [marksT_length])] at ht
    rw [ht]
  | succ d ih =>
    intro n x hd hn hx ht
    have hlt : n < N := by omega
    have hx2 : n < x.length := by omega
    obtain ⟨w1, w2, w3, w4⟩ := wr4 (a + 4 * (n : Int)) (by omega) (by omega)
    refine Ev.step (f := fun k => laws_markTxS.l0 k (x.set n ⟨a + 4 * (n : Int), a + 4 * (n : Int) + 1, a + 4 * (n : Int) + 2, a + 4 * (n : Int) + 3⟩) (a + 4 * ((n + 1 : Nat) : Int)) ((n + 1 : Nat) : Int)) (fun k => ?_) (ih (n + 1) (x.set n ⟨a + 4 * (n : Int), a + 4 * (n : Int) + 1, a + 4 * (n : Int) + 2, a + 4 * (n : Int) + 3⟩) (by omega) (by omega) (by simpa using hx) ?_)
    · have wn := up1 n (by omega)
      have e4 : a + 4 * (n : Int) + 4 = a + 4 * ((n + 1 : Nat) : Int) := by clear w1 w2 w3 w4 wn; omega
      have c1 : (n : Int) < (x.length : Int) := by clear w1 w2 w3 w4 wn; omega
      have c2 : 0 ≤ (n : Int) := by clear w1 w2 w3 w4 wn; omega
      simp only [laws_markTxS.l0]
      rw [if_pos c1, if_pos c2, w1, w2, w3, w4, wn, e4]
      simp only [Option.bind_some, Int.toNat_natCast, List.set_set, rdT_set _ _ _ hx2]
    · clear w1 w2 w3 w4
      rw [List.take_succ_eq_append_getElem (by simpa [hx] using hlt), List.take_succ_eq_append_getElem (by simpa [marksT_length] using hlt)]
      simp [List.take_set_of_le, ht, marksT_at]
theorem markTxS_ev (l : List S45) (a : Int) (h0 : 0 ≤ a) (h1 : a + 4 * (l.length : Int) < 4611686018427387900) : Ev (fun k => laws_markTxS.f k l a) (a + 4 * (l.length : Int), marksT a l.length) := by
  unfold laws_markTxS.f
  have := markTxS_loop a l.length h0 h1 l.length 0 l (by omega) (by omega) rfl (by simp)
  simpa using this

theorem heldTxS_loop (a : Int) (N : Nat) (h0 : 0 ≤ a) (h1 : a + 4 * (N : Int) < 4611686018427387900) : ∀ (d n : Nat), N - n = d → n ≤ N → Ev (fun k => laws_heldTxS.l0 k (marksT a N) (a + 4 * (n : Int)) (n : Int)) (a + 4 * (N : Int)) := by
  intro d
  have hl := marksT_length a N
  induction d with
  | zero =>
    intro n hd hn
    obtain rfl : n = N := by omega
    exact Ev.step (f := fun _ => some (a + 4 * (n : Int))) (fun k => by simp only [laws_heldTxS.l0]; rw [if_neg (by omega)]) (ev_some rfl)
  | succ d ih =>
    intro n hd hn
    have hlt : n < (marksT a N).length := by omega
    refine Ev.step (f := fun k => laws_heldTxS.l0 k (marksT a N) (a + 4 * ((n + 1 : Nat) : Int)) ((n + 1 : Nat) : Int)) (fun k => ?_) (ih (n + 1) (by omega) (by omega))
    have e4 : a + 4 * (n : Int) + 4 = a + 4 * ((n + 1 : Nat) : Int) := by omega
    have c1 : (n : Int) < ((marksT a N).length : Int) := by omega
    have c2 : 0 ≤ (n : Int) := by omega
    have wn := up1 n (by omega)
    obtain ⟨w1, w2, w3, w4⟩ := wr4 (a + 4 * (n : Int)) (by clear wn; omega) (by clear wn; omega)
    simp only [laws_heldTxS.l0]
    rw [if_pos c1, if_pos c2, w1, w2, w3, w4, wn, e4, rdT_nat _ n hlt, marksT_at]
    simp only [if_true]
theorem heldTxS_ev (a : Int) (N : Nat) (h0 : 0 ≤ a) (h1 : a + 4 * (N : Int) < 4611686018427387900) : Ev (fun k => laws_heldTxS.f k (marksT a N) a) (a + 4 * (N : Int)) := by
  unfold laws_heldTxS.f
  have := heldTxS_loop a N h0 h1 N 0 (by omega) (by omega)
  simpa using this

theorem spec_l1In_val (a b c : Int) : spec_l1In.f a b c = some (decide (b ≤ a ∧ a ≤ c)) := by
  unfold spec_l1In.f
  by_cases h : a ≥ b <;> by_cases h2 : a ≤ c <;> simp [h, h2] <;> omega

theorem spec_TxOk_val (f t a n : Int) : spec_TxOk.f f t a n = some (decide (txIs f t a n)) := by
  unfold spec_TxOk.f txIs
  simp only [spec_l1In_val, Option.bind_some, decide_eq_true_eq]
  by_cases h1 : 0 ≤ f ∧ f ≤ 3 <;> by_cases h2 : 0 ≤ t ∧ t ≤ 3 <;> by_cases h3 : 0 ≤ a ∧ a ≤ 1000 <;> simp only [h1, h2, h3, if_true, if_false, true_and, false_and, and_false, and_self, decide_false]

theorem spec_before_val (x y : S45) : spec_l4Before.f x.f0 x.f1 x.f2 x.f3 y.f0 y.f1 y.f2 y.f3 = some (decide (beforeS x y)) := by
  unfold spec_l4Before.f beforeS
  by_cases h : x.f0 < y.f0
  · rw [if_pos h]; simp [h]
  · rw [if_neg h]
    by_cases h2 : x.f0 = y.f0
    · rw [if_pos h2]; simp [h2]
    · rw [if_neg h2]; simp [h, h2]

open Classical in
theorem spec_PoolOk_loop (p : List S45) (hl : p.length ≤ 35184372088832) : ∀ (d i : Nat), p.length - i = d → i ≤ p.length → Ev (fun k => spec_PoolOk.l0 k p (i : Int)) (decide (poolFrom p i ∧ p.length ≤ 12)) := by
  intro d
  induction d with
  | zero =>
    intro i hd hi
    obtain rfl : i = p.length := by omega
    exact Ev.step (f := fun _ => some (decide ((p.length : Int) ≤ 12))) (fun k => by simp only [spec_PoolOk.l0]; rw [if_neg (by omega)]) (ev_some (decide_eq_decide.mpr ⟨fun h => ⟨poolFrom_end, by omega⟩, fun h => by omega⟩))
  | succ d ih =>
    intro i hd hi
    have h1 : i < p.length := by omega
    have i62 : i < 4611686018427387904 := by omega
    have rest := ih (i + 1) (by omega) (by omega)
    have g := getD_at h1
    refine Ev.step (f := fun k => (spec_TxOk.f p[i].f0 p[i].f1 p[i].f2 p[i].f3).bind fun t => if t = true then (if (i : Int) > 0 then (if 0 ≤ (wrap64 ((i : Int) - 1)) then (if (wrap64 ((i : Int) - 1)) < (p.length : Int) then ((spec_l4Before.f (rd_T45 p (wrap64 ((i : Int) - 1))).f0 (rd_T45 p (wrap64 ((i : Int) - 1))).f1 (rd_T45 p (wrap64 ((i : Int) - 1))).f2 (rd_T45 p (wrap64 ((i : Int) - 1))).f3 p[i].f0 p[i].f1 p[i].f2 p[i].f3).bind fun u => if u = true then spec_PoolOk.l0 k p ((i + 1 : Nat) : Int) else some false) else none) else none) else spec_PoolOk.l0 k p ((i + 1 : Nat) : Int)) else some false) (fun k => by simp only [spec_PoolOk.l0]; rw [if_pos (by omega), if_pos (by omega), rdT_nat p i h1, up1 i i62]) ?_
    refine ev_const (spec_TxOk_val _ _ _ _) ?_
    by_cases c1 : txOkS p[i]
    · refine ev_pos (decide_eq_true c1) ?_
      by_cases c2 : (i : Int) > 0
      · have h3 : i - 1 < p.length := by omega
        have g2 := getD_at h3
        refine ev_pos c2 ?_
        rw [show wrap64 ((i : Int) - 1) = ((i - 1 : Nat) : Int) by unfold wrap64; omega, rdT_nat p (i - 1) h3]
        refine ev_pos (by omega) (ev_pos (by omega) (ev_const (spec_before_val _ _) ?_))
        by_cases c3 : beforeS p[i - 1] p[i]
        · refine ev_pos (decide_eq_true c3) (ev_eq rest (decide_eq_decide.mpr ?_))
          rw [poolFrom_step h1]; unfold poolAt; rw [g, g2]
          exact ⟨fun z => ⟨⟨⟨c1, fun _ => c3⟩, z.1⟩, z.2⟩, fun z => ⟨z.1.2, z.2⟩⟩
        · refine ev_neg (fun h => c3 (of_decide_eq_true h)) (ev_some (decide_eq_false ?_).symm)
          rw [poolFrom_step h1]; unfold poolAt; rw [g, g2]
          exact fun z => c3 (z.1.1.2 (by omega))
      · refine ev_neg c2 (ev_eq rest (decide_eq_decide.mpr ?_))
        rw [poolFrom_step h1]; unfold poolAt; rw [g]
        exact ⟨fun z => ⟨⟨⟨c1, fun h => absurd h (by omega)⟩, z.1⟩, z.2⟩, fun z => ⟨z.1.2, z.2⟩⟩
    · refine ev_neg (fun h => c1 (of_decide_eq_true h)) (ev_some (decide_eq_false ?_).symm)
      rw [poolFrom_step h1]; unfold poolAt; rw [g]
      exact fun z => c1 z.1.1.1
open Classical in
theorem spec_PoolOk_ev (p : List S45) (hl : p.length ≤ 35184372088832) : Ev (fun k => spec_PoolOk.f k p) (decide (poolIs p)) := by
  unfold spec_PoolOk.f
  exact ev_eq (spec_PoolOk_loop p hl p.length 0 (by omega) (by omega)) (decide_eq_decide.mpr Iff.rfl)

theorem befB_iff (x y : S45) : befB x y = decide (beforeS x y) := by
  unfold befB beforeS
  by_cases h : x.f0 < y.f0 <;> by_cases h2 : x.f0 = y.f0 <;> by_cases h3 : x.f3 < y.f3 <;> simp [h, h2, h3]
theorem before_asymm {a b : S45} (h : beforeS a b) : ¬ beforeS b a := by
  unfold beforeS at *
  omega
theorem before_trans {a b c : S45} (h : beforeS a b) (h' : beforeS b c) : beforeS a c := by
  unfold beforeS at *
  omega
theorem pool_sorted {q : List S45} (h : poolIs q) : ∀ (d i : Nat), i + d + 1 < q.length → beforeS (q.getD i z45) (q.getD (i + d + 1) z45)
  | 0, i, hl => (h.1 (i + 1) (by omega) hl).2 (by omega)
  | d + 1, i, hl => before_trans (pool_sorted h d i (by omega)) ((h.1 (i + d + 2) (by omega) hl).2 (by omega))
def insN (l : List S45) (x : S45) (n : Nat) : List S45 := l.take n ++ x :: l.drop n
theorem insN_len (l : List S45) (x : S45) (n : Nat) (hn : n ≤ l.length) : (insN l x n).length = l.length + 1 := by
  unfold insN; simp; omega
theorem insN_lt (l : List S45) (x : S45) (n i : Nat) (hn : n ≤ l.length) (hi : i < n) : (insN l x n).getD i z45 = l.getD i z45 := by
  unfold insN
  rw [List.getD_eq_getElem?_getD, List.getD_eq_getElem?_getD, List.getElem?_append_left (by simp; omega), List.getElem?_take_of_lt hi]
theorem insN_at (l : List S45) (x : S45) (n : Nat) (hn : n ≤ l.length) : (insN l x n).getD n z45 = x := by
  unfold insN
  rw [List.getD_eq_getElem?_getD, List.getElem?_append_right (by simp; omega), List.length_take, Nat.min_eq_left hn, Nat.sub_self]
  rfl
theorem insN_gt (l : List S45) (x : S45) (n : Nat) (hn : n ≤ l.length) : (insN l x n).getD (n + 1) z45 = l.getD n z45 := by
  unfold insN
  rw [List.getD_eq_getElem?_getD, List.getD_eq_getElem?_getD, List.getElem?_append_right (by simp; omega), List.length_take, Nat.min_eq_left hn, Nat.add_sub_cancel_left, List.getElem?_cons_succ, List.getElem?_drop, Nat.add_zero]
def posT (l : List S45) (x : S45) : Nat := l.findIdx (fun y => !decide (beforeS y x))
theorem idx_eq {p : S45 → Bool} (l : List S45) (n : Nat) (hn : n ≤ l.length) (hb : ∀ i (hi : i < n), p (l.getD i z45) = false) (he : n < l.length → p (l.getD n z45) = true) : l.findIdx p = n := by
  rcases Nat.eq_or_lt_of_le hn with rfl | hlt
  · have h1 : ¬ List.findIdx p l < l.length := by
      rw [List.findIdx_lt_length]
      rintro ⟨x, hx, hp⟩
      obtain ⟨i, hi, rfl⟩ := List.getElem_of_mem hx
      have := hb i hi
      rw [getD_at hi, hp] at this
      cases this
    have := @List.findIdx_le_length _ p l
    omega
  · rw [List.findIdx_eq hlt]
    refine ⟨by rw [← getD_at hlt]; exact he hlt, fun i hi => ?_⟩
    have := hb i hi
    rw [getD_at (by omega)] at this
    exact this
theorem pool_place {l : List S45} {x : S45} {n : Nat} (hn : n ≤ l.length) (h : poolIs (insN l x n)) : firstT l x = n ∧ posT l x = n := by
  have hlt : ∀ i, i < n → beforeS (l.getD i z45) x := fun i hi => by
    have := pool_sorted h (n - i - 1) i (by rw [insN_len l x n hn]; omega)
    rw [show i + (n - i - 1) + 1 = n by omega, insN_at l x n hn, insN_lt l x n i hn hi] at this
    exact this
  have hgt : n < l.length → beforeS x (l.getD n z45) := fun hi => by
    have := pool_sorted h 0 n (by rw [insN_len l x n hn]; omega)
    rw [Nat.add_zero, insN_at l x n hn, insN_gt l x n hn] at this
    exact this
  refine ⟨idx_eq l n hn (fun i hi => ?_) (fun hi => ?_), idx_eq l n hn (fun i hi => ?_) (fun hi => ?_)⟩
  · rw [befB_iff]; exact decide_eq_false (before_asymm (hlt i hi))
  · rw [befB_iff]; exact decide_eq_true (hgt hi)
  · rw [decide_eq_true (hlt i hi)]; rfl
  · rw [decide_eq_false (before_asymm (hgt hi))]; rfl
open Classical in
noncomputable def finN (l : List S45) (x : S45) (n : Nat) : List S45 × Bool := if poolIs (insN l x n) then (insN l x n, true) else (l, false)
theorem firstT_le (l : List S45) (x : S45) : firstT l x ≤ l.length := List.findIdx_le_length
theorem posT_le (l : List S45) (x : S45) : posT l x ≤ l.length := List.findIdx_le_length
theorem fin_same (l : List S45) (x : S45) : finN l x (posT l x) = finN l x (firstT l x) := by
  by_cases h : poolIs (insN l x (firstT l x))
  · rw [(pool_place (firstT_le l x) h).2]
  · by_cases h' : poolIs (insN l x (posT l x))
    · rw [(pool_place (posT_le l x) h').1]
    · unfold finN
      rw [if_neg h, if_neg h']
noncomputable def poolAddS (l : List S45) (x : S45) : List S45 × Bool := finN l x (firstT l x)
theorem poolAddS_len (l : List S45) (x : S45) : (poolAddS l x).1.length ≤ l.length + 1 := by
  unfold poolAddS finN
  split
  · rw [insN_len l x _ (firstT_le l x)]
    exact Nat.le_refl _
  · show l.length ≤ _; omega
open Classical in
theorem spec_PoolAdd_end (l : List S45) (x : S45) (n : Nat) (hl : l.length ≤ 1099511627776) (hn : n ≤ l.length) : Ev (fun k => (spec_PoolOk.f k (insN l x n)).bind fun t => if t = true then some (insN l x n, true) else some (l, false)) (finN l x n) := by
  refine Ev.bind (spec_PoolOk_ev _ (by rw [insN_len l x n hn]; omega)) ?_
  unfold finN
  by_cases h : poolIs (insN l x n)
  · rw [if_pos h]
    exact ev_pos (decide_eq_true h) (ev_some rfl)
  · rw [if_neg h]
    exact ev_neg (fun z => h (of_decide_eq_true z)) (ev_some rfl)
theorem spec_PoolAdd_loop (l : List S45) (x : S45) (hl : l.length ≤ 1099511627776) : ∀ (d n : Nat), l.length - n = d → n ≤ l.length → (∀ i, i < n → beforeS (l.getD i z45) x) → Ev (fun k => spec_PoolAdd.l0 k l (n : Int) x.f0 x.f1 x.f2 x.f3) (finN l x (posT l x)) := by
  intro d
  have hc : ([] : List S45).length + l.length < 4398046511104 := by simp; omega
  have hx : (⟨x.f0, x.f1, x.f2, x.f3⟩ : S45) = x := rfl
  induction d with
  | zero =>
    intro n hd hn hb
    obtain rfl : n = l.length := by omega
    have e : posT l x = l.length := idx_eq l _ hn (fun i hi => by rw [decide_eq_true (hb i hi)]; rfl) (fun h => by omega)
    rw [e]
    refine Ev.step (f := fun k => (spec_PoolOk.f k (insN l x l.length)).bind fun t => if t = true then some (insN l x l.length, true) else some (l, false)) (fun k => ?_) (spec_PoolAdd_end l x _ hl hn)
    simp only [spec_PoolAdd.l0]
    rw [if_neg (by omega)]
    simp only [Option.bind_some, Int.toNat_natCast, hx, if_pos hc, List.nil_append]
    rw [if_pos (by omega), if_pos (by omega), if_pos (by simp; omega), if_pos (by simp; omega), if_pos (by simp; omega)]
    rw [List.append_assoc, List.singleton_append]
    rfl
  | succ d ih =>
    intro n hd hn hb
    have h1 : n < l.length := by omega
    by_cases hc2 : beforeS (l.getD n z45) x
    · refine Ev.step (f := fun k => spec_PoolAdd.l0 k l ((n + 1 : Nat) : Int) x.f0 x.f1 x.f2 x.f3) (fun k => ?_) (ih (n + 1) (by omega) (by omega) (fun i hi => ?_))
      · simp only [spec_PoolAdd.l0]
        rw [if_pos (by omega), if_pos (by omega), rdT_nat l n h1, spec_before_val, Option.bind_some, if_pos (by rw [getD_at h1] at hc2; exact decide_eq_true hc2), up1 n (by omega)]
      · rcases Nat.lt_or_ge i n with h | h
        · exact hb i h
        · obtain rfl : i = n := by omega
          exact hc2
    · have e : posT l x = n := idx_eq l n hn (fun i hi => by rw [decide_eq_true (hb i hi)]; rfl) (fun _ => by rw [decide_eq_false hc2]; rfl)
      rw [e]
      refine Ev.step (f := fun k => (spec_PoolOk.f k (insN l x n)).bind fun t => if t = true then some (insN l x n, true) else some (l, false)) (fun k => ?_) (spec_PoolAdd_end l x _ hl hn)
      simp only [spec_PoolAdd.l0]
      rw [if_pos (by omega), if_pos (by omega), rdT_nat l n h1, spec_before_val, Option.bind_some, if_neg (by rw [getD_at h1] at hc2; exact fun z => hc2 (of_decide_eq_true z))]
      simp only [Option.bind_some, Int.toNat_natCast, hx, if_pos hc, List.nil_append]
      rw [if_pos (by omega), if_pos (by simp; omega), if_pos (by simp; omega), if_pos (by simp; omega)]
      rw [List.append_assoc, List.singleton_append]
      rfl
theorem spec_PoolAdd_ev (l : List S45) (x : S45) (hl : l.length ≤ 1099511627776) : Ev (fun k => spec_PoolAdd.f k l x.f0 x.f1 x.f2 x.f3) (poolAddS l x) := by
  unfold spec_PoolAdd.f poolAddS
  rw [← fin_same]
  exact spec_PoolAdd_loop l x hl l.length 0 (by omega) (by omega) (fun i hi => absurd hi (by omega))

theorem impl_within_val (a b c : Int) : impl_within.f a b c = some (decide (b ≤ a ∧ a ≤ c)) := by
  unfold impl_within.f
  by_cases h : a ≥ b <;> by_cases h2 : a ≤ c <;> simp [h, h2] <;> omega

theorem impl_TxOk_val (f t a n : Int) : impl_TxOk.f f t a n = some (decide (txIs f t a n)) := by
  unfold impl_TxOk.f txIs
  simp only [impl_within_val, Option.bind_some, decide_eq_true_eq]
  by_cases h1 : 0 ≤ f ∧ f ≤ 3 <;> by_cases h2 : 0 ≤ t ∧ t ≤ 3 <;> by_cases h3 : 0 ≤ a ∧ a ≤ 1000 <;> simp only [h1, h2, h3, if_true, if_false, true_and, false_and, and_false, and_self, decide_false]

theorem impl_before_val (x y : S45) : impl_beforeTx.f x.f0 x.f1 x.f2 x.f3 y.f0 y.f1 y.f2 y.f3 = some (decide (beforeS x y)) := by
  unfold impl_beforeTx.f beforeS
  by_cases h : x.f0 < y.f0
  · rw [if_pos h]; simp [h]
  · rw [if_neg h]
    by_cases h2 : x.f0 = y.f0
    · rw [if_pos h2]; simp [h2]
    · rw [if_neg h2]; simp [h, h2]

open Classical in
theorem impl_PoolOk_loop (p : List S45) (hl : p.length ≤ 35184372088832) : ∀ (d i : Nat), p.length - i = d → i ≤ p.length → Ev (fun k => impl_PoolOk.l0 k p p (p.length : Int) (i : Int)) (decide (poolFrom p i ∧ p.length ≤ 12)) := by
  intro d
  induction d with
  | zero =>
    intro i hd hi
    obtain rfl : i = p.length := by omega
    exact Ev.step (f := fun _ => some (decide ((p.length : Int) ≤ 12))) (fun k => by simp only [impl_PoolOk.l0]; rw [if_neg (by omega)]) (ev_some (decide_eq_decide.mpr ⟨fun h => ⟨poolFrom_end, by omega⟩, fun h => by omega⟩))
  | succ d ih =>
    intro i hd hi
    have h1 : i < p.length := by omega
    have i62 : i < 4611686018427387904 := by omega
    have rest := ih (i + 1) (by omega) (by omega)
    have g := getD_at h1
    refine Ev.step (f := fun k => (impl_TxOk.f p[i].f0 p[i].f1 p[i].f2 p[i].f3).bind fun t => if t = true then (if (i : Int) > 0 then (if 0 ≤ (wrap64 ((i : Int) - 1)) then (if (wrap64 ((i : Int) - 1)) < (p.length : Int) then ((impl_beforeTx.f (rd_T45 p (wrap64 ((i : Int) - 1))).f0 (rd_T45 p (wrap64 ((i : Int) - 1))).f1 (rd_T45 p (wrap64 ((i : Int) - 1))).f2 (rd_T45 p (wrap64 ((i : Int) - 1))).f3 p[i].f0 p[i].f1 p[i].f2 p[i].f3).bind fun u => if u = true then impl_PoolOk.l0 k p p (p.length : Int) ((i + 1 : Nat) : Int) else some false) else none) else none) else impl_PoolOk.l0 k p p (p.length : Int) ((i + 1 : Nat) : Int)) else some false) (fun k => by simp only [impl_PoolOk.l0]; rw [if_pos (by omega), if_pos (by omega), if_pos (by omega), rdT_nat p i h1, up1 i i62]) ?_
    refine ev_const (impl_TxOk_val _ _ _ _) ?_
    by_cases c1 : txOkS p[i]
    · refine ev_pos (decide_eq_true c1) ?_
      by_cases c2 : (i : Int) > 0
      · have h3 : i - 1 < p.length := by omega
        have g2 := getD_at h3
        refine ev_pos c2 ?_
        rw [show wrap64 ((i : Int) - 1) = ((i - 1 : Nat) : Int) by unfold wrap64; omega, rdT_nat p (i - 1) h3]
        refine ev_pos (by omega) (ev_pos (by omega) (ev_const (impl_before_val _ _) ?_))
        by_cases c3 : beforeS p[i - 1] p[i]
        · refine ev_pos (decide_eq_true c3) (ev_eq rest (decide_eq_decide.mpr ?_))
          rw [poolFrom_step h1]; unfold poolAt; rw [g, g2]
          exact ⟨fun z => ⟨⟨⟨c1, fun _ => c3⟩, z.1⟩, z.2⟩, fun z => ⟨z.1.2, z.2⟩⟩
        · refine ev_neg (fun h => c3 (of_decide_eq_true h)) (ev_some (decide_eq_false ?_).symm)
          rw [poolFrom_step h1]; unfold poolAt; rw [g, g2]
          exact fun z => c3 (z.1.1.2 (by omega))
      · refine ev_neg c2 (ev_eq rest (decide_eq_decide.mpr ?_))
        rw [poolFrom_step h1]; unfold poolAt; rw [g]
        exact ⟨fun z => ⟨⟨⟨c1, fun h => absurd h (by omega)⟩, z.1⟩, z.2⟩, fun z => ⟨z.1.2, z.2⟩⟩
    · refine ev_neg (fun h => c1 (of_decide_eq_true h)) (ev_some (decide_eq_false ?_).symm)
      rw [poolFrom_step h1]; unfold poolAt; rw [g]
      exact fun z => c1 z.1.1.1
open Classical in
theorem impl_PoolOk_ev (p : List S45) (hl : p.length ≤ 35184372088832) : Ev (fun k => impl_PoolOk.f k p) (decide (poolIs p)) := by
  unfold impl_PoolOk.f
  exact ev_eq (impl_PoolOk_loop p hl p.length 0 (by omega) (by omega)) (decide_eq_decide.mpr Iff.rfl)

open Classical in
theorem impl_PoolAdd_ev (l : List S45) (x : S45) (hl : l.length ≤ 1099511627776) : Ev (fun k => impl_PoolAdd.f k l x.f0 x.f1 x.f2 x.f3) (poolAddS l x) := by
  unfold impl_PoolAdd.f poolAddS
  refine ev_pos (by omega) ?_
  have hx : insT l (⟨x.f0, x.f1, x.f2, x.f3⟩ : S45) = insN l x (firstT l x) := rfl
  rw [hx]
  refine Ev.bind (impl_PoolOk_ev _ (by rw [insN_len l x _ (firstT_le l x)]; omega)) ?_
  unfold finN
  by_cases h : poolIs (insN l x (firstT l x))
  · rw [if_pos h]
    exact ev_pos (decide_eq_true h) (ev_some rfl)
  · rw [if_neg h]
    exact ev_neg (fun z => h (of_decide_eq_true z)) (ev_some rfl)

theorem FnExactPoolAdd (p : List S50) (a b c d : Int) (hm : p.length ≤ maxLen) (hw : ∀ x ∈ p, Go.Proofs.Ytajblkfgdalldaa.RowKit.Fit4 (x.f0, x.f1, x.f2, x.f3)) (wa : (Lit.int .i64 a).wf = true) (wb : (Lit.int .i64 b).wf = true) (wc : (Lit.int .i64 c).wf = true) (wd : (Lit.int .i64 d).wf = true) : ∃ k, laws_FnExactPoolAdd.f k p a b c d = some true := by
  refine Ev.rounds ?_
  unfold laws_FnExactPoolAdd.f
  refine ev_const (szTxS_val p _ hm (by omega) (by omega)) ?_
  by_cases h : (1048576 : Int) < p.length
  · rw [if_pos h]; exact ev_pos (by omega) (ev_some rfl)
  rw [if_neg h]
  refine ev_neg (by omega) ?_
  have b1 : p.length ≤ 8796093022208 := by omega
  have b2 : (p.map toI).length ≤ 1048576 := by rw [List.length_map]; omega
  have e1 := spec_PoolAdd_ev (p.map toI) ⟨a, b, c, d⟩ (by omega)
  have e2 := impl_PoolAdd_ev (p.map toI) ⟨a, b, c, d⟩ (by omega)
  have hlen := poolAddS_len (p.map toI) ⟨a, b, c, d⟩
  have hto : laws_toTx.f a b c d = some (a, b, c, d) := by unfold laws_toTx.f; rfl
  generalize poolAddS (p.map toI) ⟨a, b, c, d⟩ = r at e1 e2 hlen
  obtain ⟨xs, t⟩ := r
  simp only at hlen e1 e2
  have b3 : xs.length ≤ 35184372088832 := by omega
  have hh := heldTxS_ev 1 xs.length (by omega) (by omega)
  have j2 : Ev (fun k => laws_FnExactPoolAdd.j2 k (marksT 1 xs.length) (1 + 4 * (xs.length : Int)) (t != t)) true := by
    refine ev_up ?_
    simp only [laws_FnExactPoolAdd.j2]
    refine ev_neg (by simp) ?_
    exact Ev.bind hh (ev_neg (by omega) (ev_pos rfl (ev_some rfl)))
  have j1 : Ev (fun k => laws_FnExactPoolAdd.j1 k p xs t xs (t != t) a b c d) true := by
    refine ev_up ?_
    simp only [laws_FnExactPoolAdd.j1]
    refine ev_neg (by simp) ?_
    refine Ev.bind (markTxS_ev xs 1 (by omega) (by omega)) (Ev.bind hh ?_)
    refine ev_neg (by first | omega | (simp only; omega)) (ev_pos rfl ?_)
    refine Ev.bind (toTxS_ev p b1) (ev_const hto (Ev.bind e2 (Ev.bind (eqTxS_refl xs b3) (ev_pos rfl ?_))))
    exact j2
  have j0 : Ev (fun k => laws_FnExactPoolAdd.j0 k p xs t (p.map toI) xs t (t != t) a b c d) true := by
    refine ev_up ?_
    simp only [laws_FnExactPoolAdd.j0]
    refine ev_neg (by simp) ?_
    refine Ev.bind (toTxS_ev p b1) (Ev.bind (eqTxS_refl _ (by omega)) (ev_pos rfl ?_))
    refine Ev.bind (markTxS_ev (p.map toI) 1 (by omega) (by omega)) (ev_neg (by omega) ?_)
    exact Ev.bind (eqTxS_refl xs b3) (ev_pos rfl j1)
  refine Ev.bind (toTxS_ev p b1) (ev_const hto (Ev.bind e1 ?_))
  refine Ev.bind (toTxS_ev p b1) (ev_const hto (Ev.bind e2 (Ev.bind (eqTxS_refl xs b3) (ev_pos rfl ?_))))
  exact j0
end
end Go.Proofs.Ytajblkfgdalldaa.Pure
