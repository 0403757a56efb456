/- For every list of payments the program's PoolOk tells what the reference tells, and the list stays as it was; no condition. -/
import Derived.Test.YtajblkfgdalldaaRowKit
import Derived.Test.YtajblkfgdalldaaPFnExactPoolOkx1
import Derived.Test.YtajblkfgdalldaaPFnExactPoolOkx2
import Derived.Test.YtajblkfgdalldaaPFnExactPoolOkx3
import Derived.Test.YtajblkfgdalldaaPFnExactPoolOkx4
import Derived.Test.YtajblkfgdalldaaPFnExactPoolOkx5
namespace Go.Proofs.Ytajblkfgdalldaa.Pure
open Go.RowKit Go.Proofs.Ytajblkfgdalldaa.PFnExactPoolOk Go.Proofs.YtajblkfgdalldaaW.PrintWords Go.Proofs.YtajblkfgdalldaaW.PrintLast

section
set_option linter.unusedVariables false
set_option linter.unusedSimpArgs false
theorem up1 (n : Nat) (h : n < 4611686018427387904) : wrap64 ((n : Int) + 1) = ((n + 1 : Nat) : Int) := by
  unfold wrap64; omega
theorem up1' (a : Int) (h0 : -4611686018427387904 ≤ a) (h : a < 4611686018427387904) : wrap64 (a + 1) = a + 1 := by
  unfold wrap64; omega
theorem dn1 (a : Int) (h0 : -4611686018427387904 ≤ a) (h : a < 4611686018427387904) : wrap64 (a - 1) = a - 1 := by
  unfold wrap64; omega
theorem wrapI (a : Int) (h0 : -4611686018427387904 ≤ a) (h : a < 4611686018427387904) : wrap64 a = a := by
  unfold wrap64; omega
theorem rd_nat (xs : List Int) (n : Nat) (h : n < xs.length) : rd xs (n : Int) = xs[n] := by
  unfold rd; simp [List.getD_eq_getElem?_getD, h]
theorem ev_eq {α : Type} {g : Nat → Option α} {r s : α} (h : Ev g r) (e : r = s) : Ev g s := e ▸ h
theorem ev_ite {α : Type} {c : Prop} [Decidable c] {g f : Nat → Option α} {r s : α} (hg : c → Ev g r) (hf : ¬ c → Ev f s) : Ev (fun k => if c then g k else f k) (if c then r else s) := by
  by_cases h : c
  · simp only [if_pos h]; exact hg h
  · simp only [if_neg h]; exact hf h
theorem ev_pos {α : Type} {c : Prop} [Decidable c] {g f : Nat → Option α} {r : α} (h : c) (hg : Ev g r) : Ev (fun k => if c then g k else f k) r := by
  simp only [if_pos h]; exact hg
theorem ev_neg {α : Type} {c : Prop} [Decidable c] {g f : Nat → Option α} {r : α} (h : ¬ c) (hf : Ev f r) : Ev (fun k => if c then g k else f k) r := by
  simp only [if_neg h]; exact hf
theorem ev_some {α : Type} {r s : α} (e : r = s) : Ev (fun _ => some r) s := e ▸ Ev.now r
theorem ev_const {α β : Type} {o : Option α} {f : Nat → α → Option β} {a : α} {r : β} (h : o = some a) (k : Ev (fun n => f n a) r) : Ev (fun n => o.bind (f n)) r := by
  subst h; exact k
theorem ev_up {α : Type} {g : Nat → Option α} {r : α} (h : Ev (fun k => g (k + 1)) r) : Ev g r := by
  obtain ⟨K, hK⟩ := h
  refine ⟨K + 1, fun k hk => ?_⟩
  obtain ⟨m, rfl⟩ : ∃ m, k = m + 1 := ⟨k - 1, by omega⟩
  exact hK m (by omega)
theorem wNat (c : Nat) (h : c < 4611686018427387904) : wrap64 (c : Int) = (c : Int) := by unfold wrap64; omega
theorem wAdd (a i : Nat) (h : a + i < 4611686018427387904) : wrap64 ((a : Int) + (i : Int)) = ((a + i : Nat) : Int) := by unfold wrap64; omega
theorem wAdd1 (a i : Nat) (h : a + i < 4611686018427387904) : wrap64 (((a + i : Nat) : Int) + 1) = (a : Int) + ((i + 1 : Nat) : Int) := by unfold wrap64; omega
theorem wSub (a i : Nat) (h : a < 4611686018427387904) (h' : i < 4611686018427387904) : wrap64 ((a : Int) - (i : Int)) = (a : Int) - (i : Int) := by unfold wrap64; omega
theorem tmod128 (c : Nat) : Int.tmod (c : Int) 128 = ((c % 128 : Nat) : Int) := by rw [Int.tmod_eq_emod_of_nonneg (by omega)]; omega
theorem all_drop {α : Type} {P : α → Prop} {l : List α} {i : Nat} (h : i < l.length) : (∀ x ∈ l.drop i, P x) ↔ P l[i] ∧ ∀ x ∈ l.drop (i + 1), P x := by
  rw [List.drop_eq_getElem_cons h, List.forall_mem_cons]

theorem szTxS_val (l : List S50) (a : Int) (hm : l.length ≤ maxLen) (h0 : 0 ≤ a) (h1 : a ≤ 1048576) : laws_szTxS.f l a = some (if a < l.length then -1 else a - l.length) := by
  unfold maxLen at hm
  have e : wrap64 (a - (l.length : Int)) = a - l.length := by unfold wrap64; omega
  unfold laws_szTxS.f
  rw [e]
  by_cases h : a < l.length
  · rw [if_pos (by omega), if_pos h]
  · rw [if_neg (by omega), if_neg h]

theorem spec_l1In_val (a b c : Int) : spec_l1In.f a b c = some (decide (b ≤ a ∧ a ≤ c)) := by
  unfold spec_l1In.f
  by_cases h : a ≥ b <;> by_cases h2 : a ≤ c <;> simp [h, h2] <;> omega

def txIs (f t a n : Int) : Prop := (0 ≤ f ∧ f ≤ 3) ∧ (0 ≤ t ∧ t ≤ 3) ∧ (0 ≤ a ∧ a ≤ 1000) ∧ 0 ≤ n ∧ n ≤ 99
instance (f t a n : Int) : Decidable (txIs f t a n) := by unfold txIs; infer_instance
theorem spec_TxOk_val (f t a n : Int) : spec_TxOk.f f t a n = some (decide (txIs f t a n)) := by
  unfold spec_TxOk.f txIs
  simp only [spec_l1In_val, Option.bind_some, decide_eq_true_eq]
  by_cases h1 : 0 ≤ f ∧ f ≤ 3 <;> by_cases h2 : 0 ≤ t ∧ t ≤ 3 <;> by_cases h3 : 0 ≤ a ∧ a ≤ 1000 <;> simp only [h1, h2, h3, if_true, if_false, true_and, false_and, and_false, and_self, decide_false]

def txOkS (x : S45) : Prop := txIs x.f0 x.f1 x.f2 x.f3
instance (x : S45) : Decidable (txOkS x) := by unfold txOkS; infer_instance
theorem rdT_nat (xs : List S45) (n : Nat) (h : n < xs.length) : rd_T45 xs (n : Int) = xs[n] := by
  unfold rd_T45; simp [List.getD_eq_getElem?_getD, h]
def beforeS (a b : S45) : Prop := a.f0 < b.f0 ∨ (a.f0 = b.f0 ∧ a.f3 < b.f3)
instance (a b : S45) : Decidable (beforeS a b) := by unfold beforeS; infer_instance
def poolAt (p : List S45) (j : Nat) : Prop := txOkS (p.getD j z45) ∧ (0 < j → beforeS (p.getD (j - 1) z45) (p.getD j z45))
def poolFrom (p : List S45) (i : Nat) : Prop := ∀ j, i ≤ j → j < p.length → poolAt p j
def poolIs (p : List S45) : Prop := poolFrom p 0 ∧ p.length ≤ 12
theorem poolFrom_step {p : List S45} {i : Nat} (h : i < p.length) : poolFrom p i ↔ poolAt p i ∧ poolFrom p (i + 1) := by
  refine ⟨fun H => ⟨H i (Nat.le_refl _) h, fun j hj => H j (by omega)⟩, fun H j hj hl => ?_⟩
  rcases Nat.eq_or_lt_of_le hj with rfl | hj
  · exact H.1
  · exact H.2 j (by omega) hl
theorem poolFrom_end {p : List S45} : poolFrom p p.length := fun j h1 h2 => absurd h2 (by omega)
theorem getD_at {p : List S45} {i : Nat} (h : i < p.length) : p.getD i z45 = p[i] := by simp [List.getD_eq_getElem?_getD, h]
theorem spec_before_val (x y : S45) : spec_l4Before.f x.f0 x.f1 x.f2 x.f3 y.f0 y.f1 y.f2 y.f3 = some (decide (beforeS x y)) := by
  unfold spec_l4Before.f beforeS
  by_cases h : x.f0 < y.f0
  · rw [if_pos h]; simp [h]
  · rw [if_neg h]
    by_cases h2 : x.f0 = y.f0
    · rw [if_pos h2]; simp [h2]
    · rw [if_neg h2]; simp [h, h2]

open Classical in
theorem spec_PoolOk_loop (p : List S45) (hl : p.length ≤ 35184372088832) : ∀ (d i : Nat), p.length - i = d → i ≤ p.length → Ev (fun k => spec_PoolOk.l0 k p (i : Int)) (decide (poolFrom p i ∧ p.length ≤ 12)) := by
  intro d
  induction d with
  | zero =>
    intro i hd hi
    obtain rfl : i = p.length := by omega
    exact Ev.step (f := fun _ => some (decide ((p.length : Int) ≤ 12))) (fun k => by simp only [spec_PoolOk.l0]; rw [if_neg (by omega)]) (ev_some (decide_eq_decide.mpr ⟨fun h => ⟨poolFrom_end, by omega⟩, fun h => by omega⟩))
  | succ d ih =>
    intro i hd hi
    have h1 : i < p.length := by omega
    have i62 : i < 4611686018427387904 := by omega
    have rest := ih (i + 1) (by omega) (by omega)
    have g := getD_at h1
    refine Ev.step (f := fun k => (spec_TxOk.f p[i].f0 p[i].f1 p[i].f2 p[i].f3).bind fun t => if t = true then (if (i : Int) > 0 then (if 0 ≤ (wrap64 ((i : Int) - 1)) then (if (wrap64 ((i : Int) - 1)) < (p.length : Int) then ((spec_l4Before.f (rd_T45 p (wrap64 ((i : Int) - 1))).f0 (rd_T45 p (wrap64 ((i : Int) - 1))).f1 (rd_T45 p (wrap64 ((i : Int) - 1))).f2 (rd_T45 p (wrap64 ((i : Int) - 1))).f3 p[i].f0 p[i].f1 p[i].f2 p[i].f3).bind fun u => if u = true then spec_PoolOk.l0 k p ((i + 1 : Nat) : Int) else some false) else none) else none) else spec_PoolOk.l0 k p ((i + 1 : Nat) : Int)) else some false) (fun k => by simp only [spec_PoolOk.l0]; rw [if_pos (by omega), if_pos (by omega), rdT_nat p i h1, up1 i i62]) ?_
    refine ev_const (spec_TxOk_val _ _ _ _) ?_
    by_cases c1 : txOkS p[i]
    · refine ev_pos (decide_eq_true c1) ?_
      by_cases c2 : (i : Int) > 0
      · have h3 : i - 1 < p.length := by omega
        have g2 := getD_at h3
        refine ev_pos c2 ?_
        rw [show wrap64 ((i : Int) - 1) = ((i - 1 : Nat) : Int) by unfold wrap64; omega, rdT_nat p (i - 1) h3]
        refine ev_pos (by omega) (ev_pos (by omega) (ev_const (spec_before_val _ _) ?_))
        by_cases c3 : beforeS p[i - 1] p[i]
        · refine ev_pos (decide_eq_true c3) (ev_eq rest (decide_eq_decide.mpr ?_))
          rw [poolFrom_step h1]; unfold poolAt; rw [g, g2]
          exact ⟨fun z => ⟨⟨⟨c1, fun _ => c3⟩, z.1⟩, z.2⟩, fun z => ⟨z.1.2, z.2⟩⟩
        · refine ev_neg (fun h => c3 (of_decide_eq_true h)) (ev_some (decide_eq_false ?_).symm)
          rw [poolFrom_step h1]; unfold poolAt; rw [g, g2]
          exact fun z => c3 (z.1.1.2 (by omega))
      · refine ev_neg c2 (ev_eq rest (decide_eq_decide.mpr ?_))
        rw [poolFrom_step h1]; unfold poolAt; rw [g]
        exact ⟨fun z => ⟨⟨⟨c1, fun h => absurd h (by omega)⟩, z.1⟩, z.2⟩, fun z => ⟨z.1.2, z.2⟩⟩
    · refine ev_neg (fun h => c1 (of_decide_eq_true h)) (ev_some (decide_eq_false ?_).symm)
      rw [poolFrom_step h1]; unfold poolAt; rw [g]
      exact fun z => c1 z.1.1.1
open Classical in
theorem spec_PoolOk_ev (p : List S45) (hl : p.length ≤ 35184372088832) : Ev (fun k => spec_PoolOk.f k p) (decide (poolIs p)) := by
  unfold spec_PoolOk.f
  exact ev_eq (spec_PoolOk_loop p hl p.length 0 (by omega) (by omega)) (decide_eq_decide.mpr Iff.rfl)

def toI (x : S50) : S45 := ⟨x.f0, x.f1, x.f2, x.f3⟩
theorem rdJ_nat (xs : List S50) (n : Nat) (h : n < xs.length) : rd_T50 xs (n : Int) = xs[n] := by
  unfold rd_T50; simp [List.getD_eq_getElem?_getD, h]
theorem toTxS_loop (l : List S50) (hl : l.length ≤ 8796093022208) : ∀ (d n : Nat) (x : List S45), l.length - n = d → n ≤ l.length → x.length = l.length → x.take n = (l.map toI).take n → Ev (fun k => laws_toTxS.l0 k l x (n : Int)) (l.map toI) := by
  intro d
  induction d with
  | zero =>
    intro n x hd hn hx ht
    obtain rfl : n = l.length := by omega
    refine Ev.step (f := fun _ => some x) (fun k => by simp only [laws_toTxS.l0]; rw [if_neg (by omega)]) (ev_some ?_)
    rw [List.take_of_length_le (by omega), List.take_of_length_le (by simp)] at ht
    exact ht
  | succ d ih =>
    intro n x hd hn hx ht
    have h1 : n < l.length := by omega
    refine Ev.step (f := fun k => laws_toTxS.l0 k l (x.set n (toI l[n])) ((n + 1 : Nat) : Int)) (fun k => ?_) (ih (n + 1) (x.set n (toI l[n])) (by omega) (by omega) (by simpa using hx) ?_)
    · simp only [laws_toTxS.l0]
      rw [if_pos (by omega), if_pos (by omega), rdJ_nat l n h1]
      simp only [laws_toTx.f, Option.bind_some]
      rw [if_pos (by omega), up1 n (by omega)]
      rfl
    · rw [List.take_succ_eq_append_getElem (by simpa [hx] using h1), List.take_succ_eq_append_getElem (by simpa using h1)]
      simp only [List.take_set_of_le (Nat.le_refl n), ht, List.getElem_set_self, List.getElem_map]
theorem toTxS_ev (l : List S50) (hl : l.length ≤ 8796093022208) : Ev (fun k => laws_toTxS.f k l) (l.map toI) := by
  unfold laws_toTxS.f
  refine ev_pos (by omega) (ev_pos (by simpa using hl) ?_)
  exact toTxS_loop l hl l.length 0 _ (by omega) (by omega) (by simp) (by simp)

theorem impl_within_val (a b c : Int) : impl_within.f a b c = some (decide (b ≤ a ∧ a ≤ c)) := by
  unfold impl_within.f
  by_cases h : a ≥ b <;> by_cases h2 : a ≤ c <;> simp [h, h2] <;> omega

theorem impl_TxOk_val (f t a n : Int) : impl_TxOk.f f t a n = some (decide (txIs f t a n)) := by
  unfold impl_TxOk.f txIs
  simp only [impl_within_val, Option.bind_some, decide_eq_true_eq]
  by_cases h1 : 0 ≤ f ∧ f ≤ 3 <;> by_cases h2 : 0 ≤ t ∧ t ≤ 3 <;> by_cases h3 : 0 ≤ a ∧ a ≤ 1000 <;> simp only [h1, h2, h3, if_true, if_false, true_and, false_and, and_false, and_self, decide_false]

theorem impl_before_val (x y : S45) : impl_beforeTx.f x.f0 x.f1 x.f2 x.f3 y.f0 y.f1 y.f2 y.f3 = some (decide (beforeS x y)) := by
  unfold impl_beforeTx.f beforeS
  by_cases h : x.f0 < y.f0
  · rw [if_pos h]; simp [h]
  · rw [if_neg h]
    by_cases h2 : x.f0 = y.f0
    · rw [if_pos h2]; simp [h2]
    · rw [if_neg h2]; simp [h, h2]

open Classical in
theorem impl_PoolOk_loop (p : List S45) (hl : p.length ≤ 35184372088832) : ∀ (d i : Nat), p.length - i = d → i ≤ p.length → Ev (fun k => impl_PoolOk.l0 k p p (p.length : Int) (i : Int)) (decide (poolFrom p i ∧ p.length ≤ 12)) := by
  intro d
  induction d with
  | zero =>
    intro i hd hi
    obtain rfl : i = p.length := by omega
    exact Ev.step (f := fun _ => some (decide ((p.length : Int) ≤ 12))) (fun k => by simp only [impl_PoolOk.l0]; rw [if_neg (by omega)]) (ev_some (decide_eq_decide.mpr ⟨fun h => ⟨poolFrom_end, by omega⟩, fun h => by omega⟩))
  | succ d ih =>
    intro i hd hi
    have h1 : i < p.length := by omega
    have i62 : i < 4611686018427387904 := by omega
    have rest := ih (i + 1) (by omega) (by omega)
    have g := getD_at h1
    refine Ev.step (f := fun k => (impl_TxOk.f p[i].f0 p[i].f1 p[i].f2 p[i].f3).bind fun t => if t = true then (if (i : Int) > 0 then (if 0 ≤ (wrap64 ((i : Int) - 1)) then (if (wrap64 ((i : Int) - 1)) < (p.length : Int) then ((impl_beforeTx.f (rd_T45 p (wrap64 ((i : Int) - 1))).f0 (rd_T45 p (wrap64 ((i : Int) - 1))).f1 (rd_T45 p (wrap64 ((i : Int) - 1))).f2 (rd_T45 p (wrap64 ((i : Int) - 1))).f3 p[i].f0 p[i].f1 p[i].f2 p[i].f3).bind fun u => if u = true then impl_PoolOk.l0 k p p (p.length : Int) ((i + 1 : Nat) : Int) else some false) else none) else none) else impl_PoolOk.l0 k p p (p.length : Int) ((i + 1 : Nat) : Int)) else some false) (fun k => by simp only [impl_PoolOk.l0]; rw [if_pos (by omega), if_pos (by omega), if_pos (by omega), rdT_nat p i h1, up1 i i62]) ?_
    refine ev_const (impl_TxOk_val _ _ _ _) ?_
    by_cases c1 : txOkS p[i]
    · refine ev_pos (decide_eq_true c1) ?_
      by_cases c2 : (i : Int) > 0
      · have h3 : i - 1 < p.length := by omega
        have g2 := getD_at h3
        refine ev_pos c2 ?_
        rw [show wrap64 ((i : Int) - 1) = ((i - 1 : Nat) : Int) by unfold wrap64; omega, rdT_nat p (i - 1) h3]
        refine ev_pos (by omega) (ev_pos (by omega) (ev_const (impl_before_val _ _) ?_))
        by_cases c3 : beforeS p[i - 1] p[i]
        · refine ev_pos (decide_eq_true c3) (ev_eq rest (decide_eq_decide.mpr ?_))
          rw [poolFrom_step h1]; unfold poolAt; rw [g, g2]
          exact ⟨fun z => ⟨⟨⟨c1, fun _ => c3⟩, z.1⟩, z.2⟩, fun z => ⟨z.1.2, z.2⟩⟩
        · refine ev_neg (fun h => c3 (of_decide_eq_true h)) (ev_some (decide_eq_false ?_).symm)
          rw [poolFrom_step h1]; unfold poolAt; rw [g, g2]
          exact fun z => c3 (z.1.1.2 (by omega))
      · refine ev_neg c2 (ev_eq rest (decide_eq_decide.mpr ?_))
        rw [poolFrom_step h1]; unfold poolAt; rw [g]
        exact ⟨fun z => ⟨⟨⟨c1, fun h => absurd h (by omega)⟩, z.1⟩, z.2⟩, fun z => ⟨z.1.2, z.2⟩⟩
    · refine ev_neg (fun h => c1 (of_decide_eq_true h)) (ev_some (decide_eq_false ?_).symm)
      rw [poolFrom_step h1]; unfold poolAt; rw [g]
      exact fun z => c1 z.1.1.1
open Classical in
theorem impl_PoolOk_ev (p : List S45) (hl : p.length ≤ 35184372088832) : Ev (fun k => impl_PoolOk.f k p) (decide (poolIs p)) := by
  unfold impl_PoolOk.f
  exact ev_eq (impl_PoolOk_loop p hl p.length 0 (by omega) (by omega)) (decide_eq_decide.mpr Iff.rfl)

theorem eqTxS_refl (l : List S45) (hl : l.length ≤ 35184372088832) : Ev (fun k => laws_eqTxS.f k l l) true := by
  unfold laws_eqTxS.f
  refine ev_pos rfl ?_
  have loop : ∀ (d n : Nat), l.length - n = d → n ≤ l.length → Ev (fun k => laws_eqTxS.l0 k l l (n : Int)) true := by
    intro d
    induction d with
    | zero =>
      intro n hd hn
      exact Ev.step (f := fun _ => some true) (fun k => by simp only [laws_eqTxS.l0]; rw [if_neg (by omega)]) (ev_some rfl)
    | succ d ih =>
      intro n hd hn
      have h1 : n < l.length := by omega
      refine Ev.step (f := fun k => laws_eqTxS.l0 k l l ((n + 1 : Nat) : Int)) (fun k => ?_) (ih (n + 1) (by omega) (by omega))
      simp only [laws_eqTxS.l0]
      rw [if_pos (by omega), if_pos (by omega), if_pos (by omega), up1 n (by omega)]
      simp [laws_eqTx.f]
  exact loop l.length 0 (by omega) (by omega)

theorem FnExactPoolOk (p : List S50) (hm : p.length ≤ maxLen) (hw : ∀ x ∈ p, Go.Proofs.Ytajblkfgdalldaa.RowKit.Fit4 (x.f0, x.f1, x.f2, x.f3)) : ∃ k, laws_FnExactPoolOk.f k p = some true := by
  refine Ev.rounds ?_
  unfold laws_FnExactPoolOk.f
  refine ev_const (szTxS_val p _ hm (by omega) (by omega)) ?_
  by_cases c : (1048576 : Int) < p.length
  · rw [if_pos c]; exact ev_pos (by omega) (ev_some rfl)
  rw [if_neg c]
  refine ev_neg (by omega) ?_
  have b1 : p.length ≤ 8796093022208 := by omega
  have b2 : (p.map toI).length ≤ 35184372088832 := by rw [List.length_map]; omega
  refine Ev.bind (toTxS_ev p b1) (Ev.bind (spec_PoolOk_ev _ b2) ?_)
  refine Ev.bind (toTxS_ev p b1) (Ev.bind (impl_PoolOk_ev _ b2) ?_)
  refine ev_neg (by simp) ?_
  refine Ev.bind (toTxS_ev p b1) (Ev.bind (eqTxS_refl _ b2) ?_)
  exact ev_pos rfl (ev_some rfl)
end
end Go.Proofs.Ytajblkfgdalldaa.Pure
