/- Whatever is drawn: what is taken of a pool is paid, one behind the other, and what is put into a pool is there once; no condition beyond the row's own (the library's tables lie as the program's text lays them). -/
import Derived.Test.YtnlakfbbbnkcpaaDoorS
import Derived.Test.YtnlakfbbbnkcpaaDoorPFnPoolsx0
import Derived.Test.YtnlakfbbbnkcpaaDoorPFnPoolsx1
import Derived.Test.YtnlakfbbbnkcpaaDoorPFnPoolsx2
import Derived.Test.YtnlakfbbbnkcpaaDoorPFnPoolsx3
import Derived.Test.YtnlakfbbbnkcpaaDoorPFnPoolsx4
import Derived.Test.YtnlakfbbbnkcpaaDoorPFnPoolsx5
import Derived.Test.YtnlakfbbbnkcpaaDoorPFnPoolsx6
import Derived.Test.YtnlakfbbbnkcpaaDoorPFnPoolsx7
import Derived.Test.YtnlakfbbbnkcpaaDoorPFnPoolsx8
import Derived.Test.YtnlakfbbbnkcpaaDoorPFnPoolsx9
import Derived.Test.YtnlakfbbbnkcpaaDoorPFnPoolsx10
import Derived.Test.YtnlakfbbbnkcpaaDoorPFnPoolsx11
import Derived.Test.YtnlakfbbbnkcpaaDoorPFnPoolsx12
import Derived.Test.YtnlakfbbbnkcpaaDoorPFnPoolsx13
import Derived.Test.YtnlakfbbbnkcpaaDoorPFnPoolsx14
import Derived.Test.YtnlakfbbbnkcpaaDoorH
import Derived.Test.YtnlakfbbbnkcpaaDoorRowKit
import Derived.Test.YtnlakfbbbnkcpaaDoorLawFnPoolsw0
namespace Go.Proofs.YtnlakfbbbnkcpaaDoor.Law
open Go.RowKit Go.Proofs.YtnlakfbbbnkcpaaDoorW.PrintWords Go.Proofs.YtnlakfbbbnkcpaaDoorW.PrintLast Go.Proofs.YtnlakfbbbnkcpaaDoorW.PrintMore Go.Proofs.YtnlakfbbbnkcpaaDoorH Go.Proofs.YtnlakfbbbnkcpaaDoor.PFnPools Go.Proofs.YtnlakfbbbnkcpaaDoorS
set_option linter.unusedVariables false
set_option linter.unusedSimpArgs false

theorem and_range (x y : Int) (m : Nat) (hy : y = (m : Int)) (hm : m < 4611686018427387904) : 0 ≤ Go.bits .and .i64 x y ∧ Go.bits .and .i64 x y ≤ (m : Int) := by
  subst hy
  have h2 : ((BitVec.ofInt 64 x) &&& (BitVec.ofInt 64 (m : Int))).toNat ≤ m := by
    rw [BitVec.toNat_and]
    refine Nat.le_trans Nat.and_le_right ?_
    rw [BitVec.ofInt_natCast, BitVec.toNat_ofNat]
    exact Nat.mod_le _ _
  have e : Go.bits .and .i64 x (m : Int) = IntKind.i64.wrap (((BitVec.ofInt 64 x) &&& (BitVec.ofInt 64 (m : Int))).toNat : Int) := rfl
  rw [e]
  generalize ((BitVec.ofInt 64 x) &&& (BitVec.ofInt 64 (m : Int))).toNat = q at h2
  rw [IntKind.wrap_i64]
  omega
/-- A cursor's place. -/
def Cur (i : Int) : Prop := 0 ≤ i ∧ i ≤ 1099511627776
theorem l1New_ev (l : List Int) (hl : l.length ≤ 1048576) : ∃ h : Int, Ev (fun k => spec_l1New.f k l) (l, 0, h) := by
  have loop : ∀ (d n : Nat) (h : Int), l.length - n = d → n ≤ l.length → ∃ h', Ev (fun k => spec_l1New.l0 k l h (n : Int)) (l, 0, h') := by
    intro d
    induction d with
    | zero =>
      intro n h hd hn
      exact ⟨h, Ev.step (f := fun _ => some (l, 0, h)) (fun k => by simp only [spec_l1New.l0]; rw [if_neg (by omega)]) (ev_some rfl)⟩
    | succ d ih =>
      intro n h hd hn
      by_cases c : (n : Int) < 4000
      · obtain ⟨h', hh⟩ := ih (n + 1) (Go.bits .and .i64 (wrap64 ((wrap64 ((wrap64 (h * 131)) + (wrap64 (rd l (n : Int))))) + 7)) 1073741823) (by omega) (by omega)
        refine ⟨h', Ev.step (f := fun k => spec_l1New.l0 k l (Go.bits .and .i64 (wrap64 ((wrap64 ((wrap64 (h * 131)) + (wrap64 (rd l (n : Int))))) + 7)) 1073741823) ((n + 1 : Nat) : Int)) (fun k => ?_) hh⟩
        simp only [spec_l1New.l0]
        rw [if_pos (by omega), if_pos c, if_pos (by omega), up1 n (by omega)]
      · exact ⟨h, Ev.step (f := fun _ => some (l, 0, h)) (fun k => by simp only [spec_l1New.l0]; rw [if_pos (by omega), if_neg c]) (ev_some rfl)⟩
  unfold spec_l1New.f
  exact loop l.length 0 _ (by omega) (by omega)

theorem spec_before_val (x y : S26) : spec_l4Before.f x.f0 x.f1 x.f2 x.f3 y.f0 y.f1 y.f2 y.f3 = some (decide (beforeS x y)) := by
  unfold spec_l4Before.f beforeS
  by_cases h : x.f0 < y.f0
  · rw [if_pos h]; simp [h]
  · rw [if_neg h]
    by_cases h2 : x.f0 = y.f0
    · rw [if_pos h2]; simp [h2]
    · rw [if_neg h2]; simp [h, h2]

open Classical in
theorem spec_PoolOk_loop (p : List S26) (hl : p.length ≤ 35184372088832) : ∀ (d i : Nat), p.length - i = d → i ≤ p.length → Ev (fun k => spec_PoolOk.l0 k p (i : Int)) (decide (poolFrom p i ∧ p.length ≤ 12)) := by
  intro d
  induction d with
  | zero =>
    intro i hd hi
    obtain rfl : i = p.length := by omega
    exact Ev.step (f := fun _ => some (decide ((p.length : Int) ≤ 12))) (fun k => by simp only [spec_PoolOk.l0]; rw [if_neg (by omega)]) (ev_some (decide_eq_decide.mpr ⟨fun h => ⟨poolFrom_end, by omega⟩, fun h => by omega⟩))
  | succ d ih =>
    intro i hd hi
    have h1 : i < p.length := by omega
    have i62 : i < 4611686018427387904 := by omega
    have rest := ih (i + 1) (by omega) (by omega)
    have g := getD_at h1
    refine Ev.step (f := fun k => (spec_TxOk.f p[i].f0 p[i].f1 p[i].f2 p[i].f3).bind fun t => if t = true then (if (i : Int) > 0 then (if 0 ≤ (wrap64 ((i : Int) - 1)) then (if (wrap64 ((i : Int) - 1)) < (p.length : Int) then ((spec_l4Before.f (rd_T26 p (wrap64 ((i : Int) - 1))).f0 (rd_T26 p (wrap64 ((i : Int) - 1))).f1 (rd_T26 p (wrap64 ((i : Int) - 1))).f2 (rd_T26 p (wrap64 ((i : Int) - 1))).f3 p[i].f0 p[i].f1 p[i].f2 p[i].f3).bind fun u => if u = true then spec_PoolOk.l0 k p ((i + 1 : Nat) : Int) else some false) else none) else none) else spec_PoolOk.l0 k p ((i + 1 : Nat) : Int)) else some false) (fun k => by simp only [spec_PoolOk.l0]; rw [if_pos (by omega), if_pos (by omega), rdT_nat p i h1, up1 i i62]) ?_
    refine ev_const (spec_TxOk_val _ _ _ _) ?_
    by_cases c1 : txOkS p[i]
    · refine ev_pos (decide_eq_true c1) ?_
      by_cases c2 : (i : Int) > 0
      · have h3 : i - 1 < p.length := by omega
        have g2 := getD_at h3
        refine ev_pos c2 ?_
        rw [show wrap64 ((i : Int) - 1) = ((i - 1 : Nat) : Int) by unfold wrap64; omega, rdT_nat p (i - 1) h3]
        refine ev_pos (by omega) (ev_pos (by omega) (ev_const (spec_before_val _ _) ?_))
        by_cases c3 : beforeS p[i - 1] p[i]
        · refine ev_pos (decide_eq_true c3) (ev_eq rest (decide_eq_decide.mpr ?_))
          rw [poolFrom_step h1]; unfold poolAt; rw [g, g2]
          exact ⟨fun z => ⟨⟨⟨c1, fun _ => c3⟩, z.1⟩, z.2⟩, fun z => ⟨z.1.2, z.2⟩⟩
        · refine ev_neg (fun h => c3 (of_decide_eq_true h)) (ev_some (decide_eq_false ?_).symm)
          rw [poolFrom_step h1]; unfold poolAt; rw [g, g2]
          exact fun z => c3 (z.1.1.2 (by omega))
      · refine ev_neg c2 (ev_eq rest (decide_eq_decide.mpr ?_))
        rw [poolFrom_step h1]; unfold poolAt; rw [g]
        exact ⟨fun z => ⟨⟨⟨c1, fun h => absurd h (by omega)⟩, z.1⟩, z.2⟩, fun z => ⟨z.1.2, z.2⟩⟩
    · refine ev_neg (fun h => c1 (of_decide_eq_true h)) (ev_some (decide_eq_false ?_).symm)
      rw [poolFrom_step h1]; unfold poolAt; rw [g]
      exact fun z => c1 z.1.1.1
open Classical in
theorem spec_PoolOk_ev (p : List S26) (hl : p.length ≤ 35184372088832) : Ev (fun k => spec_PoolOk.f k p) (decide (poolIs p)) := by
  unfold spec_PoolOk.f
  exact ev_eq (spec_PoolOk_loop p hl p.length 0 (by omega) (by omega)) (decide_eq_decide.mpr Iff.rfl)

theorem befB_iff (x y : S26) : befB x y = decide (beforeS x y) := by
  unfold befB beforeS
  by_cases h : x.f0 < y.f0 <;> by_cases h2 : x.f0 = y.f0 <;> by_cases h3 : x.f3 < y.f3 <;> simp [h, h2, h3]
theorem before_asymm {a b : S26} (h : beforeS a b) : ¬ beforeS b a := by
  unfold beforeS at *
  omega
theorem before_trans {a b c : S26} (h : beforeS a b) (h' : beforeS b c) : beforeS a c := by
  unfold beforeS at *
  omega
theorem pool_sorted {q : List S26} (h : poolIs q) : ∀ (d i : Nat), i + d + 1 < q.length → beforeS (q.getD i z26) (q.getD (i + d + 1) z26)
  | 0, i, hl => (h.1 (i + 1) (by omega) hl).2 (by omega)
  | d + 1, i, hl => before_trans (pool_sorted h d i (by omega)) ((h.1 (i + d + 2) (by omega) hl).2 (by omega))
def insN (l : List S26) (x : S26) (n : Nat) : List S26 := l.take n ++ x :: l.drop n
theorem insN_len (l : List S26) (x : S26) (n : Nat) (hn : n ≤ l.length) : (insN l x n).length = l.length + 1 := by
  unfold insN; simp; omega
theorem insN_lt (l : List S26) (x : S26) (n i : Nat) (hn : n ≤ l.length) (hi : i < n) : (insN l x n).getD i z26 = l.getD i z26 := by
  unfold insN
  rw [List.getD_eq_getElem?_getD, List.getD_eq_getElem?_getD, List.getElem?_append_left (by simp; omega), List.getElem?_take_of_lt hi]
theorem insN_at (l : List S26) (x : S26) (n : Nat) (hn : n ≤ l.length) : (insN l x n).getD n z26 = x := by
  unfold insN
  rw [List.getD_eq_getElem?_getD, List.getElem?_append_right (by simp; omega), List.length_take, Nat.min_eq_left hn, Nat.sub_self]
  rfl
theorem insN_gt (l : List S26) (x : S26) (n : Nat) (hn : n ≤ l.length) : (insN l x n).getD (n + 1) z26 = l.getD n z26 := by
  unfold insN
  rw [List.getD_eq_getElem?_getD, List.getD_eq_getElem?_getD, List.getElem?_append_right (by simp; omega), List.length_take, Nat.min_eq_left hn, Nat.add_sub_cancel_left, List.getElem?_cons_succ, List.getElem?_drop, Nat.add_zero]
def posT (l : List S26) (x : S26) : Nat := l.findIdx (fun y => !decide (beforeS y x))
theorem idx_eq {p : S26 → Bool} (l : List S26) (n : Nat) (hn : n ≤ l.length) (hb : ∀ i (hi : i < n), p (l.getD i z26) = false) (he : n < l.length → p (l.getD n z26) = true) : l.findIdx p = n := by
  rcases Nat.eq_or_lt_of_le hn with rfl | hlt
  · have h1 : ¬ List.findIdx p l < l.length := by
      rw [List.findIdx_lt_length]
      rintro ⟨x, hx, hp⟩
      obtain ⟨i, hi, rfl⟩ := List.getElem_of_mem hx
      have := hb i hi
      rw [getD_at hi, hp] at this
      cases this
    have := @List.findIdx_le_length _ p l
    omega
  · rw [List.findIdx_eq hlt]
    refine ⟨by rw [← getD_at hlt]; exact he hlt, fun i hi => ?_⟩
    have := hb i hi
    rw [getD_at (by omega)] at this
    exact this
theorem pool_place {l : List S26} {x : S26} {n : Nat} (hn : n ≤ l.length) (h : poolIs (insN l x n)) : firstT l x = n ∧ posT l x = n := by
  have hlt : ∀ i, i < n → beforeS (l.getD i z26) x := fun i hi => by
    have := pool_sorted h (n - i - 1) i (by rw [insN_len l x n hn]; omega)
    rw [show i + (n - i - 1) + 1 = n by omega, insN_at l x n hn, insN_lt l x n i hn hi] at this
    exact this
  have hgt : n < l.length → beforeS x (l.getD n z26) := fun hi => by
    have := pool_sorted h 0 n (by rw [insN_len l x n hn]; omega)
    rw [Nat.add_zero, insN_at l x n hn, insN_gt l x n hn] at this
    exact this
  refine ⟨idx_eq l n hn (fun i hi => ?_) (fun hi => ?_), idx_eq l n hn (fun i hi => ?_) (fun hi => ?_)⟩
  · rw [befB_iff]; exact decide_eq_false (before_asymm (hlt i hi))
  · rw [befB_iff]; exact decide_eq_true (hgt hi)
  · rw [decide_eq_true (hlt i hi)]; rfl
  · rw [decide_eq_false (before_asymm (hgt hi))]; rfl
open Classical in
noncomputable def finN (l : List S26) (x : S26) (n : Nat) : List S26 × Bool := if poolIs (insN l x n) then (insN l x n, true) else (l, false)
theorem firstT_le (l : List S26) (x : S26) : firstT l x ≤ l.length := List.findIdx_le_length
theorem posT_le (l : List S26) (x : S26) : posT l x ≤ l.length := List.findIdx_le_length
theorem fin_same (l : List S26) (x : S26) : finN l x (posT l x) = finN l x (firstT l x) := by
  by_cases h : poolIs (insN l x (firstT l x))
  · rw [(pool_place (firstT_le l x) h).2]
  · by_cases h' : poolIs (insN l x (posT l x))
    · rw [(pool_place (posT_le l x) h').1]
    · unfold finN
      rw [if_neg h, if_neg h']
noncomputable def poolAddS (l : List S26) (x : S26) : List S26 × Bool := finN l x (firstT l x)
theorem poolAddS_len (l : List S26) (x : S26) : (poolAddS l x).1.length ≤ l.length + 1 := by
  unfold poolAddS finN
  split
  · rw [insN_len l x _ (firstT_le l x)]
    exact Nat.le_refl _
  · show l.length ≤ _; omega
open Classical in
theorem spec_PoolAdd_end (l : List S26) (x : S26) (n : Nat) (hl : l.length ≤ 1099511627776) (hn : n ≤ l.length) : Ev (fun k => (spec_PoolOk.f k (insN l x n)).bind fun t => if t = true then some (insN l x n, true) else some (l, false)) (finN l x n) := by
  refine Ev.bind (spec_PoolOk_ev _ (by rw [insN_len l x n hn]; omega)) ?_
  unfold finN
  by_cases h : poolIs (insN l x n)
  · rw [if_pos h]
    exact ev_pos (decide_eq_true h) (ev_some rfl)
  · rw [if_neg h]
    exact ev_neg (fun z => h (of_decide_eq_true z)) (ev_some rfl)
theorem spec_PoolAdd_loop (l : List S26) (x : S26) (hl : l.length ≤ 1099511627776) : ∀ (d n : Nat), l.length - n = d → n ≤ l.length → (∀ i, i < n → beforeS (l.getD i z26) x) → Ev (fun k => spec_PoolAdd.l0 k l (n : Int) x.f0 x.f1 x.f2 x.f3) (finN l x (posT l x)) := by
  intro d
  have hc : ([] : List S26).length + l.length < 4398046511104 := by simp; omega
  have hx : (⟨x.f0, x.f1, x.f2, x.f3⟩ : S26) = x := rfl
  induction d with
  | zero =>
    intro n hd hn hb
    obtain rfl : n = l.length := by omega
    have e : posT l x = l.length := idx_eq l _ hn (fun i hi => by rw [decide_eq_true (hb i hi)]; rfl) (fun h => by omega)
    rw [e]
    refine Ev.step (f := fun k => (spec_PoolOk.f k (insN l x l.length)).bind fun t => if t = true then some (insN l x l.length, true) else some (l, false)) (fun k => ?_) (spec_PoolAdd_end l x _ hl hn)
    simp only [spec_PoolAdd.l0]
    rw [if_neg (by omega)]
    simp only [Option.bind_some, Int.toNat_natCast, hx, if_pos hc, List.nil_append]
    rw [if_pos (by omega), if_pos (by omega), if_pos (by simp; omega), if_pos (by simp; omega), if_pos (by simp; omega)]
    rw [List.append_assoc, List.singleton_append]
    rfl
  | succ d ih =>
    intro n hd hn hb
    have h1 : n < l.length := by omega
    by_cases hc2 : beforeS (l.getD n z26) x
    · refine Ev.step (f := fun k => spec_PoolAdd.l0 k l ((n + 1 : Nat) : Int) x.f0 x.f1 x.f2 x.f3) (fun k => ?_) (ih (n + 1) (by omega) (by omega) (fun i hi => ?_))
      · simp only [spec_PoolAdd.l0]
        rw [if_pos (by omega), if_pos (by omega), rdT_nat l n h1, spec_before_val, Option.bind_some, if_pos (by rw [getD_at h1] at hc2; exact decide_eq_true hc2), up1 n (by omega)]
      · rcases Nat.lt_or_ge i n with h | h
        · exact hb i h
        · obtain rfl : i = n := by omega
          exact hc2
    · have e : posT l x = n := idx_eq l n hn (fun i hi => by rw [decide_eq_true (hb i hi)]; rfl) (fun _ => by rw [decide_eq_false hc2]; rfl)
      rw [e]
      refine Ev.step (f := fun k => (spec_PoolOk.f k (insN l x n)).bind fun t => if t = true then some (insN l x n, true) else some (l, false)) (fun k => ?_) (spec_PoolAdd_end l x _ hl hn)
      simp only [spec_PoolAdd.l0]
      rw [if_pos (by omega), if_pos (by omega), rdT_nat l n h1, spec_before_val, Option.bind_some, if_neg (by rw [getD_at h1] at hc2; exact fun z => hc2 (of_decide_eq_true z))]
      simp only [Option.bind_some, Int.toNat_natCast, hx, if_pos hc, List.nil_append]
      rw [if_pos (by omega), if_pos (by simp; omega), if_pos (by simp; omega), if_pos (by simp; omega)]
      rw [List.append_assoc, List.singleton_append]
      rfl
theorem spec_PoolAdd_ev (l : List S26) (x : S26) (hl : l.length ≤ 1099511627776) : Ev (fun k => spec_PoolAdd.f k l x.f0 x.f1 x.f2 x.f3) (poolAddS l x) := by
  unfold spec_PoolAdd.f poolAddS
  rw [← fin_same]
  exact spec_PoolAdd_loop l x hl l.length 0 (by omega) (by omega) (fun i hi => absurd hi (by omega))

theorem l1Byte_some (l : List Int) (i h : Int) (hl : l.length ≤ 1048576) (hi : Cur i) : ∃ v i' h', spec_l1Byte.f l i h = some (v, i', h') ∧ 0 ≤ v ∧ v ≤ 255 ∧ Cur i' := by
  unfold spec_l1Byte.f
  by_cases c : i < (l.length : Int)
  · rw [if_pos c, if_pos hi.1]
    refine ⟨_, _, _, rfl, (and_range _ 255 255 rfl (by omega)).1, (and_range _ 255 255 rfl (by omega)).2, ?_⟩
    rw [up1' i (by unfold Cur at hi; omega) (by unfold Cur at hi; omega)]
    unfold Cur at hi ⊢; omega
  · rw [if_neg c]
    exact ⟨_, _, _, rfl, (and_range _ 255 255 rfl (by omega)).1, (and_range _ 255 255 rfl (by omega)).2, hi⟩

theorem l1Below_some (l : List Int) (i h n : Int) (hl : l.length ≤ 1048576) (hi : Cur i) (hn : 0 < n) (hn' : n ≤ 256) : ∃ v i' h', spec_l1Below.f l i h n = some (v, i', h') ∧ 0 ≤ v ∧ v < n ∧ Cur i' := by
  obtain ⟨v, i', h', e, h0, h1, hc⟩ := l1Byte_some l i h hl hi
  unfold spec_l1Below.f
  rw [if_neg (by omega), if_pos hn', e, Option.bind_some, if_neg (by omega)]
  refine ⟨_, _, _, rfl, ?_, ?_, hc⟩
  · exact Int.tmod_nonneg _ h0
  · exact Int.tmod_lt_of_pos _ hn

theorem l1PickInt_some (l : List Int) (i h : Int) (xs : List Int) (hl : l.length ≤ 1048576) (hi : Cur i) (hx : 0 < xs.length) (hx' : xs.length ≤ 256) : ∃ v i' h', spec_l1PickInt.f l i h xs = some (v, i', h') ∧ v ∈ xs ∧ Cur i' := by
  obtain ⟨v, i', h', e, h0, h1, hc⟩ := l1Below_some l i h (xs.length : Int) hl hi (by omega) (by omega)
  unfold spec_l1PickInt.f
  rw [e, Option.bind_some, if_pos h0, if_pos h1]
  refine ⟨_, _, _, rfl, ?_, hc⟩
  obtain ⟨m, rfl⟩ := Int.eq_ofNat_of_zero_le h0
  rw [rd_nat xs m (by omega)]
  exact List.getElem_mem _

theorem l2DrawRight_some (l : List Int) (i h : Int) (hl : l.length ≤ 1048576) (hi : Cur i) : ∃ f t a m i' h', spec_l2DrawRight.f l i h = some (f, t, a, m, i', h') ∧ (0 ≤ f ∧ f ≤ 3) ∧ (0 ≤ t ∧ t ≤ 3) ∧ (0 ≤ a ∧ a ≤ 1000) ∧ (0 ≤ m ∧ m ≤ 2) ∧ Cur i' := by
  obtain ⟨f, i1, h1, e1, f0, f1, c1⟩ := l1Below_some l i h 4 hl hi (by omega) (by omega)
  obtain ⟨t, i2, h2, e2, t0, t1, c2⟩ := l1Below_some l i1 h1 4 hl c1 (by omega) (by omega)
  obtain ⟨a, i3, h3, e3, ha, c3⟩ := l1PickInt_some l i2 h2 [0, 5, 60, 100, 1000] hl c2 (by decide) (by decide)
  obtain ⟨m, i4, h4, e4, m0, m1, c4⟩ := l1Below_some l i3 h3 3 hl c3 (by omega) (by omega)
  unfold spec_l2DrawRight.f
  rw [e1, Option.bind_some, e2, Option.bind_some, e3, Option.bind_some, e4, Option.bind_some]
  refine ⟨_, _, _, _, _, _, rfl, ⟨f0, by omega⟩, ⟨t0, by omega⟩, ?_, ⟨m0, by omega⟩, c4⟩
  simp only [List.mem_cons, List.not_mem_nil, or_false] at ha
  omega

theorem l2Draw_some (l : List Int) (i h : Int) (hl : l.length ≤ 1048576) (hi : Cur i) : ∃ f t a m i' h', spec_l2Draw.f l i h = some (f, t, a, m, i', h') ∧ (-1 ≤ f ∧ f ≤ 4) ∧ (-1 ≤ t ∧ t ≤ 4) ∧ (-1 ≤ a ∧ a ≤ 1001) ∧ (-1 ≤ m ∧ m ≤ 100) ∧ Cur i' := by
  obtain ⟨f, t, a, m, i1, h1, e1, hf, ht, ha, hm, c1⟩ := l2DrawRight_some l i h hl hi
  obtain ⟨v, i2, h2, e2, v0, v1, c2⟩ := l1Below_some l i1 h1 12 hl c1 (by omega) (by omega)
  obtain ⟨x, i3, h3, e3, hx, c3⟩ := l1PickInt_some l i2 h2 [-1, 4] hl c2 (by decide) (by decide)
  obtain ⟨y, i4, h4, e4, hy, c4⟩ := l1PickInt_some l i2 h2 [-1, 1001] hl c2 (by decide) (by decide)
  obtain ⟨z, i5, h5, e5, hz, c5⟩ := l1PickInt_some l i2 h2 [-1, 99, 100] hl c2 (by decide) (by decide)
  simp only [List.mem_cons, List.not_mem_nil, or_false] at hx hy hz
  unfold spec_l2Draw.f
  rw [e1, Option.bind_some]
  simp only
  rw [e2, Option.bind_some]
  simp only
  by_cases d0 : v = 0
  · rw [if_pos d0, e3, Option.bind_some]; exact ⟨_, _, _, _, _, _, rfl, by omega, by omega, by omega, by omega, c3⟩
  rw [if_neg d0]
  by_cases d1 : v = 1
  · rw [if_pos d1, e3, Option.bind_some]; exact ⟨_, _, _, _, _, _, rfl, by omega, by omega, by omega, by omega, c3⟩
  rw [if_neg d1]
  by_cases d2 : v = 2
  · rw [if_pos d2, e4, Option.bind_some]; exact ⟨_, _, _, _, _, _, rfl, by omega, by omega, by omega, by omega, c4⟩
  rw [if_neg d2]
  by_cases d3 : v = 3
  · rw [if_pos d3, e5, Option.bind_some]; exact ⟨_, _, _, _, _, _, rfl, by omega, by omega, by omega, by omega, c5⟩
  rw [if_neg d3]
  exact ⟨_, _, _, _, _, _, rfl, by omega, by omega, by omega, by omega, c2⟩

theorem l4DrawRight_loop (l : List Int) (hl : l.length ≤ 1048576) : ∀ (d j : Nat) (i hh : Int) (p : List S26), 9 - j = d → j ≤ 9 → Cur i → p.length ≤ j → ∃ q i' hh', Ev (fun k => spec_l4DrawRight.l0 k p (j : Int) l i hh) (q, i', hh') ∧ Cur i' ∧ q.length ≤ 9 := by
  intro d
  induction d with
  | zero =>
    intro j i hh p hd hj hi hp
    obtain ⟨v, i1, h1, ev, v0, v1, c1⟩ := l1Below_some l i hh 9 hl hi (by omega) (by omega)
    exact ⟨p, i1, h1, Ev.step (f := fun _ => some (p, i1, h1)) (fun k => by simp only [spec_l4DrawRight.l0]; rw [ev, Option.bind_some, if_neg (by omega)]) (ev_some rfl), c1, by omega⟩
  | succ d ih =>
    intro j i hh p hd hj hi hp
    obtain ⟨v, i1, h1, ev, v0, v1, c1⟩ := l1Below_some l i hh 9 hl hi (by omega) (by omega)
    by_cases c : (j : Int) < v
    · obtain ⟨f, t, a, m, i2, h2, ed, _, _, _, _, c2⟩ := l2DrawRight_some l i1 h1 hl c1
      have hq := poolAddS_len p ⟨f, t, a, m⟩
      obtain ⟨q, i', hh', hev, r1, r2⟩ := ih (j + 1) i2 h2 (poolAddS p ⟨f, t, a, m⟩).1 (by omega) (by omega) c2 (by omega)
      refine ⟨q, i', hh', Ev.step (f := fun k => (spec_PoolAdd.f k p f t a m).bind fun bt => spec_l4DrawRight.l0 k bt.1 ((j + 1 : Nat) : Int) l i2 h2) (fun k => by
        simp only [spec_l4DrawRight.l0]
        rw [ev, Option.bind_some, if_pos c]
        simp only
        rw [ed, Option.bind_some, up1 j (by omega)]) (Ev.bind (spec_PoolAdd_ev p ⟨f, t, a, m⟩ (by omega)) hev), r1, r2⟩
    · exact ⟨p, i1, h1, Ev.step (f := fun _ => some (p, i1, h1)) (fun k => by simp only [spec_l4DrawRight.l0]; rw [ev, Option.bind_some, if_neg c]) (ev_some rfl), c1, by omega⟩
theorem l4DrawRight_ev (l : List Int) (hl : l.length ≤ 1048576) (i hh : Int) (hi : Cur i) : ∃ q i' hh', Ev (fun k => spec_l4DrawRight.f k l i hh) (q, i', hh') ∧ Cur i' ∧ q.length ≤ 9 := by
  unfold spec_l4DrawRight.f
  exact l4DrawRight_loop l hl 9 0 i hh [] (by omega) (by omega) hi (by simp)

theorem l4Draw_in (l : List Int) (i hh : Int) (x : Nat) (hx : x < 4) : ∀ (d j : Nat) (p : List S26), 4 - j = d → j ≤ 4 → p.length + d ≤ 100 → ∃ q, q.length ≤ p.length + d ∧ ∀ r, Ev (fun k => spec_l4Draw.l0 k q ((x + 1 : Nat) : Int) l i hh) r → Ev (fun k => spec_l4Draw.l1 k p (x : Int) (j : Int) l i hh) r := by
  intro d
  induction d with
  | zero =>
    intro j p hd hj hp
    exact ⟨p, by omega, fun r h => Ev.step (f := fun k => spec_l4Draw.l0 k p ((x + 1 : Nat) : Int) l i hh) (fun k => by simp only [spec_l4Draw.l1]; rw [if_neg (by omega), up1 x (by omega)]) h⟩
  | succ d ih =>
    intro j p hd hj hp
    have hq := poolAddS_len p ⟨(x : Int), 0, 0, (j : Int)⟩
    obtain ⟨q, h1, h2⟩ := ih (j + 1) (poolAddS p ⟨(x : Int), 0, 0, (j : Int)⟩).1 (by omega) (by omega) (by omega)
    exact ⟨q, by omega, fun r h => Ev.step (f := fun k => (spec_PoolAdd.f k p (x : Int) 0 0 (j : Int)).bind fun bt => spec_l4Draw.l1 k bt.1 (x : Int) ((j + 1 : Nat) : Int) l i hh) (fun k => by simp only [spec_l4Draw.l1]; rw [if_pos (by omega), up1 j (by omega)]) (Ev.bind (spec_PoolAdd_ev p ⟨(x : Int), 0, 0, (j : Int)⟩ (by omega)) (h2 r h))⟩
theorem l4Draw_out (l : List Int) (i hh : Int) : ∀ (d x : Nat) (p : List S26), 4 - x = d → x ≤ 4 → p.length + 4 * d ≤ 100 → ∃ q, q.length ≤ p.length + 4 * d ∧ Ev (fun k => spec_l4Draw.l0 k p (x : Int) l i hh) (q, i, hh) := by
  intro d
  induction d with
  | zero =>
    intro x p hd hx hp
    exact ⟨p, by omega, Ev.step (f := fun _ => some (p, i, hh)) (fun k => by simp only [spec_l4Draw.l0]; rw [if_neg (by omega)]) (ev_some rfl)⟩
  | succ d ih =>
    intro x p hd hx hp
    obtain ⟨q1, h1, h2⟩ := l4Draw_in l i hh x (by omega) 4 0 p (by omega) (by omega) (by omega)
    obtain ⟨q, h3, h4⟩ := ih (x + 1) q1 (by omega) (by omega) (by omega)
    exact ⟨q, by omega, Ev.step (f := fun k => spec_l4Draw.l1 k p (x : Int) 0 l i hh) (fun k => by simp only [spec_l4Draw.l0]; rw [if_pos (by omega)]) (h2 _ h4)⟩
theorem l4Draw_ev (l : List Int) (hl : l.length ≤ 1048576) (i hh : Int) (hi : Cur i) : ∃ q i' hh', Ev (fun k => spec_l4Draw.f k l i hh) (q, i', hh') ∧ Cur i' ∧ q.length ≤ 25 := by
  obtain ⟨p, i1, h1, he, c1, lp⟩ := l4DrawRight_ev l hl i hh hi
  obtain ⟨v, i2, h2, e2, v0, v1, c2⟩ := l1Below_some l i1 h1 8 hl c1 (by omega) (by omega)
  obtain ⟨f, t, a, m, i3, h3, e3, _, _, _, _, c3⟩ := l2Draw_some l i2 h2 hl c2
  obtain ⟨q, lq, hq⟩ := l4Draw_out l i2 h2 4 0 p (by omega) (by omega) (by omega)
  have key : ∀ r, Ev (fun k => if v = 0 then ((spec_l2Draw.f l i2 h2).bind fun bt => (if p.length < 4398046511104 then some (p ++ [(⟨bt.1, bt.2.1, bt.2.2.1, bt.2.2.2.1⟩ : S26)], bt.2.2.2.2.1, bt.2.2.2.2.2) else none)) else (if v = 1 then spec_l4Draw.l0 k p 0 l i2 h2 else some (p, i2, h2))) r → Ev (fun k => spec_l4Draw.f k l i hh) r := fun r hr => by
    unfold spec_l4Draw.f
    refine Ev.bind he ?_
    simp only
    rw [e2]
    exact hr
  by_cases d0 : v = 0
  · exact ⟨_, _, _, key (p ++ [⟨f, t, a, m⟩], i3, h3) (ev_pos d0 (by rw [e3, Option.bind_some, if_pos (by omega)]; exact ev_some rfl)), c3, by simp; omega⟩
  by_cases d1 : v = 1
  · exact ⟨_, _, _, key (q, i2, h2) (ev_neg d0 (ev_pos d1 hq)), c2, by omega⟩
  · exact ⟨_, _, _, key (p, i2, h2) (ev_neg d0 (ev_neg d1 (ev_some rfl))), c2, by omega⟩

theorem DrawPoolAdd_ev (l : List Int) (hl : l.length ≤ 1048576) : ∃ (p : List S26) (f t a m : Int), Ev (fun k => spec_DrawPoolAdd.f k l) (p, f, t, a, m) ∧ p.length ≤ 25 := by
  obtain ⟨x, hx⟩ := l1New_ev l hl
  obtain ⟨p, i1, h1, he, c, lp⟩ := l4Draw_ev l hl 0 x (by unfold Cur; omega)
  obtain ⟨f, t, a, m, i2, h2, e2, _, _, _, _, _⟩ := l2Draw_some l i1 h1 hl c
  refine ⟨p, f, t, a, m, ?_, lp⟩
  unfold spec_DrawPoolAdd.f
  refine Ev.bind hx (Ev.bind he ?_)
  simp only
  rw [e2]
  exact ev_some rfl

theorem impl_before_val (x y : S26) : impl_beforeTx.f x.f0 x.f1 x.f2 x.f3 y.f0 y.f1 y.f2 y.f3 = some (decide (beforeS x y)) := by
  unfold impl_beforeTx.f beforeS
  by_cases h : x.f0 < y.f0
  · rw [if_pos h]; simp [h]
  · rw [if_neg h]
    by_cases h2 : x.f0 = y.f0
    · rw [if_pos h2]; simp [h2]
    · rw [if_neg h2]; simp [h, h2]

open Classical in
theorem impl_PoolOk_loop (p : List S26) (hl : p.length ≤ 35184372088832) : ∀ (d i : Nat), p.length - i = d → i ≤ p.length → Ev (fun k => impl_PoolOk.l0 k p p (p.length : Int) (i : Int)) (decide (poolFrom p i ∧ p.length ≤ 12)) := by
  intro d
  induction d with
  | zero =>
    intro i hd hi
    obtain rfl : i = p.length := by omega
    exact Ev.step (f := fun _ => some (decide ((p.length : Int) ≤ 12))) (fun k => by simp only [impl_PoolOk.l0]; rw [if_neg (by omega)]) (ev_some (decide_eq_decide.mpr ⟨fun h => ⟨poolFrom_end, by omega⟩, fun h => by omega⟩))
  | succ d ih =>
    intro i hd hi
    have h1 : i < p.length := by omega
    have i62 : i < 4611686018427387904 := by omega
    have rest := ih (i + 1) (by omega) (by omega)
    have g := getD_at h1
    refine Ev.step (f := fun k => (impl_TxOk.f p[i].f0 p[i].f1 p[i].f2 p[i].f3).bind fun t => if t = true then (if (i : Int) > 0 then (if 0 ≤ (wrap64 ((i : Int) - 1)) then (if (wrap64 ((i : Int) - 1)) < (p.length : Int) then ((impl_beforeTx.f (rd_T26 p (wrap64 ((i : Int) - 1))).f0 (rd_T26 p (wrap64 ((i : Int) - 1))).f1 (rd_T26 p (wrap64 ((i : Int) - 1))).f2 (rd_T26 p (wrap64 ((i : Int) - 1))).f3 p[i].f0 p[i].f1 p[i].f2 p[i].f3).bind fun u => if u = true then impl_PoolOk.l0 k p p (p.length : Int) ((i + 1 : Nat) : Int) else some false) else none) else none) else impl_PoolOk.l0 k p p (p.length : Int) ((i + 1 : Nat) : Int)) else some false) (fun k => by simp only [impl_PoolOk.l0]; rw [if_pos (by omega), if_pos (by omega), if_pos (by omega), rdT_nat p i h1, up1 i i62]) ?_
    refine ev_const (impl_TxOk_val _ _ _ _) ?_
    by_cases c1 : txOkS p[i]
    · refine ev_pos (decide_eq_true c1) ?_
      by_cases c2 : (i : Int) > 0
      · have h3 : i - 1 < p.length := by omega
        have g2 := getD_at h3
        refine ev_pos c2 ?_
        rw [show wrap64 ((i : Int) - 1) = ((i - 1 : Nat) : Int) by unfold wrap64; omega, rdT_nat p (i - 1) h3]
        refine ev_pos (by omega) (ev_pos (by omega) (ev_const (impl_before_val _ _) ?_))
        by_cases c3 : beforeS p[i - 1] p[i]
        · refine ev_pos (decide_eq_true c3) (ev_eq rest (decide_eq_decide.mpr ?_))
          rw [poolFrom_step h1]; unfold poolAt; rw [g, g2]
          exact ⟨fun z => ⟨⟨⟨c1, fun _ => c3⟩, z.1⟩, z.2⟩, fun z => ⟨z.1.2, z.2⟩⟩
        · refine ev_neg (fun h => c3 (of_decide_eq_true h)) (ev_some (decide_eq_false ?_).symm)
          rw [poolFrom_step h1]; unfold poolAt; rw [g, g2]
          exact fun z => c3 (z.1.1.2 (by omega))
      · refine ev_neg c2 (ev_eq rest (decide_eq_decide.mpr ?_))
        rw [poolFrom_step h1]; unfold poolAt; rw [g]
        exact ⟨fun z => ⟨⟨⟨c1, fun h => absurd h (by omega)⟩, z.1⟩, z.2⟩, fun z => ⟨z.1.2, z.2⟩⟩
    · refine ev_neg (fun h => c1 (of_decide_eq_true h)) (ev_some (decide_eq_false ?_).symm)
      rw [poolFrom_step h1]; unfold poolAt; rw [g]
      exact fun z => c1 z.1.1.1
open Classical in
theorem impl_PoolOk_ev (p : List S26) (hl : p.length ≤ 35184372088832) : Ev (fun k => impl_PoolOk.f k p) (decide (poolIs p)) := by
  unfold impl_PoolOk.f
  exact ev_eq (impl_PoolOk_loop p hl p.length 0 (by omega) (by omega)) (decide_eq_decide.mpr Iff.rfl)

open Classical in
theorem impl_PoolAdd_ev (l : List S26) (x : S26) (hl : l.length ≤ 1099511627776) : Ev (fun k => impl_PoolAdd.f k l x.f0 x.f1 x.f2 x.f3) (poolAddS l x) := by
  unfold impl_PoolAdd.f poolAddS
  refine ev_pos (by omega) ?_
  have hx : insT l (⟨x.f0, x.f1, x.f2, x.f3⟩ : S26) = insN l x (firstT l x) := rfl
  rw [hx]
  refine Ev.bind (impl_PoolOk_ev _ (by rw [insN_len l x _ (firstT_le l x)]; omega)) ?_
  unfold finN
  by_cases h : poolIs (insN l x (firstT l x))
  · rw [if_pos h]
    exact ev_pos (decide_eq_true h) (ev_some rfl)
  · rw [if_neg h]
    exact ev_neg (fun z => h (of_decide_eq_true z)) (ev_some rfl)

theorem spec_Pay_ev (h n : List Int) (f t a m : Int) (b1 : h.length ≤ 1048576) (b2 : n.length ≤ 1048576) : Ev (fun k => spec_Pay.f k h n f t a m) (payL h n f t a m) :=
  ⟨0, fun k _ => by show spec_Pay.f k h n f t a m = _; unfold spec_Pay.f; rw [if_pos ⟨b1, b2⟩]⟩

theorem spec_LedgerNew_ev : Ev (fun k => spec_LedgerNew.f k) ([100, 100, 100, 100], [0, 0, 0, 0]) :=
  Ev.of (fun k => spec_LedgerNew.mono k) (k := 6) (by simp [spec_LedgerNew.f, spec_LedgerNew.l0, wrap64])

theorem l3DrawRight_loop (l : List Int) (hl : l.length ≤ 1048576) : ∀ (d j : Nat) (i hh : Int) (h n : List Int), 6 - j = d → j ≤ 6 → Cur i → h.length = 4 → n.length = 4 → ∃ h' n' i' hh', Ev (fun k => spec_l3DrawRight.l0 k (j : Int) l i hh h n) (h', n', i', hh') ∧ Cur i' ∧ h'.length = 4 ∧ n'.length = 4 := by
  intro d
  induction d with
  | zero =>
    intro j i hh h n hd hj hi e1 e2
    obtain ⟨v, i1, h1, ev, v0, v1, c1⟩ := l1Below_some l i hh 6 hl hi (by omega) (by omega)
    exact ⟨h, n, i1, h1, Ev.step (f := fun _ => some (h, n, i1, h1)) (fun k => by simp only [spec_l3DrawRight.l0]; rw [ev, Option.bind_some, if_neg (by omega)]) (ev_some rfl), c1, e1, e2⟩
  | succ d ih =>
    intro j i hh h n hd hj hi e1 e2
    obtain ⟨v, i1, h1, ev, v0, v1, c1⟩ := l1Below_some l i hh 6 hl hi (by omega) (by omega)
    by_cases c : (j : Int) < v
    · obtain ⟨f, t, a, m, i2, h2, ed, hf, ht, ha, hm, c2⟩ := l2DrawRight_some l i1 h1 hl c1
      obtain ⟨p1, p2⟩ := paid_len h n f t a (rd n f)
      obtain ⟨h', n', i', hh', hev, r1, r2, r3⟩ := ih (j + 1) i2 h2 (payL h n f t a (rd n f)).1 (payL h n f t a (rd n f)).2.1 (by omega) (by omega) c2 (by omega) (by omega)
      refine ⟨h', n', i', hh', Ev.step (f := fun k => (spec_Pay.f k h n f t a (rd n f)).bind fun bt => spec_l3DrawRight.l0 k ((j + 1 : Nat) : Int) l i2 h2 bt.1 bt.2.1) (fun k => by
        simp only [spec_l3DrawRight.l0]
        rw [ev, Option.bind_some, if_pos c]
        simp only
        rw [ed, Option.bind_some, if_pos hf.1, if_pos (by simp only; omega), up1 j (by omega)]) ?_, r1, r2, r3⟩
      exact Ev.bind (spec_Pay_ev h n f t a (rd n f) (by omega) (by omega)) hev
    · exact ⟨h, n, i1, h1, Ev.step (f := fun _ => some (h, n, i1, h1)) (fun k => by simp only [spec_l3DrawRight.l0]; rw [ev, Option.bind_some, if_neg c]) (ev_some rfl), c1, e1, e2⟩
theorem l3DrawRight_ev (l : List Int) (hl : l.length ≤ 1048576) (i hh : Int) (hi : Cur i) : ∃ h n i' hh', Ev (fun k => spec_l3DrawRight.f k l i hh) (h, n, i', hh') ∧ Cur i' ∧ h.length = 4 ∧ n.length = 4 := by
  obtain ⟨h, n, i', hh', he, c, l1, l2⟩ := l3DrawRight_loop l hl 6 0 i hh [100, 100, 100, 100] [0, 0, 0, 0] (by omega) (by omega) hi rfl rfl
  refine ⟨h, n, i', hh', ?_, c, l1, l2⟩
  unfold spec_l3DrawRight.f
  exact Ev.bind spec_LedgerNew_ev he

theorem l3Draw_ev (l : List Int) (hl : l.length ≤ 1048576) (i hh : Int) (hi : Cur i) : ∃ h n i' hh', Ev (fun k => spec_l3Draw.f k l i hh) (h, n, i', hh') ∧ Cur i' ∧ h.length ≤ 5 ∧ n.length = 4 := by
  obtain ⟨h, n, i1, h1, he, c, l1, l2⟩ := l3DrawRight_ev l hl i hh hi
  obtain ⟨v, i2, h2, e2, v0, v1, c2⟩ := l1Below_some l i1 h1 10 hl c (by omega) (by omega)
  obtain ⟨x, i3, h3, e3, hx, c3⟩ := l1PickInt_some l i2 h2 [-1, 400, 401] hl c2 (by decide) (by decide)
  obtain ⟨y, i4, h4, e4, hy, c4⟩ := l1PickInt_some l i2 h2 [-1, 99, 100, 101] hl c2 (by decide) (by decide)
  have key : ∀ r, (if v = 0 then ((spec_l1PickInt.f l i2 h2 [-1, 400, 401]).bind fun bt => (if 1 < (h.length : Int) then some ((h.set (1 : Int).toNat bt.1), n, bt.2.1, bt.2.2) else none)) else (if v = 1 then ((spec_l1PickInt.f l i2 h2 [-1, 99, 100, 101]).bind fun bt => (if 2 < (n.length : Int) then some (h, (n.set (2 : Int).toNat bt.1), bt.2.1, bt.2.2) else none)) else (if v = 2 then (if h.length < 17592186044416 then some ((h ++ [1]), n, i2, h2) else none) else some (h, n, i2, h2)))) = some r → Ev (fun k => spec_l3Draw.f k l i hh) r := fun r hr => by
    unfold spec_l3Draw.f
    refine Ev.bind he ?_
    simp only
    rw [e2]
    exact ⟨0, fun _ _ => hr⟩
  by_cases d0 : v = 0
  · exact ⟨_, _, _, _, key _ (by rw [if_pos d0, e3, Option.bind_some, if_pos (by omega)]), c3, by simp; omega, l2⟩
  by_cases d1 : v = 1
  · exact ⟨_, _, _, _, key _ (by rw [if_neg d0, if_pos d1, e4, Option.bind_some, if_pos (by omega)]), c4, by omega, by simp; omega⟩
  by_cases d2 : v = 2
  · exact ⟨_, _, _, _, key _ (by rw [if_neg d0, if_neg d1, if_pos d2, if_pos (by omega)]), c2, by simp; omega, l2⟩
  · exact ⟨_, _, _, _, key _ (by rw [if_neg d0, if_neg d1, if_neg d2]), c2, by omega, l2⟩

theorem DrawPoolTake_ev (l : List Int) (hl : l.length ≤ 1048576) : ∃ (q : List S26) (h n : List Int), Ev (fun k => spec_DrawPoolTake.f k l) (q, h, n) ∧ q.length ≤ 25 ∧ h.length ≤ 5 ∧ n.length = 4 := by
  obtain ⟨x, hx⟩ := l1New_ev l hl
  obtain ⟨q, i1, h1, he, c, lq⟩ := l4Draw_ev l hl 0 x (by unfold Cur; omega)
  obtain ⟨h, n, i2, h2, e2, _, l1, l2⟩ := l3Draw_ev l hl i1 h1 c
  refine ⟨q, h, n, ?_, lq, l1, l2⟩
  unfold spec_DrawPoolTake.f
  exact Ev.bind hx (Ev.bind he (Ev.bind e2 (ev_some rfl)))

theorem impl_Pay_ev (h n : List Int) (f t a m : Int) (b1 : h.length ≤ 1048576) (b2 : n.length ≤ 1048576) : Ev (fun k => impl_Pay.f k h n f t a m) (payL h n f t a m) :=
  ⟨0, fun k _ => by show impl_Pay.f k h n f t a m = _; unfold impl_Pay.f; rw [if_pos ⟨b1, b2⟩]⟩

theorem impl_PoolTake_val (k : Nat) (p : List S26) (h n : List Int) (hl : p.length ≤ 1048576) (b1 : h.length ≤ 1048576) (b2 : n.length ≤ 1048576) : impl_PoolTake.f k p h n = some (takeS h n [] p) := by unfold impl_PoolTake.f; rw [if_pos ⟨hl, b1, b2⟩]

theorem impl_PoolDrop_val (k : Nat) (p : List S26) (h n : List Int) (hl : p.length ≤ 1048576) (b1 : h.length ≤ 1048576) (b2 : n.length ≤ 1048576) : impl_PoolDrop.f k p h n = some (dropS h n p) := by unfold impl_PoolDrop.f; rw [if_pos ⟨hl, b1, b2⟩]

abbrev B (l : List UInt8) : ByteArray := ⟨l.toArray⟩
theorem B_list (l : List UInt8) : (B l).data.toList = l := by simp
theorem B_of (s : ByteArray) : B s.data.toList = s := Lib.mk_data s
theorem B_size (l : List UInt8) : (B l).size = l.length := by simp [ByteArray.size]
theorem B_app (l m : List UInt8) : B l ++ B m = B (l ++ m) := by
  rw [← B_of (B l ++ B m)]
  congr 2
  first | done | simp
theorem B_toList (l : List UInt8) : (B l).toList = l := by rw [Lib.toList_data, B_list]
theorem B_eq {l m : List UInt8} : B l = B m ↔ l = m := ⟨fun h => by have := congrArg (fun s : ByteArray => s.data.toList) h; simpa using this, fun h => by rw [h]⟩
theorem B_eta (s : ByteArray) : ∃ l, s = B l ∧ s.size = l.length ∧ s.data.toList = l := ⟨s.data.toList, (B_of s).symm, Lib.size_eq s, rfl⟩
theorem nums_B (xs : List Int) : strOfNums xs = B (xs.map fun n => UInt8.ofNat n.toNat) := rfl
theorem bt_B (l : List UInt8) (i : Nat) (h : i < l.length) : bt (B l) (i : Int) = (l[i].toNat : Int) := by
  rw [← bt_at (B l) i (by rw [Int.toNat_natCast, B_size]; exact h)]
  rfl
theorem bt_mid (pre suf : List UInt8) (b : UInt8) : bt (B (pre ++ b :: suf)) (pre.length : Int) = (b.toNat : Int) := by
  rw [bt_B _ _ (by simp)]
  simp
theorem extract_B (l : List UInt8) (a b : Nat) : (B l).extract a b = B ((l.drop a).take (b - a)) := by rw [Lib.extract_eq, B_list]
theorem B_nil : (⟨#[]⟩ : ByteArray) = B [] := rfl
theorem impl_Digits_val (n : Int) (h0 : -9223372036854775808 ≤ n) (h1 : n ≤ 9223372036854775807) : impl_Digits.f n = some (B (Lib.itoa n)) := by
  unfold impl_Digits.f strconv_Itoa.f
  rw [if_pos ⟨h0, h1⟩]; rfl

theorem itoa_len (n : Int) (h0 : 0 ≤ n) (h1 : n ≤ 1000) : (Lib.itoa n).length ≤ 4 := by
  obtain ⟨u, rfl⟩ := Int.eq_ofNat_of_zero_le h0
  rw [itoa_nat]
  exact dec_len 3 u (by omega)
theorem rawB (x : Tx) : ((((((B (Lib.itoa x.1) ++ (⟨#[62]⟩ : ByteArray)) ++ B (Lib.itoa x.2.1)) ++ (⟨#[58]⟩ : ByteArray)) ++ B (Lib.itoa x.2.2.1)) ++ (⟨#[35]⟩ : ByteArray)) ++ B (Lib.itoa x.2.2.2)) = B (rawT x) := by
  rw [show (⟨#[62]⟩ : ByteArray) = B [62] from rfl, show (⟨#[58]⟩ : ByteArray) = B [58] from rfl, show (⟨#[35]⟩ : ByteArray) = B [35] from rfl]
  simp only [B_app]
  unfold rawT
  simp
theorem raw_len (x : Tx) (h : okT x) : (rawT x).length ≤ 19 := by
  unfold okT at h
  have a := itoa_len x.1 (by omega) (by omega)
  have b := itoa_len x.2.1 (by omega) (by omega)
  have c := itoa_len x.2.2.1 (by omega) (by omega)
  have d := itoa_len x.2.2.2 (by omega) (by omega)
  unfold rawT
  simp only [List.length_append, List.length_cons]
  omega
theorem impl_TxText_val (f t a n : Int) : impl_TxText.f f t a n = some (B (textT (f, t, a, n))) := by
  unfold impl_TxText.f
  simp only [impl_TxOk_val, Option.bind_some]
  by_cases c : txIs f t a n
  · have c' : okT (f, t, a, n) := c
    have c2 := c
    unfold txIs at c2
    have h1 := itoa_len f (by omega) (by omega)
    have h2 := itoa_len t (by omega) (by omega)
    have h3 := itoa_len a (by omega) (by omega)
    have h4 := itoa_len n (by omega) (by omega)
    have s1 := B_size (Lib.itoa f)
    have s2 := B_size (Lib.itoa t)
    have s3 := B_size (Lib.itoa a)
    have s4 := B_size (Lib.itoa n)
    have z1 : (⟨#[62]⟩ : ByteArray).size = 1 := rfl
    have z2 : (⟨#[58]⟩ : ByteArray).size = 1 := rfl
    have z3 : (⟨#[35]⟩ : ByteArray).size = 1 := rfl
    have ht : textT (f, t, a, n) = rawT (f, t, a, n) := by unfold textT; rw [if_pos c']
    rw [ht]
    simp only [decide_eq_true c, if_true]
    rw [impl_Digits_val f (by omega) (by omega), Option.bind_some, if_pos (by omega), impl_Digits_val t (by omega) (by omega), Option.bind_some, if_pos (by rw [ByteArray.size_append]; omega), if_pos (by rw [ByteArray.size_append, ByteArray.size_append]; omega),
      impl_Digits_val a (by omega) (by omega), Option.bind_some, if_pos (by rw [ByteArray.size_append, ByteArray.size_append, ByteArray.size_append]; omega), if_pos (by rw [ByteArray.size_append, ByteArray.size_append, ByteArray.size_append, ByteArray.size_append]; omega),
      impl_Digits_val n (by omega) (by omega), Option.bind_some, if_pos (by rw [ByteArray.size_append, ByteArray.size_append, ByteArray.size_append, ByteArray.size_append, ByteArray.size_append]; omega)]
    exact congrArg some (rawB (f, t, a, n))
  · have ht : textT (f, t, a, n) = [] := by unfold textT; rw [if_neg (show ¬ okT (f, t, a, n) from c)]
    rw [ht]
    simp only [decide_eq_false c, Bool.false_eq_true, if_false]

def tq (x : S26) : Tx := (x.f0, x.f1, x.f2, x.f3)
theorem join_len : ∀ (l : List Tx), okTs l → (joinL 44 (l.map rawT)).length ≤ 20 * l.length
  | [], _ => by simp [joinL]
  | [x], h => by
    have := raw_len x (h x (by simp))
    simp only [List.map_cons, List.map_nil, joinL, List.length_singleton]
    omega
  | x :: y :: l, h => by
    have h1 := raw_len x (h x (by simp))
    have h2 := join_len (y :: l) (fun z hz => h z (by simp at hz ⊢; exact .inr hz))
    rw [List.map_cons, joinL_cons _ _ (by simp), List.length_append, List.length_cons]
    simp only [List.length_cons] at h2 ⊢
    omega
theorem take_map_succ (l : List S26) (n : Nat) (h : n < l.length) : (l.map tq).take (n + 1) = (l.map tq).take n ++ [tq l[n]] := by
  rw [List.take_succ_eq_append_getElem (by simpa using h), List.getElem_map]
theorem okTs_snoc {l : List Tx} {x : Tx} (h : okTs l) (hx : okT x) : okTs (l ++ [x]) := fun y hy => by
  rcases List.mem_append.1 hy with hy | hy
  · exact h y hy
  · rw [List.mem_singleton.1 hy]; exact hx
theorem not_okTs (l : List S26) (n : Nat) (h : n < l.length) (hx : ¬ okT (tq l[n])) : textTs (l.map tq) = [] := by
  unfold textTs
  rw [if_neg (fun hh => hx (hh _ (List.mem_map.2 ⟨_, List.getElem_mem h, rfl⟩)))]
theorem libjoin (c : UInt8) : ∀ l : List (List UInt8), Lib.join l [c] = joinL c l
  | [] => rfl
  | [a] => by simp [Lib.join, joinL]
  | a :: b :: l => by
    have ih := libjoin c (b :: l)
    unfold Lib.join at ih ⊢
    rw [joinL, ← ih, List.intercalate_cons_cons]
    simp
theorem impl_TxsText_loop (l : List S26) (hl : l.length ≤ 1048576) : ∀ (d n : Nat), l.length - n = d → n ≤ l.length → okTs ((l.map tq).take n) → Ev (fun k => impl_TxsText.l0 k (((l.map tq).take n).map fun x => B (rawT x)) l (l.length : Int) (n : Int)) (B (textTs (l.map tq))) := by
  intro d
  induction d with
  | zero =>
    intro n hd hn hok
    obtain rfl : n = l.length := by omega
    rw [List.take_of_length_le (by simp)] at hok ⊢
    have hlen := join_len _ hok
    have e : textTs (l.map tq) = joinL 44 ((l.map tq).map rawT) := by unfold textTs; rw [if_pos hok]
    have e2 : (((l.map tq).map fun x => B (rawT x)).map (·.data.toList)) = (l.map tq).map rawT := by
      rw [List.map_map]
      exact List.map_congr_left (fun x _ => B_list _)
    rw [e]
    refine Ev.step (f := fun _ => some (B (joinL 44 ((l.map tq).map rawT)))) (fun k => ?_) (Ev.now _)
    simp only [impl_TxsText.l0]
    rw [if_neg (by omega)]
    unfold strings_Join.f
    rw [e2, show (⟨#[44]⟩ : ByteArray).data.toList = [44] from rfl, libjoin, if_pos ⟨by simp only [List.length_map]; omega, by simp only [List.length_map] at hlen; omega⟩]
    rfl
  | succ d ih =>
    intro n hd hn hok
    have h1 : n < l.length := by omega
    have htl : ((l.map tq).take n).length = n := by rw [List.length_take]; simp; omega
    by_cases c : okT (tq l[n])
    · have hok' := okTs_snoc hok c
      have ht : textT (l[n].f0, l[n].f1, l[n].f2, l[n].f3) = rawT (tq l[n]) := by
        unfold textT
        rw [if_pos (show okT (l[n].f0, l[n].f1, l[n].f2, l[n].f3) from c)]; rfl
      rw [← take_map_succ l n h1] at hok'
      have ih' := ih (n + 1) (by omega) (by omega) hok'
      rw [take_map_succ l n h1, List.map_append, List.map_singleton] at ih'
      refine Ev.step (f := fun k => impl_TxsText.l0 k ((((l.map tq).take n).map fun x => B (rawT x)) ++ [B (rawT (tq l[n]))]) l (l.length : Int) ((n + 1 : Nat) : Int)) (fun k => ?_) ih'
      simp only [impl_TxsText.l0]
      rw [if_pos (by omega), if_pos (by omega), if_pos (by omega), rdT_nat l n h1, impl_TxOk_val, Option.bind_some, if_pos (decide_eq_true (show txIs l[n].f0 l[n].f1 l[n].f2 l[n].f3 from c)), impl_TxText_val, Option.bind_some, ht, if_pos (by rw [List.length_map, htl]; omega), up1 n (by omega)]
    · rw [not_okTs l n h1 c]
      refine Ev.step (f := fun _ => some (B [])) (fun k => ?_) (Ev.now _)
      simp only [impl_TxsText.l0]
      rw [if_pos (by omega), if_pos (by omega), if_pos (by omega), rdT_nat l n h1, impl_TxOk_val, Option.bind_some, if_neg (by simpa using (show ¬ txIs l[n].f0 l[n].f1 l[n].f2 l[n].f3 from c))]
theorem impl_TxsText_ev (l : List S26) (hl : l.length ≤ 1048576) : Ev (fun k => impl_TxsText.f k l) (B (textTs (l.map tq))) := by
  unfold impl_TxsText.f
  exact impl_TxsText_loop l hl l.length 0 (by omega) (by omega) (by intro x hx; simp at hx)

theorem digB (m : Int) (h0 : 0 ≤ m) (h1 : m < 10) : strOfNums [(wrap64 (48 + m)) % 256] = B [UInt8.ofNat (48 + m.toNat)] := by
  rw [nums_B]
  have : (wrap64 (48 + m)) % 256 = ((48 + m.toNat : Nat) : Int) := by unfold wrap64; omega
  rw [this]
  rfl
theorem Digits_zero (neg : Bool) (acc : List UInt8) (h : acc.length ≤ 100) : Ev (fun k => spec_Digits.l0 k 0 neg (B acc)) (B ((if neg = true then [45] else []) ++ acc)) := by
  have hs := B_size acc
  refine Ev.step (f := fun _ => some (B ((if neg = true then [45] else []) ++ acc))) (fun k => ?_) (Ev.now _)
  simp only [spec_Digits.l0]
  rw [if_pos trivial]
  by_cases c : neg = true
  · rw [if_pos c, if_pos (by omega), if_pos c, ← B_app]
  · rw [if_neg c, if_neg c, List.nil_append]
theorem Digits_loop : ∀ (d : Nat) (x : Int) (neg : Bool) (acc : List UInt8), x.natAbs < 10 ^ d → acc.length + d ≤ 100 → -9223372036854775808 ≤ x → x ≤ 9223372036854775807 →
    Ev (fun k => spec_Digits.l0 k x neg (B acc)) (B ((if neg = true then [45] else []) ++ ((if x.natAbs = 0 then [] else Lib.decDigits x.natAbs) ++ acc)))
  | 0, x, neg, acc, h, hl, h0, h1 => by
    obtain rfl : x = 0 := by simp at h; exact h
    exact Digits_zero neg acc (by omega)
  | d + 1, x, neg, acc, h, hl, h0, h1 => by
    by_cases hx : x = 0
    · subst hx
      exact Digits_zero neg acc (by omega)
    have hs := B_size acc
    have hq : (wrap64 (Int.tdiv x 10)).natAbs = x.natAbs / 10 ∧ -9223372036854775808 ≤ wrap64 (Int.tdiv x 10) ∧ wrap64 (Int.tdiv x 10) ≤ 9223372036854775807 := by
      have e : Int.tdiv x 10 = if 0 ≤ x then ((x.natAbs / 10 : Nat) : Int) else -((x.natAbs / 10 : Nat) : Int) := by
        split
        · rename_i hp
          obtain ⟨u, rfl⟩ := Int.eq_ofNat_of_zero_le hp
          rfl
        · rename_i hp
          obtain ⟨u, rfl⟩ : ∃ u : Nat, x = -(u : Int) := ⟨x.natAbs, by omega⟩
          rw [Int.neg_tdiv, Int.natAbs_neg, Int.natAbs_natCast]
          rfl
      rw [e]
      unfold wrap64
      split <;> omega
    have hm : Int.tmod x 10 = if 0 ≤ x then ((x.natAbs % 10 : Nat) : Int) else -((x.natAbs % 10 : Nat) : Int) := by
      split
      · rename_i hp
        obtain ⟨u, rfl⟩ := Int.eq_ofNat_of_zero_le hp
        rfl
      · rename_i hp
        obtain ⟨u, rfl⟩ : ∃ u : Nat, x = -(u : Int) := ⟨x.natAbs, by omega⟩
        rw [Int.neg_tmod, Int.natAbs_neg, Int.natAbs_natCast]
        rfl
    have h10 : x.natAbs < 10 * 10 ^ d := by rw [Nat.pow_succ] at h; omega
    have ih := Digits_loop d (wrap64 (Int.tdiv x 10)) neg (UInt8.ofNat (48 + x.natAbs % 10) :: acc) (by rw [hq.1]; omega) (by simp only [List.length_cons]; omega) hq.2.1 hq.2.2
    rw [hq.1] at ih
    have e : (if x.natAbs / 10 = 0 then [] else Lib.decDigits (x.natAbs / 10)) ++ (UInt8.ofNat (48 + x.natAbs % 10) :: acc) = (if x.natAbs = 0 then [] else Lib.decDigits x.natAbs) ++ acc := by
      rw [if_neg (show ¬ x.natAbs = 0 by omega)]
      by_cases hu : x.natAbs < 10
      · rw [if_pos (by omega), Lib.decDigits, dif_pos hu, Nat.mod_eq_of_lt hu]; rfl
      · rw [if_neg (by omega), show Lib.decDigits x.natAbs = Lib.decDigits (x.natAbs / 10) ++ [UInt8.ofNat (48 + x.natAbs % 10)] by rw [Lib.decDigits, dif_neg hu]]
        simp
    rw [e] at ih
    refine Ev.step (f := fun k => spec_Digits.l0 k (wrap64 (Int.tdiv x 10)) neg (B (UInt8.ofNat (48 + x.natAbs % 10) :: acc))) (fun k => ?_) ih
    simp only [spec_Digits.l0]
    rw [if_neg hx]
    by_cases c : Int.tmod x 10 < 0
    · rw [if_pos c, Option.bind_some]
      have e2 : wrap64 (-(Int.tmod x 10)) = ((x.natAbs % 10 : Nat) : Int) := by
        rw [hm] at c ⊢
        unfold wrap64
        split at c <;> rename_i hp
        · omega
        · rw [if_neg hp]; omega
      rw [e2, digB _ (by omega) (by omega), B_size, if_pos (by simp only [List.length_singleton]; omega), Int.toNat_natCast, B_app]
      rfl
    · rw [if_neg c, Option.bind_some]
      have e2 : Int.tmod x 10 = ((x.natAbs % 10 : Nat) : Int) := by
        rw [hm] at c ⊢
        split at c <;> rename_i hp
        · rw [if_pos hp]
        · rw [if_neg hp]; omega
      rw [e2, digB _ (by omega) (by omega), B_size, if_pos (by simp only [List.length_singleton]; omega), Int.toNat_natCast, B_app]
      rfl
theorem spec_Digits_ev (n : Int) (h0 : -9223372036854775808 ≤ n) (h1 : n ≤ 9223372036854775807) : Ev (fun k => spec_Digits.f k n) (B (Lib.itoa n)) := by
  unfold spec_Digits.f
  by_cases hn : n = 0
  · subst hn
    refine ev_pos rfl (ev_some ?_)
    rw [show Lib.itoa 0 = Lib.decDigits 0 from rfl, Lib.decDigits]
    rfl
  refine ev_neg hn ?_
  have h := Digits_loop 19 n (decide (n < 0)) [] (by omega) (by simp) h0 h1
  refine ev_eq h ?_
  rw [if_neg (show ¬ n.natAbs = 0 by omega), List.append_nil]
  unfold Lib.itoa
  by_cases c : n < 0
  · rw [if_pos (decide_eq_true c), if_pos c]; rfl
  · rw [if_neg (by simpa using c), if_neg c, show n.natAbs = n.toNat by omega]; rfl

theorem spec_TxText_ev (f t a n : Int) : Ev (fun k => spec_TxText.f k f t a n) (B (textT (f, t, a, n))) := by
  unfold spec_TxText.f
  simp only [spec_TxOk_val, Option.bind_some]
  by_cases c : txIs f t a n
  · have c' : okT (f, t, a, n) := c
    have c2 := c
    unfold txIs at c2
    have h1 := itoa_len f (by omega) (by omega)
    have h2 := itoa_len t (by omega) (by omega)
    have h3 := itoa_len a (by omega) (by omega)
    have h4 := itoa_len n (by omega) (by omega)
    have s1 := B_size (Lib.itoa f)
    have s2 := B_size (Lib.itoa t)
    have s3 := B_size (Lib.itoa a)
    have s4 := B_size (Lib.itoa n)
    have z1 : (⟨#[62]⟩ : ByteArray).size = 1 := rfl
    have z2 : (⟨#[58]⟩ : ByteArray).size = 1 := rfl
    have z3 : (⟨#[35]⟩ : ByteArray).size = 1 := rfl
    have ht : textT (f, t, a, n) = rawT (f, t, a, n) := by unfold textT; rw [if_pos c']
    rw [ht]
    simp only [decide_eq_true c, if_true]
    refine Ev.bind (spec_Digits_ev f (by omega) (by omega)) (ev_pos (by omega) ?_)
    refine Ev.bind (spec_Digits_ev t (by omega) (by omega)) (ev_pos (by rw [ByteArray.size_append]; omega) (ev_pos (by rw [ByteArray.size_append, ByteArray.size_append]; omega) ?_))
    refine Ev.bind (spec_Digits_ev a (by omega) (by omega)) (ev_pos (by rw [ByteArray.size_append, ByteArray.size_append, ByteArray.size_append]; omega) (ev_pos (by rw [ByteArray.size_append, ByteArray.size_append, ByteArray.size_append, ByteArray.size_append]; omega) ?_))
    refine Ev.bind (spec_Digits_ev n (by omega) (by omega)) (ev_pos (by rw [ByteArray.size_append, ByteArray.size_append, ByteArray.size_append, ByteArray.size_append, ByteArray.size_append]; omega) ?_)
    exact ev_some (rawB (f, t, a, n))
  · have ht : textT (f, t, a, n) = [] := by unfold textT; rw [if_neg (show ¬ okT (f, t, a, n) from c)]
    rw [ht]
    simp only [decide_eq_false c, Bool.false_eq_true, if_false]
    exact ev_some rfl

theorem spec_TxsText_loop (l : List S26) (hl : l.length ≤ 1048576) : ∀ (d n : Nat), l.length - n = d → n ≤ l.length → okTs ((l.map tq).take n) → Ev (fun k => spec_TxsText.l0 k l (B (joinL 44 (((l.map tq).take n).map rawT))) (n : Int)) (B (textTs (l.map tq))) := by
  intro d
  induction d with
  | zero =>
    intro n hd hn hok
    obtain rfl : n = l.length := by omega
    rw [List.take_of_length_le (by simp)] at hok ⊢
    have e : textTs (l.map tq) = joinL 44 ((l.map tq).map rawT) := by unfold textTs; rw [if_pos hok]
    rw [e]
    exact Ev.step (f := fun _ => some _) (fun k => by simp only [spec_TxsText.l0]; rw [if_neg (by omega)]) (Ev.now _)
  | succ d ih =>
    intro n hd hn hok
    have h1 : n < l.length := by omega
    have hlen := join_len _ hok
    have htl : ((l.map tq).take n).length = n := by rw [List.length_take]; simp; omega
    rw [htl] at hlen
    have hs := B_size (joinL 44 (((l.map tq).take n).map rawT))
    by_cases c : okT (tq l[n])
    · have hr := raw_len _ c
      have hok' := okTs_snoc hok c
      have ht : textT (l[n].f0, l[n].f1, l[n].f2, l[n].f3) = rawT (tq l[n]) := by
        unfold textT
        rw [if_pos (show okT (l[n].f0, l[n].f1, l[n].f2, l[n].f3) from c)]; rfl
      have hsr := B_size (rawT (tq l[n]))
      rw [← take_map_succ l n h1] at hok'
      have ih' := ih (n + 1) (by omega) (by omega) hok'
      have htx := spec_TxText_ev l[n].f0 l[n].f1 l[n].f2 l[n].f3
      rw [ht] at htx
      rw [take_map_succ l n h1, List.map_append, List.map_singleton] at ih'
      by_cases hz : n = 0
      · subst hz
        refine Ev.step (f := fun k => (spec_TxText.f k l[0].f0 l[0].f1 l[0].f2 l[0].f3).bind fun t => (if (B (joinL 44 (((l.map tq).take 0).map rawT))).size + t.size ≤ 9223372036854775807 then (spec_TxsText.l0 k l (B (joinL 44 (((l.map tq).take 0).map rawT)) ++ t) ((0 + 1 : Nat) : Int)) else (none))) (fun k => ?_) ?_
        · simp only [spec_TxsText.l0]
          rw [if_pos (by omega), if_pos (by omega), rdT_nat l 0 h1, spec_TxOk_val, Option.bind_some, if_pos (decide_eq_true (show txIs l[0].f0 l[0].f1 l[0].f2 l[0].f3 from c)), if_neg (by omega), up1 0 (by omega)]
        · refine Ev.bind htx (ev_pos (by omega) ?_)
          exact ih'
      · have hne : ((l.map tq).take n).map rawT ≠ [] := fun h => by have := congrArg List.length h; rw [List.length_map, htl] at this; exact hz (by simpa using this)
        rw [joinL_append _ _ hne] at ih'
        have z1 : (⟨#[44]⟩ : ByteArray).size = 1 := rfl
        refine Ev.step (f := fun k => (spec_TxText.f k l[n].f0 l[n].f1 l[n].f2 l[n].f3).bind fun t => (if (B (joinL 44 (((l.map tq).take n).map rawT)) ++ (⟨#[44]⟩ : ByteArray)).size + t.size ≤ 9223372036854775807 then (spec_TxsText.l0 k l ((B (joinL 44 (((l.map tq).take n).map rawT)) ++ (⟨#[44]⟩ : ByteArray)) ++ t) ((n + 1 : Nat) : Int)) else (none))) (fun k => ?_) ?_
        · simp only [spec_TxsText.l0]
          rw [if_pos (by omega), if_pos (by omega), rdT_nat l n h1, spec_TxOk_val, Option.bind_some, if_pos (decide_eq_true (show txIs l[n].f0 l[n].f1 l[n].f2 l[n].f3 from c)), if_pos (by omega), if_pos (by omega), up1 n (by omega)]
        · refine Ev.bind htx (ev_pos (by rw [ByteArray.size_append]; omega) ?_)
          rw [show (⟨#[44]⟩ : ByteArray) = B [44] from rfl, B_app, B_app, List.append_assoc, List.singleton_append]
          exact ih'
    · rw [not_okTs l n h1 c]
      refine Ev.step (f := fun _ => some (B [])) (fun k => ?_) (Ev.now _)
      simp only [spec_TxsText.l0]
      rw [if_pos (by omega), if_pos (by omega), rdT_nat l n h1, spec_TxOk_val, Option.bind_some, if_neg (by simpa using (show ¬ txIs l[n].f0 l[n].f1 l[n].f2 l[n].f3 from c))]
theorem spec_TxsText_ev (l : List S26) (hl : l.length ≤ 1048576) : Ev (fun k => spec_TxsText.f k l) (B (textTs (l.map tq))) := by
  unfold spec_TxsText.f
  exact spec_TxsText_loop l hl l.length 0 (by omega) (by omega) (by intro x hx; simp at hx)

theorem sameTxs_refl (l : List S26) (hl : l.length ≤ 35184372088832) : Ev (fun k => laws_sameTxs.f k l l) true := by
  unfold laws_sameTxs.f
  refine ev_pos rfl ?_
  have loop : ∀ (d n : Nat), l.length - n = d → n ≤ l.length → Ev (fun k => laws_sameTxs.l0 k l l (n : Int)) true := by
    intro d
    induction d with
    | zero =>
      intro n hd hn
      exact Ev.step (f := fun _ => some true) (fun k => by simp only [laws_sameTxs.l0]; rw [if_neg (by omega)]) (ev_some rfl)
    | succ d ih =>
      intro n hd hn
      have h1 : n < l.length := by omega
      refine Ev.step (f := fun k => laws_sameTxs.l0 k l l ((n + 1 : Nat) : Int)) (fun k => ?_) (ih (n + 1) (by omega) (by omega))
      simp only [laws_sameTxs.l0]
      rw [if_pos (by omega), if_pos (by omega), if_pos (by omega), if_neg (by simp), up1 n (by omega)]
  exact loop l.length 0 (by omega) (by omega)

theorem spec_PoolTake_val (k : Nat) (p : List S26) (h n : List Int) (hl : p.length ≤ 1048576) (b1 : h.length ≤ 1048576) (b2 : n.length ≤ 1048576) : spec_PoolTake.f k p h n = some (takeS h n [] p) := by unfold spec_PoolTake.f; rw [if_pos ⟨hl, b1, b2⟩]

theorem spec_PoolDrop_val (k : Nat) (p : List S26) (h n : List Int) (hl : p.length ≤ 1048576) (b1 : h.length ≤ 1048576) (b2 : n.length ≤ 1048576) : spec_PoolDrop.f k p h n = some (dropS h n p) := by unfold spec_PoolDrop.f; rw [if_pos ⟨hl, b1, b2⟩]

def payA : List Int → List Int → List Int → List S26 → List Int × List Int × List Int
  | h, n, acc, [] => (h, n, acc)
  | h, n, acc, x :: l => payA (payS h n x).1 (payS h n x).2.1 (acc ++ [(payS h n x).2.2]) l
theorem payA_len : ∀ (h n acc : List Int) (l : List S26), (payA h n acc l).1.length = h.length ∧ (payA h n acc l).2.1.length = n.length ∧ (payA h n acc l).2.2.length = acc.length + l.length
  | h, n, acc, [] => by simp [payA]
  | h, n, acc, x :: l => by
    obtain ⟨a, b, c⟩ := payA_len (payS h n x).1 (payS h n x).2.1 (acc ++ [(payS h n x).2.2]) l
    obtain ⟨d, e⟩ := paid_len h n x.f0 x.f1 x.f2 x.f3
    unfold payA
    refine ⟨a.trans d, b.trans e, c.trans ?_⟩
    simp; omega
theorem impl_PayAll_loop (p : List S26) (hl : p.length ≤ 1048576) : ∀ (d i : Nat) (h n acc : List Int), h.length ≤ 1048576 → n.length ≤ 1048576 → p.length - i = d → i ≤ p.length → acc.length ≤ i → Ev (fun k => impl_PayAll.l0 k acc p (p.length : Int) (i : Int) h n) (payA h n acc (p.drop i)) := by
  intro d
  induction d with
  | zero =>
    intro i h n acc b1 b2 hd hi ha
    obtain rfl : i = p.length := by omega
    rw [List.drop_length]
    exact Ev.step (f := fun _ => some (h, n, acc)) (fun k => by simp only [impl_PayAll.l0]; rw [if_neg (by omega)]) (ev_some rfl)
  | succ d ih =>
    intro i h n acc b1 b2 hd hi ha
    have h1 : i < p.length := by omega
    rw [List.drop_eq_getElem_cons h1]
    unfold payA
    refine Ev.step (f := fun k => (impl_Pay.f k h n p[i].f0 p[i].f1 p[i].f2 p[i].f3).bind fun bt => if acc.length < 17592186044416 then (impl_PayAll.l0 k (acc ++ [bt.2.2]) p (p.length : Int) ((i + 1 : Nat) : Int) bt.1 bt.2.1) else none) (fun k => by simp only [impl_PayAll.l0]; rw [if_pos (by omega), if_pos (by omega), if_pos (by omega), rdT_nat p i h1, up1 i (by omega)]) ?_
    refine Ev.bind (impl_Pay_ev h n _ _ _ _ b1 b2) ?_
    obtain ⟨e1, e2⟩ := paid_len h n p[i].f0 p[i].f1 p[i].f2 p[i].f3
    exact ev_pos (by omega) (ih (i + 1) _ _ _ (by first | omega | (unfold payS; omega)) (by first | omega | (unfold payS; omega)) (by omega) (by omega) (by simp; omega))
theorem impl_PayAll_ev (h n : List Int) (b1 : h.length ≤ 1048576) (b2 : n.length ≤ 1048576) (p : List S26) (hl : p.length ≤ 1048576) : Ev (fun k => impl_PayAll.f k h n p) (payA h n [] p) := by
  unfold impl_PayAll.f
  exact ev_const (impl_copyLedger_val h n b1 b2) (impl_PayAll_loop p hl p.length 0 h n [] b1 b2 (by omega) (by omega) (by simp))

local instance : ZeroT Tryd.prog 26 #[.int .i64 0, .int .i64 0, .int .i64 0, .int .i64 0] := ⟨by kernel_rfl⟩
local instance : AggT Tryd.prog 26 4 := ⟨by kernel_rfl, by kernel_rfl⟩
local instance : ZeroT Tryd.prog 33 #[.slice none 0 0, .slice none 0 0] := ⟨by kernel_rfl⟩
local instance : AggT Tryd.prog 33 2 := ⟨by kernel_rfl, by kernel_rfl⟩

theorem take_paid : ∀ (l : List S26) (h n : List Int) (acc : List S26), ∃ t, takeS h n acc l = acc ++ t ∧ ∀ c0 : List Int, (∀ z ∈ c0, z = 0 ∨ z = 4) → ∀ z ∈ (payA h n c0 t).2.2, z = 0 ∨ z = 4
  | [], h, n, acc => ⟨[], by simp [takeS], fun c0 hc => hc⟩
  | x :: l, h, n, acc => by
    unfold takeS
    by_cases c : 2 ≤ acc.length
    · rw [if_pos c]
      exact ⟨[], by simp, fun c0 hc => hc⟩
    rw [if_neg c]
    by_cases d : (payS h n x).2.2 = 0 ∨ (payS h n x).2.2 = 4
    · rw [if_pos d]
      obtain ⟨t, e, ht⟩ := take_paid l (payS h n x).1 (payS h n x).2.1 (acc ++ [x])
      refine ⟨x :: t, by rw [e, List.append_assoc]; rfl, fun c0 hc => ?_⟩
      exact ht (c0 ++ [(payS h n x).2.2]) (fun z hz => by
        rcases List.mem_append.1 hz with hz | hz
        · exact hc z hz
        · rw [List.mem_singleton] at hz
          rw [hz]; exact d)
    · rw [if_neg d]
      exact take_paid l h n acc
theorem take_two : ∀ (l : List S26) (h n : List Int) (acc : List S26), acc.length ≤ 2 → (takeS h n acc l).length ≤ 2
  | [], h, n, acc, b => by unfold takeS; exact b
  | x :: l, h, n, acc, b => by
    unfold takeS
    by_cases c : 2 ≤ acc.length
    · rw [if_pos c]; exact b
    rw [if_neg c]
    split
    · exact take_two l _ _ _ (by simp; omega)
    · exact take_two l _ _ _ b
theorem insN_ge (l : List S26) (x : S26) (n i : Nat) (hn : n ≤ l.length) (hi : n ≤ i) : (insN l x n).getD (i + 1) z26 = l.getD i z26 := by
  unfold insN
  rw [List.getD_eq_getElem?_getD, List.getD_eq_getElem?_getD, List.getElem?_append_right (by simp; omega), List.length_take, Nat.min_eq_left hn, show i + 1 - n = (i - n) + 1 from by omega, List.getElem?_cons_succ, List.getElem?_drop, show n + (i - n) = i from by omega]
theorem before_self {a : S26} (h : beforeS a a) : False := before_asymm h h
theorem add_twice (p : List S26) (x : S26) (n : Nat) (hn : n ≤ p.length) : ¬ poolIs (insN (insN p x n) x (firstT (insN p x n) x)) := fun h => by
  have hm := firstT_le (insN p x n) x
  generalize firstT (insN p x n) x = m at h hm
  have la := insN_len p x n hn
  have lb := insN_len (insN p x n) x m hm
  have e1 := insN_at (insN p x n) x m hm
  have e2 := insN_at p x n hn
  rcases Nat.lt_or_ge n m with c | c
  · have e3 := insN_lt (insN p x n) x m n hm c
    have s := pool_sorted h (m - n - 1) n (by omega)
    rw [show n + (m - n - 1) + 1 = m by omega, e1, e3, e2] at s
    exact before_self s
  · have e3 := insN_ge (insN p x n) x m n hm c
    have s := pool_sorted h (n - m) m (by omega)
    rw [show m + (n - m) + 1 = n + 1 by omega, e1, e3, e2] at s
    exact before_self s
open Classical in
theorem FnPools {w : World} {A0 : Option Addr} {c0 : Nat} (l : List Int) (hm0 : l.length ≤ maxLen) (hw0 : ∀ x ∈ l, (Lit.int .u8 x).wf = true) (hr0 : Kd.C (Kd.int .u8) w A0 l.length l) (hc0 : l.length ≤ c0) (hL : LaidW w) :
    Calls Tryd.prog 3 #[.slice A0 l.length c0] w fun e w' => e = .returned (.bool true) ∧ Below w.heap.size w w' := by
  by_cases cb : (l.length : Int) > 1048576
  · exact w0.walk0 A0 c0 l w ⟨hr0⟩ ⟨hc0⟩ ⟨by unfold laws_big.f; rw [decide_eq_true cb]⟩
  have hb : laws_big.f l = some false := by unfold laws_big.f; rw [decide_eq_false cb]
  obtain ⟨p, x0, x1, x2, x3, e1, lp⟩ := DrawPoolAdd_ev l (by omega)
  obtain ⟨q, h, n, e4, lq, lh, ln⟩ := DrawPoolTake_ev l (by omega)
  have lt : (takeS h n [] q).length ≤ 2 := take_two q h n [] (by simp)
  have ld : (dropS h n q).length ≤ q.length := List.length_filter_le _ _
  have f5 := impl_PoolTake_val 0 q h n (by omega) (by omega) (by omega)
  have f9 := spec_PoolTake_val 0 q h n (by omega) (by omega) (by omega)
  have f6 := impl_PoolDrop_val 0 q h n (by omega) (by omega) (by omega)
  have f11 := spec_PoolDrop_val 0 q h n (by omega) (by omega) (by omega)
  obtain ⟨t0, ht0, hpd⟩ := take_paid q h n []
  rw [List.nil_append] at ht0
  have hcodes := hpd [] (fun z hz => absurd hz (by simp))
  rw [← ht0] at hcodes
  generalize takeS h n [] q = t at lt f5 f9 hcodes ht0
  generalize dropS h n q = d at ld f6 f11
  clear ht0 hpd t0
  have e15 := impl_PayAll_ev h n (by omega) (by omega) t (by omega)
  have hl15 := (payA_len h n [] t).2.2
  obtain ⟨mh, mn, mc, hp⟩ : ∃ x y z, payA h n [] t = (x, y, z) := ⟨_, _, _, rfl⟩
  rw [hp] at e15 hl15 hcodes
  simp only [List.length_nil, Nat.zero_add] at hl15 hcodes
  have hmc : ∀ j : Int, 0 ≤ j → j < (mc.length : Int) → rd mc j = 0 ∨ rd mc j = 4 := fun j j0 j1 => by
    obtain ⟨i, rfl⟩ := Int.eq_ofNat_of_zero_le j0
    rw [rd_nat mc i (by omega)]
    exact hcodes _ (List.getElem_mem _)
  obtain ⟨k1, f1⟩ := e1.rounds
  obtain ⟨k4, f4⟩ := e4.rounds
  obtain ⟨k15, f15⟩ := e15.rounds
  obtain ⟨k10, f10⟩ := (sameTxs_refl t (by omega)).rounds
  obtain ⟨k12, f12⟩ := (sameTxs_refl d (by omega)).rounds
  obtain ⟨k13, f13⟩ := (impl_PoolOk_ev p (by omega)).rounds
  obtain ⟨k14, f14⟩ := (spec_PoolOk_ev p (by omega)).rounds
  obtain ⟨k2, f2⟩ := (impl_PoolAdd_ev p ⟨x0, x1, x2, x3⟩ (by omega)).rounds
  obtain ⟨k3, f3⟩ := (spec_PoolAdd_ev p ⟨x0, x1, x2, x3⟩ (by omega)).rounds
  by_cases hok : poolIs (insN p ⟨x0, x1, x2, x3⟩ (firstT p ⟨x0, x1, x2, x3⟩))
  · have ha : poolAddS p ⟨x0, x1, x2, x3⟩ = (insN p ⟨x0, x1, x2, x3⟩ (firstT p ⟨x0, x1, x2, x3⟩), true) := by unfold poolAddS finN; rw [if_pos hok]
    have la := insN_len p ⟨x0, x1, x2, x3⟩ _ (firstT_le p ⟨x0, x1, x2, x3⟩)
    have tw := add_twice p ⟨x0, x1, x2, x3⟩ _ (firstT_le p ⟨x0, x1, x2, x3⟩)
    rw [ha] at f2 f3
    generalize insN p ⟨x0, x1, x2, x3⟩ (firstT p ⟨x0, x1, x2, x3⟩) = a at hok la tw f2 f3
    have hb2 : poolAddS a ⟨x0, x1, x2, x3⟩ = (a, false) := by unfold poolAddS finN; rw [if_neg tw]
    obtain ⟨k7, f7⟩ := (impl_TxsText_ev a (by omega)).rounds
    obtain ⟨k8, f8⟩ := (spec_TxsText_ev a (by omega)).rounds
    obtain ⟨k16, f16⟩ := (impl_PoolAdd_ev a ⟨x0, x1, x2, x3⟩ (by omega)).rounds
    obtain ⟨k17, f17⟩ := (impl_PoolOk_ev a (by omega)).rounds
    rw [hb2] at f16
    rw [decide_eq_true hok] at f17
    exact w0.walkT (hr0 := ⟨hr0⟩) (hc0 := ⟨hc0⟩) (hb := ⟨hb⟩) (h1 := ⟨f1⟩) (h2 := ⟨f2⟩) (h3 := ⟨f3⟩) (h4 := ⟨f4⟩) (h5 := ⟨f5⟩) (h6 := ⟨f6⟩) (h7 := ⟨f7⟩) (h8 := ⟨f8⟩) (h9 := ⟨f9⟩) (h10 := ⟨f10⟩) (h11 := ⟨f11⟩) (h12 := ⟨f12⟩) (h13 := ⟨f13⟩) (h14 := ⟨f14⟩) (h15 := ⟨f15⟩) (h16 := ⟨f16⟩) (h17 := ⟨f17⟩) (hLW := ⟨hL⟩) (hml := by omega) (hmc := ⟨hmc⟩) (g1 := beq_iff_eq.mpr (by unfold wrap64; omega)) (g3 := decide_eq_true (by omega)) (g4 := decide_eq_true (by omega)) (g5 := decide_eq_true (by omega)) (g6 := decide_eq_true (by omega))
  · have ha : poolAddS p ⟨x0, x1, x2, x3⟩ = (p, false) := by unfold poolAddS finN; rw [if_neg hok]
    rw [ha] at f2 f3
    obtain ⟨k7, f7⟩ := (impl_TxsText_ev p (by omega)).rounds
    obtain ⟨k8, f8⟩ := (spec_TxsText_ev p (by omega)).rounds
    exact w0.walkF (hr0 := ⟨hr0⟩) (hc0 := ⟨hc0⟩) (hb := ⟨hb⟩) (h1 := ⟨f1⟩) (h2 := ⟨f2⟩) (h3 := ⟨f3⟩) (h4 := ⟨f4⟩) (h5 := ⟨f5⟩) (h6 := ⟨f6⟩) (h7 := ⟨f7⟩) (h8 := ⟨f8⟩) (h9 := ⟨f9⟩) (h10 := ⟨f10⟩) (h11 := ⟨f11⟩) (h12 := ⟨f12⟩) (h13 := ⟨f13⟩) (h14 := ⟨f14⟩) (h15 := ⟨f15⟩) (hLW := ⟨hL⟩) (hml := by omega) (hmc := ⟨hmc⟩) (g1 := beq_iff_eq.mpr rfl) (g2 := beq_iff_eq.mpr rfl)
end Go.Proofs.YtnlakfbbbnkcpaaDoor.Law
