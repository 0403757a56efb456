/- Whatever is paid of a drawn ledger: what all have together stays; nobody has less than nothing; a payment counts once; no condition. -/
import Derived.Test.YtajblkfgdalldaaPFnLedgersx0
import Derived.Test.YtajblkfgdalldaaPFnLedgersx1
import Derived.Test.YtajblkfgdalldaaPFnLedgersx2
import Derived.Test.YtajblkfgdalldaaPFnLedgersx3
import Derived.Test.YtajblkfgdalldaaPFnLedgersx4
import Derived.Test.YtajblkfgdalldaaPFnLedgersx5
import Derived.Test.YtajblkfgdalldaaPFnLedgersx6
import Derived.Test.YtajblkfgdalldaaPFnLedgersx7
import Derived.Test.YtajblkfgdalldaaH
import Derived.Test.YtajblkfgdalldaaRowKit
import Derived.Test.YtajblkfgdalldaaLawFnLedgersw0
import Derived.Test.YtajblkfgdalldaaLawFnLedgersw1
namespace Go.Proofs.Ytajblkfgdalldaa.Law
open Go.RowKit Go.Proofs.YtajblkfgdalldaaW.PrintWords Go.Proofs.YtajblkfgdalldaaW.PrintLast Go.Proofs.YtajblkfgdalldaaW.PrintMore Go.Proofs.YtajblkfgdalldaaH Go.Proofs.Ytajblkfgdalldaa.PFnLedgers
set_option linter.unusedVariables false
set_option linter.unusedSimpArgs false

/-- What all have together, as an int holds it. -/
def totalW (l : List Int) : Int := l.foldl (fun s x => wrap64 (s + x)) 0
theorem totalW_step (l : List Int) (i : Nat) (h : i < l.length) : (l.take (i + 1)).foldl (fun s x => wrap64 (s + x)) 0 = wrap64 ((l.take i).foldl (fun s x => wrap64 (s + x)) 0 + l[i]) := by
  rw [List.take_succ_eq_append_getElem h, List.foldl_append]; rfl
theorem spec_Total_loop (l m : List Int) (hl : l.length ≤ 35184372088832) : ∀ (d i : Nat), l.length - i = d → i ≤ l.length → Ev (fun k => spec_Total.l0 k ((l.take i).foldl (fun s x => wrap64 (s + x)) 0) (i : Int) l m) (totalW l) := by
  intro d
  induction d with
  | zero =>
    intro i hd hi
    refine Ev.step (f := fun _ => some ((l.take i).foldl (fun s x => wrap64 (s + x)) 0)) (fun k => by simp only [spec_Total.l0]; rw [if_neg (by omega)]) (ev_some ?_)
    rw [List.take_of_length_le (by omega)]; rfl
  | succ d ih =>
    intro i hd hi
    have h1 : i < l.length := by omega
    refine Ev.step (f := fun k => spec_Total.l0 k ((l.take (i + 1)).foldl (fun s x => wrap64 (s + x)) 0) ((i + 1 : Nat) : Int) l m) (fun k => ?_) (ih (i + 1) (by omega) (by omega))
    simp only [spec_Total.l0]
    rw [if_pos (by omega), if_pos (by omega), rd_nat l i h1, up1 i (by omega), totalW_step l i h1]
theorem spec_Total_ev (l m : List Int) (hl : l.length ≤ 35184372088832) : Ev (fun k => spec_Total.f k l m) (totalW l) := by
  unfold spec_Total.f
  exact spec_Total_loop l m hl l.length 0 (by omega) (by omega)

theorem impl_Total_loop (l : List Int) (hl : l.length ≤ 35184372088832) : ∀ (d i : Nat), l.length - i = d → i ≤ l.length → Ev (fun k => impl_Total.l0 k ((l.take i).foldl (fun s x => wrap64 (s + x)) 0) l (l.length : Int) (i : Int)) (totalW l) := by
  intro d
  induction d with
  | zero =>
    intro i hd hi
    refine Ev.step (f := fun _ => some ((l.take i).foldl (fun s x => wrap64 (s + x)) 0)) (fun k => by simp only [impl_Total.l0]; rw [if_neg (by omega)]) (ev_some ?_)
    rw [List.take_of_length_le (by omega)]; rfl
  | succ d ih =>
    intro i hd hi
    have h1 : i < l.length := by omega
    refine Ev.step (f := fun k => impl_Total.l0 k ((l.take (i + 1)).foldl (fun s x => wrap64 (s + x)) 0) l (l.length : Int) ((i + 1 : Nat) : Int)) (fun k => ?_) (ih (i + 1) (by omega) (by omega))
    simp only [impl_Total.l0]
    rw [if_pos (by omega), if_pos (by omega), if_pos (by omega), rd_nat l i h1, up1 i (by omega), totalW_step l i h1]
theorem impl_Total_ev (l m : List Int) (hl : l.length ≤ 35184372088832) : Ev (fun k => impl_Total.f k l m) (totalW l) := by
  unfold impl_Total.f
  exact impl_Total_loop l hl l.length 0 (by omega) (by omega)

theorem spec_LedgerNew_ev : Ev (fun k => spec_LedgerNew.f k) ([100, 100, 100, 100], [0, 0, 0, 0]) :=
  Ev.of (fun k => spec_LedgerNew.mono k) (k := 6) (by simp [spec_LedgerNew.f, spec_LedgerNew.l0, wrap64])

theorem impl_LedgerNew_ev : Ev (fun k => impl_LedgerNew.f k) ([100, 100, 100, 100], [0, 0, 0, 0]) :=
  Ev.of (fun k => impl_LedgerNew.mono k) (k := 6) (by simp [impl_LedgerNew.f, impl_LedgerNew.l0, wrap64])

theorem and_range (x y : Int) (m : Nat) (hy : y = (m : Int)) (hm : m < 4611686018427387904) : 0 ≤ Go.bits .and .i64 x y ∧ Go.bits .and .i64 x y ≤ (m : Int) := by
  subst hy
  have h2 : ((BitVec.ofInt 64 x) &&& (BitVec.ofInt 64 (m : Int))).toNat ≤ m := by
    rw [BitVec.toNat_and]
    refine Nat.le_trans Nat.and_le_right ?_
    rw [BitVec.ofInt_natCast, BitVec.toNat_ofNat]
    exact Nat.mod_le _ _
  have e : Go.bits .and .i64 x (m : Int) = IntKind.i64.wrap (((BitVec.ofInt 64 x) &&& (BitVec.ofInt 64 (m : Int))).toNat : Int) := rfl
  rw [e]
  generalize ((BitVec.ofInt 64 x) &&& (BitVec.ofInt 64 (m : Int))).toNat = q at h2
  rw [IntKind.wrap_i64]
  omega
/-- A cursor's place. -/
def Cur (i : Int) : Prop := 0 ≤ i ∧ i ≤ 1099511627776
theorem l1New_ev (l : List Int) (hl : l.length ≤ 1048576) : ∃ h : Int, Ev (fun k => spec_l1New.f k l) (l, 0, h) := by
  have loop : ∀ (d n : Nat) (h : Int), l.length - n = d → n ≤ l.length → ∃ h', Ev (fun k => spec_l1New.l0 k l h (n : Int)) (l, 0, h') := by
    intro d
    induction d with
    | zero =>
      intro n h hd hn
      exact ⟨h, Ev.step (f := fun _ => some (l, 0, h)) (fun k => by simp only [spec_l1New.l0]; rw [if_neg (by omega)]) (ev_some rfl)⟩
    | succ d ih =>
      intro n h hd hn
      by_cases c : (n : Int) < 4000
      · obtain ⟨h', hh⟩ := ih (n + 1) (Go.bits .and .i64 (wrap64 ((wrap64 ((wrap64 (h * 131)) + (wrap64 (rd l (n : Int))))) + 7)) 1073741823) (by omega) (by omega)
        refine ⟨h', Ev.step (f := fun k => spec_l1New.l0 k l (Go.bits .and .i64 (wrap64 ((wrap64 ((wrap64 (h * 131)) + (wrap64 (rd l (n : Int))))) + 7)) 1073741823) ((n + 1 : Nat) : Int)) (fun k => ?_) hh⟩
        simp only [spec_l1New.l0]
        rw [if_pos (by omega), if_pos c, if_pos (by omega), up1 n (by omega)]
      · exact ⟨h, Ev.step (f := fun _ => some (l, 0, h)) (fun k => by simp only [spec_l1New.l0]; rw [if_pos (by omega), if_neg c]) (ev_some rfl)⟩
  unfold spec_l1New.f
  exact loop l.length 0 _ (by omega) (by omega)

theorem spec_Pay_ev (h n : List Int) (f t a m : Int) (b1 : h.length ≤ 1048576) (b2 : n.length ≤ 1048576) : Ev (fun k => spec_Pay.f k h n f t a m) (payL h n f t a m) :=
  ⟨0, fun k _ => by show spec_Pay.f k h n f t a m = _; unfold spec_Pay.f; rw [if_pos ⟨b1, b2⟩]⟩

theorem l1Byte_some (l : List Int) (i h : Int) (hl : l.length ≤ 1048576) (hi : Cur i) : ∃ v i' h', spec_l1Byte.f l i h = some (v, i', h') ∧ 0 ≤ v ∧ v ≤ 255 ∧ Cur i' := by
  unfold spec_l1Byte.f
  by_cases c : i < (l.length : Int)
  · rw [if_pos c, if_pos hi.1]
    refine ⟨_, _, _, rfl, (and_range _ 255 255 rfl (by omega)).1, (and_range _ 255 255 rfl (by omega)).2, ?_⟩
    rw [up1' i (by unfold Cur at hi; omega) (by unfold Cur at hi; omega)]
    unfold Cur at hi ⊢; omega
  · rw [if_neg c]
    exact ⟨_, _, _, rfl, (and_range _ 255 255 rfl (by omega)).1, (and_range _ 255 255 rfl (by omega)).2, hi⟩

theorem l1Below_some (l : List Int) (i h n : Int) (hl : l.length ≤ 1048576) (hi : Cur i) (hn : 0 < n) (hn' : n ≤ 256) : ∃ v i' h', spec_l1Below.f l i h n = some (v, i', h') ∧ 0 ≤ v ∧ v < n ∧ Cur i' := by
  obtain ⟨v, i', h', e, h0, h1, hc⟩ := l1Byte_some l i h hl hi
  unfold spec_l1Below.f
  rw [if_neg (by omega), if_pos hn', e, Option.bind_some, if_neg (by omega)]
  refine ⟨_, _, _, rfl, ?_, ?_, hc⟩
  · exact Int.tmod_nonneg _ h0
  · exact Int.tmod_lt_of_pos _ hn

theorem l1PickInt_some (l : List Int) (i h : Int) (xs : List Int) (hl : l.length ≤ 1048576) (hi : Cur i) (hx : 0 < xs.length) (hx' : xs.length ≤ 256) : ∃ v i' h', spec_l1PickInt.f l i h xs = some (v, i', h') ∧ v ∈ xs ∧ Cur i' := by
  obtain ⟨v, i', h', e, h0, h1, hc⟩ := l1Below_some l i h (xs.length : Int) hl hi (by omega) (by omega)
  unfold spec_l1PickInt.f
  rw [e, Option.bind_some, if_pos h0, if_pos h1]
  refine ⟨_, _, _, rfl, ?_, hc⟩
  obtain ⟨m, rfl⟩ := Int.eq_ofNat_of_zero_le h0
  rw [rd_nat xs m (by omega)]
  exact List.getElem_mem _

theorem l2DrawRight_some (l : List Int) (i h : Int) (hl : l.length ≤ 1048576) (hi : Cur i) : ∃ f t a m i' h', spec_l2DrawRight.f l i h = some (f, t, a, m, i', h') ∧ (0 ≤ f ∧ f ≤ 3) ∧ (0 ≤ t ∧ t ≤ 3) ∧ (0 ≤ a ∧ a ≤ 1000) ∧ (0 ≤ m ∧ m ≤ 2) ∧ Cur i' := by
  obtain ⟨f, i1, h1, e1, f0, f1, c1⟩ := l1Below_some l i h 4 hl hi (by omega) (by omega)
  obtain ⟨t, i2, h2, e2, t0, t1, c2⟩ := l1Below_some l i1 h1 4 hl c1 (by omega) (by omega)
  obtain ⟨a, i3, h3, e3, ha, c3⟩ := l1PickInt_some l i2 h2 [0, 5, 60, 100, 1000] hl c2 (by decide) (by decide)
  obtain ⟨m, i4, h4, e4, m0, m1, c4⟩ := l1Below_some l i3 h3 3 hl c3 (by omega) (by omega)
  unfold spec_l2DrawRight.f
  rw [e1, Option.bind_some, e2, Option.bind_some, e3, Option.bind_some, e4, Option.bind_some]
  refine ⟨_, _, _, _, _, _, rfl, ⟨f0, by omega⟩, ⟨t0, by omega⟩, ?_, ⟨m0, by omega⟩, c4⟩
  simp only [List.mem_cons, List.not_mem_nil, or_false] at ha
  omega

theorem paid_len (h n : List Int) (f t a m : Int) : (payL h n f t a m).1.length = h.length ∧ (payL h n f t a m).2.1.length = n.length := by
  unfold payL
  repeat' split
  all_goals first | exact ⟨rfl, rfl⟩ | exact ⟨rfl, by simp⟩ | exact ⟨by simp [mvL], by simp⟩
theorem l3DrawRight_loop (l : List Int) (hl : l.length ≤ 1048576) : ∀ (d j : Nat) (i hh : Int) (h n : List Int), 6 - j = d → j ≤ 6 → Cur i → h.length = 4 → n.length = 4 → ∃ h' n' i' hh', Ev (fun k => spec_l3DrawRight.l0 k (j : Int) l i hh h n) (h', n', i', hh') ∧ Cur i' ∧ h'.length = 4 ∧ n'.length = 4 := by
  intro d
  induction d with
  | zero =>
    intro j i hh h n hd hj hi e1 e2
    obtain ⟨v, i1, h1, ev, v0, v1, c1⟩ := l1Below_some l i hh 6 hl hi (by omega) (by omega)
    exact ⟨h, n, i1, h1, Ev.step (f := fun _ => some (h, n, i1, h1)) (fun k => by simp only [spec_l3DrawRight.l0]; rw [ev, Option.bind_some, if_neg (by omega)]) (ev_some rfl), c1, e1, e2⟩
  | succ d ih =>
    intro j i hh h n hd hj hi e1 e2
    obtain ⟨v, i1, h1, ev, v0, v1, c1⟩ := l1Below_some l i hh 6 hl hi (by omega) (by omega)
    by_cases c : (j : Int) < v
    · obtain ⟨f, t, a, m, i2, h2, ed, hf, ht, ha, hm, c2⟩ := l2DrawRight_some l i1 h1 hl c1
      obtain ⟨p1, p2⟩ := paid_len h n f t a (rd n f)
      obtain ⟨h', n', i', hh', hev, r1, r2, r3⟩ := ih (j + 1) i2 h2 (payL h n f t a (rd n f)).1 (payL h n f t a (rd n f)).2.1 (by omega) (by omega) c2 (by omega) (by omega)
      refine ⟨h', n', i', hh', Ev.step (f := fun k => (spec_Pay.f k h n f t a (rd n f)).bind fun bt => spec_l3DrawRight.l0 k ((j + 1 : Nat) : Int) l i2 h2 bt.1 bt.2.1) (fun k => by
        simp only [spec_l3DrawRight.l0]
        rw [ev, Option.bind_some, if_pos c]
        simp only
        rw [ed, Option.bind_some, if_pos hf.1, if_pos (by simp only; omega), up1 j (by omega)]) ?_, r1, r2, r3⟩
      exact Ev.bind (spec_Pay_ev h n f t a (rd n f) (by omega) (by omega)) hev
    · exact ⟨h, n, i1, h1, Ev.step (f := fun _ => some (h, n, i1, h1)) (fun k => by simp only [spec_l3DrawRight.l0]; rw [ev, Option.bind_some, if_neg c]) (ev_some rfl), c1, e1, e2⟩
theorem l3DrawRight_ev (l : List Int) (hl : l.length ≤ 1048576) (i hh : Int) (hi : Cur i) : ∃ h n i' hh', Ev (fun k => spec_l3DrawRight.f k l i hh) (h, n, i', hh') ∧ Cur i' ∧ h.length = 4 ∧ n.length = 4 := by
  obtain ⟨h, n, i', hh', he, c, l1, l2⟩ := l3DrawRight_loop l hl 6 0 i hh [100, 100, 100, 100] [0, 0, 0, 0] (by omega) (by omega) hi rfl rfl
  refine ⟨h, n, i', hh', ?_, c, l1, l2⟩
  unfold spec_l3DrawRight.f
  exact Ev.bind spec_LedgerNew_ev he

theorem l3Draw_ev (l : List Int) (hl : l.length ≤ 1048576) (i hh : Int) (hi : Cur i) : ∃ h n i' hh', Ev (fun k => spec_l3Draw.f k l i hh) (h, n, i', hh') ∧ Cur i' ∧ h.length ≤ 5 ∧ n.length = 4 := by
  obtain ⟨h, n, i1, h1, he, c, l1, l2⟩ := l3DrawRight_ev l hl i hh hi
  obtain ⟨v, i2, h2, e2, v0, v1, c2⟩ := l1Below_some l i1 h1 10 hl c (by omega) (by omega)
  obtain ⟨x, i3, h3, e3, hx, c3⟩ := l1PickInt_some l i2 h2 [-1, 400, 401] hl c2 (by decide) (by decide)
  obtain ⟨y, i4, h4, e4, hy, c4⟩ := l1PickInt_some l i2 h2 [-1, 99, 100, 101] hl c2 (by decide) (by decide)
  have key : ∀ r, (if v = 0 then ((spec_l1PickInt.f l i2 h2 [-1, 400, 401]).bind fun bt => (if 1 < (h.length : Int) then some ((h.set (1 : Int).toNat bt.1), n, bt.2.1, bt.2.2) else none)) else (if v = 1 then ((spec_l1PickInt.f l i2 h2 [-1, 99, 100, 101]).bind fun bt => (if 2 < (n.length : Int) then some (h, (n.set (2 : Int).toNat bt.1), bt.2.1, bt.2.2) else none)) else (if v = 2 then (if h.length < 17592186044416 then some ((h ++ [1]), n, i2, h2) else none) else some (h, n, i2, h2)))) = some r → Ev (fun k => spec_l3Draw.f k l i hh) r := fun r hr => by
    unfold spec_l3Draw.f
    refine Ev.bind he ?_
    simp only
    rw [e2]
    exact ⟨0, fun _ _ => hr⟩
  by_cases d0 : v = 0
  · exact ⟨_, _, _, _, key _ (by rw [if_pos d0, e3, Option.bind_some, if_pos (by omega)]), c3, by simp; omega, l2⟩
  by_cases d1 : v = 1
  · exact ⟨_, _, _, _, key _ (by rw [if_neg d0, if_pos d1, e4, Option.bind_some, if_pos (by omega)]), c4, by omega, by simp; omega⟩
  by_cases d2 : v = 2
  · exact ⟨_, _, _, _, key _ (by rw [if_neg d0, if_neg d1, if_pos d2, if_pos (by omega)]), c2, by simp; omega, l2⟩
  · exact ⟨_, _, _, _, key _ (by rw [if_neg d0, if_neg d1, if_neg d2]), c2, by omega, l2⟩

theorem l2Draw_some (l : List Int) (i h : Int) (hl : l.length ≤ 1048576) (hi : Cur i) : ∃ f t a m i' h', spec_l2Draw.f l i h = some (f, t, a, m, i', h') ∧ (-1 ≤ f ∧ f ≤ 4) ∧ (-1 ≤ t ∧ t ≤ 4) ∧ (-1 ≤ a ∧ a ≤ 1001) ∧ (-1 ≤ m ∧ m ≤ 100) ∧ Cur i' := by
  obtain ⟨f, t, a, m, i1, h1, e1, hf, ht, ha, hm, c1⟩ := l2DrawRight_some l i h hl hi
  obtain ⟨v, i2, h2, e2, v0, v1, c2⟩ := l1Below_some l i1 h1 12 hl c1 (by omega) (by omega)
  obtain ⟨x, i3, h3, e3, hx, c3⟩ := l1PickInt_some l i2 h2 [-1, 4] hl c2 (by decide) (by decide)
  obtain ⟨y, i4, h4, e4, hy, c4⟩ := l1PickInt_some l i2 h2 [-1, 1001] hl c2 (by decide) (by decide)
  obtain ⟨z, i5, h5, e5, hz, c5⟩ := l1PickInt_some l i2 h2 [-1, 99, 100] hl c2 (by decide) (by decide)
  simp only [List.mem_cons, List.not_mem_nil, or_false] at hx hy hz
  unfold spec_l2Draw.f
  rw [e1, Option.bind_some]
  simp only
  rw [e2, Option.bind_some]
  simp only
  by_cases d0 : v = 0
  · rw [if_pos d0, e3, Option.bind_some]; exact ⟨_, _, _, _, _, _, rfl, by omega, by omega, by omega, by omega, c3⟩
  rw [if_neg d0]
  by_cases d1 : v = 1
  · rw [if_pos d1, e3, Option.bind_some]; exact ⟨_, _, _, _, _, _, rfl, by omega, by omega, by omega, by omega, c3⟩
  rw [if_neg d1]
  by_cases d2 : v = 2
  · rw [if_pos d2, e4, Option.bind_some]; exact ⟨_, _, _, _, _, _, rfl, by omega, by omega, by omega, by omega, c4⟩
  rw [if_neg d2]
  by_cases d3 : v = 3
  · rw [if_pos d3, e5, Option.bind_some]; exact ⟨_, _, _, _, _, _, rfl, by omega, by omega, by omega, by omega, c5⟩
  rw [if_neg d3]
  exact ⟨_, _, _, _, _, _, rfl, by omega, by omega, by omega, by omega, c2⟩

theorem DrawPay_ev (l : List Int) (hl : l.length ≤ 1048576) : ∃ h n f t a m, Ev (fun k => spec_DrawPay.f k l) (h, n, f, t, a, m) ∧ h.length ≤ 5 ∧ n.length = 4 := by
  obtain ⟨x, hx⟩ := l1New_ev l hl
  obtain ⟨h, n, i1, h1, he, c, l1, l2⟩ := l3Draw_ev l hl 0 x (by unfold Cur; omega)
  obtain ⟨f, t, a, m, i2, h2, e2, _, _, _, _, _⟩ := l2Draw_some l i1 h1 hl c
  refine ⟨h, n, f, t, a, m, ?_, l1, l2⟩
  unfold spec_DrawPay.f
  refine Ev.bind hx (Ev.bind he ?_)
  simp only
  rw [e2]
  exact ev_some rfl

theorem impl_Pay_ev (h n : List Int) (f t a m : Int) (b1 : h.length ≤ 1048576) (b2 : n.length ≤ 1048576) : Ev (fun k => impl_Pay.f k h n f t a m) (payL h n f t a m) :=
  ⟨0, fun k _ => by show impl_Pay.f k h n f t a m = _; unfold impl_Pay.f; rw [if_pos ⟨b1, b2⟩]⟩

theorem sameInts_loop (a b : List Int) (hl : a.length ≤ 35184372088832) (hab : a.length = b.length) : ∀ (d n : Nat), a.length - n = d → n ≤ a.length → Ev (fun k => laws_sameInts.l0 k a b (n : Int)) (decide (a.drop n = b.drop n)) := by
  intro d
  induction d with
  | zero =>
    intro n hd hn
    obtain rfl : n = a.length := by omega
    refine Ev.step (f := fun _ => some true) (fun k => by simp only [laws_sameInts.l0]; rw [if_neg (by omega)]) (ev_some ?_)
    rw [List.drop_of_length_le (by omega), List.drop_of_length_le (by omega)]; rfl
  | succ d ih =>
    intro n hd hn
    have h1 : n < a.length := by omega
    have h2 : n < b.length := by omega
    have e : (a.drop n = b.drop n) ↔ (a[n] = b[n] ∧ a.drop (n + 1) = b.drop (n + 1)) := by
      rw [List.drop_eq_getElem_cons h1, List.drop_eq_getElem_cons h2, List.cons.injEq]
    by_cases hc : a[n] = b[n]
    · refine Ev.step (f := fun k => laws_sameInts.l0 k a b ((n + 1 : Nat) : Int)) (fun k => ?_) (ev_eq (ih (n + 1) (by omega) (by omega)) ?_)
      · simp only [laws_sameInts.l0]
        rw [if_pos (by omega), if_pos (by omega), if_pos (by omega), rd_nat a n h1, rd_nat b n h2, if_pos hc, up1 n (by omega)]
      · exact decide_eq_decide.mpr (by rw [e]; simp [hc])
    · refine Ev.step (f := fun _ => some false) (fun k => ?_) (ev_some ?_)
      · simp only [laws_sameInts.l0]
        rw [if_pos (by omega), if_pos (by omega), if_pos (by omega), rd_nat a n h1, rd_nat b n h2, if_neg hc]
      · exact (decide_eq_false (by rw [e]; exact fun h => hc h.1)).symm
theorem sameInts_ev (a b : List Int) (hl : a.length ≤ 35184372088832) : Ev (fun k => laws_sameInts.f k a b) (decide (a = b)) := by
  unfold laws_sameInts.f
  by_cases h : a.length = b.length
  · exact ev_pos (by omega) (sameInts_loop a b hl h a.length 0 (by omega) (by omega))
  · exact ev_neg (by omega) (ev_some (decide_eq_false (fun e => h (by rw [e]))).symm)

theorem sameLedger_refl (l m : List Int) (hl : l.length ≤ 35184372088832) (hm : m.length ≤ 35184372088832) : Ev (fun k => laws_sameLedger.f k l m l m) true := by
  unfold laws_sameLedger.f
  refine Ev.bind (ev_eq (sameInts_ev l l hl) (decide_eq_true rfl)) (ev_pos rfl ?_)
  exact Ev.bind (ev_eq (sameInts_ev m m hm) (decide_eq_true rfl)) (ev_some rfl)

theorem l2DrawList_loop (l : List Int) (hl : l.length ≤ 1048576) : ∀ (d j : Nat) (i hh : Int) (p : List S45), 5 - j = d → j ≤ 5 → Cur i → p.length ≤ j → ∃ q i' hh', Ev (fun k => spec_l2DrawList.l0 k p (j : Int) l i hh) (q, i', hh') ∧ Cur i' ∧ q.length ≤ 5 := by
  intro d
  induction d with
  | zero =>
    intro j i hh p hd hj hi hp
    obtain ⟨v, i1, h1, ev, v0, v1, c1⟩ := l1Below_some l i hh 5 hl hi (by omega) (by omega)
    exact ⟨p, i1, h1, Ev.step (f := fun _ => some (p, i1, h1)) (fun k => by simp only [spec_l2DrawList.l0]; rw [ev, Option.bind_some, if_neg (by omega)]) (ev_some rfl), c1, by omega⟩
  | succ d ih =>
    intro j i hh p hd hj hi hp
    obtain ⟨v, i1, h1, ev, v0, v1, c1⟩ := l1Below_some l i hh 5 hl hi (by omega) (by omega)
    by_cases c : (j : Int) < v
    · obtain ⟨f, t, a, m, i2, h2, ed, _, _, _, _, c2⟩ := l2Draw_some l i1 h1 hl c1
      obtain ⟨q, i', hh', hev, r1, r2⟩ := ih (j + 1) i2 h2 (p ++ [⟨f, t, a, m⟩]) (by omega) (by omega) c2 (by simp; omega)
      refine ⟨q, i', hh', Ev.step (f := fun k => spec_l2DrawList.l0 k (p ++ [⟨f, t, a, m⟩]) ((j + 1 : Nat) : Int) l i2 h2) (fun k => by
        simp only [spec_l2DrawList.l0]
        rw [ev, Option.bind_some, if_pos c]
        simp only
        rw [ed, Option.bind_some, if_pos (by omega), up1 j (by omega)]) hev, r1, r2⟩
    · exact ⟨p, i1, h1, Ev.step (f := fun _ => some (p, i1, h1)) (fun k => by simp only [spec_l2DrawList.l0]; rw [ev, Option.bind_some, if_neg c]) (ev_some rfl), c1, by omega⟩
theorem l2DrawList_ev (l : List Int) (hl : l.length ≤ 1048576) (i hh : Int) (hi : Cur i) : ∃ q i' hh', Ev (fun k => spec_l2DrawList.f k l i hh) (q, i', hh') ∧ Cur i' ∧ q.length ≤ 5 := by
  unfold spec_l2DrawList.f
  exact l2DrawList_loop l hl 5 0 i hh [] (by omega) (by omega) hi (by simp)

theorem DrawPayAll_ev (l : List Int) (hl : l.length ≤ 1048576) : ∃ h n p, Ev (fun k => spec_DrawPayAll.f k l) (h, n, p) ∧ h.length ≤ 5 ∧ n.length = 4 ∧ p.length ≤ 5 := by
  obtain ⟨x, hx⟩ := l1New_ev l hl
  obtain ⟨h, n, i1, h1, he, c, l1, l2⟩ := l3Draw_ev l hl 0 x (by unfold Cur; omega)
  obtain ⟨p, i2, h2, e2, _, l3⟩ := l2DrawList_ev l hl i1 h1 c
  refine ⟨h, n, p, ?_, l1, l2, l3⟩
  unfold spec_DrawPayAll.f
  exact Ev.bind hx (Ev.bind he (Ev.bind e2 (ev_some rfl)))

def txOkS (x : S45) : Prop := txIs x.f0 x.f1 x.f2 x.f3
instance (x : S45) : Decidable (txOkS x) := by unfold txOkS; infer_instance
theorem rdT_nat (xs : List S45) (n : Nat) (h : n < xs.length) : rd_T45 xs (n : Int) = xs[n] := by
  unfold rd_T45; simp [List.getD_eq_getElem?_getD, h]
def payS (h n : List Int) (x : S45) : List Int × List Int × Int := payL h n x.f0 x.f1 x.f2 x.f3
def dropS (h n : List Int) (l : List S45) : List S45 := l.filter fun x => decide ((payS h n x).2.2 ≠ 2)
def payA : List Int → List Int → List Int → List S45 → List Int × List Int × List Int
  | h, n, acc, [] => (h, n, acc)
  | h, n, acc, x :: l => payA (payS h n x).1 (payS h n x).2.1 (acc ++ [(payS h n x).2.2]) l
theorem payA_len : ∀ (h n acc : List Int) (l : List S45), (payA h n acc l).1.length = h.length ∧ (payA h n acc l).2.1.length = n.length ∧ (payA h n acc l).2.2.length = acc.length + l.length
  | h, n, acc, [] => by simp [payA]
  | h, n, acc, x :: l => by
    obtain ⟨a, b, c⟩ := payA_len (payS h n x).1 (payS h n x).2.1 (acc ++ [(payS h n x).2.2]) l
    obtain ⟨d, e⟩ := paid_len h n x.f0 x.f1 x.f2 x.f3
    unfold payA
    refine ⟨a.trans d, b.trans e, c.trans ?_⟩
    simp; omega
theorem impl_PayAll_loop (p : List S45) (hl : p.length ≤ 1048576) : ∀ (d i : Nat) (h n acc : List Int), h.length ≤ 1048576 → n.length ≤ 1048576 → p.length - i = d → i ≤ p.length → acc.length ≤ i → Ev (fun k => impl_PayAll.l0 k acc p (p.length : Int) (i : Int) h n) (payA h n acc (p.drop i)) := by
  intro d
  induction d with
  | zero =>
    intro i h n acc b1 b2 hd hi ha
    obtain rfl : i = p.length := by omega
    rw [List.drop_length]
    exact Ev.step (f := fun _ => some (h, n, acc)) (fun k => by simp only [impl_PayAll.l0]; rw [if_neg (by omega)]) (ev_some rfl)
  | succ d ih =>
    intro i h n acc b1 b2 hd hi ha
    have h1 : i < p.length := by omega
    rw [List.drop_eq_getElem_cons h1]
    unfold payA
    refine Ev.step (f := fun k => (impl_Pay.f k h n p[i].f0 p[i].f1 p[i].f2 p[i].f3).bind fun bt => if acc.length < 17592186044416 then (impl_PayAll.l0 k (acc ++ [bt.2.2]) p (p.length : Int) ((i + 1 : Nat) : Int) bt.1 bt.2.1) else none) (fun k => by simp only [impl_PayAll.l0]; rw [if_pos (by omega), if_pos (by omega), if_pos (by omega), rdT_nat p i h1, up1 i (by omega)]) ?_
    refine Ev.bind (impl_Pay_ev h n _ _ _ _ b1 b2) ?_
    obtain ⟨e1, e2⟩ := paid_len h n p[i].f0 p[i].f1 p[i].f2 p[i].f3
    exact ev_pos (by omega) (ih (i + 1) _ _ _ (by first | omega | (unfold payS; omega)) (by first | omega | (unfold payS; omega)) (by omega) (by omega) (by simp; omega))
theorem impl_PayAll_ev (h n : List Int) (b1 : h.length ≤ 1048576) (b2 : n.length ≤ 1048576) (p : List S45) (hl : p.length ≤ 1048576) : Ev (fun k => impl_PayAll.f k h n p) (payA h n [] p) := by
  unfold impl_PayAll.f
  exact ev_const (impl_copyLedger_val h n b1 b2) (impl_PayAll_loop p hl p.length 0 h n [] b1 b2 (by omega) (by omega) (by simp))

theorem spec_PayAll_loop (p : List S45) (hl : p.length ≤ 1048576) : ∀ (d i : Nat) (h n acc : List Int), h.length ≤ 1048576 → n.length ≤ 1048576 → p.length - i = d → i ≤ p.length → acc.length ≤ i → Ev (fun k => spec_PayAll.l0 k p acc (i : Int) h n) (payA h n acc (p.drop i)) := by
  intro d
  induction d with
  | zero =>
    intro i h n acc b1 b2 hd hi ha
    obtain rfl : i = p.length := by omega
    rw [List.drop_length]
    exact Ev.step (f := fun _ => some (h, n, acc)) (fun k => by simp only [spec_PayAll.l0]; rw [if_neg (by omega)]) (ev_some rfl)
  | succ d ih =>
    intro i h n acc b1 b2 hd hi ha
    have h1 : i < p.length := by omega
    rw [List.drop_eq_getElem_cons h1]
    unfold payA
    refine Ev.step (f := fun k => (spec_Pay.f k h n p[i].f0 p[i].f1 p[i].f2 p[i].f3).bind fun bt => if acc.length < 17592186044416 then (spec_PayAll.l0 k p (acc ++ [bt.2.2]) ((i + 1 : Nat) : Int) bt.1 bt.2.1) else none) (fun k => by simp only [spec_PayAll.l0]; rw [if_pos (by omega), if_pos (by omega), rdT_nat p i h1, up1 i (by omega)]) ?_
    refine Ev.bind (spec_Pay_ev h n _ _ _ _ b1 b2) ?_
    obtain ⟨e1, e2⟩ := paid_len h n p[i].f0 p[i].f1 p[i].f2 p[i].f3
    exact ev_pos (by omega) (ih (i + 1) _ _ _ (by first | omega | (unfold payS; omega)) (by first | omega | (unfold payS; omega)) (by omega) (by omega) (by simp; omega))
theorem spec_PayAll_ev (h n : List Int) (b1 : h.length ≤ 1048576) (b2 : n.length ≤ 1048576) (p : List S45) (hl : p.length ≤ 1048576) : Ev (fun k => spec_PayAll.f k h n p) (payA h n [] p) := by
  unfold spec_PayAll.f
  exact ev_const (spec_l3Copy_val h n b1 b2) (spec_PayAll_loop p hl p.length 0 h n [] b1 b2 (by omega) (by omega) (by simp))

local instance : ZeroT Try.prog 45 #[.int .i64 0, .int .i64 0, .int .i64 0, .int .i64 0] := ⟨by kernel_rfl⟩
set_option maxHeartbeats 8000000 in
set_option maxRecDepth 100000 in
theorem walk0 (A0 : Option Addr) (c0 : Nat) (l : List Int) (w : World) (hr0 : Aside0 (Kd.C (Kd.int .u8) w A0 l.length l)) (hc0 : Aside0 (l.length ≤ c0)) (hb : Aside0 (laws_big.f l = some true))  :
    Calls Try.prog 10 #[.slice A0 l.length c0] w fun e w' => e = .returned (.bool true) ∧ Below w.heap.size w w' := by
  have HS := SS.nil w
  go_enter Try.func10, Try.ntmps10
  go_wp2_with (first | ((with_reducible refine gate_dst (N := 18) rfl ?_); refine ev_call (some 18) rfl rfl Try.func31 (by kernel_rfl) rfl rfl (by simp only [List.map_toArray, List.map_cons, List.map_nil]; rfl) ?_; refine (HS.valD (laws_big.calls (w := _) (hr0 := Kd.C_below hr0.out HS.below) (hc0 := hc0.out) (h := hb.out))).mono ?_; clear HS; rintro e w1 ⟨rfl, HS⟩; refine ⟨_, rfl, ?_⟩))
  go_ret
  exact ⟨rfl, HS.below⟩

theorem total4 (x0 x1 x2 x3 : Int) (h0 : 0 ≤ x0 ∧ x0 ≤ 4000) (h1 : 0 ≤ x1 ∧ x1 ≤ 4000) (h2 : 0 ≤ x2 ∧ x2 ≤ 4000) (h3 : 0 ≤ x3 ∧ x3 ≤ 4000) : totalW [x0, x1, x2, x3] = x0 + x1 + x2 + x3 := by
  unfold totalW
  simp only [List.foldl_cons, List.foldl_nil]
  rw [wrapI (0 + x0) (by omega) (by omega), wrapI (0 + x0 + x1) (by omega) (by omega), wrapI (0 + x0 + x1 + x2) (by omega) (by omega), wrapI (0 + x0 + x1 + x2 + x3) (by omega) (by omega)]
  omega
theorem four (l : List Int) (h : l.length = 4) : ∃ x0 x1 x2 x3, l = [x0, x1, x2, x3] := by
  match l, h with
  | [a, b, c, d], _ => exact ⟨a, b, c, d, rfl⟩
theorem total_mv (h n : List Int) (f t a : Int) (h1 : h.length = 4) (hb : ∀ x ∈ h, 0 ≤ x ∧ x ≤ 400) (hf : 0 ≤ f ∧ f ≤ 3) (ht : 0 ≤ t ∧ t ≤ 3) (ha : 0 ≤ a ∧ a ≤ 1000) (hr : ∀ x ∈ mvL h f t a, 0 ≤ x ∧ x ≤ 400) : totalW (mvL h f t a) = totalW h := by
  obtain ⟨x0, x1, x2, x3, rfl⟩ := four h h1
  have b0 := hb x0 (by simp)
  have b1 := hb x1 (by simp)
  have b2 := hb x2 (by simp)
  have b3 := hb x3 (by simp)
  have hf' : f = 0 ∨ f = 1 ∨ f = 2 ∨ f = 3 := by omega
  have ht' : t = 0 ∨ t = 1 ∨ t = 2 ∨ t = 3 := by omega
  have w0 := wrapI (x0 - a) (by omega) (by omega)
  have w1 := wrapI (x1 - a) (by omega) (by omega)
  have w2 := wrapI (x2 - a) (by omega) (by omega)
  have w3 := wrapI (x3 - a) (by omega) (by omega)
  have v0 := wrapI (x0 + a) (by omega) (by omega)
  have v1 := wrapI (x1 + a) (by omega) (by omega)
  have v2 := wrapI (x2 + a) (by omega) (by omega)
  have v3 := wrapI (x3 + a) (by omega) (by omega)
  have u0 := wrapI (x0 - a + a) (by omega) (by omega)
  have u1 := wrapI (x1 - a + a) (by omega) (by omega)
  have u2 := wrapI (x2 - a + a) (by omega) (by omega)
  have u3 := wrapI (x3 - a + a) (by omega) (by omega)
  rw [total4 x0 x1 x2 x3 (by omega) (by omega) (by omega) (by omega)]
  rcases hf' with rfl | rfl | rfl | rfl <;> rcases ht' with rfl | rfl | rfl | rfl <;>
    (simp only [mvL, rd, Int.toNat_zero, Int.toNat_one, show (2 : Int).toNat = 2 from rfl, show (3 : Int).toNat = 3 from rfl, List.set_cons_zero, List.set_cons_succ, List.getD_cons_zero, List.getD_cons_succ, w0, w1, w2, w3, v0, v1, v2, v3, u0, u1, u2, u3] at hr ⊢
     clear w0 w1 w2 w3 v0 v1 v2 v3 u0 u1 u2 u3
     simp only [List.mem_cons, List.not_mem_nil, or_false, forall_eq_or_imp, forall_eq] at hr
     rw [total4 _ _ _ _ (by omega) (by omega) (by omega) (by omega)]
     omega)
theorem pay_cases (h n : List Int) (f t a m : Int) : (payL h n f t a m = (h, n, 1) ∨ payL h n f t a m = (h, n, 2) ∨ payL h n f t a m = (h, n, 3)) ∨ (ledgerIs h n ∧ txIs f t a m ∧ m = rd n f ∧ (payL h n f t a m = (h, n.set f.toNat (wrap64 (m + 1)), 4) ∨ (payL h n f t a m = (mvL h f t a, n.set f.toNat (wrap64 (m + 1)), 0) ∧ ledgerIs (mvL h f t a) (n.set f.toNat (wrap64 (m + 1)))))) := by
  unfold payL
  by_cases c : ¬ (ledgerIs h n ∧ txIs f t a m)
  · rw [if_pos c]; exact .inl (.inl rfl)
  rw [if_neg c]
  obtain ⟨c1, c2⟩ := Classical.not_not.1 c
  by_cases d1 : m < rd n f
  · rw [if_pos d1]; exact .inl (.inr (.inl rfl))
  rw [if_neg d1]
  by_cases d2 : m > rd n f
  · rw [if_pos d2]; exact .inl (.inr (.inr rfl))
  rw [if_neg d2]
  by_cases d3 : a > rd h f
  · rw [if_pos d3]; exact .inr ⟨c1, c2, by omega, .inl rfl⟩
  rw [if_neg d3]
  by_cases d4 : ledgerIs (mvL h f t a) (n.set f.toNat (wrap64 (m + 1)))
  · rw [if_pos d4]; exact .inr ⟨c1, c2, by omega, .inr ⟨rfl, d4⟩⟩
  · rw [if_neg d4]; exact .inl (.inl rfl)
theorem next_ledger (h n : List Int) (f t a m : Int) (hl : ledgerIs h n) (hx : txIs f t a m) : ledgerIs h (n.set f.toNat (wrap64 (m + 1))) := by
  refine ⟨⟨hl.1.1, by rw [List.length_set]; exact hl.1.2⟩, hl.2.1, fun x hx' => ?_⟩
  have hm := hx.2.2.2
  rcases List.mem_or_eq_of_mem_set hx' with h1 | rfl
  · exact hl.2.2 x h1
  · rw [wrapI (m + 1) (by omega) (by omega)]; omega
theorem pay_ledger (h n : List Int) (f t a m : Int) (hl : ledgerIs h n) : ledgerIs (payL h n f t a m).1 (payL h n f t a m).2.1 := by
  rcases pay_cases h n f t a m with (e | e | e) | ⟨c1, c2, _, e | ⟨e, c3⟩⟩ <;> rw [e]
  · exact hl
  · exact hl
  · exact hl
  · exact next_ledger h n f t a m c1 c2
  · exact c3
theorem pay_total (h n : List Int) (f t a m : Int) : totalW (payL h n f t a m).1 = totalW h := by
  rcases pay_cases h n f t a m with (e | e | e) | ⟨c1, c2, _, e | ⟨e, c3⟩⟩ <;> rw [e]
  exact total_mv h n f t a c1.1.1 c1.2.1 c2.1 c2.2.1 c2.2.2.1 c3.2.1
theorem payA_ledger : ∀ (h n acc : List Int) (l : List S45), ledgerIs h n → ledgerIs (payA h n acc l).1 (payA h n acc l).2.1
  | h, n, acc, [], hl => hl
  | h, n, acc, x :: l, hl => payA_ledger _ _ _ l (pay_ledger h n x.f0 x.f1 x.f2 x.f3 hl)
theorem payA_total : ∀ (h n acc : List Int) (l : List S45), totalW (payA h n acc l).1 = totalW h
  | h, n, acc, [] => rfl
  | h, n, acc, x :: l => (payA_total _ _ _ l).trans (pay_total h n x.f0 x.f1 x.f2 x.f3)
theorem pay_again (h n : List Int) (f t a m : Int) (hc : (payL h n f t a m).2.2 = 0 ∨ (payL h n f t a m).2.2 = 4) : payL (payL h n f t a m).1 (payL h n f t a m).2.1 f t a m = ((payL h n f t a m).1, (payL h n f t a m).2.1, 2) := by
  rcases pay_cases h n f t a m with (e | e | e) | ⟨c1, c2, _, e⟩
  · rw [e] at hc; simp at hc
  · rw [e] at hc; simp at hc
  · rw [e] at hc; simp at hc
  have hl := pay_ledger h n f t a m c1
  have hn : (payL h n f t a m).2.1 = n.set f.toNat (wrap64 (m + 1)) := by rcases e with e | ⟨e, _⟩ <;> rw [e]
  unfold payL
  rw [if_neg (fun z => z ⟨by unfold payL at hl; exact hl, c2⟩)]
  rw [if_pos]
  show m < rd (payL h n f t a m).2.1 f
  rw [hn]
  have hm := c2.2.2.2
  have hf := c2.1
  obtain ⟨i, rfl⟩ := Int.eq_ofNat_of_zero_le hf.1
  rw [rd_nat _ i (by rw [List.length_set]; have := c1.1.2; omega)]
  simp only [Int.toNat_natCast, List.getElem_set_self]
  rw [wrapI (m + 1) (by omega) (by omega)]
  omega
theorem FnLedgers {w : World} {A0 : Option Addr} {c0 : Nat} (l : List Int) (hm0 : l.length ≤ maxLen) (hw0 : ∀ x ∈ l, (Lit.int .u8 x).wf = true) (hr0 : Kd.C (Kd.int .u8) w A0 l.length l) (hc0 : l.length ≤ c0) :
    Calls Try.prog 10 #[.slice A0 l.length c0] w fun e w' => e = .returned (.bool true) ∧ Below w.heap.size w w' := by
  by_cases c : (l.length : Int) > 1048576
  · exact walk0 A0 c0 l w ⟨hr0⟩ ⟨hc0⟩ ⟨by unfold laws_big.f; rw [decide_eq_true c]⟩
  have hb : laws_big.f l = some false := by unfold laws_big.f; rw [decide_eq_false c]
  obtain ⟨h, n, p, he, l1, l2, l3⟩ := DrawPayAll_ev l (by omega)
  obtain ⟨kda, hda⟩ := he.rounds
  obtain ⟨ah, an, f, t, a, m, he', l4, l5⟩ := DrawPay_ev l (by omega)
  obtain ⟨kdp, hdp⟩ := he'.rounds
  obtain ⟨kia, hia⟩ := (impl_PayAll_ev h n (by omega) (by omega) p (by omega)).rounds
  obtain ⟨ksa, hsa⟩ := (spec_PayAll_ev h n (by omega) (by omega) p (by omega)).rounds
  obtain ⟨q1, q2, q3⟩ := payA_len h n [] p
  have tA := payA_total h n [] p
  have lA := payA_ledger h n [] p
  obtain ⟨mh, mn, mc, hp⟩ : ∃ x y z, payA h n [] p = (x, y, z) := ⟨_, _, _, rfl⟩
  rw [hp] at hia hsa q1 q2 q3 tA lA
  simp only [List.length_nil, Nat.zero_add] at q1 q2 q3 tA lA
  obtain ⟨p1, p2⟩ := paid_len ah an f t a m
  have hI : impl_Pay.f 0 ah an f t a m = some (payL ah an f t a m) := by unfold impl_Pay.f; rw [if_pos ⟨by omega, by omega⟩]
  have hS : spec_Pay.f 0 ah an f t a m = some (payL ah an f t a m) := by unfold spec_Pay.f; rw [if_pos ⟨by omega, by omega⟩]
  have tB := pay_total ah an f t a m
  have gB := pay_again ah an f t a m
  obtain ⟨bh, bn, rc, hq⟩ : ∃ x y z, payL ah an f t a m = (x, y, z) := ⟨_, _, _, rfl⟩
  rw [hq] at hI hS p1 p2 tB gB
  simp only at p1 p2 tB gB
  obtain ⟨ks1, hs1⟩ := (sameLedger_refl mh mn (by omega) (by omega)).rounds
  obtain ⟨ks2, hs2⟩ := (sameInts_ev mc mc (by omega)).rounds
  rw [decide_eq_true rfl] at hs2
  obtain ⟨ks3, hs3⟩ := (sameLedger_refl bh bn (by omega) (by omega)).rounds
  obtain ⟨kl1, hl1⟩ := (impl_LedgerOk_ev h n).rounds
  obtain ⟨kl2, hl2⟩ := (spec_LedgerOk_ev h n).rounds
  obtain ⟨kt1, ht1⟩ := (impl_Total_ev h n (by omega)).rounds
  obtain ⟨kt2, ht2⟩ := (spec_Total_ev h n (by omega)).rounds
  obtain ⟨kn1, hn1⟩ := impl_LedgerNew_ev.rounds
  obtain ⟨kn2, hn2⟩ := spec_LedgerNew_ev.rounds
  obtain ⟨ks4, hs4⟩ := (sameLedger_refl [100, 100, 100, 100] [0, 0, 0, 0] (by decide) (by decide)).rounds
  obtain ⟨kt3, ht3⟩ := (impl_Total_ev mh mn (by omega)).rounds
  obtain ⟨kt4, ht4⟩ := (impl_Total_ev bh bn (by omega)).rounds
  obtain ⟨kt5, ht5⟩ := (impl_Total_ev ah an (by omega)).rounds
  obtain ⟨kl3, hl3⟩ := (impl_LedgerOk_ev mh mn).rounds
  rw [tA] at ht3
  rw [tB] at ht4
  have hI2 : rc = 0 ∨ rc = 4 → impl_Pay.f 0 bh bn f t a m = some (bh, bn, 2) := fun z => by unfold impl_Pay.f; rw [if_pos ⟨by omega, by omega⟩, gB z]
  by_cases ok : ledgerIs h n
  · rw [decide_eq_true ok] at hl1 hl2
    rw [decide_eq_true (lA ok)] at hl3
    by_cases z0 : rc = 0
    · subst z0
      exact walkA_true A0 c0 l h n p mh mn mc ah an f t a m bh bn 0 _ _ _ _ bh bn w ⟨hr0⟩ ⟨hc0⟩ ⟨hb⟩ kda ⟨hda⟩ kia ⟨hia⟩ ksa ⟨hsa⟩ kdp ⟨hdp⟩ 0 ⟨hI⟩ 0 ⟨hS⟩ ks1 ⟨hs1⟩ ks2 ⟨hs2⟩ ks3 ⟨hs3⟩ kl1 ⟨hl1⟩ kl2 ⟨hl2⟩ kt1 ⟨ht1⟩ kt2 ⟨ht2⟩ kn1 ⟨hn1⟩ kn2 ⟨hn2⟩ ks4 ⟨hs4⟩ 0 ⟨hI2 (.inl rfl)⟩ kt3 ⟨ht3⟩ kt4 ⟨ht4⟩ kt5 ⟨ht5⟩ kl3 ⟨hl3⟩
    by_cases z4 : rc = 4
    · subst z4
      exact walkB_true A0 c0 l h n p mh mn mc ah an f t a m bh bn 0 _ _ _ _ bh bn w ⟨hr0⟩ ⟨hc0⟩ ⟨hb⟩ kda ⟨hda⟩ kia ⟨hia⟩ ksa ⟨hsa⟩ kdp ⟨hdp⟩ 0 ⟨hI⟩ 0 ⟨hS⟩ ks1 ⟨hs1⟩ ks2 ⟨hs2⟩ ks3 ⟨hs3⟩ kl1 ⟨hl1⟩ kl2 ⟨hl2⟩ kt1 ⟨ht1⟩ kt2 ⟨ht2⟩ kn1 ⟨hn1⟩ kn2 ⟨hn2⟩ ks4 ⟨hs4⟩ 0 ⟨hI2 (.inr rfl)⟩ kt3 ⟨ht3⟩ kt4 ⟨ht4⟩ kt5 ⟨ht5⟩ kl3 ⟨hl3⟩
    exact walkC_true A0 c0 l h n p mh mn mc ah an f t a m bh bn rc _ _ _ _ [] [] w ⟨hr0⟩ ⟨hc0⟩ ⟨hb⟩ kda ⟨hda⟩ kia ⟨hia⟩ ksa ⟨hsa⟩ kdp ⟨hdp⟩ 0 ⟨hI⟩ 0 ⟨hS⟩ ks1 ⟨hs1⟩ ks2 ⟨hs2⟩ ks3 ⟨hs3⟩ kl1 ⟨hl1⟩ kl2 ⟨hl2⟩ kt1 ⟨ht1⟩ kt2 ⟨ht2⟩ kn1 ⟨hn1⟩ kn2 ⟨hn2⟩ ks4 ⟨hs4⟩ kt3 ⟨ht3⟩ kt4 ⟨ht4⟩ kt5 ⟨ht5⟩ kl3 ⟨hl3⟩ (beq_eq_false_iff_ne.mpr z0) (beq_eq_false_iff_ne.mpr z4)
  · rw [decide_eq_false ok] at hl1 hl2
    by_cases z0 : rc = 0
    · subst z0
      exact walkA_false A0 c0 l h n p mh mn mc ah an f t a m bh bn 0 _ _ _ _ bh bn w ⟨hr0⟩ ⟨hc0⟩ ⟨hb⟩ kda ⟨hda⟩ kia ⟨hia⟩ ksa ⟨hsa⟩ kdp ⟨hdp⟩ 0 ⟨hI⟩ 0 ⟨hS⟩ ks1 ⟨hs1⟩ ks2 ⟨hs2⟩ ks3 ⟨hs3⟩ kl1 ⟨hl1⟩ kl2 ⟨hl2⟩ kt1 ⟨ht1⟩ kt2 ⟨ht2⟩ kn1 ⟨hn1⟩ kn2 ⟨hn2⟩ ks4 ⟨hs4⟩ 0 ⟨hI2 (.inl rfl)⟩ kt3 ⟨ht3⟩ kt4 ⟨ht4⟩ kt5 ⟨ht5⟩
    by_cases z4 : rc = 4
    · subst z4
      exact walkB_false A0 c0 l h n p mh mn mc ah an f t a m bh bn 0 _ _ _ _ bh bn w ⟨hr0⟩ ⟨hc0⟩ ⟨hb⟩ kda ⟨hda⟩ kia ⟨hia⟩ ksa ⟨hsa⟩ kdp ⟨hdp⟩ 0 ⟨hI⟩ 0 ⟨hS⟩ ks1 ⟨hs1⟩ ks2 ⟨hs2⟩ ks3 ⟨hs3⟩ kl1 ⟨hl1⟩ kl2 ⟨hl2⟩ kt1 ⟨ht1⟩ kt2 ⟨ht2⟩ kn1 ⟨hn1⟩ kn2 ⟨hn2⟩ ks4 ⟨hs4⟩ 0 ⟨hI2 (.inr rfl)⟩ kt3 ⟨ht3⟩ kt4 ⟨ht4⟩ kt5 ⟨ht5⟩
    exact walkC_false A0 c0 l h n p mh mn mc ah an f t a m bh bn rc _ _ _ _ [] [] w ⟨hr0⟩ ⟨hc0⟩ ⟨hb⟩ kda ⟨hda⟩ kia ⟨hia⟩ ksa ⟨hsa⟩ kdp ⟨hdp⟩ 0 ⟨hI⟩ 0 ⟨hS⟩ ks1 ⟨hs1⟩ ks2 ⟨hs2⟩ ks3 ⟨hs3⟩ kl1 ⟨hl1⟩ kl2 ⟨hl2⟩ kt1 ⟨ht1⟩ kt2 ⟨ht2⟩ kn1 ⟨hn1⟩ kn2 ⟨hn2⟩ ks4 ⟨hs4⟩ kt3 ⟨ht3⟩ kt4 ⟨ht4⟩ kt5 ⟨ht5⟩ (beq_eq_false_iff_ne.mpr z0) (beq_eq_false_iff_ne.mpr z4)
end Go.Proofs.Ytajblkfgdalldaa.Law
