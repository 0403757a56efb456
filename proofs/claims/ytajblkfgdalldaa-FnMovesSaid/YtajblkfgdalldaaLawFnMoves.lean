/- Whatever is drawn: a payment that is paid moves its amount, and nothing else; no condition. -/
import Derived.Test.YtajblkfgdalldaaPFnMovesx0
import Derived.Test.YtajblkfgdalldaaPFnMovesx1
import Derived.Test.YtajblkfgdalldaaPFnMovesx2
import Derived.Test.YtajblkfgdalldaaPFnMovesx3
import Derived.Test.YtajblkfgdalldaaPFnMovesx4
import Derived.Test.YtajblkfgdalldaaPFnMovesx5
import Derived.Test.YtajblkfgdalldaaH
import Derived.Test.YtajblkfgdalldaaRowKit
namespace Go.Proofs.Ytajblkfgdalldaa.Law
open Go.RowKit Go.Proofs.YtajblkfgdalldaaW.PrintWords Go.Proofs.YtajblkfgdalldaaW.PrintLast Go.Proofs.YtajblkfgdalldaaW.PrintMore Go.Proofs.YtajblkfgdalldaaH Go.Proofs.Ytajblkfgdalldaa.PFnMoves
set_option linter.unusedVariables false
set_option linter.unusedSimpArgs false

theorem and_range (x y : Int) (m : Nat) (hy : y = (m : Int)) (hm : m < 4611686018427387904) : 0 ≤ Go.bits .and .i64 x y ∧ Go.bits .and .i64 x y ≤ (m : Int) := by
  subst hy
  have h2 : ((BitVec.ofInt 64 x) &&& (BitVec.ofInt 64 (m : Int))).toNat ≤ m := by
    rw [BitVec.toNat_and]
    refine Nat.le_trans Nat.and_le_right ?_
    rw [BitVec.ofInt_natCast, BitVec.toNat_ofNat]
    exact Nat.mod_le _ _
  have e : Go.bits .and .i64 x (m : Int) = IntKind.i64.wrap (((BitVec.ofInt 64 x) &&& (BitVec.ofInt 64 (m : Int))).toNat : Int) := rfl
  rw [e]
  generalize ((BitVec.ofInt 64 x) &&& (BitVec.ofInt 64 (m : Int))).toNat = q at h2
  rw [IntKind.wrap_i64]
  omega
/-- A cursor's place. -/
def Cur (i : Int) : Prop := 0 ≤ i ∧ i ≤ 1099511627776
theorem l1New_ev (l : List Int) (hl : l.length ≤ 1048576) : ∃ h : Int, Ev (fun k => spec_l1New.f k l) (l, 0, h) := by
  have loop : ∀ (d n : Nat) (h : Int), l.length - n = d → n ≤ l.length → ∃ h', Ev (fun k => spec_l1New.l0 k l h (n : Int)) (l, 0, h') := by
    intro d
    induction d with
    | zero =>
      intro n h hd hn
      exact ⟨h, Ev.step (f := fun _ => some (l, 0, h)) (fun k => by simp only [spec_l1New.l0]; rw [if_neg (by omega)]) (ev_some rfl)⟩
    | succ d ih =>
      intro n h hd hn
      by_cases c : (n : Int) < 4000
      · obtain ⟨h', hh⟩ := ih (n + 1) (Go.bits .and .i64 (wrap64 ((wrap64 ((wrap64 (h * 131)) + (wrap64 (rd l (n : Int))))) + 7)) 1073741823) (by omega) (by omega)
        refine ⟨h', Ev.step (f := fun k => spec_l1New.l0 k l (Go.bits .and .i64 (wrap64 ((wrap64 ((wrap64 (h * 131)) + (wrap64 (rd l (n : Int))))) + 7)) 1073741823) ((n + 1 : Nat) : Int)) (fun k => ?_) hh⟩
        simp only [spec_l1New.l0]
        rw [if_pos (by omega), if_pos c, if_pos (by omega), up1 n (by omega)]
      · exact ⟨h, Ev.step (f := fun _ => some (l, 0, h)) (fun k => by simp only [spec_l1New.l0]; rw [if_pos (by omega), if_neg c]) (ev_some rfl)⟩
  unfold spec_l1New.f
  exact loop l.length 0 _ (by omega) (by omega)

theorem spec_LedgerNew_ev : Ev (fun k => spec_LedgerNew.f k) ([100, 100, 100, 100], [0, 0, 0, 0]) :=
  Ev.of (fun k => spec_LedgerNew.mono k) (k := 6) (by simp [spec_LedgerNew.f, spec_LedgerNew.l0, wrap64])

theorem spec_Pay_ev (h n : List Int) (f t a m : Int) (b1 : h.length ≤ 1048576) (b2 : n.length ≤ 1048576) : Ev (fun k => spec_Pay.f k h n f t a m) (payL h n f t a m) :=
  ⟨0, fun k _ => by show spec_Pay.f k h n f t a m = _; unfold spec_Pay.f; rw [if_pos ⟨b1, b2⟩]⟩

theorem l1Byte_some (l : List Int) (i h : Int) (hl : l.length ≤ 1048576) (hi : Cur i) : ∃ v i' h', spec_l1Byte.f l i h = some (v, i', h') ∧ 0 ≤ v ∧ v ≤ 255 ∧ Cur i' := by
  unfold spec_l1Byte.f
  by_cases c : i < (l.length : Int)
  · rw [if_pos c, if_pos hi.1]
    refine ⟨_, _, _, rfl, (and_range _ 255 255 rfl (by omega)).1, (and_range _ 255 255 rfl (by omega)).2, ?_⟩
    rw [up1' i (by unfold Cur at hi; omega) (by unfold Cur at hi; omega)]
    unfold Cur at hi ⊢; omega
  · rw [if_neg c]
    exact ⟨_, _, _, rfl, (and_range _ 255 255 rfl (by omega)).1, (and_range _ 255 255 rfl (by omega)).2, hi⟩

theorem l1Below_some (l : List Int) (i h n : Int) (hl : l.length ≤ 1048576) (hi : Cur i) (hn : 0 < n) (hn' : n ≤ 256) : ∃ v i' h', spec_l1Below.f l i h n = some (v, i', h') ∧ 0 ≤ v ∧ v < n ∧ Cur i' := by
  obtain ⟨v, i', h', e, h0, h1, hc⟩ := l1Byte_some l i h hl hi
  unfold spec_l1Below.f
  rw [if_neg (by omega), if_pos hn', e, Option.bind_some, if_neg (by omega)]
  refine ⟨_, _, _, rfl, ?_, ?_, hc⟩
  · exact Int.tmod_nonneg _ h0
  · exact Int.tmod_lt_of_pos _ hn

theorem l1PickInt_some (l : List Int) (i h : Int) (xs : List Int) (hl : l.length ≤ 1048576) (hi : Cur i) (hx : 0 < xs.length) (hx' : xs.length ≤ 256) : ∃ v i' h', spec_l1PickInt.f l i h xs = some (v, i', h') ∧ v ∈ xs ∧ Cur i' := by
  obtain ⟨v, i', h', e, h0, h1, hc⟩ := l1Below_some l i h (xs.length : Int) hl hi (by omega) (by omega)
  unfold spec_l1PickInt.f
  rw [e, Option.bind_some, if_pos h0, if_pos h1]
  refine ⟨_, _, _, rfl, ?_, hc⟩
  obtain ⟨m, rfl⟩ := Int.eq_ofNat_of_zero_le h0
  rw [rd_nat xs m (by omega)]
  exact List.getElem_mem _

theorem l2DrawRight_some (l : List Int) (i h : Int) (hl : l.length ≤ 1048576) (hi : Cur i) : ∃ f t a m i' h', spec_l2DrawRight.f l i h = some (f, t, a, m, i', h') ∧ (0 ≤ f ∧ f ≤ 3) ∧ (0 ≤ t ∧ t ≤ 3) ∧ (0 ≤ a ∧ a ≤ 1000) ∧ (0 ≤ m ∧ m ≤ 2) ∧ Cur i' := by
  obtain ⟨f, i1, h1, e1, f0, f1, c1⟩ := l1Below_some l i h 4 hl hi (by omega) (by omega)
  obtain ⟨t, i2, h2, e2, t0, t1, c2⟩ := l1Below_some l i1 h1 4 hl c1 (by omega) (by omega)
  obtain ⟨a, i3, h3, e3, ha, c3⟩ := l1PickInt_some l i2 h2 [0, 5, 60, 100, 1000] hl c2 (by decide) (by decide)
  obtain ⟨m, i4, h4, e4, m0, m1, c4⟩ := l1Below_some l i3 h3 3 hl c3 (by omega) (by omega)
  unfold spec_l2DrawRight.f
  rw [e1, Option.bind_some, e2, Option.bind_some, e3, Option.bind_some, e4, Option.bind_some]
  refine ⟨_, _, _, _, _, _, rfl, ⟨f0, by omega⟩, ⟨t0, by omega⟩, ?_, ⟨m0, by omega⟩, c4⟩
  simp only [List.mem_cons, List.not_mem_nil, or_false] at ha
  omega

theorem paid_len (h n : List Int) (f t a m : Int) : (payL h n f t a m).1.length = h.length ∧ (payL h n f t a m).2.1.length = n.length := by
  unfold payL
  repeat' split
  all_goals first | exact ⟨rfl, rfl⟩ | exact ⟨rfl, by simp⟩ | exact ⟨by simp [mvL], by simp⟩
theorem l3DrawRight_loop (l : List Int) (hl : l.length ≤ 1048576) : ∀ (d j : Nat) (i hh : Int) (h n : List Int), 6 - j = d → j ≤ 6 → Cur i → h.length = 4 → n.length = 4 → ∃ h' n' i' hh', Ev (fun k => spec_l3DrawRight.l0 k (j : Int) l i hh h n) (h', n', i', hh') ∧ Cur i' ∧ h'.length = 4 ∧ n'.length = 4 := by
  intro d
  induction d with
  | zero =>
    intro j i hh h n hd hj hi e1 e2
    obtain ⟨v, i1, h1, ev, v0, v1, c1⟩ := l1Below_some l i hh 6 hl hi (by omega) (by omega)
    exact ⟨h, n, i1, h1, Ev.step (f := fun _ => some (h, n, i1, h1)) (fun k => by simp only [spec_l3DrawRight.l0]; rw [ev, Option.bind_some, if_neg (by omega)]) (ev_some rfl), c1, e1, e2⟩
  | succ d ih =>
    intro j i hh h n hd hj hi e1 e2
    obtain ⟨v, i1, h1, ev, v0, v1, c1⟩ := l1Below_some l i hh 6 hl hi (by omega) (by omega)
    by_cases c : (j : Int) < v
    · obtain ⟨f, t, a, m, i2, h2, ed, hf, ht, ha, hm, c2⟩ := l2DrawRight_some l i1 h1 hl c1
      obtain ⟨p1, p2⟩ := paid_len h n f t a (rd n f)
      obtain ⟨h', n', i', hh', hev, r1, r2, r3⟩ := ih (j + 1) i2 h2 (payL h n f t a (rd n f)).1 (payL h n f t a (rd n f)).2.1 (by omega) (by omega) c2 (by omega) (by omega)
      refine ⟨h', n', i', hh', Ev.step (f := fun k => (spec_Pay.f k h n f t a (rd n f)).bind fun bt => spec_l3DrawRight.l0 k ((j + 1 : Nat) : Int) l i2 h2 bt.1 bt.2.1) (fun k => by
        simp only [spec_l3DrawRight.l0]
        rw [ev, Option.bind_some, if_pos c]
        simp only
        rw [ed, Option.bind_some, if_pos hf.1, if_pos (by simp only; omega), up1 j (by omega)]) ?_, r1, r2, r3⟩
      exact Ev.bind (spec_Pay_ev h n f t a (rd n f) (by omega) (by omega)) hev
    · exact ⟨h, n, i1, h1, Ev.step (f := fun _ => some (h, n, i1, h1)) (fun k => by simp only [spec_l3DrawRight.l0]; rw [ev, Option.bind_some, if_neg c]) (ev_some rfl), c1, e1, e2⟩
theorem l3DrawRight_ev (l : List Int) (hl : l.length ≤ 1048576) (i hh : Int) (hi : Cur i) : ∃ h n i' hh', Ev (fun k => spec_l3DrawRight.f k l i hh) (h, n, i', hh') ∧ Cur i' ∧ h.length = 4 ∧ n.length = 4 := by
  obtain ⟨h, n, i', hh', he, c, l1, l2⟩ := l3DrawRight_loop l hl 6 0 i hh [100, 100, 100, 100] [0, 0, 0, 0] (by omega) (by omega) hi rfl rfl
  refine ⟨h, n, i', hh', ?_, c, l1, l2⟩
  unfold spec_l3DrawRight.f
  exact Ev.bind spec_LedgerNew_ev he

theorem l3Draw_ev (l : List Int) (hl : l.length ≤ 1048576) (i hh : Int) (hi : Cur i) : ∃ h n i' hh', Ev (fun k => spec_l3Draw.f k l i hh) (h, n, i', hh') ∧ Cur i' ∧ h.length ≤ 5 ∧ n.length = 4 := by
  obtain ⟨h, n, i1, h1, he, c, l1, l2⟩ := l3DrawRight_ev l hl i hh hi
  obtain ⟨v, i2, h2, e2, v0, v1, c2⟩ := l1Below_some l i1 h1 10 hl c (by omega) (by omega)
  obtain ⟨x, i3, h3, e3, hx, c3⟩ := l1PickInt_some l i2 h2 [-1, 400, 401] hl c2 (by decide) (by decide)
  obtain ⟨y, i4, h4, e4, hy, c4⟩ := l1PickInt_some l i2 h2 [-1, 99, 100, 101] hl c2 (by decide) (by decide)
  have key : ∀ r, (if v = 0 then ((spec_l1PickInt.f l i2 h2 [-1, 400, 401]).bind fun bt => (if 1 < (h.length : Int) then some ((h.set (1 : Int).toNat bt.1), n, bt.2.1, bt.2.2) else none)) else (if v = 1 then ((spec_l1PickInt.f l i2 h2 [-1, 99, 100, 101]).bind fun bt => (if 2 < (n.length : Int) then some (h, (n.set (2 : Int).toNat bt.1), bt.2.1, bt.2.2) else none)) else (if v = 2 then (if h.length < 17592186044416 then some ((h ++ [1]), n, i2, h2) else none) else some (h, n, i2, h2)))) = some r → Ev (fun k => spec_l3Draw.f k l i hh) r := fun r hr => by
    unfold spec_l3Draw.f
    refine Ev.bind he ?_
    simp only
    rw [e2]
    exact ⟨0, fun _ _ => hr⟩
  by_cases d0 : v = 0
  · exact ⟨_, _, _, _, key _ (by rw [if_pos d0, e3, Option.bind_some, if_pos (by omega)]), c3, by simp; omega, l2⟩
  by_cases d1 : v = 1
  · exact ⟨_, _, _, _, key _ (by rw [if_neg d0, if_pos d1, e4, Option.bind_some, if_pos (by omega)]), c4, by omega, by simp; omega⟩
  by_cases d2 : v = 2
  · exact ⟨_, _, _, _, key _ (by rw [if_neg d0, if_neg d1, if_pos d2, if_pos (by omega)]), c2, by simp; omega, l2⟩
  · exact ⟨_, _, _, _, key _ (by rw [if_neg d0, if_neg d1, if_neg d2]), c2, by omega, l2⟩

theorem l2Draw_some (l : List Int) (i h : Int) (hl : l.length ≤ 1048576) (hi : Cur i) : ∃ f t a m i' h', spec_l2Draw.f l i h = some (f, t, a, m, i', h') ∧ (-1 ≤ f ∧ f ≤ 4) ∧ (-1 ≤ t ∧ t ≤ 4) ∧ (-1 ≤ a ∧ a ≤ 1001) ∧ (-1 ≤ m ∧ m ≤ 100) ∧ Cur i' := by
  obtain ⟨f, t, a, m, i1, h1, e1, hf, ht, ha, hm, c1⟩ := l2DrawRight_some l i h hl hi
  obtain ⟨v, i2, h2, e2, v0, v1, c2⟩ := l1Below_some l i1 h1 12 hl c1 (by omega) (by omega)
  obtain ⟨x, i3, h3, e3, hx, c3⟩ := l1PickInt_some l i2 h2 [-1, 4] hl c2 (by decide) (by decide)
  obtain ⟨y, i4, h4, e4, hy, c4⟩ := l1PickInt_some l i2 h2 [-1, 1001] hl c2 (by decide) (by decide)
  obtain ⟨z, i5, h5, e5, hz, c5⟩ := l1PickInt_some l i2 h2 [-1, 99, 100] hl c2 (by decide) (by decide)
  simp only [List.mem_cons, List.not_mem_nil, or_false] at hx hy hz
  unfold spec_l2Draw.f
  rw [e1, Option.bind_some]
  simp only
  rw [e2, Option.bind_some]
  simp only
  by_cases d0 : v = 0
  · rw [if_pos d0, e3, Option.bind_some]; exact ⟨_, _, _, _, _, _, rfl, by omega, by omega, by omega, by omega, c3⟩
  rw [if_neg d0]
  by_cases d1 : v = 1
  · rw [if_pos d1, e3, Option.bind_some]; exact ⟨_, _, _, _, _, _, rfl, by omega, by omega, by omega, by omega, c3⟩
  rw [if_neg d1]
  by_cases d2 : v = 2
  · rw [if_pos d2, e4, Option.bind_some]; exact ⟨_, _, _, _, _, _, rfl, by omega, by omega, by omega, by omega, c4⟩
  rw [if_neg d2]
  by_cases d3 : v = 3
  · rw [if_pos d3, e5, Option.bind_some]; exact ⟨_, _, _, _, _, _, rfl, by omega, by omega, by omega, by omega, c5⟩
  rw [if_neg d3]
  exact ⟨_, _, _, _, _, _, rfl, by omega, by omega, by omega, by omega, c2⟩

theorem DrawPay_ev (l : List Int) (hl : l.length ≤ 1048576) : ∃ h n f t a m, Ev (fun k => spec_DrawPay.f k l) (h, n, f, t, a, m) ∧ h.length ≤ 5 ∧ n.length = 4 := by
  obtain ⟨x, hx⟩ := l1New_ev l hl
  obtain ⟨h, n, i1, h1, he, c, l1, l2⟩ := l3Draw_ev l hl 0 x (by unfold Cur; omega)
  obtain ⟨f, t, a, m, i2, h2, e2, _, _, _, _, _⟩ := l2Draw_some l i1 h1 hl c
  refine ⟨h, n, f, t, a, m, ?_, l1, l2⟩
  unfold spec_DrawPay.f
  refine Ev.bind hx (Ev.bind he ?_)
  simp only
  rw [e2]
  exact ev_some rfl

theorem impl_Pay_ev (h n : List Int) (f t a m : Int) (b1 : h.length ≤ 1048576) (b2 : n.length ≤ 1048576) : Ev (fun k => impl_Pay.f k h n f t a m) (payL h n f t a m) :=
  ⟨0, fun k _ => by show impl_Pay.f k h n f t a m = _; unfold impl_Pay.f; rw [if_pos ⟨b1, b2⟩]⟩

local instance : ZeroT Try.prog 45 #[.int .i64 0, .int .i64 0, .int .i64 0, .int .i64 0] := ⟨by kernel_rfl⟩
set_option maxHeartbeats 8000000 in
set_option maxRecDepth 100000 in
theorem walk0 (A0 : Option Addr) (c0 : Nat) (l : List Int) (w : World) (hr0 : Aside0 (Kd.C (Kd.int .u8) w A0 l.length l)) (hc0 : Aside0 (l.length ≤ c0)) (hb : Aside0 (laws_big.f l = some true))  :
    Calls Try.prog 7 #[.slice A0 l.length c0] w fun e w' => e = .returned (.bool true) ∧ Below w.heap.size w w' := by
  have HS := SS.nil w
  go_enter Try.func7, Try.ntmps7
  go_wp2_with (first | ((with_reducible refine gate_dst (N := 12) rfl ?_); refine ev_call (some 12) rfl rfl Try.func31 (by kernel_rfl) rfl rfl (by simp only [List.map_toArray, List.map_cons, List.map_nil]; rfl) ?_; refine (HS.valD (laws_big.calls (w := _) (hr0 := Kd.C_below hr0.out HS.below) (hc0 := hc0.out) (h := hb.out))).mono ?_; clear HS; rintro e w1 ⟨rfl, HS⟩; refine ⟨_, rfl, ?_⟩))
  go_ret
  exact ⟨rfl, HS.below⟩

set_option maxHeartbeats 8000000 in
set_option maxRecDepth 100000 in
theorem walk1 (A0 : Option Addr) (c0 : Nat) (l : List Int) (h n : List Int) (f t a m : Int) (rh rn : List Int) (rc : Int) (w : World) (hr0 : Aside0 (Kd.C (Kd.int .u8) w A0 l.length l)) (hc0 : Aside0 (l.length ≤ c0)) (hb : Aside0 (laws_big.f l = some false))
    (k_hd : Nat) (hd : Aside0 (spec_DrawPay.f k_hd l = some (h, n, f, t, a, m)))
    (k_hi : Nat) (hi : Aside0 (impl_Pay.f k_hi h n f t a m = some (rh, rn, rc)))
    (k_hs : Nat) (hs : Aside0 (spec_Pay.f k_hs h n f t a m = some (rh, rn, rc))) (hz_ : (rc != 0) = true) :
    Calls Try.prog 7 #[.slice A0 l.length c0] w fun e w' => e = .returned (.bool true) ∧ Below w.heap.size w w' := by
  have HS := SS.nil w
  go_enter Try.func7, Try.ntmps7
  go_wp2_with (first | ((with_reducible refine gate_dst (N := 12) rfl ?_); refine ev_call (some 12) rfl rfl Try.func31 (by kernel_rfl) rfl rfl (by simp only [List.map_toArray, List.map_cons, List.map_nil]; rfl) ?_; refine (HS.valD (laws_big.calls (w := _) (hr0 := Kd.C_below hr0.out HS.below) (hc0 := hc0.out) (h := hb.out))).mono ?_; clear HS; rintro e w1 ⟨rfl, HS⟩; refine ⟨_, rfl, ?_⟩) | ((with_reducible refine gate_dst (N := 15) rfl ?_); refine ev_call (some 15) rfl rfl Try.func32 (by kernel_rfl) rfl rfl (by simp only [List.map_toArray, List.map_cons, List.map_nil]; rfl) ?_; refine (HS.get2 rfl rfl (spec_DrawPay.calls (w := _) (hr0 := Kd.C_below hr0.out HS.below) (hc0 := hc0.out) (h := hd.out))).mono ?_; clear HS; rintro e w1 ⟨A15, c15, B15, d15, rfl, HS⟩; refine ⟨_, rfl, ?_⟩) | ((with_reducible refine gate_dst (N := 3) rfl ?_); refine ev_alloc HS rfl rfl ?_; clear HS; intro g3 w1 HS) | ((with_reducible refine gate_dst (N := 4) rfl ?_); refine ev_alloc HS rfl rfl ?_; clear HS; intro g4 w1 HS) | ((with_reducible refine gate_put rfl ?_); (first | refine ev_storeC HS rfl rfl rfl rfl rfl (by rfl) (by rfl) ?_ | refine ev_storeS HS rfl rfl rfl rfl rfl (by rfl) (by rfl) (by rfl) ?_); clear HS; intro w1 HS) | ((with_reducible refine gate_load rfl ?_); first | refine ev_loadC HS rfl rfl rfl (by rfl) ?_ | refine ev_loadS HS rfl rfl rfl (by rfl) ?_) | ((with_reducible refine gate_dst (N := 21) rfl ?_); refine ev_call (some 21) rfl rfl Try.func33 (by kernel_rfl) rfl rfl (by simp only [List.map_toArray, List.map_cons, List.map_nil]; rfl) ?_; refine (HS.get2 rfl rfl (impl_Pay.calls (w := _) (hr0_0 := HS.reads A15) (hc0_0 := HS.cap A15) (hr0_1 := HS.reads B15) (hc0_1 := HS.cap B15) (h := hi.out))).mono ?_; clear HS; rintro e w1 ⟨A21, c21, B21, d21, rfl, HS⟩; refine ⟨_, rfl, ?_⟩) | ((with_reducible refine gate_dst (N := 5) rfl ?_); refine ev_alloc HS rfl rfl ?_; clear HS; intro g5 w1 HS) | ((with_reducible refine gate_dst (N := 27) rfl ?_); refine ev_call (some 27) rfl rfl Try.func34 (by kernel_rfl) rfl rfl (by simp only [List.map_toArray, List.map_cons, List.map_nil]; rfl) ?_; refine (HS.get2 rfl rfl (spec_Pay.calls (w := _) (hr0_0 := HS.reads A15) (hc0_0 := HS.cap A15) (hr0_1 := HS.reads B15) (hc0_1 := HS.cap B15) (h := hs.out))).mono ?_; clear HS; rintro e w1 ⟨A27, c27, B27, d27, rfl, HS⟩; refine ⟨_, rfl, ?_⟩) | ((with_reducible refine gate_dst (N := 7) rfl ?_); refine ev_alloc HS rfl rfl ?_; clear HS; intro g7 w1 HS))
  go_ret
  exact ⟨rfl, HS.below⟩

set_option maxHeartbeats 8000000 in
set_option maxRecDepth 100000 in
theorem walk2 (A0 : Option Addr) (c0 : Nat) (l : List Int) (h n : List Int) (f t a m : Int) (rh rn : List Int) (w : World) (hr0 : Aside0 (Kd.C (Kd.int .u8) w A0 l.length l)) (hc0 : Aside0 (l.length ≤ c0)) (hb : Aside0 (laws_big.f l = some false))
    (k_hd : Nat) (hd : Aside0 (spec_DrawPay.f k_hd l = some (h, n, f, t, a, m)))
    (k_hi : Nat) (hi : Aside0 (impl_Pay.f k_hi h n f t a m = some (rh, rn, 0)))
    (k_hs : Nat) (hs : Aside0 (spec_Pay.f k_hs h n f t a m = some (rh, rn, 0))) (l1 : Aside0 (h.length = 4)) (l2 : Aside0 (n.length = 4)) (l3 : Aside0 (rh.length = 4)) (l4 : Aside0 (rn.length = 4)) (a0 : 0 ≤ a) (a1 : a ≤ 1000) (hkey : Aside0 (∀ i : Int, 0 ≤ i → i < 4 → ((i = f → i = t → IntKind.i64.wrap (rd h i + (-a + a)) = rd rh i) ∧ (i = f → i ≠ t → IntKind.i64.wrap (rd h i + -a) = rd rh i) ∧ (i ≠ f → i = t → IntKind.i64.wrap (rd h i + a) = rd rh i) ∧ (i ≠ f → i ≠ t → IntKind.i64.wrap (rd h i) = rd rh i)) ∧ (i ≠ f → rd rn i = rd n i))) :
    Calls Try.prog 7 #[.slice A0 l.length c0] w fun e w' => e = .returned (.bool true) ∧ Below w.heap.size w w' := by
  have HS := SS.nil w
  go_enter Try.func7, Try.ntmps7
  go_wp2_with (first | ((with_reducible refine gate_dst (N := 12) rfl ?_); refine ev_call (some 12) rfl rfl Try.func31 (by kernel_rfl) rfl rfl (by simp only [List.map_toArray, List.map_cons, List.map_nil]; rfl) ?_; refine (HS.valD (laws_big.calls (w := _) (hr0 := Kd.C_below hr0.out HS.below) (hc0 := hc0.out) (h := hb.out))).mono ?_; clear HS; rintro e w1 ⟨rfl, HS⟩; refine ⟨_, rfl, ?_⟩) | ((with_reducible refine gate_dst (N := 15) rfl ?_); refine ev_call (some 15) rfl rfl Try.func32 (by kernel_rfl) rfl rfl (by simp only [List.map_toArray, List.map_cons, List.map_nil]; rfl) ?_; refine (HS.get2 rfl rfl (spec_DrawPay.calls (w := _) (hr0 := Kd.C_below hr0.out HS.below) (hc0 := hc0.out) (h := hd.out))).mono ?_; clear HS; rintro e w1 ⟨A15, c15, B15, d15, rfl, HS⟩; refine ⟨_, rfl, ?_⟩) | ((with_reducible refine gate_dst (N := 3) rfl ?_); refine ev_alloc HS rfl rfl ?_; clear HS; intro g3 w1 HS) | ((with_reducible refine gate_dst (N := 4) rfl ?_); refine ev_alloc HS rfl rfl ?_; clear HS; intro g4 w1 HS) | ((with_reducible refine gate_put rfl ?_); (first | refine ev_storeC HS rfl rfl rfl rfl rfl (by rfl) (by rfl) ?_ | refine ev_storeS HS rfl rfl rfl rfl rfl (by rfl) (by rfl) (by rfl) ?_); clear HS; intro w1 HS) | ((with_reducible refine gate_load rfl ?_); first | refine ev_loadC HS rfl rfl rfl (by rfl) ?_ | refine ev_loadS HS rfl rfl rfl (by rfl) ?_) | ((with_reducible refine gate_dst (N := 21) rfl ?_); refine ev_call (some 21) rfl rfl Try.func33 (by kernel_rfl) rfl rfl (by simp only [List.map_toArray, List.map_cons, List.map_nil]; rfl) ?_; refine (HS.get2 rfl rfl (impl_Pay.calls (w := _) (hr0_0 := HS.reads A15) (hc0_0 := HS.cap A15) (hr0_1 := HS.reads B15) (hc0_1 := HS.cap B15) (h := hi.out))).mono ?_; clear HS; rintro e w1 ⟨A21, c21, B21, d21, rfl, HS⟩; refine ⟨_, rfl, ?_⟩) | ((with_reducible refine gate_dst (N := 5) rfl ?_); refine ev_alloc HS rfl rfl ?_; clear HS; intro g5 w1 HS) | ((with_reducible refine gate_dst (N := 27) rfl ?_); refine ev_call (some 27) rfl rfl Try.func34 (by kernel_rfl) rfl rfl (by simp only [List.map_toArray, List.map_cons, List.map_nil]; rfl) ?_; refine (HS.get2 rfl rfl (spec_Pay.calls (w := _) (hr0_0 := HS.reads A15) (hc0_0 := HS.cap A15) (hr0_1 := HS.reads B15) (hc0_1 := HS.cap B15) (h := hs.out))).mono ?_; clear HS; rintro e w1 ⟨A27, c27, B27, d27, rfl, HS⟩; refine ⟨_, rfl, ?_⟩) | ((with_reducible refine gate_dst (N := 7) rfl ?_); refine ev_alloc HS rfl rfl ?_; clear HS; intro g7 w1 HS))
  obtain ⟨bh, rfl⟩ := HS.form A15 (by have := l1.out; omega)
  obtain ⟨bn, rfl⟩ := HS.form B15 (by have := l2.out; omega)
  obtain ⟨bm, rfl⟩ := HS.form A21 (by have := l3.out; omega)
  obtain ⟨bq, rfl⟩ := HS.form B21 (by have := l4.out; omega)
  go_loopw [9, 10] (fun u9 u10 wr => ∃ i : Int, 0 ≤ i ∧ i ≤ 4 ∧ u9 = .int .i64 i ∧ SS w wr [box g7 #[.slice A27 rh.length c27, .slice B27 rn.length d27] 27, row (Kd.int .i64) 3 (.slice A27 rh.length c27) rh, row (Kd.int .i64) 3 (.slice B27 rn.length d27) rn, box g5 #[.slice (some ⟨bm, 0, none⟩) rh.length c21, .slice (some ⟨bq, 0, none⟩) rn.length d21] 27, row (Kd.int .i64) 3 (.slice (some ⟨bm, 0, none⟩) rh.length c21) rh, row (Kd.int .i64) 3 (.slice (some ⟨bq, 0, none⟩) rn.length d21) rn, box g4 #[.int .i64 f, .int .i64 t, .int .i64 a, .int .i64 m] 45, box g3 #[.slice (some ⟨bh, 0, none⟩) h.length c15, .slice (some ⟨bn, 0, none⟩) n.length d15] 27, row (Kd.int .i64) 3 (.slice (some ⟨bh, 0, none⟩) h.length c15) h, row (Kd.int .i64) 3 (.slice (some ⟨bn, 0, none⟩) n.length d15) n]) (fun u9 u10 wr => 4 - (intOf u9).toNat)
  case atStart => exact ⟨0, by omega, by omega, rfl, HS⟩
  case round =>
    clear HS
    obtain ⟨i, i0, i4, rfl, HS⟩ := hrel
    have b3 := fun j => HS.cell g3 j
    have b4 := fun j => HS.cell g4 j
    have b5 := fun j => HS.cell g5 j
    by_cases hlt : i < 4
    · have q1 : i < (h.length : Int) := by have := l1.out; omega
      have q2 : i < (rh.length : Int) := by have := l3.out; omega
      have q3 : i < (n.length : Int) := by have := l2.out; omega
      have q4 : i < (rn.length : Int) := by have := l4.out; omega
      have r1 := HS.cellI bh i i0 q1
      have r2 := HS.cellI bm i i0 q2
      have r3 := HS.cellI bn i i0 q3
      have r4 := HS.cellI bq i i0 q4
      obtain ⟨k00, k2⟩ := hkey.out i i0 hlt
      by_cases hf : i = f
      · have e1 : (i == f) = true := beq_iff_eq.mpr hf
        have e2 : (i != f) = false := bne_eq_false_iff_eq.mpr hf
        clear k2
        by_cases ht : i = t
        · have e3 : (i == t) = true := beq_iff_eq.mpr ht
          have k1 := k00.1 hf ht
          clear hf ht k00
          have e0 : IntKind.i64.wrap (rd h i + (-a + a)) = rd rh i := k1
          clear k1
          go_upto_region 18 with ((with_reducible refine gate_load rfl ?_); refine ev_loadC HS rfl rfl rfl (by rfl) ?_)
          have e6 : (rd rh i != rd rh i) = false := by simp
          go_quiet (fail)
          rename_i nq
          replace HS := HS.drewN nq
          generalize wr.drewN nq = w1 at HS ⊢
          go_wp2
          go_roundw
          case rel => exact ⟨i + 1, by omega, by omega, rfl, HS⟩
          case measure => simp [intOf]; omega
        · have e3 : (i == t) = false := beq_eq_false_iff_ne.mpr ht
          have k1 := k00.2.1 hf ht
          clear hf ht k00
          have e0 : IntKind.i64.wrap (rd h i + -a) = rd rh i := k1
          clear k1
          go_upto_region 18 with ((with_reducible refine gate_load rfl ?_); refine ev_loadC HS rfl rfl rfl (by rfl) ?_)
          have e6 : (rd rh i != rd rh i) = false := by simp
          go_quiet (fail)
          rename_i nq
          replace HS := HS.drewN nq
          generalize wr.drewN nq = w1 at HS ⊢
          go_wp2
          go_roundw
          case rel => exact ⟨i + 1, by omega, by omega, rfl, HS⟩
          case measure => simp [intOf]; omega
      · have e1 : (i == f) = false := beq_eq_false_iff_ne.mpr hf
        have e2 : (i != f) = true := bne_iff_ne.mpr hf
        replace k2 := k2 hf
        by_cases ht : i = t
        · have e3 : (i == t) = true := beq_iff_eq.mpr ht
          have k1 := k00.2.2.1 hf ht
          clear hf ht k00
          have e0 : IntKind.i64.wrap (rd h i + a) = rd rh i := k1
          clear k1
          have e5 : (rd rn i != rd n i) = false := bne_eq_false_iff_eq.mpr k2
          clear k2
          go_upto_region 18 with ((with_reducible refine gate_load rfl ?_); refine ev_loadC HS rfl rfl rfl (by rfl) ?_)
          have e6 : (rd rh i != rd rh i) = false := by simp
          go_quiet (fail)
          rename_i nq
          replace HS := HS.drewN nq
          generalize wr.drewN nq = w1 at HS ⊢
          go_wp2
          go_roundw
          case rel => exact ⟨i + 1, by omega, by omega, rfl, HS⟩
          case measure => simp [intOf]; omega
        · have e3 : (i == t) = false := beq_eq_false_iff_ne.mpr ht
          have k1 := k00.2.2.2 hf ht
          clear hf ht k00
          have e0 : IntKind.i64.wrap (rd h i) = rd rh i := k1
          clear k1
          have e5 : (rd rn i != rd n i) = false := bne_eq_false_iff_eq.mpr k2
          clear k2
          go_upto_region 18 with ((with_reducible refine gate_load rfl ?_); refine ev_loadC HS rfl rfl rfl (by rfl) ?_)
          have e6 : (rd rh i != rd rh i) = false := by simp
          go_quiet (fail)
          rename_i nq
          replace HS := HS.drewN nq
          generalize wr.drewN nq = w1 at HS ⊢
          go_wp2
          go_roundw
          case rel => exact ⟨i + 1, by omega, by omega, rfl, HS⟩
          case measure => simp [intOf]; omega
    · go_wp2
      go_ret
      exact ⟨rfl, HS.below⟩

theorem rd_set_same (xs : List Int) (i v : Int) (h0 : 0 ≤ i) (h1 : i < xs.length) : rd (xs.set i.toNat v) i = v := by
  obtain ⟨n, rfl⟩ := Int.eq_ofNat_of_zero_le h0
  rw [rd_nat _ n (by rw [List.length_set]; omega)]
  simp
theorem rd_set_other (xs : List Int) (i j v : Int) (h0 : 0 ≤ i) (j0 : 0 ≤ j) (h1 : j < xs.length) (hne : i ≠ j) : rd (xs.set i.toNat v) j = rd xs j := by
  obtain ⟨n, rfl⟩ := Int.eq_ofNat_of_zero_le h0
  obtain ⟨m, rfl⟩ := Int.eq_ofNat_of_zero_le j0
  rw [rd_nat _ m (by rw [List.length_set]; omega), rd_nat _ m (by omega)]
  rw [List.getElem_set_ne (by simp; omega)]
theorem wrap_small (x : Int) (h0 : -100000 ≤ x) (h1 : x ≤ 100000) : wrap64 x = x := by unfold wrap64; omega
theorem kind_small (x : Int) (h0 : -100000 ≤ x) (h1 : x ≤ 100000) : IntKind.i64.wrap x = x := by rw [IntKind.wrap_i64]; omega
theorem move_key (h : List Int) (f t a : Int) (hl : h.length = 4) (hb : ∀ x ∈ h, 0 ≤ x ∧ x ≤ 400) (f0 : 0 ≤ f) (f3 : f ≤ 3) (t0 : 0 ≤ t) (t3 : t ≤ 3) (a0 : 0 ≤ a) (a1 : a ≤ 1000) (i : Int) (i0 : 0 ≤ i) (i4 : i < 4) :
    (i = f → i = t → IntKind.i64.wrap (rd h i + (-a + a)) = rd (mvL h f t a) i) ∧ (i = f → i ≠ t → IntKind.i64.wrap (rd h i + -a) = rd (mvL h f t a) i) ∧ (i ≠ f → i = t → IntKind.i64.wrap (rd h i + a) = rd (mvL h f t a) i) ∧ (i ≠ f → i ≠ t → IntKind.i64.wrap (rd h i) = rd (mvL h f t a) i) := by
  have bd : ∀ j : Int, 0 ≤ j → j < 4 → 0 ≤ rd h j ∧ rd h j ≤ 400 := fun j j0 j4 => by
    obtain ⟨n, rfl⟩ := Int.eq_ofNat_of_zero_le j0
    rw [rd_nat h n (by omega)]
    exact hb _ (List.getElem_mem _)
  have bi := bd i i0 i4
  have bf := bd f f0 (by omega)
  have bt' := bd t t0 (by omega)
  have hl1 : (h.set f.toNat (wrap64 (rd h f - a))).length = 4 := by rw [List.length_set]; exact hl
  unfold mvL
  refine ⟨fun e1 e2 => ?_, fun e1 e2 => ?_, fun e1 e2 => ?_, fun e1 e2 => ?_⟩
  · subst e1; subst e2
    rw [rd_set_same _ i _ i0 (by rw [hl1]; omega), rd_set_same _ i _ i0 (by omega), wrap_small (rd h i - a) (by omega) (by omega), wrap_small _ (by omega) (by omega), kind_small _ (by omega) (by omega)]
    omega
  · subst e1
    rw [rd_set_other _ t i _ t0 i0 (by rw [hl1]; omega) (Ne.symm e2), rd_set_same _ i _ i0 (by omega), wrap_small (rd h i - a) (by omega) (by omega), kind_small _ (by omega) (by omega)]
    omega
  · subst e2
    rw [rd_set_same _ i _ i0 (by rw [hl1]; omega), rd_set_other _ f i _ f0 i0 (by omega) (Ne.symm e1), wrap_small _ (by omega) (by omega), kind_small _ (by omega) (by omega)]
  · rw [rd_set_other _ t i _ t0 i0 (by rw [hl1]; omega) (Ne.symm e2), rd_set_other _ f i _ f0 i0 (by omega) (Ne.symm e1), kind_small _ (by omega) (by omega)]
theorem FnMoves {w : World} {A0 : Option Addr} {c0 : Nat} (l : List Int) (hm0 : l.length ≤ maxLen) (hw0 : ∀ x ∈ l, (Lit.int .u8 x).wf = true) (hr0 : Kd.C (Kd.int .u8) w A0 l.length l) (hc0 : l.length ≤ c0) :
    Calls Try.prog 7 #[.slice A0 l.length c0] w fun e w' => e = .returned (.bool true) ∧ Below w.heap.size w w' := by
  by_cases c : (l.length : Int) > 1048576
  · exact walk0 A0 c0 l w ⟨hr0⟩ ⟨hc0⟩ ⟨by unfold laws_big.f; rw [decide_eq_true c]⟩
  have hb : laws_big.f l = some false := by unfold laws_big.f; rw [decide_eq_false c]
  obtain ⟨h, n, f, t, a, m, he, l1, l2⟩ := DrawPay_ev l (by omega)
  obtain ⟨kd, hd⟩ := he.rounds
  obtain ⟨p1, p2⟩ := paid_len h n f t a m
  have hI : impl_Pay.f 0 h n f t a m = some (payL h n f t a m) := by unfold impl_Pay.f; rw [if_pos ⟨by omega, by omega⟩]
  have hS : spec_Pay.f 0 h n f t a m = some (payL h n f t a m) := by unfold spec_Pay.f; rw [if_pos ⟨by omega, by omega⟩]
  obtain ⟨rh, rn, rc, hp⟩ : ∃ x y z, payL h n f t a m = (x, y, z) := ⟨_, _, _, rfl⟩
  rw [hp] at hI hS p1 p2
  simp only at p1 p2
  by_cases c0' : rc = 0
  · subst c0'
    have key : (ledgerIs h n ∧ txIs f t a m) ∧ rh = mvL h f t a ∧ rn = n.set f.toNat (wrap64 (m + 1)) := by
      unfold payL at hp
      by_cases z : ¬ (ledgerIs h n ∧ txIs f t a m)
      · rw [if_pos z] at hp; simp at hp
      rw [if_neg z] at hp
      refine ⟨Classical.not_not.1 z, ?_⟩
      by_cases y1 : m < rd n f
      · rw [if_pos y1] at hp; simp at hp
      rw [if_neg y1] at hp
      by_cases y2 : m > rd n f
      · rw [if_pos y2] at hp; simp at hp
      rw [if_neg y2] at hp
      by_cases y3 : a > rd h f
      · rw [if_pos y3] at hp; simp at hp
      rw [if_neg y3] at hp
      split at hp
      · simp only [Prod.mk.injEq] at hp; exact ⟨hp.1.symm, hp.2.1.symm⟩
      · simp at hp
    obtain ⟨⟨k1, k2⟩, rfl, rfl⟩ := key
    unfold ledgerIs at k1
    unfold txIs at k2
    refine walk2 A0 c0 l h n f t a m _ _ w ⟨hr0⟩ ⟨hc0⟩ ⟨hb⟩ kd ⟨hd⟩ 0 ⟨hI⟩ 0 ⟨hS⟩ ⟨k1.1.1⟩ ⟨k1.1.2⟩ ⟨by omega⟩ ⟨by omega⟩ k2.2.2.1.1 k2.2.2.1.2 ⟨fun i i0 i4 => ⟨?_, fun hne => ?_⟩⟩
    · exact move_key h f t a k1.1.1 k1.2.1 k2.1.1 k2.1.2 k2.2.1.1 k2.2.1.2 k2.2.2.1.1 k2.2.2.1.2 i i0 i4
    · exact rd_set_other n f i _ k2.1.1 i0 (by omega) (Ne.symm hne)
  · exact walk1 A0 c0 l h n f t a m rh rn rc w ⟨hr0⟩ ⟨hc0⟩ ⟨hb⟩ kd ⟨hd⟩ 0 ⟨hI⟩ 0 ⟨hS⟩ (bne_iff_ne.mpr c0')
end Go.Proofs.Ytajblkfgdalldaa.Law
