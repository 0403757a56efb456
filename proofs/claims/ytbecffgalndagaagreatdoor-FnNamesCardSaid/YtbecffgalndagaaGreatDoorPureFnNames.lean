/- Whatever is drawn: a chain's name tells its steps, what extends it has them first, of two that meet one is the other's beginning, and the two tell the same; no condition beyond the row's own (the library's tables lie as the program's text lays them). -/
import Derived.Test.YtbecffgalndagaaGreatDoorS
import Derived.Test.YtbecffgalndagaaGreatDoorPFnNamesx1
import Derived.Test.YtbecffgalndagaaGreatDoorPFnNamesx2
import Derived.Test.YtbecffgalndagaaGreatDoorPFnNamesx3
import Derived.Test.YtbecffgalndagaaGreatDoorPFnNamesx4
import Derived.Test.YtbecffgalndagaaGreatDoorPFnNamesx5
import Derived.Test.YtbecffgalndagaaGreatDoorPFnNamesx6
import Derived.Test.YtbecffgalndagaaGreatDoorPFnNamesx7
import Derived.Test.YtbecffgalndagaaGreatDoorPFnNamesx8
import Derived.Test.YtbecffgalndagaaGreatDoorPFnNamesx9
import Derived.Test.YtbecffgalndagaaGreatDoorPFnNamesx10
import Derived.Test.YtbecffgalndagaaGreatDoorPFnNamesx11
namespace Go.Proofs.YtbecffgalndagaaGreatDoor.Pure
open Go.RowKit Go.Proofs.YtbecffgalndagaaGreatDoor.PFnNames Go.Proofs.YtbecffgalndagaaGreatDoorW.PrintWords Go.Proofs.YtbecffgalndagaaGreatDoorW.PrintLast Go.Proofs.YtbecffgalndagaaGreatDoorS

section
set_option maxHeartbeats 8000000
set_option maxRecDepth 100000
set_option linter.unusedVariables false
set_option linter.unusedSimpArgs false
theorem up1 (n : Nat) (h : n < 4611686018427387904) : wrap64 ((n : Int) + 1) = ((n + 1 : Nat) : Int) := by
 unfold wrap64; omega
theorem up1' (a : Int) (h0 : -4611686018427387904 ≤ a) (h : a < 4611686018427387904) : wrap64 (a + 1) = a + 1 := by
 unfold wrap64; omega
theorem dn1 (a : Int) (h0 : -4611686018427387904 ≤ a) (h : a < 4611686018427387904) : wrap64 (a - 1) = a - 1 := by
 unfold wrap64; omega
theorem wrapI (a : Int) (h0 : -4611686018427387904 ≤ a) (h : a < 4611686018427387904) : wrap64 a = a := by
 unfold wrap64; omega
theorem rd_nat (xs : List Int) (n : Nat) (h : n < xs.length) : rd xs (n : Int) = xs[n] := by
 unfold rd; simp [List.getD_eq_getElem?_getD, h]
theorem ev_eq {α : Type} {g : Nat → Option α} {r s : α} (h : Ev g r) (e : r = s) : Ev g s := e ▸ h
theorem ev_ite {α : Type} {c : Prop} [Decidable c] {g f : Nat → Option α} {r s : α} (hg : c → Ev g r) (hf : ¬ c → Ev f s) : Ev (fun k => if c then g k else f k) (if c then r else s) := by
 by_cases h : c
 ·simp only [if_pos h]; exact hg h
 ·simp only [if_neg h]; exact hf h
theorem ev_pos {α : Type} {c : Prop} [Decidable c] {g f : Nat → Option α} {r : α} (h : c) (hg : Ev g r) : Ev (fun k => if c then g k else f k) r := by
 simp only [if_pos h]; exact hg
theorem ev_neg {α : Type} {c : Prop} [Decidable c] {g f : Nat → Option α} {r : α} (h : ¬ c) (hf : Ev f r) : Ev (fun k => if c then g k else f k) r := by
 simp only [if_neg h]; exact hf
theorem ev_some {α : Type} {r s : α} (e : r = s) : Ev (fun _ => some r) s := e ▸ Ev.now r
theorem ev_const {α β : Type} {o : Option α} {f : Nat → α → Option β} {a : α} {r : β} (h : o = some a) (k : Ev (fun n => f n a) r) : Ev (fun n => o.bind (f n)) r := by
 subst h; exact k
theorem ev_up {α : Type} {g : Nat → Option α} {r : α} (h : Ev (fun k => g (k + 1)) r) : Ev g r := by
 obtain ⟨K, hK⟩ := h
 refine ⟨K + 1, fun k hk => ?_⟩
 obtain ⟨m, rfl⟩ : ∃ m, k = m + 1 := ⟨k - 1, by omega⟩
 exact hK m (by omega)
theorem wNat (c : Nat) (h : c < 4611686018427387904) : wrap64 (c : Int) = (c : Int) := by unfold wrap64; omega
theorem wAdd (a i : Nat) (h : a + i < 4611686018427387904) : wrap64 ((a : Int) + (i : Int)) = ((a + i : Nat) : Int) := by unfold wrap64; omega
theorem wAdd1 (a i : Nat) (h : a + i < 4611686018427387904) : wrap64 (((a + i : Nat) : Int) + 1) = (a : Int) + ((i + 1 : Nat) : Int) := by unfold wrap64; omega
theorem wSub (a i : Nat) (h : a < 4611686018427387904) (h' : i < 4611686018427387904) : wrap64 ((a : Int) - (i : Int)) = (a : Int) - (i : Int) := by unfold wrap64; omega
theorem tmod128 (c : Nat) : Int.tmod (c : Int) 128 = ((c % 128 : Nat) : Int) := by rw [Int.tmod_eq_emod_of_nonneg (by omega)]; omega
theorem all_drop {α : Type} {P : α → Prop} {l : List α} {i : Nat} (h : i < l.length) : (∀ x ∈ l.drop i, P x) ↔ P l[i] ∧ ∀ x ∈ l.drop (i + 1), P x := by
 rw [List.drop_eq_getElem_cons h, List.forall_mem_cons]

theorem and_range (x y : Int) (m : Nat) (hy : y = (m : Int)) (hm : m < 4611686018427387904) : 0 ≤ Go.bits .and .i64 x y ∧ Go.bits .and .i64 x y ≤ (m : Int) := by
 subst hy
 have h2 : ((BitVec.ofInt 64 x) &&& (BitVec.ofInt 64 (m : Int))).toNat ≤ m := by
  rw [BitVec.toNat_and]
  refine Nat.le_trans Nat.and_le_right ?_
  rw [BitVec.ofInt_natCast, BitVec.toNat_ofNat]
  exact Nat.mod_le _ _
 have e : Go.bits .and .i64 x (m : Int) = IntKind.i64.wrap (((BitVec.ofInt 64 x) &&& (BitVec.ofInt 64 (m : Int))).toNat : Int) := rfl
 rw [e]
 generalize ((BitVec.ofInt 64 x) &&& (BitVec.ofInt 64 (m : Int))).toNat = q at h2
 rw [IntKind.wrap_i64]
 omega
/-- A cursor's place. -/
def Cur (i : Int) : Prop := 0 ≤ i ∧ i ≤ 1099511627776
theorem l1Byte_some (l : List Int) (i h : Int) (hl : l.length ≤ 1048576) (hi : Cur i) : ∃ v i' h', spec_l1Byte.f l i h = some (v, i', h') ∧ 0 ≤ v ∧ v ≤ 255 ∧ Cur i' := by
 unfold spec_l1Byte.f
 by_cases c : i < (l.length : Int)
 ·rw [if_pos c, if_pos hi.1]
  refine ⟨_, _, _, rfl, (and_range _ 255 255 rfl (by omega)).1, (and_range _ 255 255 rfl (by omega)).2, ?_⟩
  rw [up1' i (by unfold Cur at hi; omega) (by unfold Cur at hi; omega)]
  unfold Cur at hi ⊢; omega
 ·rw [if_neg c]
  exact ⟨_, _, _, rfl, (and_range _ 255 255 rfl (by omega)).1, (and_range _ 255 255 rfl (by omega)).2, hi⟩

theorem l1Below_some (l : List Int) (i h n : Int) (hl : l.length ≤ 1048576) (hi : Cur i) (hn : 0 < n) (hn' : n ≤ 256) : ∃ v i' h', spec_l1Below.f l i h n = some (v, i', h') ∧ 0 ≤ v ∧ v < n ∧ Cur i' := by
 obtain ⟨v, i', h', e, h0, h1, hc⟩ := l1Byte_some l i h hl hi
 unfold spec_l1Below.f
 rw [if_neg (by omega), if_pos hn', e, Option.bind_some, if_neg (by omega)]
 refine ⟨_, _, _, rfl, ?_, ?_, hc⟩
 ·exact Int.tmod_nonneg _ h0
 ·exact Int.tmod_lt_of_pos _ hn

theorem l1Once_some (l : List Int) (i h n : Int) (hl : l.length ≤ 1048576) (hi : Cur i) (hn : 0 < n) (hn' : n ≤ 256) : ∃ v i' h', spec_l1Once.f l i h n = some (v, i', h') ∧ Cur i' := by
 obtain ⟨v, i', h', e, h0, h1, hc⟩ := l1Below_some l i h n hl hi hn hn'
 unfold spec_l1Once.f
 rw [e, Option.bind_some]
 exact ⟨_, _, _, rfl, hc⟩

abbrev B (l : List UInt8) : ByteArray := ⟨l.toArray⟩
theorem B_list (l : List UInt8) : (B l).data.toList = l := by simp
theorem B_of (s : ByteArray) : B s.data.toList = s := Lib.mk_data s
theorem B_size (l : List UInt8) : (B l).size = l.length := by simp [ByteArray.size]
theorem B_app (l m : List UInt8) : B l ++ B m = B (l ++ m) := by
 rw [← B_of (B l ++ B m)]
 congr 2
 first | done | simp
theorem B_toList (l : List UInt8) : (B l).toList = l := by rw [Lib.toList_data, B_list]
theorem B_eq {l m : List UInt8} : B l = B m ↔ l = m := ⟨fun h => by have := congrArg (fun s : ByteArray => s.data.toList) h; simpa using this, fun h => by rw [h]⟩
theorem B_eta (s : ByteArray) : ∃ l, s = B l ∧ s.size = l.length ∧ s.data.toList = l := ⟨s.data.toList, (B_of s).symm, Lib.size_eq s, rfl⟩
theorem nums_B (xs : List Int) : strOfNums xs = B (xs.map fun n => UInt8.ofNat n.toNat) := rfl
theorem bt_B (l : List UInt8) (i : Nat) (h : i < l.length) : bt (B l) (i : Int) = (l[i].toNat : Int) := by
 rw [← bt_at (B l) i (by rw [Int.toNat_natCast, B_size]; exact h)]
 rfl
theorem bt_mid (pre suf : List UInt8) (b : UInt8) : bt (B (pre ++ b :: suf)) (pre.length : Int) = (b.toNat : Int) := by
 rw [bt_B _ _ (by simp)]
 simp
theorem extract_B (l : List UInt8) (a b : Nat) : (B l).extract a b = B ((l.drop a).take (b - a)) := by rw [Lib.extract_eq, B_list]
theorem B_nil : (⟨#[]⟩ : ByteArray) = B [] := rfl
theorem digB (m : Int) (h0 : 0 ≤ m) (h1 : m < 10) : strOfNums [(wrap64 (48 + m)) % 256] = B [UInt8.ofNat (48 + m.toNat)] := by
 rw [nums_B]
 have : (wrap64 (48 + m)) % 256 = ((48 + m.toNat : Nat) : Int) := by unfold wrap64; omega
 rw [this]
 rfl
theorem Digits_zero (neg : Bool) (acc : List UInt8) (h : acc.length ≤ 100) : Ev (fun k => spec_Digits.l0 k 0 neg (B acc)) (B ((if neg = true then [45] else []) ++ acc)) := by
 have hs := B_size acc
 refine Ev.step (f := fun _ => some (B ((if neg = true then [45] else []) ++ acc))) (fun k => ?_) (Ev.now _)
 simp only [spec_Digits.l0]
 rw [if_pos trivial]
 by_cases c : neg = true
 ·rw [if_pos c, if_pos (by omega), if_pos c, ← B_app]
 ·rw [if_neg c, if_neg c, List.nil_append]
theorem Digits_loop : ∀ (d : Nat) (x : Int) (neg : Bool) (acc : List UInt8), x.natAbs < 10 ^ d → acc.length + d ≤ 100 → -9223372036854775808 ≤ x → x ≤ 9223372036854775807 →
  Ev (fun k => spec_Digits.l0 k x neg (B acc)) (B ((if neg = true then [45] else []) ++ ((if x.natAbs = 0 then [] else Lib.decDigits x.natAbs) ++ acc)))
 | 0, x, neg, acc, h, hl, h0, h1 => by
  obtain rfl : x = 0 := by simp at h; exact h
  exact Digits_zero neg acc (by omega)
 | d + 1, x, neg, acc, h, hl, h0, h1 => by
  by_cases hx : x = 0
  ·subst hx
   exact Digits_zero neg acc (by omega)
  have hs := B_size acc
  have hq : (wrap64 (Int.tdiv x 10)).natAbs = x.natAbs / 10 ∧ -9223372036854775808 ≤ wrap64 (Int.tdiv x 10) ∧ wrap64 (Int.tdiv x 10) ≤ 9223372036854775807 := by
   have e : Int.tdiv x 10 = if 0 ≤ x then ((x.natAbs / 10 : Nat) : Int) else -((x.natAbs / 10 : Nat) : Int) := by
    split
    ·rename_i hp
     obtain ⟨u, rfl⟩ := Int.eq_ofNat_of_zero_le hp
     rfl
    ·rename_i hp
     obtain ⟨u, rfl⟩ : ∃ u : Nat, x = -(u : Int) := ⟨x.natAbs, by omega⟩
     rw [Int.neg_tdiv, Int.natAbs_neg, Int.natAbs_natCast]
     rfl
   rw [e]
   unfold wrap64
   split <;> omega
  have hm : Int.tmod x 10 = if 0 ≤ x then ((x.natAbs % 10 : Nat) : Int) else -((x.natAbs % 10 : Nat) : Int) := by
   split
   ·rename_i hp
    obtain ⟨u, rfl⟩ := Int.eq_ofNat_of_zero_le hp
    rfl
   ·rename_i hp
    obtain ⟨u, rfl⟩ : ∃ u : Nat, x = -(u : Int) := ⟨x.natAbs, by omega⟩
    rw [Int.neg_tmod, Int.natAbs_neg, Int.natAbs_natCast]
    rfl
  have h10 : x.natAbs < 10 * 10 ^ d := by rw [Nat.pow_succ] at h; omega
  have ih := Digits_loop d (wrap64 (Int.tdiv x 10)) neg (UInt8.ofNat (48 + x.natAbs % 10) :: acc) (by rw [hq.1]; omega) (by simp only [List.length_cons]; omega) hq.2.1 hq.2.2
  rw [hq.1] at ih
  have e : (if x.natAbs / 10 = 0 then [] else Lib.decDigits (x.natAbs / 10)) ++ (UInt8.ofNat (48 + x.natAbs % 10) :: acc) = (if x.natAbs = 0 then [] else Lib.decDigits x.natAbs) ++ acc := by
   rw [if_neg (show ¬ x.natAbs = 0 by omega)]
   by_cases hu : x.natAbs < 10
   ·rw [if_pos (by omega), Lib.decDigits, dif_pos hu, Nat.mod_eq_of_lt hu]; rfl
   ·rw [if_neg (by omega), show Lib.decDigits x.natAbs = Lib.decDigits (x.natAbs / 10) ++ [UInt8.ofNat (48 + x.natAbs % 10)] by rw [Lib.decDigits, dif_neg hu]]
    simp
  rw [e] at ih
  refine Ev.step (f := fun k => spec_Digits.l0 k (wrap64 (Int.tdiv x 10)) neg (B (UInt8.ofNat (48 + x.natAbs % 10) :: acc))) (fun k => ?_) ih
  simp only [spec_Digits.l0]
  rw [if_neg hx]
  by_cases c : Int.tmod x 10 < 0
  ·rw [if_pos c, Option.bind_some]
   have e2 : wrap64 (-(Int.tmod x 10)) = ((x.natAbs % 10 : Nat) : Int) := by
    rw [hm] at c ⊢
    unfold wrap64
    split at c <;> rename_i hp
    ·omega
    ·rw [if_neg hp]; omega
   rw [e2, digB _ (by omega) (by omega), B_size, if_pos (by simp only [List.length_singleton]; omega), Int.toNat_natCast, B_app]
   rfl
  ·rw [if_neg c, Option.bind_some]
   have e2 : Int.tmod x 10 = ((x.natAbs % 10 : Nat) : Int) := by
    rw [hm] at c ⊢
    split at c <;> rename_i hp
    ·rw [if_pos hp]
    ·rw [if_neg hp]; omega
   rw [e2, digB _ (by omega) (by omega), B_size, if_pos (by simp only [List.length_singleton]; omega), Int.toNat_natCast, B_app]
   rfl
theorem spec_Digits_ev (n : Int) (h0 : -9223372036854775808 ≤ n) (h1 : n ≤ 9223372036854775807) : Ev (fun k => spec_Digits.f k n) (B (Lib.itoa n)) := by
 unfold spec_Digits.f
 by_cases hn : n = 0
 ·subst hn
  refine ev_pos rfl (ev_some ?_)
  rw [show Lib.itoa 0 = Lib.decDigits 0 from rfl, Lib.decDigits]
  rfl
 refine ev_neg hn ?_
 have h := Digits_loop 19 n (decide (n < 0)) [] (by omega) (by simp) h0 h1
 refine ev_eq h ?_
 rw [if_neg (show ¬ n.natAbs = 0 by omega), List.append_nil]
 unfold Lib.itoa
 by_cases c : n < 0
 ·rw [if_pos (decide_eq_true c), if_pos c]; rfl
 ·rw [if_neg (by simpa using c), if_neg c, show n.natAbs = n.toNat by omega]; rfl

theorem l1Below_any (l : List Int) (i h n : Int) (hl : l.length ≤ 1048576) (hi : Cur i) (hn : 0 < n) : ∃ v i' h', spec_l1Below.f l i h n = some (v, i', h') ∧ 0 ≤ v ∧ v < n ∧ Cur i' := by
 by_cases c : n ≤ 256
 ·exact l1Below_some l i h n hl hi hn c
 obtain ⟨a, i1, h1, e1, a0, a1, c1⟩ := l1Byte_some l i h hl hi
 obtain ⟨b, i2, h2, e2, b0, b1, c2⟩ := l1Byte_some l i1 h1 hl c1
 obtain ⟨d, i3, h3, e3, d0, d1, c3⟩ := l1Byte_some l i2 h2 hl c2
 obtain ⟨e, i4, h4, e4, f0, f1, c4⟩ := l1Byte_some l i3 h3 hl c3
 unfold spec_l1Below.f
 rw [if_neg (by omega), if_neg c, e1, Option.bind_some]
 simp only
 rw [e2, Option.bind_some]
 simp only
 rw [e3, Option.bind_some]
 simp only
 rw [e4, Option.bind_some, if_neg (by omega)]
 refine ⟨_, _, _, rfl, ?_, ?_, c4⟩
 ·refine Int.tmod_nonneg _ ?_
  simp only
  unfold wrap64
  omega
 ·exact Int.tmod_lt_of_pos _ hn
def DrawnT (N : Nat) (r : ByteArray × Int × Int) : Prop := ∃ s : List UInt8, r.1 = B s ∧ s.length ≤ N ∧ Cur r.2.1
theorem l1Pick_some (l : List Int) (i h : Int) (xs : List (List UInt8)) (hl : l.length ≤ 1048576) (hi : Cur i) (hx : 0 < xs.length) (hx' : xs.length ≤ 256) : ∃ v i' h', spec_l1Pick.f l i h (xs.map B) = some (B v, i', h') ∧ v ∈ xs ∧ Cur i' := by
 obtain ⟨v, i', h', e, h0, h1, hc⟩ := l1Below_some l i h ((xs.map B).length : Int) hl hi (by rw [List.length_map]; omega) (by rw [List.length_map]; omega)
 rw [List.length_map] at h1
 obtain ⟨m, rfl⟩ := Int.eq_ofNat_of_zero_le h0
 have hm : m < xs.length := by omega
 refine ⟨xs[m], i', h', ?_, List.getElem_mem hm, hc⟩
 unfold spec_l1Pick.f
 rw [e, Option.bind_some, if_pos h0, if_pos (by rw [List.length_map]; omega)]
 unfold rdOf
 rw [Int.toNat_natCast, List.getD_eq_getElem?_getD]
 simp [hm]

theorem l2Dent_some (l : List Int) (i h : Int) (s : List UInt8) (hl : l.length ≤ 1048576) (hi : Cur i) (hs : s.length ≤ 1048576) : ∃ r, spec_l2Dent.f l i h (B s) = some r ∧ DrawnT (s.length + 1) r := by
 have hw : wrap64 (((B s).size : Int) + 1) = (s.length : Int) + 1 := by rw [B_size, up1' _ (by omega) (by omega)]
 obtain ⟨v, i1, h1, e1, v0, v1, c1⟩ := l1Below_any l i h ((s.length : Int) + 1) hl hi (by omega)
 obtain ⟨u, i2, h2, e2, u0, u1, c2⟩ := l1Below_some l i1 h1 5 hl c1 (by omega) (by omega)
 obtain ⟨x, i3, h3, e3, hx, c3⟩ := l1Pick_some l i2 h2 [[48], [44], [62], [47], [124], [120], [49]] hl c2 (by decide) (by decide)
 have hx1 : x.length = 1 := by
  simp only [List.mem_cons, List.not_mem_nil, or_false] at hx
  rcases hx with rfl | rfl | rfl | rfl | rfl | rfl | rfl <;> rfl
 obtain ⟨m, rfl⟩ := Int.eq_ofNat_of_zero_le v0
 have hm : m ≤ s.length := by omega
 unfold spec_l2Dent.f
 rw [hw, e1, Option.bind_some]
 simp only
 rw [e2, Option.bind_some]
 simp only
 have t1 : (B s).extract 0 m = B (s.take m) := by rw [extract_B, List.drop_zero, Nat.sub_zero]
 have t2 : (B s).extract m (B s).size = B (s.drop m) := by rw [extract_B, B_size, List.take_of_length_le (by simp)]
 by_cases d0 : u = 0
 ·rw [if_pos d0, if_pos (by omega), if_pos (by rw [B_size]; omega), Int.toNat_natCast, t1]
  exact ⟨_, rfl, _, rfl, by rw [List.length_take]; omega, c2⟩
 rw [if_neg d0]
 by_cases d1 : u = 1
 ·rw [if_pos d1, if_pos (by omega), if_pos (by rw [B_size]; omega), Int.toNat_natCast, t1, t2]
  have e3' : spec_l1Pick.f l i2 h2 ([(⟨#[48]⟩ : ByteArray), (⟨#[44]⟩ : ByteArray), (⟨#[62]⟩ : ByteArray), (⟨#[47]⟩ : ByteArray), (⟨#[124]⟩ : ByteArray), (⟨#[120]⟩ : ByteArray), (⟨#[49]⟩ : ByteArray)] : List ByteArray) = some (B x, i3, h3) := e3
  rw [e3', Option.bind_some]
  simp only
  rw [if_pos (by rw [B_size, B_size, List.length_take]; omega), B_app, if_pos (by rw [B_size, B_size, List.length_append, List.length_take, List.length_drop]; omega), B_app]
  exact ⟨_, rfl, _, rfl, by rw [List.length_append, List.length_append, List.length_take, List.length_drop]; omega, c3⟩
 rw [if_neg d1]
 exact ⟨_, rfl, s, rfl, by omega, c2⟩

theorem spec_l1In_val (a b c : Int) : spec_l1In.f a b c = some (decide (b ≤ a ∧ a ≤ c)) := by
 unfold spec_l1In.f
 by_cases h : a ≥ b <;> by_cases h2 : a ≤ c <;> simp [h, h2] <;> omega

def txIs (f t a n : Int) : Prop := (0 ≤ f ∧ f ≤ 3) ∧ (0 ≤ t ∧ t ≤ 3) ∧ (0 ≤ a ∧ a ≤ 1000) ∧ 0 ≤ n ∧ n ≤ 99
instance (f t a n : Int) : Decidable (txIs f t a n) := by unfold txIs; infer_instance
theorem spec_TxOk_val (f t a n : Int) : spec_TxOk.f f t a n = some (decide (txIs f t a n)) := by
 unfold spec_TxOk.f txIs
 simp only [spec_l1In_val, Option.bind_some, decide_eq_true_eq]
 by_cases h1 : 0 ≤ f ∧ f ≤ 3 <;> by_cases h2 : 0 ≤ t ∧ t ≤ 3 <;> by_cases h3 : 0 ≤ a ∧ a ≤ 1000 <;> simp only [h1, h2, h3, if_true, if_false, true_and, false_and, and_false, and_self, decide_false]

theorem itoa_len (n : Int) (h0 : 0 ≤ n) (h1 : n ≤ 1000) : (Lib.itoa n).length ≤ 4 := by
 obtain ⟨u, rfl⟩ := Int.eq_ofNat_of_zero_le h0
 rw [itoa_nat]
 exact dec_len 3 u (by omega)
theorem rawB (x : Tx) : ((((((B (Lib.itoa x.1) ++ (⟨#[62]⟩ : ByteArray)) ++ B (Lib.itoa x.2.1)) ++ (⟨#[58]⟩ : ByteArray)) ++ B (Lib.itoa x.2.2.1)) ++ (⟨#[35]⟩ : ByteArray)) ++ B (Lib.itoa x.2.2.2)) = B (rawT x) := by
 rw [show (⟨#[62]⟩ : ByteArray) = B [62] from rfl, show (⟨#[58]⟩ : ByteArray) = B [58] from rfl, show (⟨#[35]⟩ : ByteArray) = B [35] from rfl]
 simp only [B_app]
 unfold rawT
 simp
theorem raw_len (x : Tx) (h : okT x) : (rawT x).length ≤ 19 := by
 unfold okT at h
 have a := itoa_len x.1 (by omega) (by omega)
 have b := itoa_len x.2.1 (by omega) (by omega)
 have c := itoa_len x.2.2.1 (by omega) (by omega)
 have d := itoa_len x.2.2.2 (by omega) (by omega)
 unfold rawT
 simp only [List.length_append, List.length_cons]
 omega
theorem spec_TxText_ev (f t a n : Int) : Ev (fun k => spec_TxText.f k f t a n) (B (textT (f, t, a, n))) := by
 unfold spec_TxText.f
 simp only [spec_TxOk_val, Option.bind_some]
 by_cases c : txIs f t a n
 ·have c' : okT (f, t, a, n) := c
  have c2 := c
  unfold txIs at c2
  have h1 := itoa_len f (by omega) (by omega)
  have h2 := itoa_len t (by omega) (by omega)
  have h3 := itoa_len a (by omega) (by omega)
  have h4 := itoa_len n (by omega) (by omega)
  have s1 := B_size (Lib.itoa f)
  have s2 := B_size (Lib.itoa t)
  have s3 := B_size (Lib.itoa a)
  have s4 := B_size (Lib.itoa n)
  have z1 : (⟨#[62]⟩ : ByteArray).size = 1 := rfl
  have z2 : (⟨#[58]⟩ : ByteArray).size = 1 := rfl
  have z3 : (⟨#[35]⟩ : ByteArray).size = 1 := rfl
  have ht : textT (f, t, a, n) = rawT (f, t, a, n) := by unfold textT; rw [if_pos c']
  rw [ht]
  simp only [decide_eq_true c, if_true]
  refine Ev.bind (spec_Digits_ev f (by omega) (by omega)) (ev_pos (by omega) ?_)
  refine Ev.bind (spec_Digits_ev t (by omega) (by omega)) (ev_pos (by rw [ByteArray.size_append]; omega) (ev_pos (by rw [ByteArray.size_append, ByteArray.size_append]; omega) ?_))
  refine Ev.bind (spec_Digits_ev a (by omega) (by omega)) (ev_pos (by rw [ByteArray.size_append, ByteArray.size_append, ByteArray.size_append]; omega) (ev_pos (by rw [ByteArray.size_append, ByteArray.size_append, ByteArray.size_append, ByteArray.size_append]; omega) ?_))
  refine Ev.bind (spec_Digits_ev n (by omega) (by omega)) (ev_pos (by rw [ByteArray.size_append, ByteArray.size_append, ByteArray.size_append, ByteArray.size_append, ByteArray.size_append]; omega) ?_)
  exact ev_some (rawB (f, t, a, n))
 ·have ht : textT (f, t, a, n) = [] := by unfold textT; rw [if_neg (show ¬ okT (f, t, a, n) from c)]
  rw [ht]
  simp only [decide_eq_false c, Bool.false_eq_true, if_false]
  exact ev_some rfl

def txOkS (x : S60) : Prop := txIs x.f0 x.f1 x.f2 x.f3
instance (x : S60) : Decidable (txOkS x) := by unfold txOkS; infer_instance
theorem rdT_nat (xs : List S60) (n : Nat) (h : n < xs.length) : rd_T60 xs (n : Int) = xs[n] := by
 unfold rd_T60; simp [List.getD_eq_getElem?_getD, h]
def tq (x : S60) : Tx := (x.f0, x.f1, x.f2, x.f3)
theorem join_len : ∀ (l : List Tx), okTs l → (joinL 44 (l.map rawT)).length ≤ 20 * l.length
 | [], _ => by simp [joinL]
 | [x], h => by
  have := raw_len x (h x (by simp))
  simp only [List.map_cons, List.map_nil, joinL, List.length_singleton]
  omega
 | x :: y :: l, h => by
  have h1 := raw_len x (h x (by simp))
  have h2 := join_len (y :: l) (fun z hz => h z (by simp at hz ⊢; exact .inr hz))
  rw [List.map_cons, joinL_cons _ _ (by simp), List.length_append, List.length_cons]
  simp only [List.length_cons] at h2 ⊢
  omega
theorem take_map_succ (l : List S60) (n : Nat) (h : n < l.length) : (l.map tq).take (n + 1) = (l.map tq).take n ++ [tq l[n]] := by
 rw [List.take_succ_eq_append_getElem (by simpa using h), List.getElem_map]
theorem okTs_snoc {l : List Tx} {x : Tx} (h : okTs l) (hx : okT x) : okTs (l ++ [x]) := fun y hy => by
 rcases List.mem_append.1 hy with hy | hy
 ·exact h y hy
 ·rw [List.mem_singleton.1 hy]; exact hx
theorem not_okTs (l : List S60) (n : Nat) (h : n < l.length) (hx : ¬ okT (tq l[n])) : textTs (l.map tq) = [] := by
 unfold textTs
 rw [if_neg (fun hh => hx (hh _ (List.mem_map.2 ⟨_, List.getElem_mem h, rfl⟩)))]
theorem libjoin (c : UInt8) : ∀ l : List (List UInt8), Lib.join l [c] = joinL c l
 | [] => rfl
 | [a] => by simp [Lib.join, joinL]
 | a :: b :: l => by
  have ih := libjoin c (b :: l)
  unfold Lib.join at ih ⊢
  rw [joinL, ← ih, List.intercalate_cons_cons]
  simp
theorem spec_TxsText_loop (l : List S60) (hl : l.length ≤ 1048576) : ∀ (d n : Nat), l.length - n = d → n ≤ l.length → okTs ((l.map tq).take n) → Ev (fun k => spec_TxsText.l0 k l (B (joinL 44 (((l.map tq).take n).map rawT))) (n : Int)) (B (textTs (l.map tq))) := by
 intro d
 induction d with
 | zero =>
  intro n hd hn hok
  obtain rfl : n = l.length := by omega
  rw [List.take_of_length_le (by simp)] at hok ⊢
  have e : textTs (l.map tq) = joinL 44 ((l.map tq).map rawT) := by unfold textTs; rw [if_pos hok]
  rw [e]
  exact Ev.step (f := fun _ => some _) (fun k => by simp only [spec_TxsText.l0]; rw [if_neg (by omega)]) (Ev.now _)
 | succ d ih =>
  intro n hd hn hok
  have h1 : n < l.length := by omega
  have hlen := join_len _ hok
  have htl : ((l.map tq).take n).length = n := by rw [List.length_take]; simp; omega
  rw [htl] at hlen
  have hs := B_size (joinL 44 (((l.map tq).take n).map rawT))
  by_cases c : okT (tq l[n])
  ·have hr := raw_len _ c
   have hok' := okTs_snoc hok c
   have ht : textT (l[n].f0, l[n].f1, l[n].f2, l[n].f3) = rawT (tq l[n]) := by
    unfold textT
    rw [if_pos (show okT (l[n].f0, l[n].f1, l[n].f2, l[n].f3) from c)]; rfl
   have hsr := B_size (rawT (tq l[n]))
   rw [← take_map_succ l n h1] at hok'
   have ih' := ih (n + 1) (by omega) (by omega) hok'
   have htx := spec_TxText_ev l[n].f0 l[n].f1 l[n].f2 l[n].f3
   rw [ht] at htx
   rw [take_map_succ l n h1, List.map_append, List.map_singleton] at ih'
   by_cases hz : n = 0
   ·subst hz
    refine Ev.step (f := fun k => (spec_TxText.f k l[0].f0 l[0].f1 l[0].f2 l[0].f3).bind fun t => (if (B (joinL 44 (((l.map tq).take 0).map rawT))).size + t.size ≤ 9223372036854775807 then (spec_TxsText.l0 k l (B (joinL 44 (((l.map tq).take 0).map rawT)) ++ t) ((0 + 1 : Nat) : Int)) else (none))) (fun k => ?_) ?_
    ·simp only [spec_TxsText.l0]
     rw [if_pos (by omega), if_pos (by omega), rdT_nat l 0 h1, spec_TxOk_val, Option.bind_some, if_pos (decide_eq_true (show txIs l[0].f0 l[0].f1 l[0].f2 l[0].f3 from c)), if_neg (by omega), up1 0 (by omega)]
    ·refine Ev.bind htx (ev_pos (by omega) ?_)
     exact ih'
   ·have hne : ((l.map tq).take n).map rawT ≠ [] := fun h => by have := congrArg List.length h; rw [List.length_map, htl] at this; exact hz (by simpa using this)
    rw [joinL_append _ _ hne] at ih'
    have z1 : (⟨#[44]⟩ : ByteArray).size = 1 := rfl
    refine Ev.step (f := fun k => (spec_TxText.f k l[n].f0 l[n].f1 l[n].f2 l[n].f3).bind fun t => (if (B (joinL 44 (((l.map tq).take n).map rawT)) ++ (⟨#[44]⟩ : ByteArray)).size + t.size ≤ 9223372036854775807 then (spec_TxsText.l0 k l ((B (joinL 44 (((l.map tq).take n).map rawT)) ++ (⟨#[44]⟩ : ByteArray)) ++ t) ((n + 1 : Nat) : Int)) else (none))) (fun k => ?_) ?_
    ·simp only [spec_TxsText.l0]
     rw [if_pos (by omega), if_pos (by omega), rdT_nat l n h1, spec_TxOk_val, Option.bind_some, if_pos (decide_eq_true (show txIs l[n].f0 l[n].f1 l[n].f2 l[n].f3 from c)), if_pos (by omega), if_pos (by omega), up1 n (by omega)]
    ·refine Ev.bind htx (ev_pos (by rw [ByteArray.size_append]; omega) ?_)
     rw [show (⟨#[44]⟩ : ByteArray) = B [44] from rfl, B_app, B_app, List.append_assoc, List.singleton_append]
     exact ih'
  ·rw [not_okTs l n h1 c]
   refine Ev.step (f := fun _ => some (B [])) (fun k => ?_) (Ev.now _)
   simp only [spec_TxsText.l0]
   rw [if_pos (by omega), if_pos (by omega), rdT_nat l n h1, spec_TxOk_val, Option.bind_some, if_neg (by simpa using (show ¬ txIs l[n].f0 l[n].f1 l[n].f2 l[n].f3 from c))]
theorem spec_TxsText_ev (l : List S60) (hl : l.length ≤ 1048576) : Ev (fun k => spec_TxsText.f k l) (B (textTs (l.map tq))) := by
 unfold spec_TxsText.f
 exact spec_TxsText_loop l hl l.length 0 (by omega) (by omega) (by intro x hx; simp at hx)

theorem byte_of (a : Int) (h0 : 0 ≤ a) (h1 : a ≤ 255) : ∃ c : UInt8, a = (c.toNat : Int) := ⟨UInt8.ofNat a.toNat, by rw [UInt8.toNat_ofNat', Nat.mod_eq_of_lt (by omega)]; omega⟩
theorem byte_eq {b c : UInt8} : ((b.toNat : Int) = (c.toNat : Int)) ↔ b = c := ⟨fun h => UInt8.toNat_inj.1 (by omega), fun h => by rw [h]⟩
theorem splitL_len (c : UInt8) : ∀ l : List UInt8, (splitL c l).length ≤ l.length + 1
 | [] => by simp [splitL]
 | b :: l => by
  have ih := splitL_len c l
  rw [splitL]
  by_cases h : b = c
  ·rw [if_pos h]; simp only [List.length_cons]; omega
  ·rw [if_neg h]
   split <;> rename_i he
   ·rw [he] at ih; simp only [List.length_cons] at ih ⊢; omega
   ·simp
theorem ext_mid (pre seg suf : List UInt8) : (B (pre ++ seg ++ suf)).extract pre.length (pre.length + seg.length) = B seg := by
 rw [extract_B, List.append_assoc, List.drop_left, Nat.add_sub_cancel_left, List.take_left]
theorem spec_Split_loop (c : UInt8) : ∀ (suf pre seg : List UInt8) (dn : List ByteArray), (pre ++ seg ++ suf).length ≤ 1073741824 → dn.length ≤ pre.length → c ∉ seg →
  Ev (fun k => spec_Split.l0 k (B (pre ++ seg ++ suf)) (c.toNat : Int) dn (pre.length : Int) ((pre.length + seg.length : Nat) : Int)) (dn ++ (splitL c (seg ++ suf)).map B)
 | [], pre, seg, dn, hl, hd, hc => by
  rw [List.append_nil, List.append_nil] at *
  have hs := B_size (pre ++ seg)
  have he := ext_mid pre seg []
  rw [List.append_nil] at he
  simp only [List.length_append] at hl hs
  rw [splitL_none hc]
  refine Ev.step (f := fun k => spec_Split.l0 k (B (pre ++ seg)) (c.toNat : Int) (dn ++ [B seg]) ((pre.length + seg.length + 1 : Nat) : Int) ((pre.length + seg.length + 1 : Nat) : Int)) (fun k => ?_) ?_
  ·simp only [spec_Split.l0]
   rw [if_pos (by omega), if_pos (by omega), if_pos (by omega), if_pos (by omega), if_pos (by omega), up1 _ (by omega), Int.toNat_natCast, Int.toNat_natCast, he]
  ·refine Ev.step (f := fun _ => some (dn ++ [B seg])) (fun k => ?_) (Ev.now _)
   simp only [spec_Split.l0]
   rw [if_neg (by omega)]
 | b :: suf, pre, seg, dn, hl, hd, hc => by
  have hs := B_size (pre ++ seg ++ b :: suf)
  have he := ext_mid pre seg (b :: suf)
  have hbt := bt_mid (pre ++ seg) suf b
  rw [List.length_append] at hbt
  simp only [List.length_append, List.length_cons] at hl hs
  by_cases h : b = c
  ·subst h
   rw [splitL_at hc]
   have ih := spec_Split_loop b suf (pre ++ seg ++ [b]) [] (dn ++ [B seg]) (by simp; omega) (by simp; omega) (by simp)
   have e1 : pre ++ seg ++ [b] ++ [] ++ suf = pre ++ seg ++ b :: suf := by simp
   have e2 : (pre ++ seg ++ [b]).length + ([] : List UInt8).length = pre.length + seg.length + 1 := by simp; omega
   have e3 : (pre ++ seg ++ [b]).length = pre.length + seg.length + 1 := by simp; omega
   rw [e1, e2, e3] at ih
   refine Ev.step (f := fun k => spec_Split.l0 k (B (pre ++ seg ++ b :: suf)) (b.toNat : Int) (dn ++ [B seg]) ((pre.length + seg.length + 1 : Nat) : Int) ((pre.length + seg.length + 1 : Nat) : Int)) (fun k => ?_) (ev_eq ih (by simp))
   simp only [spec_Split.l0]
   rw [if_pos (by omega), if_neg (by omega), if_pos (by omega), if_pos (by omega), hbt, if_pos rfl, if_pos (by omega), if_pos (by omega), if_pos (by omega), up1 _ (by omega), Int.toNat_natCast, Int.toNat_natCast, he]
  ·have ih := spec_Split_loop c suf pre (seg ++ [b]) dn (by simp; omega) hd (by simp [hc, Ne.symm h])
   have e1 : pre ++ (seg ++ [b]) ++ suf = pre ++ seg ++ b :: suf := by simp
   have e2 : pre.length + (seg ++ [b]).length = pre.length + seg.length + 1 := by simp; omega
   have e3 : seg ++ [b] ++ suf = seg ++ b :: suf := by simp
   rw [e1, e2, e3] at ih
   refine Ev.step (f := fun k => spec_Split.l0 k (B (pre ++ seg ++ b :: suf)) (c.toNat : Int) dn (pre.length : Int) ((pre.length + seg.length + 1 : Nat) : Int)) (fun k => ?_) ih
   simp only [spec_Split.l0]
   rw [if_pos (by omega), if_neg (by omega), if_pos (by omega), if_pos (by omega), hbt, if_neg (fun e => h (byte_eq.1 e)), up1 _ (by omega)]
theorem spec_Split_ev (l : List UInt8) (c : UInt8) (hl : l.length ≤ 1073741824) : Ev (fun k => spec_Split.f k (B l) (c.toNat : Int)) ((splitL c l).map B) := by
 unfold spec_Split.f
 exact spec_Split_loop c l [] [] [] (by simpa using hl) (by simp) (by simp)

theorem spec_l2Cut_loop (c : UInt8) : ∀ (suf pre : List UInt8), (pre ++ suf).length ≤ 1073741824 →
  Ev (fun k => spec_l2Cut.l0 k (B (pre ++ suf)) (c.toNat : Int) (pre.length : Int)) (match cutL c suf with | none => (B [], B [], false) | some p => (B (pre ++ p.1), B p.2, true))
 | [], pre, hl => by
  rw [List.append_nil] at *
  have hs := B_size pre
  refine Ev.step (f := fun _ => some (B [], B [], false)) (fun k => ?_) (Ev.now _)
  simp only [spec_l2Cut.l0]
  rw [if_neg (by omega)]
 | b :: suf, pre, hl => by
  have hs := B_size (pre ++ b :: suf)
  have hbt := bt_mid pre suf b
  simp only [List.length_append, List.length_cons] at hl hs
  rw [cutL]
  by_cases h : b = c
  ·subst h
   rw [if_pos rfl]
   refine Ev.step (f := fun _ => some (B (pre ++ []), B suf, true)) (fun k => ?_) (Ev.now _)
   simp only [spec_l2Cut.l0]
   rw [if_pos (by omega), if_pos (by omega), hbt, if_pos rfl, up1 _ (by omega), if_pos (by omega), if_pos (by omega), if_pos (by omega), Int.toNat_natCast, Int.toNat_natCast, extract_B, extract_B, hs]
   have e1 : ((pre ++ b :: suf).drop 0).take (pre.length - 0) = pre ++ [] := by simp
   have e2 : ((pre ++ b :: suf).drop (pre.length + 1)).take (pre.length + (suf.length + 1) - (pre.length + 1)) = suf := by
    rw [show (pre ++ b :: suf).drop (pre.length + 1) = suf by simp]
    exact List.take_of_length_le (by omega)
   rw [e1, e2]
  ·rw [if_neg h]
   have ih := spec_l2Cut_loop c suf (pre ++ [b]) (by simp; omega)
   rw [List.append_assoc, List.singleton_append] at ih
   refine Ev.step (f := fun k => spec_l2Cut.l0 k (B (pre ++ b :: suf)) (c.toNat : Int) ((pre ++ [b]).length : Int)) (fun k => ?_) (ev_eq ih ?_)
   ·simp only [spec_l2Cut.l0]
    rw [if_pos (by omega), if_pos (by omega), hbt, if_neg (fun e => h (byte_eq.1 e)), up1 _ (by omega), List.length_append, List.length_singleton]
   ·cases cutL c suf with
    | none => rfl
    | some p => simp
theorem spec_l2Cut_ev (l : List UInt8) (c : UInt8) (hl : l.length ≤ 1073741824) : Ev (fun k => spec_l2Cut.f k (B l) (c.toNat : Int)) (match cutL c l with | none => (B [], B [], false) | some p => (B p.1, B p.2, true)) := by
 unfold spec_l2Cut.f
 have h := spec_l2Cut_loop c l [] (by simpa using hl)
 simpa using h

theorem ten_pow (n : Nat) (h : n ≤ 6) : 10 ^ n ≤ 1000000 := Nat.pow_le_pow_right (by decide) h
theorem spec_Number_loop : ∀ (suf pre : List UInt8) (v : Nat), v < 10 ^ pre.length → (pre ++ suf).length ≤ 6 →
  Ev (fun k => spec_Number.l0 k (B (pre ++ suf)) (v : Int) (pre.length : Int)) (match numL v suf with | none => ((0 : Int), false) | some n => if Lib.decDigits n = pre ++ suf then ((n : Int), true) else (0, false))
 | [], pre, v, hv, hl => by
  rw [List.append_nil] at hl ⊢
  have hs := B_size pre
  have ht := ten_pow pre.length hl
  refine Ev.step (f := fun k => (spec_Digits.f k (v : Int)).bind fun t => (if t.toList = (B pre).toList then (some ((v : Int), true)) else (some (0, false)))) (fun k => by simp only [spec_Number.l0]; rw [if_neg (by omega)]) ?_
  rw [numL]
  refine Ev.bind (spec_Digits_ev v (by omega) (by omega)) ?_
  simp only
  rw [itoa_nat, B_toList, B_toList]
  by_cases c : Lib.decDigits v = pre
  ·exact ev_pos c (ev_some (by rw [if_pos c]))
  ·exact ev_neg c (ev_some (by rw [if_neg c]))
 | b :: suf, pre, v, hv, hl => by
  have hs := B_size (pre ++ b :: suf)
  have hb := b.toNat_lt
  simp only [List.length_append, List.length_cons] at hl hs
  have ht := ten_pow pre.length (by omega)
  have hbt := bt_mid pre suf b
  rw [numL]
  by_cases c : 48 ≤ b.toNat ∧ b.toNat ≤ 57
  ·rw [if_pos c]
   have ih := spec_Number_loop suf (pre ++ [b]) (10 * v + (b.toNat - 48)) (by rw [List.length_append, List.length_singleton, Nat.pow_succ]; omega) (by simp; omega)
   rw [List.append_assoc, List.singleton_append] at ih
   refine Ev.step (f := fun k => spec_Number.l0 k (B (pre ++ b :: suf)) (((10 * v + (b.toNat - 48) : Nat)) : Int) (((pre ++ [b]).length : Nat) : Int)) (fun k => ?_) ih
   simp only [spec_Number.l0]
   rw [if_pos (by omega), if_pos (by omega), hbt, if_neg (by omega), if_neg (by omega)]
   congr 1
   ·rw [wrapI (10 * (v : Int)) (by omega) (by omega), wrapI ((b.toNat : Nat) : Int) (by omega) (by omega), wrapI (10 * (v : Int) + (b.toNat : Int)) (by omega) (by omega), wrapI (10 * (v : Int) + (b.toNat : Int) - 48) (by omega) (by omega)]; omega
   ·rw [List.length_append, List.length_singleton]; exact up1 _ (by omega)
  ·rw [if_neg c]
   refine Ev.step (f := fun _ => some (0, false)) (fun k => ?_) (ev_some rfl)
   simp only [spec_Number.l0]
   rw [if_pos (by omega), if_pos (by omega), hbt]
   by_cases c1 : (b.toNat : Int) < 48
   ·rw [if_pos c1]
   ·rw [if_neg c1, if_pos (by omega)]
theorem spec_Number_ev (l : List UInt8) : Ev (fun k => spec_Number.f k (B l)) (num l, (numF l).2) := by
 have hs := B_size l
 have hj : Ev (fun k => spec_Number.j0 k (B l) true) ((0 : Int), false) := Ev.step (f := fun _ => some (0, false)) (fun k => by simp only [spec_Number.j0]; rw [if_pos trivial]) (ev_some rfl)
 unfold spec_Number.f
 by_cases c : l.length < 1
 ·have e : numF l = (0, false) := by unfold numF; rw [if_pos (.inl c)]
  unfold num
  rw [e]
  exact ev_pos (by omega) hj
 refine ev_neg (by omega) ?_
 by_cases c2 : 6 < l.length
 ·have e : numF l = (0, false) := by unfold numF; rw [if_pos (.inr c2)]
  unfold num
  rw [e, decide_eq_true (show ((B l).size : Int) > 6 by omega)]
  exact hj
 rw [decide_eq_false (show ¬ ((B l).size : Int) > 6 by omega)]
 have h := spec_Number_loop l [] 0 (by simp) (by simpa using Nat.not_lt.1 c2)
 refine Ev.step (f := fun k => spec_Number.l0 k (B l) 0 0) (fun k => by simp only [spec_Number.j0]; rw [if_neg (by decide)]) ?_
 refine ev_eq h ?_
 unfold num numF
 rw [if_neg (by omega)]
 simp only [List.nil_append]
 cases numL 0 l with
 | none => rfl
 | some n =>
  simp only
  by_cases c3 : Lib.decDigits n = l
  ·rw [if_pos c3, if_pos c3]
  ·rw [if_neg c3, if_neg c3]; rfl

theorem cutL_le {c : UInt8} {l a r : List UInt8} (h : cutL c l = some (a, r)) : a.length ≤ l.length ∧ r.length ≤ l.length := by
 obtain ⟨rfl, _⟩ := cutL_some h
 simp only [List.length_append, List.length_cons]
 omega
/-- The answer of TxOf, as the program hands it back. -/
def txRes (o : Option Tx) : Int × Int × Int × Int × Bool := match o with | some x => (x.1, x.2.1, x.2.2.1, x.2.2.2, true) | none => (0, 0, 0, 0, false)
theorem ofT_not {s : List UInt8} {x : Tx} (h : okT x) (e : rawT x = s) : ofT s = some x := (ofT_iff s x).2 ⟨h, e⟩
theorem ofT_none {s : List UInt8} (h : ∀ x, okT x → rawT x ≠ s) : ofT s = none := by
 cases e : ofT s with
 | none => rfl
 | some x => exact absurd (ofT_some e).2 (h x (ofT_some e).1)
theorem raw_cuts (x : Tx) (h : okT x) : ∃ a b c d, cutL 62 (rawT x) = some (a, b ++ 58 :: (c ++ 35 :: d)) ∧ cutL 58 (b ++ 58 :: (c ++ 35 :: d)) = some (b, c ++ 35 :: d) ∧ cutL 35 (c ++ 35 :: d) = some (c, d) := by
 have h' := h
 unfold okT at h'
 refine ⟨Lib.itoa x.1, Lib.itoa x.2.1, Lib.itoa x.2.2.1, Lib.itoa x.2.2.2, ?_, ?_, ?_⟩
 ·unfold rawT; exact cutL_at (itoa_not _ h'.1.1 _ (by decide))
 ·exact cutL_at (itoa_not _ h'.2.1.1 _ (by decide))
 ·exact cutL_at (itoa_not _ h'.2.2.1.1 _ (by decide))
theorem ofT_cut1 {s : List UInt8} (h : cutL 62 s = none) : ofT s = none := ofT_none fun x hx e => by
 obtain ⟨a, b, c, d, h1, _, _⟩ := raw_cuts x hx
 rw [e, h] at h1; cases h1
theorem ofT_cut2 {s a r : List UInt8} (h1 : cutL 62 s = some (a, r)) (h : cutL 58 r = none) : ofT s = none := ofT_none fun x hx e => by
 obtain ⟨a', b, c, d, h2, h3, _⟩ := raw_cuts x hx
 rw [e, h1] at h2
 obtain ⟨rfl, rfl⟩ := Prod.mk.inj (Option.some.inj h2)
 rw [h] at h3; cases h3
theorem ofT_cut3 {s a r b r2 : List UInt8} (h1 : cutL 62 s = some (a, r)) (h2 : cutL 58 r = some (b, r2)) (h : cutL 35 r2 = none) : ofT s = none := ofT_none fun x hx e => by
 obtain ⟨a', b', c, d, h3, h4, h5⟩ := raw_cuts x hx
 rw [e, h1] at h3
 obtain ⟨rfl, rfl⟩ := Prod.mk.inj (Option.some.inj h3)
 rw [h2] at h4
 obtain ⟨rfl, rfl⟩ := Prod.mk.inj (Option.some.inj h4)
 rw [h] at h5; cases h5
/-- What a text tells once its words are known; 'v': the reading that is tried. -/
theorem ofT_words {s a r b r2 c d : List UInt8} (h1 : cutL 62 s = some (a, r)) (h2 : cutL 58 r = some (b, r2)) (h3 : cutL 35 r2 = some (c, d)) :
  ofT s = if okT (num a, num b, num c, num d) ∧ rawT (num a, num b, num c, num d) = s then some (num a, num b, num c, num d) else none := by
 unfold ofT words
 rw [h1, Option.bind_some, h2, Option.bind_some, h3, Option.bind_some, Option.bind_some]
/-- A reading that writes the text again is the one. -/
theorem res_spec {s : List UInt8} (hs : s ≠ []) (x : Tx) (hx : textT x = s → ofT s = some x) (hn : textT x ≠ s → ofT s = none) :
  (if (B (textT x)).toList = (B s).toList then (x.1, x.2.1, x.2.2.1, x.2.2.2, true) else ((0 : Int), (0 : Int), (0 : Int), (0 : Int), false)) = txRes (ofT s) := by
 rw [B_toList, B_toList]
 by_cases c : textT x = s
 ·rw [if_pos c, hx c]; rfl
 ·rw [if_neg c, hn c]; rfl
theorem spec_TxOf_ev (s : List UInt8) (hl : s.length ≤ 1073741824) : Ev (fun k => spec_TxOf.f k (B s)) (txRes (ofT s)) := by
 unfold spec_TxOf.f
 have key : ∀ (a r b r2 c d : List UInt8) (o1 o2 o3 : Bool), r.length ≤ 1073741824 → r2.length ≤ 1073741824 → Ev (fun k => spec_l2Cut.f k (B s) 62) (B a, B r, o1) → Ev (fun k => spec_l2Cut.f k (B r) 58) (B b, B r2, o2) → Ev (fun k => spec_l2Cut.f k (B r2) 35) (B c, B d, o3) →
   (s ≠ [] → textT (num a, num b, num c, num d) = s → ofT s = some (num a, num b, num c, num d)) → (s ≠ [] → textT (num a, num b, num c, num d) ≠ s → ofT s = none) →
   Ev (fun k => (spec_l2Cut.f k (B s) 62).bind fun bt134 => ((spec_l2Cut.f k bt134.2.1 58).bind fun bt137 => ((spec_l2Cut.f k bt137.2.1 35).bind fun bt140 => ((spec_Number.f k bt134.1).bind fun bt144 => ((spec_Number.f k bt137.1).bind fun bt146 => ((spec_Number.f k bt140.1).bind fun bt148 => ((spec_Number.f k bt140.2.1).bind fun bt150 => (if (B s).toList = ([] : List UInt8) then (some ((0 : Int), (0 : Int), (0 : Int), (0 : Int), false)) else ((spec_TxText.f k bt144.1 bt146.1 bt148.1 bt150.1).bind fun t152 => (if t152.toList = (B s).toList then (some (bt144.1, bt146.1, bt148.1, bt150.1, true)) else (some (0, 0, 0, 0, false)))))))))))) (txRes (ofT s)) := by
  intro a r b r2 c d o1 o2 o3 hr hr2 e1 e2 e3 hx hn
  refine Ev.bind e1 (Ev.bind e2 (Ev.bind e3 (Ev.bind (spec_Number_ev a) (Ev.bind (spec_Number_ev b) (Ev.bind (spec_Number_ev c) (Ev.bind (spec_Number_ev d) ?_))))))
  by_cases hs : s = []
  ·subst hs
   refine ev_pos (B_toList []) (ev_some ?_)
   rw [show ofT [] = none from rfl]; rfl
  ·refine ev_neg (by rw [B_toList]; exact hs) (Ev.bind (spec_TxText_ev (num a) (num b) (num c) (num d)) ?_)
   have h := res_spec hs (num a, num b, num c, num d) (hx hs) (hn hs)
   by_cases hc : (B (textT (num a, num b, num c, num d))).toList = (B s).toList
   ·rw [if_pos hc] at h; exact ev_pos hc (ev_some h)
   ·rw [if_neg hc] at h; exact ev_neg hc (ev_some h)
 have E1 := spec_l2Cut_ev s 62 hl
 cases h1 : cutL 62 s with
 | none =>
  rw [h1] at E1
  have hno := ofT_cut1 h1
  exact key [] [] [] [] [] [] _ false false (by simp) (by simp) E1 (spec_l2Cut_ev [] 58 (by simp)) (spec_l2Cut_ev [] 35 (by simp)) (fun hs he => by rw [ofT_of_text hs he] at hno; cases hno) (fun _ _ => hno)
 | some p =>
  obtain ⟨a, r⟩ := p
  rw [h1] at E1
  have hr := (cutL_le h1).2
  have E2 := spec_l2Cut_ev r 58 (by omega)
  cases h2 : cutL 58 r with
  | none =>
   rw [h2] at E2
   have hno := ofT_cut2 h1 h2
   exact key a r [] [] [] [] _ _ false (by omega) (by simp) E1 E2 (spec_l2Cut_ev [] 35 (by simp)) (fun hs he => by rw [ofT_of_text hs he] at hno; cases hno) (fun _ _ => hno)
  | some q =>
   obtain ⟨b, r2⟩ := q
   rw [h2] at E2
   have hr2 := (cutL_le h2).2
   have E3 := spec_l2Cut_ev r2 35 (by omega)
   cases h3 : cutL 35 r2 with
   | none =>
    rw [h3] at E3
    have hno := ofT_cut3 h1 h2 h3
    exact key a r b r2 [] [] _ _ _ (by omega) (by omega) E1 E2 E3 (fun hs he => by rw [ofT_of_text hs he] at hno; cases hno) (fun _ _ => hno)
   | some z =>
    obtain ⟨c, d⟩ := z
    rw [h3] at E3
    refine key a r b r2 c d _ _ _ (by omega) (by omega) E1 E2 E3 (fun hs he => ofT_of_text hs he) (fun hs hne => ?_)
    rw [ofT_words h1 h2 h3, if_neg]
    rintro ⟨g1, g2⟩
    exact hne (by unfold textT; rw [if_pos g1]; exact g2)

def fromT (x : Tx) : S60 := ⟨x.1, x.2.1, x.2.2.1, x.2.2.2⟩
def txsRes (dn : List Tx) (o : Option (List Tx)) : List S60 × Bool := match o with | some l => ((dn ++ l).map fromT, true) | none => ([], false)
theorem split_part (c : UInt8) : ∀ {l p : List UInt8}, p ∈ splitL c l → p.length ≤ l.length
 | [], p, h => by rw [splitL, List.mem_singleton] at h; subst h; simp
 | b :: l, p, h => by
  rw [splitL] at h
  by_cases hb : b = c
  ·rw [if_pos hb] at h
   rcases List.mem_cons.1 h with h | h
   ·subst h; simp
   ·have := split_part c h; simp only [List.length_cons]; omega
  ·rw [if_neg hb] at h
   cases hs : splitL c l with
   | nil => exact absurd hs (splitL_ne c l)
   | cons x t =>
    rw [hs] at h
    rcases List.mem_cons.1 h with h | h
    ·subst h
     have := split_part c (l := l) (p := x) (by rw [hs]; simp)
     simp only [List.length_cons]; omega
    ·have := split_part c (l := l) (p := p) (by rw [hs]; simp [h])
     simp only [List.length_cons]; omega
theorem part_at (pre suf : List (List UInt8)) (p : List UInt8) : rdOf ByteArray.empty ((pre ++ p :: suf).map B) (pre.length : Int) = B p := by
 unfold rdOf
 rw [Int.toNat_natCast, List.getD_eq_getElem?_getD]
 simp
theorem spec_TxsOf_loop : ∀ (suf pre : List (List UInt8)) (dn : List Tx), (∀ p ∈ suf, p.length ≤ 1073741824) → (pre ++ suf).length ≤ 1073741824 → dn.length = pre.length →
  Ev (fun k => spec_TxsOf.l0 k (dn.map fromT) ((pre ++ suf).map B) (pre.length : Int)) (txsRes dn (readAll suf))
 | [], pre, dn, hp, hl, hd => by
  rw [List.append_nil] at *
  refine Ev.step (f := fun _ => some (dn.map fromT, true)) (fun k => ?_) (ev_some ?_)
  ·simp only [spec_TxsOf.l0]
   rw [if_neg (by rw [List.length_map] <;> omega)]
  ·simp [readAll, txsRes]
 | p :: suf, pre, dn, hp, hl, hd => by
  have hlen : ((pre ++ p :: suf).map B).length = pre.length + (suf.length + 1) := by simp
  simp only [List.length_append, List.length_cons] at hl
  have ht := spec_TxOf_ev p (hp p (by simp))
  rw [readAll]
  cases ho : ofT p with
  | none =>
   rw [ho] at ht
   refine Ev.step (f := fun k => (spec_TxOf.f k (B p)).bind fun r => if r.2.2.2.2 = true then (if (dn.map fromT).length < 4398046511104 then (spec_TxsOf.l0 k ((dn.map fromT) ++ [(⟨r.1, r.2.1, r.2.2.1, r.2.2.2.1⟩ : S60)]) ((pre ++ p :: suf).map B) ((pre.length + 1 : Nat) : Int)) else none) else some ([], false)) (fun k => ?_) ?_
   ·simp only [spec_TxsOf.l0]
    rw [if_pos (by first | omega | (rw [hlen]; omega)), if_pos (by omega), part_at, up1 _ (by omega)]
   ·exact Ev.bind ht (ev_neg (by simp [txRes]) (ev_some rfl))
  | some x =>
   rw [ho] at ht
   have ih := spec_TxsOf_loop suf (pre ++ [p]) (dn ++ [x]) (fun q hq => hp q (by simp [hq])) (by simp; omega) (by simp [hd])
   rw [List.append_assoc, List.singleton_append, List.length_append, List.length_singleton, List.map_append, List.map_singleton] at ih
   have e : txsRes dn ((some x).bind fun x => (readAll suf).map fun l => x :: l) = txsRes (dn ++ [x]) (readAll suf) := by
    cases readAll suf <;> simp [txsRes]
   rw [e]
   refine Ev.step (f := fun k => (spec_TxOf.f k (B p)).bind fun r => if r.2.2.2.2 = true then (if (dn.map fromT).length < 4398046511104 then (spec_TxsOf.l0 k ((dn.map fromT) ++ [(⟨r.1, r.2.1, r.2.2.1, r.2.2.2.1⟩ : S60)]) ((pre ++ p :: suf).map B) ((pre.length + 1 : Nat) : Int)) else none) else some ([], false)) (fun k => ?_) ?_
   ·simp only [spec_TxsOf.l0]
    rw [if_pos (by first | omega | (rw [hlen]; omega)), if_pos (by omega), part_at, up1 _ (by omega)]
   ·exact Ev.bind ht (ev_pos rfl (ev_pos (by rw [List.length_map]; omega) ih))
theorem spec_TxsOf_ev (s : List UInt8) (hl : s.length ≤ 536870912) : Ev (fun k => spec_TxsOf.f k (B s)) (txsRes [] (ofTs s)) := by
 unfold spec_TxsOf.f ofTs
 simp only [Option.bind_some]
 by_cases c : s = []
 ·rw [if_pos c]
  exact ev_pos (by rw [B_toList]; exact c) (ev_some rfl)
 ·rw [if_neg c]
  refine ev_neg (by rw [B_toList]; exact c) (Ev.bind (spec_Split_ev s 44 (by omega)) ?_)
  have hn := splitL_len 44 s
  exact spec_TxsOf_loop (splitL 44 s) [] [] (fun p hp => by have := split_part 44 hp; omega) (by simp only [List.nil_append]; omega) rfl

def fromS (x : Int × List Tx) : S41 := ⟨x.1, x.2.map fromT⟩
def stepsRes (dn : List (Int × List Tx)) (o : Option (List (Int × List Tx))) : List S41 × Bool := match o with | some l => ((dn ++ l).map fromS, true) | none => ([], false)
def stepOne (last : Int) (p : List UInt8) : Option (Int × List Tx) :=
 (cutL 124 p).bind fun q => if (numF q.1).2 = true ∧ last < num q.1 ∧ num q.1 ≤ 60 then (ofTs q.2).bind fun l => if l.length ≤ 2 then some (num q.1, l) else none else none
theorem stepsL_cons (last : Int) (p : List UInt8) (ps : List (List UInt8)) : stepsL last (p :: ps) = (stepOne last p).bind fun x => (stepsL x.1 ps).map fun r => x :: r := by
 rw [stepsL, stepOne]
 cases cutL 124 p with
 | none => rfl
 | some q =>
  simp only [Option.bind_some]
  by_cases c : (numF q.1).2 = true ∧ last < num q.1 ∧ num q.1 ≤ 60
  ·rw [if_pos c, if_pos c]
   cases ofTs q.2 with
   | none => rfl
   | some l =>
    simp only [Option.bind_some]
    by_cases c2 : l.length ≤ 2
    ·rw [if_pos c2, if_pos c2]; rfl
    ·rw [if_neg c2, if_neg c2]; rfl
  ·rw [if_neg c, if_neg c]; rfl
theorem stepsRes_cons (dn : List (Int × List Tx)) (x : Int × List Tx) (o : Option (List (Int × List Tx))) : stepsRes dn (o.map fun r => x :: r) = stepsRes (dn ++ [x]) o := by
 cases o <;> simp [stepsRes]
theorem part_zero (p : List UInt8) (ps : List (List UInt8)) : rdOf ByteArray.empty ((p :: ps).map B) 0 = B p := rfl
theorem cut_len {c : UInt8} {p : List UInt8} {q : List UInt8 × List UInt8} (h : cutL c p = some q) : q.1.length ≤ p.length ∧ q.2.length ≤ p.length := cutL_le (a := q.1) (r := q.2) h
theorem spec_Steps_loop : ∀ (suf pre : List (List UInt8)) (dn : List (Int × List Tx)) (last : Int), (∀ p ∈ suf, p.length ≤ 536870912) → (pre ++ suf).length ≤ 1073741824 → dn.length ≤ pre.length → 0 ≤ last → last ≤ 1000000 →
  Ev (fun k => spec_Steps.l0 k [] (dn.map fromS) ((pre ++ suf).map B) last (pre.length : Int)) (stepsRes dn (stepsL last suf))
 | [], pre, dn, last, hp, hl, hd, h0, h1 => by
  rw [List.append_nil] at *
  refine Ev.step (f := fun _ => some (dn.map fromS, true)) (fun k => ?_) (ev_some ?_)
  ·simp only [spec_Steps.l0]
   rw [if_neg (by rw [List.length_map]; omega)]
  ·simp [stepsL, stepsRes]
 | p :: suf, pre, dn, last, hp, hl, hd, h0, h1 => by
  have hlen : ((pre ++ p :: suf).map B).length = pre.length + (suf.length + 1) := by simp
  simp only [List.length_append, List.length_cons] at hl
  have hpl := hp p (by simp)
  rw [stepsL_cons]
  refine Ev.step (f := fun k => (spec_l2Cut.f k (B p) 124).bind fun c => ((spec_Number.f k c.1).bind fun v => ((spec_TxsOf.f k c.2.1).bind fun t => (if c.2.2 = true then (if v.2 = true then (if t.2 = true then (if v.1 ≤ last then (some ([], false)) else (if v.1 > 60 then (some ([], false)) else (if (t.1.length : Int) > 2 then (some ([], false)) else (if (dn.map fromS).length < 4398046511104 then (spec_Steps.l0 k [] ((dn.map fromS) ++ [(⟨v.1, t.1⟩ : S41)]) ((pre ++ p :: suf).map B) v.1 ((pre.length + 1 : Nat) : Int)) else (none))))) else (some ([], false))) else (some ([], false))) else (some ([], false)))))) (fun k => ?_) ?_
  ·simp only [spec_Steps.l0]
   rw [if_pos (by first | omega | (rw [hlen]; omega)), if_pos (by omega), part_at, up1 _ (by omega)]
  ·have hc := spec_l2Cut_ev p 124 (by omega)
   unfold stepOne
   cases hq : cutL 124 p with
   | none =>
    rw [hq] at hc
    exact Ev.bind hc (Ev.bind (spec_Number_ev []) (Ev.bind (spec_TxsOf_ev [] (by simp)) (ev_neg (by simp) (ev_some rfl))))
   | some q =>
    obtain ⟨a, r⟩ := q
    rw [hq] at hc
    have hr := (cut_len hq).2
    simp only at hr hc
    simp only [Option.bind_some]
    refine Ev.bind hc (Ev.bind (spec_Number_ev a) (Ev.bind (spec_TxsOf_ev r (by omega)) (ev_pos rfl ?_)))
    simp only
    by_cases c1 : (numF a).2 = true
    ·refine ev_pos c1 ?_
     cases ho : ofTs r with
     | none =>
      refine ev_neg (by simp [txsRes]) (ev_some ?_)
      split <;> rfl
     | some l =>
      refine ev_pos rfl ?_
      by_cases c2 : num a ≤ last
      ·rw [if_neg (by rintro ⟨_, h, _⟩; omega)]
       exact ev_pos c2 (ev_some rfl)
      refine ev_neg c2 ?_
      by_cases c3 : num a > 60
      ·rw [if_neg (by rintro ⟨_, _, h⟩; omega)]
       exact ev_pos c3 (ev_some rfl)
      refine ev_neg c3 ?_
      rw [if_pos ⟨c1, by omega, by omega⟩]
      simp only [txsRes, List.nil_append, Option.bind_some]
      by_cases c4 : l.length ≤ 2
      ·rw [if_pos c4]
       have ih := spec_Steps_loop suf (pre ++ [p]) (dn ++ [(num a, l)]) (num a) (fun q hq => hp q (by simp [hq])) (by simp; omega) (by simp; omega) (num_nonneg a) (by omega)
       rw [List.append_assoc, List.singleton_append, List.length_append, List.length_singleton, List.map_append, List.map_singleton] at ih
       simp only [Option.bind_some]
       rw [stepsRes_cons]
       exact ev_neg (by rw [List.length_map]; omega) (ev_pos (by rw [List.length_map]; omega) ih)
      ·rw [if_neg c4]
       exact ev_pos (by rw [List.length_map]; omega) (ev_some rfl)
    ·rw [if_neg (by rintro ⟨h, _⟩; exact c1 h)]
     exact ev_neg c1 (ev_some rfl)
theorem spec_Steps_ev (s : List UInt8) (hl : s.length ≤ 536870912) : Ev (fun k => spec_Steps.f k (B s)) (stepsRes [] (stepsS s)) := by
 unfold spec_Steps.f stepsS
 simp only [Option.bind_some]
 by_cases c : s = []
 ·rw [if_pos c]
  exact ev_pos (by rw [B_toList]; exact c) (ev_some rfl)
 ·rw [if_neg c]
  refine ev_neg (by rw [B_toList]; exact c) (Ev.bind (spec_Split_ev s 47 (by omega)) ?_)
  have hn := splitL_len 47 s
  have hpt : ∀ p ∈ splitL 47 s, p.length ≤ s.length := fun p hp => split_part 47 hp
  cases hs : splitL 47 s with
  | nil => exact absurd hs (splitL_ne 47 s)
  | cons p ps =>
   rw [hs] at hn hpt
   simp only [List.length_cons] at hn
   have hj : Ev (fun k => spec_Steps.j0 k [] [] ((p :: ps).map B) true) (([] : List S41), false) := Ev.step (f := fun _ => some ([], false)) (fun k => by simp only [spec_Steps.j0]; rw [if_pos trivial]) (ev_some rfl)
   have hlm : ((p :: ps).map B).length = ps.length + 1 := by simp
   refine ev_pos (by rw [hlm]; omega) ?_
   by_cases c1 : p = []
   ·refine ev_pos (by rw [part_zero, B_toList]; exact c1) ?_
    by_cases c2 : ps.length ≤ 30
    ·simp only
     rw [if_pos ⟨c1, c2⟩, decide_eq_false (by rw [hlm]; omega)]
     refine Ev.step (f := fun k => spec_Steps.l0 k [] [] ((p :: ps).map B) 0 1) (fun k => by simp only [spec_Steps.j0]; rw [if_neg (by decide)]) ?_
     exact spec_Steps_loop ps [p] [] 0 (fun q hq => by have := hpt q (by simp [hq]); omega) (by simp; omega) (by simp) (by omega) (by omega)
    ·simp only
     rw [if_neg (fun h => c2 h.2), decide_eq_true (by rw [hlm]; omega)]
     exact hj
   ·simp only
    rw [if_neg (fun h => c1 h.1)]
    exact ev_neg (by rw [part_zero, B_toList]; exact c1) hj

theorem stepsRes_ok (o : Option (List (Int × List Tx))) : (stepsRes [] o).2 = o.isSome := by cases o <;> rfl
theorem stepsRes_len (o : Option (List (Int × List Tx))) : (stepsRes [] o).1.length = (o.getD []).length := by cases o <;> simp [stepsRes]
theorem spec_NameOk_ev (s : List UInt8) (hl : s.length ≤ 536870912) : Ev (fun k => spec_NameOk.f k (B s)) (nameOk s) := by
 unfold spec_NameOk.f
 refine Ev.bind (spec_Steps_ev s hl) (ev_some ?_)
 exact stepsRes_ok _

theorem stepOne_some {last : Int} {p : List UInt8} {x : Int × List Tx} (h : stepOne last p = some x) : last < x.1 ∧ x.1 ≤ 60 ∧ x.2.length ≤ 2 := by
 unfold stepOne at h
 cases hq : cutL 124 p with
 | none => rw [hq] at h; cases h
 | some q =>
  rw [hq] at h
  simp only [Option.bind_some] at h
  split at h
  ·rename_i c
   cases ho : ofTs q.2 with
   | none => rw [ho] at h; cases h
   | some l =>
    rw [ho] at h
    simp only [Option.bind_some] at h
    split at h
    ·obtain rfl := Option.some.inj h
     exact ⟨c.2.1, c.2.2, by assumption⟩
    ·cases h
  ·cases h
theorem stepsL_some : ∀ {ps : List (List UInt8)} {last : Int} {l : List (Int × List Tx)}, stepsL last ps = some l → l.length = ps.length ∧ ∀ x ∈ l, x.1 ≤ 60 ∧ x.2.length ≤ 2
 | [], last, l, h => by
  obtain rfl := Option.some.inj h
  simp
 | p :: ps, last, l, h => by
  rw [stepsL_cons] at h
  obtain ⟨x, hx, h⟩ := Option.bind_eq_some_iff.1 h
  obtain ⟨r, hr, rfl⟩ := Option.map_eq_some_iff.1 h
  obtain ⟨h1, h2⟩ := stepsL_some hr
  have h3 := stepOne_some hx
  refine ⟨by simp [h1], fun y hy => ?_⟩
  rcases List.mem_cons.1 hy with rfl | hy
  ·exact h3.2
  ·exact h2 y hy
theorem stepsS_some {s : List UInt8} {l : List (Int × List Tx)} (h : stepsS s = some l) : l.length ≤ 30 ∧ ∀ x ∈ l, x.1 ≤ 60 ∧ x.2.length ≤ 2 := by
 unfold stepsS at h
 split at h
 ·obtain rfl := Option.some.inj h
  simp
 ·split at h
  ·cases h
  ·split at h
   ·rename_i c
    obtain ⟨h1, h2⟩ := stepsL_some h
    exact ⟨by omega, h2⟩
   ·cases h
theorem split_snoc (q : List UInt8) (hq : (47 : UInt8) ∉ q) : ∀ up : List UInt8, splitL 47 (up ++ 47 :: q) = splitL 47 up ++ [q]
 | [] => by
  simp [splitL, splitL_none hq]
 | b :: up => by
  have ih := split_snoc q hq up
  rw [List.cons_append, splitL, ih]
  conv => rhs; rw [splitL]
  by_cases c : b = 47
  ·rw [if_pos c, if_pos c]; rfl
  ·rw [if_neg c, if_neg c]
   cases hs : splitL 47 up with
   | nil => exact absurd hs (splitL_ne 47 up)
   | cons x t => rfl
theorem stepsL_snoc (q : List UInt8) : ∀ (ps : List (List UInt8)) (last : Int) (l : List (Int × List Tx)), stepsL last (ps ++ [q]) = some l → ∃ last' x, stepOne last' q = some x
 | [], last, l, h => by
  rw [List.nil_append, stepsL_cons] at h
  obtain ⟨x, hx, _⟩ := Option.bind_eq_some_iff.1 h
  exact ⟨last, x, hx⟩
 | p :: ps, last, l, h => by
  rw [List.cons_append, stepsL_cons] at h
  obtain ⟨x, _, h⟩ := Option.bind_eq_some_iff.1 h
  obtain ⟨r, hr, _⟩ := Option.map_eq_some_iff.1 h
  exact stepsL_snoc q ps x.1 r hr
theorem itoa_no (n : Int) (c : UInt8) (h : c.toNat < 48 ∨ 57 < c.toNat) (h2 : c ≠ 45) : c ∉ Lib.itoa n := by
 unfold Lib.itoa
 split
 ·rw [List.mem_cons, not_or]; exact ⟨h2, dec_not _ c h⟩
 ·exact dec_not _ c h
theorem itoa_len64 (n : Int) (h0 : -9223372036854775808 ≤ n) (h1 : n ≤ 9223372036854775807) : (Lib.itoa n).length ≤ 20 := by
 unfold Lib.itoa
 split
 ·have := dec_len 18 n.natAbs (by omega)
  simp only [List.length_cons]; omega
 ·have := dec_len 18 n.toNat (by omega)
  omega
def nameT (up : List UInt8) (view : Int) (l : List Tx) : List UInt8 := up ++ 47 :: (Lib.itoa view ++ 124 :: textTs l)
theorem name_long (up : List UInt8) (view : Int) (l : List Tx) (hok : okTs l) (hl : 2 < l.length) : nameOk (nameT up view l) = false := by
 have hq : (47 : UInt8) ∉ (Lib.itoa view ++ 124 :: textTs l) := by
  simp only [List.mem_append, List.mem_cons, not_or]
  exact ⟨itoa_no view 47 (by decide) (by decide), by decide, textTs_not l 47 (by decide) (by decide) (by decide)⟩
 have ho : ∀ last x, stepOne last (Lib.itoa view ++ 124 :: textTs l) ≠ some x := fun last x h => by
  unfold stepOne at h
  rw [cutL_at (itoa_no view 124 (by decide) (by decide))] at h
  simp only [Option.bind_some] at h
  split at h
  ·rw [ofTs_text l hok, Option.bind_some, if_neg (by omega)] at h
   cases h
  ·cases h
 unfold nameOk stepsS
 rw [if_neg (by unfold nameT; simp), nameT, split_snoc _ hq]
 cases hp : splitL 47 up with
 | nil => exact absurd hp (splitL_ne 47 up)
 | cons p ps =>
  rw [List.cons_append]
  simp only
  split
  ·cases hs : stepsL 0 (ps ++ [Lib.itoa view ++ 124 :: textTs l]) with
   | none => rfl
   | some r =>
    obtain ⟨last, x, hx⟩ := stepsL_snoc _ _ _ _ hs
    exact absurd hx (ho last x)
  ·rfl
def nameV (up : List UInt8) (view : Int) (l : List Tx) : List UInt8 := if okTs l then (if nameOk (nameT up view l) = true then nameT up view l else []) else []
theorem nameB (up : List UInt8) (view : Int) (t : List UInt8) : ((((B up ++ (⟨#[47]⟩ : ByteArray)) ++ B (Lib.itoa view)) ++ (⟨#[124]⟩ : ByteArray)) ++ B t) = B (up ++ 47 :: (Lib.itoa view ++ 124 :: t)) := by
 rw [show (⟨#[47]⟩ : ByteArray) = B [47] from rfl, show (⟨#[124]⟩ : ByteArray) = B [124] from rfl]
 simp only [B_app]
 simp
theorem textTs_len (l : List Tx) (h : okTs l) : (textTs l).length ≤ 20 * l.length := by
 unfold textTs
 rw [if_pos h]
 exact join_len l h
theorem nameV_not (up : List UInt8) (view : Int) (l : List S60) (n : Nat) (h : n < l.length) (hx : ¬ okT (tq l[n])) : nameV up view (l.map tq) = [] := by
 unfold nameV
 rw [if_neg (fun hh => hx (hh _ (List.mem_map.2 ⟨_, List.getElem_mem h, rfl⟩)))]
theorem spec_NameOf_loop (up : List UInt8) (view : Int) (l : List S60) (hu : up.length ≤ 1048576) (v0 : -9223372036854775808 ≤ view) (v1 : view ≤ 9223372036854775807) (hl : l.length ≤ 1048576) : ∀ (d n : Nat), l.length - n = d → n ≤ l.length → okTs ((l.map tq).take n) → Ev (fun k => spec_NameOf.l0 k (B up) view l (n : Int)) (B (nameV up view (l.map tq))) := by
 intro d
 induction d with
 | zero =>
  intro n hd hn hok
  obtain rfl : n = l.length := by omega
  rw [List.take_of_length_le (by simp)] at hok
  have hlen := textTs_len _ hok
  rw [List.length_map] at hlen
  have hi := itoa_len64 view v0 v1
  have z1 : (⟨#[47]⟩ : ByteArray).size = 1 := rfl
  have z2 : (⟨#[124]⟩ : ByteArray).size = 1 := rfl
  have s1 := B_size up
  have s2 := B_size (Lib.itoa view)
  have s3 := B_size (textTs (l.map tq))
  refine Ev.step (f := fun k => (spec_Digits.f k view).bind fun d => (if (B up ++ (⟨#[47]⟩ : ByteArray)).size + d.size ≤ 9223372036854775807 then (if ((B up ++ (⟨#[47]⟩ : ByteArray)) ++ d).size + 1 ≤ 9223372036854775807 then ((spec_TxsText.f k l).bind fun t => (if (((B up ++ (⟨#[47]⟩ : ByteArray)) ++ d) ++ (⟨#[124]⟩ : ByteArray)).size + t.size ≤ 9223372036854775807 then ((spec_NameOk.f k ((((B up ++ (⟨#[47]⟩ : ByteArray)) ++ d) ++ (⟨#[124]⟩ : ByteArray)) ++ t)).bind fun b => (if b = true then (some ((((B up ++ (⟨#[47]⟩ : ByteArray)) ++ d) ++ (⟨#[124]⟩ : ByteArray)) ++ t)) else (some (⟨#[]⟩ : ByteArray)))) else (none))) else (none)) else (none))) (fun k => ?_) ?_
  ·simp only [spec_NameOf.l0]
   rw [if_neg (by omega), if_pos (by omega)]
  ·refine Ev.bind (spec_Digits_ev view v0 v1) (ev_pos (by rw [ByteArray.size_append]; omega) (ev_pos (by rw [ByteArray.size_append, ByteArray.size_append]; omega) ?_))
   refine Ev.bind (spec_TxsText_ev l hl) (ev_pos (by rw [ByteArray.size_append, ByteArray.size_append, ByteArray.size_append]; omega) ?_)
   rw [nameB]
   refine Ev.bind (spec_NameOk_ev _ (by simp only [List.length_append, List.length_cons]; omega)) ?_
   unfold nameV nameT
   by_cases c : nameOk (up ++ 47 :: (Lib.itoa view ++ 124 :: textTs (l.map tq))) = true
   ·exact ev_pos c (ev_some (by rw [if_pos hok, if_pos c]))
   ·exact ev_neg c (ev_some (by rw [if_pos hok, if_neg c]))
 | succ d ih =>
  intro n hd hn hok
  have h1 : n < l.length := by omega
  by_cases c : okT (tq l[n])
  ·have hok' := okTs_snoc hok c
   rw [← take_map_succ l n h1] at hok'
   have ih' := ih (n + 1) (by omega) (by omega) hok'
   refine Ev.step (f := fun k => spec_NameOf.l0 k (B up) view l ((n + 1 : Nat) : Int)) (fun k => ?_) ih'
   simp only [spec_NameOf.l0]
   rw [if_pos (by omega), if_pos (by omega), rdT_nat l n h1, spec_TxOk_val, Option.bind_some, if_pos (decide_eq_true (show txIs l[n].f0 l[n].f1 l[n].f2 l[n].f3 from c)), up1 n (by omega)]
  ·rw [nameV_not up view l n h1 c]
   refine Ev.step (f := fun _ => some (B [])) (fun k => ?_) (Ev.now _)
   simp only [spec_NameOf.l0]
   rw [if_pos (by omega), if_pos (by omega), rdT_nat l n h1, spec_TxOk_val, Option.bind_some, if_neg (by simpa using (show ¬ txIs l[n].f0 l[n].f1 l[n].f2 l[n].f3 from c))]
theorem spec_NameOf_ev (up : List UInt8) (view : Int) (l : List S60) (hu : up.length ≤ 1048576) (v0 : -9223372036854775808 ≤ view) (v1 : view ≤ 9223372036854775807) (hl : l.length ≤ 1048576) : Ev (fun k => spec_NameOf.f k (B up) view l) (B (nameV up view (l.map tq))) := by
 unfold spec_NameOf.f
 exact spec_NameOf_loop up view l hu v0 v1 hl l.length 0 (by omega) (by omega) (by intro x hx; simp at hx)

theorem l1PickInt_some (l : List Int) (i h : Int) (xs : List Int) (hl : l.length ≤ 1048576) (hi : Cur i) (hx : 0 < xs.length) (hx' : xs.length ≤ 256) : ∃ v i' h', spec_l1PickInt.f l i h xs = some (v, i', h') ∧ v ∈ xs ∧ Cur i' := by
 obtain ⟨v, i', h', e, h0, h1, hc⟩ := l1Below_some l i h (xs.length : Int) hl hi (by omega) (by omega)
 unfold spec_l1PickInt.f
 rw [e, Option.bind_some, if_pos h0, if_pos h1]
 refine ⟨_, _, _, rfl, ?_, hc⟩
 obtain ⟨m, rfl⟩ := Int.eq_ofNat_of_zero_le h0
 rw [rd_nat xs m (by omega)]
 exact List.getElem_mem _

theorem l2DrawRight_some (l : List Int) (i h : Int) (hl : l.length ≤ 1048576) (hi : Cur i) : ∃ f t a m i' h', spec_l2DrawRight.f l i h = some (f, t, a, m, i', h') ∧ (0 ≤ f ∧ f ≤ 3) ∧ (0 ≤ t ∧ t ≤ 3) ∧ (0 ≤ a ∧ a ≤ 1000) ∧ (0 ≤ m ∧ m ≤ 2) ∧ Cur i' := by
 obtain ⟨f, i1, h1, e1, f0, f1, c1⟩ := l1Below_some l i h 4 hl hi (by omega) (by omega)
 obtain ⟨t, i2, h2, e2, t0, t1, c2⟩ := l1Below_some l i1 h1 4 hl c1 (by omega) (by omega)
 obtain ⟨a, i3, h3, e3, ha, c3⟩ := l1PickInt_some l i2 h2 [0, 5, 60, 100, 1000] hl c2 (by decide) (by decide)
 obtain ⟨m, i4, h4, e4, m0, m1, c4⟩ := l1Below_some l i3 h3 3 hl c3 (by omega) (by omega)
 unfold spec_l2DrawRight.f
 rw [e1, Option.bind_some, e2, Option.bind_some, e3, Option.bind_some, e4, Option.bind_some]
 refine ⟨_, _, _, _, _, _, rfl, ⟨f0, by omega⟩, ⟨t0, by omega⟩, ?_, ⟨m0, by omega⟩, c4⟩
 simp only [List.mem_cons, List.not_mem_nil, or_false] at ha
 omega

theorem nameV_len (up : List UInt8) (view : Int) (l : List Tx) (v0 : -9223372036854775808 ≤ view) (v1 : view ≤ 9223372036854775807) (hl : l.length ≤ 2) : (nameV up view l).length ≤ up.length + 100 := by
 unfold nameV
 split
 ·rename_i hok
  split
  ·unfold nameT
   have := textTs_len l hok
   have := itoa_len64 view v0 v1
   simp only [List.length_append, List.length_cons]
   omega
  ·simp
 ·simp
theorem l5DrawRight_l1 (l : List Int) (hl : l.length ≤ 1048576) (s : List UInt8) (hs : s.length ≤ 1000) (view : Int) (v0 : 0 ≤ view) (v1 : view ≤ 1000) (j : Nat) (hj : j ≤ 6)
  (kont : ∀ (t : List UInt8) (i h : Int), t.length ≤ s.length + 100 → Cur i → ∃ r, Ev (fun k => spec_l5DrawRight.l0 k (B t) view ((j + 1 : Nat) : Int) l i h) r ∧ DrawnT 1000 r) :
  ∀ (d n : Nat) (xs : List S60) (i h : Int), 2 - n = d → n ≤ 2 → xs.length = n → Cur i → ∃ r, Ev (fun k => spec_l5DrawRight.l1 k (B s) view (j : Int) xs (n : Int) l i h) r ∧ DrawnT 1000 r := by
 have fin : ∀ (n : Nat) (xs : List S60) (i h v i1 h1 : Int), n ≤ 2 → xs.length = n → Cur i1 → spec_l1Below.f l i h 3 = some (v, i1, h1) → ¬ (n : Int) < v → ∃ r, Ev (fun k => spec_l5DrawRight.l1 k (B s) view (j : Int) xs (n : Int) l i h) r ∧ DrawnT 1000 r := fun n xs i h v i1 h1 hn hx hc ev c => by
  have hN := spec_NameOf_ev s view xs (by omega) (by omega) (by omega) (by omega)
  have hlen := nameV_len s view (xs.map tq) (by omega) (by omega) (by rw [List.length_map]; omega)
  obtain ⟨r, hr, hp⟩ := kont (nameV s view (xs.map tq)) i1 h1 hlen hc
  refine ⟨r, Ev.step (f := fun k => (spec_NameOf.f k (B s) view xs).bind fun t => spec_l5DrawRight.l0 k t view ((j + 1 : Nat) : Int) l i1 h1) (fun k => ?_) (Ev.bind hN hr), hp⟩
  simp only [spec_l5DrawRight.l1]
  rw [ev, Option.bind_some, if_neg c, up1 j (by omega)]
 intro d
 induction d with
 | zero =>
  intro n xs i h hd hn hx hi
  obtain ⟨v, i1, h1, ev, a0, a1, c1⟩ := l1Below_some l i h 3 hl hi (by omega) (by omega)
  exact fin n xs i h v i1 h1 hn hx c1 ev (by omega)
 | succ d ih =>
  intro n xs i h hd hn hx hi
  obtain ⟨v, i1, h1, ev, a0, a1, c1⟩ := l1Below_some l i h 3 hl hi (by omega) (by omega)
  by_cases c : (n : Int) < v
  ·obtain ⟨f, t, a, m, i2, h2, ed, _, _, _, _, c2⟩ := l2DrawRight_some l i1 h1 hl c1
   obtain ⟨r, hr, hp⟩ := ih (n + 1) (xs ++ [⟨f, t, a, m⟩]) i2 h2 (by omega) (by omega) (by simp [hx]) c2
   refine ⟨r, Ev.step (f := fun k => spec_l5DrawRight.l1 k (B s) view (j : Int) (xs ++ [⟨f, t, a, m⟩]) ((n + 1 : Nat) : Int) l i2 h2) (fun k => ?_) hr, hp⟩
   simp only [spec_l5DrawRight.l1]
   rw [ev, Option.bind_some, if_pos c]
   simp only
   rw [ed, Option.bind_some, if_pos (by omega), up1 n (by omega)]
  ·exact fin n xs i h v i1 h1 hn hx c1 ev c
theorem l5DrawRight_l0 (l : List Int) (hl : l.length ≤ 1048576) : ∀ (d j : Nat) (s : List UInt8) (view i h : Int), 6 - j = d → j ≤ 6 → s.length ≤ 100 * j → 0 ≤ view → view ≤ 10 * j → Cur i → ∃ r, Ev (fun k => spec_l5DrawRight.l0 k (B s) view (j : Int) l i h) r ∧ DrawnT 1000 r := by
 have fin : ∀ (j : Nat) (s : List UInt8) (view i h v i1 h1 : Int), j ≤ 6 → s.length ≤ 100 * j → Cur i1 → spec_l1Below.f l i h 6 = some (v, i1, h1) → ¬ (j : Int) < v → ∃ r, Ev (fun k => spec_l5DrawRight.l0 k (B s) view (j : Int) l i h) r ∧ DrawnT 1000 r := fun j s view i h v i1 h1 hj hs hc ev c =>
  ⟨(B s, i1, h1), Ev.step (f := fun _ => some (B s, i1, h1)) (fun k => by simp only [spec_l5DrawRight.l0]; rw [ev, Option.bind_some, if_neg c]) (ev_some rfl), s, rfl, by omega, hc⟩
 intro d
 induction d with
 | zero =>
  intro j s view i h hd hj hs v0 v1 hi
  obtain ⟨v, i1, h1, ev, a0, a1, c1⟩ := l1Below_some l i h 6 hl hi (by omega) (by omega)
  exact fin j s view i h v i1 h1 hj hs c1 ev (by omega)
 | succ d ih =>
  intro j s view i h hd hj hs v0 v1 hi
  obtain ⟨v, i1, h1, ev, a0, a1, c1⟩ := l1Below_some l i h 6 hl hi (by omega) (by omega)
  by_cases c : (j : Int) < v
  ·obtain ⟨b, i2, h2, eb, b0, b1, c2⟩ := l1Below_some l i1 h1 4 hl c1 (by omega) (by omega)
   have ht : 0 ≤ Int.tdiv b 3 ∧ Int.tdiv b 3 ≤ 1 := by
    obtain ⟨u, rfl⟩ := Int.eq_ofNat_of_zero_le b0
    have : Int.tdiv (u : Int) 3 = ((u / 3 : Nat) : Int) := rfl
    rw [this]; omega
   have hw : wrap64 (wrap64 (view + 1) + wrap64 (Int.tdiv b 3)) = view + 1 + Int.tdiv b 3 := by
    rw [up1' view (by omega) (by omega), wrapI (Int.tdiv b 3) (by omega) (by omega), wrapI _ (by omega) (by omega)]
   obtain ⟨r, hr, hp⟩ := l5DrawRight_l1 l hl s (by omega) (view + 1 + Int.tdiv b 3) (by omega) (by omega) j (by omega) (fun t i' h' hlen hc => ih (j + 1) t _ i' h' (by omega) (by omega) (by omega) (by omega) (by omega) hc) 2 0 [] i2 h2 (by omega) (by omega) rfl c2
   refine ⟨r, Ev.step (f := fun k => spec_l5DrawRight.l1 k (B s) (view + 1 + Int.tdiv b 3) (j : Int) [] ((0 : Nat) : Int) l i2 h2) (fun k => ?_) hr, hp⟩
   simp only [spec_l5DrawRight.l0]
   rw [ev, Option.bind_some, if_pos c]
   simp only
   rw [eb, Option.bind_some, hw]
   rfl
  ·exact fin j s view i h v i1 h1 hj hs c1 ev c
theorem l5DrawRight_ev (l : List Int) (hl : l.length ≤ 1048576) (i h : Int) (hi : Cur i) : ∃ r, Ev (fun k => spec_l5DrawRight.f k l i h) r ∧ DrawnT 1000 r := by
 unfold spec_l5DrawRight.f
 exact l5DrawRight_l0 l hl 6 0 [] 0 i h (by omega) (by omega) (by simp) (by omega) (by omega) hi

theorem l5Draw_loop (l : List Int) (hl : l.length ≤ 1048576) : ∀ (d j : Nat) (s : List UInt8) (i h : Int), 32 - j = d → 1 ≤ j → j ≤ 32 → s.length ≤ 30 * j → Cur i → ∃ r, Ev (fun k => spec_l5Draw.l0 k (B s) (j : Int) l i h) r ∧ DrawnT 2000 r := by
 intro d
 induction d with
 | zero =>
  intro j s i h hd h1 hj hs hi
  obtain ⟨v, i1, g1, ev, a0, a1, c1⟩ := l1Below_some l i h 2 hl hi (by omega) (by omega)
  have hw : wrap64 (30 + v) = 30 + v := wrapI _ (by omega) (by omega)
  exact ⟨(B s, i1, g1), Ev.step (f := fun _ => some (B s, i1, g1)) (fun k => by simp only [spec_l5Draw.l0]; rw [ev, Option.bind_some, hw, if_neg (by omega)]) (ev_some rfl), s, rfl, by omega, c1⟩
 | succ d ih =>
  intro j s i h hd h1 hj hs hi
  obtain ⟨v, i1, g1, ev, a0, a1, c1⟩ := l1Below_some l i h 2 hl hi (by omega) (by omega)
  have hw : wrap64 (30 + v) = 30 + v := wrapI _ (by omega) (by omega)
  by_cases c : (j : Int) ≤ 30 + v
  ·have hit := itoa_len64 (j : Int) (by omega) (by omega)
   obtain ⟨r, hr, hp⟩ := ih (j + 1) (s ++ 47 :: (Lib.itoa (j : Int) ++ [124])) i1 g1 (by omega) (by omega) (by omega) (by simp only [List.length_append, List.length_cons, List.length_nil]; omega) c1
   have z1 : (⟨#[47]⟩ : ByteArray).size = 1 := rfl
   have s1 := B_size s
   have s2 := B_size (Lib.itoa (j : Int))
   have hB : ((B s ++ (⟨#[47]⟩ : ByteArray)) ++ B (Lib.itoa (j : Int))) ++ (⟨#[124]⟩ : ByteArray) = B (s ++ 47 :: (Lib.itoa (j : Int) ++ [124])) := by
    have := nameB s (j : Int) []
    rw [← this, show B [] = ByteArray.empty from rfl, ByteArray.append_empty]
   refine ⟨r, Ev.step (f := fun k => (spec_Digits.f k (j : Int)).bind fun t => (if (B s ++ (⟨#[47]⟩ : ByteArray)).size + t.size ≤ 9223372036854775807 then (if ((B s ++ (⟨#[47]⟩ : ByteArray)) ++ t).size + 1 ≤ 9223372036854775807 then (spec_l5Draw.l0 k (((B s ++ (⟨#[47]⟩ : ByteArray)) ++ t) ++ (⟨#[124]⟩ : ByteArray)) ((j + 1 : Nat) : Int) l i1 g1) else (none)) else (none))) (fun k => ?_) ?_, hp⟩
   ·simp only [spec_l5Draw.l0]
    rw [ev, Option.bind_some, hw, if_pos c, if_pos (by omega), up1 j (by omega)]
   ·refine Ev.bind (spec_Digits_ev (j : Int) (by omega) (by omega)) (ev_pos (by rw [ByteArray.size_append]; omega) (ev_pos (by rw [ByteArray.size_append, ByteArray.size_append]; omega) ?_))
    rw [hB]
    exact hr
  ·exact ⟨(B s, i1, g1), Ev.step (f := fun _ => some (B s, i1, g1)) (fun k => by simp only [spec_l5Draw.l0]; rw [ev, Option.bind_some, hw, if_neg c]) (ev_some rfl), s, rfl, by omega, c1⟩
theorem l5Draw_ev (l : List Int) (hl : l.length ≤ 1048576) (i h : Int) (hi : Cur i) : ∃ r, Ev (fun k => spec_l5Draw.f k l i h) r ∧ DrawnT 2000 r := by
 obtain ⟨v, i1, h1, e1, c1⟩ := l1Once_some l i h 20 hl hi (by omega) (by omega)
 by_cases c : v = true
 ·obtain ⟨r, hr, hp⟩ := l5Draw_loop l hl 31 1 [] i1 h1 (by omega) (by omega) (by omega) (by simp) c1
  refine ⟨r, ?_, hp⟩
  unfold spec_l5Draw.f
  rw [e1]
  exact ev_pos c hr
 ·obtain ⟨r, hr, s, e, hs, hc⟩ := l5DrawRight_ev l hl i1 h1 c1
  obtain ⟨t, i2, h2⟩ := r
  simp only at e hc
  subst e
  obtain ⟨r, er, s', e', hs', hc'⟩ := l2Dent_some l i2 h2 s hl hc (by omega)
  refine ⟨r, ?_, s', e', by omega, hc'⟩
  unfold spec_l5Draw.f
  rw [e1]
  refine ev_neg c (Ev.bind hr ?_)
  simp only
  rw [er]
  exact ev_some rfl

theorem l1New_ev (l : List Int) (hl : l.length ≤ 1048576) : ∃ h : Int, Ev (fun k => spec_l1New.f k l) (l, 0, h) := by
 have loop : ∀ (d n : Nat) (h : Int), l.length - n = d → n ≤ l.length → ∃ h', Ev (fun k => spec_l1New.l0 k l h (n : Int)) (l, 0, h') := by
  intro d
  induction d with
  | zero =>
   intro n h hd hn
   exact ⟨h, Ev.step (f := fun _ => some (l, 0, h)) (fun k => by simp only [spec_l1New.l0]; rw [if_neg (by omega)]) (ev_some rfl)⟩
  | succ d ih =>
   intro n h hd hn
   by_cases c : (n : Int) < 4000
   ·obtain ⟨h', hh⟩ := ih (n + 1) (Go.bits .and .i64 (wrap64 ((wrap64 ((wrap64 (h * 131)) + (wrap64 (rd l (n : Int))))) + 7)) 1073741823) (by omega) (by omega)
    refine ⟨h', Ev.step (f := fun k => spec_l1New.l0 k l (Go.bits .and .i64 (wrap64 ((wrap64 ((wrap64 (h * 131)) + (wrap64 (rd l (n : Int))))) + 7)) 1073741823) ((n + 1 : Nat) : Int)) (fun k => ?_) hh⟩
    simp only [spec_l1New.l0]
    rw [if_pos (by omega), if_pos c, if_pos (by omega), up1 n (by omega)]
   ·exact ⟨h, Ev.step (f := fun _ => some (l, 0, h)) (fun k => by simp only [spec_l1New.l0]; rw [if_pos (by omega), if_neg c]) (ev_some rfl)⟩
 unfold spec_l1New.f
 exact loop l.length 0 _ (by omega) (by omega)

theorem DrawSteps_ev (l : List Int) (hl : l.length ≤ 1048576) : ∃ s : List UInt8, s.length ≤ 2000 ∧ Ev (fun k => spec_DrawSteps.f k l) (B s) := by
 obtain ⟨x, hx⟩ := l1New_ev l hl
 obtain ⟨r, hr, s, e, hs, hc⟩ := l5Draw_ev l hl 0 x (by unfold Cur; omega)
 refine ⟨s, hs, ?_⟩
 unfold spec_DrawSteps.f
 refine Ev.bind hx (Ev.bind hr (ev_some e))

theorem splitB_one (l : List UInt8) (c : UInt8) : Lib.splitB (B [c]) 0 (Lib.countB (B l) (B [c])) (B l) = (splitL c l).map B := by
 have h := Lib.splitB_data (B [c]) 0 (Lib.countB (B l) (B [c])) (B l)
 have e : Lib.splitK (B [c]).data.toList 0 (Lib.countB (B l) (B [c])) (B l).data.toList = splitL c l := by
  rw [← split_one, B_list, B_list]
  unfold Lib.split Lib.countB
  rw [B_list, B_list]
 rw [e] at h
 rw [← h, List.map_map]
 conv => lhs; rw [← List.map_id (Lib.splitB (B [c]) 0 (Lib.countB (B l) (B [c])) (B l))]
 exact List.map_congr_left (fun s _ => (B_of s).symm)
theorem sep_B (c : UInt8) : strOfNums [(c.toNat : Int)] = B [c] := by
 rw [nums_B]
 simp
theorem impl_Split_val (l : List UInt8) (c : UInt8) (hl : l.length ≤ 1073741824) : impl_Split.f (B l) (c.toNat : Int) = some ((splitL c l).map B) := by
 unfold impl_Split.f strings_Split.f
 rw [sep_B, B_size, B_size, if_pos ⟨by omega, by simp⟩, splitB_one]
 rfl

theorem impl_Digits_val (n : Int) (h0 : -9223372036854775808 ≤ n) (h1 : n ≤ 9223372036854775807) : impl_Digits.f n = some (B (Lib.itoa n)) := by
 unfold impl_Digits.f strconv_Itoa.f
 rw [if_pos ⟨h0, h1⟩]; rfl

theorem impl_Number_loop : ∀ (suf pre : List UInt8) (v : Nat), v < 10 ^ pre.length → (pre ++ suf).length ≤ 6 →
  Ev (fun k => impl_Number.l0 k (B (pre ++ suf)) (v : Int) (pre.length : Int)) (match numL v suf with | none => ((0 : Int), false) | some n => if Lib.decDigits n = pre ++ suf then ((n : Int), true) else (0, false))
 | [], pre, v, hv, hl => by
  rw [List.append_nil] at hl ⊢
  have hs := B_size pre
  have ht := ten_pow pre.length hl
  refine Ev.step (f := fun k => (impl_Digits.f (v : Int)).bind fun t => (if t.toList = (B pre).toList then (some ((v : Int), true)) else (some (0, false)))) (fun k => by simp only [impl_Number.l0]; rw [if_neg (by omega)]) ?_
  rw [numL]
  refine ev_const (impl_Digits_val v (by omega) (by omega)) ?_
  simp only
  rw [itoa_nat, B_toList, B_toList]
  by_cases c : Lib.decDigits v = pre
  ·exact ev_pos c (ev_some (by rw [if_pos c]))
  ·exact ev_neg c (ev_some (by rw [if_neg c]))
 | b :: suf, pre, v, hv, hl => by
  have hs := B_size (pre ++ b :: suf)
  have hb := b.toNat_lt
  simp only [List.length_append, List.length_cons] at hl hs
  have ht := ten_pow pre.length (by omega)
  have hbt := bt_mid pre suf b
  rw [numL]
  by_cases c : 48 ≤ b.toNat ∧ b.toNat ≤ 57
  ·rw [if_pos c]
   have ih := impl_Number_loop suf (pre ++ [b]) (10 * v + (b.toNat - 48)) (by rw [List.length_append, List.length_singleton, Nat.pow_succ]; omega) (by simp; omega)
   rw [List.append_assoc, List.singleton_append] at ih
   refine Ev.step (f := fun k => impl_Number.l0 k (B (pre ++ b :: suf)) (((10 * v + (b.toNat - 48) : Nat)) : Int) (((pre ++ [b]).length : Nat) : Int)) (fun k => ?_) ih
   simp only [impl_Number.l0]
   rw [if_pos (by omega), if_pos (by omega), hbt, if_neg (by omega), if_neg (by omega)]
   congr 1
   ·rw [wrapI (10 * (v : Int)) (by omega) (by omega), Int.emod_eq_of_lt (by omega) (by omega), wrapI (10 * (v : Int) + ((b.toNat : Int) - 48)) (by omega) (by omega)]; omega
   ·rw [List.length_append, List.length_singleton]; exact up1 _ (by omega)
  ·rw [if_neg c]
   refine Ev.step (f := fun _ => some (0, false)) (fun k => ?_) (ev_some rfl)
   simp only [impl_Number.l0]
   rw [if_pos (by omega), if_pos (by omega), hbt]
   by_cases c1 : (b.toNat : Int) < 48
   ·rw [if_pos c1]
   ·rw [if_neg c1, if_pos (by omega)]
theorem impl_Number_ev (l : List UInt8) : Ev (fun k => impl_Number.f k (B l)) (num l, (numF l).2) := by
 have hs := B_size l
 have hj : Ev (fun k => impl_Number.j0 k (B l) true) ((0 : Int), false) := Ev.step (f := fun _ => some (0, false)) (fun k => by simp only [impl_Number.j0]; rw [if_pos trivial]) (ev_some rfl)
 unfold impl_Number.f
 by_cases c : l.length < 1
 ·have e : numF l = (0, false) := by unfold numF; rw [if_pos (.inl c)]
  unfold num
  rw [e]
  exact ev_pos (by omega) hj
 refine ev_neg (by omega) ?_
 by_cases c2 : 6 < l.length
 ·have e : numF l = (0, false) := by unfold numF; rw [if_pos (.inr c2)]
  unfold num
  rw [e, decide_eq_true (show ((B l).size : Int) > 6 by omega)]
  exact hj
 rw [decide_eq_false (show ¬ ((B l).size : Int) > 6 by omega)]
 have h := impl_Number_loop l [] 0 (by simp) (by simpa using Nat.not_lt.1 c2)
 refine Ev.step (f := fun k => impl_Number.l0 k (B l) 0 0) (fun k => by simp only [impl_Number.j0]; rw [if_neg (by decide)]) ?_
 refine ev_eq h ?_
 unfold num numF
 rw [if_neg (by omega)]
 simp only [List.nil_append]
 cases numL 0 l with
 | none => rfl
 | some n =>
  simp only
  by_cases c3 : Lib.decDigits n = l
  ·rw [if_pos c3, if_pos c3]
  ·rw [if_neg c3, if_neg c3]; rfl

theorem impl_within_val (a b c : Int) : impl_within.f a b c = some (decide (b ≤ a ∧ a ≤ c)) := by
 unfold impl_within.f
 by_cases h : a ≥ b <;> by_cases h2 : a ≤ c <;> simp [h, h2] <;> omega

theorem impl_TxOk_val (f t a n : Int) : impl_TxOk.f f t a n = some (decide (txIs f t a n)) := by
 unfold impl_TxOk.f txIs
 simp only [impl_within_val, Option.bind_some, decide_eq_true_eq]
 by_cases h1 : 0 ≤ f ∧ f ≤ 3 <;> by_cases h2 : 0 ≤ t ∧ t ≤ 3 <;> by_cases h3 : 0 ≤ a ∧ a ≤ 1000 <;> simp only [h1, h2, h3, if_true, if_false, true_and, false_and, and_false, and_self, decide_false]

theorem impl_TxText_val (f t a n : Int) : impl_TxText.f f t a n = some (B (textT (f, t, a, n))) := by
 unfold impl_TxText.f
 simp only [impl_TxOk_val, Option.bind_some]
 by_cases c : txIs f t a n
 ·have c' : okT (f, t, a, n) := c
  have c2 := c
  unfold txIs at c2
  have h1 := itoa_len f (by omega) (by omega)
  have h2 := itoa_len t (by omega) (by omega)
  have h3 := itoa_len a (by omega) (by omega)
  have h4 := itoa_len n (by omega) (by omega)
  have s1 := B_size (Lib.itoa f)
  have s2 := B_size (Lib.itoa t)
  have s3 := B_size (Lib.itoa a)
  have s4 := B_size (Lib.itoa n)
  have z1 : (⟨#[62]⟩ : ByteArray).size = 1 := rfl
  have z2 : (⟨#[58]⟩ : ByteArray).size = 1 := rfl
  have z3 : (⟨#[35]⟩ : ByteArray).size = 1 := rfl
  have ht : textT (f, t, a, n) = rawT (f, t, a, n) := by unfold textT; rw [if_pos c']
  rw [ht]
  simp only [decide_eq_true c, if_true]
  rw [impl_Digits_val f (by omega) (by omega), Option.bind_some, if_pos (by omega), impl_Digits_val t (by omega) (by omega), Option.bind_some, if_pos (by rw [ByteArray.size_append]; omega), if_pos (by rw [ByteArray.size_append, ByteArray.size_append]; omega),
   impl_Digits_val a (by omega) (by omega), Option.bind_some, if_pos (by rw [ByteArray.size_append, ByteArray.size_append, ByteArray.size_append]; omega), if_pos (by rw [ByteArray.size_append, ByteArray.size_append, ByteArray.size_append, ByteArray.size_append]; omega),
   impl_Digits_val n (by omega) (by omega), Option.bind_some, if_pos (by rw [ByteArray.size_append, ByteArray.size_append, ByteArray.size_append, ByteArray.size_append, ByteArray.size_append]; omega)]
  exact congrArg some (rawB (f, t, a, n))
 ·have ht : textT (f, t, a, n) = [] := by unfold textT; rw [if_neg (show ¬ okT (f, t, a, n) from c)]
  rw [ht]
  simp only [decide_eq_false c, Bool.false_eq_true, if_false]

theorem strings_Cut_val (l : List UInt8) (c : UInt8) (hl : l.length ≤ 1073741824) : strings_Cut.f (B l) (B [c]) = some (match cutL c l with | none => (B l, B [], false) | some p => (B p.1, B p.2, true)) := by
 unfold strings_Cut.f
 rw [B_size, if_pos (by omega), B_list, B_list, cut_one]
 cases cutL c l <;> rfl
theorem impl_TxOf_ev (s : List UInt8) (hl : s.length ≤ 1073741824) : Ev (fun k => impl_TxOf.f k (B s)) (txRes (ofT s)) := by
 unfold impl_TxOf.f
 have key : ∀ (a r b r2 c d : List UInt8) (o1 o2 o3 : Bool), strings_Cut.f (B s) ⟨#[62]⟩ = some (B a, B r, o1) → strings_Cut.f (B r) ⟨#[58]⟩ = some (B b, B r2, o2) → strings_Cut.f (B r2) ⟨#[35]⟩ = some (B c, B d, o3) →
   (okT (num a, num b, num c, num d) → rawT (num a, num b, num c, num d) = s → ofT s = some (num a, num b, num c, num d)) → (¬ (okT (num a, num b, num c, num d) ∧ rawT (num a, num b, num c, num d) = s) → ofT s = none) →
   Ev (fun k => (strings_Cut.f (B s) ⟨#[62]⟩).bind fun p => (strings_Cut.f p.2.1 ⟨#[58]⟩).bind fun q => (strings_Cut.f q.2.1 ⟨#[35]⟩).bind fun r => (impl_Number.f k p.1).bind fun n1 => (impl_Number.f k q.1).bind fun n2 => (impl_Number.f k r.1).bind fun n3 => (impl_Number.f k r.2.1).bind fun n4 =>
    (impl_TxOk.f n1.1 n2.1 n3.1 n4.1).bind fun ok => if ok = true then ((impl_TxText.f n1.1 n2.1 n3.1 n4.1).bind fun t => if t.toList = (B s).toList then some (n1.1, n2.1, n3.1, n4.1, true) else some (0, 0, 0, 0, false)) else some (0, 0, 0, 0, false)) (txRes (ofT s)) := by
  intro a r b r2 c d o1 o2 o3 e1 e2 e3 hx hn
  refine ev_const e1 (ev_const e2 (ev_const e3 (Ev.bind (impl_Number_ev a) (Ev.bind (impl_Number_ev b) (Ev.bind (impl_Number_ev c) (Ev.bind (impl_Number_ev d) (ev_const (impl_TxOk_val _ _ _ _) ?_)))))))
  by_cases c1 : okT (num a, num b, num c, num d)
  ·refine ev_pos (decide_eq_true (show txIs (num a) (num b) (num c) (num d) from c1)) (ev_const (impl_TxText_val _ _ _ _) ?_)
   have ht : textT (num a, num b, num c, num d) = rawT (num a, num b, num c, num d) := by unfold textT; rw [if_pos c1]
   by_cases c2 : rawT (num a, num b, num c, num d) = s
   ·rw [hx c1 c2]
    exact ev_pos (by rw [B_toList, B_toList, ht]; exact c2) (ev_some rfl)
   ·rw [hn (fun z => c2 z.2)]
    exact ev_neg (by rw [B_toList, B_toList, ht]; exact c2) (ev_some rfl)
  ·rw [hn (fun z => c1 z.1)]
   exact ev_neg (by simpa using (show ¬ txIs (num a) (num b) (num c) (num d) from c1)) (ev_some rfl)
 have fx : ∀ {x : Tx}, okT x → rawT x = s → ofT s = some x := fun h e => ofT_not h e
 have E1 := strings_Cut_val s 62 hl
 cases h1 : cutL 62 s with
 | none =>
  rw [h1] at E1
  have hno := ofT_cut1 h1
  have E2 := strings_Cut_val [] 58 (by simp)
  have E3 := strings_Cut_val [] 35 (by simp)
  exact key s [] [] [] [] [] _ _ _ E1 E2 E3 (fun a b => fx a b) (fun _ => hno)
 | some p =>
  obtain ⟨a, r⟩ := p
  rw [h1] at E1
  have hr := (cutL_le h1).2
  have E2 := strings_Cut_val r 58 (by omega)
  cases h2 : cutL 58 r with
  | none =>
   rw [h2] at E2
   have hno := ofT_cut2 h1 h2
   have E3 := strings_Cut_val [] 35 (by simp)
   exact key a r r [] [] [] _ _ _ E1 E2 E3 (fun a b => fx a b) (fun _ => hno)
  | some q =>
   obtain ⟨b, r2⟩ := q
   rw [h2] at E2
   have hr2 := (cutL_le h2).2
   have E3 := strings_Cut_val r2 35 (by omega)
   cases h3 : cutL 35 r2 with
   | none =>
    rw [h3] at E3
    have hno := ofT_cut3 h1 h2 h3
    exact key a r b r2 r2 [] _ _ _ E1 E2 E3 (fun a b => fx a b) (fun _ => hno)
   | some z =>
    obtain ⟨c, d⟩ := z
    rw [h3] at E3
    refine key a r b r2 c d _ _ _ E1 E2 E3 (fun a b => fx a b) (fun hne => ?_)
    rw [ofT_words h1 h2 h3, if_neg hne]

theorem impl_TxsOf_loop : ∀ (suf pre : List (List UInt8)) (dn : List Tx), (∀ p ∈ suf, p.length ≤ 1073741824) → (pre ++ suf).length ≤ 1073741824 → dn.length = pre.length →
  Ev (fun k => impl_TxsOf.l0 k (dn.map fromT) ((pre ++ suf).map B) (((pre ++ suf).map B).length : Int) (pre.length : Int)) (txsRes dn (readAll suf))
 | [], pre, dn, hp, hl, hd => by
  rw [List.append_nil] at *
  refine Ev.step (f := fun _ => some (dn.map fromT, true)) (fun k => ?_) (ev_some ?_)
  ·simp only [impl_TxsOf.l0]
   rw [if_neg (by rw [List.length_map] <;> omega)]
  ·simp [readAll, txsRes]
 | p :: suf, pre, dn, hp, hl, hd => by
  have hlen : ((pre ++ p :: suf).map B).length = pre.length + (suf.length + 1) := by simp
  simp only [List.length_append, List.length_cons] at hl
  have ht := impl_TxOf_ev p (hp p (by simp))
  rw [readAll]
  cases ho : ofT p with
  | none =>
   rw [ho] at ht
   refine Ev.step (f := fun k => (impl_TxOf.f k (B p)).bind fun r => if r.2.2.2.2 = true then (if (dn.map fromT).length < 4398046511104 then (impl_TxsOf.l0 k ((dn.map fromT) ++ [(⟨r.1, r.2.1, r.2.2.1, r.2.2.2.1⟩ : S60)]) ((pre ++ p :: suf).map B) (((pre ++ p :: suf).map B).length : Int) ((pre.length + 1 : Nat) : Int)) else none) else some ([], false)) (fun k => ?_) ?_
   ·simp only [impl_TxsOf.l0]
    rw [if_pos (by first | omega | (rw [hlen]; omega)), if_pos (by omega), if_pos (by rw [hlen]; omega), part_at, up1 _ (by omega)]
   ·exact Ev.bind ht (ev_neg (by simp [txRes]) (ev_some rfl))
  | some x =>
   rw [ho] at ht
   have ih := impl_TxsOf_loop suf (pre ++ [p]) (dn ++ [x]) (fun q hq => hp q (by simp [hq])) (by simp; omega) (by simp [hd])
   rw [List.append_assoc, List.singleton_append, List.length_append, List.length_singleton, List.map_append, List.map_singleton] at ih
   have e : txsRes dn ((some x).bind fun x => (readAll suf).map fun l => x :: l) = txsRes (dn ++ [x]) (readAll suf) := by
    cases readAll suf <;> simp [txsRes]
   rw [e]
   refine Ev.step (f := fun k => (impl_TxOf.f k (B p)).bind fun r => if r.2.2.2.2 = true then (if (dn.map fromT).length < 4398046511104 then (impl_TxsOf.l0 k ((dn.map fromT) ++ [(⟨r.1, r.2.1, r.2.2.1, r.2.2.2.1⟩ : S60)]) ((pre ++ p :: suf).map B) (((pre ++ p :: suf).map B).length : Int) ((pre.length + 1 : Nat) : Int)) else none) else some ([], false)) (fun k => ?_) ?_
   ·simp only [impl_TxsOf.l0]
    rw [if_pos (by first | omega | (rw [hlen]; omega)), if_pos (by omega), if_pos (by rw [hlen]; omega), part_at, up1 _ (by omega)]
   ·exact Ev.bind ht (ev_pos rfl (ev_pos (by rw [List.length_map]; omega) ih))
theorem impl_TxsOf_ev (s : List UInt8) (hl : s.length ≤ 536870912) : Ev (fun k => impl_TxsOf.f k (B s)) (txsRes [] (ofTs s)) := by
 unfold impl_TxsOf.f ofTs
 by_cases c : s = []
 ·rw [if_pos c]
  exact ev_pos (by rw [B_toList]; exact c) (ev_some rfl)
 ·rw [if_neg c]
  refine ev_neg (by rw [B_toList]; exact c) (ev_const (impl_Split_val s 44 (by omega)) ?_)
  have hn := splitL_len 44 s
  exact impl_TxsOf_loop (splitL 44 s) [] [] (fun p hp => by have := split_part 44 hp; omega) (by simp only [List.nil_append]; omega) rfl

theorem impl_Steps_loop : ∀ (suf pre : List (List UInt8)) (dn : List (Int × List Tx)) (last : Int), (∀ p ∈ suf, p.length ≤ 536870912) → (pre ++ suf).length ≤ 1073741824 → dn.length ≤ pre.length → 0 ≤ last → last ≤ 1000000 →
  Ev (fun k => impl_Steps.l0 k (dn.map fromS) last ((pre ++ suf).map B) (((pre ++ suf).map B).length : Int) (pre.length : Int)) (stepsRes dn (stepsL last suf))
 | [], pre, dn, last, hp, hl, hd, h0, h1 => by
  rw [List.append_nil] at *
  refine Ev.step (f := fun _ => some (dn.map fromS, true)) (fun k => ?_) (ev_some ?_)
  ·simp only [impl_Steps.l0]
   rw [if_neg (by rw [List.length_map]; omega)]
  ·simp [stepsL, stepsRes]
 | p :: suf, pre, dn, last, hp, hl, hd, h0, h1 => by
  have hlen : ((pre ++ p :: suf).map B).length = pre.length + (suf.length + 1) := by simp
  simp only [List.length_append, List.length_cons] at hl
  have hpl := hp p (by simp)
  rw [stepsL_cons]
  refine Ev.step (f := fun k => (strings_Cut.f (B p) (⟨#[124]⟩ : ByteArray)).bind fun c => ((impl_Number.f k c.1).bind fun v => ((impl_TxsOf.f k c.2.1).bind fun t => (if c.2.2 = true then (if v.2 = true then (if t.2 = true then ((impl_within.f v.1 (last + 1) 60).bind fun b => (if b = true then (if (t.1.length : Int) > 2 then (some ([], false)) else (if (dn.map fromS).length < 4398046511104 then (impl_Steps.l0 k ((dn.map fromS) ++ [(⟨v.1, t.1⟩ : S41)]) v.1 ((pre ++ p :: suf).map B) (((pre ++ p :: suf).map B).length : Int) ((pre.length + 1 : Nat) : Int)) else (none))) else (some ([], false)))) else (some ([], false))) else (some ([], false))) else (some ([], false)))))) (fun k => ?_) ?_
  ·simp only [impl_Steps.l0]
   rw [if_pos (by rw [hlen]; omega), if_pos (by omega), if_pos (by rw [hlen]; omega), part_at, up1 _ (by omega), up1' last (by omega) (by omega)]
  ·have hc := strings_Cut_val p 124 (by omega)
   unfold stepOne
   cases hq : cutL 124 p with
   | none =>
    rw [hq] at hc
    exact ev_const hc (Ev.bind (impl_Number_ev p) (Ev.bind (impl_TxsOf_ev [] (by simp)) (ev_neg (by simp) (ev_some rfl))))
   | some q =>
    obtain ⟨a, r⟩ := q
    rw [hq] at hc
    have hr := (cut_len hq).2
    simp only at hr hc
    simp only [Option.bind_some]
    refine ev_const hc (Ev.bind (impl_Number_ev a) (Ev.bind (impl_TxsOf_ev r (by omega)) (ev_pos rfl ?_)))
    simp only
    by_cases c1 : (numF a).2 = true
    ·refine ev_pos c1 ?_
     cases ho : ofTs r with
     | none =>
      refine ev_neg (by simp [txsRes]) (ev_some ?_)
      split <;> rfl
     | some l =>
      refine ev_pos rfl (ev_const (impl_within_val _ _ _) ?_)
      by_cases c2 : last + 1 ≤ num a ∧ num a ≤ 60
      ·rw [if_pos ⟨c1, by omega, by omega⟩]
       refine ev_pos (decide_eq_true c2) ?_
       simp only [txsRes, List.nil_append, Option.bind_some]
       by_cases c4 : l.length ≤ 2
       ·rw [if_pos c4]
        have ih := impl_Steps_loop suf (pre ++ [p]) (dn ++ [(num a, l)]) (num a) (fun q hq => hp q (by simp [hq])) (by simp; omega) (by simp; omega) (num_nonneg a) (by omega)
        rw [show (pre ++ [p]).length = pre.length + 1 from by simp, List.append_assoc, List.singleton_append, show (dn ++ [(num a, l)]).map fromS = dn.map fromS ++ [fromS (num a, l)] from by simp] at ih
        simp only [Option.bind_some]
        rw [stepsRes_cons]
        exact ev_neg (by rw [List.length_map]; omega) (ev_pos (by rw [List.length_map]; omega) ih)
       ·rw [if_neg c4]
        exact ev_pos (by rw [List.length_map]; omega) (ev_some rfl)
      ·rw [if_neg (by rintro ⟨_, h, h'⟩; omega)]
       exact ev_neg (by simpa using c2) (ev_some rfl)
    ·rw [if_neg (by rintro ⟨h, _⟩; exact c1 h)]
     exact ev_neg c1 (ev_some rfl)
theorem impl_Steps_ev (s : List UInt8) (hl : s.length ≤ 536870912) : Ev (fun k => impl_Steps.f k (B s)) (stepsRes [] (stepsS s)) := by
 unfold impl_Steps.f stepsS
 by_cases c : s = []
 ·rw [if_pos c]
  exact ev_pos (by rw [B_toList]; exact c) (ev_some rfl)
 ·rw [if_neg c]
  refine ev_neg (by rw [B_toList]; exact c) (ev_const (impl_Split_val s 47 (by omega)) ?_)
  have hn := splitL_len 47 s
  have hpt : ∀ p ∈ splitL 47 s, p.length ≤ s.length := fun p hp => split_part 47 hp
  cases hs : splitL 47 s with
  | nil => exact absurd hs (splitL_ne 47 s)
  | cons p ps =>
   rw [hs] at hn hpt
   simp only [List.length_cons] at hn
   have hj : Ev (fun k => impl_Steps.j0 k ((p :: ps).map B) true) (([] : List S41), false) := Ev.step (f := fun _ => some ([], false)) (fun k => by simp only [impl_Steps.j0]; rw [if_pos trivial]) (ev_some rfl)
   have hlm : ((p :: ps).map B).length = ps.length + 1 := by simp
   have hw : wrap64 ((((p :: ps).map B).length : Int) - 1) = (ps.length : Int) := by rw [hlm, wrapI _ (by omega) (by omega)]; omega
   refine ev_pos (by rw [hlm]; omega) ?_
   by_cases c1 : p = []
   ·refine ev_pos (by rw [part_zero, B_toList]; exact c1) ?_
    by_cases c2 : ps.length ≤ 30
    ·simp only
     rw [if_pos ⟨c1, c2⟩, hw, decide_eq_false (by omega)]
     refine Ev.step (f := fun k => impl_Steps.l0 k [] 0 (ps.map B) ((ps.map B).length : Int) 0) (fun k => by simp only [impl_Steps.j0]; rw [if_neg (by decide), if_pos (by rw [hlm]; omega)]; rfl) ?_
     exact impl_Steps_loop ps [] [] 0 (fun q hq => by have := hpt q (by simp [hq]); omega) (by simp; omega) (by simp) (by omega) (by omega)
    ·simp only
     rw [if_neg (fun h => c2 h.2), hw, decide_eq_true (by omega)]
     exact hj
   ·simp only
    rw [if_neg (fun h => c1 h.1)]
    exact ev_neg (by rw [part_zero, B_toList]; exact c1) hj

theorem spec_l1Max_val (a b : Int) : spec_l1Max.f a b = some (max a b) := by
 unfold spec_l1Max.f
 split <;> congr 1 <;> omega

def upV (s : List UInt8) : List UInt8 := if nameOk s = true then s.take (Lib.lastIndexByte (B s) 47).toNat else []
theorem lastIdx_lt (s : ByteArray) (c : Int) (k : Nat) : -1 ≤ Lib.lastIdx s c k ∧ Lib.lastIdx s c k < k := by
 rcases Lib.lastIdx_spec s c k with ⟨e, _⟩ | ⟨i, hi, e, _⟩ <;> omega
theorem bt_data (s : ByteArray) (k : Nat) (h : k < s.size) : bt s (k : Int) = ((s.data[k]!).toNat : Int) := by
 rw [← bt_at s k (by rw [Int.toNat_natCast]; exact h)]
 rw [getElem!_pos s.data k (by simpa using h)]
 rfl
theorem name_slash {s : List UInt8} (h : nameOk s = true) (hs : s ≠ []) : ∃ r, s = 47 :: r := by
 unfold nameOk stepsS at h
 rw [if_neg hs] at h
 have hj := join_split 47 s
 cases hp : splitL 47 s with
 | nil => rw [hp] at h; cases h
 | cons p ps =>
  rw [hp] at h hj
  simp only at h
  split at h
  ·rename_i c
   cases ps with
   | nil => rw [c.1] at hj; exact absurd hj.symm hs
   | cons q qs => rw [joinL_cons _ _ (by simp), c.1] at hj; exact ⟨_, hj.symm⟩
  ·cases h
theorem name_last {s : List UInt8} (h : nameOk s = true) (hs : s ≠ []) : 0 ≤ Lib.lastIndexByte (B s) 47 ∧ Lib.lastIndexByte (B s) 47 < s.length := by
 obtain ⟨r, rfl⟩ := name_slash h hs
 rcases Lib.lastIndexByte_spec (B (47 :: r)) 47 with ⟨_, hn⟩ | ⟨i, hi, e, _⟩
 ·exact absurd rfl (hn 0 (by rw [B_size]; simp))
 ·rw [B_size] at hi; omega
theorem take_B (s : List UInt8) (k : Nat) : (B s).extract 0 k = B (s.take k) := by rw [extract_B, List.drop_zero, Nat.sub_zero]
theorem spec_UpOf_loop (s : List UInt8) (hl : s.length ≤ 536870912) : ∀ n : Nat, n ≤ s.length → Ev (fun k => spec_UpOf.l0 k (B s) (n : Int)) (B (s.take (Lib.lastIdx (B s) 47 n).toNat))
 | 0, _ => by
  refine Ev.step (f := fun _ => some (B (s.take 0))) (fun k => ?_) (ev_some rfl)
  simp only [spec_UpOf.l0]
  rw [if_neg (by omega), dn1 _ (by omega) (by omega), spec_l1Max_val, Option.bind_some, if_pos (by omega), if_pos (by rw [B_size]; omega), take_B]
  rfl
 | n + 1, hn => by
  have hw : wrap64 (((n + 1 : Nat) : Int) - 1) = (n : Int) := by rw [dn1 _ (by omega) (by omega)]; omega
  by_cases c : ((B s).data[n]!.toNat : Int) = 47
  ·refine Ev.step (f := fun _ => some (B (s.take n))) (fun k => ?_) (ev_some ?_)
   ·simp only [spec_UpOf.l0]
    rw [if_pos (by omega), hw, if_pos (by omega), if_pos (by rw [B_size]; omega), bt_data _ _ (by rw [B_size]; omega), if_pos c, spec_l1Max_val, Option.bind_some, if_pos (by omega), if_pos (by rw [B_size]; omega), take_B, show (max (n : Int) 0).toNat = n from by omega]
   ·rw [Lib.lastIdx_hit _ _ _ c, Int.toNat_natCast]
  ·rw [Lib.lastIdx_miss _ _ _ c]
   refine Ev.step (f := fun k => spec_UpOf.l0 k (B s) (n : Int)) (fun k => ?_) (spec_UpOf_loop s hl n (by omega))
   simp only [spec_UpOf.l0]
   rw [if_pos (by omega), hw, if_pos (by omega), if_pos (by rw [B_size]; omega), bt_data _ _ (by rw [B_size]; omega), if_neg c]
theorem spec_UpOf_ev (s : List UInt8) (hl : s.length ≤ 536870912) : Ev (fun k => spec_UpOf.f k (B s)) (B (upV s)) := by
 unfold spec_UpOf.f upV
 refine Ev.bind (spec_NameOk_ev s hl) ?_
 by_cases c1 : nameOk s = true
 ·rw [if_pos c1]
  have h := spec_UpOf_loop s hl s.length (Nat.le_refl _)
  have e : Lib.lastIdx (B s) 47 s.length = Lib.lastIndexByte (B s) 47 := by rw [Lib.lastIndexByte, B_size]
  rw [e] at h
  rw [B_size]
  exact ev_pos c1 h
 ·rw [if_neg c1]; exact ev_neg c1 (ev_some rfl)

def viewV (s : List UInt8) : Int := match stepsS s with | some l => if l.length = 0 then 0 else (rd_T41 (l.map fromS) ((l.length : Int) - 1)).f0 | none => 0
theorem spec_ViewOf_ev (s : List UInt8) (hl : s.length ≤ 536870912) : Ev (fun k => spec_ViewOf.f k (B s)) (viewV s) := by
 unfold spec_ViewOf.f viewV
 refine Ev.bind (spec_Steps_ev s hl) ?_
 cases hs : stepsS s with
 | none => exact ev_neg (by simp [stepsRes]) (ev_some rfl)
 | some l =>
  have hl := (stepsS_some hs).1
  refine ev_pos rfl ?_
  by_cases c : l.length = 0
  ·simp only [if_pos c]
   exact ev_pos (by simp [stepsRes, c]) (ev_some rfl)
  ·have hw : wrap64 (((l.map fromS).length : Int) - 1) = (l.length : Int) - 1 := by rw [List.length_map, dn1 _ (by omega) (by omega)]
   simp only [stepsRes, List.nil_append, hw, if_neg c]
   exact ev_neg (by rw [List.length_map]; omega) (ev_pos (by omega) (ev_pos (by rw [List.length_map]; omega) (ev_some rfl)))

def heightV (s : List UInt8) : Int := match stepsS s with | some l => (l.length : Int) | none => -1
theorem stepsL_last : ∀ (ps : List (List UInt8)) (last : Int) (l : List (Int × List Tx)), stepsL last ps = some l → ∀ h : l ≠ [], last + (l.length : Int) ≤ (l.getLast h).1
 | [], last, l, h, hl => by
  obtain rfl := Option.some.inj h
  exact absurd rfl hl
 | p :: ps, last, l, h, hl => by
  rw [stepsL_cons] at h
  obtain ⟨x, hx, h⟩ := Option.bind_eq_some_iff.1 h
  obtain ⟨r, hr, rfl⟩ := Option.map_eq_some_iff.1 h
  have h1 := stepOne_some hx
  by_cases hn : r = []
  ·subst hn
   simp only [List.getLast_singleton, List.length_singleton]
   omega
  ·have ih := stepsL_last ps x.1 r hr hn
   rw [List.getLast_cons hn, List.length_cons]
   omega
theorem last_at (l : List (Int × List Tx)) (h : l ≠ []) : (rd_T41 (l.map fromS) ((l.length : Int) - 1)).f0 = (l.getLast h).1 := by
 have hp : 0 < l.length := List.length_pos_iff.2 h
 unfold rd_T41
 rw [show ((l.length : Int) - 1).toNat = l.length - 1 from by omega, List.getD_eq_getElem?_getD, List.getElem?_map, List.getElem?_eq_getElem (by omega), List.getLast_eq_getElem]
 rfl
theorem height_view (s : List UInt8) : heightV s ≤ viewV s ∧ heightV s ≤ 30 ∧ viewV s ≤ 60 := by
 unfold heightV viewV
 cases hs : stepsS s with
 | none => simp
 | some l =>
  have h1 := stepsS_some hs
  simp only
  by_cases c : l.length = 0
  ·rw [if_pos c]; omega
  ·rw [if_neg c]
   have hn : l ≠ [] := fun e => c (by rw [e]; rfl)
   rw [last_at l hn]
   have h2 := h1.2 _ (List.getLast_mem hn)
   refine ⟨?_, by omega, h2.1⟩
   unfold stepsS at hs
   split at hs
   ·obtain rfl := Option.some.inj hs; exact absurd rfl hn
   ·split at hs
    ·cases hs
    ·split at hs
     ·have := stepsL_last _ _ _ hs hn; omega
     ·cases hs
def extV (s t : List UInt8) : Bool := if nameOk s = true then (if nameOk t = true then (if Lib.hasPrefix s t = true then (if s.length = t.length then true else bt (B s) (t.length : Int) == 47) else false) else false) else false
theorem prefix_B (s t : List UInt8) : (decide (t.length ≤ s.length) && (((B s).extract 0 t.length).toList == (B t).toList)) = Lib.hasPrefix s t := by
 have h := Lib.hasPrefix_raw (B s) (B t)
 rw [B_size, B_size, B_list, B_list] at h
 exact h
def meetV (s t : List UInt8) : Bool := if extV s t = true then true else extV t s
def txt (ps : List (List UInt8)) : List UInt8 := (ps.map (fun p => 47 :: p)).flatten
theorem txt_cons (p : List UInt8) (ps : List (List UInt8)) : txt (p :: ps) = 47 :: (p ++ txt ps) := by simp [txt]
theorem txt_app (ps qs : List (List UInt8)) : txt (ps ++ qs) = txt ps ++ txt qs := by simp [txt]
theorem txt_one (q : List UInt8) : txt [q] = 47 :: q := by simp [txt]
theorem split_txt1 : ∀ (ps : List (List UInt8)) (p : List UInt8), (47 : UInt8) ∉ p → (∀ q ∈ ps, (47 : UInt8) ∉ q) → splitL 47 (p ++ txt ps) = p :: ps
 | [], p, hp, _ => by rw [show txt [] = [] from rfl, List.append_nil, splitL_none hp]
 | q :: ps, p, hp, h => by rw [txt_cons, splitL_at hp, split_txt1 ps q (h q (by simp)) (fun x hx => h x (by simp [hx]))]
theorem split_txt (ps : List (List UInt8)) (h : ∀ q ∈ ps, (47 : UInt8) ∉ q) : splitL 47 (txt ps) = [] :: ps := split_txt1 ps [] (by simp) h
theorem joinL_txt : ∀ (ps : List (List UInt8)) (p : List UInt8), joinL 47 (p :: ps) = p ++ txt ps
 | [], p => by simp [joinL, txt]
 | q :: ps, p => by rw [joinL_cons _ _ (by simp), joinL_txt ps q, txt_cons]
theorem txt_of_split {s : List UInt8} {ps : List (List UInt8)} (h : splitL 47 s = [] :: ps) : s = txt ps := by
 have := join_split 47 s
 rw [h, joinL_txt] at this
 exact this.symm
theorem steps_txt (ps : List (List UInt8)) (h : ∀ q ∈ ps, (47 : UInt8) ∉ q) (hl : ps.length ≤ 30) : stepsS (txt ps) = stepsL 0 ps := by
 unfold stepsS
 rw [split_txt ps h]
 cases ps with
 | nil => rw [show txt [] = [] from rfl, if_pos rfl]; rfl
 | cons p ps =>
  rw [if_neg (by rw [txt_cons]; simp)]
  simp only
  rw [if_pos ⟨trivial, hl⟩]
theorem steps_parts {s : List UInt8} {l : List (Int × List Tx)} (h : stepsS s = some l) : ∃ ps, s = txt ps ∧ (∀ q ∈ ps, (47 : UInt8) ∉ q) ∧ ps.length ≤ 30 ∧ stepsL 0 ps = some l := by
 unfold stepsS at h
 by_cases c : s = []
 ·rw [if_pos c] at h
  exact ⟨[], by rw [c]; rfl, by simp, by simp, by rw [← h]; rfl⟩
 rw [if_neg c] at h
 have hm : ∀ p ∈ splitL 47 s, (47 : UInt8) ∉ p := fun p hp => splitL_mem hp
 cases hs : splitL 47 s with
 | nil => exact absurd hs (splitL_ne 47 s)
 | cons p ps =>
  rw [hs] at h hm
  simp only at h
  split at h
  ·rename_i z
   obtain ⟨rfl, z2⟩ := z
   exact ⟨ps, txt_of_split hs, fun q hq => hm q (by simp [hq]), z2, h⟩
  ·cases h
def lastV (d : Int) (l : List (Int × List Tx)) : Int := (l.getLast?.map (·.1)).getD d
theorem lastV_cons (d : Int) (x : Int × List Tx) (l : List (Int × List Tx)) : lastV d (x :: l) = lastV x.1 l := by
 unfold lastV
 cases l with
 | nil => rfl
 | cons y l => rw [List.getLast?_cons_cons, List.getLast?_eq_some_getLast (by simp)]; rfl
theorem lastV_app : ∀ (l m : List (Int × List Tx)) (d : Int), lastV d (l ++ m) = lastV (lastV d l) m
 | [], m, d => rfl
 | x :: l, m, d => by rw [List.cons_append, lastV_cons, lastV_cons, lastV_app l m x.1]
theorem stepsL_app : ∀ (ps qs : List (List UInt8)) (d : Int), stepsL d (ps ++ qs) = (stepsL d ps).bind fun l => (stepsL (lastV d l) qs).map fun m => l ++ m
 | [], qs, d => by
  rw [List.nil_append, show stepsL d [] = some [] from rfl, Option.bind_some, show lastV d [] = d from rfl]
  cases stepsL d qs <;> rfl
 | p :: ps, qs, d => by
  rw [List.cons_append, stepsL_cons, stepsL_cons]
  cases stepOne d p with
  | none => rfl
  | some x =>
   simp only [Option.bind_some]
   rw [stepsL_app ps qs x.1]
   cases stepsL x.1 ps with
   | none => rfl
   | some l =>
    simp only [Option.bind_some, Option.map_some]
    rw [lastV_cons]
    cases stepsL (lastV x.1 l) qs <;> rfl
theorem stepOne_text {d : Int} {p : List UInt8} {x : Int × List Tx} (h : stepOne d p = some x) : p = stepText x ∧ okTs x.2 ∧ 0 ≤ x.1 ∧ d < x.1 ∧ x.1 ≤ 60 ∧ x.2.length ≤ 2 := by
 have h0 := stepOne_some h
 unfold stepOne at h
 cases hq : cutL 124 p with
 | none => rw [hq] at h; cases h
 | some q =>
  obtain ⟨a, r⟩ := q
  have hp := (cutL_some hq).1
  rw [hq] at h
  simp only [Option.bind_some] at h
  split at h
  ·rename_i c
   cases ho : ofTs r with
   | none => rw [ho] at h; cases h
   | some l =>
    rw [ho] at h
    simp only [Option.bind_some] at h
    split at h
    ·obtain rfl := Option.some.inj h
     have h1 := ofTs_some ho
     have h2 : numF a = ((numF a).1, true) := by rw [← c.1]
     have h3 := (numF_some h2).1
     have h4 : Lib.itoa (num a) = a := by rw [show num a = (((numF a).1 : Nat) : Int) from rfl, itoa_nat]; exact h3
     refine ⟨?_, h1.1, num_nonneg a, h0.1, h0.2.1, h0.2.2⟩
     unfold stepText
     simp only
     rw [h4, h1.2]
     exact hp
    ·cases h
  ·cases h
theorem stepsL_text : ∀ {ps : List (List UInt8)} {d : Int} {l : List (Int × List Tx)}, stepsL d ps = some l → ps = l.map stepText ∧ ∀ x ∈ l, okTs x.2 ∧ 0 ≤ x.1 ∧ x.1 ≤ 60 ∧ x.2.length ≤ 2
 | [], d, l, h => by
  obtain rfl := Option.some.inj h
  simp
 | p :: ps, d, l, h => by
  rw [stepsL_cons] at h
  obtain ⟨x, hx, h⟩ := Option.bind_eq_some_iff.1 h
  obtain ⟨r, hr, rfl⟩ := Option.map_eq_some_iff.1 h
  obtain ⟨h1, h2⟩ := stepsL_text hr
  have h3 := stepOne_text hx
  refine ⟨by rw [List.map_cons, ← h1, ← h3.1], fun y hy => ?_⟩
  rcases List.mem_cons.1 hy with rfl | hy
  ·exact ⟨h3.2.1, h3.2.2.1, h3.2.2.2.2⟩
  ·exact h2 y hy
theorem stepsL_ge {ps : List (List UInt8)} {d : Int} {l : List (Int × List Tx)} (h : stepsL d ps = some l) : d ≤ lastV d l := by
 by_cases c : l = []
 ·subst c; exact Int.le_refl _
 ·have h1 := stepsL_last ps d l h c
  have h2 : lastV d l = (l.getLast c).1 := by unfold lastV; rw [List.getLast?_eq_some_getLast c]; rfl
  omega
theorem slash_not (x : Int × List Tx) : (47 : UInt8) ∉ stepText x := by
 unfold stepText
 simp only [List.mem_append, List.mem_cons, not_or]
 exact ⟨itoa_no x.1 47 (by decide) (by decide), by decide, textTs_not x.2 47 (by decide) (by decide) (by decide)⟩
theorem slash_nots (l : List (Int × List Tx)) : ∀ q ∈ l.map stepText, (47 : UInt8) ∉ q := fun q hq => by
 obtain ⟨x, _, rfl⟩ := List.mem_map.1 hq
 exact slash_not x
/-- A chain's text is its steps' texts, each behind a slash. -/
theorem chain {s : List UInt8} {l : List (Int × List Tx)} (h : stepsS s = some l) : s = txt (l.map stepText) ∧ l.length ≤ 30 ∧ stepsL 0 (l.map stepText) = some l ∧ ∀ x ∈ l, okTs x.2 ∧ 0 ≤ x.1 ∧ x.1 ≤ 60 ∧ x.2.length ≤ 2 := by
 obtain ⟨ps, e, _, hl, hs⟩ := steps_parts h
 obtain ⟨h1, h2⟩ := stepsL_text hs
 subst h1
 exact ⟨e, by simpa using hl, hs, h2⟩
theorem chain_front {l m : List (Int × List Tx)} (h : stepsL 0 ((l ++ m).map stepText) = some (l ++ m)) (hl : l.length ≤ 30) : stepsS (txt (l.map stepText)) = some l := by
 rw [steps_txt _ (slash_nots l) (by rw [List.length_map]; exact hl)]
 rw [List.map_append, stepsL_app] at h
 obtain ⟨a, ha, h⟩ := Option.bind_eq_some_iff.1 h
 obtain ⟨b, hb, e⟩ := Option.map_eq_some_iff.1 h
 have h1 := (stepsL_some ha).1
 rw [List.length_map] at h1
 rw [ha, (List.append_inj e h1).1]
theorem last_slash {a b p q : List UInt8} (hp : (47 : UInt8) ∉ p) (hq : (47 : UInt8) ∉ q) (h : a ++ 47 :: p = b ++ 47 :: q) : a = b ∧ p = q := by
 have h1 := congrArg (splitL 47) h
 rw [split_snoc p hp, split_snoc q hq] at h1
 obtain ⟨h2, h3⟩ := List.append_inj' h1 rfl
 have h4 := congrArg (joinL 47) h2
 rw [join_split, join_split] at h4
 exact ⟨h4, by simpa using h3⟩
theorem itoa_inj {a b : Int} (h0 : 0 ≤ a) (h : Lib.itoa a = Lib.itoa b) : a = b := by
 obtain ⟨u, rfl⟩ := Int.eq_ofNat_of_zero_le h0
 by_cases c : b < 0
 ·exfalso
  have h1 : (45 : UInt8) ∈ Lib.itoa (u : Int) := by rw [h]; unfold Lib.itoa; rw [if_pos c]; simp
  exact itoa_not (u : Int) h0 45 (by decide) h1
 ·obtain ⟨v, rfl⟩ := Int.eq_ofNat_of_zero_le (show 0 ≤ b by omega)
  rw [itoa_nat, itoa_nat] at h
  have h1 := congrArg (numL 0) h
  rw [numL_dec, numL_dec] at h1
  rw [Option.some.inj h1]
theorem stepText_view {x y : Int × List Tx} (h0 : 0 ≤ x.1) (h : stepText x = stepText y) : x.1 = y.1 := by
 have h1 := congrArg (cutL 124) h
 unfold stepText at h1
 rw [cutL_at (itoa_no x.1 124 (by decide) (by decide)), cutL_at (itoa_no y.1 124 (by decide) (by decide))] at h1
 exact itoa_inj h0 (Prod.mk.inj (Option.some.inj h1)).1
theorem view_last {s : List UInt8} {l : List (Int × List Tx)} (h : stepsS s = some l) : viewV s = lastV 0 l ∧ heightV s = (l.length : Int) ∧ nameOk s = true := by
 refine ⟨?_, by unfold heightV; rw [h], by unfold nameOk; rw [h]; rfl⟩
 unfold viewV
 rw [h]
 simp only
 by_cases c : l.length = 0
 ·rw [if_pos c, List.length_eq_zero_iff.1 c]; rfl
 ·have hn : l ≠ [] := fun e => c (by rw [e]; rfl)
  rw [if_neg c, last_at l hn]
  unfold lastV
  rw [List.getLast?_eq_some_getLast hn]
  rfl
theorem last_at_slash (a q : List UInt8) (hq : (47 : UInt8) ∉ q) : Lib.lastIndexByte (B (a ++ 47 :: q)) 47 = (a.length : Int) := by
 have hat : ((B (a ++ 47 :: q)).data[a.length]!).toNat = 47 := by simp
 rcases Lib.lastIndexByte_spec (B (a ++ 47 :: q)) 47 with ⟨_, hn⟩ | ⟨i, hi, e, hc, hn⟩
 ·exact absurd (by rw [hat]; rfl) (hn a.length (by rw [B_size]; simp))
 ·rw [B_size, List.length_append, List.length_cons] at hi
  rcases Nat.lt_trichotomy i a.length with h | h | h
  ·exact absurd (by rw [hat]; rfl) (hn a.length h (by rw [B_size]; simp))
  ·rw [e, h]
  ·exfalso
   obtain ⟨j, rfl⟩ : ∃ j, i = a.length + 1 + j := ⟨i - a.length - 1, by omega⟩
   have hj : j < q.length := by omega
   have h1 : (B (a ++ 47 :: q)).data[a.length + 1 + j]! = q[j] := by
    rw [getElem!_pos _ _ (by simp; omega)]
    simp only [List.getElem_toArray]
    rw [List.getElem_append_right (by omega)]
    simp [show a.length + 1 + j - a.length = j + 1 from by omega]
   rw [h1] at hc
   have h3 : q[j] = 47 := UInt8.toNat_inj.1 (by have : (47 : UInt8).toNat = 47 := rfl; omega)
   exact hq (h3 ▸ List.getElem_mem _)
theorem up_at_slash {a q : List UInt8} (hq : (47 : UInt8) ∉ q) (h : nameOk (a ++ 47 :: q) = true) : upV (a ++ 47 :: q) = a := by
 unfold upV
 rw [if_pos h, last_at_slash a q hq, Int.toNat_natCast, List.take_left]
theorem prefix_iff (s t : List UInt8) : Lib.hasPrefix s t = true ↔ t <+: s := List.isPrefixOf_iff_prefix
theorem ext_slash {a r : List UInt8} (h : nameOk (a ++ 47 :: r) = true) (ha : nameOk a = true) : extV (a ++ 47 :: r) a = true := by
 unfold extV
 rw [if_pos h, if_pos ha, if_pos ((prefix_iff _ _).2 (List.prefix_append _ _)), if_neg (by simp), bt_mid]
 rfl
theorem ext_refl {s : List UInt8} (h : nameOk s = true) : extV s s = true := by
 unfold extV
 rw [if_pos h, if_pos h, if_pos ((prefix_iff _ _).2 (List.prefix_refl _)), if_pos rfl]
theorem ext_parts {a b : List UInt8} (h : extV a b = true) : nameOk a = true ∧ nameOk b = true ∧ (a = b ∨ ∃ r, a = b ++ 47 :: r) := by
 unfold extV at h
 split at h
 ·rename_i h1
  split at h
  ·rename_i h2
   refine ⟨h1, h2, ?_⟩
   split at h
   ·rename_i h3
    obtain ⟨t, rfl⟩ := (prefix_iff _ _).1 h3
    cases t with
    | nil => exact .inl (by simp)
    | cons c r =>
     rw [if_neg (by simp), bt_mid] at h
     have h4 : c = 47 := UInt8.toNat_inj.1 (by have h5 := eq_of_beq h; have : (47 : UInt8).toNat = 47 := rfl; omega)
     exact .inr ⟨r, by rw [h4]⟩
   ·cases h
  ·cases h
 ·cases h
theorem split_app (r : List UInt8) : ∀ b : List UInt8, splitL 47 (b ++ 47 :: r) = splitL 47 b ++ splitL 47 r
 | [] => by simp [splitL]
 | c :: b => by
  have ih := split_app r b
  rw [List.cons_append, splitL, ih]
  conv => rhs; rw [splitL]
  by_cases h : c = 47
  ·rw [if_pos h, if_pos h]; rfl
  ·rw [if_neg h, if_neg h]
   cases hs : splitL 47 b with
   | nil => exact absurd hs (splitL_ne 47 b)
   | cons x t => rfl
theorem some_of {s : List UInt8} (h : nameOk s = true) : ∃ l, stepsS s = some l := Option.isSome_iff_exists.1 h
theorem ext_order {a b : List UInt8} (h : extV a b = true) : heightV b ≤ heightV a ∧ viewV b ≤ viewV a := by
 obtain ⟨h1, h2, h3⟩ := ext_parts h
 rcases h3 with rfl | ⟨r, rfl⟩
 ·exact ⟨Int.le_refl _, Int.le_refl _⟩
 obtain ⟨la, ha⟩ := some_of h1
 obtain ⟨lb, hb⟩ := some_of h2
 have va := view_last ha
 have vb := view_last hb
 obtain ⟨pa, ea, na, _, sa⟩ := steps_parts ha
 obtain ⟨pb, eb, nb, _, sb⟩ := steps_parts hb
 have e1 := congrArg (splitL 47) ea
 rw [split_app, eb, split_txt pb nb, split_txt pa na, List.cons_append] at e1
 have e2 : pa = pb ++ splitL 47 r := (List.cons.inj e1).2.symm
 rw [e2, stepsL_app, sb, Option.bind_some] at sa
 obtain ⟨m, hm, e3⟩ := Option.map_eq_some_iff.1 sa
 have g := stepsL_ge hm
 rw [va.1, va.2.1, vb.1, vb.2.1, ← e3, lastV_app, List.length_append]
 exact ⟨by omega, g⟩
/-- What NameOf makes tells what it was made of. -/
theorem made {up : List UInt8} {view : Int} {l : List Tx} (hok : okTs l) (h : nameOk (nameT up view l) = true) : upV (nameT up view l) = up ∧ viewV (nameT up view l) = view ∧ heightV (nameT up view l) = heightV up + 1 ∧ extV (nameT up view l) up = true := by
 have hq := slash_not (view, l)
 have en : nameT up view l = up ++ 47 :: stepText (view, l) := rfl
 obtain ⟨ls, hs⟩ := some_of h
 have v := view_last hs
 obtain ⟨e, hl, hst, hx⟩ := chain hs
 have hne : ls ≠ [] := fun z => by
  rw [z, en] at e
  have := congrArg List.length e
  simp [txt] at this
 obtain ⟨init, x, rfl⟩ : ∃ i y, ls = i ++ [y] := by simpa using (List.eq_nil_or_concat ls).resolve_left hne
 rw [en, List.map_append, txt_app, List.map_singleton, txt_one] at e
 obtain ⟨e1, e2⟩ := last_slash hq (slash_not x) e
 have hx0 := (hx x (by simp)).2.1
 have e3 := stepText_view hx0 e2.symm
 rw [List.length_append, List.length_singleton] at hl
 have hup : stepsS up = some init := by rw [e1]; exact chain_front hst (by omega)
 have vu := view_last hup
 refine ⟨?_, ?_, ?_, ?_⟩
 ·rw [en] at h ⊢
  exact up_at_slash hq h
 ·rw [v.1, lastV_app, lastV_cons]
  exact e3
 ·rw [v.2.1, vu.2.1, List.length_append, List.length_singleton]; omega
 ·rw [en] at h ⊢
  exact ext_slash h vu.2.2
theorem ext_up {s : List UInt8} (h : nameOk s = true) : extV s (upV s) = true := by
 obtain ⟨l, hs⟩ := some_of h
 obtain ⟨e, hl, hst, hx⟩ := chain hs
 by_cases hne : l = []
 ·subst hne
  have e0 : s = [] := e
  subst e0
  unfold upV
  rw [List.take_nil, if_pos h]
  exact ext_refl h
 obtain ⟨init, x, rfl⟩ : ∃ i y, l = i ++ [y] := by simpa using (List.eq_nil_or_concat l).resolve_left hne
 rw [List.length_append, List.length_singleton] at hl
 have hup := chain_front hst (by omega)
 rw [List.map_append, txt_app, List.map_singleton, txt_one] at e
 subst e
 rw [up_at_slash (slash_not x) h]
 exact ext_slash h (view_last hup).2.2
theorem meet_comm (s t : List UInt8) : meetV s t = meetV t s := by
 unfold meetV
 cases extV s t <;> cases extV t s <;> rfl
theorem wrap_fits (x : Int) : -9223372036854775808 ≤ wrap64 x ∧ wrap64 x ≤ 9223372036854775807 := by
 unfold wrap64; omega
theorem upV_len (s : List UInt8) : (upV s).length ≤ s.length := by
 unfold upV
 split
 ·rw [List.length_take]; omega
 ·simp
theorem l5DrawTwo_ev (l : List Int) (hl : l.length ≤ 1048576) : ∃ s t : List UInt8, s.length ≤ 5000 ∧ t.length ≤ 5000 ∧ Ev (fun k => spec_l5DrawTwo.f k l) (B s, B t) := by
 obtain ⟨x, hx⟩ := l1New_ev l hl
 obtain ⟨r, hr, s, e, hs, hc⟩ := l5Draw_ev l hl 0 x (by unfold Cur; omega)
 obtain ⟨rs, ri, rh⟩ := r
 simp only at e hc
 subst e
 obtain ⟨r2, hr2, t, e2, ht, hc2⟩ := l5Draw_ev l hl ri rh hc
 obtain ⟨rt, ri2, rh2⟩ := r2
 simp only at e2 hc2
 subst e2
 obtain ⟨v, i3, h3, ev, _, _, _⟩ := l1Below_some l ri2 rh2 3 hl hc2 (by omega) (by omega)
 have hu := upV_len s
 have w := wrap_fits (viewV t + 1)
 have hn := nameV_len t (wrap64 (viewV t + 1)) [] w.1 w.2 (by simp)
 have fin : ∀ p, Ev (fun k => (if v = 0 then ((spec_UpOf.f k (B s)).bind fun u => (some (B s, u))) else (if v = 1 then ((spec_ViewOf.f k (B t)).bind fun y => ((spec_NameOf.f k (B t) (wrap64 (y + 1)) ([] : List S60)).bind fun z => (some (z, B t)))) else (some (B s, B t))))) p → Ev (fun k => spec_l5DrawTwo.f k l) p := fun p hp => by
  unfold spec_l5DrawTwo.f
  refine Ev.bind hx (Ev.bind hr (Ev.bind hr2 ?_))
  simp only
  rw [ev]
  exact hp
 by_cases d0 : v = 0
 ·exact ⟨s, upV s, by omega, by omega, fin _ (ev_pos d0 (Ev.bind (spec_UpOf_ev s (by omega)) (ev_some rfl)))⟩
 by_cases d1 : v = 1
 ·exact ⟨nameV t (wrap64 (viewV t + 1)) [], t, by omega, by omega, fin _ (ev_neg d0 (ev_pos d1 (Ev.bind (spec_ViewOf_ev t (by omega)) (Ev.bind (spec_NameOf_ev t _ [] (by omega) w.1 w.2 (by simp)) (ev_some rfl)))))⟩
 ·exact ⟨s, t, by omega, by omega, fin _ (ev_neg d0 (ev_neg d1 (ev_some rfl)))⟩

theorem DrawExtends_ev (l : List Int) (hl : l.length ≤ 1048576) : ∃ s t : List UInt8, s.length ≤ 5000 ∧ t.length ≤ 5000 ∧ Ev (fun k => spec_DrawExtends.f k l) (B s, B t) := by
 obtain ⟨s, t, hs, ht, h⟩ := l5DrawTwo_ev l hl
 refine ⟨s, t, hs, ht, ?_⟩
 unfold spec_DrawExtends.f
 exact Ev.bind h (ev_some rfl)

theorem DrawMeets_ev (l : List Int) (hl : l.length ≤ 1048576) : ∃ s t : List UInt8, s.length ≤ 5000 ∧ t.length ≤ 5000 ∧ Ev (fun k => spec_DrawMeets.f k l) (B s, B t) := by
 obtain ⟨s, t, hs, ht, h⟩ := l5DrawTwo_ev l hl
 refine ⟨t, s, ht, hs, ?_⟩
 unfold spec_DrawMeets.f
 exact Ev.bind h (ev_some rfl)

theorem l2Draw_some (l : List Int) (i h : Int) (hl : l.length ≤ 1048576) (hi : Cur i) : ∃ f t a m i' h', spec_l2Draw.f l i h = some (f, t, a, m, i', h') ∧ (-1 ≤ f ∧ f ≤ 4) ∧ (-1 ≤ t ∧ t ≤ 4) ∧ (-1 ≤ a ∧ a ≤ 1001) ∧ (-1 ≤ m ∧ m ≤ 100) ∧ Cur i' := by
 obtain ⟨f, t, a, m, i1, h1, e1, hf, ht, ha, hm, c1⟩ := l2DrawRight_some l i h hl hi
 obtain ⟨v, i2, h2, e2, v0, v1, c2⟩ := l1Below_some l i1 h1 12 hl c1 (by omega) (by omega)
 obtain ⟨x, i3, h3, e3, hx, c3⟩ := l1PickInt_some l i2 h2 [-1, 4] hl c2 (by decide) (by decide)
 obtain ⟨y, i4, h4, e4, hy, c4⟩ := l1PickInt_some l i2 h2 [-1, 1001] hl c2 (by decide) (by decide)
 obtain ⟨z, i5, h5, e5, hz, c5⟩ := l1PickInt_some l i2 h2 [-1, 99, 100] hl c2 (by decide) (by decide)
 simp only [List.mem_cons, List.not_mem_nil, or_false] at hx hy hz
 unfold spec_l2Draw.f
 rw [e1, Option.bind_some]
 simp only
 rw [e2, Option.bind_some]
 simp only
 by_cases d0 : v = 0
 ·rw [if_pos d0, e3, Option.bind_some]; exact ⟨_, _, _, _, _, _, rfl, by omega, by omega, by omega, by omega, c3⟩
 rw [if_neg d0]
 by_cases d1 : v = 1
 ·rw [if_pos d1, e3, Option.bind_some]; exact ⟨_, _, _, _, _, _, rfl, by omega, by omega, by omega, by omega, c3⟩
 rw [if_neg d1]
 by_cases d2 : v = 2
 ·rw [if_pos d2, e4, Option.bind_some]; exact ⟨_, _, _, _, _, _, rfl, by omega, by omega, by omega, by omega, c4⟩
 rw [if_neg d2]
 by_cases d3 : v = 3
 ·rw [if_pos d3, e5, Option.bind_some]; exact ⟨_, _, _, _, _, _, rfl, by omega, by omega, by omega, by omega, c5⟩
 rw [if_neg d3]
 exact ⟨_, _, _, _, _, _, rfl, by omega, by omega, by omega, by omega, c2⟩

theorem l2DrawList_loop (l : List Int) (hl : l.length ≤ 1048576) : ∀ (d j : Nat) (i hh : Int) (p : List S60), 5 - j = d → j ≤ 5 → Cur i → p.length ≤ j → ∃ q i' hh', Ev (fun k => spec_l2DrawList.l0 k p (j : Int) l i hh) (q, i', hh') ∧ Cur i' ∧ q.length ≤ 5 := by
 intro d
 induction d with
 | zero =>
  intro j i hh p hd hj hi hp
  obtain ⟨v, i1, h1, ev, v0, v1, c1⟩ := l1Below_some l i hh 5 hl hi (by omega) (by omega)
  exact ⟨p, i1, h1, Ev.step (f := fun _ => some (p, i1, h1)) (fun k => by simp only [spec_l2DrawList.l0]; rw [ev, Option.bind_some, if_neg (by omega)]) (ev_some rfl), c1, by omega⟩
 | succ d ih =>
  intro j i hh p hd hj hi hp
  obtain ⟨v, i1, h1, ev, v0, v1, c1⟩ := l1Below_some l i hh 5 hl hi (by omega) (by omega)
  by_cases c : (j : Int) < v
  ·obtain ⟨f, t, a, m, i2, h2, ed, _, _, _, _, c2⟩ := l2Draw_some l i1 h1 hl c1
   obtain ⟨q, i', hh', hev, r1, r2⟩ := ih (j + 1) i2 h2 (p ++ [⟨f, t, a, m⟩]) (by omega) (by omega) c2 (by simp; omega)
   refine ⟨q, i', hh', Ev.step (f := fun k => spec_l2DrawList.l0 k (p ++ [⟨f, t, a, m⟩]) ((j + 1 : Nat) : Int) l i2 h2) (fun k => by
    simp only [spec_l2DrawList.l0]
    rw [ev, Option.bind_some, if_pos c]
    simp only
    rw [ed, Option.bind_some, if_pos (by omega), up1 j (by omega)]) hev, r1, r2⟩
  ·exact ⟨p, i1, h1, Ev.step (f := fun _ => some (p, i1, h1)) (fun k => by simp only [spec_l2DrawList.l0]; rw [ev, Option.bind_some, if_neg c]) (ev_some rfl), c1, by omega⟩
theorem l2DrawList_ev (l : List Int) (hl : l.length ≤ 1048576) (i hh : Int) (hi : Cur i) : ∃ q i' hh', Ev (fun k => spec_l2DrawList.f k l i hh) (q, i', hh') ∧ Cur i' ∧ q.length ≤ 5 := by
 unfold spec_l2DrawList.f
 exact l2DrawList_loop l hl 5 0 i hh [] (by omega) (by omega) hi (by simp)

theorem DrawNameOf_ev (l : List Int) (hl : l.length ≤ 1048576) : ∃ (s : List UInt8) (v : Int) (q : List S60), s.length ≤ 5000 ∧ -9223372036854775808 ≤ v ∧ v ≤ 9223372036854775807 ∧ q.length ≤ 5 ∧ Ev (fun k => spec_DrawNameOf.f k l) (B s, v, q) := by
 obtain ⟨x, hx⟩ := l1New_ev l hl
 obtain ⟨r, hr, s, e, hs, hc⟩ := l5Draw_ev l hl 0 x (by unfold Cur; omega)
 obtain ⟨rs, ri, rh⟩ := r
 simp only at e hc
 subst e
 obtain ⟨v, i3, h3, ev, hv, c3⟩ := l1PickInt_some l ri rh [wrap64 (viewV s + 1), viewV s, 30, 60, 61, 0, (-1)] hl hc (by simp) (by simp)
 obtain ⟨q, i4, h4, eq, c4, hq⟩ := l2DrawList_ev l hl i3 h3 c3
 obtain ⟨b, i5, h5, eb, c5⟩ := l1Once_some l i4 h4 3 hl c4 (by omega) (by omega)
 have w := wrap_fits (viewV s + 1)
 have hh := height_view s
 have hb : -9223372036854775808 ≤ v ∧ v ≤ 9223372036854775807 := by
  have hg : -1 ≤ heightV s := by unfold heightV; split <;> omega
  simp only [List.mem_cons, List.not_mem_nil, or_false] at hv
  rcases hv with h | h | h | h | h | h | h <;> rw [h] <;> omega
 have fin : ∀ p, Ev (fun k => (if (q.length : Int) > 2 then ((spec_l1Once.f l i4 h4 3).bind fun z => (if z.1 = true then (some (B s, v, q)) else (if 2 ≤ (q.length : Int) then (some (B s, v, (q.take (2 : Int).toNat))) else (none)))) else (some (B s, v, q)))) p → Ev (fun k => spec_DrawNameOf.f k l) p := fun p hp => by
  unfold spec_DrawNameOf.f
  refine Ev.bind hx (Ev.bind hr (Ev.bind (spec_ViewOf_ev s (by omega)) (Ev.bind (spec_ViewOf_ev s (by omega)) ?_)))
  simp only
  rw [ev]
  simp only [Option.bind_some]
  refine Ev.bind eq ?_
  exact hp
 by_cases d0 : (q.length : Int) > 2
 ·by_cases d1 : b = true
  ·refine ⟨s, v, q, by omega, hb.1, hb.2, hq, fin _ (ev_pos d0 ?_)⟩
   rw [eb]
   exact ev_pos d1 (ev_some rfl)
  ·refine ⟨s, v, q.take (2 : Int).toNat, by omega, hb.1, hb.2, by rw [List.length_take]; omega, fin _ (ev_pos d0 ?_)⟩
   rw [eb]
   exact ev_neg d1 (ev_pos (by omega) (ev_some rfl))
 ·exact ⟨s, v, q, by omega, hb.1, hb.2, hq, fin _ (ev_neg d0 (ev_some rfl))⟩

theorem impl_NameOk_ev (s : List UInt8) (hl : s.length ≤ 536870912) : Ev (fun k => impl_NameOk.f k (B s)) (nameOk s) := by
 unfold impl_NameOk.f
 refine Ev.bind (impl_Steps_ev s hl) (ev_some ?_)
 exact stepsRes_ok _

theorem impl_TxsText_loop (l : List S60) (hl : l.length ≤ 1048576) : ∀ (d n : Nat), l.length - n = d → n ≤ l.length → okTs ((l.map tq).take n) → Ev (fun k => impl_TxsText.l0 k (((l.map tq).take n).map fun x => B (rawT x)) l (l.length : Int) (n : Int)) (B (textTs (l.map tq))) := by
 intro d
 induction d with
 | zero =>
  intro n hd hn hok
  obtain rfl : n = l.length := by omega
  rw [List.take_of_length_le (by simp)] at hok ⊢
  have hlen := join_len _ hok
  have e : textTs (l.map tq) = joinL 44 ((l.map tq).map rawT) := by unfold textTs; rw [if_pos hok]
  have e2 : (((l.map tq).map fun x => B (rawT x)).map (·.data.toList)) = (l.map tq).map rawT := by
   rw [List.map_map]
   exact List.map_congr_left (fun x _ => B_list _)
  rw [e]
  refine Ev.step (f := fun _ => some (B (joinL 44 ((l.map tq).map rawT)))) (fun k => ?_) (Ev.now _)
  simp only [impl_TxsText.l0]
  rw [if_neg (by omega)]
  unfold strings_Join.f
  rw [e2, show (⟨#[44]⟩ : ByteArray).data.toList = [44] from rfl, libjoin, if_pos ⟨by simp only [List.length_map]; omega, by simp only [List.length_map] at hlen; omega⟩]
  rfl
 | succ d ih =>
  intro n hd hn hok
  have h1 : n < l.length := by omega
  have htl : ((l.map tq).take n).length = n := by rw [List.length_take]; simp; omega
  by_cases c : okT (tq l[n])
  ·have hok' := okTs_snoc hok c
   have ht : textT (l[n].f0, l[n].f1, l[n].f2, l[n].f3) = rawT (tq l[n]) := by
    unfold textT
    rw [if_pos (show okT (l[n].f0, l[n].f1, l[n].f2, l[n].f3) from c)]; rfl
   rw [← take_map_succ l n h1] at hok'
   have ih' := ih (n + 1) (by omega) (by omega) hok'
   rw [take_map_succ l n h1, List.map_append, List.map_singleton] at ih'
   refine Ev.step (f := fun k => impl_TxsText.l0 k ((((l.map tq).take n).map fun x => B (rawT x)) ++ [B (rawT (tq l[n]))]) l (l.length : Int) ((n + 1 : Nat) : Int)) (fun k => ?_) ih'
   simp only [impl_TxsText.l0]
   rw [if_pos (by omega), if_pos (by omega), if_pos (by omega), rdT_nat l n h1, impl_TxOk_val, Option.bind_some, if_pos (decide_eq_true (show txIs l[n].f0 l[n].f1 l[n].f2 l[n].f3 from c)), impl_TxText_val, Option.bind_some, ht, if_pos (by rw [List.length_map, htl]; omega), up1 n (by omega)]
  ·rw [not_okTs l n h1 c]
   refine Ev.step (f := fun _ => some (B [])) (fun k => ?_) (Ev.now _)
   simp only [impl_TxsText.l0]
   rw [if_pos (by omega), if_pos (by omega), if_pos (by omega), rdT_nat l n h1, impl_TxOk_val, Option.bind_some, if_neg (by simpa using (show ¬ txIs l[n].f0 l[n].f1 l[n].f2 l[n].f3 from c))]
theorem impl_TxsText_ev (l : List S60) (hl : l.length ≤ 1048576) : Ev (fun k => impl_TxsText.f k l) (B (textTs (l.map tq))) := by
 unfold impl_TxsText.f
 exact impl_TxsText_loop l hl l.length 0 (by omega) (by omega) (by intro x hx; simp at hx)

theorem impl_NameOf_loop (up : List UInt8) (view : Int) (l : List S60) (hu : up.length ≤ 1048576) (v0 : -9223372036854775808 ≤ view) (v1 : view ≤ 9223372036854775807) (hl : l.length ≤ 1048576) : ∀ (d n : Nat), l.length - n = d → n ≤ l.length → okTs ((l.map tq).take n) → Ev (fun k => impl_NameOf.l0 k (B up) view l l (l.length : Int) (n : Int)) (B (nameV up view (l.map tq))) := by
 intro d
 induction d with
 | zero =>
  intro n hd hn hok
  obtain rfl : n = l.length := by omega
  rw [List.take_of_length_le (by simp)] at hok
  have hlen := textTs_len _ hok
  rw [List.length_map] at hlen
  have hi := itoa_len64 view v0 v1
  have z1 : (⟨#[47]⟩ : ByteArray).size = 1 := rfl
  have z2 : (⟨#[124]⟩ : ByteArray).size = 1 := rfl
  have s1 := B_size up
  have s2 := B_size (Lib.itoa view)
  have s3 := B_size (textTs (l.map tq))
  refine Ev.step (f := fun k => (impl_Digits.f view).bind fun d => (if (B up ++ (⟨#[47]⟩ : ByteArray)).size + d.size ≤ 9223372036854775807 then (if ((B up ++ (⟨#[47]⟩ : ByteArray)) ++ d).size + 1 ≤ 9223372036854775807 then ((impl_TxsText.f k l).bind fun t => (if (((B up ++ (⟨#[47]⟩ : ByteArray)) ++ d) ++ (⟨#[124]⟩ : ByteArray)).size + t.size ≤ 9223372036854775807 then (if (l.length : Int) > 2 then (some (⟨#[]⟩ : ByteArray)) else (impl_NameOk.f k ((((B up ++ (⟨#[47]⟩ : ByteArray)) ++ d) ++ (⟨#[124]⟩ : ByteArray)) ++ t)).bind fun b => (if b = true then (some ((((B up ++ (⟨#[47]⟩ : ByteArray)) ++ d) ++ (⟨#[124]⟩ : ByteArray)) ++ t)) else (some (⟨#[]⟩ : ByteArray)))) else (none))) else (none)) else (none))) (fun k => ?_) ?_
  ·simp only [impl_NameOf.l0]
   rw [if_neg (by omega), if_pos (by omega)]
  ·refine ev_const (impl_Digits_val view v0 v1) (ev_pos (by rw [ByteArray.size_append]; omega) (ev_pos (by rw [ByteArray.size_append, ByteArray.size_append]; omega) ?_))
   refine Ev.bind (impl_TxsText_ev l hl) (ev_pos (by rw [ByteArray.size_append, ByteArray.size_append, ByteArray.size_append]; omega) ?_)
   rw [nameB]
   by_cases c2 : (l.length : Int) > 2
   ·refine ev_pos c2 (ev_some ?_)
    unfold nameV
    rw [if_pos hok, if_neg (by rw [name_long up view _ hok (by rw [List.length_map]; omega)]; decide)]
   refine ev_neg c2 ?_
   refine Ev.bind (impl_NameOk_ev _ (by simp only [List.length_append, List.length_cons]; omega)) ?_
   unfold nameV nameT
   by_cases c : nameOk (up ++ 47 :: (Lib.itoa view ++ 124 :: textTs (l.map tq))) = true
   ·exact ev_pos c (ev_some (by rw [if_pos hok, if_pos c]))
   ·exact ev_neg c (ev_some (by rw [if_pos hok, if_neg c]))
 | succ d ih =>
  intro n hd hn hok
  have h1 : n < l.length := by omega
  by_cases c : okT (tq l[n])
  ·have hok' := okTs_snoc hok c
   rw [← take_map_succ l n h1] at hok'
   have ih' := ih (n + 1) (by omega) (by omega) hok'
   refine Ev.step (f := fun k => impl_NameOf.l0 k (B up) view l l (l.length : Int) ((n + 1 : Nat) : Int)) (fun k => ?_) ih'
   simp only [impl_NameOf.l0]
   rw [if_pos (by omega), if_pos (by omega), if_pos (by omega), rdT_nat l n h1, impl_TxOk_val, Option.bind_some, if_pos (decide_eq_true (show txIs l[n].f0 l[n].f1 l[n].f2 l[n].f3 from c)), up1 n (by omega)]
  ·rw [nameV_not up view l n h1 c]
   refine Ev.step (f := fun _ => some (B [])) (fun k => ?_) (Ev.now _)
   simp only [impl_NameOf.l0]
   rw [if_pos (by omega), if_pos (by omega), if_pos (by omega), rdT_nat l n h1, impl_TxOk_val, Option.bind_some, if_neg (by simpa using (show ¬ txIs l[n].f0 l[n].f1 l[n].f2 l[n].f3 from c))]
theorem impl_NameOf_ev (up : List UInt8) (view : Int) (l : List S60) (hu : up.length ≤ 1048576) (v0 : -9223372036854775808 ≤ view) (v1 : view ≤ 9223372036854775807) (hl : l.length ≤ 1048576) : Ev (fun k => impl_NameOf.f k (B up) view l) (B (nameV up view (l.map tq))) := by
 unfold impl_NameOf.f
 exact impl_NameOf_loop up view l hu v0 v1 hl l.length 0 (by omega) (by omega) (by intro x hx; simp at hx)

theorem strings_HasPrefix_val (s t : List UInt8) : strings_HasPrefix.f (B s) (B t) = some (Lib.hasPrefix s t) := by
 unfold strings_HasPrefix.f
 rw [B_list, B_list]
theorem prefix_len {s t : List UInt8} (h : Lib.hasPrefix s t = true) : t.length ≤ s.length := by
 rw [← prefix_B] at h
 rw [Bool.and_eq_true] at h
 exact of_decide_eq_true h.1

theorem impl_Extends_ev (s t : List UInt8) (hl : s.length ≤ 536870912) (ht : t.length ≤ 536870912) : Ev (fun k => impl_Extends.f k (B s) (B t)) (extV s t) := by
 unfold impl_Extends.f extV
 refine Ev.bind (impl_NameOk_ev s hl) ?_
 by_cases c1 : nameOk s = true
 ·rw [if_pos c1]
  refine ev_pos c1 (Ev.bind (impl_NameOk_ev t ht) ?_)
  by_cases c2 : nameOk t = true
  ·refine ev_pos c2 (ev_const (strings_HasPrefix_val s t) ?_)
   rw [if_pos c2]
   rw [B_size, B_size]
   by_cases c3 : Lib.hasPrefix s t = true
   ·have := prefix_len c3
    refine ev_pos c3 ?_
    rw [if_pos c3]
    by_cases c5 : s.length = t.length
    ·exact ev_pos (by omega) (ev_some (by rw [if_pos c5]))
    ·exact ev_neg (by omega) (ev_pos (by omega) (ev_pos (by omega) (ev_some (by rw [if_neg c5]))))
   ·exact ev_neg c3 (ev_some (by rw [if_neg c3]))
  ·exact ev_neg c2 (ev_some (by rw [if_neg c2]))
 ·exact ev_neg c1 (ev_some (by rw [if_neg c1]))

theorem spec_Extends_ev (s t : List UInt8) (hl : s.length ≤ 536870912) (ht : t.length ≤ 536870912) : Ev (fun k => spec_Extends.f k (B s) (B t)) (extV s t) := by
 unfold spec_Extends.f extV
 refine Ev.bind (spec_NameOk_ev s hl) ?_
 by_cases c1 : nameOk s = true
 ·rw [if_pos c1]
  refine ev_pos c1 (Ev.bind (spec_NameOk_ev t ht) ?_)
  by_cases c2 : nameOk t = true
  ·refine ev_pos c2 ?_
   rw [if_pos c2]
   have hp := prefix_B s t
   rw [B_size, B_size]
   by_cases c3 : t.length ≤ s.length
   ·refine ev_neg (by omega) (ev_pos (by omega) (ev_pos (by omega) ?_))
    rw [Int.toNat_natCast]
    rw [decide_eq_true c3, Bool.true_and] at hp
    by_cases c4 : ((B s).extract 0 t.length).toList = (B t).toList
    ·refine ev_pos c4 ?_
     rw [← hp, if_pos (beq_iff_eq.2 c4)]
     by_cases c5 : s.length = t.length
     ·exact ev_pos (by omega) (ev_some (by rw [if_pos c5]))
     ·exact ev_neg (by omega) (ev_pos (by omega) (ev_some (by rw [if_neg c5])))
    ·exact ev_neg c4 (ev_some (by rw [← hp, if_neg (by simpa using c4)]))
   ·rw [decide_eq_false c3, Bool.false_and] at hp
    exact ev_pos (by omega) (ev_some (by rw [← hp, if_neg (by decide)]))
  ·exact ev_neg c2 (ev_some (by rw [if_neg c2]))
 ·exact ev_neg c1 (ev_some (by rw [if_neg c1]))

theorem impl_Meets_ev (s t : List UInt8) (hl : s.length ≤ 536870912) (ht : t.length ≤ 536870912) : Ev (fun k => impl_Meets.f k (B s) (B t)) (meetV s t) := by
 unfold impl_Meets.f meetV
 refine Ev.bind (impl_Extends_ev s t hl ht) ?_
 by_cases c1 : extV s t = true
 ·exact ev_pos c1 (ev_some (by rw [if_pos c1]))
 ·rw [if_neg c1]; exact ev_neg c1 (Ev.bind (impl_Extends_ev t s ht hl) (ev_some rfl))

theorem spec_Meets_ev (s t : List UInt8) (hl : s.length ≤ 536870912) (ht : t.length ≤ 536870912) : Ev (fun k => spec_Meets.f k (B s) (B t)) (meetV s t) := by
 unfold spec_Meets.f meetV
 refine Ev.bind (spec_Extends_ev s t hl ht) ?_
 by_cases c1 : extV s t = true
 ·exact ev_pos c1 (ev_some (by rw [if_pos c1]))
 ·rw [if_neg c1]; exact ev_neg c1 (Ev.bind (spec_Extends_ev t s ht hl) (ev_some rfl))

theorem impl_Height_ev (s : List UInt8) (hl : s.length ≤ 536870912) : Ev (fun k => impl_Height.f k (B s)) (heightV s) := by
 unfold impl_Height.f heightV
 refine Ev.bind (impl_Steps_ev s hl) ?_
 cases stepsS s with
 | none => exact ev_neg (by simp [stepsRes]) (ev_some rfl)
 | some l => exact ev_pos rfl (ev_some (by simp [stepsRes]))

theorem spec_Height_ev (s : List UInt8) (hl : s.length ≤ 536870912) : Ev (fun k => spec_Height.f k (B s)) (heightV s) := by
 unfold spec_Height.f heightV
 refine Ev.bind (spec_Steps_ev s hl) ?_
 cases stepsS s with
 | none => exact ev_neg (by simp [stepsRes]) (ev_some rfl)
 | some l => exact ev_pos rfl (ev_some (by simp [stepsRes]))

theorem strings_LastIndexByte_val (s : List UInt8) (c : Int) (h : s.length < 4611686018427387904) : strings_LastIndexByte.f (B s) c = some (Lib.lastIndexByte (B s) c) := by
 unfold strings_LastIndexByte.f
 rw [if_pos (by rw [B_size]; exact h)]

theorem impl_UpOf_ev (s : List UInt8) (hl : s.length ≤ 536870912) : Ev (fun k => impl_UpOf.f k (B s)) (B (upV s)) := by
 unfold impl_UpOf.f upV
 refine Ev.bind (impl_NameOk_ev s hl) ?_
 by_cases c1 : nameOk s = true
 ·refine ev_pos c1 ?_
  rw [if_pos c1]
  by_cases c2 : s = []
  ·refine ev_pos (by rw [B_toList]; exact c2) (ev_some ?_)
   subst c2; rw [List.take_nil]
  ·have h := name_last c1 c2
   refine ev_neg (by rw [B_toList]; exact c2) (ev_const (strings_LastIndexByte_val s 47 (by omega)) ?_)
   refine ev_pos h.1 (ev_pos (by rw [B_size]; omega) (ev_some ?_))
   rw [take_B]
 ·exact ev_neg c1 (ev_some (by rw [if_neg c1]))

theorem impl_ViewOf_ev (s : List UInt8) (hl : s.length ≤ 536870912) : Ev (fun k => impl_ViewOf.f k (B s)) (viewV s) := by
 unfold impl_ViewOf.f viewV
 refine Ev.bind (impl_Steps_ev s hl) ?_
 cases hs : stepsS s with
 | none => exact ev_pos rfl (ev_some rfl)
 | some l =>
  have hl := (stepsS_some hs).1
  by_cases c : l.length = 0
  ·simp only [if_pos c]
   exact ev_pos (by simp [stepsRes, c]) (ev_some rfl)
  ·have hw : wrap64 (((l.map fromS).length : Int) - 1) = (l.length : Int) - 1 := by rw [List.length_map, dn1 _ (by omega) (by omega)]
   simp only [stepsRes, List.nil_append, hw, if_neg c]
   exact ev_neg (by rw [List.length_map]; omega) (ev_pos (by omega) (ev_pos (by rw [List.length_map]; omega) (ev_some rfl)))

def flat (xs : List S41) : List S60 := (xs.map (·.f1)).flatten
def txsinV (s : List UInt8) : List S60 := flat (stepsRes [] (stepsS s)).1
theorem rdST_at (pre suf : List S41) (x : S41) : rd_T41 (pre ++ x :: suf) (pre.length : Int) = x := by
 unfold rd_T41
 rw [Int.toNat_natCast, List.getD_eq_getElem?_getD]
 simp
theorem stepsRes_small (s : List UInt8) : (stepsRes [] (stepsS s)).1.length ≤ 30 ∧ ∀ x ∈ (stepsRes [] (stepsS s)).1, x.f1.length ≤ 2 := by
 cases h : stepsS s with
 | none => simp [stepsRes]
 | some l =>
  have h1 := stepsS_some h
  simp only [stepsRes, List.nil_append, List.length_map]
  refine ⟨h1.1, fun x hx => ?_⟩
  obtain ⟨y, hy, rfl⟩ := List.mem_map.1 hx
  simpa [fromS] using (h1.2 y hy).2
theorem flat_len : ∀ (xs : List S41), (∀ x ∈ xs, x.f1.length ≤ 2) → (flat xs).length ≤ 2 * xs.length
 | [], _ => by simp [flat]
 | x :: xs, h => by
  have ih := flat_len xs (fun y hy => h y (by simp [hy]))
  have := h x (by simp)
  simp only [flat, List.map_cons, List.flatten_cons, List.length_append, List.length_cons] at ih ⊢
  omega
theorem txsin_len (s : List UInt8) : (txsinV s).length ≤ 60 := by
 have h := stepsRes_small s
 have := flat_len _ h.2
 unfold txsinV
 omega
theorem impl_TxsIn_loop : ∀ (suf pre : List S41) (acc : List S60), (∀ x ∈ suf, x.f1.length ≤ 2) → (pre ++ suf).length ≤ 100 → acc.length ≤ 2 * pre.length → Ev (fun k => impl_TxsIn.l0 k acc (pre ++ suf) ((pre ++ suf).length : Int) (pre.length : Int)) (acc ++ flat suf)
 | [], pre, acc, _, hl, ha => by
  rw [List.append_nil] at *
  refine Ev.step (f := fun _ => some acc) (fun k => ?_) (ev_some (by simp [flat]))
  simp only [impl_TxsIn.l0]
  rw [if_neg (by omega)]
 | x :: suf, pre, acc, hs, hl, ha => by
  have hx := hs x (by simp)
  have hlen : (pre ++ x :: suf).length = pre.length + (suf.length + 1) := by simp
  simp only [List.length_append, List.length_cons] at hl
  have ih := impl_TxsIn_loop suf (pre ++ [x]) (acc ++ x.f1) (fun y hy => hs y (by simp [hy])) (by simp; omega) (by simp; omega)
  rw [show (pre ++ [x]).length = pre.length + 1 from by simp, List.append_assoc, List.singleton_append] at ih
  rw [show acc ++ flat (x :: suf) = acc ++ x.f1 ++ flat suf from by simp [flat]]
  refine Ev.step (f := fun k => impl_TxsIn.l0 k (acc ++ x.f1) (pre ++ x :: suf) ((pre ++ x :: suf).length : Int) ((pre.length + 1 : Nat) : Int)) (fun k => ?_) ih
  simp only [impl_TxsIn.l0]
  rw [if_pos (by omega), if_pos (by omega), if_pos (by omega), rdST_at, if_pos (by omega), up1 _ (by omega)]
theorem impl_TxsIn_ev (s : List UInt8) (hl : s.length ≤ 536870912) : Ev (fun k => impl_TxsIn.f k (B s)) (txsinV s) := by
 unfold impl_TxsIn.f
 refine Ev.bind (impl_Steps_ev s hl) ?_
 have h := stepsRes_small s
 exact impl_TxsIn_loop _ [] [] h.2 (Nat.le_trans h.1 (by decide)) (by simp)

theorem spec_TxsIn_loop : ∀ (suf pre : List S41) (acc : List S60), (∀ x ∈ suf, x.f1.length ≤ 2) → (pre ++ suf).length ≤ 100 → acc.length ≤ 2 * pre.length → Ev (fun k => spec_TxsIn.l0 k acc (pre ++ suf) (pre.length : Int)) (acc ++ flat suf)
 | [], pre, acc, _, hl, ha => by
  rw [List.append_nil] at *
  refine Ev.step (f := fun _ => some acc) (fun k => ?_) (ev_some (by simp [flat]))
  simp only [spec_TxsIn.l0]
  rw [if_neg (by omega)]
 | x :: suf, pre, acc, hs, hl, ha => by
  have hx := hs x (by simp)
  simp only [List.length_append, List.length_cons] at hl
  have ih := spec_TxsIn_loop suf (pre ++ [x]) (acc ++ x.f1) (fun y hy => hs y (by simp [hy])) (by simp; omega) (by simp; omega)
  rw [show (pre ++ [x]).length = pre.length + 1 from by simp, List.append_assoc, List.singleton_append] at ih
  rw [show acc ++ flat (x :: suf) = acc ++ x.f1 ++ flat suf from by simp [flat]]
  refine Ev.step (f := fun k => spec_TxsIn.l0 k (acc ++ x.f1) (pre ++ x :: suf) ((pre.length + 1 : Nat) : Int)) (fun k => ?_) ih
  simp only [spec_TxsIn.l0]
  rw [if_pos (by simp only [List.length_append, List.length_cons]; omega), if_pos (by omega), rdST_at, if_pos (by omega), up1 _ (by omega)]
theorem spec_TxsIn_ev (s : List UInt8) (hl : s.length ≤ 536870912) : Ev (fun k => spec_TxsIn.f k (B s)) (txsinV s) := by
 unfold spec_TxsIn.f
 refine Ev.bind (spec_Steps_ev s hl) ?_
 have h := stepsRes_small s
 exact spec_TxsIn_loop _ [] [] h.2 (Nat.le_trans h.1 (by decide)) (by simp)

theorem tq_from (x : Tx) : tq (fromT x) = x := rfl
theorem map_tq_from (l : List Tx) : (l.map fromT).map tq = l := by
 rw [List.map_map]
 exact (List.map_congr_left (fun x _ => tq_from x)).trans (List.map_id l)
theorem FnNames_l0 (s x y : List UInt8) (ls : List (Int × List Tx)) (hs : stepsS s = some ls) (hl : s.length ≤ 5000) (hx : x.length ≤ 5000) (hy : y.length ≤ 5000) : ∀ (suf pre : List (Int × List Tx)), ls = pre ++ suf → Ev (fun k => laws_FnNames.l0 k (B s) (ls.map fromS) (B x) (B y) (B (txt (pre.map stepText))) (pre.length : Int)) true
 | [], pre, e => by
  rw [List.append_nil] at e
  subst e
  obtain ⟨e1, _, _, _⟩ := chain hs
  have hn := (view_last hs).2.2
  have hu := upV_len s
  rw [← e1]
  refine Ev.step (f := fun k => (impl_Meets.f k (B x) (B y)).bind fun a => ((impl_Meets.f k (B y) (B x)).bind fun b => (if (a == b) = true then ((impl_UpOf.f k (B s)).bind fun u => ((impl_Extends.f k (B s) u).bind fun z => (some z))) else (some false)))) (fun k => ?_) ?_
  ·simp only [laws_FnNames.l0]
   rw [if_neg (by rw [List.length_map]; omega), if_pos trivial]
  ·refine Ev.bind (impl_Meets_ev x y (by omega) (by omega)) (Ev.bind (impl_Meets_ev y x (by omega) (by omega)) (ev_pos (by rw [meet_comm]; simp) ?_))
   exact Ev.bind (impl_UpOf_ev s (by omega)) (Ev.bind (impl_Extends_ev s (upV s) (by omega) (by omega)) (ev_some (ext_up hn)))
 | z :: suf, pre, e => by
  obtain ⟨e1, hlen, hst, hall⟩ := chain hs
  have hz := hall z (by rw [e]; simp)
  have ih := FnNames_l0 s x y ls hs hl hx hy suf (pre ++ [z]) (by rw [e]; simp)
  have hl1 : (ls.map fromS).length = pre.length + (suf.length + 1) := by rw [e]; simp
  have hl2 : ls.length = pre.length + (suf.length + 1) := by rw [e]; simp
  have hfront : stepsS (txt ((pre ++ [z]).map stepText)) = some (pre ++ [z]) := by
   refine chain_front (m := suf) ?_ (by rw [List.length_append, List.length_singleton]; omega)
   rw [List.append_assoc, List.singleton_append, ← e]
   exact hst
  have hname : nameOk (txt ((pre ++ [z]).map stepText)) = true := (view_last hfront).2.2
  have et : txt ((pre ++ [z]).map stepText) = nameT (txt (pre.map stepText)) z.1 z.2 := by
   rw [List.map_append, txt_app, List.map_singleton, txt_one]; rfl
  have hlt : (txt (pre.map stepText)).length ≤ 5000 := by
   have : s = txt (pre.map stepText) ++ txt ((z :: suf).map stepText) := by rw [← txt_app, ← List.map_append, ← e]; exact e1
   have := congrArg List.length this
   rw [List.length_append] at this
   omega
  have hNV : nameV (txt (pre.map stepText)) z.1 z.2 = txt ((pre ++ [z]).map stepText) := by
   unfold nameV
   rw [if_pos hz.1, ← et, if_pos hname]
  have hN := impl_NameOf_ev (txt (pre.map stepText)) z.1 (z.2.map fromT) (by omega) (by omega) (by omega) (by rw [List.length_map]; omega)
  rw [map_tq_from, hNV] at hN
  have hrd : rd_T41 (ls.map fromS) (pre.length : Int) = fromS z := by
   unfold rd_T41
   rw [e, Int.toNat_natCast, List.getD_eq_getElem?_getD]
   simp
  rw [List.length_append, List.length_singleton] at ih
  refine Ev.step (f := fun k => (impl_NameOf.f k (B (txt (pre.map stepText))) z.1 (z.2.map fromT)).bind fun t => laws_FnNames.l0 k (B s) (ls.map fromS) (B x) (B y) t ((pre.length + 1 : Nat) : Int)) (fun k => ?_) (Ev.bind hN ih)
  simp only [laws_FnNames.l0]
  rw [if_pos (by rw [hl1]; omega), if_pos (by omega), hrd, up1 _ (by omega)]
  rfl
theorem FnNames_j2 (s x y : List UInt8) (hl : s.length ≤ 5000) (hx : x.length ≤ 5000) (hy : y.length ≤ 5000) : Ev (fun k => laws_FnNames.j2 k (B s) (stepsRes [] (stepsS s)).1 (stepsRes [] (stepsS s)).2 (B x) (B y) false) true := by
 refine ev_up ?_
 simp only [laws_FnNames.j2]
 refine ev_neg (by decide) ?_
 cases hs : stepsS s with
 | none =>
  refine ev_neg (by simp [stepsRes]) (ev_pos (by simp [stepsRes]) (Ev.bind (impl_Height_ev s (by omega)) (ev_some ?_)))
  unfold heightV
  rw [hs]
  rfl
 | some ls =>
  refine ev_pos rfl ?_
  have h := FnNames_l0 s x y ls hs hl hx hy ls [] rfl
  exact h
theorem FnNames_j1 (s a b x y : List UInt8) (hl : s.length ≤ 5000) (ha : a.length ≤ 5000) (hb : b.length ≤ 5000) (hx : x.length ≤ 5000) (hy : y.length ≤ 5000) : Ev (fun k => laws_FnNames.j1 k (B s) (stepsRes [] (stepsS s)).1 (stepsRes [] (stepsS s)).2 (B a) (B b) (B x) (B y) false) true := by
 refine ev_up ?_
 simp only [laws_FnNames.j1]
 refine ev_neg (by decide) (Ev.bind (impl_Extends_ev a b (by omega) (by omega)) ?_)
 by_cases c : extV a b = true
 ·have h := ext_order c
  refine ev_pos c (Ev.bind (impl_Height_ev a (by omega)) (Ev.bind (impl_Height_ev b (by omega)) (ev_neg (by omega) ?_)))
  refine Ev.bind (impl_ViewOf_ev a (by omega)) (Ev.bind (impl_ViewOf_ev b (by omega)) ?_)
  rw [decide_eq_false (show ¬ viewV a < viewV b by omega)]
  exact FnNames_j2 s x y hl hx hy
 ·exact ev_neg c (FnNames_j2 s x y hl hx hy)
theorem FnNames (l : List Int) (hm : l.length ≤ maxLen) (hw : ∀ x ∈ l, (Lit.int .u8 x).wf = true) : ∃ k, laws_FnNames.f k l = some true := by
 refine Ev.rounds ?_
 unfold laws_FnNames.f laws_big.f
 simp only [Option.bind_some]
 by_cases hl : (l.length : Int) > 1048576
 ·exact ev_pos (decide_eq_true hl) (ev_some rfl)
 refine ev_neg (fun z => hl (of_decide_eq_true z)) ?_
 obtain ⟨s, hs, e1⟩ := DrawSteps_ev l (by omega)
 obtain ⟨a, b, ha, hb, e2⟩ := DrawExtends_ev l (by omega)
 obtain ⟨x, y, hx, hy, e3⟩ := DrawMeets_ev l (by omega)
 obtain ⟨up, v, q, hup, v0, v1, hq, e4⟩ := DrawNameOf_ev l (by omega)
 have hti := txsin_len s
 refine Ev.bind e1 (Ev.bind (impl_Steps_ev s (by omega)) (Ev.bind (spec_Steps_ev s (by omega)) ?_))
 refine Ev.bind e2 (Ev.bind e3 (Ev.bind e4 (Ev.bind (impl_NameOf_ev up v q (by omega) v0 v1 (by omega)) ?_)))
 refine ev_neg (by simp) (ev_pos rfl (Ev.bind (impl_NameOk_ev s (by omega)) (ev_neg (by rw [stepsRes_ok]; simp [nameOk]) ?_)))
 refine Ev.bind (impl_Extends_ev a b (by omega) (by omega)) (Ev.bind (spec_Extends_ev a b (by omega) (by omega)) (ev_neg (by simp) ?_))
 refine Ev.bind (impl_Meets_ev x y (by omega) (by omega)) (Ev.bind (spec_Meets_ev x y (by omega) (by omega)) (ev_neg (by simp) ?_))
 refine Ev.bind (spec_NameOf_ev up v q (by omega) v0 v1 (by omega)) (ev_pos rfl ?_)
 refine Ev.bind (impl_Height_ev s (by omega)) (Ev.bind (spec_Height_ev s (by omega)) (ev_pos rfl ?_))
 refine Ev.bind (impl_UpOf_ev s (by omega)) (Ev.bind (spec_UpOf_ev s (by omega)) (ev_pos rfl ?_))
 refine Ev.bind (impl_ViewOf_ev s (by omega)) (Ev.bind (spec_ViewOf_ev s (by omega)) (ev_pos rfl ?_))
 refine Ev.bind (impl_TxsIn_ev s (by omega)) (Ev.bind (impl_TxsText_ev _ (by omega)) ?_)
 refine Ev.bind (spec_TxsIn_ev s (by omega)) (Ev.bind (spec_TxsText_ev _ (by omega)) ?_)
 simp only
 rw [show ((B (textTs ((txsinV s).map tq))).toList != (B (textTs ((txsinV s).map tq))).toList) = false by simp]
 refine ev_up ?_
 simp only [laws_FnNames.j0]
 refine ev_neg (by decide) ?_
 by_cases c : nameV up v (q.map tq) = []
 ·exact ev_pos (by rw [c, B_toList]) (FnNames_j1 s a b x y (by omega) ha hb hx hy)
 refine ev_neg (by rw [B_toList]; exact c) ?_
 have hok : okTs (q.map tq) := Classical.byContradiction fun z => c (by unfold nameV; rw [if_neg z])
 have hnm : nameOk (nameT up v (q.map tq)) = true := Classical.byContradiction fun z => c (by unfold nameV; rw [if_pos hok, if_neg z])
 have en : nameV up v (q.map tq) = nameT up v (q.map tq) := by unfold nameV; rw [if_pos hok, if_pos hnm]
 have h2 : (q.map tq).length ≤ 2 := Classical.byContradiction fun z => by
  have := name_long up v (q.map tq) hok (by omega)
  rw [this] at hnm
  cases hnm
 have hlen := nameV_len up v (q.map tq) v0 v1 h2
 obtain ⟨m1, m2, m3, m4⟩ := made hok hnm
 rw [en] at hlen ⊢
 have hh := height_view up
 have hg : -1 ≤ heightV up := by unfold heightV; split <;> omega
 refine Ev.bind (impl_UpOf_ev _ (by omega)) (ev_pos (by rw [m1]) ?_)
 refine Ev.bind (impl_ViewOf_ev _ (by omega)) (ev_pos m2 ?_)
 refine Ev.bind (impl_Height_ev _ (by omega)) (Ev.bind (impl_Height_ev up (by omega)) (ev_pos (by rw [m3, wrapI _ (by omega) (by omega)]) ?_))
 refine Ev.bind (impl_Extends_ev _ up (by omega) (by omega)) ?_
 rw [m4]
 exact FnNames_j1 s a b x y (by omega) ha hb hx hy
end
end Go.Proofs.YtbecffgalndagaaGreatDoor.Pure
