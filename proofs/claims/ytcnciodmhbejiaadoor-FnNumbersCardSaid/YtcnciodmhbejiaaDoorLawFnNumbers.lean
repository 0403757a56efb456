/- Whatever is drawn: numbers and texts are read from their bytes as they were, and parts of a text, with what was between, are it; no condition beyond the row's own (the library's tables lie as the program's text lays them). -/
import Derived.Test.YtcnciodmhbejiaaDoorS
import Derived.Test.YtcnciodmhbejiaaDoorPFnNumbersx0
import Derived.Test.YtcnciodmhbejiaaDoorPFnNumbersx1
import Derived.Test.YtcnciodmhbejiaaDoorPFnNumbersx2
import Derived.Test.YtcnciodmhbejiaaDoorPFnNumbersx3
import Derived.Test.YtcnciodmhbejiaaDoorPFnNumbersx4
import Derived.Test.YtcnciodmhbejiaaDoorH
import Derived.Test.YtcnciodmhbejiaaDoorRowKit
import Derived.Test.YtcnciodmhbejiaaDoorLawFnNumbersw0
import Derived.Test.YtcnciodmhbejiaaDoorLawFnNumbersw1
import Derived.Test.YtcnciodmhbejiaaDoorLawFnNumbersw2
import Derived.Test.YtcnciodmhbejiaaDoorLawFnNumbersw3
import Derived.Test.YtcnciodmhbejiaaDoorLawFnNumbersw4
namespace Go.Proofs.YtcnciodmhbejiaaDoor.Law
open Go.RowKit Go.Proofs.YtcnciodmhbejiaaDoorW.PrintWords Go.Proofs.YtcnciodmhbejiaaDoorW.PrintLast Go.Proofs.YtcnciodmhbejiaaDoorW.PrintMore Go.Proofs.YtcnciodmhbejiaaDoorH Go.Proofs.YtcnciodmhbejiaaDoor.PFnNumbers Go.Proofs.YtcnciodmhbejiaaDoorS
set_option linter.unusedVariables false
set_option linter.unusedSimpArgs false
theorem up1 (n : Nat) (h : n < 4611686018427387904) : wrap64 ((n : Int) + 1) = ((n + 1 : Nat) : Int) := by
  unfold wrap64; omega
theorem up1' (a : Int) (h0 : -4611686018427387904 ≤ a) (h : a < 4611686018427387904) : wrap64 (a + 1) = a + 1 := by
  unfold wrap64; omega
theorem dn1 (a : Int) (h0 : -4611686018427387904 ≤ a) (h : a < 4611686018427387904) : wrap64 (a - 1) = a - 1 := by
  unfold wrap64; omega
theorem wrapI (a : Int) (h0 : -4611686018427387904 ≤ a) (h : a < 4611686018427387904) : wrap64 a = a := by
  unfold wrap64; omega
theorem rd_nat (xs : List Int) (n : Nat) (h : n < xs.length) : rd xs (n : Int) = xs[n] := by
  unfold rd; simp [List.getD_eq_getElem?_getD, h]
theorem ev_eq {α : Type} {g : Nat → Option α} {r s : α} (h : Ev g r) (e : r = s) : Ev g s := e ▸ h
theorem ev_ite {α : Type} {c : Prop} [Decidable c] {g f : Nat → Option α} {r s : α} (hg : c → Ev g r) (hf : ¬ c → Ev f s) : Ev (fun k => if c then g k else f k) (if c then r else s) := by
  by_cases h : c
  · simp only [if_pos h]; exact hg h
  · simp only [if_neg h]; exact hf h
theorem ev_pos {α : Type} {c : Prop} [Decidable c] {g f : Nat → Option α} {r : α} (h : c) (hg : Ev g r) : Ev (fun k => if c then g k else f k) r := by
  simp only [if_pos h]; exact hg
theorem ev_neg {α : Type} {c : Prop} [Decidable c] {g f : Nat → Option α} {r : α} (h : ¬ c) (hf : Ev f r) : Ev (fun k => if c then g k else f k) r := by
  simp only [if_neg h]; exact hf
theorem ev_some {α : Type} {r s : α} (e : r = s) : Ev (fun _ => some r) s := e ▸ Ev.now r
theorem ev_const {α β : Type} {o : Option α} {f : Nat → α → Option β} {a : α} {r : β} (h : o = some a) (k : Ev (fun n => f n a) r) : Ev (fun n => o.bind (f n)) r := by
  subst h; exact k
theorem ev_up {α : Type} {g : Nat → Option α} {r : α} (h : Ev (fun k => g (k + 1)) r) : Ev g r := by
  obtain ⟨K, hK⟩ := h
  refine ⟨K + 1, fun k hk => ?_⟩
  obtain ⟨m, rfl⟩ : ∃ m, k = m + 1 := ⟨k - 1, by omega⟩
  exact hK m (by omega)
theorem wNat (c : Nat) (h : c < 4611686018427387904) : wrap64 (c : Int) = (c : Int) := by unfold wrap64; omega
theorem wAdd (a i : Nat) (h : a + i < 4611686018427387904) : wrap64 ((a : Int) + (i : Int)) = ((a + i : Nat) : Int) := by unfold wrap64; omega
theorem wAdd1 (a i : Nat) (h : a + i < 4611686018427387904) : wrap64 (((a + i : Nat) : Int) + 1) = (a : Int) + ((i + 1 : Nat) : Int) := by unfold wrap64; omega
theorem wSub (a i : Nat) (h : a < 4611686018427387904) (h' : i < 4611686018427387904) : wrap64 ((a : Int) - (i : Int)) = (a : Int) - (i : Int) := by unfold wrap64; omega
theorem tmod128 (c : Nat) : Int.tmod (c : Int) 128 = ((c % 128 : Nat) : Int) := by rw [Int.tmod_eq_emod_of_nonneg (by omega)]; omega
theorem all_drop {α : Type} {P : α → Prop} {l : List α} {i : Nat} (h : i < l.length) : (∀ x ∈ l.drop i, P x) ↔ P l[i] ∧ ∀ x ∈ l.drop (i + 1), P x := by
  rw [List.drop_eq_getElem_cons h, List.forall_mem_cons]

theorem and_range (x y : Int) (m : Nat) (hy : y = (m : Int)) (hm : m < 4611686018427387904) : 0 ≤ Go.bits .and .i64 x y ∧ Go.bits .and .i64 x y ≤ (m : Int) := by
  subst hy
  have h2 : ((BitVec.ofInt 64 x) &&& (BitVec.ofInt 64 (m : Int))).toNat ≤ m := by
    rw [BitVec.toNat_and]
    refine Nat.le_trans Nat.and_le_right ?_
    rw [BitVec.ofInt_natCast, BitVec.toNat_ofNat]
    exact Nat.mod_le _ _
  have e : Go.bits .and .i64 x (m : Int) = IntKind.i64.wrap (((BitVec.ofInt 64 x) &&& (BitVec.ofInt 64 (m : Int))).toNat : Int) := rfl
  rw [e]
  generalize ((BitVec.ofInt 64 x) &&& (BitVec.ofInt 64 (m : Int))).toNat = q at h2
  rw [IntKind.wrap_i64]
  omega
/-- A cursor's place. -/
def Cur (i : Int) : Prop := 0 ≤ i ∧ i ≤ 1099511627776
theorem l1Byte_some (l : List Int) (i h : Int) (hl : l.length ≤ 1048576) (hi : Cur i) : ∃ v i' h', spec_l1Byte.f l i h = some (v, i', h') ∧ 0 ≤ v ∧ v ≤ 255 ∧ Cur i' := by
  unfold spec_l1Byte.f
  by_cases c : i < (l.length : Int)
  · rw [if_pos c, if_pos hi.1]
    refine ⟨_, _, _, rfl, (and_range _ 255 255 rfl (by omega)).1, (and_range _ 255 255 rfl (by omega)).2, ?_⟩
    rw [up1' i (by unfold Cur at hi; omega) (by unfold Cur at hi; omega)]
    unfold Cur at hi ⊢; omega
  · rw [if_neg c]
    exact ⟨_, _, _, rfl, (and_range _ 255 255 rfl (by omega)).1, (and_range _ 255 255 rfl (by omega)).2, hi⟩

theorem l1Below_some (l : List Int) (i h n : Int) (hl : l.length ≤ 1048576) (hi : Cur i) (hn : 0 < n) (hn' : n ≤ 256) : ∃ v i' h', spec_l1Below.f l i h n = some (v, i', h') ∧ 0 ≤ v ∧ v < n ∧ Cur i' := by
  obtain ⟨v, i', h', e, h0, h1, hc⟩ := l1Byte_some l i h hl hi
  unfold spec_l1Below.f
  rw [if_neg (by omega), if_pos hn', e, Option.bind_some, if_neg (by omega)]
  refine ⟨_, _, _, rfl, ?_, ?_, hc⟩
  · exact Int.tmod_nonneg _ h0
  · exact Int.tmod_lt_of_pos _ hn

theorem l1PickInt_some (l : List Int) (i h : Int) (xs : List Int) (hl : l.length ≤ 1048576) (hi : Cur i) (hx : 0 < xs.length) (hx' : xs.length ≤ 256) : ∃ v i' h', spec_l1PickInt.f l i h xs = some (v, i', h') ∧ v ∈ xs ∧ Cur i' := by
  obtain ⟨v, i', h', e, h0, h1, hc⟩ := l1Below_some l i h (xs.length : Int) hl hi (by omega) (by omega)
  unfold spec_l1PickInt.f
  rw [e, Option.bind_some, if_pos h0, if_pos h1]
  refine ⟨_, _, _, rfl, ?_, hc⟩
  obtain ⟨m, rfl⟩ := Int.eq_ofNat_of_zero_le h0
  rw [rd_nat xs m (by omega)]
  exact List.getElem_mem _

theorem l1New_ev (l : List Int) (hl : l.length ≤ 1048576) : ∃ h : Int, Ev (fun k => spec_l1New.f k l) (l, 0, h) := by
  have loop : ∀ (d n : Nat) (h : Int), l.length - n = d → n ≤ l.length → ∃ h', Ev (fun k => spec_l1New.l0 k l h (n : Int)) (l, 0, h') := by
    intro d
    induction d with
    | zero =>
      intro n h hd hn
      exact ⟨h, Ev.step (f := fun _ => some (l, 0, h)) (fun k => by simp only [spec_l1New.l0]; rw [if_neg (by omega)]) (ev_some rfl)⟩
    | succ d ih =>
      intro n h hd hn
      by_cases c : (n : Int) < 4000
      · obtain ⟨h', hh⟩ := ih (n + 1) (Go.bits .and .i64 (wrap64 ((wrap64 ((wrap64 (h * 131)) + (wrap64 (rd l (n : Int))))) + 7)) 1073741823) (by omega) (by omega)
        refine ⟨h', Ev.step (f := fun k => spec_l1New.l0 k l (Go.bits .and .i64 (wrap64 ((wrap64 ((wrap64 (h * 131)) + (wrap64 (rd l (n : Int))))) + 7)) 1073741823) ((n + 1 : Nat) : Int)) (fun k => ?_) hh⟩
        simp only [spec_l1New.l0]
        rw [if_pos (by omega), if_pos c, if_pos (by omega), up1 n (by omega)]
      · exact ⟨h, Ev.step (f := fun _ => some (l, 0, h)) (fun k => by simp only [spec_l1New.l0]; rw [if_pos (by omega), if_neg c]) (ev_some rfl)⟩
  unfold spec_l1New.f
  exact loop l.length 0 _ (by omega) (by omega)

theorem DrawPutNum_ev (l : List Int) (hl : l.length ≤ 1048576) : ∃ v : Int, Ev (fun k => spec_DrawPutNum.f k l) v := by
  obtain ⟨x, hx⟩ := l1New_ev l hl
  obtain ⟨v, i1, h1, e1, _, _⟩ := l1PickInt_some l 0 x [0, 1, 127, 128, 300, 16384, 2147483647, 2147483648, (-1), 9223372036854775807] hl (by unfold Cur; omega) (by decide) (by decide)
  refine ⟨v, ?_⟩
  unfold spec_DrawPutNum.f
  refine Ev.bind hx ?_
  simp only
  rw [e1]
  exact ev_some rfl

theorem impl_within_val (a b c : Int) : impl_within.f a b c = some (decide (b ≤ a ∧ a ≤ c)) := by
  unfold impl_within.f
  by_cases h : a ≥ b <;> by_cases h2 : a ≤ c <;> simp [h, h2] <;> omega

/-- Seven bits a byte, the low ones first. -/
def putBytes (n : Nat) : List Int := if n < 128 then [(n : Int)] else ((n % 128 + 128 : Nat) : Int) :: putBytes (n / 128)
termination_by n
decreasing_by omega
theorem putBytes_len (n : Nat) : 1 ≤ (putBytes n).length := by
  rw [putBytes]; split <;> simp
theorem putBytes_len_le : ∀ (m n : Nat), 1 ≤ m → n < 128 ^ m → (putBytes n).length ≤ m := by
  intro m
  induction m with
  | zero => intro n h _; omega
  | succ m ih =>
    intro n _ h
    rw [putBytes]
    split
    · simp
    · rename_i hn
      rw [List.length_cons]
      rcases Nat.eq_zero_or_pos m with rfl | hm
      · omega
      · have := ih (n / 128) hm (by rw [Nat.pow_succ] at h; omega)
        omega
def putIs (n : Int) : List Int := if 0 ≤ n ∧ n ≤ 2147483647 then putBytes n.toNat else []
theorem putIs_len (n : Int) : (putIs n).length ≤ 5 := by
  unfold putIs
  split
  · exact putBytes_len_le 5 _ (by omega) (by omega)
  · simp
theorem put_step (n : Nat) (h : n < 4611686018427387904) (h2 : 128 ≤ n) : wrap64 (Int.tdiv (n : Int) 128) = ((n / 128 : Nat) : Int) ∧ (wrap64 ((Int.tmod (n : Int) 128) + 128)) % 256 = ((n % 128 + 128 : Nat) : Int) := by
  have e1 : Int.tdiv (n : Int) 128 = ((n / 128 : Nat) : Int) := by rw [Int.tdiv_eq_ediv_of_nonneg (by omega)]; omega
  have e2 : Int.tmod (n : Int) 128 = ((n % 128 : Nat) : Int) := by rw [Int.tmod_eq_emod_of_nonneg (by omega)]; omega
  rw [e1, e2]; unfold wrap64; omega
theorem impl_PutNum_loop : ∀ (d n : Nat) (x : List Int), n ≤ d → n < 4611686018427387904 → x.length + (putBytes n).length ≤ 1000 → Ev (fun k => impl_PutNum.l0 k (n : Int) x) (x ++ putBytes n) := by
  intro d
  induction d with
  | zero =>
    intro n x hn hb hx
    obtain rfl : n = 0 := by omega
    refine Ev.step (f := fun _ => some (x ++ [0])) (fun k => by simp only [impl_PutNum.l0]; rw [if_neg (by omega), if_pos (by omega)]; rfl) (ev_some (by rw [putBytes]; rfl))
  | succ d ih =>
    intro n x hn hb hx
    by_cases h : n < 128
    · refine Ev.step (f := fun _ => some (x ++ [(n : Int)])) (fun k => by simp only [impl_PutNum.l0]; rw [if_neg (by omega), if_pos (by omega), show (n : Int) % 256 = n by omega]) (ev_some (by rw [putBytes, if_pos h]))
    · obtain ⟨e1, e2⟩ := put_step n hb (by omega)
      rw [putBytes, if_neg h, List.length_cons] at hx
      refine Ev.step (f := fun k => impl_PutNum.l0 k ((n / 128 : Nat) : Int) (x ++ [((n % 128 + 128 : Nat) : Int)])) (fun k => by simp only [impl_PutNum.l0]; rw [if_pos (by omega), if_pos (by omega), e1, e2]) (ev_eq (ih (n / 128) _ (by omega) (by omega) (by simp; omega)) (by rw [putBytes.eq_def n, if_neg h]; simp))
theorem impl_PutNum_ev (n : Int) : Ev (fun k => impl_PutNum.f k n) (putIs n) := by
  unfold impl_PutNum.f
  simp only [impl_within_val, Option.bind_some]
  have hl := putIs_len n
  by_cases h : 0 ≤ n ∧ n ≤ 2147483647
  · refine ev_pos (by simpa using h) ?_
    unfold putIs at hl ⊢
    rw [if_pos h] at hl ⊢
    obtain ⟨m, rfl⟩ := Int.eq_ofNat_of_zero_le h.1
    have h5 : (putBytes m).length ≤ 5 := by simpa using hl
    have := impl_PutNum_loop m m [] (Nat.le_refl _) (by omega) (by rw [List.length_nil]; omega)
    simpa using this
  · refine ev_neg (by simpa using h) (ev_some ?_)
    unfold putIs; rw [if_neg h]

abbrev B (l : List UInt8) : ByteArray := ⟨l.toArray⟩
theorem B_list (l : List UInt8) : (B l).data.toList = l := by simp
theorem B_of (s : ByteArray) : B s.data.toList = s := Lib.mk_data s
theorem B_size (l : List UInt8) : (B l).size = l.length := by simp [ByteArray.size]
theorem B_app (l m : List UInt8) : B l ++ B m = B (l ++ m) := by
  rw [← B_of (B l ++ B m)]
  congr 2
  first | done | simp
theorem B_toList (l : List UInt8) : (B l).toList = l := by rw [Lib.toList_data, B_list]
theorem B_eq {l m : List UInt8} : B l = B m ↔ l = m := ⟨fun h => by have := congrArg (fun s : ByteArray => s.data.toList) h; simpa using this, fun h => by rw [h]⟩
theorem B_eta (s : ByteArray) : ∃ l, s = B l ∧ s.size = l.length ∧ s.data.toList = l := ⟨s.data.toList, (B_of s).symm, Lib.size_eq s, rfl⟩
theorem nums_B (xs : List Int) : strOfNums xs = B (xs.map fun n => UInt8.ofNat n.toNat) := rfl
theorem bt_B (l : List UInt8) (i : Nat) (h : i < l.length) : bt (B l) (i : Int) = (l[i].toNat : Int) := by
  rw [← bt_at (B l) i (by rw [Int.toNat_natCast, B_size]; exact h)]
  rfl
theorem bt_mid (pre suf : List UInt8) (b : UInt8) : bt (B (pre ++ b :: suf)) (pre.length : Int) = (b.toNat : Int) := by
  rw [bt_B _ _ (by simp)]
  simp
theorem extract_B (l : List UInt8) (a b : Nat) : (B l).extract a b = B ((l.drop a).take (b - a)) := by rw [Lib.extract_eq, B_list]
theorem B_nil : (⟨#[]⟩ : ByteArray) = B [] := rfl
theorem l1Below_any (l : List Int) (i h n : Int) (hl : l.length ≤ 1048576) (hi : Cur i) (hn : 0 < n) : ∃ v i' h', spec_l1Below.f l i h n = some (v, i', h') ∧ 0 ≤ v ∧ v < n ∧ Cur i' := by
  by_cases c : n ≤ 256
  · exact l1Below_some l i h n hl hi hn c
  obtain ⟨a, i1, h1, e1, a0, a1, c1⟩ := l1Byte_some l i h hl hi
  obtain ⟨b, i2, h2, e2, b0, b1, c2⟩ := l1Byte_some l i1 h1 hl c1
  obtain ⟨d, i3, h3, e3, d0, d1, c3⟩ := l1Byte_some l i2 h2 hl c2
  obtain ⟨e, i4, h4, e4, f0, f1, c4⟩ := l1Byte_some l i3 h3 hl c3
  unfold spec_l1Below.f
  rw [if_neg (by omega), if_neg c, e1, Option.bind_some]
  simp only
  rw [e2, Option.bind_some]
  simp only
  rw [e3, Option.bind_some]
  simp only
  rw [e4, Option.bind_some, if_neg (by omega)]
  refine ⟨_, _, _, rfl, ?_, ?_, c4⟩
  · refine Int.tmod_nonneg _ ?_
    simp only
    unfold wrap64
    omega
  · exact Int.tmod_lt_of_pos _ hn
def DrawnT (N : Nat) (r : ByteArray × Int × Int) : Prop := ∃ s : List UInt8, r.1 = B s ∧ s.length ≤ N ∧ Cur r.2.1
theorem l1Pick_some (l : List Int) (i h : Int) (xs : List (List UInt8)) (hl : l.length ≤ 1048576) (hi : Cur i) (hx : 0 < xs.length) (hx' : xs.length ≤ 256) : ∃ v i' h', spec_l1Pick.f l i h (xs.map B) = some (B v, i', h') ∧ v ∈ xs ∧ Cur i' := by
  obtain ⟨v, i', h', e, h0, h1, hc⟩ := l1Below_some l i h ((xs.map B).length : Int) hl hi (by rw [List.length_map]; omega) (by rw [List.length_map]; omega)
  rw [List.length_map] at h1
  obtain ⟨m, rfl⟩ := Int.eq_ofNat_of_zero_le h0
  have hm : m < xs.length := by omega
  refine ⟨xs[m], i', h', ?_, List.getElem_mem hm, hc⟩
  unfold spec_l1Pick.f
  rw [e, Option.bind_some, if_pos h0, if_pos (by rw [List.length_map]; omega)]
  unfold rdOf
  rw [Int.toNat_natCast, List.getD_eq_getElem?_getD]
  simp [hm]

theorem DrawPutText_ev (l : List Int) (hl : l.length ≤ 1048576) : ∃ v : List UInt8, v.length ≤ 9 ∧ Ev (fun k => spec_DrawPutText.f k l) (B v) := by
  obtain ⟨x, hx⟩ := l1New_ev l hl
  obtain ⟨v, i1, h1, e1, hv, _⟩ := l1Pick_some l 0 x [[], [97], [116, 119, 111, 32, 119, 111, 114, 100, 115], [0, 255]] hl (by unfold Cur; omega) (by decide) (by decide)
  refine ⟨v, ?_, ?_⟩
  · simp only [List.mem_cons, List.not_mem_nil, or_false] at hv
    rcases hv with rfl | rfl | rfl | rfl <;> decide
  · unfold spec_DrawPutText.f
    refine Ev.bind hx ?_
    simp only
    refine ev_const e1 (ev_some rfl)

theorem impl_PutText_ev (s : ByteArray) (hs : s.size ≤ 70368744177664) : Ev (fun k => impl_PutText.f k s) (putIs (s.size : Int) ++ bytesOf s) := by
  unfold impl_PutText.f
  have h := putIs_len (s.size : Int)
  exact Ev.bind (impl_PutNum_ev _) (ev_pos (by omega) (ev_some rfl))

theorem DrawDigits_ev (l : List Int) (hl : l.length ≤ 1048576) : ∃ v : Int, -9223372036854775808 ≤ v ∧ v ≤ 9223372036854775807 ∧ Ev (fun k => spec_DrawDigits.f k l) v := by
  obtain ⟨x, hx⟩ := l1New_ev l hl
  obtain ⟨v, i1, h1, e1, hv, _⟩ := l1PickInt_some l 0 x [0, 7, (-12), 100000, 9223372036854775807, (-9223372036854775808)] hl (by unfold Cur; omega) (by decide) (by decide)
  simp only [List.mem_cons, List.not_mem_nil, or_false] at hv
  refine ⟨v, by omega, by omega, ?_⟩
  unfold spec_DrawDigits.f
  refine Ev.bind hx ?_
  simp only
  rw [e1]
  exact ev_some rfl

theorem DrawNumber_ev (l : List Int) (hl : l.length ≤ 1048576) : ∃ v : List UInt8, v.length ≤ 9 ∧ Ev (fun k => spec_DrawNumber.f k l) (B v) := by
  obtain ⟨x, hx⟩ := l1New_ev l hl
  obtain ⟨v, i1, h1, e1, hv, _⟩ := l1Pick_some l 0 x [[48], [55], [57, 57, 57, 57, 57, 57], [49, 48, 48, 48, 48, 48, 48], [48, 49], [], [45, 49], [120], [49, 50, 97]] hl (by unfold Cur; omega) (by decide) (by decide)
  refine ⟨v, ?_, ?_⟩
  · simp only [List.mem_cons, List.not_mem_nil, or_false] at hv
    rcases hv with rfl | rfl | rfl | rfl | rfl | rfl | rfl | rfl | rfl <;> decide
  · unfold spec_DrawNumber.f
    refine Ev.bind hx ?_
    simp only
    refine ev_const e1 (ev_some rfl)

theorem impl_Digits_val (n : Int) (h0 : -9223372036854775808 ≤ n) (h1 : n ≤ 9223372036854775807) : impl_Digits.f n = some (B (Lib.itoa n)) := by
  unfold impl_Digits.f strconv_Itoa.f
  rw [if_pos ⟨h0, h1⟩]; rfl

theorem ten_pow (n : Nat) (h : n ≤ 6) : 10 ^ n ≤ 1000000 := Nat.pow_le_pow_right (by decide) h
theorem impl_Number_loop : ∀ (suf pre : List UInt8) (v : Nat), v < 10 ^ pre.length → (pre ++ suf).length ≤ 6 →
    Ev (fun k => impl_Number.l0 k (B (pre ++ suf)) (v : Int) (pre.length : Int)) (match numL v suf with | none => ((0 : Int), false) | some n => if Lib.decDigits n = pre ++ suf then ((n : Int), true) else (0, false))
  | [], pre, v, hv, hl => by
    rw [List.append_nil] at hl ⊢
    have hs := B_size pre
    have ht := ten_pow pre.length hl
    refine Ev.step (f := fun k => (impl_Digits.f (v : Int)).bind fun t => (if t.toList = (B pre).toList then (some ((v : Int), true)) else (some (0, false)))) (fun k => by simp only [impl_Number.l0]; rw [if_neg (by omega)]) ?_
    rw [numL]
    refine ev_const (impl_Digits_val v (by omega) (by omega)) ?_
    simp only
    rw [itoa_nat, B_toList, B_toList]
    by_cases c : Lib.decDigits v = pre
    · exact ev_pos c (ev_some (by rw [if_pos c]))
    · exact ev_neg c (ev_some (by rw [if_neg c]))
  | b :: suf, pre, v, hv, hl => by
    have hs := B_size (pre ++ b :: suf)
    have hb := b.toNat_lt
    simp only [List.length_append, List.length_cons] at hl hs
    have ht := ten_pow pre.length (by omega)
    have hbt := bt_mid pre suf b
    rw [numL]
    by_cases c : 48 ≤ b.toNat ∧ b.toNat ≤ 57
    · rw [if_pos c]
      have ih := impl_Number_loop suf (pre ++ [b]) (10 * v + (b.toNat - 48)) (by rw [List.length_append, List.length_singleton, Nat.pow_succ]; omega) (by simp; omega)
      rw [List.append_assoc, List.singleton_append] at ih
      refine Ev.step (f := fun k => impl_Number.l0 k (B (pre ++ b :: suf)) (((10 * v + (b.toNat - 48) : Nat)) : Int) (((pre ++ [b]).length : Nat) : Int)) (fun k => ?_) ih
      simp only [impl_Number.l0]
      rw [if_pos (by omega), if_pos (by omega), hbt, if_neg (by omega), if_neg (by omega)]
      congr 1
      · rw [wrapI (10 * (v : Int)) (by omega) (by omega), Int.emod_eq_of_lt (by omega) (by omega), wrapI (10 * (v : Int) + ((b.toNat : Int) - 48)) (by omega) (by omega)]; omega
      · rw [List.length_append, List.length_singleton]; exact up1 _ (by omega)
    · rw [if_neg c]
      refine Ev.step (f := fun _ => some (0, false)) (fun k => ?_) (ev_some rfl)
      simp only [impl_Number.l0]
      rw [if_pos (by omega), if_pos (by omega), hbt]
      by_cases c1 : (b.toNat : Int) < 48
      · rw [if_pos c1]
      · rw [if_neg c1, if_pos (by omega)]
theorem impl_Number_ev (l : List UInt8) : Ev (fun k => impl_Number.f k (B l)) (num l, (numF l).2) := by
  have hs := B_size l
  have hj : Ev (fun k => impl_Number.j0 k (B l) true) ((0 : Int), false) := Ev.step (f := fun _ => some (0, false)) (fun k => by simp only [impl_Number.j0]; rw [if_pos trivial]) (ev_some rfl)
  unfold impl_Number.f
  by_cases c : l.length < 1
  · have e : numF l = (0, false) := by unfold numF; rw [if_pos (.inl c)]
    unfold num
    rw [e]
    exact ev_pos (by omega) hj
  refine ev_neg (by omega) ?_
  by_cases c2 : 6 < l.length
  · have e : numF l = (0, false) := by unfold numF; rw [if_pos (.inr c2)]
    unfold num
    rw [e, decide_eq_true (show ((B l).size : Int) > 6 by omega)]
    exact hj
  rw [decide_eq_false (show ¬ ((B l).size : Int) > 6 by omega)]
  have h := impl_Number_loop l [] 0 (by simp) (by simpa using Nat.not_lt.1 c2)
  refine Ev.step (f := fun k => impl_Number.l0 k (B l) 0 0) (fun k => by simp only [impl_Number.j0]; rw [if_neg (by decide)]) ?_
  refine ev_eq h ?_
  unfold num numF
  rw [if_neg (by omega)]
  simp only [List.nil_append]
  cases numL 0 l with
  | none => rfl
  | some n =>
    simp only
    by_cases c3 : Lib.decDigits n = l
    · rw [if_pos c3, if_pos c3]
    · rw [if_neg c3, if_neg c3]; rfl

theorem digB (m : Int) (h0 : 0 ≤ m) (h1 : m < 10) : strOfNums [(wrap64 (48 + m)) % 256] = B [UInt8.ofNat (48 + m.toNat)] := by
  rw [nums_B]
  have : (wrap64 (48 + m)) % 256 = ((48 + m.toNat : Nat) : Int) := by unfold wrap64; omega
  rw [this]
  rfl
theorem Digits_zero (neg : Bool) (acc : List UInt8) (h : acc.length ≤ 100) : Ev (fun k => spec_Digits.l0 k 0 neg (B acc)) (B ((if neg = true then [45] else []) ++ acc)) := by
  have hs := B_size acc
  refine Ev.step (f := fun _ => some (B ((if neg = true then [45] else []) ++ acc))) (fun k => ?_) (Ev.now _)
  simp only [spec_Digits.l0]
  rw [if_pos trivial]
  by_cases c : neg = true
  · rw [if_pos c, if_pos (by omega), if_pos c, ← B_app]
  · rw [if_neg c, if_neg c, List.nil_append]
theorem Digits_loop : ∀ (d : Nat) (x : Int) (neg : Bool) (acc : List UInt8), x.natAbs < 10 ^ d → acc.length + d ≤ 100 → -9223372036854775808 ≤ x → x ≤ 9223372036854775807 →
    Ev (fun k => spec_Digits.l0 k x neg (B acc)) (B ((if neg = true then [45] else []) ++ ((if x.natAbs = 0 then [] else Lib.decDigits x.natAbs) ++ acc)))
  | 0, x, neg, acc, h, hl, h0, h1 => by
    obtain rfl : x = 0 := by simp at h; exact h
    exact Digits_zero neg acc (by omega)
  | d + 1, x, neg, acc, h, hl, h0, h1 => by
    by_cases hx : x = 0
    · subst hx
      exact Digits_zero neg acc (by omega)
    have hs := B_size acc
    have hq : (wrap64 (Int.tdiv x 10)).natAbs = x.natAbs / 10 ∧ -9223372036854775808 ≤ wrap64 (Int.tdiv x 10) ∧ wrap64 (Int.tdiv x 10) ≤ 9223372036854775807 := by
      have e : Int.tdiv x 10 = if 0 ≤ x then ((x.natAbs / 10 : Nat) : Int) else -((x.natAbs / 10 : Nat) : Int) := by
        split
        · rename_i hp
          obtain ⟨u, rfl⟩ := Int.eq_ofNat_of_zero_le hp
          rfl
        · rename_i hp
          obtain ⟨u, rfl⟩ : ∃ u : Nat, x = -(u : Int) := ⟨x.natAbs, by omega⟩
          rw [Int.neg_tdiv, Int.natAbs_neg, Int.natAbs_natCast]
          rfl
      rw [e]
      unfold wrap64
      split <;> omega
    have hm : Int.tmod x 10 = if 0 ≤ x then ((x.natAbs % 10 : Nat) : Int) else -((x.natAbs % 10 : Nat) : Int) := by
      split
      · rename_i hp
        obtain ⟨u, rfl⟩ := Int.eq_ofNat_of_zero_le hp
        rfl
      · rename_i hp
        obtain ⟨u, rfl⟩ : ∃ u : Nat, x = -(u : Int) := ⟨x.natAbs, by omega⟩
        rw [Int.neg_tmod, Int.natAbs_neg, Int.natAbs_natCast]
        rfl
    have h10 : x.natAbs < 10 * 10 ^ d := by rw [Nat.pow_succ] at h; omega
    have ih := Digits_loop d (wrap64 (Int.tdiv x 10)) neg (UInt8.ofNat (48 + x.natAbs % 10) :: acc) (by rw [hq.1]; omega) (by simp only [List.length_cons]; omega) hq.2.1 hq.2.2
    rw [hq.1] at ih
    have e : (if x.natAbs / 10 = 0 then [] else Lib.decDigits (x.natAbs / 10)) ++ (UInt8.ofNat (48 + x.natAbs % 10) :: acc) = (if x.natAbs = 0 then [] else Lib.decDigits x.natAbs) ++ acc := by
      rw [if_neg (show ¬ x.natAbs = 0 by omega)]
      by_cases hu : x.natAbs < 10
      · rw [if_pos (by omega), Lib.decDigits, dif_pos hu, Nat.mod_eq_of_lt hu]; rfl
      · rw [if_neg (by omega), show Lib.decDigits x.natAbs = Lib.decDigits (x.natAbs / 10) ++ [UInt8.ofNat (48 + x.natAbs % 10)] by rw [Lib.decDigits, dif_neg hu]]
        simp
    rw [e] at ih
    refine Ev.step (f := fun k => spec_Digits.l0 k (wrap64 (Int.tdiv x 10)) neg (B (UInt8.ofNat (48 + x.natAbs % 10) :: acc))) (fun k => ?_) ih
    simp only [spec_Digits.l0]
    rw [if_neg hx]
    by_cases c : Int.tmod x 10 < 0
    · rw [if_pos c, Option.bind_some]
      have e2 : wrap64 (-(Int.tmod x 10)) = ((x.natAbs % 10 : Nat) : Int) := by
        rw [hm] at c ⊢
        unfold wrap64
        split at c <;> rename_i hp
        · omega
        · rw [if_neg hp]; omega
      rw [e2, digB _ (by omega) (by omega), B_size, if_pos (by simp only [List.length_singleton]; omega), Int.toNat_natCast, B_app]
      rfl
    · rw [if_neg c, Option.bind_some]
      have e2 : Int.tmod x 10 = ((x.natAbs % 10 : Nat) : Int) := by
        rw [hm] at c ⊢
        split at c <;> rename_i hp
        · rw [if_pos hp]
        · rw [if_neg hp]; omega
      rw [e2, digB _ (by omega) (by omega), B_size, if_pos (by simp only [List.length_singleton]; omega), Int.toNat_natCast, B_app]
      rfl
theorem spec_Digits_ev (n : Int) (h0 : -9223372036854775808 ≤ n) (h1 : n ≤ 9223372036854775807) : Ev (fun k => spec_Digits.f k n) (B (Lib.itoa n)) := by
  unfold spec_Digits.f
  by_cases hn : n = 0
  · subst hn
    refine ev_pos rfl (ev_some ?_)
    rw [show Lib.itoa 0 = Lib.decDigits 0 from rfl, Lib.decDigits]
    rfl
  refine ev_neg hn ?_
  have h := Digits_loop 19 n (decide (n < 0)) [] (by omega) (by simp) h0 h1
  refine ev_eq h ?_
  rw [if_neg (show ¬ n.natAbs = 0 by omega), List.append_nil]
  unfold Lib.itoa
  by_cases c : n < 0
  · rw [if_pos (decide_eq_true c), if_pos c]; rfl
  · rw [if_neg (by simpa using c), if_neg c, show n.natAbs = n.toNat by omega]; rfl

theorem spec_Number_loop : ∀ (suf pre : List UInt8) (v : Nat), v < 10 ^ pre.length → (pre ++ suf).length ≤ 6 →
    Ev (fun k => spec_Number.l0 k (B (pre ++ suf)) (v : Int) (pre.length : Int)) (match numL v suf with | none => ((0 : Int), false) | some n => if Lib.decDigits n = pre ++ suf then ((n : Int), true) else (0, false))
  | [], pre, v, hv, hl => by
    rw [List.append_nil] at hl ⊢
    have hs := B_size pre
    have ht := ten_pow pre.length hl
    refine Ev.step (f := fun k => (spec_Digits.f k (v : Int)).bind fun t => (if t.toList = (B pre).toList then (some ((v : Int), true)) else (some (0, false)))) (fun k => by simp only [spec_Number.l0]; rw [if_neg (by omega)]) ?_
    rw [numL]
    refine Ev.bind (spec_Digits_ev v (by omega) (by omega)) ?_
    simp only
    rw [itoa_nat, B_toList, B_toList]
    by_cases c : Lib.decDigits v = pre
    · exact ev_pos c (ev_some (by rw [if_pos c]))
    · exact ev_neg c (ev_some (by rw [if_neg c]))
  | b :: suf, pre, v, hv, hl => by
    have hs := B_size (pre ++ b :: suf)
    have hb := b.toNat_lt
    simp only [List.length_append, List.length_cons] at hl hs
    have ht := ten_pow pre.length (by omega)
    have hbt := bt_mid pre suf b
    rw [numL]
    by_cases c : 48 ≤ b.toNat ∧ b.toNat ≤ 57
    · rw [if_pos c]
      have ih := spec_Number_loop suf (pre ++ [b]) (10 * v + (b.toNat - 48)) (by rw [List.length_append, List.length_singleton, Nat.pow_succ]; omega) (by simp; omega)
      rw [List.append_assoc, List.singleton_append] at ih
      refine Ev.step (f := fun k => spec_Number.l0 k (B (pre ++ b :: suf)) (((10 * v + (b.toNat - 48) : Nat)) : Int) (((pre ++ [b]).length : Nat) : Int)) (fun k => ?_) ih
      simp only [spec_Number.l0]
      rw [if_pos (by omega), if_pos (by omega), hbt, if_neg (by omega), if_neg (by omega)]
      congr 1
      · rw [wrapI (10 * (v : Int)) (by omega) (by omega), wrapI ((b.toNat : Nat) : Int) (by omega) (by omega), wrapI (10 * (v : Int) + (b.toNat : Int)) (by omega) (by omega), wrapI (10 * (v : Int) + (b.toNat : Int) - 48) (by omega) (by omega)]; omega
      · rw [List.length_append, List.length_singleton]; exact up1 _ (by omega)
    · rw [if_neg c]
      refine Ev.step (f := fun _ => some (0, false)) (fun k => ?_) (ev_some rfl)
      simp only [spec_Number.l0]
      rw [if_pos (by omega), if_pos (by omega), hbt]
      by_cases c1 : (b.toNat : Int) < 48
      · rw [if_pos c1]
      · rw [if_neg c1, if_pos (by omega)]
theorem spec_Number_ev (l : List UInt8) : Ev (fun k => spec_Number.f k (B l)) (num l, (numF l).2) := by
  have hs := B_size l
  have hj : Ev (fun k => spec_Number.j0 k (B l) true) ((0 : Int), false) := Ev.step (f := fun _ => some (0, false)) (fun k => by simp only [spec_Number.j0]; rw [if_pos trivial]) (ev_some rfl)
  unfold spec_Number.f
  by_cases c : l.length < 1
  · have e : numF l = (0, false) := by unfold numF; rw [if_pos (.inl c)]
    unfold num
    rw [e]
    exact ev_pos (by omega) hj
  refine ev_neg (by omega) ?_
  by_cases c2 : 6 < l.length
  · have e : numF l = (0, false) := by unfold numF; rw [if_pos (.inr c2)]
    unfold num
    rw [e, decide_eq_true (show ((B l).size : Int) > 6 by omega)]
    exact hj
  rw [decide_eq_false (show ¬ ((B l).size : Int) > 6 by omega)]
  have h := spec_Number_loop l [] 0 (by simp) (by simpa using Nat.not_lt.1 c2)
  refine Ev.step (f := fun k => spec_Number.l0 k (B l) 0 0) (fun k => by simp only [spec_Number.j0]; rw [if_neg (by decide)]) ?_
  refine ev_eq h ?_
  unfold num numF
  rw [if_neg (by omega)]
  simp only [List.nil_append]
  cases numL 0 l with
  | none => rfl
  | some n =>
    simp only
    by_cases c3 : Lib.decDigits n = l
    · rw [if_pos c3, if_pos c3]
    · rw [if_neg c3, if_neg c3]; rfl

theorem spec_l1In_val (a b c : Int) : spec_l1In.f a b c = some (decide (b ≤ a ∧ a ≤ c)) := by
  unfold spec_l1In.f
  by_cases h : a ≥ b <;> by_cases h2 : a ≤ c <;> simp [h, h2] <;> omega

theorem spec_PutNum_loop : ∀ (d n : Nat) (x : List Int), n ≤ d → n < 4611686018427387904 → x.length + (putBytes n).length ≤ 1000 → Ev (fun k => spec_PutNum.l0 k (n : Int) x) (x ++ putBytes n) := by
  intro d
  induction d with
  | zero =>
    intro n x hn hb hx
    obtain rfl : n = 0 := by omega
    refine Ev.step (f := fun _ => some (x ++ [0])) (fun k => by simp only [spec_PutNum.l0]; rw [if_neg (by omega), if_pos (by omega)]; rfl) (ev_some (by rw [putBytes]; rfl))
  | succ d ih =>
    intro n x hn hb hx
    by_cases h : n < 128
    · refine Ev.step (f := fun _ => some (x ++ [(n : Int)])) (fun k => by simp only [spec_PutNum.l0]; rw [if_neg (by omega), if_pos (by omega), show (n : Int) % 256 = n by omega]) (ev_some (by rw [putBytes, if_pos h]))
    · obtain ⟨e1, e2⟩ := put_step n hb (by omega)
      rw [putBytes, if_neg h, List.length_cons] at hx
      refine Ev.step (f := fun k => spec_PutNum.l0 k ((n / 128 : Nat) : Int) (x ++ [((n % 128 + 128 : Nat) : Int)])) (fun k => by simp only [spec_PutNum.l0]; rw [if_pos (by omega), if_pos (by omega), e1, e2]) (ev_eq (ih (n / 128) _ (by omega) (by omega) (by simp; omega)) (by rw [putBytes.eq_def n, if_neg h]; simp))
theorem spec_PutNum_ev (n : Int) : Ev (fun k => spec_PutNum.f k n) (putIs n) := by
  unfold spec_PutNum.f
  simp only [spec_l1In_val, Option.bind_some]
  have hl := putIs_len n
  by_cases h : 0 ≤ n ∧ n ≤ 2147483647
  · refine ev_pos (by simpa using h) ?_
    unfold putIs at hl ⊢
    rw [if_pos h] at hl ⊢
    obtain ⟨m, rfl⟩ := Int.eq_ofNat_of_zero_le h.1
    have h5 : (putBytes m).length ≤ 5 := by simpa using hl
    have := spec_PutNum_loop m m [] (Nat.le_refl _) (by omega) (by rw [List.length_nil]; omega)
    simpa using this
  · refine ev_neg (by simpa using h) (ev_some ?_)
    unfold putIs; rw [if_neg h]

theorem spec_PutText_ev (s : ByteArray) (hs : s.size ≤ 70368744177664) : Ev (fun k => spec_PutText.f k s) (putIs (s.size : Int) ++ bytesOf s) := by
  unfold spec_PutText.f
  have h := putIs_len (s.size : Int)
  exact Ev.bind (spec_PutNum_ev _) (ev_pos (by omega) (ev_some rfl))

theorem five (i : Nat) (h : i < 5) : i = 0 ∨ i = 1 ∨ i = 2 ∨ i = 3 ∨ i = 4 := by omega
theorem shl7 (x i : Nat) (hx : x < 128) (hi : i < 5) : shl .i64 (x : Int) (wrap64 (7 * (i : Int))) = ((x * 128 ^ i : Nat) : Int) := by
  have hs : ∀ (m : Nat) (y : Int), y = (m : Int) → m ≤ 28 → shl .i64 (x : Int) y = (x : Int) * 2 ^ m := by
    intro m y hy hm
    subst hy
    unfold shl
    rw [show min ((m : Int)).toNat IntKind.i64.bits = m by simp [IntKind.bits]; omega]
    have h2 : (2 : Int) ^ m ≤ 2 ^ 28 := by
      have : (2 : Nat) ^ m ≤ 2 ^ 28 := Nat.pow_le_pow_right (by decide) hm
      exact_mod_cast this
    have h3 : (0 : Int) < 2 ^ m := Int.pow_pos (by decide)
    have h4 : (x : Int) * 2 ^ m ≤ 127 * 2 ^ 28 := Int.mul_le_mul (by omega) h2 (by omega) (by omega)
    have h5 : 0 ≤ (x : Int) * 2 ^ m := Int.mul_nonneg (by omega) (by omega)
    rw [IntKind.wrap_i64]
    omega
  rcases five i hi with rfl | rfl | rfl | rfl | rfl
  · rw [hs 0 _ (by unfold wrap64; omega) (by omega)]; simp
  · rw [hs 7 _ (by unfold wrap64; omega) (by omega)]; simp
  · rw [hs 14 _ (by unfold wrap64; omega) (by omega)]; simp
  · rw [hs 21 _ (by unfold wrap64; omega) (by omega)]; simp
  · rw [hs 28 _ (by unfold wrap64; omega) (by omega)]; simp
theorem or7 (n x i : Nat) (hn : n < 128 ^ i) (hx : x < 128) (hi : i < 5) : Go.bits .or .i64 (n : Int) ((x * 128 ^ i : Nat) : Int) = ((n + x * 128 ^ i : Nat) : Int) := by
  have hw : ∀ z : Int, 0 ≤ z → z < 2 ^ 62 → IntKind.i64.wrap z = z := by
    intro z h0 h1
    rw [IntKind.wrap_i64]; omega
  have key : ∀ m : Nat, m ≤ 28 → 128 ^ i = 2 ^ m → n ||| x * 128 ^ i = n + x * 128 ^ i := by
    intro m _ hm
    rw [hm] at hn ⊢
    rw [Nat.or_comm, Nat.mul_comm, ← Nat.two_pow_add_eq_or_of_lt hn, Nat.add_comm]
  have hb : x * 128 ^ i < 2 ^ 62 ∧ n < 2 ^ 62 := by
    rcases five i hi with rfl | rfl | rfl | rfl | rfl <;> simp at hn ⊢ <;> omega
  rw [(bits_nat .i64 62 (by decide) hw n (x * 128 ^ i) hb.2 hb.1).2]
  congr 1
  rcases five i hi with rfl | rfl | rfl | rfl | rfl
  · exact key 0 (by omega) (by decide)
  · exact key 7 (by omega) (by decide)
  · exact key 14 (by omega) (by decide)
  · exact key 21 (by omega) (by decide)
  · exact key 28 (by omega) (by decide)
theorem next7 (n x i : Nat) (hn : n < 128 ^ i) (hx : x < 128) : n + x * 128 ^ i < 128 ^ (i + 1) := by
  rw [Nat.pow_succ]
  have : x * 128 ^ i ≤ 127 * 128 ^ i := Nat.mul_le_mul_right _ (by omega)
  omega
theorem putBytes_len_eq : ∀ (m n : Nat), n < 128 ^ (m + 1) → (m = 0 ∨ 128 ^ m ≤ n) → (putBytes n).length = m + 1 := by
  intro m
  induction m with
  | zero => intro n h _; rw [putBytes, if_pos (by omega)]; rfl
  | succ m ih =>
    intro n h h2
    have h3 : 128 ^ (m + 1) ≤ n := by rcases h2 with h2 | h2; · omega
                                      · exact h2
    have h4 : 128 ≤ n := by
      have : 128 ^ 1 ≤ 128 ^ (m + 1) := Nat.pow_le_pow_right (by decide) (by omega)
      omega
    rw [putBytes, if_neg (by omega), List.length_cons, ih (n / 128) (by rw [Nat.pow_succ] at h; omega) (by
      rcases Nat.eq_zero_or_pos m with rfl | hm
      · exact .inl rfl
      · right; rw [Nat.pow_succ] at h3; omega)]
theorem put_len (n c i : Nat) (hn : n < 128 ^ i) (hc : c < 128) (hi : i < 5) : ((putIs ((n + c * 128 ^ i : Nat) : Int)).length = i + 1) ↔ ¬((0 < i ∧ c = 0) ∨ 2147483647 < n + c * 128 ^ i) := by
  have hx := next7 n c i hn hc
  unfold putIs
  by_cases h : n + c * 128 ^ i ≤ 2147483647
  · rw [if_pos ⟨by omega, by omega⟩, Int.toNat_natCast]
    by_cases h0 : 0 < i ∧ c = 0
    · obtain ⟨h1, rfl⟩ := h0
      have := putBytes_len_le i n h1 hn
      simp only [Nat.zero_mul, Nat.add_zero]
      constructor
      · intro e; omega
      · intro e; exact absurd (.inl ⟨h1, trivial⟩) e
    · have e := putBytes_len_eq i _ hx (by
        rcases Nat.eq_zero_or_pos i with hi0 | hi0
        · exact .inl hi0
        · right
          have : 1 ≤ c := by omega
          have : 1 * 128 ^ i ≤ c * 128 ^ i := Nat.mul_le_mul_right _ this
          omega)
      exact ⟨fun _ z => z.elim h0 (fun z => by omega), fun _ => e⟩
  · rw [if_neg (by omega)]
    constructor
    · intro e; simp at e
    · intro e; exact absurd (.inr (by omega)) e
def bytesOk (b : List Int) : Prop := ∀ x ∈ b, 0 ≤ x ∧ x ≤ 255
/-- The number told by what stands from its byte i on, n being told so far; d bytes at the most. -/
def getFrom : Nat → List Int → Nat → Nat → Option (Nat × Nat)
  | 0, _, _, _ => none
  | _ + 1, [], _, _ => none
  | d + 1, c :: rest, i, n => if c < 128 then (if (0 < i ∧ c.toNat = 0) ∨ 2147483647 < n + c.toNat * 128 ^ i then none else some (n + c.toNat * 128 ^ i, i + 1)) else getFrom d rest (i + 1) (n + c.toNat % 128 * 128 ^ i)
def getRes (a : Int) : Option (Nat × Nat) → Int × Int × Bool
  | none => (0, 0, false)
  | some (v, c) => ((v : Int), a + (c : Int), true)
def getIs (b : List Int) (a : Int) : Int × Int × Bool := if 0 ≤ a ∧ a < b.length then getRes a (getFrom 5 (b.drop a.toNat) 0 0) else (0, 0, false)
theorem byte_at (b : List Int) (hb : bytesOk b) (a i : Nat) (h : a + i < b.length) : ∃ c : Nat, c ≤ 255 ∧ b[a + i] = (c : Int) ∧ b.drop (a + i) = (c : Int) :: b.drop (a + (i + 1)) := by
  have h1 := hb b[a + i] (List.getElem_mem h)
  refine ⟨b[a + i].toNat, by omega, by omega, ?_⟩
  rw [List.drop_eq_getElem_cons h]
  congr 1
  omega
theorem impl_GetNum_loop (b : List Int) (hb : bytesOk b) (hl : b.length ≤ 281474976710656) (a : Nat) (ha : a ≤ b.length) : ∀ (d i n : Nat), i + d = 5 → n < 128 ^ i → a + i ≤ b.length → Ev (fun k => impl_GetNum.l0 k b (a : Int) (n : Int) (i : Int)) (getRes a (getFrom d (b.drop (a + i)) i n)) := by
  intro d
  induction d with
  | zero =>
    intro i n hi hn hle
    refine Ev.step (f := fun k => impl_GetNum.j1 k b (a : Int) (n : Int) (i : Int) false) (fun k => by simp only [impl_GetNum.l0]; rw [if_neg (by omega)]) ?_
    exact Ev.step (f := fun _ => some (0, 0, false)) (fun k => by simp only [impl_GetNum.j1]; rw [if_neg (by decide)]) (ev_some rfl)
  | succ d ih =>
    intro i n hi hn hle
    have hi5 : i < 5 := by omega
    have h62 : b.length < 4611686018427387904 := by omega
    have i62 : i < 4611686018427387904 := by omega
    have a62 : a + i < 4611686018427387904 := by omega
    refine Ev.step (f := fun k => impl_GetNum.j1 k b (a : Int) (n : Int) (i : Int) (decide (((a + i : Nat) : Int) < (b.length : Int)))) (fun k => by simp only [impl_GetNum.l0]; rw [if_pos (by omega), wAdd a i a62]) ?_
    by_cases hlt : a + i < b.length
    · obtain ⟨c, hc, hcb, hdr⟩ := byte_at b hb a i hlt
      have c62 : c < 4611686018427387904 := by omega
      have cm : c % 128 < 128 := by omega
      have hx := next7 n (c % 128) i hn cm
      have n62 : n + c % 128 * 128 ^ i < 4611686018427387904 := Nat.lt_of_lt_of_le hx (Nat.le_trans (Nat.pow_le_pow_right (by decide) (show i + 1 ≤ 5 by omega)) (by decide))
      have rest := ih (i + 1) (n + c % 128 * 128 ^ i) (by omega) hx (by omega)
      have eT : (decide (((a + i : Nat) : Int) < (b.length : Int))) = true := decide_eq_true (by omega)
      rw [eT, hdr]
      have body : ∀ k, impl_GetNum.j1 (k + 1) b (a : Int) (n : Int) (i : Int) true = if (c : Int) < 128 then ((impl_PutNum.f k ((n + c % 128 * 128 ^ i : Nat) : Int)).bind fun t => if (t.length : Int) = ((i + 1 : Nat) : Int) then some (((n + c % 128 * 128 ^ i : Nat) : Int), (a : Int) + ((i + 1 : Nat) : Int), true) else some (0, 0, false)) else impl_GetNum.l0 k b (a : Int) ((n + c % 128 * 128 ^ i : Nat) : Int) ((i + 1 : Nat) : Int) := by
        intro k
        simp only [impl_GetNum.j1]
        rw [wAdd a i a62, if_pos trivial, if_pos (by omega), if_pos (by omega), if_pos (by rw [wrapI _ (by omega) (by omega)]; omega), rd_nat b (a + i) hlt, hcb, wNat c c62, tmod128, shl7 _ _ cm hi5, wAdd n _ n62, wAdd1 a i a62, up1 i i62]
      unfold getFrom
      refine Ev.step body ?_
      by_cases h1 : (c : Int) < 128
      · refine ev_pos h1 ?_
        rw [if_pos h1, Int.toNat_natCast]
        have ec : c % 128 = c := by omega
        rw [ec]
        refine Ev.bind (impl_PutNum_ev _) ?_
        have hp := put_len n c i hn (by omega) hi5
        by_cases h2 : (putIs ((n + c * 128 ^ i : Nat) : Int)).length = i + 1
        · refine ev_pos (by omega) (ev_some ?_)
          rw [if_neg (hp.1 h2)]; rfl
        · refine ev_neg (by omega) (ev_some ?_)
          rw [if_pos (Classical.byContradiction fun z => h2 (hp.2 z))]; rfl
      · refine ev_neg h1 ?_
        rw [if_neg h1, Int.toNat_natCast]
        exact rest
    · have eF : (decide (((a + i : Nat) : Int) < (b.length : Int))) = false := decide_eq_false (by omega)
      rw [eF, List.drop_of_length_le (by omega)]
      exact Ev.step (f := fun _ => some (0, 0, false)) (fun k => by simp only [impl_GetNum.j1]; rw [if_neg (by decide)]) (ev_some rfl)
theorem impl_GetNum_ev (b : List Int) (hb : bytesOk b) (hl : b.length ≤ 281474976710656) (a : Int) : Ev (fun k => impl_GetNum.f k b a) (getIs b a) := by
  unfold impl_GetNum.f getIs
  rw [wrapI ((b.length : Int) - 1) (by omega) (by omega)]
  simp only [impl_within_val, Option.bind_some]
  by_cases h : 0 ≤ a ∧ a < b.length
  · rw [if_pos h]
    refine ev_pos (by simp; omega) ?_
    obtain ⟨m, rfl⟩ := Int.eq_ofNat_of_zero_le h.1
    have := impl_GetNum_loop b hb hl m (by omega) 5 0 0 rfl (by decide) (by omega)
    simpa using this
  · rw [if_neg h]
    exact ev_neg (by simp; omega) (ev_some rfl)

theorem getFrom_bound : ∀ (d : Nat) (b : List Int) (i n v c : Nat), getFrom d b i n = some (v, c) → i < c ∧ c ≤ i + b.length ∧ v ≤ 2147483647 := by
  intro d
  induction d with
  | zero => intro b i n v c h; simp [getFrom] at h
  | succ d ih =>
    intro b i n v c h
    cases b with
    | nil => simp [getFrom] at h
    | cons x rest =>
      simp only [getFrom] at h
      by_cases h1 : x < 128
      · rw [if_pos h1] at h
        by_cases h2 : (0 < i ∧ x.toNat = 0) ∨ 2147483647 < n + x.toNat * 128 ^ i
        · rw [if_pos h2] at h; cases h
        · rw [if_neg h2] at h
          obtain ⟨rfl, rfl⟩ := Prod.mk.inj (Option.some.inj h)
          simp only [List.length_cons]
          omega
      · rw [if_neg h1] at h
        have := ih _ _ _ _ _ h
        simp only [List.length_cons]
        omega
theorem getIs_bound (b : List Int) (a : Int) (h : (getIs b a).2.2 = true) : 0 ≤ (getIs b a).1 ∧ (getIs b a).1 ≤ 2147483647 ∧ a < (getIs b a).2.1 ∧ 0 ≤ a ∧ (getIs b a).2.1 ≤ b.length := by
  unfold getIs at h ⊢
  by_cases ha : 0 ≤ a ∧ a < b.length
  · rw [if_pos ha] at h ⊢
    cases e : getFrom 5 (b.drop a.toNat) 0 0 with
    | none => rw [e] at h; simp [getRes] at h
    | some p =>
      obtain ⟨v, c⟩ := p
      have := getFrom_bound _ _ _ _ _ _ e
      rw [List.length_drop] at this
      simp only [getRes]
      omega
  · rw [if_neg ha] at h; simp at h
def textIs (b : List Int) (a : Int) : ByteArray × Int × Bool :=
  if (getIs b a).2.2 = true ∧ (getIs b a).1 ≤ b.length - (getIs b a).2.1 then (strOfNums ((b.take ((getIs b a).2.1 + (getIs b a).1).toNat).drop (getIs b a).2.1.toNat), (getIs b a).2.1 + (getIs b a).1, true) else ((⟨#[]⟩ : ByteArray), 0, false)
theorem impl_GetText_ev (b : List Int) (hb : bytesOk b) (hl : b.length ≤ 281474976710656) (a : Int) : Ev (fun k => impl_GetText.f k b a) (textIs b a) := by
  unfold impl_GetText.f
  refine Ev.bind (impl_GetNum_ev b hb hl a) ?_
  unfold textIs
  by_cases h : (getIs b a).2.2 = true
  · have hB := getIs_bound b a h
    generalize getIs b a = g at h hB ⊢
    rw [wrapI _ (by omega) (by omega), wrapI _ (by omega) (by omega)]
    refine ev_pos h ?_
    by_cases h2 : g.1 > (b.length : Int) - g.2.1
    · refine ev_pos h2 (ev_some ?_)
      rw [if_neg (by omega)]
    · refine ev_neg h2 (ev_pos (by omega) (ev_pos (by omega) (ev_pos (by omega) (ev_some ?_))))
      rw [if_pos ⟨h, by omega⟩]
  · refine ev_neg h (ev_some ?_)
    rw [if_neg (fun z => h z.1)]

theorem l1Once_some (l : List Int) (i h n : Int) (hl : l.length ≤ 1048576) (hi : Cur i) (hn : 0 < n) (hn' : n ≤ 256) : ∃ v i' h', spec_l1Once.f l i h n = some (v, i', h') ∧ Cur i' := by
  obtain ⟨v, i', h', e, h0, h1, hc⟩ := l1Below_some l i h n hl hi hn hn'
  unfold spec_l1Once.f
  rw [e, Option.bind_some]
  exact ⟨_, _, _, rfl, hc⟩

theorem putBytes_ok : ∀ (d n : Nat), n ≤ d → bytesOk (putBytes n)
  | 0, n, h => by
    obtain rfl : n = 0 := by omega
    rw [putBytes, if_pos (by omega)]
    intro x hx
    rw [List.mem_singleton.1 hx]; omega
  | d + 1, n, h => by
    rw [putBytes]
    by_cases c : n < 128
    · rw [if_pos c]
      intro x hx
      rw [List.mem_singleton.1 hx]; omega
    · rw [if_neg c]
      intro x hx
      rcases List.mem_cons.1 hx with hx | hx
      · rw [hx]; omega
      · exact putBytes_ok d (n / 128) (by omega) x hx
theorem putIs_ok (n : Int) : bytesOk (putIs n) := by
  unfold putIs
  split
  · exact putBytes_ok _ _ (Nat.le_refl _)
  · intro x hx; cases hx
theorem bytesOf_ok (s : ByteArray) : bytesOk (bytesOf s) := by
  intro x hx
  unfold bytesOf at hx
  obtain ⟨b, _, rfl⟩ := List.mem_map.1 hx
  have := b.toNat_lt
  omega
theorem bytesOk_app {a b : List Int} (ha : bytesOk a) (hb : bytesOk b) : bytesOk (a ++ b) := fun x hx => (List.mem_append.1 hx).elim (ha x) (hb x)
theorem bytesOk_take {a : List Int} (h : bytesOk a) (n : Nat) : bytesOk (a.take n) := fun x hx => h x (List.mem_of_mem_take hx)
theorem l1DrawNums_loop (l : List Int) (hl : l.length ≤ 1048576) : ∀ (d j : Nat) (b : List Int) (i h : Int), 4 - j = d → j ≤ 4 → b.length ≤ 5 * j → bytesOk b → Cur i → ∃ b' i' h', Ev (fun k => spec_l1DrawNums.l0 k b (j : Int) l i h) (b', i', h') ∧ b'.length ≤ 30 ∧ bytesOk b' ∧ Cur i' := by
  have fin : ∀ (j : Nat) (b : List Int) (i h v i1 h1 : Int), j ≤ 4 → b.length ≤ 5 * j → bytesOk b → Cur i1 → spec_l1Below.f l i h 4 = some (v, i1, h1) → ¬ (j : Int) < v → ∃ b' i' h', Ev (fun k => spec_l1DrawNums.l0 k b (j : Int) l i h) (b', i', h') ∧ b'.length ≤ 30 ∧ bytesOk b' ∧ Cur i' := fun j b i h v i1 h1 hj hb hok hc ev c => by
    obtain ⟨o, i2, h2, eo, c2⟩ := l1Once_some l i1 h1 3 hl hc (by omega) (by omega)
    obtain ⟨p, i3, h3, ep, hp, c3⟩ := l1PickInt_some l i2 h2 [0, 128, 255] hl c2 (by decide) (by decide)
    obtain ⟨q, i4, h4, eq, q0, q1, c4⟩ := l1Below_some l i3 h3 3 hl c3 (by omega) (by omega)
    by_cases d : o = true
    · refine ⟨b ++ [p % 256, q % 256], i4, h4, Ev.step (f := fun _ => some (b ++ [p % 256, q % 256], i4, h4)) (fun k => ?_) (ev_some rfl), by simp; omega, bytesOk_app hok ?_, c4⟩
      · simp only [spec_l1DrawNums.l0]
        rw [ev, Option.bind_some, if_neg c]
        simp only
        rw [eo, Option.bind_some, if_pos d]
        simp only
        rw [ep, Option.bind_some]
        simp only
        rw [eq, Option.bind_some]
        simp only [Option.bind_some]
        rw [if_pos (by simp only [List.length_cons, List.length_nil]; omega)]
      · intro y hy
        simp only [List.mem_cons, List.not_mem_nil, or_false] at hy
        omega
    · refine ⟨b, i2, h2, Ev.step (f := fun _ => some (b, i2, h2)) (fun k => ?_) (ev_some rfl), by omega, hok, c2⟩
      simp only [spec_l1DrawNums.l0]
      rw [ev, Option.bind_some, if_neg c]
      simp only
      rw [eo, Option.bind_some, if_neg d]
  intro d
  induction d with
  | zero =>
    intro j b i h hd hj hb hok hi
    obtain ⟨v, i1, h1, ev, a0, a1, c1⟩ := l1Below_some l i h 4 hl hi (by omega) (by omega)
    exact fin j b i h v i1 h1 hj hb hok c1 ev (by omega)
  | succ d ih =>
    intro j b i h hd hj hb hok hi
    obtain ⟨v, i1, h1, ev, a0, a1, c1⟩ := l1Below_some l i h 4 hl hi (by omega) (by omega)
    by_cases c : (j : Int) < v
    · obtain ⟨x, i2, h2, ex, hx, c2⟩ := l1PickInt_some l i1 h1 [0, 1, 127, 128, 300, 2147483647] hl c1 (by decide) (by decide)
      have hlen := putIs_len x
      obtain ⟨b', i', h', hev, r1, r2, r3⟩ := ih (j + 1) (b ++ putIs x) i2 h2 (by omega) (by omega) (by rw [List.length_append]; omega) (bytesOk_app hok (putIs_ok x)) c2
      refine ⟨b', i', h', Ev.step (f := fun k => (spec_PutNum.f k x).bind fun t => (if b.length + t.length < 140737488355328 then (spec_l1DrawNums.l0 k (b ++ t) ((j + 1 : Nat) : Int) l i2 h2) else (none))) (fun k => ?_) (Ev.bind (spec_PutNum_ev x) (ev_pos (by omega) hev)), r1, r2, r3⟩
      simp only [spec_l1DrawNums.l0]
      rw [ev, Option.bind_some, if_pos c]
      simp only
      rw [ex, Option.bind_some, up1 j (by omega)]
    · exact fin j b i h v i1 h1 hj hb hok c1 ev c
theorem l1DrawNums_ev (l : List Int) (hl : l.length ≤ 1048576) (i h : Int) (hi : Cur i) : ∃ b i' h', Ev (fun k => spec_l1DrawNums.f k l i h) (b, i', h') ∧ b.length ≤ 30 ∧ bytesOk b ∧ Cur i' := by
  unfold spec_l1DrawNums.f
  exact l1DrawNums_loop l hl 4 0 [] i h (by omega) (by omega) (by simp) (by intro x hx; cases hx) hi

theorem DrawGetNum_ev (l : List Int) (hl : l.length ≤ 1048576) : ∃ (b : List Int) (k0 : Int), b.length ≤ 30 ∧ bytesOk b ∧ Ev (fun k => spec_DrawGetNum.f k l) (b, k0) := by
  obtain ⟨x, hx⟩ := l1New_ev l hl
  obtain ⟨b, i1, h1, e1, hb, hok, c1⟩ := l1DrawNums_ev l hl 0 x (by unfold Cur; omega)
  obtain ⟨v, i2, h2, e2, _, _⟩ := l1PickInt_some l i1 h1 [0, 0, 1, (b.length : Int), wrap64 ((b.length : Int) - 5), (-1), 9223372036854775807] hl c1 (by simp) (by simp)
  refine ⟨b, v, hb, hok, ?_⟩
  unfold spec_DrawGetNum.f
  refine Ev.bind hx (Ev.bind e1 ?_)
  simp only
  rw [e2]
  exact ev_some rfl

theorem spec_GetNum_loop (b : List Int) (hb : bytesOk b) (hl : b.length ≤ 281474976710656) (a : Nat) (ha : a ≤ b.length) : ∀ (d i n : Nat), i + d = 5 → n < 128 ^ i → a + i ≤ b.length → Ev (fun k => spec_GetNum.l0 k b (a : Int) (n : Int) (i : Int)) (getRes a (getFrom d (b.drop (a + i)) i n)) := by
  intro d
  induction d with
  | zero =>
    intro i n hi hn hle
    exact Ev.step (f := fun _ => some (0, 0, false)) (fun k => by simp only [spec_GetNum.l0]; rw [if_neg (by omega)]) (ev_some rfl)
  | succ d ih =>
    intro i n hi hn hle
    have hi5 : i < 5 := by omega
    have h62 : b.length < 4611686018427387904 := by omega
    have i62 : i < 4611686018427387904 := by omega
    have a62 : a + i < 4611686018427387904 := by omega
    refine Ev.step (f := fun k => spec_GetNum.j1 k b (a : Int) (n : Int) (i : Int) (decide ((a : Int) ≥ (b.length : Int) - i))) (fun k => by simp only [spec_GetNum.l0]; rw [if_pos (by omega), if_neg (by omega), wSub _ _ h62 i62]) ?_
    by_cases hlt : a + i < b.length
    · obtain ⟨c, hc, hcb, hdr⟩ := byte_at b hb a i hlt
      have c62 : c < 4611686018427387904 := by omega
      have cm : c % 128 < 128 := by omega
      have rest := ih (i + 1) (n + c % 128 * 128 ^ i) (by omega) (next7 _ _ _ hn (by omega)) (by omega)
      have eF : (decide ((a : Int) ≥ (b.length : Int) - i)) = false := decide_eq_false (by omega)
      rw [eF, hdr]
      have body : ∀ k, spec_GetNum.j1 (k + 1) b (a : Int) (n : Int) (i : Int) false = if (c : Int) < 128 then (if (i : Int) > 0 then (if (c : Int) = 0 then some (0, 0, false) else (if ((n + c % 128 * 128 ^ i : Nat) : Int) > 2147483647 then some (0, 0, false) else some (((n + c % 128 * 128 ^ i : Nat) : Int), (a : Int) + ((i + 1 : Nat) : Int), true))) else (if ((n + c % 128 * 128 ^ i : Nat) : Int) > 2147483647 then some (0, 0, false) else some (((n + c % 128 * 128 ^ i : Nat) : Int), (a : Int) + ((i + 1 : Nat) : Int), true))) else spec_GetNum.l0 k b (a : Int) ((n + c % 128 * 128 ^ i : Nat) : Int) ((i + 1 : Nat) : Int) := by
        intro k
        simp only [spec_GetNum.j1]
        rw [wAdd a i a62, if_neg (by decide), if_pos (by omega), if_pos (by omega), if_pos (by rw [wrapI _ (by omega) (by omega)]; omega), rd_nat b (a + i) hlt, hcb, wNat c c62, tmod128, shl7 _ _ cm hi5, or7 n (c % 128) i hn cm hi5, wAdd1 a i a62, up1 i i62]
      unfold getFrom
      refine Ev.step body ?_
      by_cases h1 : (c : Int) < 128
      · refine ev_pos h1 ?_
        rw [if_pos h1, Int.toNat_natCast]
        have ec : c % 128 = c := by omega
        rw [ec]
        by_cases h2 : (i : Int) > 0
        · refine ev_pos h2 ?_
          by_cases h3 : (c : Int) = 0
          · refine ev_pos h3 (ev_some ?_)
            rw [if_pos (.inl ⟨by omega, by omega⟩)]; rfl
          · refine ev_neg h3 ?_
            by_cases h4 : ((n + c * 128 ^ i : Nat) : Int) > 2147483647
            · refine ev_pos h4 (ev_some ?_)
              rw [if_pos (.inr (by omega))]; rfl
            · refine ev_neg h4 (ev_some ?_)
              rw [if_neg (by omega)]; rfl
        · refine ev_neg h2 ?_
          by_cases h4 : ((n + c * 128 ^ i : Nat) : Int) > 2147483647
          · refine ev_pos h4 (ev_some ?_)
            rw [if_pos (.inr (by omega))]; rfl
          · refine ev_neg h4 (ev_some ?_)
            rw [if_neg (by omega)]; rfl
      · refine ev_neg h1 ?_
        rw [if_neg h1, Int.toNat_natCast]
        exact rest
    · have eT : (decide ((a : Int) ≥ (b.length : Int) - i)) = true := decide_eq_true (by omega)
      rw [eT, List.drop_of_length_le (by omega)]
      exact Ev.step (f := fun _ => some (0, 0, false)) (fun k => by simp only [spec_GetNum.j1]; rw [if_pos trivial]) (ev_some rfl)
theorem spec_GetNum_ev (b : List Int) (hb : bytesOk b) (hl : b.length ≤ 281474976710656) (a : Int) : Ev (fun k => spec_GetNum.f k b a) (getIs b a) := by
  unfold spec_GetNum.f getIs
  by_cases h : 0 ≤ a ∧ a < b.length
  · rw [if_pos h]
    obtain ⟨m, rfl⟩ := Int.eq_ofNat_of_zero_le h.1
    have := spec_GetNum_loop b hb hl m (by omega) 5 0 0 rfl (by decide) (by omega)
    simpa using this
  · rw [if_neg h]
    by_cases h0 : a < 0
    · refine Ev.step (f := fun k => spec_GetNum.j1 k b a 0 0 true) (fun k => by simp only [spec_GetNum.l0]; rw [if_pos (by omega), if_pos h0]) ?_
      exact Ev.step (f := fun _ => some (0, 0, false)) (fun k => by simp only [spec_GetNum.j1]; rw [if_pos trivial]) (ev_some rfl)
    · have e0 : wrap64 ((b.length : Int) - 0) = (b.length : Int) := by rw [wrapI _ (by omega) (by omega)]; omega
      refine Ev.step (f := fun k => spec_GetNum.j1 k b a 0 0 true) (fun k => by simp only [spec_GetNum.l0]; rw [if_pos (by omega), if_neg h0, e0, show decide (a ≥ (b.length : Int)) = true from decide_eq_true (by omega)]) ?_
      exact Ev.step (f := fun _ => some (0, 0, false)) (fun k => by simp only [spec_GetNum.j1]; rw [if_pos trivial]) (ev_some rfl)

theorem DrawGetText_ev (l : List Int) (hl : l.length ≤ 1048576) : ∃ (b : List Int) (k0 : Int), b.length ≤ 60 ∧ bytesOk b ∧ Ev (fun k => spec_DrawGetText.f k l) (b, k0) := by
  obtain ⟨x, hx⟩ := l1New_ev l hl
  obtain ⟨s, i1, h1, e1, hs, c1⟩ := l1Pick_some l 0 x [[], [97, 98, 99], [120]] hl (by unfold Cur; omega) (by decide) (by decide)
  have hs3 : s.length ≤ 3 := by
    simp only [List.mem_cons, List.not_mem_nil, or_false] at hs
    rcases hs with rfl | rfl | rfl <;> decide
  have hp := spec_PutText_ev (B s) (by rw [B_size]; omega)
  obtain ⟨b, i2, h2, e2, hb, hok, c2⟩ := l1DrawNums_ev l hl i1 h1 c1
  obtain ⟨o, i3, h3, e3, c3⟩ := l1Once_some l i2 h2 4 hl c2 (by omega) (by omega)
  have hok2 : bytesOk (putIs ((B s).size : Int) ++ bytesOf (B s)) := bytesOk_app (putIs_ok _) (bytesOf_ok _)
  have hlen : (putIs ((B s).size : Int) ++ bytesOf (B s)).length ≤ 8 := by
    have := putIs_len ((B s).size : Int)
    rw [List.length_append]
    have h2 : (bytesOf (B s)).length = s.length := by simp [bytesOf]
    omega
  generalize putIs ((B s).size : Int) ++ bytesOf (B s) = t at hp hok2 hlen
  have hy : bytesOk (t ++ b) := bytesOk_app hok2 hok
  have hyl : (t ++ b).length ≤ 60 := by rw [List.length_append]; omega
  obtain ⟨v, i4, h4, e4, v0, v1, c4⟩ := l1Below_some l i3 h3 (wrap64 (((t ++ b).length : Int) + 1)) hl c3 (by rw [up1' _ (by omega) (by omega)]; omega) (by rw [up1' _ (by omega) (by omega)]; omega)
  rw [up1' _ (by omega) (by omega)] at v1
  obtain ⟨p, i5, h5, e5, _, _⟩ := l1PickInt_some l i4 h4 [0, 0, 0, 1, (((t ++ b).take v.toNat).length : Int), (-1)] hl c4 (by simp) (by simp)
  obtain ⟨p2, i6, h6, e6, _, _⟩ := l1PickInt_some l i3 h3 [0, 0, 0, 1, ((t ++ b).length : Int), (-1)] hl c3 (by simp) (by simp)
  have start : ∀ r, (if o = true then ((spec_l1Below.f l i3 h3 (wrap64 (((t ++ b).length : Int) + 1))).bind fun z => (if 0 ≤ z.1 then (if z.1 ≤ ((t ++ b).length : Int) then ((spec_l1PickInt.f l z.2.1 z.2.2 [0, 0, 0, 1, (((t ++ b).take z.1.toNat).length : Int), (-1)]).bind fun w => some ((t ++ b).take z.1.toNat, w.1)) else none) else none)) else ((spec_l1PickInt.f l i3 h3 [0, 0, 0, 1, ((t ++ b).length : Int), (-1)]).bind fun w => some (t ++ b, w.1))) = some r → Ev (fun k => spec_DrawGetText.f k l) r := fun r hr => by
    unfold spec_DrawGetText.f
    refine Ev.bind hx (ev_const e1 (Ev.bind hp (Ev.bind e2 (ev_pos (by simp only; omega) ?_))))
    simp only [Option.bind_some]
    rw [e3, Option.bind_some]
    exact ⟨0, fun _ _ => hr⟩
  by_cases d : o = true
  · refine ⟨(t ++ b).take v.toNat, p, by rw [List.length_take]; omega, bytesOk_take hy _, start _ ?_⟩
    rw [if_pos d, e4, Option.bind_some, if_pos v0, if_pos (by omega)]
    simp only
    rw [e5]
    rfl
  · refine ⟨t ++ b, p2, hyl, hy, start _ ?_⟩
    rw [if_neg d, e6]
    rfl

theorem spec_GetText_ev (b : List Int) (hb : bytesOk b) (hl : b.length ≤ 281474976710656) (a : Int) : Ev (fun k => spec_GetText.f k b a) (textIs b a) := by
  unfold spec_GetText.f
  refine Ev.bind (spec_GetNum_ev b hb hl a) ?_
  unfold textIs
  by_cases h : (getIs b a).2.2 = true
  · have hB := getIs_bound b a h
    generalize getIs b a = g at h hB ⊢
    rw [wrapI _ (by omega) (by omega), wrapI _ (by omega) (by omega)]
    refine ev_pos h ?_
    by_cases h2 : g.1 > (b.length : Int) - g.2.1
    · refine ev_pos h2 (ev_some ?_)
      rw [if_neg (by omega)]
    · refine ev_neg h2 (ev_pos (by omega) (ev_pos (by omega) (ev_pos (by omega) (ev_some ?_))))
      rw [if_pos ⟨h, by omega⟩]
  · refine ev_neg h (ev_some ?_)
    rw [if_neg (fun z => h z.1)]

theorem DrawSplit_ev (l : List Int) (hl : l.length ≤ 1048576) : ∃ (s : List UInt8) (c : UInt8), s.length ≤ 6 ∧ Ev (fun k => spec_DrawSplit.f k l) (B s, (c.toNat : Int)) := by
  obtain ⟨x, hx⟩ := l1New_ev l hl
  obtain ⟨s, i1, h1, e1, hs, c1⟩ := l1Pick_some l 0 x [[], [97], [97, 44, 98], [44], [97, 44, 44, 98, 44], [97, 47, 98, 44, 99, 47]] hl (by unfold Cur; omega) (by decide) (by decide)
  obtain ⟨v, i2, h2, e2, hv, _⟩ := l1PickInt_some l i1 h1 [44, 47] hl c1 (by decide) (by decide)
  simp only [List.mem_cons, List.not_mem_nil, or_false] at hv
  have hs6 : s.length ≤ 6 := by
    simp only [List.mem_cons, List.not_mem_nil, or_false] at hs
    rcases hs with rfl | rfl | rfl | rfl | rfl | rfl <;> decide
  have start : Ev (fun k => spec_DrawSplit.f k l) (B s, v % 256) := by
    unfold spec_DrawSplit.f
    refine Ev.bind hx (ev_const e1 ?_)
    simp only
    rw [e2]
    exact ev_some rfl
  rcases hv with rfl | rfl
  · exact ⟨s, 44, hs6, start⟩
  · exact ⟨s, 47, hs6, start⟩

theorem byte_of (a : Int) (h0 : 0 ≤ a) (h1 : a ≤ 255) : ∃ c : UInt8, a = (c.toNat : Int) := ⟨UInt8.ofNat a.toNat, by rw [UInt8.toNat_ofNat', Nat.mod_eq_of_lt (by omega)]; omega⟩
theorem byte_eq {b c : UInt8} : ((b.toNat : Int) = (c.toNat : Int)) ↔ b = c := ⟨fun h => UInt8.toNat_inj.1 (by omega), fun h => by rw [h]⟩
theorem splitL_len (c : UInt8) : ∀ l : List UInt8, (splitL c l).length ≤ l.length + 1
  | [] => by simp [splitL]
  | b :: l => by
    have ih := splitL_len c l
    rw [splitL]
    by_cases h : b = c
    · rw [if_pos h]; simp only [List.length_cons]; omega
    · rw [if_neg h]
      split <;> rename_i he
      · rw [he] at ih; simp only [List.length_cons] at ih ⊢; omega
      · simp
theorem ext_mid (pre seg suf : List UInt8) : (B (pre ++ seg ++ suf)).extract pre.length (pre.length + seg.length) = B seg := by
  rw [extract_B, List.append_assoc, List.drop_left, Nat.add_sub_cancel_left, List.take_left]
theorem splitB_one (l : List UInt8) (c : UInt8) : Lib.splitB (B [c]) 0 (Lib.countB (B l) (B [c])) (B l) = (splitL c l).map B := by
  have h := Lib.splitB_data (B [c]) 0 (Lib.countB (B l) (B [c])) (B l)
  have e : Lib.splitK (B [c]).data.toList 0 (Lib.countB (B l) (B [c])) (B l).data.toList = splitL c l := by
    rw [← split_one, B_list, B_list]
    unfold Lib.split Lib.countB
    rw [B_list, B_list]
  rw [e] at h
  rw [← h, List.map_map]
  conv => lhs; rw [← List.map_id (Lib.splitB (B [c]) 0 (Lib.countB (B l) (B [c])) (B l))]
  exact List.map_congr_left (fun s _ => (B_of s).symm)
theorem sep_B (c : UInt8) : strOfNums [(c.toNat : Int)] = B [c] := by
  rw [nums_B]
  simp
theorem impl_Split_val (l : List UInt8) (c : UInt8) (hl : l.length ≤ 1073741824) : impl_Split.f (B l) (c.toNat : Int) = some ((splitL c l).map B) := by
  unfold impl_Split.f strings_Split.f
  rw [sep_B, B_size, B_size, if_pos ⟨by omega, by simp⟩, splitB_one]
  rfl

local instance : CellT Tryd.prog 9 := ⟨by kernel_rfl, by kernel_rfl⟩

theorem getFrom_put : ∀ (d : Nat) (m i n : Nat) (rest : List Int), (putBytes m).length ≤ d → n + m * 128 ^ i ≤ 2147483647 → (i = 0 ∨ m ≠ 0) → getFrom d (putBytes m ++ rest) i n = some (n + m * 128 ^ i, i + (putBytes m).length)
  | 0, m, i, n, rest, hd, _, _ => by have := putBytes_len m; omega
  | d + 1, m, i, n, rest, hd, hv, hm => by
    by_cases c : m < 128
    · have e : putBytes m = [(m : Int)] := by rw [putBytes, if_pos c]
      rw [e, List.singleton_append, getFrom, if_pos (by omega), Int.toNat_natCast, if_neg (by omega)]
      rfl
    · have e : putBytes m = ((m % 128 + 128 : Nat) : Int) :: putBytes (m / 128) := by rw [putBytes, if_neg c]
      have hl : (putBytes m).length = (putBytes (m / 128)).length + 1 := by rw [e, List.length_cons]
      have hp : n + m % 128 * 128 ^ i + m / 128 * 128 ^ (i + 1) = n + m * 128 ^ i := by
        have h1 : m * 128 ^ i = (m % 128 + 128 * (m / 128)) * 128 ^ i := by rw [Nat.mod_add_div]
        rw [h1, Nat.add_mul, Nat.pow_succ, Nat.mul_comm (128 ^ i) 128, ← Nat.mul_assoc, Nat.mul_comm (m / 128) 128]
        omega
      have ih := getFrom_put d (m / 128) (i + 1) (n + m % 128 * 128 ^ i) rest (by omega) (by rw [hp]; exact hv) (.inr (by omega))
      rw [hp] at ih
      rw [e, List.cons_append, getFrom, if_neg (by omega), Int.toNat_natCast, show (m % 128 + 128) % 128 = m % 128 from by omega, ih, List.length_cons]
      rw [show i + 1 + (putBytes (m / 128)).length = i + ((putBytes (m / 128)).length + 1) from by omega]
theorem getFrom_back : ∀ (d : Nat) (b : List Int) (i n v c : Nat), bytesOk b → getFrom d b i n = some (v, c) → ∃ m, b.take (c - i) = putBytes m ∧ v = n + m * 128 ^ i ∧ i < c ∧ (i = 0 ∨ m ≠ 0)
  | 0, b, i, n, v, c, _, h => by simp [getFrom] at h
  | d + 1, [], i, n, v, c, _, h => by simp [getFrom] at h
  | d + 1, x :: rest, i, n, v, c, hb, h => by
    have hx := hb x (by simp)
    obtain ⟨y, rfl⟩ := Int.eq_ofNat_of_zero_le hx.1
    rw [getFrom] at h
    by_cases c1 : ((y : Nat) : Int) < 128
    · rw [if_pos c1, Int.toNat_natCast] at h
      split at h
      · cases h
      · rename_i c2
        obtain ⟨rfl, rfl⟩ := Prod.mk.inj (Option.some.inj h)
        refine ⟨y, ?_, rfl, by omega, by omega⟩
        rw [show i + 1 - i = 1 from by omega, putBytes, if_pos (by omega)]
        rfl
    · rw [if_neg c1, Int.toNat_natCast] at h
      obtain ⟨m, h1, h2, h3, h4⟩ := getFrom_back d rest (i + 1) _ v c (fun z hz => hb z (by simp [hz])) h
      have h5 : m ≠ 0 := by omega
      refine ⟨y % 128 + 128 * m, ?_, ?_, by omega, .inr (by omega)⟩
      · rw [show c - i = (c - (i + 1)) + 1 from by omega, List.take_succ_cons, h1]
        conv => rhs; rw [putBytes, if_neg (show ¬ y % 128 + 128 * m < 128 by omega)]
        rw [show (y % 128 + 128 * m) % 128 + 128 = y from by omega, show (y % 128 + 128 * m) / 128 = m from by omega]
      · rw [h2, Nat.pow_succ, Nat.add_mul, Nat.mul_comm (128 ^ i) 128, ← Nat.mul_assoc, Nat.mul_comm m 128]
        omega
theorem putIs_nat (n : Nat) (h : n ≤ 2147483647) : putIs (n : Int) = putBytes n := by
  unfold putIs
  rw [if_pos ⟨by omega, by omega⟩, Int.toNat_natCast]
theorem getIs_put (n : Nat) (rest : List Int) (h : n ≤ 2147483647) : getIs (putIs (n : Int) ++ rest) 0 = ((n : Int), ((putIs (n : Int)).length : Int), true) := by
  have hl := putIs_len (n : Int)
  rw [putIs_nat n h] at hl ⊢
  have h1 := putBytes_len n
  unfold getIs
  rw [if_pos ⟨by omega, by rw [List.length_append]; omega⟩, show (0 : Int).toNat = 0 from rfl, List.drop_zero, getFrom_put 5 n 0 0 rest hl (by omega) (.inl rfl)]
  simp [getRes]
theorem getIs_back (b : List Int) (hb : bytesOk b) (a : Int) (h : (getIs b a).2.2 = true) : putIs (getIs b a).1 = (b.take (getIs b a).2.1.toNat).drop a.toNat := by
  unfold getIs at h ⊢
  split at h
  · rename_i c
    rw [if_pos c]
    cases hg : getFrom 5 (b.drop a.toNat) 0 0 with
    | none => rw [hg] at h; cases h
    | some p =>
      obtain ⟨v, q⟩ := p
      have hk : bytesOk (b.drop a.toNat) := fun x hx => hb x (List.mem_of_mem_drop hx)
      obtain ⟨m, h1, h2, h3, _⟩ := getFrom_back 5 _ 0 0 v q hk hg
      have h4 := (getFrom_bound 5 _ 0 0 v q hg).2.2
      simp only [getRes]
      rw [putIs_nat v h4, show v = m from by omega, ← h1, Nat.sub_zero, List.take_drop, show a.toNat + q = (a + (q : Int)).toNat from by omega]
  · cases h
theorem str_bytes (v : List UInt8) : strOfNums (bytesOf (B v)) = B v := by
  rw [nums_B, bytesOf, B_list, List.map_map]
  exact congrArg B ((List.map_congr_left (fun x _ => by simp)).trans (List.map_id v))
theorem bytes_str (b : List Int) (hb : bytesOk b) : bytesOf (strOfNums b) = b := by
  rw [nums_B, bytesOf, B_list, List.map_map]
  refine (List.map_congr_left (fun x hx => ?_)).trans (List.map_id b)
  have := hb x hx
  simp only [Function.comp, id]
  rw [UInt8.toNat_ofNat', Nat.mod_eq_of_lt (by omega)]
  omega
theorem textIs_put (v : List UInt8) (h : v.length ≤ 1000) : textIs (putIs (v.length : Int) ++ bytesOf (B v)) 0 = (B v, ((putIs (v.length : Int) ++ bytesOf (B v)).length : Int), true) := by
  have hb : (bytesOf (B v)).length = v.length := by simp [bytesOf]
  unfold textIs
  rw [getIs_put v.length _ (by omega), List.length_append, hb]
  simp only
  rw [if_pos ⟨trivial, by omega⟩]
  have h1 : ((putIs (v.length : Int)).length : Int) + (v.length : Int) = (((putIs (v.length : Int)).length + v.length : Nat) : Int) := by omega
  rw [h1, Int.toNat_natCast, Int.toNat_natCast, List.take_of_length_le (by rw [List.length_append, hb]; omega), List.drop_left, str_bytes]
theorem textIs_back (b : List Int) (hb : bytesOk b) (a : Int) (h : (textIs b a).2.2 = true) : 0 ≤ a ∧ a ≤ (textIs b a).2.1 ∧ (textIs b a).2.1 ≤ b.length ∧ putIs ((textIs b a).1.size : Int) ++ bytesOf (textIs b a).1 = (b.take (textIs b a).2.1.toNat).drop a.toNat := by
  unfold textIs at h ⊢
  split at h
  · rename_i c
    rw [if_pos c]
    obtain ⟨b0, b1, b2, b3, b4⟩ := getIs_bound b a c.1
    have hk := getIs_back b hb a c.1
    generalize getIs b a = g at *
    obtain ⟨n, q, o⟩ := g
    simp only at *
    obtain ⟨n, rfl⟩ := Int.eq_ofNat_of_zero_le b0
    obtain ⟨q, rfl⟩ := Int.eq_ofNat_of_zero_le (show 0 ≤ q by omega)
    obtain ⟨a, rfl⟩ := Int.eq_ofNat_of_zero_le b3
    rw [show ((q : Int) + (n : Int)).toNat = q + n from by omega, Int.toNat_natCast]
    rw [Int.toNat_natCast, Int.toNat_natCast] at hk
    rw [Int.toNat_natCast]
    have hs : bytesOk ((b.take (q + n)).drop q) := fun x hx => hb x (List.mem_of_mem_take (List.mem_of_mem_drop hx))
    have hl : ((b.take (q + n)).drop q).length = n := by rw [List.length_drop, List.length_take]; omega
    have hz : (strOfNums ((b.take (q + n)).drop q)).size = n := by rw [nums_B, B_size, List.length_map, hl]
    refine ⟨by omega, by omega, by omega, ?_⟩
    rw [hz, bytes_str _ hs, hk]
    have h1 : b.take q = (b.take (q + n)).take q := by rw [List.take_take, Nat.min_eq_left (by omega)]
    have h2 : ((b.take (q + n)).take q).length = q := by rw [List.length_take, List.length_take]; omega
    rw [h1]
    conv => rhs; rw [← List.take_append_drop q (b.take (q + n))]
    rw [List.drop_append_of_le_length (by omega)]
  · cases h
theorem part_of (pre suf : List (List UInt8)) (p : List UInt8) : rdOf ByteArray.empty ((pre ++ p :: suf).map B) (pre.length : Int) = B p := by
  unfold rdOf
  rw [Int.toNat_natCast, List.getD_eq_getElem?_getD]
  simp
theorem split_small (c : UInt8) : ∀ {l p : List UInt8}, p ∈ splitL c l → p.length ≤ l.length
  | [], p, h => by rw [splitL, List.mem_singleton] at h; subst h; simp
  | b :: l, p, h => by
    rw [splitL] at h
    by_cases hb : b = c
    · rw [if_pos hb] at h
      rcases List.mem_cons.1 h with h | h
      · subst h; simp
      · have := split_small c h; simp only [List.length_cons]; omega
    · rw [if_neg hb] at h
      cases hs : splitL c l with
      | nil => exact absurd hs (splitL_ne c l)
      | cons x t =>
        rw [hs] at h
        rcases List.mem_cons.1 h with h | h
        · subst h
          have := split_small c (l := l) (p := x) (by rw [hs]; simp)
          simp only [List.length_cons]; omega
        · have := split_small c (l := l) (p := p) (by rw [hs]; simp [h])
          simp only [List.length_cons]; omega
theorem joinL_small (c : UInt8) : ∀ (l : List (List UInt8)), (∀ p ∈ l, p.length ≤ 6) → (joinL c l).length ≤ 7 * l.length
  | [], _ => by simp [joinL]
  | [p], h => by
    have := h p (by simp)
    simp only [joinL, List.length_singleton]; omega
  | p :: q :: l, h => by
    have h1 := h p (by simp)
    have ih := joinL_small c (q :: l) (fun x hx => h x (by simp at hx ⊢; exact .inr hx))
    rw [joinL_cons _ _ (by simp), List.length_append, List.length_cons]
    simp only [List.length_cons] at ih ⊢
    omega
theorem textIs_small (b : List Int) (hb : bytesOk b) (hl : b.length ≤ 60) (a : Int) : (textIs b a).1.size ≤ 70368744177664 := by
  by_cases d : (textIs b a).2.2 = true
  · obtain ⟨_, _, g2, g3⟩ := textIs_back b hb a d
    have h5 := congrArg List.length g3
    rw [List.length_append, List.length_drop, List.length_take] at h5
    have h6 : (bytesOf (textIs b a).1).length = (textIs b a).1.size := by rw [bytesOf, List.length_map]; rfl
    omega
  · unfold textIs at d ⊢
    split
    · rename_i c
      rw [if_pos c] at d
      exact absurd rfl d
    · exact Nat.zero_le _
theorem parts_step (c : UInt8) (s : List UInt8) (n : Nat) (hn : n < (splitL c s).length) : rdOf ByteArray.empty ((splitL c s).map B) (n : Int) = B (splitL c s)[n] ∧ (n = 0 → B (joinL c ((splitL c s).take n)) ++ B (splitL c s)[n] = B (joinL c ((splitL c s).take (n + 1)))) ∧ (0 < n → (B (joinL c ((splitL c s).take n)) ++ strOfNums [(c.toNat : Int)]) ++ B (splitL c s)[n] = B (joinL c ((splitL c s).take (n + 1)))) := by
  have e : splitL c s = (splitL c s).take n ++ (splitL c s)[n] :: (splitL c s).drop (n + 1) := by
    rw [← List.drop_eq_getElem_cons hn, List.take_append_drop]
  have ht : (splitL c s).take (n + 1) = (splitL c s).take n ++ [(splitL c s)[n]] := List.take_succ_eq_append_getElem hn
  have hl : ((splitL c s).take n).length = n := by rw [List.length_take]; omega
  refine ⟨?_, fun h => ?_, fun h => ?_⟩
  · generalize hp : (splitL c s)[n] = p at e
    generalize hq : (splitL c s).take n = pre at e hl
    rw [e, ← hl]
    exact part_of pre _ p
  · subst h
    rw [ht, B_app, List.take_zero]
    simp [joinL]
  · have hz : (splitL c s).take n ≠ [] := fun z => by rw [z] at hl; simp at hl; omega
    have ec : strOfNums [(c.toNat : Int)] = B [c] := by rw [nums_B]; simp
    rw [ht, ec, B_app, B_app, joinL_append _ _ hz]
    simp
theorem FnNumbers {w : World} {A0 : Option Addr} {c0 : Nat} (l : List Int) (hm0 : l.length ≤ maxLen) (hw0 : ∀ x ∈ l, (Lit.int .u8 x).wf = true) (hr0 : Kd.C (Kd.int .u8) w A0 l.length l) (hc0 : l.length ≤ c0) (hL : LaidW w) :
    Calls Tryd.prog 3 #[.slice A0 l.length c0] w fun e w' => e = .returned (.bool true) ∧ Below w.heap.size w w' := by
  by_cases cb : (l.length : Int) > 1048576
  · exact w4.walk0 A0 c0 l w ⟨hr0⟩ ⟨hc0⟩ ⟨by unfold laws_big.f; rw [decide_eq_true cb]⟩
  have hb : laws_big.f l = some false := by unfold laws_big.f; rw [decide_eq_false cb]
  obtain ⟨x, e1⟩ := DrawPutNum_ev l (by omega)
  obtain ⟨tv, htv, e3⟩ := DrawPutText_ev l (by omega)
  obtain ⟨d, d0, d1, e5⟩ := DrawDigits_ev l (by omega)
  obtain ⟨s, hs, e6⟩ := DrawNumber_ev l (by omega)
  obtain ⟨raw, k0, lr, hr, e16⟩ := DrawGetNum_ev l (by omega)
  obtain ⟨raw3, k3, l3, hr3, e19⟩ := DrawGetText_ev l (by omega)
  obtain ⟨sv, c, hsv, e22⟩ := DrawSplit_ev l (by omega)
  have hz : (B tv).size ≤ 70368744177664 := by rw [B_size]; omega
  have hok : bytesOk (putIs ((B tv).size : Int) ++ bytesOf (B tv)) := bytesOk_app (putIs_ok _) (bytesOf_ok _)
  have hbt : (bytesOf (B tv)).length = tv.length := by simp [bytesOf]
  have hpl := putIs_len x
  have hpv := putIs_len ((B tv).size : Int)
  have ht := impl_GetText_ev (putIs ((B tv).size : Int) ++ bytesOf (B tv)) hok (by rw [List.length_append]; omega) 0
  have htx := textIs_put tv (by omega)
  rw [← B_size tv] at htx
  rw [htx] at ht
  have hn := splitL_len c sv
  have hlen : ((splitL c sv).map B).length = (splitL c sv).length := List.length_map _
  have hp0 : 0 < (splitL c sv).length := List.length_pos_iff.2 (splitL_ne c sv)
  obtain ⟨k1, f1⟩ := e1.rounds
  obtain ⟨k2, f2⟩ := (impl_PutNum_ev x).rounds
  obtain ⟨k3', f3⟩ := e3.rounds
  obtain ⟨k4, f4⟩ := (impl_PutText_ev (B tv) hz).rounds
  obtain ⟨k5, f5⟩ := e5.rounds
  obtain ⟨k6, f6⟩ := e6.rounds
  obtain ⟨k7, f7⟩ := (impl_Number_ev s).rounds
  obtain ⟨k8, f8⟩ := (spec_Number_ev s).rounds
  obtain ⟨k9, f9⟩ := (spec_PutNum_ev x).rounds
  obtain ⟨k10, f10⟩ := (spec_PutText_ev (B tv) hz).rounds
  have f11 := impl_Digits_val d d0 d1
  obtain ⟨k12, f12⟩ := (spec_Digits_ev d d0 d1).rounds
  obtain ⟨k14, f14⟩ := (impl_GetNum_ev (putIs x) (putIs_ok x) (by omega) 0).rounds
  obtain ⟨k15, f15⟩ := ht.rounds
  obtain ⟨k16, f16⟩ := e16.rounds
  obtain ⟨k17, f17⟩ := (impl_GetNum_ev raw hr (by omega) k0).rounds
  obtain ⟨k18, f18⟩ := (spec_GetNum_ev raw hr (by omega) k0).rounds
  obtain ⟨k19, f19⟩ := e19.rounds
  obtain ⟨k20, f20⟩ := (impl_GetText_ev raw3 hr3 (by omega) k3).rounds
  obtain ⟨k21, f21⟩ := (spec_GetText_ev raw3 hr3 (by omega) k3).rounds
  obtain ⟨k22, f22⟩ := e22.rounds
  have f23 := impl_Split_val sv c (by omega)
  obtain ⟨k24, f24⟩ := (impl_PutNum_ev (getIs raw k0).1).rounds
  obtain ⟨k25, f25⟩ := (impl_PutText_ev (textIs raw3 k3).1 (textIs_small raw3 hr3 l3 k3)).rounds
  have G1 : (getIs raw k0).2.2 = true → (0 ≤ k0 ∧ k0 ≤ (getIs raw k0).2.1 ∧ (getIs raw k0).2.1 ≤ (raw.length : Int)) ∧ (raw.take ((getIs raw k0).2.1).toNat).drop k0.toNat = putIs (getIs raw k0).1 := fun h => by
    obtain ⟨b0, b1, b2, b3, b4⟩ := getIs_bound raw k0 h
    exact ⟨⟨b3, by omega, b4⟩, (getIs_back raw hr k0 h).symm⟩
  have G2 : (textIs raw3 k3).2.2 = true → (0 ≤ k3 ∧ k3 ≤ (textIs raw3 k3).2.1 ∧ (textIs raw3 k3).2.1 ≤ (raw3.length : Int)) ∧ (raw3.take ((textIs raw3 k3).2.1).toNat).drop k3.toNat = putIs ((textIs raw3 k3).1.size : Int) ++ bytesOf (textIs raw3 k3).1 := fun h => by
    obtain ⟨g0, g1, g2, g3⟩ := textIs_back raw3 hr3 k3 h
    exact ⟨⟨g0, g1, g2⟩, g3.symm⟩
  have A0' : (fun j : Int => B (joinL c ((splitL c sv).take j.toNat))) 0 = ByteArray.empty := by
    show B (joinL c ((splitL c sv).take 0)) = _
    rw [List.take_zero, joinL]
    rfl
  have A1' : (fun j : Int => B (joinL c ((splitL c sv).take j.toNat))) (((splitL c sv).map B).length : Int) = B sv := by
    show B (joinL c ((splitL c sv).take (((splitL c sv).map B).length : Int).toNat)) = _
    rw [Int.toNat_natCast, hlen, List.take_of_length_le (Nat.le_refl _), join_split]
  have hsm : ∀ p ∈ splitL c sv, p.length ≤ 6 := fun p hp => by have := split_small c hp; omega
  have ST : ∀ j : Int, 0 ≤ j → j < (((splitL c sv).map B).length : Int) → (j = 0 → (fun j : Int => B (joinL c ((splitL c sv).take j.toNat))) j ++ rdOf ByteArray.empty ((splitL c sv).map B) j = (fun j : Int => B (joinL c ((splitL c sv).take j.toNat))) (j + 1)) ∧ (0 < j → ((fun j : Int => B (joinL c ((splitL c sv).take j.toNat))) j ++ strOfNums [(c.toNat : Int)]) ++ rdOf ByteArray.empty ((splitL c sv).map B) j = (fun j : Int => B (joinL c ((splitL c sv).take j.toNat))) (j + 1)) ∧ ((fun j : Int => B (joinL c ((splitL c sv).take j.toNat))) j).size ≤ 1000 ∧ (rdOf ByteArray.empty ((splitL c sv).map B) j).size ≤ 1000 := by
    intro j j0 j1
    obtain ⟨n, rfl⟩ := Int.eq_ofNat_of_zero_le j0
    rw [hlen] at j1
    have hn1 : n < (splitL c sv).length := by omega
    obtain ⟨p1, p2, p3⟩ := parts_step c sv n hn1
    have hj := joinL_small c ((splitL c sv).take n) (fun p hp => hsm p (List.mem_of_mem_take hp))
    rw [List.length_take] at hj
    rw [p1]
    show ((n : Int) = 0 → B (joinL c ((splitL c sv).take (n : Int).toNat)) ++ _ = B (joinL c ((splitL c sv).take ((n : Int) + 1).toNat))) ∧ (0 < (n : Int) → (B (joinL c ((splitL c sv).take (n : Int).toNat)) ++ _) ++ _ = B (joinL c ((splitL c sv).take ((n : Int) + 1).toNat))) ∧ (B (joinL c ((splitL c sv).take (n : Int).toNat))).size ≤ 1000 ∧ _
    rw [Int.toNat_natCast, show ((n : Int) + 1).toNat = n + 1 from by omega]
    refine ⟨fun h => p2 (by omega), fun h => p3 (by omega), ?_, ?_⟩
    · rw [B_size]; omega
    · rw [B_size]
      have := hsm _ (List.getElem_mem hn1)
      omega
  generalize hacc : (fun j : Int => B (joinL c ((splitL c sv).take j.toNat))) = acc at A0' A1' ST
  generalize hpt : putIs ((textIs raw3 k3).1.size : Int) ++ bytesOf (textIs raw3 k3).1 = pt at f25 G2
  generalize hg3 : textIs raw3 k3 = q3 at f20 f21 f25 G2
  obtain ⟨z3, stop3, five⟩ := q3
  generalize hg1 : getIs raw k0 = q1 at f17 f18 f24 G1
  obtain ⟨z, stop, one⟩ := q1
  generalize hpn : putIs z = pn at f24 G1
  generalize hu : putIs ((B tv).size : Int) ++ bytesOf (B tv) = u at f4 f10 f15
  simp only at f20 f21 f25 G2 f17 f18 f24 G1
  clear hacc hpt hg3 hg1 hpn hu ht htx hok
  have hq2 : ((splitL c sv).map B).length ≤ 1000 := by rw [hlen]; omega
  have hq1 : 0 < ((splitL c sv).map B).length := by rw [hlen]; exact hp0
  generalize (splitL c sv).map B = parts at f23 A1' ST hq1 hq2
  by_cases cn : (numF s).2 = true
  · have h2 : numF s = ((numF s).1, true) := by rw [← cn]
    have h3 := (numF_some h2).1
    have h4 : Lib.itoa (num s) = s := by rw [show num s = (((numF s).1 : Nat) : Int) from rfl, itoa_nat]; exact h3
    have h5 := num_nonneg s
    have h6 := num_lt s
    have f13 := impl_Digits_val (num s) (by omega) (by omega)
    rw [h4] at f13
    rw [cn] at f7 f8
    by_cases cx : 0 ≤ x ∧ x ≤ 2147483647
    · obtain ⟨n, rfl⟩ := Int.eq_ofNat_of_zero_le cx.1
      have h1 := getIs_put n [] (by omega)
      rw [List.append_nil] at h1
      have hpos : 1 ≤ (putIs (n : Int)).length := by rw [putIs_nat n (by omega)]; exact putBytes_len n
      rw [h1] at f14
      exact w0.walk (hr0 := ⟨hr0⟩) (hc0 := ⟨hc0⟩) (hb := ⟨hb⟩) (h1 := ⟨f1⟩) (h2 := ⟨f2⟩) (h3 := ⟨f3⟩) (h4 := ⟨f4⟩) (h5 := ⟨f5⟩) (h6 := ⟨f6⟩) (h7 := ⟨f7⟩) (h8 := ⟨f8⟩) (h9 := ⟨f9⟩) (h10 := ⟨f10⟩) (h11 := ⟨f11⟩) (h12 := ⟨f12⟩) (h13 := ⟨f13⟩) (h14 := ⟨f14⟩) (h15 := ⟨f15⟩) (h16 := ⟨f16⟩) (h17 := ⟨f17⟩) (h18 := ⟨f18⟩) (h19 := ⟨f19⟩) (h20 := ⟨f20⟩) (h21 := ⟨f21⟩) (h22 := ⟨f22⟩) (h23 := ⟨f23⟩) (h24 := ⟨f24⟩) (h25 := ⟨f25⟩) (hLW := ⟨hL⟩) (hpl := hq1) (hpl2 := hq2) (hpos := by omega) (acc := acc) (ha0 := ⟨A0'⟩) (ha1 := ⟨A1'⟩) (hst := ⟨ST⟩) (g1 := G1) (g2 := G2)
    · have h0 : putIs x = [] := by unfold putIs; rw [if_neg cx]
      generalize getIs (putIs x) 0 = qb at f14
      obtain ⟨n, nx, gok⟩ := qb
      rw [h0] at f2 f9 f14
      exact w1.walk (hr0 := ⟨hr0⟩) (hc0 := ⟨hc0⟩) (hb := ⟨hb⟩) (h1 := ⟨f1⟩) (h2 := ⟨f2⟩) (h3 := ⟨f3⟩) (h4 := ⟨f4⟩) (h5 := ⟨f5⟩) (h6 := ⟨f6⟩) (h7 := ⟨f7⟩) (h8 := ⟨f8⟩) (h9 := ⟨f9⟩) (h10 := ⟨f10⟩) (h11 := ⟨f11⟩) (h12 := ⟨f12⟩) (h13 := ⟨f13⟩) (h14 := ⟨f14⟩) (h15 := ⟨f15⟩) (h16 := ⟨f16⟩) (h17 := ⟨f17⟩) (h18 := ⟨f18⟩) (h19 := ⟨f19⟩) (h20 := ⟨f20⟩) (h21 := ⟨f21⟩) (h22 := ⟨f22⟩) (h23 := ⟨f23⟩) (h24 := ⟨f24⟩) (h25 := ⟨f25⟩) (hLW := ⟨hL⟩) (hpl := hq1) (hpl2 := hq2) (hpos := by simp) (acc := acc) (ha0 := ⟨A0'⟩) (ha1 := ⟨A1'⟩) (hst := ⟨ST⟩) (g1 := G1) (g2 := G2)
  · have cn' : (numF s).2 = false := by cases h : (numF s).2 with | true => exact absurd h cn | false => rfl
    rw [cn'] at f7 f8
    by_cases cx : 0 ≤ x ∧ x ≤ 2147483647
    · obtain ⟨n, rfl⟩ := Int.eq_ofNat_of_zero_le cx.1
      have h1 := getIs_put n [] (by omega)
      rw [List.append_nil] at h1
      have hpos : 1 ≤ (putIs (n : Int)).length := by rw [putIs_nat n (by omega)]; exact putBytes_len n
      rw [h1] at f14
      exact w2.walk (hr0 := ⟨hr0⟩) (hc0 := ⟨hc0⟩) (hb := ⟨hb⟩) (h1 := ⟨f1⟩) (h2 := ⟨f2⟩) (h3 := ⟨f3⟩) (h4 := ⟨f4⟩) (h5 := ⟨f5⟩) (h6 := ⟨f6⟩) (h7 := ⟨f7⟩) (h8 := ⟨f8⟩) (h9 := ⟨f9⟩) (h10 := ⟨f10⟩) (h11 := ⟨f11⟩) (h12 := ⟨f12⟩) (h14 := ⟨f14⟩) (h15 := ⟨f15⟩) (h16 := ⟨f16⟩) (h17 := ⟨f17⟩) (h18 := ⟨f18⟩) (h19 := ⟨f19⟩) (h20 := ⟨f20⟩) (h21 := ⟨f21⟩) (h22 := ⟨f22⟩) (h23 := ⟨f23⟩) (h24 := ⟨f24⟩) (h25 := ⟨f25⟩) (hLW := ⟨hL⟩) (hpl := hq1) (hpl2 := hq2) (hpos := by omega) (acc := acc) (ha0 := ⟨A0'⟩) (ha1 := ⟨A1'⟩) (hst := ⟨ST⟩) (g1 := G1) (g2 := G2)
    · have h0 : putIs x = [] := by unfold putIs; rw [if_neg cx]
      generalize getIs (putIs x) 0 = qb at f14
      obtain ⟨n, nx, gok⟩ := qb
      rw [h0] at f2 f9 f14
      exact w3.walk (hr0 := ⟨hr0⟩) (hc0 := ⟨hc0⟩) (hb := ⟨hb⟩) (h1 := ⟨f1⟩) (h2 := ⟨f2⟩) (h3 := ⟨f3⟩) (h4 := ⟨f4⟩) (h5 := ⟨f5⟩) (h6 := ⟨f6⟩) (h7 := ⟨f7⟩) (h8 := ⟨f8⟩) (h9 := ⟨f9⟩) (h10 := ⟨f10⟩) (h11 := ⟨f11⟩) (h12 := ⟨f12⟩) (h14 := ⟨f14⟩) (h15 := ⟨f15⟩) (h16 := ⟨f16⟩) (h17 := ⟨f17⟩) (h18 := ⟨f18⟩) (h19 := ⟨f19⟩) (h20 := ⟨f20⟩) (h21 := ⟨f21⟩) (h22 := ⟨f22⟩) (h23 := ⟨f23⟩) (h24 := ⟨f24⟩) (h25 := ⟨f25⟩) (hLW := ⟨hL⟩) (hpl := hq1) (hpl2 := hq2) (hpos := by simp) (acc := acc) (ha0 := ⟨A0'⟩) (ha1 := ⟨A1'⟩) (hst := ⟨ST⟩) (g1 := G1) (g2 := G2)
end Go.Proofs.YtcnciodmhbejiaaDoor.Law
