/- Whatever is drawn: payments are read from their texts as they were, and the two tell the same of each text; no condition beyond the row's own (the library's tables lie as the program's text lays them). -/
import Derived.Test.YtbecffgalndagaaDoorS
import Derived.Test.YtbecffgalndagaaDoorPFnTxsx1
import Derived.Test.YtbecffgalndagaaDoorPFnTxsx2
import Derived.Test.YtbecffgalndagaaDoorPFnTxsx3
import Derived.Test.YtbecffgalndagaaDoorPFnTxsx4
import Derived.Test.YtbecffgalndagaaDoorPFnTxsx5
import Derived.Test.YtbecffgalndagaaDoorPFnTxsx6
import Derived.Test.YtbecffgalndagaaDoorPFnTxsx7
import Derived.Test.YtbecffgalndagaaDoorPFnTxsx8
namespace Go.Proofs.YtbecffgalndagaaDoor.Pure
open Go.RowKit Go.Proofs.YtbecffgalndagaaDoor.PFnTxs Go.Proofs.YtbecffgalndagaaDoorW.PrintWords Go.Proofs.YtbecffgalndagaaDoorW.PrintLast Go.Proofs.YtbecffgalndagaaDoorS

section
set_option linter.unusedVariables false
set_option linter.unusedSimpArgs false
theorem up1 (n : Nat) (h : n < 4611686018427387904) : wrap64 ((n : Int) + 1) = ((n + 1 : Nat) : Int) := by
  unfold wrap64; omega
theorem up1' (a : Int) (h0 : -4611686018427387904 ≤ a) (h : a < 4611686018427387904) : wrap64 (a + 1) = a + 1 := by
  unfold wrap64; omega
theorem dn1 (a : Int) (h0 : -4611686018427387904 ≤ a) (h : a < 4611686018427387904) : wrap64 (a - 1) = a - 1 := by
  unfold wrap64; omega
theorem wrapI (a : Int) (h0 : -4611686018427387904 ≤ a) (h : a < 4611686018427387904) : wrap64 a = a := by
  unfold wrap64; omega
theorem rd_nat (xs : List Int) (n : Nat) (h : n < xs.length) : rd xs (n : Int) = xs[n] := by
  unfold rd; simp [List.getD_eq_getElem?_getD, h]
theorem ev_eq {α : Type} {g : Nat → Option α} {r s : α} (h : Ev g r) (e : r = s) : Ev g s := e ▸ h
theorem ev_ite {α : Type} {c : Prop} [Decidable c] {g f : Nat → Option α} {r s : α} (hg : c → Ev g r) (hf : ¬ c → Ev f s) : Ev (fun k => if c then g k else f k) (if c then r else s) := by
  by_cases h : c
  · simp only [if_pos h]; exact hg h
  · simp only [if_neg h]; exact hf h
theorem ev_pos {α : Type} {c : Prop} [Decidable c] {g f : Nat → Option α} {r : α} (h : c) (hg : Ev g r) : Ev (fun k => if c then g k else f k) r := by
  simp only [if_pos h]; exact hg
theorem ev_neg {α : Type} {c : Prop} [Decidable c] {g f : Nat → Option α} {r : α} (h : ¬ c) (hf : Ev f r) : Ev (fun k => if c then g k else f k) r := by
  simp only [if_neg h]; exact hf
theorem ev_some {α : Type} {r s : α} (e : r = s) : Ev (fun _ => some r) s := e ▸ Ev.now r
theorem ev_const {α β : Type} {o : Option α} {f : Nat → α → Option β} {a : α} {r : β} (h : o = some a) (k : Ev (fun n => f n a) r) : Ev (fun n => o.bind (f n)) r := by
  subst h; exact k
theorem ev_up {α : Type} {g : Nat → Option α} {r : α} (h : Ev (fun k => g (k + 1)) r) : Ev g r := by
  obtain ⟨K, hK⟩ := h
  refine ⟨K + 1, fun k hk => ?_⟩
  obtain ⟨m, rfl⟩ : ∃ m, k = m + 1 := ⟨k - 1, by omega⟩
  exact hK m (by omega)
theorem wNat (c : Nat) (h : c < 4611686018427387904) : wrap64 (c : Int) = (c : Int) := by unfold wrap64; omega
theorem wAdd (a i : Nat) (h : a + i < 4611686018427387904) : wrap64 ((a : Int) + (i : Int)) = ((a + i : Nat) : Int) := by unfold wrap64; omega
theorem wAdd1 (a i : Nat) (h : a + i < 4611686018427387904) : wrap64 (((a + i : Nat) : Int) + 1) = (a : Int) + ((i + 1 : Nat) : Int) := by unfold wrap64; omega
theorem wSub (a i : Nat) (h : a < 4611686018427387904) (h' : i < 4611686018427387904) : wrap64 ((a : Int) - (i : Int)) = (a : Int) - (i : Int) := by unfold wrap64; omega
theorem tmod128 (c : Nat) : Int.tmod (c : Int) 128 = ((c % 128 : Nat) : Int) := by rw [Int.tmod_eq_emod_of_nonneg (by omega)]; omega
theorem all_drop {α : Type} {P : α → Prop} {l : List α} {i : Nat} (h : i < l.length) : (∀ x ∈ l.drop i, P x) ↔ P l[i] ∧ ∀ x ∈ l.drop (i + 1), P x := by
  rw [List.drop_eq_getElem_cons h, List.forall_mem_cons]

theorem and_range (x y : Int) (m : Nat) (hy : y = (m : Int)) (hm : m < 4611686018427387904) : 0 ≤ Go.bits .and .i64 x y ∧ Go.bits .and .i64 x y ≤ (m : Int) := by
  subst hy
  have h2 : ((BitVec.ofInt 64 x) &&& (BitVec.ofInt 64 (m : Int))).toNat ≤ m := by
    rw [BitVec.toNat_and]
    refine Nat.le_trans Nat.and_le_right ?_
    rw [BitVec.ofInt_natCast, BitVec.toNat_ofNat]
    exact Nat.mod_le _ _
  have e : Go.bits .and .i64 x (m : Int) = IntKind.i64.wrap (((BitVec.ofInt 64 x) &&& (BitVec.ofInt 64 (m : Int))).toNat : Int) := rfl
  rw [e]
  generalize ((BitVec.ofInt 64 x) &&& (BitVec.ofInt 64 (m : Int))).toNat = q at h2
  rw [IntKind.wrap_i64]
  omega
/-- A cursor's place. -/
def Cur (i : Int) : Prop := 0 ≤ i ∧ i ≤ 1099511627776
theorem l1New_ev (l : List Int) (hl : l.length ≤ 1048576) : ∃ h : Int, Ev (fun k => spec_l1New.f k l) (l, 0, h) := by
  have loop : ∀ (d n : Nat) (h : Int), l.length - n = d → n ≤ l.length → ∃ h', Ev (fun k => spec_l1New.l0 k l h (n : Int)) (l, 0, h') := by
    intro d
    induction d with
    | zero =>
      intro n h hd hn
      exact ⟨h, Ev.step (f := fun _ => some (l, 0, h)) (fun k => by simp only [spec_l1New.l0]; rw [if_neg (by omega)]) (ev_some rfl)⟩
    | succ d ih =>
      intro n h hd hn
      by_cases c : (n : Int) < 4000
      · obtain ⟨h', hh⟩ := ih (n + 1) (Go.bits .and .i64 (wrap64 ((wrap64 ((wrap64 (h * 131)) + (wrap64 (rd l (n : Int))))) + 7)) 1073741823) (by omega) (by omega)
        refine ⟨h', Ev.step (f := fun k => spec_l1New.l0 k l (Go.bits .and .i64 (wrap64 ((wrap64 ((wrap64 (h * 131)) + (wrap64 (rd l (n : Int))))) + 7)) 1073741823) ((n + 1 : Nat) : Int)) (fun k => ?_) hh⟩
        simp only [spec_l1New.l0]
        rw [if_pos (by omega), if_pos c, if_pos (by omega), up1 n (by omega)]
      · exact ⟨h, Ev.step (f := fun _ => some (l, 0, h)) (fun k => by simp only [spec_l1New.l0]; rw [if_pos (by omega), if_neg c]) (ev_some rfl)⟩
  unfold spec_l1New.f
  exact loop l.length 0 _ (by omega) (by omega)

theorem l1Byte_some (l : List Int) (i h : Int) (hl : l.length ≤ 1048576) (hi : Cur i) : ∃ v i' h', spec_l1Byte.f l i h = some (v, i', h') ∧ 0 ≤ v ∧ v ≤ 255 ∧ Cur i' := by
  unfold spec_l1Byte.f
  by_cases c : i < (l.length : Int)
  · rw [if_pos c, if_pos hi.1]
    refine ⟨_, _, _, rfl, (and_range _ 255 255 rfl (by omega)).1, (and_range _ 255 255 rfl (by omega)).2, ?_⟩
    rw [up1' i (by unfold Cur at hi; omega) (by unfold Cur at hi; omega)]
    unfold Cur at hi ⊢; omega
  · rw [if_neg c]
    exact ⟨_, _, _, rfl, (and_range _ 255 255 rfl (by omega)).1, (and_range _ 255 255 rfl (by omega)).2, hi⟩

theorem l1Below_some (l : List Int) (i h n : Int) (hl : l.length ≤ 1048576) (hi : Cur i) (hn : 0 < n) (hn' : n ≤ 256) : ∃ v i' h', spec_l1Below.f l i h n = some (v, i', h') ∧ 0 ≤ v ∧ v < n ∧ Cur i' := by
  obtain ⟨v, i', h', e, h0, h1, hc⟩ := l1Byte_some l i h hl hi
  unfold spec_l1Below.f
  rw [if_neg (by omega), if_pos hn', e, Option.bind_some, if_neg (by omega)]
  refine ⟨_, _, _, rfl, ?_, ?_, hc⟩
  · exact Int.tmod_nonneg _ h0
  · exact Int.tmod_lt_of_pos _ hn

theorem l1PickInt_some (l : List Int) (i h : Int) (xs : List Int) (hl : l.length ≤ 1048576) (hi : Cur i) (hx : 0 < xs.length) (hx' : xs.length ≤ 256) : ∃ v i' h', spec_l1PickInt.f l i h xs = some (v, i', h') ∧ v ∈ xs ∧ Cur i' := by
  obtain ⟨v, i', h', e, h0, h1, hc⟩ := l1Below_some l i h (xs.length : Int) hl hi (by omega) (by omega)
  unfold spec_l1PickInt.f
  rw [e, Option.bind_some, if_pos h0, if_pos h1]
  refine ⟨_, _, _, rfl, ?_, hc⟩
  obtain ⟨m, rfl⟩ := Int.eq_ofNat_of_zero_le h0
  rw [rd_nat xs m (by omega)]
  exact List.getElem_mem _

theorem l2DrawRight_some (l : List Int) (i h : Int) (hl : l.length ≤ 1048576) (hi : Cur i) : ∃ f t a m i' h', spec_l2DrawRight.f l i h = some (f, t, a, m, i', h') ∧ (0 ≤ f ∧ f ≤ 3) ∧ (0 ≤ t ∧ t ≤ 3) ∧ (0 ≤ a ∧ a ≤ 1000) ∧ (0 ≤ m ∧ m ≤ 2) ∧ Cur i' := by
  obtain ⟨f, i1, h1, e1, f0, f1, c1⟩ := l1Below_some l i h 4 hl hi (by omega) (by omega)
  obtain ⟨t, i2, h2, e2, t0, t1, c2⟩ := l1Below_some l i1 h1 4 hl c1 (by omega) (by omega)
  obtain ⟨a, i3, h3, e3, ha, c3⟩ := l1PickInt_some l i2 h2 [0, 5, 60, 100, 1000] hl c2 (by decide) (by decide)
  obtain ⟨m, i4, h4, e4, m0, m1, c4⟩ := l1Below_some l i3 h3 3 hl c3 (by omega) (by omega)
  unfold spec_l2DrawRight.f
  rw [e1, Option.bind_some, e2, Option.bind_some, e3, Option.bind_some, e4, Option.bind_some]
  refine ⟨_, _, _, _, _, _, rfl, ⟨f0, by omega⟩, ⟨t0, by omega⟩, ?_, ⟨m0, by omega⟩, c4⟩
  simp only [List.mem_cons, List.not_mem_nil, or_false] at ha
  omega

theorem l2Draw_some (l : List Int) (i h : Int) (hl : l.length ≤ 1048576) (hi : Cur i) : ∃ f t a m i' h', spec_l2Draw.f l i h = some (f, t, a, m, i', h') ∧ (-1 ≤ f ∧ f ≤ 4) ∧ (-1 ≤ t ∧ t ≤ 4) ∧ (-1 ≤ a ∧ a ≤ 1001) ∧ (-1 ≤ m ∧ m ≤ 100) ∧ Cur i' := by
  obtain ⟨f, t, a, m, i1, h1, e1, hf, ht, ha, hm, c1⟩ := l2DrawRight_some l i h hl hi
  obtain ⟨v, i2, h2, e2, v0, v1, c2⟩ := l1Below_some l i1 h1 12 hl c1 (by omega) (by omega)
  obtain ⟨x, i3, h3, e3, hx, c3⟩ := l1PickInt_some l i2 h2 [-1, 4] hl c2 (by decide) (by decide)
  obtain ⟨y, i4, h4, e4, hy, c4⟩ := l1PickInt_some l i2 h2 [-1, 1001] hl c2 (by decide) (by decide)
  obtain ⟨z, i5, h5, e5, hz, c5⟩ := l1PickInt_some l i2 h2 [-1, 99, 100] hl c2 (by decide) (by decide)
  simp only [List.mem_cons, List.not_mem_nil, or_false] at hx hy hz
  unfold spec_l2Draw.f
  rw [e1, Option.bind_some]
  simp only
  rw [e2, Option.bind_some]
  simp only
  by_cases d0 : v = 0
  · rw [if_pos d0, e3, Option.bind_some]; exact ⟨_, _, _, _, _, _, rfl, by omega, by omega, by omega, by omega, c3⟩
  rw [if_neg d0]
  by_cases d1 : v = 1
  · rw [if_pos d1, e3, Option.bind_some]; exact ⟨_, _, _, _, _, _, rfl, by omega, by omega, by omega, by omega, c3⟩
  rw [if_neg d1]
  by_cases d2 : v = 2
  · rw [if_pos d2, e4, Option.bind_some]; exact ⟨_, _, _, _, _, _, rfl, by omega, by omega, by omega, by omega, c4⟩
  rw [if_neg d2]
  by_cases d3 : v = 3
  · rw [if_pos d3, e5, Option.bind_some]; exact ⟨_, _, _, _, _, _, rfl, by omega, by omega, by omega, by omega, c5⟩
  rw [if_neg d3]
  exact ⟨_, _, _, _, _, _, rfl, by omega, by omega, by omega, by omega, c2⟩

theorem DrawTxText_ev (l : List Int) (hl : l.length ≤ 1048576) : ∃ f t a m, Ev (fun k => spec_DrawTxText.f k l) (f, t, a, m) := by
  obtain ⟨x, hx⟩ := l1New_ev l hl
  obtain ⟨f, t, a, m, i2, h2, e2, _, _, _, _, _⟩ := l2Draw_some l 0 x hl (by unfold Cur; omega)
  refine ⟨f, t, a, m, ?_⟩
  unfold spec_DrawTxText.f
  refine Ev.bind hx ?_
  simp only
  rw [e2]
  exact ev_some rfl

theorem impl_within_val (a b c : Int) : impl_within.f a b c = some (decide (b ≤ a ∧ a ≤ c)) := by
  unfold impl_within.f
  by_cases h : a ≥ b <;> by_cases h2 : a ≤ c <;> simp [h, h2] <;> omega

def txIs (f t a n : Int) : Prop := (0 ≤ f ∧ f ≤ 3) ∧ (0 ≤ t ∧ t ≤ 3) ∧ (0 ≤ a ∧ a ≤ 1000) ∧ 0 ≤ n ∧ n ≤ 99
instance (f t a n : Int) : Decidable (txIs f t a n) := by unfold txIs; infer_instance
theorem impl_TxOk_val (f t a n : Int) : impl_TxOk.f f t a n = some (decide (txIs f t a n)) := by
  unfold impl_TxOk.f txIs
  simp only [impl_within_val, Option.bind_some, decide_eq_true_eq]
  by_cases h1 : 0 ≤ f ∧ f ≤ 3 <;> by_cases h2 : 0 ≤ t ∧ t ≤ 3 <;> by_cases h3 : 0 ≤ a ∧ a ≤ 1000 <;> simp only [h1, h2, h3, if_true, if_false, true_and, false_and, and_false, and_self, decide_false]

abbrev B (l : List UInt8) : ByteArray := ⟨l.toArray⟩
theorem B_list (l : List UInt8) : (B l).data.toList = l := by simp
theorem B_of (s : ByteArray) : B s.data.toList = s := Lib.mk_data s
theorem B_size (l : List UInt8) : (B l).size = l.length := by simp [ByteArray.size]
theorem B_app (l m : List UInt8) : B l ++ B m = B (l ++ m) := by
  rw [← B_of (B l ++ B m)]
  congr 2
  first | done | simp
theorem B_toList (l : List UInt8) : (B l).toList = l := by rw [Lib.toList_data, B_list]
theorem B_eq {l m : List UInt8} : B l = B m ↔ l = m := ⟨fun h => by have := congrArg (fun s : ByteArray => s.data.toList) h; simpa using this, fun h => by rw [h]⟩
theorem B_eta (s : ByteArray) : ∃ l, s = B l ∧ s.size = l.length ∧ s.data.toList = l := ⟨s.data.toList, (B_of s).symm, Lib.size_eq s, rfl⟩
theorem nums_B (xs : List Int) : strOfNums xs = B (xs.map fun n => UInt8.ofNat n.toNat) := rfl
theorem bt_B (l : List UInt8) (i : Nat) (h : i < l.length) : bt (B l) (i : Int) = (l[i].toNat : Int) := by
  rw [← bt_at (B l) i (by rw [Int.toNat_natCast, B_size]; exact h)]
  rfl
theorem bt_mid (pre suf : List UInt8) (b : UInt8) : bt (B (pre ++ b :: suf)) (pre.length : Int) = (b.toNat : Int) := by
  rw [bt_B _ _ (by simp)]
  simp
theorem extract_B (l : List UInt8) (a b : Nat) : (B l).extract a b = B ((l.drop a).take (b - a)) := by rw [Lib.extract_eq, B_list]
theorem B_nil : (⟨#[]⟩ : ByteArray) = B [] := rfl
theorem impl_Digits_val (n : Int) (h0 : -9223372036854775808 ≤ n) (h1 : n ≤ 9223372036854775807) : impl_Digits.f n = some (B (Lib.itoa n)) := by
  unfold impl_Digits.f strconv_Itoa.f
  rw [if_pos ⟨h0, h1⟩]; rfl

theorem itoa_len (n : Int) (h0 : 0 ≤ n) (h1 : n ≤ 1000) : (Lib.itoa n).length ≤ 4 := by
  obtain ⟨u, rfl⟩ := Int.eq_ofNat_of_zero_le h0
  rw [itoa_nat]
  exact dec_len 3 u (by omega)
theorem rawB (x : Tx) : ((((((B (Lib.itoa x.1) ++ (⟨#[62]⟩ : ByteArray)) ++ B (Lib.itoa x.2.1)) ++ (⟨#[58]⟩ : ByteArray)) ++ B (Lib.itoa x.2.2.1)) ++ (⟨#[35]⟩ : ByteArray)) ++ B (Lib.itoa x.2.2.2)) = B (rawT x) := by
  rw [show (⟨#[62]⟩ : ByteArray) = B [62] from rfl, show (⟨#[58]⟩ : ByteArray) = B [58] from rfl, show (⟨#[35]⟩ : ByteArray) = B [35] from rfl]
  simp only [B_app]
  unfold rawT
  simp
theorem raw_len (x : Tx) (h : okT x) : (rawT x).length ≤ 19 := by
  unfold okT at h
  have a := itoa_len x.1 (by omega) (by omega)
  have b := itoa_len x.2.1 (by omega) (by omega)
  have c := itoa_len x.2.2.1 (by omega) (by omega)
  have d := itoa_len x.2.2.2 (by omega) (by omega)
  unfold rawT
  simp only [List.length_append, List.length_cons]
  omega
theorem impl_TxText_val (f t a n : Int) : impl_TxText.f f t a n = some (B (textT (f, t, a, n))) := by
  unfold impl_TxText.f
  simp only [impl_TxOk_val, Option.bind_some]
  by_cases c : txIs f t a n
  · have c' : okT (f, t, a, n) := c
    have c2 := c
    unfold txIs at c2
    have h1 := itoa_len f (by omega) (by omega)
    have h2 := itoa_len t (by omega) (by omega)
    have h3 := itoa_len a (by omega) (by omega)
    have h4 := itoa_len n (by omega) (by omega)
    have s1 := B_size (Lib.itoa f)
    have s2 := B_size (Lib.itoa t)
    have s3 := B_size (Lib.itoa a)
    have s4 := B_size (Lib.itoa n)
    have z1 : (⟨#[62]⟩ : ByteArray).size = 1 := rfl
    have z2 : (⟨#[58]⟩ : ByteArray).size = 1 := rfl
    have z3 : (⟨#[35]⟩ : ByteArray).size = 1 := rfl
    have ht : textT (f, t, a, n) = rawT (f, t, a, n) := by unfold textT; rw [if_pos c']
    rw [ht]
    simp only [decide_eq_true c, if_true]
    rw [impl_Digits_val f (by omega) (by omega), Option.bind_some, if_pos (by omega), impl_Digits_val t (by omega) (by omega), Option.bind_some, if_pos (by rw [ByteArray.size_append]; omega), if_pos (by rw [ByteArray.size_append, ByteArray.size_append]; omega),
      impl_Digits_val a (by omega) (by omega), Option.bind_some, if_pos (by rw [ByteArray.size_append, ByteArray.size_append, ByteArray.size_append]; omega), if_pos (by rw [ByteArray.size_append, ByteArray.size_append, ByteArray.size_append, ByteArray.size_append]; omega),
      impl_Digits_val n (by omega) (by omega), Option.bind_some, if_pos (by rw [ByteArray.size_append, ByteArray.size_append, ByteArray.size_append, ByteArray.size_append, ByteArray.size_append]; omega)]
    exact congrArg some (rawB (f, t, a, n))
  · have ht : textT (f, t, a, n) = [] := by unfold textT; rw [if_neg (show ¬ okT (f, t, a, n) from c)]
    rw [ht]
    simp only [decide_eq_false c, Bool.false_eq_true, if_false]

theorem spec_l1In_val (a b c : Int) : spec_l1In.f a b c = some (decide (b ≤ a ∧ a ≤ c)) := by
  unfold spec_l1In.f
  by_cases h : a ≥ b <;> by_cases h2 : a ≤ c <;> simp [h, h2] <;> omega

theorem spec_TxOk_val (f t a n : Int) : spec_TxOk.f f t a n = some (decide (txIs f t a n)) := by
  unfold spec_TxOk.f txIs
  simp only [spec_l1In_val, Option.bind_some, decide_eq_true_eq]
  by_cases h1 : 0 ≤ f ∧ f ≤ 3 <;> by_cases h2 : 0 ≤ t ∧ t ≤ 3 <;> by_cases h3 : 0 ≤ a ∧ a ≤ 1000 <;> simp only [h1, h2, h3, if_true, if_false, true_and, false_and, and_false, and_self, decide_false]

theorem digB (m : Int) (h0 : 0 ≤ m) (h1 : m < 10) : strOfNums [(wrap64 (48 + m)) % 256] = B [UInt8.ofNat (48 + m.toNat)] := by
  rw [nums_B]
  have : (wrap64 (48 + m)) % 256 = ((48 + m.toNat : Nat) : Int) := by unfold wrap64; omega
  rw [this]
  rfl
theorem Digits_zero (neg : Bool) (acc : List UInt8) (h : acc.length ≤ 100) : Ev (fun k => spec_Digits.l0 k 0 neg (B acc)) (B ((if neg = true then [45] else []) ++ acc)) := by
  have hs := B_size acc
  refine Ev.step (f := fun _ => some (B ((if neg = true then [45] else []) ++ acc))) (fun k => ?_) (Ev.now _)
  simp only [spec_Digits.l0]
  rw [if_pos trivial]
  by_cases c : neg = true
  · rw [if_pos c, if_pos (by omega), if_pos c, ← B_app]
  · rw [if_neg c, if_neg c, List.nil_append]
theorem Digits_loop : ∀ (d : Nat) (x : Int) (neg : Bool) (acc : List UInt8), x.natAbs < 10 ^ d → acc.length + d ≤ 100 → -9223372036854775808 ≤ x → x ≤ 9223372036854775807 →
    Ev (fun k => spec_Digits.l0 k x neg (B acc)) (B ((if neg = true then [45] else []) ++ ((if x.natAbs = 0 then [] else Lib.decDigits x.natAbs) ++ acc)))
  | 0, x, neg, acc, h, hl, h0, h1 => by
    obtain rfl : x = 0 := by simp at h; exact h
    exact Digits_zero neg acc (by omega)
  | d + 1, x, neg, acc, h, hl, h0, h1 => by
    by_cases hx : x = 0
    · subst hx
      exact Digits_zero neg acc (by omega)
    have hs := B_size acc
    have hq : (wrap64 (Int.tdiv x 10)).natAbs = x.natAbs / 10 ∧ -9223372036854775808 ≤ wrap64 (Int.tdiv x 10) ∧ wrap64 (Int.tdiv x 10) ≤ 9223372036854775807 := by
      have e : Int.tdiv x 10 = if 0 ≤ x then ((x.natAbs / 10 : Nat) : Int) else -((x.natAbs / 10 : Nat) : Int) := by
        split
        · rename_i hp
          obtain ⟨u, rfl⟩ := Int.eq_ofNat_of_zero_le hp
          rfl
        · rename_i hp
          obtain ⟨u, rfl⟩ : ∃ u : Nat, x = -(u : Int) := ⟨x.natAbs, by omega⟩
          rw [Int.neg_tdiv, Int.natAbs_neg, Int.natAbs_natCast]
          rfl
      rw [e]
      unfold wrap64
      split <;> omega
    have hm : Int.tmod x 10 = if 0 ≤ x then ((x.natAbs % 10 : Nat) : Int) else -((x.natAbs % 10 : Nat) : Int) := by
      split
      · rename_i hp
        obtain ⟨u, rfl⟩ := Int.eq_ofNat_of_zero_le hp
        rfl
      · rename_i hp
        obtain ⟨u, rfl⟩ : ∃ u : Nat, x = -(u : Int) := ⟨x.natAbs, by omega⟩
        rw [Int.neg_tmod, Int.natAbs_neg, Int.natAbs_natCast]
        rfl
    have h10 : x.natAbs < 10 * 10 ^ d := by rw [Nat.pow_succ] at h; omega
    have ih := Digits_loop d (wrap64 (Int.tdiv x 10)) neg (UInt8.ofNat (48 + x.natAbs % 10) :: acc) (by rw [hq.1]; omega) (by simp only [List.length_cons]; omega) hq.2.1 hq.2.2
    rw [hq.1] at ih
    have e : (if x.natAbs / 10 = 0 then [] else Lib.decDigits (x.natAbs / 10)) ++ (UInt8.ofNat (48 + x.natAbs % 10) :: acc) = (if x.natAbs = 0 then [] else Lib.decDigits x.natAbs) ++ acc := by
      rw [if_neg (show ¬ x.natAbs = 0 by omega)]
      by_cases hu : x.natAbs < 10
      · rw [if_pos (by omega), Lib.decDigits, dif_pos hu, Nat.mod_eq_of_lt hu]; rfl
      · rw [if_neg (by omega), show Lib.decDigits x.natAbs = Lib.decDigits (x.natAbs / 10) ++ [UInt8.ofNat (48 + x.natAbs % 10)] by rw [Lib.decDigits, dif_neg hu]]
        simp
    rw [e] at ih
    refine Ev.step (f := fun k => spec_Digits.l0 k (wrap64 (Int.tdiv x 10)) neg (B (UInt8.ofNat (48 + x.natAbs % 10) :: acc))) (fun k => ?_) ih
    simp only [spec_Digits.l0]
    rw [if_neg hx]
    by_cases c : Int.tmod x 10 < 0
    · rw [if_pos c, Option.bind_some]
      have e2 : wrap64 (-(Int.tmod x 10)) = ((x.natAbs % 10 : Nat) : Int) := by
        rw [hm] at c ⊢
        unfold wrap64
        split at c <;> rename_i hp
        · omega
        · rw [if_neg hp]; omega
      rw [e2, digB _ (by omega) (by omega), B_size, if_pos (by simp only [List.length_singleton]; omega), Int.toNat_natCast, B_app]
      rfl
    · rw [if_neg c, Option.bind_some]
      have e2 : Int.tmod x 10 = ((x.natAbs % 10 : Nat) : Int) := by
        rw [hm] at c ⊢
        split at c <;> rename_i hp
        · rw [if_pos hp]
        · rw [if_neg hp]; omega
      rw [e2, digB _ (by omega) (by omega), B_size, if_pos (by simp only [List.length_singleton]; omega), Int.toNat_natCast, B_app]
      rfl
theorem spec_Digits_ev (n : Int) (h0 : -9223372036854775808 ≤ n) (h1 : n ≤ 9223372036854775807) : Ev (fun k => spec_Digits.f k n) (B (Lib.itoa n)) := by
  unfold spec_Digits.f
  by_cases hn : n = 0
  · subst hn
    refine ev_pos rfl (ev_some ?_)
    rw [show Lib.itoa 0 = Lib.decDigits 0 from rfl, Lib.decDigits]
    rfl
  refine ev_neg hn ?_
  have h := Digits_loop 19 n (decide (n < 0)) [] (by omega) (by simp) h0 h1
  refine ev_eq h ?_
  rw [if_neg (show ¬ n.natAbs = 0 by omega), List.append_nil]
  unfold Lib.itoa
  by_cases c : n < 0
  · rw [if_pos (decide_eq_true c), if_pos c]; rfl
  · rw [if_neg (by simpa using c), if_neg c, show n.natAbs = n.toNat by omega]; rfl

theorem spec_TxText_ev (f t a n : Int) : Ev (fun k => spec_TxText.f k f t a n) (B (textT (f, t, a, n))) := by
  unfold spec_TxText.f
  simp only [spec_TxOk_val, Option.bind_some]
  by_cases c : txIs f t a n
  · have c' : okT (f, t, a, n) := c
    have c2 := c
    unfold txIs at c2
    have h1 := itoa_len f (by omega) (by omega)
    have h2 := itoa_len t (by omega) (by omega)
    have h3 := itoa_len a (by omega) (by omega)
    have h4 := itoa_len n (by omega) (by omega)
    have s1 := B_size (Lib.itoa f)
    have s2 := B_size (Lib.itoa t)
    have s3 := B_size (Lib.itoa a)
    have s4 := B_size (Lib.itoa n)
    have z1 : (⟨#[62]⟩ : ByteArray).size = 1 := rfl
    have z2 : (⟨#[58]⟩ : ByteArray).size = 1 := rfl
    have z3 : (⟨#[35]⟩ : ByteArray).size = 1 := rfl
    have ht : textT (f, t, a, n) = rawT (f, t, a, n) := by unfold textT; rw [if_pos c']
    rw [ht]
    simp only [decide_eq_true c, if_true]
    refine Ev.bind (spec_Digits_ev f (by omega) (by omega)) (ev_pos (by omega) ?_)
    refine Ev.bind (spec_Digits_ev t (by omega) (by omega)) (ev_pos (by rw [ByteArray.size_append]; omega) (ev_pos (by rw [ByteArray.size_append, ByteArray.size_append]; omega) ?_))
    refine Ev.bind (spec_Digits_ev a (by omega) (by omega)) (ev_pos (by rw [ByteArray.size_append, ByteArray.size_append, ByteArray.size_append]; omega) (ev_pos (by rw [ByteArray.size_append, ByteArray.size_append, ByteArray.size_append, ByteArray.size_append]; omega) ?_))
    refine Ev.bind (spec_Digits_ev n (by omega) (by omega)) (ev_pos (by rw [ByteArray.size_append, ByteArray.size_append, ByteArray.size_append, ByteArray.size_append, ByteArray.size_append]; omega) ?_)
    exact ev_some (rawB (f, t, a, n))
  · have ht : textT (f, t, a, n) = [] := by unfold textT; rw [if_neg (show ¬ okT (f, t, a, n) from c)]
    rw [ht]
    simp only [decide_eq_false c, Bool.false_eq_true, if_false]
    exact ev_some rfl

theorem l1Below_any (l : List Int) (i h n : Int) (hl : l.length ≤ 1048576) (hi : Cur i) (hn : 0 < n) : ∃ v i' h', spec_l1Below.f l i h n = some (v, i', h') ∧ 0 ≤ v ∧ v < n ∧ Cur i' := by
  by_cases c : n ≤ 256
  · exact l1Below_some l i h n hl hi hn c
  obtain ⟨a, i1, h1, e1, a0, a1, c1⟩ := l1Byte_some l i h hl hi
  obtain ⟨b, i2, h2, e2, b0, b1, c2⟩ := l1Byte_some l i1 h1 hl c1
  obtain ⟨d, i3, h3, e3, d0, d1, c3⟩ := l1Byte_some l i2 h2 hl c2
  obtain ⟨e, i4, h4, e4, f0, f1, c4⟩ := l1Byte_some l i3 h3 hl c3
  unfold spec_l1Below.f
  rw [if_neg (by omega), if_neg c, e1, Option.bind_some]
  simp only
  rw [e2, Option.bind_some]
  simp only
  rw [e3, Option.bind_some]
  simp only
  rw [e4, Option.bind_some, if_neg (by omega)]
  refine ⟨_, _, _, rfl, ?_, ?_, c4⟩
  · refine Int.tmod_nonneg _ ?_
    simp only
    unfold wrap64
    omega
  · exact Int.tmod_lt_of_pos _ hn
def DrawnT (N : Nat) (r : ByteArray × Int × Int) : Prop := ∃ s : List UInt8, r.1 = B s ∧ s.length ≤ N ∧ Cur r.2.1
theorem l1Pick_some (l : List Int) (i h : Int) (xs : List (List UInt8)) (hl : l.length ≤ 1048576) (hi : Cur i) (hx : 0 < xs.length) (hx' : xs.length ≤ 256) : ∃ v i' h', spec_l1Pick.f l i h (xs.map B) = some (B v, i', h') ∧ v ∈ xs ∧ Cur i' := by
  obtain ⟨v, i', h', e, h0, h1, hc⟩ := l1Below_some l i h ((xs.map B).length : Int) hl hi (by rw [List.length_map]; omega) (by rw [List.length_map]; omega)
  rw [List.length_map] at h1
  obtain ⟨m, rfl⟩ := Int.eq_ofNat_of_zero_le h0
  have hm : m < xs.length := by omega
  refine ⟨xs[m], i', h', ?_, List.getElem_mem hm, hc⟩
  unfold spec_l1Pick.f
  rw [e, Option.bind_some, if_pos h0, if_pos (by rw [List.length_map]; omega)]
  unfold rdOf
  rw [Int.toNat_natCast, List.getD_eq_getElem?_getD]
  simp [hm]

theorem l2Dent_some (l : List Int) (i h : Int) (s : List UInt8) (hl : l.length ≤ 1048576) (hi : Cur i) (hs : s.length ≤ 1048576) : ∃ r, spec_l2Dent.f l i h (B s) = some r ∧ DrawnT (s.length + 1) r := by
  have hw : wrap64 (((B s).size : Int) + 1) = (s.length : Int) + 1 := by rw [B_size, up1' _ (by omega) (by omega)]
  obtain ⟨v, i1, h1, e1, v0, v1, c1⟩ := l1Below_any l i h ((s.length : Int) + 1) hl hi (by omega)
  obtain ⟨u, i2, h2, e2, u0, u1, c2⟩ := l1Below_some l i1 h1 5 hl c1 (by omega) (by omega)
  obtain ⟨x, i3, h3, e3, hx, c3⟩ := l1Pick_some l i2 h2 [[48], [44], [62], [47], [124], [120], [49]] hl c2 (by decide) (by decide)
  have hx1 : x.length = 1 := by
    simp only [List.mem_cons, List.not_mem_nil, or_false] at hx
    rcases hx with rfl | rfl | rfl | rfl | rfl | rfl | rfl <;> rfl
  obtain ⟨m, rfl⟩ := Int.eq_ofNat_of_zero_le v0
  have hm : m ≤ s.length := by omega
  unfold spec_l2Dent.f
  rw [hw, e1, Option.bind_some]
  simp only
  rw [e2, Option.bind_some]
  simp only
  have t1 : (B s).extract 0 m = B (s.take m) := by rw [extract_B, List.drop_zero, Nat.sub_zero]
  have t2 : (B s).extract m (B s).size = B (s.drop m) := by rw [extract_B, B_size, List.take_of_length_le (by simp)]
  by_cases d0 : u = 0
  · rw [if_pos d0, if_pos (by omega), if_pos (by rw [B_size]; omega), Int.toNat_natCast, t1]
    exact ⟨_, rfl, _, rfl, by rw [List.length_take]; omega, c2⟩
  rw [if_neg d0]
  by_cases d1 : u = 1
  · rw [if_pos d1, if_pos (by omega), if_pos (by rw [B_size]; omega), Int.toNat_natCast, t1, t2]
    have e3' : spec_l1Pick.f l i2 h2 ([(⟨#[48]⟩ : ByteArray), (⟨#[44]⟩ : ByteArray), (⟨#[62]⟩ : ByteArray), (⟨#[47]⟩ : ByteArray), (⟨#[124]⟩ : ByteArray), (⟨#[120]⟩ : ByteArray), (⟨#[49]⟩ : ByteArray)] : List ByteArray) = some (B x, i3, h3) := e3
    rw [e3', Option.bind_some]
    simp only
    rw [if_pos (by rw [B_size, B_size, List.length_take]; omega), B_app, if_pos (by rw [B_size, B_size, List.length_append, List.length_take, List.length_drop]; omega), B_app]
    exact ⟨_, rfl, _, rfl, by rw [List.length_append, List.length_append, List.length_take, List.length_drop]; omega, c3⟩
  rw [if_neg d1]
  exact ⟨_, rfl, s, rfl, by omega, c2⟩

theorem textT_len (x : Tx) : (textT x).length ≤ 19 := by
  unfold textT
  split
  · exact raw_len x (by assumption)
  · simp
theorem DrawTxOf_ev (l : List Int) (hl : l.length ≤ 1048576) : ∃ s : List UInt8, s.length ≤ 2000 ∧ Ev (fun k => spec_DrawTxOf.f k l) (B s) := by
  obtain ⟨x, hx⟩ := l1New_ev l hl
  obtain ⟨f, t, a, m, i2, h2, e2, _, _, _, _, c2⟩ := l2DrawRight_some l 0 x hl (by unfold Cur; omega)
  have hlen := textT_len (f, t, a, m)
  obtain ⟨r, er, s, e, hs, _⟩ := l2Dent_some l i2 h2 (textT (f, t, a, m)) hl c2 (by omega)
  refine ⟨s, by omega, ?_⟩
  unfold spec_DrawTxOf.f
  refine Ev.bind hx ?_
  simp only
  rw [e2]
  simp only [Option.bind_some]
  refine Ev.bind (spec_TxText_ev f t a m) ?_
  rw [er]
  exact ev_some e

theorem ten_pow (n : Nat) (h : n ≤ 6) : 10 ^ n ≤ 1000000 := Nat.pow_le_pow_right (by decide) h
theorem impl_Number_loop : ∀ (suf pre : List UInt8) (v : Nat), v < 10 ^ pre.length → (pre ++ suf).length ≤ 6 →
    Ev (fun k => impl_Number.l0 k (B (pre ++ suf)) (v : Int) (pre.length : Int)) (match numL v suf with | none => ((0 : Int), false) | some n => if Lib.decDigits n = pre ++ suf then ((n : Int), true) else (0, false))
  | [], pre, v, hv, hl => by
    rw [List.append_nil] at hl ⊢
    have hs := B_size pre
    have ht := ten_pow pre.length hl
    refine Ev.step (f := fun k => (impl_Digits.f (v : Int)).bind fun t => (if t.toList = (B pre).toList then (some ((v : Int), true)) else (some (0, false)))) (fun k => by simp only [impl_Number.l0]; rw [if_neg (by omega)]) ?_
    rw [numL]
    refine ev_const (impl_Digits_val v (by omega) (by omega)) ?_
    simp only
    rw [itoa_nat, B_toList, B_toList]
    by_cases c : Lib.decDigits v = pre
    · exact ev_pos c (ev_some (by rw [if_pos c]))
    · exact ev_neg c (ev_some (by rw [if_neg c]))
  | b :: suf, pre, v, hv, hl => by
    have hs := B_size (pre ++ b :: suf)
    have hb := b.toNat_lt
    simp only [List.length_append, List.length_cons] at hl hs
    have ht := ten_pow pre.length (by omega)
    have hbt := bt_mid pre suf b
    rw [numL]
    by_cases c : 48 ≤ b.toNat ∧ b.toNat ≤ 57
    · rw [if_pos c]
      have ih := impl_Number_loop suf (pre ++ [b]) (10 * v + (b.toNat - 48)) (by rw [List.length_append, List.length_singleton, Nat.pow_succ]; omega) (by simp; omega)
      rw [List.append_assoc, List.singleton_append] at ih
      refine Ev.step (f := fun k => impl_Number.l0 k (B (pre ++ b :: suf)) (((10 * v + (b.toNat - 48) : Nat)) : Int) (((pre ++ [b]).length : Nat) : Int)) (fun k => ?_) ih
      simp only [impl_Number.l0]
      rw [if_pos (by omega), if_pos (by omega), hbt, if_neg (by omega), if_neg (by omega)]
      congr 1
      · rw [wrapI (10 * (v : Int)) (by omega) (by omega), Int.emod_eq_of_lt (by omega) (by omega), wrapI (10 * (v : Int) + ((b.toNat : Int) - 48)) (by omega) (by omega)]; omega
      · rw [List.length_append, List.length_singleton]; exact up1 _ (by omega)
    · rw [if_neg c]
      refine Ev.step (f := fun _ => some (0, false)) (fun k => ?_) (ev_some rfl)
      simp only [impl_Number.l0]
      rw [if_pos (by omega), if_pos (by omega), hbt]
      by_cases c1 : (b.toNat : Int) < 48
      · rw [if_pos c1]
      · rw [if_neg c1, if_pos (by omega)]
theorem impl_Number_ev (l : List UInt8) : Ev (fun k => impl_Number.f k (B l)) (num l, (numF l).2) := by
  have hs := B_size l
  have hj : Ev (fun k => impl_Number.j0 k (B l) true) ((0 : Int), false) := Ev.step (f := fun _ => some (0, false)) (fun k => by simp only [impl_Number.j0]; rw [if_pos trivial]) (ev_some rfl)
  unfold impl_Number.f
  by_cases c : l.length < 1
  · have e : numF l = (0, false) := by unfold numF; rw [if_pos (.inl c)]
    unfold num
    rw [e]
    exact ev_pos (by omega) hj
  refine ev_neg (by omega) ?_
  by_cases c2 : 6 < l.length
  · have e : numF l = (0, false) := by unfold numF; rw [if_pos (.inr c2)]
    unfold num
    rw [e, decide_eq_true (show ((B l).size : Int) > 6 by omega)]
    exact hj
  rw [decide_eq_false (show ¬ ((B l).size : Int) > 6 by omega)]
  have h := impl_Number_loop l [] 0 (by simp) (by simpa using Nat.not_lt.1 c2)
  refine Ev.step (f := fun k => impl_Number.l0 k (B l) 0 0) (fun k => by simp only [impl_Number.j0]; rw [if_neg (by decide)]) ?_
  refine ev_eq h ?_
  unfold num numF
  rw [if_neg (by omega)]
  simp only [List.nil_append]
  cases numL 0 l with
  | none => rfl
  | some n =>
    simp only
    by_cases c3 : Lib.decDigits n = l
    · rw [if_pos c3, if_pos c3]
    · rw [if_neg c3, if_neg c3]; rfl

theorem byte_of (a : Int) (h0 : 0 ≤ a) (h1 : a ≤ 255) : ∃ c : UInt8, a = (c.toNat : Int) := ⟨UInt8.ofNat a.toNat, by rw [UInt8.toNat_ofNat', Nat.mod_eq_of_lt (by omega)]; omega⟩
theorem byte_eq {b c : UInt8} : ((b.toNat : Int) = (c.toNat : Int)) ↔ b = c := ⟨fun h => UInt8.toNat_inj.1 (by omega), fun h => by rw [h]⟩
theorem splitL_len (c : UInt8) : ∀ l : List UInt8, (splitL c l).length ≤ l.length + 1
  | [] => by simp [splitL]
  | b :: l => by
    have ih := splitL_len c l
    rw [splitL]
    by_cases h : b = c
    · rw [if_pos h]; simp only [List.length_cons]; omega
    · rw [if_neg h]
      split <;> rename_i he
      · rw [he] at ih; simp only [List.length_cons] at ih ⊢; omega
      · simp
theorem ext_mid (pre seg suf : List UInt8) : (B (pre ++ seg ++ suf)).extract pre.length (pre.length + seg.length) = B seg := by
  rw [extract_B, List.append_assoc, List.drop_left, Nat.add_sub_cancel_left, List.take_left]
theorem cutL_le {c : UInt8} {l a r : List UInt8} (h : cutL c l = some (a, r)) : a.length ≤ l.length ∧ r.length ≤ l.length := by
  obtain ⟨rfl, _⟩ := cutL_some h
  simp only [List.length_append, List.length_cons]
  omega
/-- The answer of TxOf, as the program hands it back. -/
def txRes (o : Option Tx) : Int × Int × Int × Int × Bool := match o with | some x => (x.1, x.2.1, x.2.2.1, x.2.2.2, true) | none => (0, 0, 0, 0, false)
theorem ofT_not {s : List UInt8} {x : Tx} (h : okT x) (e : rawT x = s) : ofT s = some x := (ofT_iff s x).2 ⟨h, e⟩
theorem ofT_none {s : List UInt8} (h : ∀ x, okT x → rawT x ≠ s) : ofT s = none := by
  cases e : ofT s with
  | none => rfl
  | some x => exact absurd (ofT_some e).2 (h x (ofT_some e).1)
theorem raw_cuts (x : Tx) (h : okT x) : ∃ a b c d, cutL 62 (rawT x) = some (a, b ++ 58 :: (c ++ 35 :: d)) ∧ cutL 58 (b ++ 58 :: (c ++ 35 :: d)) = some (b, c ++ 35 :: d) ∧ cutL 35 (c ++ 35 :: d) = some (c, d) := by
  have h' := h
  unfold okT at h'
  refine ⟨Lib.itoa x.1, Lib.itoa x.2.1, Lib.itoa x.2.2.1, Lib.itoa x.2.2.2, ?_, ?_, ?_⟩
  · unfold rawT; exact cutL_at (itoa_not _ h'.1.1 _ (by decide))
  · exact cutL_at (itoa_not _ h'.2.1.1 _ (by decide))
  · exact cutL_at (itoa_not _ h'.2.2.1.1 _ (by decide))
theorem ofT_cut1 {s : List UInt8} (h : cutL 62 s = none) : ofT s = none := ofT_none fun x hx e => by
  obtain ⟨a, b, c, d, h1, _, _⟩ := raw_cuts x hx
  rw [e, h] at h1; cases h1
theorem ofT_cut2 {s a r : List UInt8} (h1 : cutL 62 s = some (a, r)) (h : cutL 58 r = none) : ofT s = none := ofT_none fun x hx e => by
  obtain ⟨a', b, c, d, h2, h3, _⟩ := raw_cuts x hx
  rw [e, h1] at h2
  obtain ⟨rfl, rfl⟩ := Prod.mk.inj (Option.some.inj h2)
  rw [h] at h3; cases h3
theorem ofT_cut3 {s a r b r2 : List UInt8} (h1 : cutL 62 s = some (a, r)) (h2 : cutL 58 r = some (b, r2)) (h : cutL 35 r2 = none) : ofT s = none := ofT_none fun x hx e => by
  obtain ⟨a', b', c, d, h3, h4, h5⟩ := raw_cuts x hx
  rw [e, h1] at h3
  obtain ⟨rfl, rfl⟩ := Prod.mk.inj (Option.some.inj h3)
  rw [h2] at h4
  obtain ⟨rfl, rfl⟩ := Prod.mk.inj (Option.some.inj h4)
  rw [h] at h5; cases h5
/-- What a text tells once its words are known; 'v': the reading that is tried. -/
theorem ofT_words {s a r b r2 c d : List UInt8} (h1 : cutL 62 s = some (a, r)) (h2 : cutL 58 r = some (b, r2)) (h3 : cutL 35 r2 = some (c, d)) :
    ofT s = if okT (num a, num b, num c, num d) ∧ rawT (num a, num b, num c, num d) = s then some (num a, num b, num c, num d) else none := by
  unfold ofT words
  rw [h1, Option.bind_some, h2, Option.bind_some, h3, Option.bind_some, Option.bind_some]
/-- A reading that writes the text again is the one. -/
theorem res_spec {s : List UInt8} (hs : s ≠ []) (x : Tx) (hx : textT x = s → ofT s = some x) (hn : textT x ≠ s → ofT s = none) :
    (if (B (textT x)).toList = (B s).toList then (x.1, x.2.1, x.2.2.1, x.2.2.2, true) else ((0 : Int), (0 : Int), (0 : Int), (0 : Int), false)) = txRes (ofT s) := by
  rw [B_toList, B_toList]
  by_cases c : textT x = s
  · rw [if_pos c, hx c]; rfl
  · rw [if_neg c, hn c]; rfl
theorem strings_Cut_val (l : List UInt8) (c : UInt8) (hl : l.length ≤ 1073741824) : strings_Cut.f (B l) (B [c]) = some (match cutL c l with | none => (B l, B [], false) | some p => (B p.1, B p.2, true)) := by
  unfold strings_Cut.f
  rw [B_size, if_pos (by omega), B_list, B_list, cut_one]
  cases cutL c l <;> rfl
theorem impl_TxOf_ev (s : List UInt8) (hl : s.length ≤ 1073741824) : Ev (fun k => impl_TxOf.f k (B s)) (txRes (ofT s)) := by
  unfold impl_TxOf.f
  have key : ∀ (a r b r2 c d : List UInt8) (o1 o2 o3 : Bool), strings_Cut.f (B s) ⟨#[62]⟩ = some (B a, B r, o1) → strings_Cut.f (B r) ⟨#[58]⟩ = some (B b, B r2, o2) → strings_Cut.f (B r2) ⟨#[35]⟩ = some (B c, B d, o3) →
      (okT (num a, num b, num c, num d) → rawT (num a, num b, num c, num d) = s → ofT s = some (num a, num b, num c, num d)) → (¬ (okT (num a, num b, num c, num d) ∧ rawT (num a, num b, num c, num d) = s) → ofT s = none) →
      Ev (fun k => (strings_Cut.f (B s) ⟨#[62]⟩).bind fun p => (strings_Cut.f p.2.1 ⟨#[58]⟩).bind fun q => (strings_Cut.f q.2.1 ⟨#[35]⟩).bind fun r => (impl_Number.f k p.1).bind fun n1 => (impl_Number.f k q.1).bind fun n2 => (impl_Number.f k r.1).bind fun n3 => (impl_Number.f k r.2.1).bind fun n4 =>
        (impl_TxOk.f n1.1 n2.1 n3.1 n4.1).bind fun ok => if ok = true then ((impl_TxText.f n1.1 n2.1 n3.1 n4.1).bind fun t => if t.toList = (B s).toList then some (n1.1, n2.1, n3.1, n4.1, true) else some (0, 0, 0, 0, false)) else some (0, 0, 0, 0, false)) (txRes (ofT s)) := by
    intro a r b r2 c d o1 o2 o3 e1 e2 e3 hx hn
    refine ev_const e1 (ev_const e2 (ev_const e3 (Ev.bind (impl_Number_ev a) (Ev.bind (impl_Number_ev b) (Ev.bind (impl_Number_ev c) (Ev.bind (impl_Number_ev d) (ev_const (impl_TxOk_val _ _ _ _) ?_)))))))
    by_cases c1 : okT (num a, num b, num c, num d)
    · refine ev_pos (decide_eq_true (show txIs (num a) (num b) (num c) (num d) from c1)) (ev_const (impl_TxText_val _ _ _ _) ?_)
      have ht : textT (num a, num b, num c, num d) = rawT (num a, num b, num c, num d) := by unfold textT; rw [if_pos c1]
      by_cases c2 : rawT (num a, num b, num c, num d) = s
      · rw [hx c1 c2]
        exact ev_pos (by rw [B_toList, B_toList, ht]; exact c2) (ev_some rfl)
      · rw [hn (fun z => c2 z.2)]
        exact ev_neg (by rw [B_toList, B_toList, ht]; exact c2) (ev_some rfl)
    · rw [hn (fun z => c1 z.1)]
      exact ev_neg (by simpa using (show ¬ txIs (num a) (num b) (num c) (num d) from c1)) (ev_some rfl)
  have fx : ∀ {x : Tx}, okT x → rawT x = s → ofT s = some x := fun h e => ofT_not h e
  have E1 := strings_Cut_val s 62 hl
  cases h1 : cutL 62 s with
  | none =>
    rw [h1] at E1
    have hno := ofT_cut1 h1
    have E2 := strings_Cut_val [] 58 (by simp)
    have E3 := strings_Cut_val [] 35 (by simp)
    exact key s [] [] [] [] [] _ _ _ E1 E2 E3 (fun a b => fx a b) (fun _ => hno)
  | some p =>
    obtain ⟨a, r⟩ := p
    rw [h1] at E1
    have hr := (cutL_le h1).2
    have E2 := strings_Cut_val r 58 (by omega)
    cases h2 : cutL 58 r with
    | none =>
      rw [h2] at E2
      have hno := ofT_cut2 h1 h2
      have E3 := strings_Cut_val [] 35 (by simp)
      exact key a r r [] [] [] _ _ _ E1 E2 E3 (fun a b => fx a b) (fun _ => hno)
    | some q =>
      obtain ⟨b, r2⟩ := q
      rw [h2] at E2
      have hr2 := (cutL_le h2).2
      have E3 := strings_Cut_val r2 35 (by omega)
      cases h3 : cutL 35 r2 with
      | none =>
        rw [h3] at E3
        have hno := ofT_cut3 h1 h2 h3
        exact key a r b r2 r2 [] _ _ _ E1 E2 E3 (fun a b => fx a b) (fun _ => hno)
      | some z =>
        obtain ⟨c, d⟩ := z
        rw [h3] at E3
        refine key a r b r2 c d _ _ _ E1 E2 E3 (fun a b => fx a b) (fun hne => ?_)
        rw [ofT_words h1 h2 h3, if_neg hne]

theorem spec_l2Cut_loop (c : UInt8) : ∀ (suf pre : List UInt8), (pre ++ suf).length ≤ 1073741824 →
    Ev (fun k => spec_l2Cut.l0 k (B (pre ++ suf)) (c.toNat : Int) (pre.length : Int)) (match cutL c suf with | none => (B [], B [], false) | some p => (B (pre ++ p.1), B p.2, true))
  | [], pre, hl => by
    rw [List.append_nil] at *
    have hs := B_size pre
    refine Ev.step (f := fun _ => some (B [], B [], false)) (fun k => ?_) (Ev.now _)
    simp only [spec_l2Cut.l0]
    rw [if_neg (by omega)]
  | b :: suf, pre, hl => by
    have hs := B_size (pre ++ b :: suf)
    have hbt := bt_mid pre suf b
    simp only [List.length_append, List.length_cons] at hl hs
    rw [cutL]
    by_cases h : b = c
    · subst h
      rw [if_pos rfl]
      refine Ev.step (f := fun _ => some (B (pre ++ []), B suf, true)) (fun k => ?_) (Ev.now _)
      simp only [spec_l2Cut.l0]
      rw [if_pos (by omega), if_pos (by omega), hbt, if_pos rfl, up1 _ (by omega), if_pos (by omega), if_pos (by omega), if_pos (by omega), Int.toNat_natCast, Int.toNat_natCast, extract_B, extract_B, hs]
      have e1 : ((pre ++ b :: suf).drop 0).take (pre.length - 0) = pre ++ [] := by simp
      have e2 : ((pre ++ b :: suf).drop (pre.length + 1)).take (pre.length + (suf.length + 1) - (pre.length + 1)) = suf := by
        rw [show (pre ++ b :: suf).drop (pre.length + 1) = suf by simp]
        exact List.take_of_length_le (by omega)
      rw [e1, e2]
    · rw [if_neg h]
      have ih := spec_l2Cut_loop c suf (pre ++ [b]) (by simp; omega)
      rw [List.append_assoc, List.singleton_append] at ih
      refine Ev.step (f := fun k => spec_l2Cut.l0 k (B (pre ++ b :: suf)) (c.toNat : Int) ((pre ++ [b]).length : Int)) (fun k => ?_) (ev_eq ih ?_)
      · simp only [spec_l2Cut.l0]
        rw [if_pos (by omega), if_pos (by omega), hbt, if_neg (fun e => h (byte_eq.1 e)), up1 _ (by omega), List.length_append, List.length_singleton]
      · cases cutL c suf with
        | none => rfl
        | some p => simp
theorem spec_l2Cut_ev (l : List UInt8) (c : UInt8) (hl : l.length ≤ 1073741824) : Ev (fun k => spec_l2Cut.f k (B l) (c.toNat : Int)) (match cutL c l with | none => (B [], B [], false) | some p => (B p.1, B p.2, true)) := by
  unfold spec_l2Cut.f
  have h := spec_l2Cut_loop c l [] (by simpa using hl)
  simpa using h

theorem spec_Number_loop : ∀ (suf pre : List UInt8) (v : Nat), v < 10 ^ pre.length → (pre ++ suf).length ≤ 6 →
    Ev (fun k => spec_Number.l0 k (B (pre ++ suf)) (v : Int) (pre.length : Int)) (match numL v suf with | none => ((0 : Int), false) | some n => if Lib.decDigits n = pre ++ suf then ((n : Int), true) else (0, false))
  | [], pre, v, hv, hl => by
    rw [List.append_nil] at hl ⊢
    have hs := B_size pre
    have ht := ten_pow pre.length hl
    refine Ev.step (f := fun k => (spec_Digits.f k (v : Int)).bind fun t => (if t.toList = (B pre).toList then (some ((v : Int), true)) else (some (0, false)))) (fun k => by simp only [spec_Number.l0]; rw [if_neg (by omega)]) ?_
    rw [numL]
    refine Ev.bind (spec_Digits_ev v (by omega) (by omega)) ?_
    simp only
    rw [itoa_nat, B_toList, B_toList]
    by_cases c : Lib.decDigits v = pre
    · exact ev_pos c (ev_some (by rw [if_pos c]))
    · exact ev_neg c (ev_some (by rw [if_neg c]))
  | b :: suf, pre, v, hv, hl => by
    have hs := B_size (pre ++ b :: suf)
    have hb := b.toNat_lt
    simp only [List.length_append, List.length_cons] at hl hs
    have ht := ten_pow pre.length (by omega)
    have hbt := bt_mid pre suf b
    rw [numL]
    by_cases c : 48 ≤ b.toNat ∧ b.toNat ≤ 57
    · rw [if_pos c]
      have ih := spec_Number_loop suf (pre ++ [b]) (10 * v + (b.toNat - 48)) (by rw [List.length_append, List.length_singleton, Nat.pow_succ]; omega) (by simp; omega)
      rw [List.append_assoc, List.singleton_append] at ih
      refine Ev.step (f := fun k => spec_Number.l0 k (B (pre ++ b :: suf)) (((10 * v + (b.toNat - 48) : Nat)) : Int) (((pre ++ [b]).length : Nat) : Int)) (fun k => ?_) ih
      simp only [spec_Number.l0]
      rw [if_pos (by omega), if_pos (by omega), hbt, if_neg (by omega), if_neg (by omega)]
      congr 1
      · rw [wrapI (10 * (v : Int)) (by omega) (by omega), wrapI ((b.toNat : Nat) : Int) (by omega) (by omega), wrapI (10 * (v : Int) + (b.toNat : Int)) (by omega) (by omega), wrapI (10 * (v : Int) + (b.toNat : Int) - 48) (by omega) (by omega)]; omega
      · rw [List.length_append, List.length_singleton]; exact up1 _ (by omega)
    · rw [if_neg c]
      refine Ev.step (f := fun _ => some (0, false)) (fun k => ?_) (ev_some rfl)
      simp only [spec_Number.l0]
      rw [if_pos (by omega), if_pos (by omega), hbt]
      by_cases c1 : (b.toNat : Int) < 48
      · rw [if_pos c1]
      · rw [if_neg c1, if_pos (by omega)]
theorem spec_Number_ev (l : List UInt8) : Ev (fun k => spec_Number.f k (B l)) (num l, (numF l).2) := by
  have hs := B_size l
  have hj : Ev (fun k => spec_Number.j0 k (B l) true) ((0 : Int), false) := Ev.step (f := fun _ => some (0, false)) (fun k => by simp only [spec_Number.j0]; rw [if_pos trivial]) (ev_some rfl)
  unfold spec_Number.f
  by_cases c : l.length < 1
  · have e : numF l = (0, false) := by unfold numF; rw [if_pos (.inl c)]
    unfold num
    rw [e]
    exact ev_pos (by omega) hj
  refine ev_neg (by omega) ?_
  by_cases c2 : 6 < l.length
  · have e : numF l = (0, false) := by unfold numF; rw [if_pos (.inr c2)]
    unfold num
    rw [e, decide_eq_true (show ((B l).size : Int) > 6 by omega)]
    exact hj
  rw [decide_eq_false (show ¬ ((B l).size : Int) > 6 by omega)]
  have h := spec_Number_loop l [] 0 (by simp) (by simpa using Nat.not_lt.1 c2)
  refine Ev.step (f := fun k => spec_Number.l0 k (B l) 0 0) (fun k => by simp only [spec_Number.j0]; rw [if_neg (by decide)]) ?_
  refine ev_eq h ?_
  unfold num numF
  rw [if_neg (by omega)]
  simp only [List.nil_append]
  cases numL 0 l with
  | none => rfl
  | some n =>
    simp only
    by_cases c3 : Lib.decDigits n = l
    · rw [if_pos c3, if_pos c3]
    · rw [if_neg c3, if_neg c3]; rfl

theorem spec_TxOf_ev (s : List UInt8) (hl : s.length ≤ 1073741824) : Ev (fun k => spec_TxOf.f k (B s)) (txRes (ofT s)) := by
  unfold spec_TxOf.f
  have key : ∀ (a r b r2 c d : List UInt8) (o1 o2 o3 : Bool), r.length ≤ 1073741824 → r2.length ≤ 1073741824 → Ev (fun k => spec_l2Cut.f k (B s) 62) (B a, B r, o1) → Ev (fun k => spec_l2Cut.f k (B r) 58) (B b, B r2, o2) → Ev (fun k => spec_l2Cut.f k (B r2) 35) (B c, B d, o3) →
      (s ≠ [] → textT (num a, num b, num c, num d) = s → ofT s = some (num a, num b, num c, num d)) → (s ≠ [] → textT (num a, num b, num c, num d) ≠ s → ofT s = none) →
      Ev (fun k => (spec_l2Cut.f k (B s) 62).bind fun bt134 => ((spec_l2Cut.f k bt134.2.1 58).bind fun bt137 => ((spec_l2Cut.f k bt137.2.1 35).bind fun bt140 => ((spec_Number.f k bt134.1).bind fun bt144 => ((spec_Number.f k bt137.1).bind fun bt146 => ((spec_Number.f k bt140.1).bind fun bt148 => ((spec_Number.f k bt140.2.1).bind fun bt150 => (if (B s).toList = ([] : List UInt8) then (some ((0 : Int), (0 : Int), (0 : Int), (0 : Int), false)) else ((spec_TxText.f k bt144.1 bt146.1 bt148.1 bt150.1).bind fun t152 => (if t152.toList = (B s).toList then (some (bt144.1, bt146.1, bt148.1, bt150.1, true)) else (some (0, 0, 0, 0, false)))))))))))) (txRes (ofT s)) := by
    intro a r b r2 c d o1 o2 o3 hr hr2 e1 e2 e3 hx hn
    refine Ev.bind e1 (Ev.bind e2 (Ev.bind e3 (Ev.bind (spec_Number_ev a) (Ev.bind (spec_Number_ev b) (Ev.bind (spec_Number_ev c) (Ev.bind (spec_Number_ev d) ?_))))))
    by_cases hs : s = []
    · subst hs
      refine ev_pos (B_toList []) (ev_some ?_)
      rw [show ofT [] = none from rfl]; rfl
    · refine ev_neg (by rw [B_toList]; exact hs) (Ev.bind (spec_TxText_ev (num a) (num b) (num c) (num d)) ?_)
      have h := res_spec hs (num a, num b, num c, num d) (hx hs) (hn hs)
      by_cases hc : (B (textT (num a, num b, num c, num d))).toList = (B s).toList
      · rw [if_pos hc] at h; exact ev_pos hc (ev_some h)
      · rw [if_neg hc] at h; exact ev_neg hc (ev_some h)
  have E1 := spec_l2Cut_ev s 62 hl
  cases h1 : cutL 62 s with
  | none =>
    rw [h1] at E1
    have hno := ofT_cut1 h1
    exact key [] [] [] [] [] [] _ false false (by simp) (by simp) E1 (spec_l2Cut_ev [] 58 (by simp)) (spec_l2Cut_ev [] 35 (by simp)) (fun hs he => by rw [ofT_of_text hs he] at hno; cases hno) (fun _ _ => hno)
  | some p =>
    obtain ⟨a, r⟩ := p
    rw [h1] at E1
    have hr := (cutL_le h1).2
    have E2 := spec_l2Cut_ev r 58 (by omega)
    cases h2 : cutL 58 r with
    | none =>
      rw [h2] at E2
      have hno := ofT_cut2 h1 h2
      exact key a r [] [] [] [] _ _ false (by omega) (by simp) E1 E2 (spec_l2Cut_ev [] 35 (by simp)) (fun hs he => by rw [ofT_of_text hs he] at hno; cases hno) (fun _ _ => hno)
    | some q =>
      obtain ⟨b, r2⟩ := q
      rw [h2] at E2
      have hr2 := (cutL_le h2).2
      have E3 := spec_l2Cut_ev r2 35 (by omega)
      cases h3 : cutL 35 r2 with
      | none =>
        rw [h3] at E3
        have hno := ofT_cut3 h1 h2 h3
        exact key a r b r2 [] [] _ _ _ (by omega) (by omega) E1 E2 E3 (fun hs he => by rw [ofT_of_text hs he] at hno; cases hno) (fun _ _ => hno)
      | some z =>
        obtain ⟨c, d⟩ := z
        rw [h3] at E3
        refine key a r b r2 c d _ _ _ (by omega) (by omega) E1 E2 E3 (fun hs he => ofT_of_text hs he) (fun hs hne => ?_)
        rw [ofT_words h1 h2 h3, if_neg]
        rintro ⟨g1, g2⟩
        exact hne (by unfold textT; rw [if_pos g1]; exact g2)

theorem l2DrawList_loop (l : List Int) (hl : l.length ≤ 1048576) : ∀ (d j : Nat) (i hh : Int) (p : List S44), 5 - j = d → j ≤ 5 → Cur i → p.length ≤ j → ∃ q i' hh', Ev (fun k => spec_l2DrawList.l0 k p (j : Int) l i hh) (q, i', hh') ∧ Cur i' ∧ q.length ≤ 5 := by
  intro d
  induction d with
  | zero =>
    intro j i hh p hd hj hi hp
    obtain ⟨v, i1, h1, ev, v0, v1, c1⟩ := l1Below_some l i hh 5 hl hi (by omega) (by omega)
    exact ⟨p, i1, h1, Ev.step (f := fun _ => some (p, i1, h1)) (fun k => by simp only [spec_l2DrawList.l0]; rw [ev, Option.bind_some, if_neg (by omega)]) (ev_some rfl), c1, by omega⟩
  | succ d ih =>
    intro j i hh p hd hj hi hp
    obtain ⟨v, i1, h1, ev, v0, v1, c1⟩ := l1Below_some l i hh 5 hl hi (by omega) (by omega)
    by_cases c : (j : Int) < v
    · obtain ⟨f, t, a, m, i2, h2, ed, _, _, _, _, c2⟩ := l2Draw_some l i1 h1 hl c1
      obtain ⟨q, i', hh', hev, r1, r2⟩ := ih (j + 1) i2 h2 (p ++ [⟨f, t, a, m⟩]) (by omega) (by omega) c2 (by simp; omega)
      refine ⟨q, i', hh', Ev.step (f := fun k => spec_l2DrawList.l0 k (p ++ [⟨f, t, a, m⟩]) ((j + 1 : Nat) : Int) l i2 h2) (fun k => by
        simp only [spec_l2DrawList.l0]
        rw [ev, Option.bind_some, if_pos c]
        simp only
        rw [ed, Option.bind_some, if_pos (by omega), up1 j (by omega)]) hev, r1, r2⟩
    · exact ⟨p, i1, h1, Ev.step (f := fun _ => some (p, i1, h1)) (fun k => by simp only [spec_l2DrawList.l0]; rw [ev, Option.bind_some, if_neg c]) (ev_some rfl), c1, by omega⟩
theorem l2DrawList_ev (l : List Int) (hl : l.length ≤ 1048576) (i hh : Int) (hi : Cur i) : ∃ q i' hh', Ev (fun k => spec_l2DrawList.f k l i hh) (q, i', hh') ∧ Cur i' ∧ q.length ≤ 5 := by
  unfold spec_l2DrawList.f
  exact l2DrawList_loop l hl 5 0 i hh [] (by omega) (by omega) hi (by simp)

theorem DrawTxsText_ev (l : List Int) (hl : l.length ≤ 1048576) : ∃ q : List S44, q.length ≤ 5 ∧ Ev (fun k => spec_DrawTxsText.f k l) q := by
  obtain ⟨x, hx⟩ := l1New_ev l hl
  obtain ⟨q, i1, h1, e1, _, hq⟩ := l2DrawList_ev l hl 0 x (by unfold Cur; omega)
  refine ⟨q, hq, ?_⟩
  unfold spec_DrawTxsText.f
  exact Ev.bind hx (Ev.bind e1 (ev_some rfl))

def txOkS (x : S44) : Prop := txIs x.f0 x.f1 x.f2 x.f3
instance (x : S44) : Decidable (txOkS x) := by unfold txOkS; infer_instance
theorem rdT_nat (xs : List S44) (n : Nat) (h : n < xs.length) : rd_T44 xs (n : Int) = xs[n] := by
  unfold rd_T44; simp [List.getD_eq_getElem?_getD, h]
def tq (x : S44) : Tx := (x.f0, x.f1, x.f2, x.f3)
theorem join_len : ∀ (l : List Tx), okTs l → (joinL 44 (l.map rawT)).length ≤ 20 * l.length
  | [], _ => by simp [joinL]
  | [x], h => by
    have := raw_len x (h x (by simp))
    simp only [List.map_cons, List.map_nil, joinL, List.length_singleton]
    omega
  | x :: y :: l, h => by
    have h1 := raw_len x (h x (by simp))
    have h2 := join_len (y :: l) (fun z hz => h z (by simp at hz ⊢; exact .inr hz))
    rw [List.map_cons, joinL_cons _ _ (by simp), List.length_append, List.length_cons]
    simp only [List.length_cons] at h2 ⊢
    omega
theorem take_map_succ (l : List S44) (n : Nat) (h : n < l.length) : (l.map tq).take (n + 1) = (l.map tq).take n ++ [tq l[n]] := by
  rw [List.take_succ_eq_append_getElem (by simpa using h), List.getElem_map]
theorem okTs_snoc {l : List Tx} {x : Tx} (h : okTs l) (hx : okT x) : okTs (l ++ [x]) := fun y hy => by
  rcases List.mem_append.1 hy with hy | hy
  · exact h y hy
  · rw [List.mem_singleton.1 hy]; exact hx
theorem not_okTs (l : List S44) (n : Nat) (h : n < l.length) (hx : ¬ okT (tq l[n])) : textTs (l.map tq) = [] := by
  unfold textTs
  rw [if_neg (fun hh => hx (hh _ (List.mem_map.2 ⟨_, List.getElem_mem h, rfl⟩)))]
theorem libjoin (c : UInt8) : ∀ l : List (List UInt8), Lib.join l [c] = joinL c l
  | [] => rfl
  | [a] => by simp [Lib.join, joinL]
  | a :: b :: l => by
    have ih := libjoin c (b :: l)
    unfold Lib.join at ih ⊢
    rw [joinL, ← ih, List.intercalate_cons_cons]
    simp
theorem impl_TxsText_loop (l : List S44) (hl : l.length ≤ 1048576) : ∀ (d n : Nat), l.length - n = d → n ≤ l.length → okTs ((l.map tq).take n) → Ev (fun k => impl_TxsText.l0 k (((l.map tq).take n).map fun x => B (rawT x)) l (l.length : Int) (n : Int)) (B (textTs (l.map tq))) := by
  intro d
  induction d with
  | zero =>
    intro n hd hn hok
    obtain rfl : n = l.length := by omega
    rw [List.take_of_length_le (by simp)] at hok ⊢
    have hlen := join_len _ hok
    have e : textTs (l.map tq) = joinL 44 ((l.map tq).map rawT) := by unfold textTs; rw [if_pos hok]
    have e2 : (((l.map tq).map fun x => B (rawT x)).map (·.data.toList)) = (l.map tq).map rawT := by
      rw [List.map_map]
      exact List.map_congr_left (fun x _ => B_list _)
    rw [e]
    refine Ev.step (f := fun _ => some (B (joinL 44 ((l.map tq).map rawT)))) (fun k => ?_) (Ev.now _)
    simp only [impl_TxsText.l0]
    rw [if_neg (by omega)]
    unfold strings_Join.f
    rw [e2, show (⟨#[44]⟩ : ByteArray).data.toList = [44] from rfl, libjoin, if_pos ⟨by simp only [List.length_map]; omega, by simp only [List.length_map] at hlen; omega⟩]
    rfl
  | succ d ih =>
    intro n hd hn hok
    have h1 : n < l.length := by omega
    have htl : ((l.map tq).take n).length = n := by rw [List.length_take]; simp; omega
    by_cases c : okT (tq l[n])
    · have hok' := okTs_snoc hok c
      have ht : textT (l[n].f0, l[n].f1, l[n].f2, l[n].f3) = rawT (tq l[n]) := by
        unfold textT
        rw [if_pos (show okT (l[n].f0, l[n].f1, l[n].f2, l[n].f3) from c)]; rfl
      rw [← take_map_succ l n h1] at hok'
      have ih' := ih (n + 1) (by omega) (by omega) hok'
      rw [take_map_succ l n h1, List.map_append, List.map_singleton] at ih'
      refine Ev.step (f := fun k => impl_TxsText.l0 k ((((l.map tq).take n).map fun x => B (rawT x)) ++ [B (rawT (tq l[n]))]) l (l.length : Int) ((n + 1 : Nat) : Int)) (fun k => ?_) ih'
      simp only [impl_TxsText.l0]
      rw [if_pos (by omega), if_pos (by omega), if_pos (by omega), rdT_nat l n h1, impl_TxOk_val, Option.bind_some, if_pos (decide_eq_true (show txIs l[n].f0 l[n].f1 l[n].f2 l[n].f3 from c)), impl_TxText_val, Option.bind_some, ht, if_pos (by rw [List.length_map, htl]; omega), up1 n (by omega)]
    · rw [not_okTs l n h1 c]
      refine Ev.step (f := fun _ => some (B [])) (fun k => ?_) (Ev.now _)
      simp only [impl_TxsText.l0]
      rw [if_pos (by omega), if_pos (by omega), if_pos (by omega), rdT_nat l n h1, impl_TxOk_val, Option.bind_some, if_neg (by simpa using (show ¬ txIs l[n].f0 l[n].f1 l[n].f2 l[n].f3 from c))]
theorem impl_TxsText_ev (l : List S44) (hl : l.length ≤ 1048576) : Ev (fun k => impl_TxsText.f k l) (B (textTs (l.map tq))) := by
  unfold impl_TxsText.f
  exact impl_TxsText_loop l hl l.length 0 (by omega) (by omega) (by intro x hx; simp at hx)

theorem spec_TxsText_loop (l : List S44) (hl : l.length ≤ 1048576) : ∀ (d n : Nat), l.length - n = d → n ≤ l.length → okTs ((l.map tq).take n) → Ev (fun k => spec_TxsText.l0 k l (B (joinL 44 (((l.map tq).take n).map rawT))) (n : Int)) (B (textTs (l.map tq))) := by
  intro d
  induction d with
  | zero =>
    intro n hd hn hok
    obtain rfl : n = l.length := by omega
    rw [List.take_of_length_le (by simp)] at hok ⊢
    have e : textTs (l.map tq) = joinL 44 ((l.map tq).map rawT) := by unfold textTs; rw [if_pos hok]
    rw [e]
    exact Ev.step (f := fun _ => some _) (fun k => by simp only [spec_TxsText.l0]; rw [if_neg (by omega)]) (Ev.now _)
  | succ d ih =>
    intro n hd hn hok
    have h1 : n < l.length := by omega
    have hlen := join_len _ hok
    have htl : ((l.map tq).take n).length = n := by rw [List.length_take]; simp; omega
    rw [htl] at hlen
    have hs := B_size (joinL 44 (((l.map tq).take n).map rawT))
    by_cases c : okT (tq l[n])
    · have hr := raw_len _ c
      have hok' := okTs_snoc hok c
      have ht : textT (l[n].f0, l[n].f1, l[n].f2, l[n].f3) = rawT (tq l[n]) := by
        unfold textT
        rw [if_pos (show okT (l[n].f0, l[n].f1, l[n].f2, l[n].f3) from c)]; rfl
      have hsr := B_size (rawT (tq l[n]))
      rw [← take_map_succ l n h1] at hok'
      have ih' := ih (n + 1) (by omega) (by omega) hok'
      have htx := spec_TxText_ev l[n].f0 l[n].f1 l[n].f2 l[n].f3
      rw [ht] at htx
      rw [take_map_succ l n h1, List.map_append, List.map_singleton] at ih'
      by_cases hz : n = 0
      · subst hz
        refine Ev.step (f := fun k => (spec_TxText.f k l[0].f0 l[0].f1 l[0].f2 l[0].f3).bind fun t => (if (B (joinL 44 (((l.map tq).take 0).map rawT))).size + t.size ≤ 9223372036854775807 then (spec_TxsText.l0 k l (B (joinL 44 (((l.map tq).take 0).map rawT)) ++ t) ((0 + 1 : Nat) : Int)) else (none))) (fun k => ?_) ?_
        · simp only [spec_TxsText.l0]
          rw [if_pos (by omega), if_pos (by omega), rdT_nat l 0 h1, spec_TxOk_val, Option.bind_some, if_pos (decide_eq_true (show txIs l[0].f0 l[0].f1 l[0].f2 l[0].f3 from c)), if_neg (by omega), up1 0 (by omega)]
        · refine Ev.bind htx (ev_pos (by omega) ?_)
          exact ih'
      · have hne : ((l.map tq).take n).map rawT ≠ [] := fun h => by have := congrArg List.length h; rw [List.length_map, htl] at this; exact hz (by simpa using this)
        rw [joinL_append _ _ hne] at ih'
        have z1 : (⟨#[44]⟩ : ByteArray).size = 1 := rfl
        refine Ev.step (f := fun k => (spec_TxText.f k l[n].f0 l[n].f1 l[n].f2 l[n].f3).bind fun t => (if (B (joinL 44 (((l.map tq).take n).map rawT)) ++ (⟨#[44]⟩ : ByteArray)).size + t.size ≤ 9223372036854775807 then (spec_TxsText.l0 k l ((B (joinL 44 (((l.map tq).take n).map rawT)) ++ (⟨#[44]⟩ : ByteArray)) ++ t) ((n + 1 : Nat) : Int)) else (none))) (fun k => ?_) ?_
        · simp only [spec_TxsText.l0]
          rw [if_pos (by omega), if_pos (by omega), rdT_nat l n h1, spec_TxOk_val, Option.bind_some, if_pos (decide_eq_true (show txIs l[n].f0 l[n].f1 l[n].f2 l[n].f3 from c)), if_pos (by omega), if_pos (by omega), up1 n (by omega)]
        · refine Ev.bind htx (ev_pos (by rw [ByteArray.size_append]; omega) ?_)
          rw [show (⟨#[44]⟩ : ByteArray) = B [44] from rfl, B_app, B_app, List.append_assoc, List.singleton_append]
          exact ih'
    · rw [not_okTs l n h1 c]
      refine Ev.step (f := fun _ => some (B [])) (fun k => ?_) (Ev.now _)
      simp only [spec_TxsText.l0]
      rw [if_pos (by omega), if_pos (by omega), rdT_nat l n h1, spec_TxOk_val, Option.bind_some, if_neg (by simpa using (show ¬ txIs l[n].f0 l[n].f1 l[n].f2 l[n].f3 from c))]
theorem spec_TxsText_ev (l : List S44) (hl : l.length ≤ 1048576) : Ev (fun k => spec_TxsText.f k l) (B (textTs (l.map tq))) := by
  unfold spec_TxsText.f
  exact spec_TxsText_loop l hl l.length 0 (by omega) (by omega) (by intro x hx; simp at hx)

theorem textTs_len' (l : List Tx) : (textTs l).length ≤ 20 * l.length := by
  unfold textTs
  split
  · rename_i h; exact join_len l h
  · simp
theorem DrawTxsOf_ev (l : List Int) (hl : l.length ≤ 1048576) : ∃ s : List UInt8, s.length ≤ 2000 ∧ Ev (fun k => spec_DrawTxsOf.f k l) (B s) := by
  obtain ⟨x, hx⟩ := l1New_ev l hl
  obtain ⟨q, i1, h1, e1, c1, hq⟩ := l2DrawList_ev l hl 0 x (by unfold Cur; omega)
  have hlen := textTs_len' (q.map tq)
  rw [List.length_map] at hlen
  obtain ⟨r, er, s, e, hs, _⟩ := l2Dent_some l i1 h1 (textTs (q.map tq)) hl c1 (by omega)
  refine ⟨s, by omega, ?_⟩
  unfold spec_DrawTxsOf.f
  refine Ev.bind hx (Ev.bind e1 (Ev.bind (spec_TxsText_ev q (by omega)) ?_))
  simp only
  rw [er]
  exact ev_some e

theorem splitB_one (l : List UInt8) (c : UInt8) : Lib.splitB (B [c]) 0 (Lib.countB (B l) (B [c])) (B l) = (splitL c l).map B := by
  have h := Lib.splitB_data (B [c]) 0 (Lib.countB (B l) (B [c])) (B l)
  have e : Lib.splitK (B [c]).data.toList 0 (Lib.countB (B l) (B [c])) (B l).data.toList = splitL c l := by
    rw [← split_one, B_list, B_list]
    unfold Lib.split Lib.countB
    rw [B_list, B_list]
  rw [e] at h
  rw [← h, List.map_map]
  conv => lhs; rw [← List.map_id (Lib.splitB (B [c]) 0 (Lib.countB (B l) (B [c])) (B l))]
  exact List.map_congr_left (fun s _ => (B_of s).symm)
theorem sep_B (c : UInt8) : strOfNums [(c.toNat : Int)] = B [c] := by
  rw [nums_B]
  simp
theorem impl_Split_val (l : List UInt8) (c : UInt8) (hl : l.length ≤ 1073741824) : impl_Split.f (B l) (c.toNat : Int) = some ((splitL c l).map B) := by
  unfold impl_Split.f strings_Split.f
  rw [sep_B, B_size, B_size, if_pos ⟨by omega, by simp⟩, splitB_one]
  rfl

def fromT (x : Tx) : S44 := ⟨x.1, x.2.1, x.2.2.1, x.2.2.2⟩
def txsRes (dn : List Tx) (o : Option (List Tx)) : List S44 × Bool := match o with | some l => ((dn ++ l).map fromT, true) | none => ([], false)
theorem split_part (c : UInt8) : ∀ {l p : List UInt8}, p ∈ splitL c l → p.length ≤ l.length
  | [], p, h => by rw [splitL, List.mem_singleton] at h; subst h; simp
  | b :: l, p, h => by
    rw [splitL] at h
    by_cases hb : b = c
    · rw [if_pos hb] at h
      rcases List.mem_cons.1 h with h | h
      · subst h; simp
      · have := split_part c h; simp only [List.length_cons]; omega
    · rw [if_neg hb] at h
      cases hs : splitL c l with
      | nil => exact absurd hs (splitL_ne c l)
      | cons x t =>
        rw [hs] at h
        rcases List.mem_cons.1 h with h | h
        · subst h
          have := split_part c (l := l) (p := x) (by rw [hs]; simp)
          simp only [List.length_cons]; omega
        · have := split_part c (l := l) (p := p) (by rw [hs]; simp [h])
          simp only [List.length_cons]; omega
theorem part_at (pre suf : List (List UInt8)) (p : List UInt8) : rdOf ByteArray.empty ((pre ++ p :: suf).map B) (pre.length : Int) = B p := by
  unfold rdOf
  rw [Int.toNat_natCast, List.getD_eq_getElem?_getD]
  simp
theorem impl_TxsOf_loop : ∀ (suf pre : List (List UInt8)) (dn : List Tx), (∀ p ∈ suf, p.length ≤ 1073741824) → (pre ++ suf).length ≤ 1073741824 → dn.length = pre.length →
    Ev (fun k => impl_TxsOf.l0 k (dn.map fromT) ((pre ++ suf).map B) (((pre ++ suf).map B).length : Int) (pre.length : Int)) (txsRes dn (readAll suf))
  | [], pre, dn, hp, hl, hd => by
    rw [List.append_nil] at *
    refine Ev.step (f := fun _ => some (dn.map fromT, true)) (fun k => ?_) (ev_some ?_)
    · simp only [impl_TxsOf.l0]
      rw [if_neg (by rw [List.length_map] <;> omega)]
    · simp [readAll, txsRes]
  | p :: suf, pre, dn, hp, hl, hd => by
    have hlen : ((pre ++ p :: suf).map B).length = pre.length + (suf.length + 1) := by simp
    simp only [List.length_append, List.length_cons] at hl
    have ht := impl_TxOf_ev p (hp p (by simp))
    rw [readAll]
    cases ho : ofT p with
    | none =>
      rw [ho] at ht
      refine Ev.step (f := fun k => (impl_TxOf.f k (B p)).bind fun r => if r.2.2.2.2 = true then (if (dn.map fromT).length < 4398046511104 then (impl_TxsOf.l0 k ((dn.map fromT) ++ [(⟨r.1, r.2.1, r.2.2.1, r.2.2.2.1⟩ : S44)]) ((pre ++ p :: suf).map B) (((pre ++ p :: suf).map B).length : Int) ((pre.length + 1 : Nat) : Int)) else none) else some ([], false)) (fun k => ?_) ?_
      · simp only [impl_TxsOf.l0]
        rw [if_pos (by first | omega | (rw [hlen]; omega)), if_pos (by omega), if_pos (by rw [hlen]; omega), part_at, up1 _ (by omega)]
      · exact Ev.bind ht (ev_neg (by simp [txRes]) (ev_some rfl))
    | some x =>
      rw [ho] at ht
      have ih := impl_TxsOf_loop suf (pre ++ [p]) (dn ++ [x]) (fun q hq => hp q (by simp [hq])) (by simp; omega) (by simp [hd])
      rw [List.append_assoc, List.singleton_append, List.length_append, List.length_singleton, List.map_append, List.map_singleton] at ih
      have e : txsRes dn ((some x).bind fun x => (readAll suf).map fun l => x :: l) = txsRes (dn ++ [x]) (readAll suf) := by
        cases readAll suf <;> simp [txsRes]
      rw [e]
      refine Ev.step (f := fun k => (impl_TxOf.f k (B p)).bind fun r => if r.2.2.2.2 = true then (if (dn.map fromT).length < 4398046511104 then (impl_TxsOf.l0 k ((dn.map fromT) ++ [(⟨r.1, r.2.1, r.2.2.1, r.2.2.2.1⟩ : S44)]) ((pre ++ p :: suf).map B) (((pre ++ p :: suf).map B).length : Int) ((pre.length + 1 : Nat) : Int)) else none) else some ([], false)) (fun k => ?_) ?_
      · simp only [impl_TxsOf.l0]
        rw [if_pos (by first | omega | (rw [hlen]; omega)), if_pos (by omega), if_pos (by rw [hlen]; omega), part_at, up1 _ (by omega)]
      · exact Ev.bind ht (ev_pos rfl (ev_pos (by rw [List.length_map]; omega) ih))
theorem impl_TxsOf_ev (s : List UInt8) (hl : s.length ≤ 536870912) : Ev (fun k => impl_TxsOf.f k (B s)) (txsRes [] (ofTs s)) := by
  unfold impl_TxsOf.f ofTs
  by_cases c : s = []
  · rw [if_pos c]
    exact ev_pos (by rw [B_toList]; exact c) (ev_some rfl)
  · rw [if_neg c]
    refine ev_neg (by rw [B_toList]; exact c) (ev_const (impl_Split_val s 44 (by omega)) ?_)
    have hn := splitL_len 44 s
    exact impl_TxsOf_loop (splitL 44 s) [] [] (fun p hp => by have := split_part 44 hp; omega) (by simp only [List.nil_append]; omega) rfl

theorem spec_Split_loop (c : UInt8) : ∀ (suf pre seg : List UInt8) (dn : List ByteArray), (pre ++ seg ++ suf).length ≤ 1073741824 → dn.length ≤ pre.length → c ∉ seg →
    Ev (fun k => spec_Split.l0 k (B (pre ++ seg ++ suf)) (c.toNat : Int) dn (pre.length : Int) ((pre.length + seg.length : Nat) : Int)) (dn ++ (splitL c (seg ++ suf)).map B)
  | [], pre, seg, dn, hl, hd, hc => by
    rw [List.append_nil, List.append_nil] at *
    have hs := B_size (pre ++ seg)
    have he := ext_mid pre seg []
    rw [List.append_nil] at he
    simp only [List.length_append] at hl hs
    rw [splitL_none hc]
    refine Ev.step (f := fun k => spec_Split.l0 k (B (pre ++ seg)) (c.toNat : Int) (dn ++ [B seg]) ((pre.length + seg.length + 1 : Nat) : Int) ((pre.length + seg.length + 1 : Nat) : Int)) (fun k => ?_) ?_
    · simp only [spec_Split.l0]
      rw [if_pos (by omega), if_pos (by omega), if_pos (by omega), if_pos (by omega), if_pos (by omega), up1 _ (by omega), Int.toNat_natCast, Int.toNat_natCast, he]
    · refine Ev.step (f := fun _ => some (dn ++ [B seg])) (fun k => ?_) (Ev.now _)
      simp only [spec_Split.l0]
      rw [if_neg (by omega)]
  | b :: suf, pre, seg, dn, hl, hd, hc => by
    have hs := B_size (pre ++ seg ++ b :: suf)
    have he := ext_mid pre seg (b :: suf)
    have hbt := bt_mid (pre ++ seg) suf b
    rw [List.length_append] at hbt
    simp only [List.length_append, List.length_cons] at hl hs
    by_cases h : b = c
    · subst h
      rw [splitL_at hc]
      have ih := spec_Split_loop b suf (pre ++ seg ++ [b]) [] (dn ++ [B seg]) (by simp; omega) (by simp; omega) (by simp)
      have e1 : pre ++ seg ++ [b] ++ [] ++ suf = pre ++ seg ++ b :: suf := by simp
      have e2 : (pre ++ seg ++ [b]).length + ([] : List UInt8).length = pre.length + seg.length + 1 := by simp; omega
      have e3 : (pre ++ seg ++ [b]).length = pre.length + seg.length + 1 := by simp; omega
      rw [e1, e2, e3] at ih
      refine Ev.step (f := fun k => spec_Split.l0 k (B (pre ++ seg ++ b :: suf)) (b.toNat : Int) (dn ++ [B seg]) ((pre.length + seg.length + 1 : Nat) : Int) ((pre.length + seg.length + 1 : Nat) : Int)) (fun k => ?_) (ev_eq ih (by simp))
      simp only [spec_Split.l0]
      rw [if_pos (by omega), if_neg (by omega), if_pos (by omega), if_pos (by omega), hbt, if_pos rfl, if_pos (by omega), if_pos (by omega), if_pos (by omega), up1 _ (by omega), Int.toNat_natCast, Int.toNat_natCast, he]
    · have ih := spec_Split_loop c suf pre (seg ++ [b]) dn (by simp; omega) hd (by simp [hc, Ne.symm h])
      have e1 : pre ++ (seg ++ [b]) ++ suf = pre ++ seg ++ b :: suf := by simp
      have e2 : pre.length + (seg ++ [b]).length = pre.length + seg.length + 1 := by simp; omega
      have e3 : seg ++ [b] ++ suf = seg ++ b :: suf := by simp
      rw [e1, e2, e3] at ih
      refine Ev.step (f := fun k => spec_Split.l0 k (B (pre ++ seg ++ b :: suf)) (c.toNat : Int) dn (pre.length : Int) ((pre.length + seg.length + 1 : Nat) : Int)) (fun k => ?_) ih
      simp only [spec_Split.l0]
      rw [if_pos (by omega), if_neg (by omega), if_pos (by omega), if_pos (by omega), hbt, if_neg (fun e => h (byte_eq.1 e)), up1 _ (by omega)]
theorem spec_Split_ev (l : List UInt8) (c : UInt8) (hl : l.length ≤ 1073741824) : Ev (fun k => spec_Split.f k (B l) (c.toNat : Int)) ((splitL c l).map B) := by
  unfold spec_Split.f
  exact spec_Split_loop c l [] [] [] (by simpa using hl) (by simp) (by simp)

theorem spec_TxsOf_loop : ∀ (suf pre : List (List UInt8)) (dn : List Tx), (∀ p ∈ suf, p.length ≤ 1073741824) → (pre ++ suf).length ≤ 1073741824 → dn.length = pre.length →
    Ev (fun k => spec_TxsOf.l0 k (dn.map fromT) ((pre ++ suf).map B) (pre.length : Int)) (txsRes dn (readAll suf))
  | [], pre, dn, hp, hl, hd => by
    rw [List.append_nil] at *
    refine Ev.step (f := fun _ => some (dn.map fromT, true)) (fun k => ?_) (ev_some ?_)
    · simp only [spec_TxsOf.l0]
      rw [if_neg (by rw [List.length_map] <;> omega)]
    · simp [readAll, txsRes]
  | p :: suf, pre, dn, hp, hl, hd => by
    have hlen : ((pre ++ p :: suf).map B).length = pre.length + (suf.length + 1) := by simp
    simp only [List.length_append, List.length_cons] at hl
    have ht := spec_TxOf_ev p (hp p (by simp))
    rw [readAll]
    cases ho : ofT p with
    | none =>
      rw [ho] at ht
      refine Ev.step (f := fun k => (spec_TxOf.f k (B p)).bind fun r => if r.2.2.2.2 = true then (if (dn.map fromT).length < 4398046511104 then (spec_TxsOf.l0 k ((dn.map fromT) ++ [(⟨r.1, r.2.1, r.2.2.1, r.2.2.2.1⟩ : S44)]) ((pre ++ p :: suf).map B) ((pre.length + 1 : Nat) : Int)) else none) else some ([], false)) (fun k => ?_) ?_
      · simp only [spec_TxsOf.l0]
        rw [if_pos (by first | omega | (rw [hlen]; omega)), if_pos (by omega), part_at, up1 _ (by omega)]
      · exact Ev.bind ht (ev_neg (by simp [txRes]) (ev_some rfl))
    | some x =>
      rw [ho] at ht
      have ih := spec_TxsOf_loop suf (pre ++ [p]) (dn ++ [x]) (fun q hq => hp q (by simp [hq])) (by simp; omega) (by simp [hd])
      rw [List.append_assoc, List.singleton_append, List.length_append, List.length_singleton, List.map_append, List.map_singleton] at ih
      have e : txsRes dn ((some x).bind fun x => (readAll suf).map fun l => x :: l) = txsRes (dn ++ [x]) (readAll suf) := by
        cases readAll suf <;> simp [txsRes]
      rw [e]
      refine Ev.step (f := fun k => (spec_TxOf.f k (B p)).bind fun r => if r.2.2.2.2 = true then (if (dn.map fromT).length < 4398046511104 then (spec_TxsOf.l0 k ((dn.map fromT) ++ [(⟨r.1, r.2.1, r.2.2.1, r.2.2.2.1⟩ : S44)]) ((pre ++ p :: suf).map B) ((pre.length + 1 : Nat) : Int)) else none) else some ([], false)) (fun k => ?_) ?_
      · simp only [spec_TxsOf.l0]
        rw [if_pos (by first | omega | (rw [hlen]; omega)), if_pos (by omega), part_at, up1 _ (by omega)]
      · exact Ev.bind ht (ev_pos rfl (ev_pos (by rw [List.length_map]; omega) ih))
theorem spec_TxsOf_ev (s : List UInt8) (hl : s.length ≤ 536870912) : Ev (fun k => spec_TxsOf.f k (B s)) (txsRes [] (ofTs s)) := by
  unfold spec_TxsOf.f ofTs
  simp only [Option.bind_some]
  by_cases c : s = []
  · rw [if_pos c]
    exact ev_pos (by rw [B_toList]; exact c) (ev_some rfl)
  · rw [if_neg c]
    refine ev_neg (by rw [B_toList]; exact c) (Ev.bind (spec_Split_ev s 44 (by omega)) ?_)
    have hn := splitL_len 44 s
    exact spec_TxsOf_loop (splitL 44 s) [] [] (fun p hp => by have := split_part 44 hp; omega) (by simp only [List.nil_append]; omega) rfl

theorem DrawTxOk_ev (l : List Int) (hl : l.length ≤ 1048576) : ∃ f t a m, Ev (fun k => spec_DrawTxOk.f k l) (f, t, a, m) := by
  obtain ⟨x, hx⟩ := l1New_ev l hl
  obtain ⟨f, t, a, m, i2, h2, e2, _, _, _, _, _⟩ := l2Draw_some l 0 x hl (by unfold Cur; omega)
  refine ⟨f, t, a, m, ?_⟩
  unfold spec_DrawTxOk.f
  refine Ev.bind hx ?_
  simp only
  rw [e2]
  exact ev_some rfl

theorem sameTxs_refl (l : List S44) (hl : l.length ≤ 35184372088832) : Ev (fun k => laws_sameTxs.f k l l) true := by
  unfold laws_sameTxs.f
  refine ev_pos rfl ?_
  have loop : ∀ (d n : Nat), l.length - n = d → n ≤ l.length → Ev (fun k => laws_sameTxs.l0 k l l (n : Int)) true := by
    intro d
    induction d with
    | zero =>
      intro n hd hn
      exact Ev.step (f := fun _ => some true) (fun k => by simp only [laws_sameTxs.l0]; rw [if_neg (by omega)]) (ev_some rfl)
    | succ d ih =>
      intro n hd hn
      have h1 : n < l.length := by omega
      refine Ev.step (f := fun k => laws_sameTxs.l0 k l l ((n + 1 : Nat) : Int)) (fun k => ?_) (ih (n + 1) (by omega) (by omega))
      simp only [laws_sameTxs.l0]
      rw [if_pos (by omega), if_pos (by omega), if_pos (by omega), if_neg (by simp), up1 n (by omega)]
  exact loop l.length 0 (by omega) (by omega)

theorem tq_from (x : Tx) : tq (fromT x) = x := rfl
theorem map_tq_from (l : List Tx) : (l.map fromT).map tq = l := by
  rw [List.map_map]
  exact (List.map_congr_left (fun x _ => tq_from x)).trans (List.map_id l)
theorem map_from_tq (l : List S44) : (l.map tq).map fromT = l := by
  rw [List.map_map]
  exact (List.map_congr_left (fun x _ => rfl)).trans (List.map_id l)
theorem FnTxs_loopF (q : List S44) (hq : q.length ≤ 5) : ∀ (d n : Nat), q.length - n = d → n ≤ q.length → Ev (fun k => laws_FnTxs.l0 k q (B []) false (n : Int)) true := by
  intro d
  induction d with
  | zero =>
    intro n hd hn
    refine Ev.step (f := fun _ => some true) (fun k => ?_) (ev_some rfl)
    simp only [laws_FnTxs.l0]
    rw [if_neg (by omega), if_neg (by decide), B_toList]
    rfl
  | succ d ih =>
    intro n hd hn
    refine Ev.step (f := fun k => laws_FnTxs.l0 k q (B []) false ((n + 1 : Nat) : Int)) (fun k => ?_) (ih (n + 1) (by omega) (by omega))
    simp only [laws_FnTxs.l0]
    rw [if_pos (by omega), if_neg (by decide), up1 n (by omega)]
theorem FnTxs_loopT (q : List S44) (hq : q.length ≤ 5) : ∀ (d n : Nat), q.length - n = d → n ≤ q.length → okTs ((q.map tq).take n) → Ev (fun k => laws_FnTxs.l0 k q (B (textTs (q.map tq))) true (n : Int)) true := by
  intro d
  induction d with
  | zero =>
    intro n hd hn hok
    obtain rfl : n = q.length := by omega
    rw [List.take_of_length_le (by simp)] at hok
    have hlen := textTs_len' (q.map tq)
    rw [List.length_map] at hlen
    have ht := impl_TxsOf_ev (textTs (q.map tq)) (by omega)
    rw [ofTs_text _ hok] at ht
    refine Ev.step (f := fun k => (impl_TxsOf.f k (B (textTs (q.map tq)))).bind fun b => (if b.2 = true then ((laws_sameTxs.f k b.1 q).bind fun t => (some t)) else (some false))) (fun k => ?_) (Ev.bind ht (ev_pos rfl ?_))
    · simp only [laws_FnTxs.l0]
      rw [if_neg (by omega), if_pos trivial]
    · simp only [txsRes, List.nil_append]
      rw [map_from_tq]
      exact Ev.bind (sameTxs_refl q (by omega)) (ev_some rfl)
  | succ d ih =>
    intro n hd hn hok
    have h1 : n < q.length := by omega
    by_cases c : okT (tq q[n])
    · have hok' := okTs_snoc hok c
      rw [← take_map_succ q n h1] at hok'
      refine Ev.step (f := fun k => laws_FnTxs.l0 k q (B (textTs (q.map tq))) true ((n + 1 : Nat) : Int)) (fun k => ?_) (ih (n + 1) (by omega) (by omega) hok')
      simp only [laws_FnTxs.l0]
      rw [if_pos (by omega), if_pos trivial, if_pos (by omega), rdT_nat q n h1, impl_TxOk_val, Option.bind_some, decide_eq_true (show txIs q[n].f0 q[n].f1 q[n].f2 q[n].f3 from c), up1 n (by omega)]
    · rw [not_okTs q n h1 c]
      refine Ev.step (f := fun k => laws_FnTxs.l0 k q (B []) false ((n + 1 : Nat) : Int)) (fun k => ?_) (FnTxs_loopF q hq d (n + 1) (by omega) (by omega))
      simp only [laws_FnTxs.l0]
      rw [if_pos (by omega), if_pos trivial, if_pos (by omega), rdT_nat q n h1, impl_TxOk_val, Option.bind_some, decide_eq_false (show ¬ txIs q[n].f0 q[n].f1 q[n].f2 q[n].f3 from c), up1 n (by omega)]
theorem FnTxs_j1 (q : List S44) (hq : q.length ≤ 5) (f t a m : Int) : Ev (fun k => laws_FnTxs.j1 k (B (textT (f, t, a, m))) q (B (textTs (q.map tq))) false f t a m) true := by
  have hj : Ev (fun k => laws_FnTxs.j2 k q (B (textTs (q.map tq)))) true := Ev.step (f := fun k => laws_FnTxs.l0 k q (B (textTs (q.map tq))) true ((0 : Nat) : Int)) (fun k => by simp only [laws_FnTxs.j2]; rfl) (FnTxs_loopT q hq q.length 0 (by omega) (by omega) (by intro x hx; simp at hx))
  refine ev_up ?_
  simp only [laws_FnTxs.j1]
  refine ev_neg (by decide) (ev_const (impl_TxOk_val f t a m) ?_)
  by_cases c : txIs f t a m
  · refine ev_pos (decide_eq_true c) ?_
    have hlen := textT_len (f, t, a, m)
    have ht := impl_TxOf_ev (textT (f, t, a, m)) (by omega)
    have hx : ofT (textT (f, t, a, m)) = some (f, t, a, m) := by
      unfold textT
      rw [if_pos (show okT (f, t, a, m) from c)]
      exact of_text _ c
    rw [hx] at ht
    exact Ev.bind ht (ev_pos rfl (ev_neg (by simp [txRes]) hj))
  · exact ev_neg (by simpa using c) hj
theorem FnTxs (l : List Int) (hm : l.length ≤ maxLen) (hw : ∀ x ∈ l, (Lit.int .u8 x).wf = true) : ∃ k, laws_FnTxs.f k l = some true := by
  refine Ev.rounds ?_
  unfold laws_FnTxs.f laws_big.f
  simp only [Option.bind_some]
  by_cases hl : (l.length : Int) > 1048576
  · exact ev_pos (decide_eq_true hl) (ev_some rfl)
  refine ev_neg (fun z => hl (of_decide_eq_true z)) ?_
  obtain ⟨f, t, a, m, e1⟩ := DrawTxText_ev l (by omega)
  obtain ⟨s, hs, e2⟩ := DrawTxOf_ev l (by omega)
  obtain ⟨q, hq, e3⟩ := DrawTxsText_ev l (by omega)
  obtain ⟨v, hv, e4⟩ := DrawTxsOf_ev l (by omega)
  obtain ⟨f', t', a', m', e5⟩ := DrawTxOk_ev l (by omega)
  have hl4 : (txsRes [] (ofTs v)).1.length ≤ 35184372088832 := by
    cases h : ofTs v with
    | none => simp [txsRes]
    | some r =>
      simp only [txsRes, List.nil_append, List.length_map]
      unfold ofTs at h
      split at h
      · obtain rfl := Option.some.inj h; simp
      · have h1 := (readAll_some h).2
        have h2 := splitL_len 44 v
        have h3 := congrArg List.length h1
        rw [List.length_map] at h3
        omega
  refine Ev.bind e1 (ev_const (impl_TxText_val f t a m) ?_)
  refine Ev.bind e2 (Ev.bind (impl_TxOf_ev s (by omega)) (Ev.bind (spec_TxOf_ev s (by omega)) ?_))
  refine Ev.bind e3 (Ev.bind (impl_TxsText_ev q (by omega)) ?_)
  refine Ev.bind e4 (Ev.bind (impl_TxsOf_ev v (by omega)) (Ev.bind (spec_TxsOf_ev v (by omega)) ?_))
  refine Ev.bind e5 (Ev.bind (spec_TxText_ev f t a m) (ev_pos rfl (ev_neg (by simp) (ev_neg (by simp) ?_))))
  refine Ev.bind (spec_TxsText_ev q (by omega)) (ev_pos rfl (ev_neg (by simp) ?_))
  refine Ev.bind (sameTxs_refl _ hl4) (ev_pos rfl ?_)
  refine ev_const (impl_TxOk_val f' t' a' m') (ev_const (spec_TxOk_val f' t' a' m') ?_)
  rw [show (decide (txIs f' t' a' m') != decide (txIs f' t' a' m')) = false by simp]
  refine ev_up ?_
  simp only [laws_FnTxs.j0]
  refine ev_neg (by decide) ?_
  have last : ∀ r, ofTs v = some r → Ev (fun k => (impl_TxsText.f k (r.map fromT)).bind fun b => (laws_FnTxs.j1 k (B (textT (f, t, a, m))) q (B (textTs (q.map tq))) (b.toList != (B v).toList) f t a m)) true := fun r hr => by
    have h1 := ofTs_some hr
    have h2 : (r.map fromT).length ≤ 1048576 := by
      rw [hr] at hl4
      have h3 := textTs_len' r
      have h4 := splitL_len 44 v
      unfold ofTs at hr
      split at hr
      · obtain rfl := Option.some.inj hr; simp
      · have h5 := congrArg List.length (readAll_some hr).2
        rw [List.length_map] at h5 ⊢
        omega
    have h3 := impl_TxsText_ev (r.map fromT) h2
    rw [map_tq_from, h1.2] at h3
    refine Ev.bind h3 ?_
    rw [show ((B v).toList != (B v).toList) = false by simp]
    exact FnTxs_j1 q hq f t a m
  have rest : Ev (fun k => (if (txsRes [] (ofTs v)).2 = true then ((impl_TxsText.f k (txsRes [] (ofTs v)).1).bind fun b => (laws_FnTxs.j1 k (B (textT (f, t, a, m))) q (B (textTs (q.map tq))) (b.toList != (B v).toList) f t a m)) else (laws_FnTxs.j1 k (B (textT (f, t, a, m))) q (B (textTs (q.map tq))) false f t a m))) true := by
    cases hr : ofTs v with
    | none => exact ev_neg (by simp [txsRes]) (FnTxs_j1 q hq f t a m)
    | some r => exact ev_pos rfl (last r hr)
  cases hx : ofT s with
  | none => exact ev_neg (by simp [txRes]) rest
  | some x =>
    have h1 := ofT_some hx
    refine ev_pos rfl (ev_const (impl_TxText_val _ _ _ _) (ev_pos ?_ rest))
    simp only [txRes]
    rw [show textT (x.1, x.2.1, x.2.2.1, x.2.2.2) = s by unfold textT; rw [if_pos (show okT (x.1, x.2.1, x.2.2.1, x.2.2.2) from h1.1)]; exact h1.2]
end
end Go.Proofs.YtbecffgalndagaaDoor.Pure
