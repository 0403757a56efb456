/- For every list of payments the program's TxsText tells what the reference tells, and the list stays as it was; no condition beyond the row's own (the library's table lies as the program's text lays it). -/
import Derived.Test.YtjjhigboelhjgaaDoorRowKit
import Derived.Test.YtjjhigboelhjgaaDoorS
import Derived.Test.YtjjhigboelhjgaaDoorPFnExactTxsTextx1
import Derived.Test.YtjjhigboelhjgaaDoorPFnExactTxsTextx2
import Derived.Test.YtjjhigboelhjgaaDoorPFnExactTxsTextx3
namespace Go.Proofs.YtjjhigboelhjgaaDoor.Pure
open Go.RowKit Go.Proofs.YtjjhigboelhjgaaDoor.PFnExactTxsText Go.Proofs.YtjjhigboelhjgaaDoorW.PrintWords Go.Proofs.YtjjhigboelhjgaaDoorW.PrintLast Go.Proofs.YtjjhigboelhjgaaDoorS

section
set_option linter.unusedVariables false
set_option linter.unusedSimpArgs false
theorem up1 (n : Nat) (h : n < 4611686018427387904) : wrap64 ((n : Int) + 1) = ((n + 1 : Nat) : Int) := by
  unfold wrap64; omega
theorem up1' (a : Int) (h0 : -4611686018427387904 ≤ a) (h : a < 4611686018427387904) : wrap64 (a + 1) = a + 1 := by
  unfold wrap64; omega
theorem dn1 (a : Int) (h0 : -4611686018427387904 ≤ a) (h : a < 4611686018427387904) : wrap64 (a - 1) = a - 1 := by
  unfold wrap64; omega
theorem wrapI (a : Int) (h0 : -4611686018427387904 ≤ a) (h : a < 4611686018427387904) : wrap64 a = a := by
  unfold wrap64; omega
theorem rd_nat (xs : List Int) (n : Nat) (h : n < xs.length) : rd xs (n : Int) = xs[n] := by
  unfold rd; simp [List.getD_eq_getElem?_getD, h]
theorem ev_eq {α : Type} {g : Nat → Option α} {r s : α} (h : Ev g r) (e : r = s) : Ev g s := e ▸ h
theorem ev_ite {α : Type} {c : Prop} [Decidable c] {g f : Nat → Option α} {r s : α} (hg : c → Ev g r) (hf : ¬ c → Ev f s) : Ev (fun k => if c then g k else f k) (if c then r else s) := by
  by_cases h : c
  · simp only [if_pos h]; exact hg h
  · simp only [if_neg h]; exact hf h
theorem ev_pos {α : Type} {c : Prop} [Decidable c] {g f : Nat → Option α} {r : α} (h : c) (hg : Ev g r) : Ev (fun k => if c then g k else f k) r := by
  simp only [if_pos h]; exact hg
theorem ev_neg {α : Type} {c : Prop} [Decidable c] {g f : Nat → Option α} {r : α} (h : ¬ c) (hf : Ev f r) : Ev (fun k => if c then g k else f k) r := by
  simp only [if_neg h]; exact hf
theorem ev_some {α : Type} {r s : α} (e : r = s) : Ev (fun _ => some r) s := e ▸ Ev.now r
theorem ev_const {α β : Type} {o : Option α} {f : Nat → α → Option β} {a : α} {r : β} (h : o = some a) (k : Ev (fun n => f n a) r) : Ev (fun n => o.bind (f n)) r := by
  subst h; exact k
theorem ev_up {α : Type} {g : Nat → Option α} {r : α} (h : Ev (fun k => g (k + 1)) r) : Ev g r := by
  obtain ⟨K, hK⟩ := h
  refine ⟨K + 1, fun k hk => ?_⟩
  obtain ⟨m, rfl⟩ : ∃ m, k = m + 1 := ⟨k - 1, by omega⟩
  exact hK m (by omega)
theorem wNat (c : Nat) (h : c < 4611686018427387904) : wrap64 (c : Int) = (c : Int) := by unfold wrap64; omega
theorem wAdd (a i : Nat) (h : a + i < 4611686018427387904) : wrap64 ((a : Int) + (i : Int)) = ((a + i : Nat) : Int) := by unfold wrap64; omega
theorem wAdd1 (a i : Nat) (h : a + i < 4611686018427387904) : wrap64 (((a + i : Nat) : Int) + 1) = (a : Int) + ((i + 1 : Nat) : Int) := by unfold wrap64; omega
theorem wSub (a i : Nat) (h : a < 4611686018427387904) (h' : i < 4611686018427387904) : wrap64 ((a : Int) - (i : Int)) = (a : Int) - (i : Int) := by unfold wrap64; omega
theorem tmod128 (c : Nat) : Int.tmod (c : Int) 128 = ((c % 128 : Nat) : Int) := by rw [Int.tmod_eq_emod_of_nonneg (by omega)]; omega
theorem all_drop {α : Type} {P : α → Prop} {l : List α} {i : Nat} (h : i < l.length) : (∀ x ∈ l.drop i, P x) ↔ P l[i] ∧ ∀ x ∈ l.drop (i + 1), P x := by
  rw [List.drop_eq_getElem_cons h, List.forall_mem_cons]

theorem szTxS_val (l : List S28) (a : Int) (hm : l.length ≤ maxLen) (h0 : 0 ≤ a) (h1 : a ≤ 1048576) : laws_szTxS.f l a = some (if a < l.length then -1 else a - l.length) := by
  unfold maxLen at hm
  have e : wrap64 (a - (l.length : Int)) = a - l.length := by unfold wrap64; omega
  unfold laws_szTxS.f
  rw [e]
  by_cases h : a < l.length
  · rw [if_pos (by omega), if_pos h]
  · rw [if_neg (by omega), if_neg h]

abbrev B (l : List UInt8) : ByteArray := ⟨l.toArray⟩
theorem B_list (l : List UInt8) : (B l).data.toList = l := by simp
theorem B_of (s : ByteArray) : B s.data.toList = s := Lib.mk_data s
theorem B_size (l : List UInt8) : (B l).size = l.length := by simp [ByteArray.size]
theorem B_app (l m : List UInt8) : B l ++ B m = B (l ++ m) := by
  rw [← B_of (B l ++ B m)]
  congr 2
  first | done | simp
theorem B_toList (l : List UInt8) : (B l).toList = l := by rw [Lib.toList_data, B_list]
theorem B_eq {l m : List UInt8} : B l = B m ↔ l = m := ⟨fun h => by have := congrArg (fun s : ByteArray => s.data.toList) h; simpa using this, fun h => by rw [h]⟩
theorem B_eta (s : ByteArray) : ∃ l, s = B l ∧ s.size = l.length ∧ s.data.toList = l := ⟨s.data.toList, (B_of s).symm, Lib.size_eq s, rfl⟩
theorem nums_B (xs : List Int) : strOfNums xs = B (xs.map fun n => UInt8.ofNat n.toNat) := rfl
theorem bt_B (l : List UInt8) (i : Nat) (h : i < l.length) : bt (B l) (i : Int) = (l[i].toNat : Int) := by
  rw [← bt_at (B l) i (by rw [Int.toNat_natCast, B_size]; exact h)]
  rfl
theorem bt_mid (pre suf : List UInt8) (b : UInt8) : bt (B (pre ++ b :: suf)) (pre.length : Int) = (b.toNat : Int) := by
  rw [bt_B _ _ (by simp)]
  simp
theorem extract_B (l : List UInt8) (a b : Nat) : (B l).extract a b = B ((l.drop a).take (b - a)) := by rw [Lib.extract_eq, B_list]
theorem B_nil : (⟨#[]⟩ : ByteArray) = B [] := rfl
theorem digB (m : Int) (h0 : 0 ≤ m) (h1 : m < 10) : strOfNums [(wrap64 (48 + m)) % 256] = B [UInt8.ofNat (48 + m.toNat)] := by
  rw [nums_B]
  have : (wrap64 (48 + m)) % 256 = ((48 + m.toNat : Nat) : Int) := by unfold wrap64; omega
  rw [this]
  rfl
theorem Digits_zero (neg : Bool) (acc : List UInt8) (h : acc.length ≤ 100) : Ev (fun k => spec_Digits.l0 k 0 neg (B acc)) (B ((if neg = true then [45] else []) ++ acc)) := by
  have hs := B_size acc
  refine Ev.step (f := fun _ => some (B ((if neg = true then [45] else []) ++ acc))) (fun k => ?_) (Ev.now _)
  simp only [spec_Digits.l0]
  rw [if_pos trivial]
  by_cases c : neg = true
  · rw [if_pos c, if_pos (by omega), if_pos c, ← B_app]
  · rw [if_neg c, if_neg c, List.nil_append]
theorem Digits_loop : ∀ (d : Nat) (x : Int) (neg : Bool) (acc : List UInt8), x.natAbs < 10 ^ d → acc.length + d ≤ 100 → -9223372036854775808 ≤ x → x ≤ 9223372036854775807 →
    Ev (fun k => spec_Digits.l0 k x neg (B acc)) (B ((if neg = true then [45] else []) ++ ((if x.natAbs = 0 then [] else Lib.decDigits x.natAbs) ++ acc)))
  | 0, x, neg, acc, h, hl, h0, h1 => by
    obtain rfl : x = 0 := by simp at h; exact h
    exact Digits_zero neg acc (by omega)
  | d + 1, x, neg, acc, h, hl, h0, h1 => by
    by_cases hx : x = 0
    · subst hx
      exact Digits_zero neg acc (by omega)
    have hs := B_size acc
    have hq : (wrap64 (Int.tdiv x 10)).natAbs = x.natAbs / 10 ∧ -9223372036854775808 ≤ wrap64 (Int.tdiv x 10) ∧ wrap64 (Int.tdiv x 10) ≤ 9223372036854775807 := by
      have e : Int.tdiv x 10 = if 0 ≤ x then ((x.natAbs / 10 : Nat) : Int) else -((x.natAbs / 10 : Nat) : Int) := by
        split
        · rename_i hp
          obtain ⟨u, rfl⟩ := Int.eq_ofNat_of_zero_le hp
          rfl
        · rename_i hp
          obtain ⟨u, rfl⟩ : ∃ u : Nat, x = -(u : Int) := ⟨x.natAbs, by omega⟩
          rw [Int.neg_tdiv, Int.natAbs_neg, Int.natAbs_natCast]
          rfl
      rw [e]
      unfold wrap64
      split <;> omega
    have hm : Int.tmod x 10 = if 0 ≤ x then ((x.natAbs % 10 : Nat) : Int) else -((x.natAbs % 10 : Nat) : Int) := by
      split
      · rename_i hp
        obtain ⟨u, rfl⟩ := Int.eq_ofNat_of_zero_le hp
        rfl
      · rename_i hp
        obtain ⟨u, rfl⟩ : ∃ u : Nat, x = -(u : Int) := ⟨x.natAbs, by omega⟩
        rw [Int.neg_tmod, Int.natAbs_neg, Int.natAbs_natCast]
        rfl
    have h10 : x.natAbs < 10 * 10 ^ d := by rw [Nat.pow_succ] at h; omega
    have ih := Digits_loop d (wrap64 (Int.tdiv x 10)) neg (UInt8.ofNat (48 + x.natAbs % 10) :: acc) (by rw [hq.1]; omega) (by simp only [List.length_cons]; omega) hq.2.1 hq.2.2
    rw [hq.1] at ih
    have e : (if x.natAbs / 10 = 0 then [] else Lib.decDigits (x.natAbs / 10)) ++ (UInt8.ofNat (48 + x.natAbs % 10) :: acc) = (if x.natAbs = 0 then [] else Lib.decDigits x.natAbs) ++ acc := by
      rw [if_neg (show ¬ x.natAbs = 0 by omega)]
      by_cases hu : x.natAbs < 10
      · rw [if_pos (by omega), Lib.decDigits, dif_pos hu, Nat.mod_eq_of_lt hu]; rfl
      · rw [if_neg (by omega), show Lib.decDigits x.natAbs = Lib.decDigits (x.natAbs / 10) ++ [UInt8.ofNat (48 + x.natAbs % 10)] by rw [Lib.decDigits, dif_neg hu]]
        simp
    rw [e] at ih
    refine Ev.step (f := fun k => spec_Digits.l0 k (wrap64 (Int.tdiv x 10)) neg (B (UInt8.ofNat (48 + x.natAbs % 10) :: acc))) (fun k => ?_) ih
    simp only [spec_Digits.l0]
    rw [if_neg hx]
    by_cases c : Int.tmod x 10 < 0
    · rw [if_pos c, Option.bind_some]
      have e2 : wrap64 (-(Int.tmod x 10)) = ((x.natAbs % 10 : Nat) : Int) := by
        rw [hm] at c ⊢
        unfold wrap64
        split at c <;> rename_i hp
        · omega
        · rw [if_neg hp]; omega
      rw [e2, digB _ (by omega) (by omega), B_size, if_pos (by simp only [List.length_singleton]; omega), Int.toNat_natCast, B_app]
      rfl
    · rw [if_neg c, Option.bind_some]
      have e2 : Int.tmod x 10 = ((x.natAbs % 10 : Nat) : Int) := by
        rw [hm] at c ⊢
        split at c <;> rename_i hp
        · rw [if_pos hp]
        · rw [if_neg hp]; omega
      rw [e2, digB _ (by omega) (by omega), B_size, if_pos (by simp only [List.length_singleton]; omega), Int.toNat_natCast, B_app]
      rfl
theorem spec_Digits_ev (n : Int) (h0 : -9223372036854775808 ≤ n) (h1 : n ≤ 9223372036854775807) : Ev (fun k => spec_Digits.f k n) (B (Lib.itoa n)) := by
  unfold spec_Digits.f
  by_cases hn : n = 0
  · subst hn
    refine ev_pos rfl (ev_some ?_)
    rw [show Lib.itoa 0 = Lib.decDigits 0 from rfl, Lib.decDigits]
    rfl
  refine ev_neg hn ?_
  have h := Digits_loop 19 n (decide (n < 0)) [] (by omega) (by simp) h0 h1
  refine ev_eq h ?_
  rw [if_neg (show ¬ n.natAbs = 0 by omega), List.append_nil]
  unfold Lib.itoa
  by_cases c : n < 0
  · rw [if_pos (decide_eq_true c), if_pos c]; rfl
  · rw [if_neg (by simpa using c), if_neg c, show n.natAbs = n.toNat by omega]; rfl

theorem spec_l1In_val (a b c : Int) : spec_l1In.f a b c = some (decide (b ≤ a ∧ a ≤ c)) := by
  unfold spec_l1In.f
  by_cases h : a ≥ b <;> by_cases h2 : a ≤ c <;> simp [h, h2] <;> omega

def txIs (f t a n : Int) : Prop := (0 ≤ f ∧ f ≤ 3) ∧ (0 ≤ t ∧ t ≤ 3) ∧ (0 ≤ a ∧ a ≤ 1000) ∧ 0 ≤ n ∧ n ≤ 99
instance (f t a n : Int) : Decidable (txIs f t a n) := by unfold txIs; infer_instance
theorem spec_TxOk_val (f t a n : Int) : spec_TxOk.f f t a n = some (decide (txIs f t a n)) := by
  unfold spec_TxOk.f txIs
  simp only [spec_l1In_val, Option.bind_some, decide_eq_true_eq]
  by_cases h1 : 0 ≤ f ∧ f ≤ 3 <;> by_cases h2 : 0 ≤ t ∧ t ≤ 3 <;> by_cases h3 : 0 ≤ a ∧ a ≤ 1000 <;> simp only [h1, h2, h3, if_true, if_false, true_and, false_and, and_false, and_self, decide_false]

theorem itoa_len (n : Int) (h0 : 0 ≤ n) (h1 : n ≤ 1000) : (Lib.itoa n).length ≤ 4 := by
  obtain ⟨u, rfl⟩ := Int.eq_ofNat_of_zero_le h0
  rw [itoa_nat]
  exact dec_len 3 u (by omega)
theorem rawB (x : Tx) : ((((((B (Lib.itoa x.1) ++ (⟨#[62]⟩ : ByteArray)) ++ B (Lib.itoa x.2.1)) ++ (⟨#[58]⟩ : ByteArray)) ++ B (Lib.itoa x.2.2.1)) ++ (⟨#[35]⟩ : ByteArray)) ++ B (Lib.itoa x.2.2.2)) = B (rawT x) := by
  rw [show (⟨#[62]⟩ : ByteArray) = B [62] from rfl, show (⟨#[58]⟩ : ByteArray) = B [58] from rfl, show (⟨#[35]⟩ : ByteArray) = B [35] from rfl]
  simp only [B_app]
  unfold rawT
  simp
theorem raw_len (x : Tx) (h : okT x) : (rawT x).length ≤ 19 := by
  unfold okT at h
  have a := itoa_len x.1 (by omega) (by omega)
  have b := itoa_len x.2.1 (by omega) (by omega)
  have c := itoa_len x.2.2.1 (by omega) (by omega)
  have d := itoa_len x.2.2.2 (by omega) (by omega)
  unfold rawT
  simp only [List.length_append, List.length_cons]
  omega
theorem spec_TxText_ev (f t a n : Int) : Ev (fun k => spec_TxText.f k f t a n) (B (textT (f, t, a, n))) := by
  unfold spec_TxText.f
  simp only [spec_TxOk_val, Option.bind_some]
  by_cases c : txIs f t a n
  · have c' : okT (f, t, a, n) := c
    have c2 := c
    unfold txIs at c2
    have h1 := itoa_len f (by omega) (by omega)
    have h2 := itoa_len t (by omega) (by omega)
    have h3 := itoa_len a (by omega) (by omega)
    have h4 := itoa_len n (by omega) (by omega)
    have s1 := B_size (Lib.itoa f)
    have s2 := B_size (Lib.itoa t)
    have s3 := B_size (Lib.itoa a)
    have s4 := B_size (Lib.itoa n)
    have z1 : (⟨#[62]⟩ : ByteArray).size = 1 := rfl
    have z2 : (⟨#[58]⟩ : ByteArray).size = 1 := rfl
    have z3 : (⟨#[35]⟩ : ByteArray).size = 1 := rfl
    have ht : textT (f, t, a, n) = rawT (f, t, a, n) := by unfold textT; rw [if_pos c']
    rw [ht]
    simp only [decide_eq_true c, if_true]
    refine Ev.bind (spec_Digits_ev f (by omega) (by omega)) (ev_pos (by omega) ?_)
    refine Ev.bind (spec_Digits_ev t (by omega) (by omega)) (ev_pos (by rw [ByteArray.size_append]; omega) (ev_pos (by rw [ByteArray.size_append, ByteArray.size_append]; omega) ?_))
    refine Ev.bind (spec_Digits_ev a (by omega) (by omega)) (ev_pos (by rw [ByteArray.size_append, ByteArray.size_append, ByteArray.size_append]; omega) (ev_pos (by rw [ByteArray.size_append, ByteArray.size_append, ByteArray.size_append, ByteArray.size_append]; omega) ?_))
    refine Ev.bind (spec_Digits_ev n (by omega) (by omega)) (ev_pos (by rw [ByteArray.size_append, ByteArray.size_append, ByteArray.size_append, ByteArray.size_append, ByteArray.size_append]; omega) ?_)
    exact ev_some (rawB (f, t, a, n))
  · have ht : textT (f, t, a, n) = [] := by unfold textT; rw [if_neg (show ¬ okT (f, t, a, n) from c)]
    rw [ht]
    simp only [decide_eq_false c, Bool.false_eq_true, if_false]
    exact ev_some rfl

def txOkS (x : S30) : Prop := txIs x.f0 x.f1 x.f2 x.f3
instance (x : S30) : Decidable (txOkS x) := by unfold txOkS; infer_instance
theorem rdT_nat (xs : List S30) (n : Nat) (h : n < xs.length) : rd_T30 xs (n : Int) = xs[n] := by
  unfold rd_T30; simp [List.getD_eq_getElem?_getD, h]
def tq (x : S30) : Tx := (x.f0, x.f1, x.f2, x.f3)
theorem join_len : ∀ (l : List Tx), okTs l → (joinL 44 (l.map rawT)).length ≤ 20 * l.length
  | [], _ => by simp [joinL]
  | [x], h => by
    have := raw_len x (h x (by simp))
    simp only [List.map_cons, List.map_nil, joinL, List.length_singleton]
    omega
  | x :: y :: l, h => by
    have h1 := raw_len x (h x (by simp))
    have h2 := join_len (y :: l) (fun z hz => h z (by simp at hz ⊢; exact .inr hz))
    rw [List.map_cons, joinL_cons _ _ (by simp), List.length_append, List.length_cons]
    simp only [List.length_cons] at h2 ⊢
    omega
theorem take_map_succ (l : List S30) (n : Nat) (h : n < l.length) : (l.map tq).take (n + 1) = (l.map tq).take n ++ [tq l[n]] := by
  rw [List.take_succ_eq_append_getElem (by simpa using h), List.getElem_map]
theorem okTs_snoc {l : List Tx} {x : Tx} (h : okTs l) (hx : okT x) : okTs (l ++ [x]) := fun y hy => by
  rcases List.mem_append.1 hy with hy | hy
  · exact h y hy
  · rw [List.mem_singleton.1 hy]; exact hx
theorem not_okTs (l : List S30) (n : Nat) (h : n < l.length) (hx : ¬ okT (tq l[n])) : textTs (l.map tq) = [] := by
  unfold textTs
  rw [if_neg (fun hh => hx (hh _ (List.mem_map.2 ⟨_, List.getElem_mem h, rfl⟩)))]
theorem libjoin (c : UInt8) : ∀ l : List (List UInt8), Lib.join l [c] = joinL c l
  | [] => rfl
  | [a] => by simp [Lib.join, joinL]
  | a :: b :: l => by
    have ih := libjoin c (b :: l)
    unfold Lib.join at ih ⊢
    rw [joinL, ← ih, List.intercalate_cons_cons]
    simp
theorem spec_TxsText_loop (l : List S30) (hl : l.length ≤ 1048576) : ∀ (d n : Nat), l.length - n = d → n ≤ l.length → okTs ((l.map tq).take n) → Ev (fun k => spec_TxsText.l0 k l (B (joinL 44 (((l.map tq).take n).map rawT))) (n : Int)) (B (textTs (l.map tq))) := by
  intro d
  induction d with
  | zero =>
    intro n hd hn hok
    obtain rfl : n = l.length := by omega
    rw [List.take_of_length_le (by simp)] at hok ⊢
    have e : textTs (l.map tq) = joinL 44 ((l.map tq).map rawT) := by unfold textTs; rw [if_pos hok]
    rw [e]
    exact Ev.step (f := fun _ => some _) (fun k => by simp only [spec_TxsText.l0]; rw [if_neg (by omega)]) (Ev.now _)
  | succ d ih =>
    intro n hd hn hok
    have h1 : n < l.length := by omega
    have hlen := join_len _ hok
    have htl : ((l.map tq).take n).length = n := by rw [List.length_take]; simp; omega
    rw [htl] at hlen
    have hs := B_size (joinL 44 (((l.map tq).take n).map rawT))
    by_cases c : okT (tq l[n])
    · have hr := raw_len _ c
      have hok' := okTs_snoc hok c
      have ht : textT (l[n].f0, l[n].f1, l[n].f2, l[n].f3) = rawT (tq l[n]) := by
        unfold textT
        rw [if_pos (show okT (l[n].f0, l[n].f1, l[n].f2, l[n].f3) from c)]; rfl
      have hsr := B_size (rawT (tq l[n]))
      rw [← take_map_succ l n h1] at hok'
      have ih' := ih (n + 1) (by omega) (by omega) hok'
      have htx := spec_TxText_ev l[n].f0 l[n].f1 l[n].f2 l[n].f3
      rw [ht] at htx
      rw [take_map_succ l n h1, List.map_append, List.map_singleton] at ih'
      by_cases hz : n = 0
      · subst hz
        refine Ev.step (f := fun k => (spec_TxText.f k l[0].f0 l[0].f1 l[0].f2 l[0].f3).bind fun t => (if (B (joinL 44 (((l.map tq).take 0).map rawT))).size + t.size ≤ 9223372036854775807 then (spec_TxsText.l0 k l (B (joinL 44 (((l.map tq).take 0).map rawT)) ++ t) ((0 + 1 : Nat) : Int)) else (none))) (fun k => ?_) ?_
        · simp only [spec_TxsText.l0]
          rw [if_pos (by omega), if_pos (by omega), rdT_nat l 0 h1, spec_TxOk_val, Option.bind_some, if_pos (decide_eq_true (show txIs l[0].f0 l[0].f1 l[0].f2 l[0].f3 from c)), if_neg (by omega), up1 0 (by omega)]
        · refine Ev.bind htx (ev_pos (by omega) ?_)
          exact ih'
      · have hne : ((l.map tq).take n).map rawT ≠ [] := fun h => by have := congrArg List.length h; rw [List.length_map, htl] at this; exact hz (by simpa using this)
        rw [joinL_append _ _ hne] at ih'
        have z1 : (⟨#[44]⟩ : ByteArray).size = 1 := rfl
        refine Ev.step (f := fun k => (spec_TxText.f k l[n].f0 l[n].f1 l[n].f2 l[n].f3).bind fun t => (if (B (joinL 44 (((l.map tq).take n).map rawT)) ++ (⟨#[44]⟩ : ByteArray)).size + t.size ≤ 9223372036854775807 then (spec_TxsText.l0 k l ((B (joinL 44 (((l.map tq).take n).map rawT)) ++ (⟨#[44]⟩ : ByteArray)) ++ t) ((n + 1 : Nat) : Int)) else (none))) (fun k => ?_) ?_
        · simp only [spec_TxsText.l0]
          rw [if_pos (by omega), if_pos (by omega), rdT_nat l n h1, spec_TxOk_val, Option.bind_some, if_pos (decide_eq_true (show txIs l[n].f0 l[n].f1 l[n].f2 l[n].f3 from c)), if_pos (by omega), if_pos (by omega), up1 n (by omega)]
        · refine Ev.bind htx (ev_pos (by rw [ByteArray.size_append]; omega) ?_)
          rw [show (⟨#[44]⟩ : ByteArray) = B [44] from rfl, B_app, B_app, List.append_assoc, List.singleton_append]
          exact ih'
    · rw [not_okTs l n h1 c]
      refine Ev.step (f := fun _ => some (B [])) (fun k => ?_) (Ev.now _)
      simp only [spec_TxsText.l0]
      rw [if_pos (by omega), if_pos (by omega), rdT_nat l n h1, spec_TxOk_val, Option.bind_some, if_neg (by simpa using (show ¬ txIs l[n].f0 l[n].f1 l[n].f2 l[n].f3 from c))]
theorem spec_TxsText_ev (l : List S30) (hl : l.length ≤ 1048576) : Ev (fun k => spec_TxsText.f k l) (B (textTs (l.map tq))) := by
  unfold spec_TxsText.f
  exact spec_TxsText_loop l hl l.length 0 (by omega) (by omega) (by intro x hx; simp at hx)

def toI (x : S28) : S30 := ⟨x.f0, x.f1, x.f2, x.f3⟩
theorem rdJ_nat (xs : List S28) (n : Nat) (h : n < xs.length) : rd_T28 xs (n : Int) = xs[n] := by
  unfold rd_T28; simp [List.getD_eq_getElem?_getD, h]
theorem toTxS_loop (l : List S28) (hl : l.length ≤ 8796093022208) : ∀ (d n : Nat) (x : List S30), l.length - n = d → n ≤ l.length → x.length = l.length → x.take n = (l.map toI).take n → Ev (fun k => laws_toTxS.l0 k l x (n : Int)) (l.map toI) := by
  intro d
  induction d with
  | zero =>
    intro n x hd hn hx ht
    obtain rfl : n = l.length := by omega
    refine Ev.step (f := fun _ => some x) (fun k => by simp only [laws_toTxS.l0]; rw [if_neg (by omega)]) (ev_some ?_)
    rw [List.take_of_length_le (by omega), List.take_of_length_le (by simp)] at ht
    exact ht
  | succ d ih =>
    intro n x hd hn hx ht
    have h1 : n < l.length := by omega
    refine Ev.step (f := fun k => laws_toTxS.l0 k l (x.set n (toI l[n])) ((n + 1 : Nat) : Int)) (fun k => ?_) (ih (n + 1) (x.set n (toI l[n])) (by omega) (by omega) (by simpa using hx) ?_)
    · simp only [laws_toTxS.l0]
      rw [if_pos (by omega), if_pos (by omega), rdJ_nat l n h1]
      simp only [laws_toTx.f, Option.bind_some]
      rw [if_pos (by omega), up1 n (by omega)]
      rfl
    · rw [List.take_succ_eq_append_getElem (by simpa [hx] using h1), List.take_succ_eq_append_getElem (by simpa using h1)]
      simp only [List.take_set_of_le (Nat.le_refl n), ht, List.getElem_set_self, List.getElem_map]
theorem toTxS_ev (l : List S28) (hl : l.length ≤ 8796093022208) : Ev (fun k => laws_toTxS.f k l) (l.map toI) := by
  unfold laws_toTxS.f
  refine ev_pos (by omega) (ev_pos (by simpa using hl) ?_)
  exact toTxS_loop l hl l.length 0 _ (by omega) (by omega) (by simp) (by simp)

theorem impl_Digits_val (n : Int) (h0 : -9223372036854775808 ≤ n) (h1 : n ≤ 9223372036854775807) : impl_Digits.f n = some (B (Lib.itoa n)) := by
  unfold impl_Digits.f strconv_Itoa.f
  rw [if_pos ⟨h0, h1⟩]; rfl

theorem impl_within_val (a b c : Int) : impl_within.f a b c = some (decide (b ≤ a ∧ a ≤ c)) := by
  unfold impl_within.f
  by_cases h : a ≥ b <;> by_cases h2 : a ≤ c <;> simp [h, h2] <;> omega

theorem impl_TxOk_val (f t a n : Int) : impl_TxOk.f f t a n = some (decide (txIs f t a n)) := by
  unfold impl_TxOk.f txIs
  simp only [impl_within_val, Option.bind_some, decide_eq_true_eq]
  by_cases h1 : 0 ≤ f ∧ f ≤ 3 <;> by_cases h2 : 0 ≤ t ∧ t ≤ 3 <;> by_cases h3 : 0 ≤ a ∧ a ≤ 1000 <;> simp only [h1, h2, h3, if_true, if_false, true_and, false_and, and_false, and_self, decide_false]

theorem impl_TxText_val (f t a n : Int) : impl_TxText.f f t a n = some (B (textT (f, t, a, n))) := by
  unfold impl_TxText.f
  simp only [impl_TxOk_val, Option.bind_some]
  by_cases c : txIs f t a n
  · have c' : okT (f, t, a, n) := c
    have c2 := c
    unfold txIs at c2
    have h1 := itoa_len f (by omega) (by omega)
    have h2 := itoa_len t (by omega) (by omega)
    have h3 := itoa_len a (by omega) (by omega)
    have h4 := itoa_len n (by omega) (by omega)
    have s1 := B_size (Lib.itoa f)
    have s2 := B_size (Lib.itoa t)
    have s3 := B_size (Lib.itoa a)
    have s4 := B_size (Lib.itoa n)
    have z1 : (⟨#[62]⟩ : ByteArray).size = 1 := rfl
    have z2 : (⟨#[58]⟩ : ByteArray).size = 1 := rfl
    have z3 : (⟨#[35]⟩ : ByteArray).size = 1 := rfl
    have ht : textT (f, t, a, n) = rawT (f, t, a, n) := by unfold textT; rw [if_pos c']
    rw [ht]
    simp only [decide_eq_true c, if_true]
    rw [impl_Digits_val f (by omega) (by omega), Option.bind_some, if_pos (by omega), impl_Digits_val t (by omega) (by omega), Option.bind_some, if_pos (by rw [ByteArray.size_append]; omega), if_pos (by rw [ByteArray.size_append, ByteArray.size_append]; omega),
      impl_Digits_val a (by omega) (by omega), Option.bind_some, if_pos (by rw [ByteArray.size_append, ByteArray.size_append, ByteArray.size_append]; omega), if_pos (by rw [ByteArray.size_append, ByteArray.size_append, ByteArray.size_append, ByteArray.size_append]; omega),
      impl_Digits_val n (by omega) (by omega), Option.bind_some, if_pos (by rw [ByteArray.size_append, ByteArray.size_append, ByteArray.size_append, ByteArray.size_append, ByteArray.size_append]; omega)]
    exact congrArg some (rawB (f, t, a, n))
  · have ht : textT (f, t, a, n) = [] := by unfold textT; rw [if_neg (show ¬ okT (f, t, a, n) from c)]
    rw [ht]
    simp only [decide_eq_false c, Bool.false_eq_true, if_false]

theorem impl_TxsText_loop (l : List S30) (hl : l.length ≤ 1048576) : ∀ (d n : Nat), l.length - n = d → n ≤ l.length → okTs ((l.map tq).take n) → Ev (fun k => impl_TxsText.l0 k (((l.map tq).take n).map fun x => B (rawT x)) l (l.length : Int) (n : Int)) (B (textTs (l.map tq))) := by
  intro d
  induction d with
  | zero =>
    intro n hd hn hok
    obtain rfl : n = l.length := by omega
    rw [List.take_of_length_le (by simp)] at hok ⊢
    have hlen := join_len _ hok
    have e : textTs (l.map tq) = joinL 44 ((l.map tq).map rawT) := by unfold textTs; rw [if_pos hok]
    have e2 : (((l.map tq).map fun x => B (rawT x)).map (·.data.toList)) = (l.map tq).map rawT := by
      rw [List.map_map]
      exact List.map_congr_left (fun x _ => B_list _)
    rw [e]
    refine Ev.step (f := fun _ => some (B (joinL 44 ((l.map tq).map rawT)))) (fun k => ?_) (Ev.now _)
    simp only [impl_TxsText.l0]
    rw [if_neg (by omega)]
    unfold strings_Join.f
    rw [e2, show (⟨#[44]⟩ : ByteArray).data.toList = [44] from rfl, libjoin, if_pos ⟨by simp only [List.length_map]; omega, by simp only [List.length_map] at hlen; omega⟩]
    rfl
  | succ d ih =>
    intro n hd hn hok
    have h1 : n < l.length := by omega
    have htl : ((l.map tq).take n).length = n := by rw [List.length_take]; simp; omega
    by_cases c : okT (tq l[n])
    · have hok' := okTs_snoc hok c
      have ht : textT (l[n].f0, l[n].f1, l[n].f2, l[n].f3) = rawT (tq l[n]) := by
        unfold textT
        rw [if_pos (show okT (l[n].f0, l[n].f1, l[n].f2, l[n].f3) from c)]; rfl
      rw [← take_map_succ l n h1] at hok'
      have ih' := ih (n + 1) (by omega) (by omega) hok'
      rw [take_map_succ l n h1, List.map_append, List.map_singleton] at ih'
      refine Ev.step (f := fun k => impl_TxsText.l0 k ((((l.map tq).take n).map fun x => B (rawT x)) ++ [B (rawT (tq l[n]))]) l (l.length : Int) ((n + 1 : Nat) : Int)) (fun k => ?_) ih'
      simp only [impl_TxsText.l0]
      rw [if_pos (by omega), if_pos (by omega), if_pos (by omega), rdT_nat l n h1, impl_TxOk_val, Option.bind_some, if_pos (decide_eq_true (show txIs l[n].f0 l[n].f1 l[n].f2 l[n].f3 from c)), impl_TxText_val, Option.bind_some, ht, if_pos (by rw [List.length_map, htl]; omega), up1 n (by omega)]
    · rw [not_okTs l n h1 c]
      refine Ev.step (f := fun _ => some (B [])) (fun k => ?_) (Ev.now _)
      simp only [impl_TxsText.l0]
      rw [if_pos (by omega), if_pos (by omega), if_pos (by omega), rdT_nat l n h1, impl_TxOk_val, Option.bind_some, if_neg (by simpa using (show ¬ txIs l[n].f0 l[n].f1 l[n].f2 l[n].f3 from c))]
theorem impl_TxsText_ev (l : List S30) (hl : l.length ≤ 1048576) : Ev (fun k => impl_TxsText.f k l) (B (textTs (l.map tq))) := by
  unfold impl_TxsText.f
  exact impl_TxsText_loop l hl l.length 0 (by omega) (by omega) (by intro x hx; simp at hx)

theorem eqTxS_refl (l : List S30) (hl : l.length ≤ 35184372088832) : Ev (fun k => laws_eqTxS.f k l l) true := by
  unfold laws_eqTxS.f
  refine ev_pos rfl ?_
  have loop : ∀ (d n : Nat), l.length - n = d → n ≤ l.length → Ev (fun k => laws_eqTxS.l0 k l l (n : Int)) true := by
    intro d
    induction d with
    | zero =>
      intro n hd hn
      exact Ev.step (f := fun _ => some true) (fun k => by simp only [laws_eqTxS.l0]; rw [if_neg (by omega)]) (ev_some rfl)
    | succ d ih =>
      intro n hd hn
      have h1 : n < l.length := by omega
      refine Ev.step (f := fun k => laws_eqTxS.l0 k l l ((n + 1 : Nat) : Int)) (fun k => ?_) (ih (n + 1) (by omega) (by omega))
      simp only [laws_eqTxS.l0]
      rw [if_pos (by omega), if_pos (by omega), if_pos (by omega), up1 n (by omega)]
      simp [laws_eqTx.f]
  exact loop l.length 0 (by omega) (by omega)

theorem FnExactTxsText (p : List S28) (hm : p.length ≤ maxLen) (hw : ∀ x ∈ p, Go.Proofs.YtjjhigboelhjgaaDoor.RowKit.Fit4 (x.f0, x.f1, x.f2, x.f3)) : ∃ k, laws_FnExactTxsText.f k p = some true := by
  refine Ev.rounds ?_
  unfold laws_FnExactTxsText.f
  refine ev_const (szTxS_val p _ hm (by omega) (by omega)) ?_
  by_cases c : (1048576 : Int) < p.length
  · rw [if_pos c]; exact ev_pos (by omega) (ev_some rfl)
  rw [if_neg c]
  refine ev_neg (by omega) ?_
  have b1 : p.length ≤ 8796093022208 := by omega
  have b2 : (p.map toI).length ≤ 35184372088832 := by rw [List.length_map]; omega
  have b3 : (p.map toI).length ≤ 1048576 := by rw [List.length_map]; omega
  refine Ev.bind (toTxS_ev p b1) (Ev.bind (spec_TxsText_ev _ b3) ?_)
  refine Ev.bind (toTxS_ev p b1) (Ev.bind (impl_TxsText_ev _ b3) ?_)
  refine ev_pos rfl ?_
  refine Ev.bind (toTxS_ev p b1) (Ev.bind (eqTxS_refl _ b2) ?_)
  exact ev_pos rfl (ev_some rfl)
end
end Go.Proofs.YtjjhigboelhjgaaDoor.Pure
