/- For every text the program's Number tells what the reference tells; no condition beyond the row's own (the library's table lies as the program's text lays it). -/
import Derived.Test.YtjjhigboelhjgaaDoorS
import Derived.Test.YtjjhigboelhjgaaDoorPFnExactNumberx1
namespace Go.Proofs.YtjjhigboelhjgaaDoor.Pure
open Go.RowKit Go.Proofs.YtjjhigboelhjgaaDoor.PFnExactNumber Go.Proofs.YtjjhigboelhjgaaDoorW.PrintWords Go.Proofs.YtjjhigboelhjgaaDoorW.PrintLast Go.Proofs.YtjjhigboelhjgaaDoorS

section
set_option linter.unusedVariables false
set_option linter.unusedSimpArgs false
theorem up1 (n : Nat) (h : n < 4611686018427387904) : wrap64 ((n : Int) + 1) = ((n + 1 : Nat) : Int) := by
  unfold wrap64; omega
theorem up1' (a : Int) (h0 : -4611686018427387904 ≤ a) (h : a < 4611686018427387904) : wrap64 (a + 1) = a + 1 := by
  unfold wrap64; omega
theorem dn1 (a : Int) (h0 : -4611686018427387904 ≤ a) (h : a < 4611686018427387904) : wrap64 (a - 1) = a - 1 := by
  unfold wrap64; omega
theorem wrapI (a : Int) (h0 : -4611686018427387904 ≤ a) (h : a < 4611686018427387904) : wrap64 a = a := by
  unfold wrap64; omega
theorem rd_nat (xs : List Int) (n : Nat) (h : n < xs.length) : rd xs (n : Int) = xs[n] := by
  unfold rd; simp [List.getD_eq_getElem?_getD, h]
theorem ev_eq {α : Type} {g : Nat → Option α} {r s : α} (h : Ev g r) (e : r = s) : Ev g s := e ▸ h
theorem ev_ite {α : Type} {c : Prop} [Decidable c] {g f : Nat → Option α} {r s : α} (hg : c → Ev g r) (hf : ¬ c → Ev f s) : Ev (fun k => if c then g k else f k) (if c then r else s) := by
  by_cases h : c
  · simp only [if_pos h]; exact hg h
  · simp only [if_neg h]; exact hf h
theorem ev_pos {α : Type} {c : Prop} [Decidable c] {g f : Nat → Option α} {r : α} (h : c) (hg : Ev g r) : Ev (fun k => if c then g k else f k) r := by
  simp only [if_pos h]; exact hg
theorem ev_neg {α : Type} {c : Prop} [Decidable c] {g f : Nat → Option α} {r : α} (h : ¬ c) (hf : Ev f r) : Ev (fun k => if c then g k else f k) r := by
  simp only [if_neg h]; exact hf
theorem ev_some {α : Type} {r s : α} (e : r = s) : Ev (fun _ => some r) s := e ▸ Ev.now r
theorem ev_const {α β : Type} {o : Option α} {f : Nat → α → Option β} {a : α} {r : β} (h : o = some a) (k : Ev (fun n => f n a) r) : Ev (fun n => o.bind (f n)) r := by
  subst h; exact k
theorem ev_up {α : Type} {g : Nat → Option α} {r : α} (h : Ev (fun k => g (k + 1)) r) : Ev g r := by
  obtain ⟨K, hK⟩ := h
  refine ⟨K + 1, fun k hk => ?_⟩
  obtain ⟨m, rfl⟩ : ∃ m, k = m + 1 := ⟨k - 1, by omega⟩
  exact hK m (by omega)
theorem wNat (c : Nat) (h : c < 4611686018427387904) : wrap64 (c : Int) = (c : Int) := by unfold wrap64; omega
theorem wAdd (a i : Nat) (h : a + i < 4611686018427387904) : wrap64 ((a : Int) + (i : Int)) = ((a + i : Nat) : Int) := by unfold wrap64; omega
theorem wAdd1 (a i : Nat) (h : a + i < 4611686018427387904) : wrap64 (((a + i : Nat) : Int) + 1) = (a : Int) + ((i + 1 : Nat) : Int) := by unfold wrap64; omega
theorem wSub (a i : Nat) (h : a < 4611686018427387904) (h' : i < 4611686018427387904) : wrap64 ((a : Int) - (i : Int)) = (a : Int) - (i : Int) := by unfold wrap64; omega
theorem tmod128 (c : Nat) : Int.tmod (c : Int) 128 = ((c % 128 : Nat) : Int) := by rw [Int.tmod_eq_emod_of_nonneg (by omega)]; omega
theorem all_drop {α : Type} {P : α → Prop} {l : List α} {i : Nat} (h : i < l.length) : (∀ x ∈ l.drop i, P x) ↔ P l[i] ∧ ∀ x ∈ l.drop (i + 1), P x := by
  rw [List.drop_eq_getElem_cons h, List.forall_mem_cons]

abbrev B (l : List UInt8) : ByteArray := ⟨l.toArray⟩
theorem B_list (l : List UInt8) : (B l).data.toList = l := by simp
theorem B_of (s : ByteArray) : B s.data.toList = s := Lib.mk_data s
theorem B_size (l : List UInt8) : (B l).size = l.length := by simp [ByteArray.size]
theorem B_app (l m : List UInt8) : B l ++ B m = B (l ++ m) := by
  rw [← B_of (B l ++ B m)]
  congr 2
  first | done | simp
theorem B_toList (l : List UInt8) : (B l).toList = l := by rw [Lib.toList_data, B_list]
theorem B_eq {l m : List UInt8} : B l = B m ↔ l = m := ⟨fun h => by have := congrArg (fun s : ByteArray => s.data.toList) h; simpa using this, fun h => by rw [h]⟩
theorem B_eta (s : ByteArray) : ∃ l, s = B l ∧ s.size = l.length ∧ s.data.toList = l := ⟨s.data.toList, (B_of s).symm, Lib.size_eq s, rfl⟩
theorem nums_B (xs : List Int) : strOfNums xs = B (xs.map fun n => UInt8.ofNat n.toNat) := rfl
theorem bt_B (l : List UInt8) (i : Nat) (h : i < l.length) : bt (B l) (i : Int) = (l[i].toNat : Int) := by
  rw [← bt_at (B l) i (by rw [Int.toNat_natCast, B_size]; exact h)]
  rfl
theorem bt_mid (pre suf : List UInt8) (b : UInt8) : bt (B (pre ++ b :: suf)) (pre.length : Int) = (b.toNat : Int) := by
  rw [bt_B _ _ (by simp)]
  simp
theorem extract_B (l : List UInt8) (a b : Nat) : (B l).extract a b = B ((l.drop a).take (b - a)) := by rw [Lib.extract_eq, B_list]
theorem B_nil : (⟨#[]⟩ : ByteArray) = B [] := rfl
theorem digB (m : Int) (h0 : 0 ≤ m) (h1 : m < 10) : strOfNums [(wrap64 (48 + m)) % 256] = B [UInt8.ofNat (48 + m.toNat)] := by
  rw [nums_B]
  have : (wrap64 (48 + m)) % 256 = ((48 + m.toNat : Nat) : Int) := by unfold wrap64; omega
  rw [this]
  rfl
theorem Digits_zero (neg : Bool) (acc : List UInt8) (h : acc.length ≤ 100) : Ev (fun k => spec_Digits.l0 k 0 neg (B acc)) (B ((if neg = true then [45] else []) ++ acc)) := by
  have hs := B_size acc
  refine Ev.step (f := fun _ => some (B ((if neg = true then [45] else []) ++ acc))) (fun k => ?_) (Ev.now _)
  simp only [spec_Digits.l0]
  rw [if_pos trivial]
  by_cases c : neg = true
  · rw [if_pos c, if_pos (by omega), if_pos c, ← B_app]
  · rw [if_neg c, if_neg c, List.nil_append]
theorem Digits_loop : ∀ (d : Nat) (x : Int) (neg : Bool) (acc : List UInt8), x.natAbs < 10 ^ d → acc.length + d ≤ 100 → -9223372036854775808 ≤ x → x ≤ 9223372036854775807 →
    Ev (fun k => spec_Digits.l0 k x neg (B acc)) (B ((if neg = true then [45] else []) ++ ((if x.natAbs = 0 then [] else Lib.decDigits x.natAbs) ++ acc)))
  | 0, x, neg, acc, h, hl, h0, h1 => by
    obtain rfl : x = 0 := by simp at h; exact h
    exact Digits_zero neg acc (by omega)
  | d + 1, x, neg, acc, h, hl, h0, h1 => by
    by_cases hx : x = 0
    · subst hx
      exact Digits_zero neg acc (by omega)
    have hs := B_size acc
    have hq : (wrap64 (Int.tdiv x 10)).natAbs = x.natAbs / 10 ∧ -9223372036854775808 ≤ wrap64 (Int.tdiv x 10) ∧ wrap64 (Int.tdiv x 10) ≤ 9223372036854775807 := by
      have e : Int.tdiv x 10 = if 0 ≤ x then ((x.natAbs / 10 : Nat) : Int) else -((x.natAbs / 10 : Nat) : Int) := by
        split
        · rename_i hp
          obtain ⟨u, rfl⟩ := Int.eq_ofNat_of_zero_le hp
          rfl
        · rename_i hp
          obtain ⟨u, rfl⟩ : ∃ u : Nat, x = -(u : Int) := ⟨x.natAbs, by omega⟩
          rw [Int.neg_tdiv, Int.natAbs_neg, Int.natAbs_natCast]
          rfl
      rw [e]
      unfold wrap64
      split <;> omega
    have hm : Int.tmod x 10 = if 0 ≤ x then ((x.natAbs % 10 : Nat) : Int) else -((x.natAbs % 10 : Nat) : Int) := by
      split
      · rename_i hp
        obtain ⟨u, rfl⟩ := Int.eq_ofNat_of_zero_le hp
        rfl
      · rename_i hp
        obtain ⟨u, rfl⟩ : ∃ u : Nat, x = -(u : Int) := ⟨x.natAbs, by omega⟩
        rw [Int.neg_tmod, Int.natAbs_neg, Int.natAbs_natCast]
        rfl
    have h10 : x.natAbs < 10 * 10 ^ d := by rw [Nat.pow_succ] at h; omega
    have ih := Digits_loop d (wrap64 (Int.tdiv x 10)) neg (UInt8.ofNat (48 + x.natAbs % 10) :: acc) (by rw [hq.1]; omega) (by simp only [List.length_cons]; omega) hq.2.1 hq.2.2
    rw [hq.1] at ih
    have e : (if x.natAbs / 10 = 0 then [] else Lib.decDigits (x.natAbs / 10)) ++ (UInt8.ofNat (48 + x.natAbs % 10) :: acc) = (if x.natAbs = 0 then [] else Lib.decDigits x.natAbs) ++ acc := by
      rw [if_neg (show ¬ x.natAbs = 0 by omega)]
      by_cases hu : x.natAbs < 10
      · rw [if_pos (by omega), Lib.decDigits, dif_pos hu, Nat.mod_eq_of_lt hu]; rfl
      · rw [if_neg (by omega), show Lib.decDigits x.natAbs = Lib.decDigits (x.natAbs / 10) ++ [UInt8.ofNat (48 + x.natAbs % 10)] by rw [Lib.decDigits, dif_neg hu]]
        simp
    rw [e] at ih
    refine Ev.step (f := fun k => spec_Digits.l0 k (wrap64 (Int.tdiv x 10)) neg (B (UInt8.ofNat (48 + x.natAbs % 10) :: acc))) (fun k => ?_) ih
    simp only [spec_Digits.l0]
    rw [if_neg hx]
    by_cases c : Int.tmod x 10 < 0
    · rw [if_pos c, Option.bind_some]
      have e2 : wrap64 (-(Int.tmod x 10)) = ((x.natAbs % 10 : Nat) : Int) := by
        rw [hm] at c ⊢
        unfold wrap64
        split at c <;> rename_i hp
        · omega
        · rw [if_neg hp]; omega
      rw [e2, digB _ (by omega) (by omega), B_size, if_pos (by simp only [List.length_singleton]; omega), Int.toNat_natCast, B_app]
      rfl
    · rw [if_neg c, Option.bind_some]
      have e2 : Int.tmod x 10 = ((x.natAbs % 10 : Nat) : Int) := by
        rw [hm] at c ⊢
        split at c <;> rename_i hp
        · rw [if_pos hp]
        · rw [if_neg hp]; omega
      rw [e2, digB _ (by omega) (by omega), B_size, if_pos (by simp only [List.length_singleton]; omega), Int.toNat_natCast, B_app]
      rfl
theorem spec_Digits_ev (n : Int) (h0 : -9223372036854775808 ≤ n) (h1 : n ≤ 9223372036854775807) : Ev (fun k => spec_Digits.f k n) (B (Lib.itoa n)) := by
  unfold spec_Digits.f
  by_cases hn : n = 0
  · subst hn
    refine ev_pos rfl (ev_some ?_)
    rw [show Lib.itoa 0 = Lib.decDigits 0 from rfl, Lib.decDigits]
    rfl
  refine ev_neg hn ?_
  have h := Digits_loop 19 n (decide (n < 0)) [] (by omega) (by simp) h0 h1
  refine ev_eq h ?_
  rw [if_neg (show ¬ n.natAbs = 0 by omega), List.append_nil]
  unfold Lib.itoa
  by_cases c : n < 0
  · rw [if_pos (decide_eq_true c), if_pos c]; rfl
  · rw [if_neg (by simpa using c), if_neg c, show n.natAbs = n.toNat by omega]; rfl

theorem ten_pow (n : Nat) (h : n ≤ 6) : 10 ^ n ≤ 1000000 := Nat.pow_le_pow_right (by decide) h
theorem spec_Number_loop : ∀ (suf pre : List UInt8) (v : Nat), v < 10 ^ pre.length → (pre ++ suf).length ≤ 6 →
    Ev (fun k => spec_Number.l0 k (B (pre ++ suf)) (v : Int) (pre.length : Int)) (match numL v suf with | none => ((0 : Int), false) | some n => if Lib.decDigits n = pre ++ suf then ((n : Int), true) else (0, false))
  | [], pre, v, hv, hl => by
    rw [List.append_nil] at hl ⊢
    have hs := B_size pre
    have ht := ten_pow pre.length hl
    refine Ev.step (f := fun k => (spec_Digits.f k (v : Int)).bind fun t => (if t.toList = (B pre).toList then (some ((v : Int), true)) else (some (0, false)))) (fun k => by simp only [spec_Number.l0]; rw [if_neg (by omega)]) ?_
    rw [numL]
    refine Ev.bind (spec_Digits_ev v (by omega) (by omega)) ?_
    simp only
    rw [itoa_nat, B_toList, B_toList]
    by_cases c : Lib.decDigits v = pre
    · exact ev_pos c (ev_some (by rw [if_pos c]))
    · exact ev_neg c (ev_some (by rw [if_neg c]))
  | b :: suf, pre, v, hv, hl => by
    have hs := B_size (pre ++ b :: suf)
    have hb := b.toNat_lt
    simp only [List.length_append, List.length_cons] at hl hs
    have ht := ten_pow pre.length (by omega)
    have hbt := bt_mid pre suf b
    rw [numL]
    by_cases c : 48 ≤ b.toNat ∧ b.toNat ≤ 57
    · rw [if_pos c]
      have ih := spec_Number_loop suf (pre ++ [b]) (10 * v + (b.toNat - 48)) (by rw [List.length_append, List.length_singleton, Nat.pow_succ]; omega) (by simp; omega)
      rw [List.append_assoc, List.singleton_append] at ih
      refine Ev.step (f := fun k => spec_Number.l0 k (B (pre ++ b :: suf)) (((10 * v + (b.toNat - 48) : Nat)) : Int) (((pre ++ [b]).length : Nat) : Int)) (fun k => ?_) ih
      simp only [spec_Number.l0]
      rw [if_pos (by omega), if_pos (by omega), hbt, if_neg (by omega), if_neg (by omega)]
      congr 1
      · rw [wrapI (10 * (v : Int)) (by omega) (by omega), wrapI ((b.toNat : Nat) : Int) (by omega) (by omega), wrapI (10 * (v : Int) + (b.toNat : Int)) (by omega) (by omega), wrapI (10 * (v : Int) + (b.toNat : Int) - 48) (by omega) (by omega)]; omega
      · rw [List.length_append, List.length_singleton]; exact up1 _ (by omega)
    · rw [if_neg c]
      refine Ev.step (f := fun _ => some (0, false)) (fun k => ?_) (ev_some rfl)
      simp only [spec_Number.l0]
      rw [if_pos (by omega), if_pos (by omega), hbt]
      by_cases c1 : (b.toNat : Int) < 48
      · rw [if_pos c1]
      · rw [if_neg c1, if_pos (by omega)]
theorem spec_Number_ev (l : List UInt8) : Ev (fun k => spec_Number.f k (B l)) (num l, (numF l).2) := by
  have hs := B_size l
  have hj : Ev (fun k => spec_Number.j0 k (B l) true) ((0 : Int), false) := Ev.step (f := fun _ => some (0, false)) (fun k => by simp only [spec_Number.j0]; rw [if_pos trivial]) (ev_some rfl)
  unfold spec_Number.f
  by_cases c : l.length < 1
  · have e : numF l = (0, false) := by unfold numF; rw [if_pos (.inl c)]
    unfold num
    rw [e]
    exact ev_pos (by omega) hj
  refine ev_neg (by omega) ?_
  by_cases c2 : 6 < l.length
  · have e : numF l = (0, false) := by unfold numF; rw [if_pos (.inr c2)]
    unfold num
    rw [e, decide_eq_true (show ((B l).size : Int) > 6 by omega)]
    exact hj
  rw [decide_eq_false (show ¬ ((B l).size : Int) > 6 by omega)]
  have h := spec_Number_loop l [] 0 (by simp) (by simpa using Nat.not_lt.1 c2)
  refine Ev.step (f := fun k => spec_Number.l0 k (B l) 0 0) (fun k => by simp only [spec_Number.j0]; rw [if_neg (by decide)]) ?_
  refine ev_eq h ?_
  unfold num numF
  rw [if_neg (by omega)]
  simp only [List.nil_append]
  cases numL 0 l with
  | none => rfl
  | some n =>
    simp only
    by_cases c3 : Lib.decDigits n = l
    · rw [if_pos c3, if_pos c3]
    · rw [if_neg c3, if_neg c3]; rfl

theorem impl_Digits_val (n : Int) (h0 : -9223372036854775808 ≤ n) (h1 : n ≤ 9223372036854775807) : impl_Digits.f n = some (B (Lib.itoa n)) := by
  unfold impl_Digits.f strconv_Itoa.f
  rw [if_pos ⟨h0, h1⟩]; rfl

theorem impl_Number_loop : ∀ (suf pre : List UInt8) (v : Nat), v < 10 ^ pre.length → (pre ++ suf).length ≤ 6 →
    Ev (fun k => impl_Number.l0 k (B (pre ++ suf)) (v : Int) (pre.length : Int)) (match numL v suf with | none => ((0 : Int), false) | some n => if Lib.decDigits n = pre ++ suf then ((n : Int), true) else (0, false))
  | [], pre, v, hv, hl => by
    rw [List.append_nil] at hl ⊢
    have hs := B_size pre
    have ht := ten_pow pre.length hl
    refine Ev.step (f := fun k => (impl_Digits.f (v : Int)).bind fun t => (if t.toList = (B pre).toList then (some ((v : Int), true)) else (some (0, false)))) (fun k => by simp only [impl_Number.l0]; rw [if_neg (by omega)]) ?_
    rw [numL]
    refine ev_const (impl_Digits_val v (by omega) (by omega)) ?_
    simp only
    rw [itoa_nat, B_toList, B_toList]
    by_cases c : Lib.decDigits v = pre
    · exact ev_pos c (ev_some (by rw [if_pos c]))
    · exact ev_neg c (ev_some (by rw [if_neg c]))
  | b :: suf, pre, v, hv, hl => by
    have hs := B_size (pre ++ b :: suf)
    have hb := b.toNat_lt
    simp only [List.length_append, List.length_cons] at hl hs
    have ht := ten_pow pre.length (by omega)
    have hbt := bt_mid pre suf b
    rw [numL]
    by_cases c : 48 ≤ b.toNat ∧ b.toNat ≤ 57
    · rw [if_pos c]
      have ih := impl_Number_loop suf (pre ++ [b]) (10 * v + (b.toNat - 48)) (by rw [List.length_append, List.length_singleton, Nat.pow_succ]; omega) (by simp; omega)
      rw [List.append_assoc, List.singleton_append] at ih
      refine Ev.step (f := fun k => impl_Number.l0 k (B (pre ++ b :: suf)) (((10 * v + (b.toNat - 48) : Nat)) : Int) (((pre ++ [b]).length : Nat) : Int)) (fun k => ?_) ih
      simp only [impl_Number.l0]
      rw [if_pos (by omega), if_pos (by omega), hbt, if_neg (by omega), if_neg (by omega)]
      congr 1
      · rw [wrapI (10 * (v : Int)) (by omega) (by omega), Int.emod_eq_of_lt (by omega) (by omega), wrapI (10 * (v : Int) + ((b.toNat : Int) - 48)) (by omega) (by omega)]; omega
      · rw [List.length_append, List.length_singleton]; exact up1 _ (by omega)
    · rw [if_neg c]
      refine Ev.step (f := fun _ => some (0, false)) (fun k => ?_) (ev_some rfl)
      simp only [impl_Number.l0]
      rw [if_pos (by omega), if_pos (by omega), hbt]
      by_cases c1 : (b.toNat : Int) < 48
      · rw [if_pos c1]
      · rw [if_neg c1, if_pos (by omega)]
theorem impl_Number_ev (l : List UInt8) : Ev (fun k => impl_Number.f k (B l)) (num l, (numF l).2) := by
  have hs := B_size l
  have hj : Ev (fun k => impl_Number.j0 k (B l) true) ((0 : Int), false) := Ev.step (f := fun _ => some (0, false)) (fun k => by simp only [impl_Number.j0]; rw [if_pos trivial]) (ev_some rfl)
  unfold impl_Number.f
  by_cases c : l.length < 1
  · have e : numF l = (0, false) := by unfold numF; rw [if_pos (.inl c)]
    unfold num
    rw [e]
    exact ev_pos (by omega) hj
  refine ev_neg (by omega) ?_
  by_cases c2 : 6 < l.length
  · have e : numF l = (0, false) := by unfold numF; rw [if_pos (.inr c2)]
    unfold num
    rw [e, decide_eq_true (show ((B l).size : Int) > 6 by omega)]
    exact hj
  rw [decide_eq_false (show ¬ ((B l).size : Int) > 6 by omega)]
  have h := impl_Number_loop l [] 0 (by simp) (by simpa using Nat.not_lt.1 c2)
  refine Ev.step (f := fun k => impl_Number.l0 k (B l) 0 0) (fun k => by simp only [impl_Number.j0]; rw [if_neg (by decide)]) ?_
  refine ev_eq h ?_
  unfold num numF
  rw [if_neg (by omega)]
  simp only [List.nil_append]
  cases numL 0 l with
  | none => rfl
  | some n =>
    simp only
    by_cases c3 : Lib.decDigits n = l
    · rw [if_pos c3, if_pos c3]
    · rw [if_neg c3, if_neg c3]; rfl

theorem FnExactNumber (a0 : ByteArray) (w0 : a0.size ≤ 9223372036854775807) : ∃ k, laws_FnExactNumber.f k a0 = some true := by
  obtain ⟨l, rfl, hs, _⟩ := B_eta a0
  refine Ev.rounds ?_
  unfold laws_FnExactNumber.f
  by_cases c : ((B l).size : Int) > 1048576
  · exact ev_pos c (ev_some rfl)
  refine ev_neg c ?_
  refine Ev.bind (spec_Number_ev l) (Ev.bind (impl_Number_ev l) ?_)
  exact ev_pos rfl (ev_neg (by simp) (ev_some rfl))
end
end Go.Proofs.YtjjhigboelhjgaaDoor.Pure
