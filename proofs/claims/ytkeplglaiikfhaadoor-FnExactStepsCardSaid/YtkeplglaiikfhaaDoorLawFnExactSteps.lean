/- For every text the program's Steps tells what the reference tells, and the rows it tells share nothing; no condition beyond the row's own (the library's tables lie as the program's text lays them). -/
import Derived.Test.YtkeplglaiikfhaaDoorS
import Derived.Test.YtkeplglaiikfhaaDoorPFnExactStepsx0
import Derived.Test.YtkeplglaiikfhaaDoorPFnExactStepsx1
import Derived.Test.YtkeplglaiikfhaaDoorPFnExactStepsx2
import Derived.Test.YtkeplglaiikfhaaDoorPFnExactStepsx3
import Derived.Test.YtkeplglaiikfhaaDoorPFnExactStepsx4
import Derived.Test.YtkeplglaiikfhaaDoorPFnExactStepsx5
import Derived.Test.YtkeplglaiikfhaaDoorPFnExactStepsx6
import Derived.Test.YtkeplglaiikfhaaDoorPFnExactStepsx7
import Derived.Test.YtkeplglaiikfhaaDoorH
import Derived.Test.YtkeplglaiikfhaaDoorRowKit
import Derived.Test.YtkeplglaiikfhaaDoorLawFnExactStepsw0
namespace Go.Proofs.YtkeplglaiikfhaaDoor.Law
open Go.RowKit Go.Proofs.YtkeplglaiikfhaaDoorW.PrintWords Go.Proofs.YtkeplglaiikfhaaDoorW.PrintLast Go.Proofs.YtkeplglaiikfhaaDoorW.PrintMore Go.Proofs.YtkeplglaiikfhaaDoorH Go.Proofs.YtkeplglaiikfhaaDoor.PFnExactSteps Go.Proofs.YtkeplglaiikfhaaDoorS
set_option linter.unusedVariables false
set_option linter.unusedSimpArgs false
theorem up1 (n : Nat) (h : n < 4611686018427387904) : wrap64 ((n : Int) + 1) = ((n + 1 : Nat) : Int) := by
  unfold wrap64; omega
theorem up1' (a : Int) (h0 : -4611686018427387904 ≤ a) (h : a < 4611686018427387904) : wrap64 (a + 1) = a + 1 := by
  unfold wrap64; omega
theorem dn1 (a : Int) (h0 : -4611686018427387904 ≤ a) (h : a < 4611686018427387904) : wrap64 (a - 1) = a - 1 := by
  unfold wrap64; omega
theorem wrapI (a : Int) (h0 : -4611686018427387904 ≤ a) (h : a < 4611686018427387904) : wrap64 a = a := by
  unfold wrap64; omega
theorem rd_nat (xs : List Int) (n : Nat) (h : n < xs.length) : rd xs (n : Int) = xs[n] := by
  unfold rd; simp [List.getD_eq_getElem?_getD, h]
theorem ev_eq {α : Type} {g : Nat → Option α} {r s : α} (h : Ev g r) (e : r = s) : Ev g s := e ▸ h
theorem ev_ite {α : Type} {c : Prop} [Decidable c] {g f : Nat → Option α} {r s : α} (hg : c → Ev g r) (hf : ¬ c → Ev f s) : Ev (fun k => if c then g k else f k) (if c then r else s) := by
  by_cases h : c
  · simp only [if_pos h]; exact hg h
  · simp only [if_neg h]; exact hf h
theorem ev_pos {α : Type} {c : Prop} [Decidable c] {g f : Nat → Option α} {r : α} (h : c) (hg : Ev g r) : Ev (fun k => if c then g k else f k) r := by
  simp only [if_pos h]; exact hg
theorem ev_neg {α : Type} {c : Prop} [Decidable c] {g f : Nat → Option α} {r : α} (h : ¬ c) (hf : Ev f r) : Ev (fun k => if c then g k else f k) r := by
  simp only [if_neg h]; exact hf
theorem ev_some {α : Type} {r s : α} (e : r = s) : Ev (fun _ => some r) s := e ▸ Ev.now r
theorem ev_const {α β : Type} {o : Option α} {f : Nat → α → Option β} {a : α} {r : β} (h : o = some a) (k : Ev (fun n => f n a) r) : Ev (fun n => o.bind (f n)) r := by
  subst h; exact k
theorem ev_up {α : Type} {g : Nat → Option α} {r : α} (h : Ev (fun k => g (k + 1)) r) : Ev g r := by
  obtain ⟨K, hK⟩ := h
  refine ⟨K + 1, fun k hk => ?_⟩
  obtain ⟨m, rfl⟩ : ∃ m, k = m + 1 := ⟨k - 1, by omega⟩
  exact hK m (by omega)
theorem wNat (c : Nat) (h : c < 4611686018427387904) : wrap64 (c : Int) = (c : Int) := by unfold wrap64; omega
theorem wAdd (a i : Nat) (h : a + i < 4611686018427387904) : wrap64 ((a : Int) + (i : Int)) = ((a + i : Nat) : Int) := by unfold wrap64; omega
theorem wAdd1 (a i : Nat) (h : a + i < 4611686018427387904) : wrap64 (((a + i : Nat) : Int) + 1) = (a : Int) + ((i + 1 : Nat) : Int) := by unfold wrap64; omega
theorem wSub (a i : Nat) (h : a < 4611686018427387904) (h' : i < 4611686018427387904) : wrap64 ((a : Int) - (i : Int)) = (a : Int) - (i : Int) := by unfold wrap64; omega
theorem tmod128 (c : Nat) : Int.tmod (c : Int) 128 = ((c % 128 : Nat) : Int) := by rw [Int.tmod_eq_emod_of_nonneg (by omega)]; omega
theorem all_drop {α : Type} {P : α → Prop} {l : List α} {i : Nat} (h : i < l.length) : (∀ x ∈ l.drop i, P x) ↔ P l[i] ∧ ∀ x ∈ l.drop (i + 1), P x := by
  rw [List.drop_eq_getElem_cons h, List.forall_mem_cons]

abbrev B (l : List UInt8) : ByteArray := ⟨l.toArray⟩
theorem B_list (l : List UInt8) : (B l).data.toList = l := by simp
theorem B_of (s : ByteArray) : B s.data.toList = s := Lib.mk_data s
theorem B_size (l : List UInt8) : (B l).size = l.length := by simp [ByteArray.size]
theorem B_app (l m : List UInt8) : B l ++ B m = B (l ++ m) := by
  rw [← B_of (B l ++ B m)]
  congr 2
  first | done | simp
theorem B_toList (l : List UInt8) : (B l).toList = l := by rw [Lib.toList_data, B_list]
theorem B_eq {l m : List UInt8} : B l = B m ↔ l = m := ⟨fun h => by have := congrArg (fun s : ByteArray => s.data.toList) h; simpa using this, fun h => by rw [h]⟩
theorem B_eta (s : ByteArray) : ∃ l, s = B l ∧ s.size = l.length ∧ s.data.toList = l := ⟨s.data.toList, (B_of s).symm, Lib.size_eq s, rfl⟩
theorem nums_B (xs : List Int) : strOfNums xs = B (xs.map fun n => UInt8.ofNat n.toNat) := rfl
theorem bt_B (l : List UInt8) (i : Nat) (h : i < l.length) : bt (B l) (i : Int) = (l[i].toNat : Int) := by
  rw [← bt_at (B l) i (by rw [Int.toNat_natCast, B_size]; exact h)]
  rfl
theorem bt_mid (pre suf : List UInt8) (b : UInt8) : bt (B (pre ++ b :: suf)) (pre.length : Int) = (b.toNat : Int) := by
  rw [bt_B _ _ (by simp)]
  simp
theorem extract_B (l : List UInt8) (a b : Nat) : (B l).extract a b = B ((l.drop a).take (b - a)) := by rw [Lib.extract_eq, B_list]
theorem B_nil : (⟨#[]⟩ : ByteArray) = B [] := rfl
theorem byte_of (a : Int) (h0 : 0 ≤ a) (h1 : a ≤ 255) : ∃ c : UInt8, a = (c.toNat : Int) := ⟨UInt8.ofNat a.toNat, by rw [UInt8.toNat_ofNat', Nat.mod_eq_of_lt (by omega)]; omega⟩
theorem byte_eq {b c : UInt8} : ((b.toNat : Int) = (c.toNat : Int)) ↔ b = c := ⟨fun h => UInt8.toNat_inj.1 (by omega), fun h => by rw [h]⟩
theorem splitL_len (c : UInt8) : ∀ l : List UInt8, (splitL c l).length ≤ l.length + 1
  | [] => by simp [splitL]
  | b :: l => by
    have ih := splitL_len c l
    rw [splitL]
    by_cases h : b = c
    · rw [if_pos h]; simp only [List.length_cons]; omega
    · rw [if_neg h]
      split <;> rename_i he
      · rw [he] at ih; simp only [List.length_cons] at ih ⊢; omega
      · simp
theorem ext_mid (pre seg suf : List UInt8) : (B (pre ++ seg ++ suf)).extract pre.length (pre.length + seg.length) = B seg := by
  rw [extract_B, List.append_assoc, List.drop_left, Nat.add_sub_cancel_left, List.take_left]
theorem spec_Split_loop (c : UInt8) : ∀ (suf pre seg : List UInt8) (dn : List ByteArray), (pre ++ seg ++ suf).length ≤ 1073741824 → dn.length ≤ pre.length → c ∉ seg →
    Ev (fun k => spec_Split.l0 k (B (pre ++ seg ++ suf)) (c.toNat : Int) dn (pre.length : Int) ((pre.length + seg.length : Nat) : Int)) (dn ++ (splitL c (seg ++ suf)).map B)
  | [], pre, seg, dn, hl, hd, hc => by
    rw [List.append_nil, List.append_nil] at *
    have hs := B_size (pre ++ seg)
    have he := ext_mid pre seg []
    rw [List.append_nil] at he
    simp only [List.length_append] at hl hs
    rw [splitL_none hc]
    refine Ev.step (f := fun k => spec_Split.l0 k (B (pre ++ seg)) (c.toNat : Int) (dn ++ [B seg]) ((pre.length + seg.length + 1 : Nat) : Int) ((pre.length + seg.length + 1 : Nat) : Int)) (fun k => ?_) ?_
    · simp only [spec_Split.l0]
      rw [if_pos (by omega), if_pos (by omega), if_pos (by omega), if_pos (by omega), if_pos (by omega), up1 _ (by omega), Int.toNat_natCast, Int.toNat_natCast, he]
    · refine Ev.step (f := fun _ => some (dn ++ [B seg])) (fun k => ?_) (Ev.now _)
      simp only [spec_Split.l0]
      rw [if_neg (by omega)]
  | b :: suf, pre, seg, dn, hl, hd, hc => by
    have hs := B_size (pre ++ seg ++ b :: suf)
    have he := ext_mid pre seg (b :: suf)
    have hbt := bt_mid (pre ++ seg) suf b
    rw [List.length_append] at hbt
    simp only [List.length_append, List.length_cons] at hl hs
    by_cases h : b = c
    · subst h
      rw [splitL_at hc]
      have ih := spec_Split_loop b suf (pre ++ seg ++ [b]) [] (dn ++ [B seg]) (by simp; omega) (by simp; omega) (by simp)
      have e1 : pre ++ seg ++ [b] ++ [] ++ suf = pre ++ seg ++ b :: suf := by simp
      have e2 : (pre ++ seg ++ [b]).length + ([] : List UInt8).length = pre.length + seg.length + 1 := by simp; omega
      have e3 : (pre ++ seg ++ [b]).length = pre.length + seg.length + 1 := by simp; omega
      rw [e1, e2, e3] at ih
      refine Ev.step (f := fun k => spec_Split.l0 k (B (pre ++ seg ++ b :: suf)) (b.toNat : Int) (dn ++ [B seg]) ((pre.length + seg.length + 1 : Nat) : Int) ((pre.length + seg.length + 1 : Nat) : Int)) (fun k => ?_) (ev_eq ih (by simp))
      simp only [spec_Split.l0]
      rw [if_pos (by omega), if_neg (by omega), if_pos (by omega), if_pos (by omega), hbt, if_pos rfl, if_pos (by omega), if_pos (by omega), if_pos (by omega), up1 _ (by omega), Int.toNat_natCast, Int.toNat_natCast, he]
    · have ih := spec_Split_loop c suf pre (seg ++ [b]) dn (by simp; omega) hd (by simp [hc, Ne.symm h])
      have e1 : pre ++ (seg ++ [b]) ++ suf = pre ++ seg ++ b :: suf := by simp
      have e2 : pre.length + (seg ++ [b]).length = pre.length + seg.length + 1 := by simp; omega
      have e3 : seg ++ [b] ++ suf = seg ++ b :: suf := by simp
      rw [e1, e2, e3] at ih
      refine Ev.step (f := fun k => spec_Split.l0 k (B (pre ++ seg ++ b :: suf)) (c.toNat : Int) dn (pre.length : Int) ((pre.length + seg.length + 1 : Nat) : Int)) (fun k => ?_) ih
      simp only [spec_Split.l0]
      rw [if_pos (by omega), if_neg (by omega), if_pos (by omega), if_pos (by omega), hbt, if_neg (fun e => h (byte_eq.1 e)), up1 _ (by omega)]
theorem spec_Split_ev (l : List UInt8) (c : UInt8) (hl : l.length ≤ 1073741824) : Ev (fun k => spec_Split.f k (B l) (c.toNat : Int)) ((splitL c l).map B) := by
  unfold spec_Split.f
  exact spec_Split_loop c l [] [] [] (by simpa using hl) (by simp) (by simp)

theorem spec_l2Cut_loop (c : UInt8) : ∀ (suf pre : List UInt8), (pre ++ suf).length ≤ 1073741824 →
    Ev (fun k => spec_l2Cut.l0 k (B (pre ++ suf)) (c.toNat : Int) (pre.length : Int)) (match cutL c suf with | none => (B [], B [], false) | some p => (B (pre ++ p.1), B p.2, true))
  | [], pre, hl => by
    rw [List.append_nil] at *
    have hs := B_size pre
    refine Ev.step (f := fun _ => some (B [], B [], false)) (fun k => ?_) (Ev.now _)
    simp only [spec_l2Cut.l0]
    rw [if_neg (by omega)]
  | b :: suf, pre, hl => by
    have hs := B_size (pre ++ b :: suf)
    have hbt := bt_mid pre suf b
    simp only [List.length_append, List.length_cons] at hl hs
    rw [cutL]
    by_cases h : b = c
    · subst h
      rw [if_pos rfl]
      refine Ev.step (f := fun _ => some (B (pre ++ []), B suf, true)) (fun k => ?_) (Ev.now _)
      simp only [spec_l2Cut.l0]
      rw [if_pos (by omega), if_pos (by omega), hbt, if_pos rfl, up1 _ (by omega), if_pos (by omega), if_pos (by omega), if_pos (by omega), Int.toNat_natCast, Int.toNat_natCast, extract_B, extract_B, hs]
      have e1 : ((pre ++ b :: suf).drop 0).take (pre.length - 0) = pre ++ [] := by simp
      have e2 : ((pre ++ b :: suf).drop (pre.length + 1)).take (pre.length + (suf.length + 1) - (pre.length + 1)) = suf := by
        rw [show (pre ++ b :: suf).drop (pre.length + 1) = suf by simp]
        exact List.take_of_length_le (by omega)
      rw [e1, e2]
    · rw [if_neg h]
      have ih := spec_l2Cut_loop c suf (pre ++ [b]) (by simp; omega)
      rw [List.append_assoc, List.singleton_append] at ih
      refine Ev.step (f := fun k => spec_l2Cut.l0 k (B (pre ++ b :: suf)) (c.toNat : Int) ((pre ++ [b]).length : Int)) (fun k => ?_) (ev_eq ih ?_)
      · simp only [spec_l2Cut.l0]
        rw [if_pos (by omega), if_pos (by omega), hbt, if_neg (fun e => h (byte_eq.1 e)), up1 _ (by omega), List.length_append, List.length_singleton]
      · cases cutL c suf with
        | none => rfl
        | some p => simp
theorem spec_l2Cut_ev (l : List UInt8) (c : UInt8) (hl : l.length ≤ 1073741824) : Ev (fun k => spec_l2Cut.f k (B l) (c.toNat : Int)) (match cutL c l with | none => (B [], B [], false) | some p => (B p.1, B p.2, true)) := by
  unfold spec_l2Cut.f
  have h := spec_l2Cut_loop c l [] (by simpa using hl)
  simpa using h

theorem digB (m : Int) (h0 : 0 ≤ m) (h1 : m < 10) : strOfNums [(wrap64 (48 + m)) % 256] = B [UInt8.ofNat (48 + m.toNat)] := by
  rw [nums_B]
  have : (wrap64 (48 + m)) % 256 = ((48 + m.toNat : Nat) : Int) := by unfold wrap64; omega
  rw [this]
  rfl
theorem Digits_zero (neg : Bool) (acc : List UInt8) (h : acc.length ≤ 100) : Ev (fun k => spec_Digits.l0 k 0 neg (B acc)) (B ((if neg = true then [45] else []) ++ acc)) := by
  have hs := B_size acc
  refine Ev.step (f := fun _ => some (B ((if neg = true then [45] else []) ++ acc))) (fun k => ?_) (Ev.now _)
  simp only [spec_Digits.l0]
  rw [if_pos trivial]
  by_cases c : neg = true
  · rw [if_pos c, if_pos (by omega), if_pos c, ← B_app]
  · rw [if_neg c, if_neg c, List.nil_append]
theorem Digits_loop : ∀ (d : Nat) (x : Int) (neg : Bool) (acc : List UInt8), x.natAbs < 10 ^ d → acc.length + d ≤ 100 → -9223372036854775808 ≤ x → x ≤ 9223372036854775807 →
    Ev (fun k => spec_Digits.l0 k x neg (B acc)) (B ((if neg = true then [45] else []) ++ ((if x.natAbs = 0 then [] else Lib.decDigits x.natAbs) ++ acc)))
  | 0, x, neg, acc, h, hl, h0, h1 => by
    obtain rfl : x = 0 := by simp at h; exact h
    exact Digits_zero neg acc (by omega)
  | d + 1, x, neg, acc, h, hl, h0, h1 => by
    by_cases hx : x = 0
    · subst hx
      exact Digits_zero neg acc (by omega)
    have hs := B_size acc
    have hq : (wrap64 (Int.tdiv x 10)).natAbs = x.natAbs / 10 ∧ -9223372036854775808 ≤ wrap64 (Int.tdiv x 10) ∧ wrap64 (Int.tdiv x 10) ≤ 9223372036854775807 := by
      have e : Int.tdiv x 10 = if 0 ≤ x then ((x.natAbs / 10 : Nat) : Int) else -((x.natAbs / 10 : Nat) : Int) := by
        split
        · rename_i hp
          obtain ⟨u, rfl⟩ := Int.eq_ofNat_of_zero_le hp
          rfl
        · rename_i hp
          obtain ⟨u, rfl⟩ : ∃ u : Nat, x = -(u : Int) := ⟨x.natAbs, by omega⟩
          rw [Int.neg_tdiv, Int.natAbs_neg, Int.natAbs_natCast]
          rfl
      rw [e]
      unfold wrap64
      split <;> omega
    have hm : Int.tmod x 10 = if 0 ≤ x then ((x.natAbs % 10 : Nat) : Int) else -((x.natAbs % 10 : Nat) : Int) := by
      split
      · rename_i hp
        obtain ⟨u, rfl⟩ := Int.eq_ofNat_of_zero_le hp
        rfl
      · rename_i hp
        obtain ⟨u, rfl⟩ : ∃ u : Nat, x = -(u : Int) := ⟨x.natAbs, by omega⟩
        rw [Int.neg_tmod, Int.natAbs_neg, Int.natAbs_natCast]
        rfl
    have h10 : x.natAbs < 10 * 10 ^ d := by rw [Nat.pow_succ] at h; omega
    have ih := Digits_loop d (wrap64 (Int.tdiv x 10)) neg (UInt8.ofNat (48 + x.natAbs % 10) :: acc) (by rw [hq.1]; omega) (by simp only [List.length_cons]; omega) hq.2.1 hq.2.2
    rw [hq.1] at ih
    have e : (if x.natAbs / 10 = 0 then [] else Lib.decDigits (x.natAbs / 10)) ++ (UInt8.ofNat (48 + x.natAbs % 10) :: acc) = (if x.natAbs = 0 then [] else Lib.decDigits x.natAbs) ++ acc := by
      rw [if_neg (show ¬ x.natAbs = 0 by omega)]
      by_cases hu : x.natAbs < 10
      · rw [if_pos (by omega), Lib.decDigits, dif_pos hu, Nat.mod_eq_of_lt hu]; rfl
      · rw [if_neg (by omega), show Lib.decDigits x.natAbs = Lib.decDigits (x.natAbs / 10) ++ [UInt8.ofNat (48 + x.natAbs % 10)] by rw [Lib.decDigits, dif_neg hu]]
        simp
    rw [e] at ih
    refine Ev.step (f := fun k => spec_Digits.l0 k (wrap64 (Int.tdiv x 10)) neg (B (UInt8.ofNat (48 + x.natAbs % 10) :: acc))) (fun k => ?_) ih
    simp only [spec_Digits.l0]
    rw [if_neg hx]
    by_cases c : Int.tmod x 10 < 0
    · rw [if_pos c, Option.bind_some]
      have e2 : wrap64 (-(Int.tmod x 10)) = ((x.natAbs % 10 : Nat) : Int) := by
        rw [hm] at c ⊢
        unfold wrap64
        split at c <;> rename_i hp
        · omega
        · rw [if_neg hp]; omega
      rw [e2, digB _ (by omega) (by omega), B_size, if_pos (by simp only [List.length_singleton]; omega), Int.toNat_natCast, B_app]
      rfl
    · rw [if_neg c, Option.bind_some]
      have e2 : Int.tmod x 10 = ((x.natAbs % 10 : Nat) : Int) := by
        rw [hm] at c ⊢
        split at c <;> rename_i hp
        · rw [if_pos hp]
        · rw [if_neg hp]; omega
      rw [e2, digB _ (by omega) (by omega), B_size, if_pos (by simp only [List.length_singleton]; omega), Int.toNat_natCast, B_app]
      rfl
theorem spec_Digits_ev (n : Int) (h0 : -9223372036854775808 ≤ n) (h1 : n ≤ 9223372036854775807) : Ev (fun k => spec_Digits.f k n) (B (Lib.itoa n)) := by
  unfold spec_Digits.f
  by_cases hn : n = 0
  · subst hn
    refine ev_pos rfl (ev_some ?_)
    rw [show Lib.itoa 0 = Lib.decDigits 0 from rfl, Lib.decDigits]
    rfl
  refine ev_neg hn ?_
  have h := Digits_loop 19 n (decide (n < 0)) [] (by omega) (by simp) h0 h1
  refine ev_eq h ?_
  rw [if_neg (show ¬ n.natAbs = 0 by omega), List.append_nil]
  unfold Lib.itoa
  by_cases c : n < 0
  · rw [if_pos (decide_eq_true c), if_pos c]; rfl
  · rw [if_neg (by simpa using c), if_neg c, show n.natAbs = n.toNat by omega]; rfl

theorem ten_pow (n : Nat) (h : n ≤ 6) : 10 ^ n ≤ 1000000 := Nat.pow_le_pow_right (by decide) h
theorem spec_Number_loop : ∀ (suf pre : List UInt8) (v : Nat), v < 10 ^ pre.length → (pre ++ suf).length ≤ 6 →
    Ev (fun k => spec_Number.l0 k (B (pre ++ suf)) (v : Int) (pre.length : Int)) (match numL v suf with | none => ((0 : Int), false) | some n => if Lib.decDigits n = pre ++ suf then ((n : Int), true) else (0, false))
  | [], pre, v, hv, hl => by
    rw [List.append_nil] at hl ⊢
    have hs := B_size pre
    have ht := ten_pow pre.length hl
    refine Ev.step (f := fun k => (spec_Digits.f k (v : Int)).bind fun t => (if t.toList = (B pre).toList then (some ((v : Int), true)) else (some (0, false)))) (fun k => by simp only [spec_Number.l0]; rw [if_neg (by omega)]) ?_
    rw [numL]
    refine Ev.bind (spec_Digits_ev v (by omega) (by omega)) ?_
    simp only
    rw [itoa_nat, B_toList, B_toList]
    by_cases c : Lib.decDigits v = pre
    · exact ev_pos c (ev_some (by rw [if_pos c]))
    · exact ev_neg c (ev_some (by rw [if_neg c]))
  | b :: suf, pre, v, hv, hl => by
    have hs := B_size (pre ++ b :: suf)
    have hb := b.toNat_lt
    simp only [List.length_append, List.length_cons] at hl hs
    have ht := ten_pow pre.length (by omega)
    have hbt := bt_mid pre suf b
    rw [numL]
    by_cases c : 48 ≤ b.toNat ∧ b.toNat ≤ 57
    · rw [if_pos c]
      have ih := spec_Number_loop suf (pre ++ [b]) (10 * v + (b.toNat - 48)) (by rw [List.length_append, List.length_singleton, Nat.pow_succ]; omega) (by simp; omega)
      rw [List.append_assoc, List.singleton_append] at ih
      refine Ev.step (f := fun k => spec_Number.l0 k (B (pre ++ b :: suf)) (((10 * v + (b.toNat - 48) : Nat)) : Int) (((pre ++ [b]).length : Nat) : Int)) (fun k => ?_) ih
      simp only [spec_Number.l0]
      rw [if_pos (by omega), if_pos (by omega), hbt, if_neg (by omega), if_neg (by omega)]
      congr 1
      · rw [wrapI (10 * (v : Int)) (by omega) (by omega), wrapI ((b.toNat : Nat) : Int) (by omega) (by omega), wrapI (10 * (v : Int) + (b.toNat : Int)) (by omega) (by omega), wrapI (10 * (v : Int) + (b.toNat : Int) - 48) (by omega) (by omega)]; omega
      · rw [List.length_append, List.length_singleton]; exact up1 _ (by omega)
    · rw [if_neg c]
      refine Ev.step (f := fun _ => some (0, false)) (fun k => ?_) (ev_some rfl)
      simp only [spec_Number.l0]
      rw [if_pos (by omega), if_pos (by omega), hbt]
      by_cases c1 : (b.toNat : Int) < 48
      · rw [if_pos c1]
      · rw [if_neg c1, if_pos (by omega)]
theorem spec_Number_ev (l : List UInt8) : Ev (fun k => spec_Number.f k (B l)) (num l, (numF l).2) := by
  have hs := B_size l
  have hj : Ev (fun k => spec_Number.j0 k (B l) true) ((0 : Int), false) := Ev.step (f := fun _ => some (0, false)) (fun k => by simp only [spec_Number.j0]; rw [if_pos trivial]) (ev_some rfl)
  unfold spec_Number.f
  by_cases c : l.length < 1
  · have e : numF l = (0, false) := by unfold numF; rw [if_pos (.inl c)]
    unfold num
    rw [e]
    exact ev_pos (by omega) hj
  refine ev_neg (by omega) ?_
  by_cases c2 : 6 < l.length
  · have e : numF l = (0, false) := by unfold numF; rw [if_pos (.inr c2)]
    unfold num
    rw [e, decide_eq_true (show ((B l).size : Int) > 6 by omega)]
    exact hj
  rw [decide_eq_false (show ¬ ((B l).size : Int) > 6 by omega)]
  have h := spec_Number_loop l [] 0 (by simp) (by simpa using Nat.not_lt.1 c2)
  refine Ev.step (f := fun k => spec_Number.l0 k (B l) 0 0) (fun k => by simp only [spec_Number.j0]; rw [if_neg (by decide)]) ?_
  refine ev_eq h ?_
  unfold num numF
  rw [if_neg (by omega)]
  simp only [List.nil_append]
  cases numL 0 l with
  | none => rfl
  | some n =>
    simp only
    by_cases c3 : Lib.decDigits n = l
    · rw [if_pos c3, if_pos c3]
    · rw [if_neg c3, if_neg c3]; rfl

theorem spec_l1In_val (a b c : Int) : spec_l1In.f a b c = some (decide (b ≤ a ∧ a ≤ c)) := by
  unfold spec_l1In.f
  by_cases h : a ≥ b <;> by_cases h2 : a ≤ c <;> simp [h, h2] <;> omega

def txIs (f t a n : Int) : Prop := (0 ≤ f ∧ f ≤ 3) ∧ (0 ≤ t ∧ t ≤ 3) ∧ (0 ≤ a ∧ a ≤ 1000) ∧ 0 ≤ n ∧ n ≤ 99
instance (f t a n : Int) : Decidable (txIs f t a n) := by unfold txIs; infer_instance
theorem spec_TxOk_val (f t a n : Int) : spec_TxOk.f f t a n = some (decide (txIs f t a n)) := by
  unfold spec_TxOk.f txIs
  simp only [spec_l1In_val, Option.bind_some, decide_eq_true_eq]
  by_cases h1 : 0 ≤ f ∧ f ≤ 3 <;> by_cases h2 : 0 ≤ t ∧ t ≤ 3 <;> by_cases h3 : 0 ≤ a ∧ a ≤ 1000 <;> simp only [h1, h2, h3, if_true, if_false, true_and, false_and, and_false, and_self, decide_false]

theorem itoa_len (n : Int) (h0 : 0 ≤ n) (h1 : n ≤ 1000) : (Lib.itoa n).length ≤ 4 := by
  obtain ⟨u, rfl⟩ := Int.eq_ofNat_of_zero_le h0
  rw [itoa_nat]
  exact dec_len 3 u (by omega)
theorem rawB (x : Tx) : ((((((B (Lib.itoa x.1) ++ (⟨#[62]⟩ : ByteArray)) ++ B (Lib.itoa x.2.1)) ++ (⟨#[58]⟩ : ByteArray)) ++ B (Lib.itoa x.2.2.1)) ++ (⟨#[35]⟩ : ByteArray)) ++ B (Lib.itoa x.2.2.2)) = B (rawT x) := by
  rw [show (⟨#[62]⟩ : ByteArray) = B [62] from rfl, show (⟨#[58]⟩ : ByteArray) = B [58] from rfl, show (⟨#[35]⟩ : ByteArray) = B [35] from rfl]
  simp only [B_app]
  unfold rawT
  simp
theorem raw_len (x : Tx) (h : okT x) : (rawT x).length ≤ 19 := by
  unfold okT at h
  have a := itoa_len x.1 (by omega) (by omega)
  have b := itoa_len x.2.1 (by omega) (by omega)
  have c := itoa_len x.2.2.1 (by omega) (by omega)
  have d := itoa_len x.2.2.2 (by omega) (by omega)
  unfold rawT
  simp only [List.length_append, List.length_cons]
  omega
theorem spec_TxText_ev (f t a n : Int) : Ev (fun k => spec_TxText.f k f t a n) (B (textT (f, t, a, n))) := by
  unfold spec_TxText.f
  simp only [spec_TxOk_val, Option.bind_some]
  by_cases c : txIs f t a n
  · have c' : okT (f, t, a, n) := c
    have c2 := c
    unfold txIs at c2
    have h1 := itoa_len f (by omega) (by omega)
    have h2 := itoa_len t (by omega) (by omega)
    have h3 := itoa_len a (by omega) (by omega)
    have h4 := itoa_len n (by omega) (by omega)
    have s1 := B_size (Lib.itoa f)
    have s2 := B_size (Lib.itoa t)
    have s3 := B_size (Lib.itoa a)
    have s4 := B_size (Lib.itoa n)
    have z1 : (⟨#[62]⟩ : ByteArray).size = 1 := rfl
    have z2 : (⟨#[58]⟩ : ByteArray).size = 1 := rfl
    have z3 : (⟨#[35]⟩ : ByteArray).size = 1 := rfl
    have ht : textT (f, t, a, n) = rawT (f, t, a, n) := by unfold textT; rw [if_pos c']
    rw [ht]
    simp only [decide_eq_true c, if_true]
    refine Ev.bind (spec_Digits_ev f (by omega) (by omega)) (ev_pos (by omega) ?_)
    refine Ev.bind (spec_Digits_ev t (by omega) (by omega)) (ev_pos (by rw [ByteArray.size_append]; omega) (ev_pos (by rw [ByteArray.size_append, ByteArray.size_append]; omega) ?_))
    refine Ev.bind (spec_Digits_ev a (by omega) (by omega)) (ev_pos (by rw [ByteArray.size_append, ByteArray.size_append, ByteArray.size_append]; omega) (ev_pos (by rw [ByteArray.size_append, ByteArray.size_append, ByteArray.size_append, ByteArray.size_append]; omega) ?_))
    refine Ev.bind (spec_Digits_ev n (by omega) (by omega)) (ev_pos (by rw [ByteArray.size_append, ByteArray.size_append, ByteArray.size_append, ByteArray.size_append, ByteArray.size_append]; omega) ?_)
    exact ev_some (rawB (f, t, a, n))
  · have ht : textT (f, t, a, n) = [] := by unfold textT; rw [if_neg (show ¬ okT (f, t, a, n) from c)]
    rw [ht]
    simp only [decide_eq_false c, Bool.false_eq_true, if_false]
    exact ev_some rfl

theorem cutL_le {c : UInt8} {l a r : List UInt8} (h : cutL c l = some (a, r)) : a.length ≤ l.length ∧ r.length ≤ l.length := by
  obtain ⟨rfl, _⟩ := cutL_some h
  simp only [List.length_append, List.length_cons]
  omega
/-- The answer of TxOf, as the program hands it back. -/
def txRes (o : Option Tx) : Int × Int × Int × Int × Bool := match o with | some x => (x.1, x.2.1, x.2.2.1, x.2.2.2, true) | none => (0, 0, 0, 0, false)
theorem ofT_not {s : List UInt8} {x : Tx} (h : okT x) (e : rawT x = s) : ofT s = some x := (ofT_iff s x).2 ⟨h, e⟩
theorem ofT_none {s : List UInt8} (h : ∀ x, okT x → rawT x ≠ s) : ofT s = none := by
  cases e : ofT s with
  | none => rfl
  | some x => exact absurd (ofT_some e).2 (h x (ofT_some e).1)
theorem raw_cuts (x : Tx) (h : okT x) : ∃ a b c d, cutL 62 (rawT x) = some (a, b ++ 58 :: (c ++ 35 :: d)) ∧ cutL 58 (b ++ 58 :: (c ++ 35 :: d)) = some (b, c ++ 35 :: d) ∧ cutL 35 (c ++ 35 :: d) = some (c, d) := by
  have h' := h
  unfold okT at h'
  refine ⟨Lib.itoa x.1, Lib.itoa x.2.1, Lib.itoa x.2.2.1, Lib.itoa x.2.2.2, ?_, ?_, ?_⟩
  · unfold rawT; exact cutL_at (itoa_not _ h'.1.1 _ (by decide))
  · exact cutL_at (itoa_not _ h'.2.1.1 _ (by decide))
  · exact cutL_at (itoa_not _ h'.2.2.1.1 _ (by decide))
theorem ofT_cut1 {s : List UInt8} (h : cutL 62 s = none) : ofT s = none := ofT_none fun x hx e => by
  obtain ⟨a, b, c, d, h1, _, _⟩ := raw_cuts x hx
  rw [e, h] at h1; cases h1
theorem ofT_cut2 {s a r : List UInt8} (h1 : cutL 62 s = some (a, r)) (h : cutL 58 r = none) : ofT s = none := ofT_none fun x hx e => by
  obtain ⟨a', b, c, d, h2, h3, _⟩ := raw_cuts x hx
  rw [e, h1] at h2
  obtain ⟨rfl, rfl⟩ := Prod.mk.inj (Option.some.inj h2)
  rw [h] at h3; cases h3
theorem ofT_cut3 {s a r b r2 : List UInt8} (h1 : cutL 62 s = some (a, r)) (h2 : cutL 58 r = some (b, r2)) (h : cutL 35 r2 = none) : ofT s = none := ofT_none fun x hx e => by
  obtain ⟨a', b', c, d, h3, h4, h5⟩ := raw_cuts x hx
  rw [e, h1] at h3
  obtain ⟨rfl, rfl⟩ := Prod.mk.inj (Option.some.inj h3)
  rw [h2] at h4
  obtain ⟨rfl, rfl⟩ := Prod.mk.inj (Option.some.inj h4)
  rw [h] at h5; cases h5
/-- What a text tells once its words are known; 'v': the reading that is tried. -/
theorem ofT_words {s a r b r2 c d : List UInt8} (h1 : cutL 62 s = some (a, r)) (h2 : cutL 58 r = some (b, r2)) (h3 : cutL 35 r2 = some (c, d)) :
    ofT s = if okT (num a, num b, num c, num d) ∧ rawT (num a, num b, num c, num d) = s then some (num a, num b, num c, num d) else none := by
  unfold ofT words
  rw [h1, Option.bind_some, h2, Option.bind_some, h3, Option.bind_some, Option.bind_some]
/-- A reading that writes the text again is the one. -/
theorem res_spec {s : List UInt8} (hs : s ≠ []) (x : Tx) (hx : textT x = s → ofT s = some x) (hn : textT x ≠ s → ofT s = none) :
    (if (B (textT x)).toList = (B s).toList then (x.1, x.2.1, x.2.2.1, x.2.2.2, true) else ((0 : Int), (0 : Int), (0 : Int), (0 : Int), false)) = txRes (ofT s) := by
  rw [B_toList, B_toList]
  by_cases c : textT x = s
  · rw [if_pos c, hx c]; rfl
  · rw [if_neg c, hn c]; rfl
theorem spec_TxOf_ev (s : List UInt8) (hl : s.length ≤ 1073741824) : Ev (fun k => spec_TxOf.f k (B s)) (txRes (ofT s)) := by
  unfold spec_TxOf.f
  have key : ∀ (a r b r2 c d : List UInt8) (o1 o2 o3 : Bool), r.length ≤ 1073741824 → r2.length ≤ 1073741824 → Ev (fun k => spec_l2Cut.f k (B s) 62) (B a, B r, o1) → Ev (fun k => spec_l2Cut.f k (B r) 58) (B b, B r2, o2) → Ev (fun k => spec_l2Cut.f k (B r2) 35) (B c, B d, o3) →
      (s ≠ [] → textT (num a, num b, num c, num d) = s → ofT s = some (num a, num b, num c, num d)) → (s ≠ [] → textT (num a, num b, num c, num d) ≠ s → ofT s = none) →
      Ev (fun k => (spec_l2Cut.f k (B s) 62).bind fun bt134 => ((spec_l2Cut.f k bt134.2.1 58).bind fun bt137 => ((spec_l2Cut.f k bt137.2.1 35).bind fun bt140 => ((spec_Number.f k bt134.1).bind fun bt144 => ((spec_Number.f k bt137.1).bind fun bt146 => ((spec_Number.f k bt140.1).bind fun bt148 => ((spec_Number.f k bt140.2.1).bind fun bt150 => (if (B s).toList = ([] : List UInt8) then (some ((0 : Int), (0 : Int), (0 : Int), (0 : Int), false)) else ((spec_TxText.f k bt144.1 bt146.1 bt148.1 bt150.1).bind fun t152 => (if t152.toList = (B s).toList then (some (bt144.1, bt146.1, bt148.1, bt150.1, true)) else (some (0, 0, 0, 0, false)))))))))))) (txRes (ofT s)) := by
    intro a r b r2 c d o1 o2 o3 hr hr2 e1 e2 e3 hx hn
    refine Ev.bind e1 (Ev.bind e2 (Ev.bind e3 (Ev.bind (spec_Number_ev a) (Ev.bind (spec_Number_ev b) (Ev.bind (spec_Number_ev c) (Ev.bind (spec_Number_ev d) ?_))))))
    by_cases hs : s = []
    · subst hs
      refine ev_pos (B_toList []) (ev_some ?_)
      rw [show ofT [] = none from rfl]; rfl
    · refine ev_neg (by rw [B_toList]; exact hs) (Ev.bind (spec_TxText_ev (num a) (num b) (num c) (num d)) ?_)
      have h := res_spec hs (num a, num b, num c, num d) (hx hs) (hn hs)
      by_cases hc : (B (textT (num a, num b, num c, num d))).toList = (B s).toList
      · rw [if_pos hc] at h; exact ev_pos hc (ev_some h)
      · rw [if_neg hc] at h; exact ev_neg hc (ev_some h)
  have E1 := spec_l2Cut_ev s 62 hl
  cases h1 : cutL 62 s with
  | none =>
    rw [h1] at E1
    have hno := ofT_cut1 h1
    exact key [] [] [] [] [] [] _ false false (by simp) (by simp) E1 (spec_l2Cut_ev [] 58 (by simp)) (spec_l2Cut_ev [] 35 (by simp)) (fun hs he => by rw [ofT_of_text hs he] at hno; cases hno) (fun _ _ => hno)
  | some p =>
    obtain ⟨a, r⟩ := p
    rw [h1] at E1
    have hr := (cutL_le h1).2
    have E2 := spec_l2Cut_ev r 58 (by omega)
    cases h2 : cutL 58 r with
    | none =>
      rw [h2] at E2
      have hno := ofT_cut2 h1 h2
      exact key a r [] [] [] [] _ _ false (by omega) (by simp) E1 E2 (spec_l2Cut_ev [] 35 (by simp)) (fun hs he => by rw [ofT_of_text hs he] at hno; cases hno) (fun _ _ => hno)
    | some q =>
      obtain ⟨b, r2⟩ := q
      rw [h2] at E2
      have hr2 := (cutL_le h2).2
      have E3 := spec_l2Cut_ev r2 35 (by omega)
      cases h3 : cutL 35 r2 with
      | none =>
        rw [h3] at E3
        have hno := ofT_cut3 h1 h2 h3
        exact key a r b r2 [] [] _ _ _ (by omega) (by omega) E1 E2 E3 (fun hs he => by rw [ofT_of_text hs he] at hno; cases hno) (fun _ _ => hno)
      | some z =>
        obtain ⟨c, d⟩ := z
        rw [h3] at E3
        refine key a r b r2 c d _ _ _ (by omega) (by omega) E1 E2 E3 (fun hs he => ofT_of_text hs he) (fun hs hne => ?_)
        rw [ofT_words h1 h2 h3, if_neg]
        rintro ⟨g1, g2⟩
        exact hne (by unfold textT; rw [if_pos g1]; exact g2)

def txOkS (x : S45) : Prop := txIs x.f0 x.f1 x.f2 x.f3
instance (x : S45) : Decidable (txOkS x) := by unfold txOkS; infer_instance
theorem rdT_nat (xs : List S45) (n : Nat) (h : n < xs.length) : rd_T45 xs (n : Int) = xs[n] := by
  unfold rd_T45; simp [List.getD_eq_getElem?_getD, h]
def fromT (x : Tx) : S45 := ⟨x.1, x.2.1, x.2.2.1, x.2.2.2⟩
def txsRes (dn : List Tx) (o : Option (List Tx)) : List S45 × Bool := match o with | some l => ((dn ++ l).map fromT, true) | none => ([], false)
theorem split_part (c : UInt8) : ∀ {l p : List UInt8}, p ∈ splitL c l → p.length ≤ l.length
  | [], p, h => by rw [splitL, List.mem_singleton] at h; subst h; simp
  | b :: l, p, h => by
    rw [splitL] at h
    by_cases hb : b = c
    · rw [if_pos hb] at h
      rcases List.mem_cons.1 h with h | h
      · subst h; simp
      · have := split_part c h; simp only [List.length_cons]; omega
    · rw [if_neg hb] at h
      cases hs : splitL c l with
      | nil => exact absurd hs (splitL_ne c l)
      | cons x t =>
        rw [hs] at h
        rcases List.mem_cons.1 h with h | h
        · subst h
          have := split_part c (l := l) (p := x) (by rw [hs]; simp)
          simp only [List.length_cons]; omega
        · have := split_part c (l := l) (p := p) (by rw [hs]; simp [h])
          simp only [List.length_cons]; omega
theorem part_at (pre suf : List (List UInt8)) (p : List UInt8) : rdOf ByteArray.empty ((pre ++ p :: suf).map B) (pre.length : Int) = B p := by
  unfold rdOf
  rw [Int.toNat_natCast, List.getD_eq_getElem?_getD]
  simp
theorem spec_TxsOf_loop : ∀ (suf pre : List (List UInt8)) (dn : List Tx), (∀ p ∈ suf, p.length ≤ 1073741824) → (pre ++ suf).length ≤ 1073741824 → dn.length = pre.length →
    Ev (fun k => spec_TxsOf.l0 k (dn.map fromT) ((pre ++ suf).map B) (pre.length : Int)) (txsRes dn (readAll suf))
  | [], pre, dn, hp, hl, hd => by
    rw [List.append_nil] at *
    refine Ev.step (f := fun _ => some (dn.map fromT, true)) (fun k => ?_) (ev_some ?_)
    · simp only [spec_TxsOf.l0]
      rw [if_neg (by rw [List.length_map] <;> omega)]
    · simp [readAll, txsRes]
  | p :: suf, pre, dn, hp, hl, hd => by
    have hlen : ((pre ++ p :: suf).map B).length = pre.length + (suf.length + 1) := by simp
    simp only [List.length_append, List.length_cons] at hl
    have ht := spec_TxOf_ev p (hp p (by simp))
    rw [readAll]
    cases ho : ofT p with
    | none =>
      rw [ho] at ht
      refine Ev.step (f := fun k => (spec_TxOf.f k (B p)).bind fun r => if r.2.2.2.2 = true then (if (dn.map fromT).length < 4398046511104 then (spec_TxsOf.l0 k ((dn.map fromT) ++ [(⟨r.1, r.2.1, r.2.2.1, r.2.2.2.1⟩ : S45)]) ((pre ++ p :: suf).map B) ((pre.length + 1 : Nat) : Int)) else none) else some ([], false)) (fun k => ?_) ?_
      · simp only [spec_TxsOf.l0]
        rw [if_pos (by first | omega | (rw [hlen]; omega)), if_pos (by omega), part_at, up1 _ (by omega)]
      · exact Ev.bind ht (ev_neg (by simp [txRes]) (ev_some rfl))
    | some x =>
      rw [ho] at ht
      have ih := spec_TxsOf_loop suf (pre ++ [p]) (dn ++ [x]) (fun q hq => hp q (by simp [hq])) (by simp; omega) (by simp [hd])
      rw [List.append_assoc, List.singleton_append, List.length_append, List.length_singleton, List.map_append, List.map_singleton] at ih
      have e : txsRes dn ((some x).bind fun x => (readAll suf).map fun l => x :: l) = txsRes (dn ++ [x]) (readAll suf) := by
        cases readAll suf <;> simp [txsRes]
      rw [e]
      refine Ev.step (f := fun k => (spec_TxOf.f k (B p)).bind fun r => if r.2.2.2.2 = true then (if (dn.map fromT).length < 4398046511104 then (spec_TxsOf.l0 k ((dn.map fromT) ++ [(⟨r.1, r.2.1, r.2.2.1, r.2.2.2.1⟩ : S45)]) ((pre ++ p :: suf).map B) ((pre.length + 1 : Nat) : Int)) else none) else some ([], false)) (fun k => ?_) ?_
      · simp only [spec_TxsOf.l0]
        rw [if_pos (by first | omega | (rw [hlen]; omega)), if_pos (by omega), part_at, up1 _ (by omega)]
      · exact Ev.bind ht (ev_pos rfl (ev_pos (by rw [List.length_map]; omega) ih))
theorem spec_TxsOf_ev (s : List UInt8) (hl : s.length ≤ 536870912) : Ev (fun k => spec_TxsOf.f k (B s)) (txsRes [] (ofTs s)) := by
  unfold spec_TxsOf.f ofTs
  simp only [Option.bind_some]
  by_cases c : s = []
  · rw [if_pos c]
    exact ev_pos (by rw [B_toList]; exact c) (ev_some rfl)
  · rw [if_neg c]
    refine ev_neg (by rw [B_toList]; exact c) (Ev.bind (spec_Split_ev s 44 (by omega)) ?_)
    have hn := splitL_len 44 s
    exact spec_TxsOf_loop (splitL 44 s) [] [] (fun p hp => by have := split_part 44 hp; omega) (by simp only [List.nil_append]; omega) rfl

def fromS (x : Int × List Tx) : S38 := ⟨x.1, x.2.map fromT⟩
def stepsRes (dn : List (Int × List Tx)) (o : Option (List (Int × List Tx))) : List S38 × Bool := match o with | some l => ((dn ++ l).map fromS, true) | none => ([], false)
def stepOne (last : Int) (p : List UInt8) : Option (Int × List Tx) :=
  (cutL 124 p).bind fun q => if (numF q.1).2 = true ∧ last < num q.1 ∧ num q.1 ≤ 60 then (ofTs q.2).bind fun l => if l.length ≤ 2 then some (num q.1, l) else none else none
theorem stepsL_cons (last : Int) (p : List UInt8) (ps : List (List UInt8)) : stepsL last (p :: ps) = (stepOne last p).bind fun x => (stepsL x.1 ps).map fun r => x :: r := by
  rw [stepsL, stepOne]
  cases cutL 124 p with
  | none => rfl
  | some q =>
    simp only [Option.bind_some]
    by_cases c : (numF q.1).2 = true ∧ last < num q.1 ∧ num q.1 ≤ 60
    · rw [if_pos c, if_pos c]
      cases ofTs q.2 with
      | none => rfl
      | some l =>
        simp only [Option.bind_some]
        by_cases c2 : l.length ≤ 2
        · rw [if_pos c2, if_pos c2]; rfl
        · rw [if_neg c2, if_neg c2]; rfl
    · rw [if_neg c, if_neg c]; rfl
theorem stepsRes_cons (dn : List (Int × List Tx)) (x : Int × List Tx) (o : Option (List (Int × List Tx))) : stepsRes dn (o.map fun r => x :: r) = stepsRes (dn ++ [x]) o := by
  cases o <;> simp [stepsRes]
theorem part_zero (p : List UInt8) (ps : List (List UInt8)) : rdOf ByteArray.empty ((p :: ps).map B) 0 = B p := rfl
theorem cut_len {c : UInt8} {p : List UInt8} {q : List UInt8 × List UInt8} (h : cutL c p = some q) : q.1.length ≤ p.length ∧ q.2.length ≤ p.length := cutL_le (a := q.1) (r := q.2) h
theorem spec_Steps_loop : ∀ (suf pre : List (List UInt8)) (dn : List (Int × List Tx)) (last : Int), (∀ p ∈ suf, p.length ≤ 536870912) → (pre ++ suf).length ≤ 1073741824 → dn.length ≤ pre.length → 0 ≤ last → last ≤ 1000000 →
    Ev (fun k => spec_Steps.l0 k [] (dn.map fromS) ((pre ++ suf).map B) last (pre.length : Int)) (stepsRes dn (stepsL last suf))
  | [], pre, dn, last, hp, hl, hd, h0, h1 => by
    rw [List.append_nil] at *
    refine Ev.step (f := fun _ => some (dn.map fromS, true)) (fun k => ?_) (ev_some ?_)
    · simp only [spec_Steps.l0]
      rw [if_neg (by rw [List.length_map]; omega)]
    · simp [stepsL, stepsRes]
  | p :: suf, pre, dn, last, hp, hl, hd, h0, h1 => by
    have hlen : ((pre ++ p :: suf).map B).length = pre.length + (suf.length + 1) := by simp
    simp only [List.length_append, List.length_cons] at hl
    have hpl := hp p (by simp)
    rw [stepsL_cons]
    refine Ev.step (f := fun k => (spec_l2Cut.f k (B p) 124).bind fun c => ((spec_Number.f k c.1).bind fun v => ((spec_TxsOf.f k c.2.1).bind fun t => (if c.2.2 = true then (if v.2 = true then (if t.2 = true then (if v.1 ≤ last then (some ([], false)) else (if v.1 > 60 then (some ([], false)) else (if (t.1.length : Int) > 2 then (some ([], false)) else (if (dn.map fromS).length < 4398046511104 then (spec_Steps.l0 k [] ((dn.map fromS) ++ [(⟨v.1, t.1⟩ : S38)]) ((pre ++ p :: suf).map B) v.1 ((pre.length + 1 : Nat) : Int)) else (none))))) else (some ([], false))) else (some ([], false))) else (some ([], false)))))) (fun k => ?_) ?_
    · simp only [spec_Steps.l0]
      rw [if_pos (by first | omega | (rw [hlen]; omega)), if_pos (by omega), part_at, up1 _ (by omega)]
    · have hc := spec_l2Cut_ev p 124 (by omega)
      unfold stepOne
      cases hq : cutL 124 p with
      | none =>
        rw [hq] at hc
        exact Ev.bind hc (Ev.bind (spec_Number_ev []) (Ev.bind (spec_TxsOf_ev [] (by simp)) (ev_neg (by simp) (ev_some rfl))))
      | some q =>
        obtain ⟨a, r⟩ := q
        rw [hq] at hc
        have hr := (cut_len hq).2
        simp only at hr hc
        simp only [Option.bind_some]
        refine Ev.bind hc (Ev.bind (spec_Number_ev a) (Ev.bind (spec_TxsOf_ev r (by omega)) (ev_pos rfl ?_)))
        simp only
        by_cases c1 : (numF a).2 = true
        · refine ev_pos c1 ?_
          cases ho : ofTs r with
          | none =>
            refine ev_neg (by simp [txsRes]) (ev_some ?_)
            split <;> rfl
          | some l =>
            refine ev_pos rfl ?_
            by_cases c2 : num a ≤ last
            · rw [if_neg (by rintro ⟨_, h, _⟩; omega)]
              exact ev_pos c2 (ev_some rfl)
            refine ev_neg c2 ?_
            by_cases c3 : num a > 60
            · rw [if_neg (by rintro ⟨_, _, h⟩; omega)]
              exact ev_pos c3 (ev_some rfl)
            refine ev_neg c3 ?_
            rw [if_pos ⟨c1, by omega, by omega⟩]
            simp only [txsRes, List.nil_append, Option.bind_some]
            by_cases c4 : l.length ≤ 2
            · rw [if_pos c4]
              have ih := spec_Steps_loop suf (pre ++ [p]) (dn ++ [(num a, l)]) (num a) (fun q hq => hp q (by simp [hq])) (by simp; omega) (by simp; omega) (num_nonneg a) (by omega)
              rw [List.append_assoc, List.singleton_append, List.length_append, List.length_singleton, List.map_append, List.map_singleton] at ih
              simp only [Option.bind_some]
              rw [stepsRes_cons]
              exact ev_neg (by rw [List.length_map]; omega) (ev_pos (by rw [List.length_map]; omega) ih)
            · rw [if_neg c4]
              exact ev_pos (by rw [List.length_map]; omega) (ev_some rfl)
        · rw [if_neg (by rintro ⟨h, _⟩; exact c1 h)]
          exact ev_neg c1 (ev_some rfl)
theorem spec_Steps_ev (s : List UInt8) (hl : s.length ≤ 536870912) : Ev (fun k => spec_Steps.f k (B s)) (stepsRes [] (stepsS s)) := by
  unfold spec_Steps.f stepsS
  simp only [Option.bind_some]
  by_cases c : s = []
  · rw [if_pos c]
    exact ev_pos (by rw [B_toList]; exact c) (ev_some rfl)
  · rw [if_neg c]
    refine ev_neg (by rw [B_toList]; exact c) (Ev.bind (spec_Split_ev s 47 (by omega)) ?_)
    have hn := splitL_len 47 s
    have hpt : ∀ p ∈ splitL 47 s, p.length ≤ s.length := fun p hp => split_part 47 hp
    cases hs : splitL 47 s with
    | nil => exact absurd hs (splitL_ne 47 s)
    | cons p ps =>
      rw [hs] at hn hpt
      simp only [List.length_cons] at hn
      have hj : Ev (fun k => spec_Steps.j0 k [] [] ((p :: ps).map B) true) (([] : List S38), false) := Ev.step (f := fun _ => some ([], false)) (fun k => by simp only [spec_Steps.j0]; rw [if_pos trivial]) (ev_some rfl)
      have hlm : ((p :: ps).map B).length = ps.length + 1 := by simp
      refine ev_pos (by rw [hlm]; omega) ?_
      by_cases c1 : p = []
      · refine ev_pos (by rw [part_zero, B_toList]; exact c1) ?_
        by_cases c2 : ps.length ≤ 30
        · simp only
          rw [if_pos ⟨c1, c2⟩, decide_eq_false (by rw [hlm]; omega)]
          refine Ev.step (f := fun k => spec_Steps.l0 k [] [] ((p :: ps).map B) 0 1) (fun k => by simp only [spec_Steps.j0]; rw [if_neg (by decide)]) ?_
          exact spec_Steps_loop ps [p] [] 0 (fun q hq => by have := hpt q (by simp [hq]); omega) (by simp; omega) (by simp) (by omega) (by omega)
        · simp only
          rw [if_neg (fun h => c2 h.2), decide_eq_true (by rw [hlm]; omega)]
          exact hj
      · simp only
        rw [if_neg (fun h => c1 h.1)]
        exact ev_neg (by rw [part_zero, B_toList]; exact c1) hj

theorem splitB_one (l : List UInt8) (c : UInt8) : Lib.splitB (B [c]) 0 (Lib.countB (B l) (B [c])) (B l) = (splitL c l).map B := by
  have h := Lib.splitB_data (B [c]) 0 (Lib.countB (B l) (B [c])) (B l)
  have e : Lib.splitK (B [c]).data.toList 0 (Lib.countB (B l) (B [c])) (B l).data.toList = splitL c l := by
    rw [← split_one, B_list, B_list]
    unfold Lib.split Lib.countB
    rw [B_list, B_list]
  rw [e] at h
  rw [← h, List.map_map]
  conv => lhs; rw [← List.map_id (Lib.splitB (B [c]) 0 (Lib.countB (B l) (B [c])) (B l))]
  exact List.map_congr_left (fun s _ => (B_of s).symm)
theorem sep_B (c : UInt8) : strOfNums [(c.toNat : Int)] = B [c] := by
  rw [nums_B]
  simp
theorem impl_Split_val (l : List UInt8) (c : UInt8) (hl : l.length ≤ 1073741824) : impl_Split.f (B l) (c.toNat : Int) = some ((splitL c l).map B) := by
  unfold impl_Split.f strings_Split.f
  rw [sep_B, B_size, B_size, if_pos ⟨by omega, by simp⟩, splitB_one]
  rfl

theorem impl_Digits_val (n : Int) (h0 : -9223372036854775808 ≤ n) (h1 : n ≤ 9223372036854775807) : impl_Digits.f n = some (B (Lib.itoa n)) := by
  unfold impl_Digits.f strconv_Itoa.f
  rw [if_pos ⟨h0, h1⟩]; rfl

theorem impl_Number_loop : ∀ (suf pre : List UInt8) (v : Nat), v < 10 ^ pre.length → (pre ++ suf).length ≤ 6 →
    Ev (fun k => impl_Number.l0 k (B (pre ++ suf)) (v : Int) (pre.length : Int)) (match numL v suf with | none => ((0 : Int), false) | some n => if Lib.decDigits n = pre ++ suf then ((n : Int), true) else (0, false))
  | [], pre, v, hv, hl => by
    rw [List.append_nil] at hl ⊢
    have hs := B_size pre
    have ht := ten_pow pre.length hl
    refine Ev.step (f := fun k => (impl_Digits.f (v : Int)).bind fun t => (if t.toList = (B pre).toList then (some ((v : Int), true)) else (some (0, false)))) (fun k => by simp only [impl_Number.l0]; rw [if_neg (by omega)]) ?_
    rw [numL]
    refine ev_const (impl_Digits_val v (by omega) (by omega)) ?_
    simp only
    rw [itoa_nat, B_toList, B_toList]
    by_cases c : Lib.decDigits v = pre
    · exact ev_pos c (ev_some (by rw [if_pos c]))
    · exact ev_neg c (ev_some (by rw [if_neg c]))
  | b :: suf, pre, v, hv, hl => by
    have hs := B_size (pre ++ b :: suf)
    have hb := b.toNat_lt
    simp only [List.length_append, List.length_cons] at hl hs
    have ht := ten_pow pre.length (by omega)
    have hbt := bt_mid pre suf b
    rw [numL]
    by_cases c : 48 ≤ b.toNat ∧ b.toNat ≤ 57
    · rw [if_pos c]
      have ih := impl_Number_loop suf (pre ++ [b]) (10 * v + (b.toNat - 48)) (by rw [List.length_append, List.length_singleton, Nat.pow_succ]; omega) (by simp; omega)
      rw [List.append_assoc, List.singleton_append] at ih
      refine Ev.step (f := fun k => impl_Number.l0 k (B (pre ++ b :: suf)) (((10 * v + (b.toNat - 48) : Nat)) : Int) (((pre ++ [b]).length : Nat) : Int)) (fun k => ?_) ih
      simp only [impl_Number.l0]
      rw [if_pos (by omega), if_pos (by omega), hbt, if_neg (by omega), if_neg (by omega)]
      congr 1
      · rw [wrapI (10 * (v : Int)) (by omega) (by omega), Int.emod_eq_of_lt (by omega) (by omega), wrapI (10 * (v : Int) + ((b.toNat : Int) - 48)) (by omega) (by omega)]; omega
      · rw [List.length_append, List.length_singleton]; exact up1 _ (by omega)
    · rw [if_neg c]
      refine Ev.step (f := fun _ => some (0, false)) (fun k => ?_) (ev_some rfl)
      simp only [impl_Number.l0]
      rw [if_pos (by omega), if_pos (by omega), hbt]
      by_cases c1 : (b.toNat : Int) < 48
      · rw [if_pos c1]
      · rw [if_neg c1, if_pos (by omega)]
theorem impl_Number_ev (l : List UInt8) : Ev (fun k => impl_Number.f k (B l)) (num l, (numF l).2) := by
  have hs := B_size l
  have hj : Ev (fun k => impl_Number.j0 k (B l) true) ((0 : Int), false) := Ev.step (f := fun _ => some (0, false)) (fun k => by simp only [impl_Number.j0]; rw [if_pos trivial]) (ev_some rfl)
  unfold impl_Number.f
  by_cases c : l.length < 1
  · have e : numF l = (0, false) := by unfold numF; rw [if_pos (.inl c)]
    unfold num
    rw [e]
    exact ev_pos (by omega) hj
  refine ev_neg (by omega) ?_
  by_cases c2 : 6 < l.length
  · have e : numF l = (0, false) := by unfold numF; rw [if_pos (.inr c2)]
    unfold num
    rw [e, decide_eq_true (show ((B l).size : Int) > 6 by omega)]
    exact hj
  rw [decide_eq_false (show ¬ ((B l).size : Int) > 6 by omega)]
  have h := impl_Number_loop l [] 0 (by simp) (by simpa using Nat.not_lt.1 c2)
  refine Ev.step (f := fun k => impl_Number.l0 k (B l) 0 0) (fun k => by simp only [impl_Number.j0]; rw [if_neg (by decide)]) ?_
  refine ev_eq h ?_
  unfold num numF
  rw [if_neg (by omega)]
  simp only [List.nil_append]
  cases numL 0 l with
  | none => rfl
  | some n =>
    simp only
    by_cases c3 : Lib.decDigits n = l
    · rw [if_pos c3, if_pos c3]
    · rw [if_neg c3, if_neg c3]; rfl

theorem impl_within_val (a b c : Int) : impl_within.f a b c = some (decide (b ≤ a ∧ a ≤ c)) := by
  unfold impl_within.f
  by_cases h : a ≥ b <;> by_cases h2 : a ≤ c <;> simp [h, h2] <;> omega

theorem impl_TxOk_val (f t a n : Int) : impl_TxOk.f f t a n = some (decide (txIs f t a n)) := by
  unfold impl_TxOk.f txIs
  simp only [impl_within_val, Option.bind_some, decide_eq_true_eq]
  by_cases h1 : 0 ≤ f ∧ f ≤ 3 <;> by_cases h2 : 0 ≤ t ∧ t ≤ 3 <;> by_cases h3 : 0 ≤ a ∧ a ≤ 1000 <;> simp only [h1, h2, h3, if_true, if_false, true_and, false_and, and_false, and_self, decide_false]

theorem impl_TxText_val (f t a n : Int) : impl_TxText.f f t a n = some (B (textT (f, t, a, n))) := by
  unfold impl_TxText.f
  simp only [impl_TxOk_val, Option.bind_some]
  by_cases c : txIs f t a n
  · have c' : okT (f, t, a, n) := c
    have c2 := c
    unfold txIs at c2
    have h1 := itoa_len f (by omega) (by omega)
    have h2 := itoa_len t (by omega) (by omega)
    have h3 := itoa_len a (by omega) (by omega)
    have h4 := itoa_len n (by omega) (by omega)
    have s1 := B_size (Lib.itoa f)
    have s2 := B_size (Lib.itoa t)
    have s3 := B_size (Lib.itoa a)
    have s4 := B_size (Lib.itoa n)
    have z1 : (⟨#[62]⟩ : ByteArray).size = 1 := rfl
    have z2 : (⟨#[58]⟩ : ByteArray).size = 1 := rfl
    have z3 : (⟨#[35]⟩ : ByteArray).size = 1 := rfl
    have ht : textT (f, t, a, n) = rawT (f, t, a, n) := by unfold textT; rw [if_pos c']
    rw [ht]
    simp only [decide_eq_true c, if_true]
    rw [impl_Digits_val f (by omega) (by omega), Option.bind_some, if_pos (by omega), impl_Digits_val t (by omega) (by omega), Option.bind_some, if_pos (by rw [ByteArray.size_append]; omega), if_pos (by rw [ByteArray.size_append, ByteArray.size_append]; omega),
      impl_Digits_val a (by omega) (by omega), Option.bind_some, if_pos (by rw [ByteArray.size_append, ByteArray.size_append, ByteArray.size_append]; omega), if_pos (by rw [ByteArray.size_append, ByteArray.size_append, ByteArray.size_append, ByteArray.size_append]; omega),
      impl_Digits_val n (by omega) (by omega), Option.bind_some, if_pos (by rw [ByteArray.size_append, ByteArray.size_append, ByteArray.size_append, ByteArray.size_append, ByteArray.size_append]; omega)]
    exact congrArg some (rawB (f, t, a, n))
  · have ht : textT (f, t, a, n) = [] := by unfold textT; rw [if_neg (show ¬ okT (f, t, a, n) from c)]
    rw [ht]
    simp only [decide_eq_false c, Bool.false_eq_true, if_false]

theorem strings_Cut_val (l : List UInt8) (c : UInt8) (hl : l.length ≤ 1073741824) : strings_Cut.f (B l) (B [c]) = some (match cutL c l with | none => (B l, B [], false) | some p => (B p.1, B p.2, true)) := by
  unfold strings_Cut.f
  rw [B_size, if_pos (by omega), B_list, B_list, cut_one]
  cases cutL c l <;> rfl
theorem impl_TxOf_ev (s : List UInt8) (hl : s.length ≤ 1073741824) : Ev (fun k => impl_TxOf.f k (B s)) (txRes (ofT s)) := by
  unfold impl_TxOf.f
  have key : ∀ (a r b r2 c d : List UInt8) (o1 o2 o3 : Bool), strings_Cut.f (B s) ⟨#[62]⟩ = some (B a, B r, o1) → strings_Cut.f (B r) ⟨#[58]⟩ = some (B b, B r2, o2) → strings_Cut.f (B r2) ⟨#[35]⟩ = some (B c, B d, o3) →
      (okT (num a, num b, num c, num d) → rawT (num a, num b, num c, num d) = s → ofT s = some (num a, num b, num c, num d)) → (¬ (okT (num a, num b, num c, num d) ∧ rawT (num a, num b, num c, num d) = s) → ofT s = none) →
      Ev (fun k => (strings_Cut.f (B s) ⟨#[62]⟩).bind fun p => (strings_Cut.f p.2.1 ⟨#[58]⟩).bind fun q => (strings_Cut.f q.2.1 ⟨#[35]⟩).bind fun r => (impl_Number.f k p.1).bind fun n1 => (impl_Number.f k q.1).bind fun n2 => (impl_Number.f k r.1).bind fun n3 => (impl_Number.f k r.2.1).bind fun n4 =>
        (impl_TxOk.f n1.1 n2.1 n3.1 n4.1).bind fun ok => if ok = true then ((impl_TxText.f n1.1 n2.1 n3.1 n4.1).bind fun t => if t.toList = (B s).toList then some (n1.1, n2.1, n3.1, n4.1, true) else some (0, 0, 0, 0, false)) else some (0, 0, 0, 0, false)) (txRes (ofT s)) := by
    intro a r b r2 c d o1 o2 o3 e1 e2 e3 hx hn
    refine ev_const e1 (ev_const e2 (ev_const e3 (Ev.bind (impl_Number_ev a) (Ev.bind (impl_Number_ev b) (Ev.bind (impl_Number_ev c) (Ev.bind (impl_Number_ev d) (ev_const (impl_TxOk_val _ _ _ _) ?_)))))))
    by_cases c1 : okT (num a, num b, num c, num d)
    · refine ev_pos (decide_eq_true (show txIs (num a) (num b) (num c) (num d) from c1)) (ev_const (impl_TxText_val _ _ _ _) ?_)
      have ht : textT (num a, num b, num c, num d) = rawT (num a, num b, num c, num d) := by unfold textT; rw [if_pos c1]
      by_cases c2 : rawT (num a, num b, num c, num d) = s
      · rw [hx c1 c2]
        exact ev_pos (by rw [B_toList, B_toList, ht]; exact c2) (ev_some rfl)
      · rw [hn (fun z => c2 z.2)]
        exact ev_neg (by rw [B_toList, B_toList, ht]; exact c2) (ev_some rfl)
    · rw [hn (fun z => c1 z.1)]
      exact ev_neg (by simpa using (show ¬ txIs (num a) (num b) (num c) (num d) from c1)) (ev_some rfl)
  have fx : ∀ {x : Tx}, okT x → rawT x = s → ofT s = some x := fun h e => ofT_not h e
  have E1 := strings_Cut_val s 62 hl
  cases h1 : cutL 62 s with
  | none =>
    rw [h1] at E1
    have hno := ofT_cut1 h1
    have E2 := strings_Cut_val [] 58 (by simp)
    have E3 := strings_Cut_val [] 35 (by simp)
    exact key s [] [] [] [] [] _ _ _ E1 E2 E3 (fun a b => fx a b) (fun _ => hno)
  | some p =>
    obtain ⟨a, r⟩ := p
    rw [h1] at E1
    have hr := (cutL_le h1).2
    have E2 := strings_Cut_val r 58 (by omega)
    cases h2 : cutL 58 r with
    | none =>
      rw [h2] at E2
      have hno := ofT_cut2 h1 h2
      have E3 := strings_Cut_val [] 35 (by simp)
      exact key a r r [] [] [] _ _ _ E1 E2 E3 (fun a b => fx a b) (fun _ => hno)
    | some q =>
      obtain ⟨b, r2⟩ := q
      rw [h2] at E2
      have hr2 := (cutL_le h2).2
      have E3 := strings_Cut_val r2 35 (by omega)
      cases h3 : cutL 35 r2 with
      | none =>
        rw [h3] at E3
        have hno := ofT_cut3 h1 h2 h3
        exact key a r b r2 r2 [] _ _ _ E1 E2 E3 (fun a b => fx a b) (fun _ => hno)
      | some z =>
        obtain ⟨c, d⟩ := z
        rw [h3] at E3
        refine key a r b r2 c d _ _ _ E1 E2 E3 (fun a b => fx a b) (fun hne => ?_)
        rw [ofT_words h1 h2 h3, if_neg hne]

theorem impl_TxsOf_loop : ∀ (suf pre : List (List UInt8)) (dn : List Tx), (∀ p ∈ suf, p.length ≤ 1073741824) → (pre ++ suf).length ≤ 1073741824 → dn.length = pre.length →
    Ev (fun k => impl_TxsOf.l0 k (dn.map fromT) ((pre ++ suf).map B) (((pre ++ suf).map B).length : Int) (pre.length : Int)) (txsRes dn (readAll suf))
  | [], pre, dn, hp, hl, hd => by
    rw [List.append_nil] at *
    refine Ev.step (f := fun _ => some (dn.map fromT, true)) (fun k => ?_) (ev_some ?_)
    · simp only [impl_TxsOf.l0]
      rw [if_neg (by rw [List.length_map] <;> omega)]
    · simp [readAll, txsRes]
  | p :: suf, pre, dn, hp, hl, hd => by
    have hlen : ((pre ++ p :: suf).map B).length = pre.length + (suf.length + 1) := by simp
    simp only [List.length_append, List.length_cons] at hl
    have ht := impl_TxOf_ev p (hp p (by simp))
    rw [readAll]
    cases ho : ofT p with
    | none =>
      rw [ho] at ht
      refine Ev.step (f := fun k => (impl_TxOf.f k (B p)).bind fun r => if r.2.2.2.2 = true then (if (dn.map fromT).length < 4398046511104 then (impl_TxsOf.l0 k ((dn.map fromT) ++ [(⟨r.1, r.2.1, r.2.2.1, r.2.2.2.1⟩ : S45)]) ((pre ++ p :: suf).map B) (((pre ++ p :: suf).map B).length : Int) ((pre.length + 1 : Nat) : Int)) else none) else some ([], false)) (fun k => ?_) ?_
      · simp only [impl_TxsOf.l0]
        rw [if_pos (by first | omega | (rw [hlen]; omega)), if_pos (by omega), if_pos (by rw [hlen]; omega), part_at, up1 _ (by omega)]
      · exact Ev.bind ht (ev_neg (by simp [txRes]) (ev_some rfl))
    | some x =>
      rw [ho] at ht
      have ih := impl_TxsOf_loop suf (pre ++ [p]) (dn ++ [x]) (fun q hq => hp q (by simp [hq])) (by simp; omega) (by simp [hd])
      rw [List.append_assoc, List.singleton_append, List.length_append, List.length_singleton, List.map_append, List.map_singleton] at ih
      have e : txsRes dn ((some x).bind fun x => (readAll suf).map fun l => x :: l) = txsRes (dn ++ [x]) (readAll suf) := by
        cases readAll suf <;> simp [txsRes]
      rw [e]
      refine Ev.step (f := fun k => (impl_TxOf.f k (B p)).bind fun r => if r.2.2.2.2 = true then (if (dn.map fromT).length < 4398046511104 then (impl_TxsOf.l0 k ((dn.map fromT) ++ [(⟨r.1, r.2.1, r.2.2.1, r.2.2.2.1⟩ : S45)]) ((pre ++ p :: suf).map B) (((pre ++ p :: suf).map B).length : Int) ((pre.length + 1 : Nat) : Int)) else none) else some ([], false)) (fun k => ?_) ?_
      · simp only [impl_TxsOf.l0]
        rw [if_pos (by first | omega | (rw [hlen]; omega)), if_pos (by omega), if_pos (by rw [hlen]; omega), part_at, up1 _ (by omega)]
      · exact Ev.bind ht (ev_pos rfl (ev_pos (by rw [List.length_map]; omega) ih))
theorem impl_TxsOf_ev (s : List UInt8) (hl : s.length ≤ 536870912) : Ev (fun k => impl_TxsOf.f k (B s)) (txsRes [] (ofTs s)) := by
  unfold impl_TxsOf.f ofTs
  by_cases c : s = []
  · rw [if_pos c]
    exact ev_pos (by rw [B_toList]; exact c) (ev_some rfl)
  · rw [if_neg c]
    refine ev_neg (by rw [B_toList]; exact c) (ev_const (impl_Split_val s 44 (by omega)) ?_)
    have hn := splitL_len 44 s
    exact impl_TxsOf_loop (splitL 44 s) [] [] (fun p hp => by have := split_part 44 hp; omega) (by simp only [List.nil_append]; omega) rfl

theorem impl_Steps_loop : ∀ (suf pre : List (List UInt8)) (dn : List (Int × List Tx)) (last : Int), (∀ p ∈ suf, p.length ≤ 536870912) → (pre ++ suf).length ≤ 1073741824 → dn.length ≤ pre.length → 0 ≤ last → last ≤ 1000000 →
    Ev (fun k => impl_Steps.l0 k (dn.map fromS) last ((pre ++ suf).map B) (((pre ++ suf).map B).length : Int) (pre.length : Int)) (stepsRes dn (stepsL last suf))
  | [], pre, dn, last, hp, hl, hd, h0, h1 => by
    rw [List.append_nil] at *
    refine Ev.step (f := fun _ => some (dn.map fromS, true)) (fun k => ?_) (ev_some ?_)
    · simp only [impl_Steps.l0]
      rw [if_neg (by rw [List.length_map]; omega)]
    · simp [stepsL, stepsRes]
  | p :: suf, pre, dn, last, hp, hl, hd, h0, h1 => by
    have hlen : ((pre ++ p :: suf).map B).length = pre.length + (suf.length + 1) := by simp
    simp only [List.length_append, List.length_cons] at hl
    have hpl := hp p (by simp)
    rw [stepsL_cons]
    refine Ev.step (f := fun k => (strings_Cut.f (B p) (⟨#[124]⟩ : ByteArray)).bind fun c => ((impl_Number.f k c.1).bind fun v => ((impl_TxsOf.f k c.2.1).bind fun t => (if c.2.2 = true then (if v.2 = true then (if t.2 = true then ((impl_within.f v.1 (last + 1) 60).bind fun b => (if b = true then (if (t.1.length : Int) > 2 then (some ([], false)) else (if (dn.map fromS).length < 4398046511104 then (impl_Steps.l0 k ((dn.map fromS) ++ [(⟨v.1, t.1⟩ : S38)]) v.1 ((pre ++ p :: suf).map B) (((pre ++ p :: suf).map B).length : Int) ((pre.length + 1 : Nat) : Int)) else (none))) else (some ([], false)))) else (some ([], false))) else (some ([], false))) else (some ([], false)))))) (fun k => ?_) ?_
    · simp only [impl_Steps.l0]
      rw [if_pos (by rw [hlen]; omega), if_pos (by omega), if_pos (by rw [hlen]; omega), part_at, up1 _ (by omega), up1' last (by omega) (by omega)]
    · have hc := strings_Cut_val p 124 (by omega)
      unfold stepOne
      cases hq : cutL 124 p with
      | none =>
        rw [hq] at hc
        exact ev_const hc (Ev.bind (impl_Number_ev p) (Ev.bind (impl_TxsOf_ev [] (by simp)) (ev_neg (by simp) (ev_some rfl))))
      | some q =>
        obtain ⟨a, r⟩ := q
        rw [hq] at hc
        have hr := (cut_len hq).2
        simp only at hr hc
        simp only [Option.bind_some]
        refine ev_const hc (Ev.bind (impl_Number_ev a) (Ev.bind (impl_TxsOf_ev r (by omega)) (ev_pos rfl ?_)))
        simp only
        by_cases c1 : (numF a).2 = true
        · refine ev_pos c1 ?_
          cases ho : ofTs r with
          | none =>
            refine ev_neg (by simp [txsRes]) (ev_some ?_)
            split <;> rfl
          | some l =>
            refine ev_pos rfl (ev_const (impl_within_val _ _ _) ?_)
            by_cases c2 : last + 1 ≤ num a ∧ num a ≤ 60
            · rw [if_pos ⟨c1, by omega, by omega⟩]
              refine ev_pos (decide_eq_true c2) ?_
              simp only [txsRes, List.nil_append, Option.bind_some]
              by_cases c4 : l.length ≤ 2
              · rw [if_pos c4]
                have ih := impl_Steps_loop suf (pre ++ [p]) (dn ++ [(num a, l)]) (num a) (fun q hq => hp q (by simp [hq])) (by simp; omega) (by simp; omega) (num_nonneg a) (by omega)
                rw [show (pre ++ [p]).length = pre.length + 1 from by simp, List.append_assoc, List.singleton_append, show (dn ++ [(num a, l)]).map fromS = dn.map fromS ++ [fromS (num a, l)] from by simp] at ih
                simp only [Option.bind_some]
                rw [stepsRes_cons]
                exact ev_neg (by rw [List.length_map]; omega) (ev_pos (by rw [List.length_map]; omega) ih)
              · rw [if_neg c4]
                exact ev_pos (by rw [List.length_map]; omega) (ev_some rfl)
            · rw [if_neg (by rintro ⟨_, h, h'⟩; omega)]
              exact ev_neg (by simpa using c2) (ev_some rfl)
        · rw [if_neg (by rintro ⟨h, _⟩; exact c1 h)]
          exact ev_neg c1 (ev_some rfl)
theorem impl_Steps_ev (s : List UInt8) (hl : s.length ≤ 536870912) : Ev (fun k => impl_Steps.f k (B s)) (stepsRes [] (stepsS s)) := by
  unfold impl_Steps.f stepsS
  by_cases c : s = []
  · rw [if_pos c]
    exact ev_pos (by rw [B_toList]; exact c) (ev_some rfl)
  · rw [if_neg c]
    refine ev_neg (by rw [B_toList]; exact c) (ev_const (impl_Split_val s 47 (by omega)) ?_)
    have hn := splitL_len 47 s
    have hpt : ∀ p ∈ splitL 47 s, p.length ≤ s.length := fun p hp => split_part 47 hp
    cases hs : splitL 47 s with
    | nil => exact absurd hs (splitL_ne 47 s)
    | cons p ps =>
      rw [hs] at hn hpt
      simp only [List.length_cons] at hn
      have hj : Ev (fun k => impl_Steps.j0 k ((p :: ps).map B) true) (([] : List S38), false) := Ev.step (f := fun _ => some ([], false)) (fun k => by simp only [impl_Steps.j0]; rw [if_pos trivial]) (ev_some rfl)
      have hlm : ((p :: ps).map B).length = ps.length + 1 := by simp
      have hw : wrap64 ((((p :: ps).map B).length : Int) - 1) = (ps.length : Int) := by rw [hlm, wrapI _ (by omega) (by omega)]; omega
      refine ev_pos (by rw [hlm]; omega) ?_
      by_cases c1 : p = []
      · refine ev_pos (by rw [part_zero, B_toList]; exact c1) ?_
        by_cases c2 : ps.length ≤ 30
        · simp only
          rw [if_pos ⟨c1, c2⟩, hw, decide_eq_false (by omega)]
          refine Ev.step (f := fun k => impl_Steps.l0 k [] 0 (ps.map B) ((ps.map B).length : Int) 0) (fun k => by simp only [impl_Steps.j0]; rw [if_neg (by decide), if_pos (by rw [hlm]; omega)]; rfl) ?_
          exact impl_Steps_loop ps [] [] 0 (fun q hq => by have := hpt q (by simp [hq]); omega) (by simp; omega) (by simp) (by omega) (by omega)
        · simp only
          rw [if_neg (fun h => c2 h.2), hw, decide_eq_true (by omega)]
          exact hj
      · simp only
        rw [if_neg (fun h => c1 h.1)]
        exact ev_neg (by rw [part_zero, B_toList]; exact c1) hj

theorem eqTxS_refl (l : List S45) (hl : l.length ≤ 35184372088832) : Ev (fun k => laws_eqTxS.f k l l) true := by
  unfold laws_eqTxS.f
  refine ev_pos rfl ?_
  have loop : ∀ (d n : Nat), l.length - n = d → n ≤ l.length → Ev (fun k => laws_eqTxS.l0 k l l (n : Int)) true := by
    intro d
    induction d with
    | zero =>
      intro n hd hn
      exact Ev.step (f := fun _ => some true) (fun k => by simp only [laws_eqTxS.l0]; rw [if_neg (by omega)]) (ev_some rfl)
    | succ d ih =>
      intro n hd hn
      have h1 : n < l.length := by omega
      refine Ev.step (f := fun k => laws_eqTxS.l0 k l l ((n + 1 : Nat) : Int)) (fun k => ?_) (ih (n + 1) (by omega) (by omega))
      simp only [laws_eqTxS.l0]
      rw [if_pos (by omega), if_pos (by omega), if_pos (by omega), up1 n (by omega)]
      simp [laws_eqTx.f]
  exact loop l.length 0 (by omega) (by omega)

theorem rdST_nat (xs : List S38) (n : Nat) (h : n < xs.length) : rd_T38 xs (n : Int) = xs[n] := by
  unfold rd_T38; simp [List.getD_eq_getElem?_getD, h]
theorem eqStepS_loop (xs : List S38) (hl : xs.length ≤ 1000) (hx : ∀ x ∈ xs, x.f1.length ≤ 1000) : ∀ (d i : Nat), xs.length - i = d → i ≤ xs.length → Ev (fun k => laws_eqStepS.l0 k xs xs (i : Int)) true := by
  intro d
  induction d with
  | zero =>
    intro i hd hi
    exact Ev.step (f := fun _ => some true) (fun k => by simp only [laws_eqStepS.l0]; rw [if_neg (by omega)]) (ev_some rfl)
  | succ d ih =>
    intro i hd hi
    have h1 : i < xs.length := by omega
    have hm := hx _ (List.getElem_mem h1)
    refine Ev.step (f := fun k => (laws_eqTxS.f k xs[i].f1 xs[i].f1).bind fun t => if t = true then laws_eqStepS.l0 k xs xs ((i + 1 : Nat) : Int) else some false) (fun k => ?_) ?_
    · simp only [laws_eqStepS.l0, laws_eqStep.f]
      rw [if_pos (by omega), if_pos (by omega), if_pos (by omega), rdST_nat xs i h1, if_pos trivial, up1 i (by omega)]
      cases laws_eqTxS.f k xs[i].f1 xs[i].f1 with
      | none => rfl
      | some t => cases t <;> rfl
    · exact Ev.bind (eqTxS_refl _ (by omega)) (ev_pos rfl (ih (i + 1) (by omega) (by omega)))
theorem eqStepS_refl (xs : List S38) (hl : xs.length ≤ 1000) (hx : ∀ x ∈ xs, x.f1.length ≤ 1000) : Ev (fun k => laws_eqStepS.f k xs xs) true := by
  unfold laws_eqStepS.f
  exact ev_pos rfl (eqStepS_loop xs hl hx xs.length 0 (by omega) (by omega))

def beforeS (a b : S45) : Prop := a.f0 < b.f0 ∨ (a.f0 = b.f0 ∧ a.f3 < b.f3)
instance (a b : S45) : Decidable (beforeS a b) := by unfold beforeS; infer_instance
def poolAt (p : List S45) (j : Nat) : Prop := txOkS (p.getD j z45) ∧ (0 < j → beforeS (p.getD (j - 1) z45) (p.getD j z45))
def poolFrom (p : List S45) (i : Nat) : Prop := ∀ j, i ≤ j → j < p.length → poolAt p j
def poolIs (p : List S45) : Prop := poolFrom p 0 ∧ p.length ≤ 12
theorem poolFrom_step {p : List S45} {i : Nat} (h : i < p.length) : poolFrom p i ↔ poolAt p i ∧ poolFrom p (i + 1) := by
  refine ⟨fun H => ⟨H i (Nat.le_refl _) h, fun j hj => H j (by omega)⟩, fun H j hj hl => ?_⟩
  rcases Nat.eq_or_lt_of_le hj with rfl | hj
  · exact H.1
  · exact H.2 j (by omega) hl
theorem poolFrom_end {p : List S45} : poolFrom p p.length := fun j h1 h2 => absurd h2 (by omega)
theorem getD_at {p : List S45} {i : Nat} (h : i < p.length) : p.getD i z45 = p[i] := by simp [List.getD_eq_getElem?_getD, h]
def marksT (a : Int) (n : Nat) : List S45 := (List.range n).map fun i : Nat => ⟨a + 4 * (i : Int), a + 4 * (i : Int) + 1, a + 4 * (i : Int) + 2, a + 4 * (i : Int) + 3⟩
theorem marksT_length (a : Int) (n : Nat) : (marksT a n).length = n := by simp [marksT]
theorem marksT_at (a : Int) (n i : Nat) (h : i < (marksT a n).length) : (marksT a n)[i] = ⟨a + 4 * (i : Int), a + 4 * (i : Int) + 1, a + 4 * (i : Int) + 2, a + 4 * (i : Int) + 3⟩ := by simp [marksT]
theorem rdT_set (xs : List S45) (n : Nat) (v : S45) (h : n < xs.length) : rd_T45 (xs.set n v) (n : Int) = v := by
  rw [rdT_nat _ n (by simpa using h)]; simp
theorem wr4 (a : Int) (h0 : 0 ≤ a) (h : a < 4611686018427387900) : wrap64 (a + 1) = a + 1 ∧ wrap64 (a + 1 + 1) = a + 2 ∧ wrap64 (a + 2 + 1) = a + 3 ∧ wrap64 (a + 3 + 1) = a + 4 := by unfold wrap64; omega
theorem markTxS_loop (a : Int) (N : Nat) (h0 : 0 ≤ a) (h1 : a + 4 * (N : Int) < 4611686018427387900) : ∀ (d n : Nat) (x : List S45), N - n = d → n ≤ N → x.length = N → x.take n = (marksT a N).take n → Ev (fun k => laws_markTxS.l0 k x (a + 4 * (n : Int)) (n : Int)) (a + 4 * (N : Int), marksT a N) := by
  intro d
  induction d with
  | zero =>
    intro n x hd hn hx ht
    obtain rfl : n = N := by omega
    refine Ev.step (f := fun _ => some (a + 4 * (n : Int), x)) (fun k => by simp only [laws_markTxS.l0]; rw [if_neg (by omega)]) (ev_some ?_)
    rw [List.take_of_length_le (by omega), List.take_of_length_le (by simp [marksT_length])] at ht
    rw [ht]
  | succ d ih =>
    intro n x hd hn hx ht
    have hlt : n < N := by omega
    have hx2 : n < x.length := by omega
    obtain ⟨w1, w2, w3, w4⟩ := wr4 (a + 4 * (n : Int)) (by omega) (by omega)
    refine Ev.step (f := fun k => laws_markTxS.l0 k (x.set n ⟨a + 4 * (n : Int), a + 4 * (n : Int) + 1, a + 4 * (n : Int) + 2, a + 4 * (n : Int) + 3⟩) (a + 4 * ((n + 1 : Nat) : Int)) ((n + 1 : Nat) : Int)) (fun k => ?_) (ih (n + 1) (x.set n ⟨a + 4 * (n : Int), a + 4 * (n : Int) + 1, a + 4 * (n : Int) + 2, a + 4 * (n : Int) + 3⟩) (by omega) (by omega) (by simpa using hx) ?_)
    · have wn := up1 n (by omega)
      have e4 : a + 4 * (n : Int) + 4 = a + 4 * ((n + 1 : Nat) : Int) := by clear w1 w2 w3 w4 wn; omega
      have c1 : (n : Int) < (x.length : Int) := by clear w1 w2 w3 w4 wn; omega
      have c2 : 0 ≤ (n : Int) := by clear w1 w2 w3 w4 wn; omega
      simp only [laws_markTxS.l0]
      rw [if_pos c1, if_pos c2, w1, w2, w3, w4, wn, e4]
      simp only [Option.bind_some, Int.toNat_natCast, List.set_set, rdT_set _ _ _ hx2]
    · clear w1 w2 w3 w4
      rw [List.take_succ_eq_append_getElem (by simpa [hx] using hlt), List.take_succ_eq_append_getElem (by simpa [marksT_length] using hlt)]
      simp [List.take_set_of_le, ht, marksT_at]
theorem markTxS_ev (l : List S45) (a : Int) (h0 : 0 ≤ a) (h1 : a + 4 * (l.length : Int) < 4611686018427387900) : Ev (fun k => laws_markTxS.f k l a) (a + 4 * (l.length : Int), marksT a l.length) := by
  unfold laws_markTxS.f
  have := markTxS_loop a l.length h0 h1 l.length 0 l (by omega) (by omega) rfl (by simp)
  simpa using this

theorem heldTxS_loop (a : Int) (N : Nat) (h0 : 0 ≤ a) (h1 : a + 4 * (N : Int) < 4611686018427387900) : ∀ (d n : Nat), N - n = d → n ≤ N → Ev (fun k => laws_heldTxS.l0 k (marksT a N) (a + 4 * (n : Int)) (n : Int)) (a + 4 * (N : Int)) := by
  intro d
  have hl := marksT_length a N
  induction d with
  | zero =>
    intro n hd hn
    obtain rfl : n = N := by omega
    exact Ev.step (f := fun _ => some (a + 4 * (n : Int))) (fun k => by simp only [laws_heldTxS.l0]; rw [if_neg (by omega)]) (ev_some rfl)
  | succ d ih =>
    intro n hd hn
    have hlt : n < (marksT a N).length := by omega
    refine Ev.step (f := fun k => laws_heldTxS.l0 k (marksT a N) (a + 4 * ((n + 1 : Nat) : Int)) ((n + 1 : Nat) : Int)) (fun k => ?_) (ih (n + 1) (by omega) (by omega))
    have e4 : a + 4 * (n : Int) + 4 = a + 4 * ((n + 1 : Nat) : Int) := by omega
    have c1 : (n : Int) < ((marksT a N).length : Int) := by omega
    have c2 : 0 ≤ (n : Int) := by omega
    have wn := up1 n (by omega)
    obtain ⟨w1, w2, w3, w4⟩ := wr4 (a + 4 * (n : Int)) (by clear wn; omega) (by clear wn; omega)
    simp only [laws_heldTxS.l0]
    rw [if_pos c1, if_pos c2, w1, w2, w3, w4, wn, e4, rdT_nat _ n hlt, marksT_at]
    simp only [if_true]
theorem heldTxS_ev (a : Int) (N : Nat) (h0 : 0 ≤ a) (h1 : a + 4 * (N : Int) < 4611686018427387900) : Ev (fun k => laws_heldTxS.f k (marksT a N) a) (a + 4 * (N : Int)) := by
  unfold laws_heldTxS.f
  have := heldTxS_loop a N h0 h1 N 0 (by omega) (by omega)
  simpa using this

theorem heldStepS_loop (ms : List S38) (pos : Nat → Int) (len : Nat → Nat) (hl : ms.length ≤ 1000) (H : ∀ i (h : i < ms.length), ms[i] = ⟨pos i, marksT (pos i + 1) (len i)⟩ ∧ 0 ≤ pos i ∧ pos (i + 1) = pos i + 1 + 4 * (len i : Int) ∧ pos (i + 1) ≤ 1000000) : ∀ (d i : Nat), ms.length - i = d → i ≤ ms.length → Ev (fun k => laws_heldStepS.l0 k ms (pos i) (i : Int)) (pos ms.length) := by
  intro d
  induction d with
  | zero =>
    intro i hd hi
    obtain rfl : i = ms.length := by omega
    exact Ev.step (f := fun _ => some (pos ms.length)) (fun k => by simp only [laws_heldStepS.l0]; rw [if_neg (by omega)]) (ev_some rfl)
  | succ d ih =>
    intro i hd hi
    have h1 : i < ms.length := by omega
    obtain ⟨e1, e2, e3, e4⟩ := H i h1
    have ih' := ih (i + 1) (by omega) (by omega)
    refine Ev.step (f := fun k => (laws_heldTxS.f k (marksT (pos i + 1) (len i)) (pos i + 1)).bind fun t => if t < 0 then some (-1) else laws_heldStepS.l0 k ms t ((i + 1 : Nat) : Int)) (fun k => ?_) ?_
    · simp only [laws_heldStepS.l0]
      rw [if_pos (by omega), if_pos (by omega), rdST_nat ms i h1, e1]
      simp only
      rw [if_pos trivial, up1' (pos i) (by omega) (by omega), up1 i (by omega)]
    · refine Ev.bind (heldTxS_ev (pos i + 1) (len i) (by omega) (by omega)) ?_
      rw [← e3]
      exact ev_neg (by omega) ih'
theorem heldStepS_ev (ms : List S38) (pos : Nat → Int) (len : Nat → Nat) (hl : ms.length ≤ 1000) (H : ∀ i (h : i < ms.length), ms[i] = ⟨pos i, marksT (pos i + 1) (len i)⟩ ∧ 0 ≤ pos i ∧ pos (i + 1) = pos i + 1 + 4 * (len i : Int) ∧ pos (i + 1) ≤ 1000000) : Ev (fun k => laws_heldStepS.f k ms (pos 0)) (pos ms.length) := by
  unfold laws_heldStepS.f
  exact heldStepS_loop ms pos len hl H ms.length 0 (by omega) (by omega)

local instance : CellT Tryd.prog 3 := ⟨by kernel_rfl, by kernel_rfl⟩
local instance : CellT Tryd.prog 34 := ⟨by kernel_rfl, by kernel_rfl⟩

theorem stepsRes_ok (o : Option (List (Int × List Tx))) : (stepsRes [] o).2 = o.isSome := by cases o <;> rfl
theorem stepsRes_len (o : Option (List (Int × List Tx))) : (stepsRes [] o).1.length = (o.getD []).length := by cases o <;> simp [stepsRes]
theorem stepOne_some {last : Int} {p : List UInt8} {x : Int × List Tx} (h : stepOne last p = some x) : last < x.1 ∧ x.1 ≤ 60 ∧ x.2.length ≤ 2 := by
  unfold stepOne at h
  cases hq : cutL 124 p with
  | none => rw [hq] at h; cases h
  | some q =>
    rw [hq] at h
    simp only [Option.bind_some] at h
    split at h
    · rename_i c
      cases ho : ofTs q.2 with
      | none => rw [ho] at h; cases h
      | some l =>
        rw [ho] at h
        simp only [Option.bind_some] at h
        split at h
        · obtain rfl := Option.some.inj h
          exact ⟨c.2.1, c.2.2, by assumption⟩
        · cases h
    · cases h
theorem stepsL_some : ∀ {ps : List (List UInt8)} {last : Int} {l : List (Int × List Tx)}, stepsL last ps = some l → l.length = ps.length ∧ ∀ x ∈ l, x.1 ≤ 60 ∧ x.2.length ≤ 2
  | [], last, l, h => by
    obtain rfl := Option.some.inj h
    simp
  | p :: ps, last, l, h => by
    rw [stepsL_cons] at h
    obtain ⟨x, hx, h⟩ := Option.bind_eq_some_iff.1 h
    obtain ⟨r, hr, rfl⟩ := Option.map_eq_some_iff.1 h
    obtain ⟨h1, h2⟩ := stepsL_some hr
    have h3 := stepOne_some hx
    refine ⟨by simp [h1], fun y hy => ?_⟩
    rcases List.mem_cons.1 hy with rfl | hy
    · exact h3.2
    · exact h2 y hy
theorem stepsS_some {s : List UInt8} {l : List (Int × List Tx)} (h : stepsS s = some l) : l.length ≤ 30 ∧ ∀ x ∈ l, x.1 ≤ 60 ∧ x.2.length ≤ 2 := by
  unfold stepsS at h
  split at h
  · obtain rfl := Option.some.inj h
    simp
  · split at h
    · cases h
    · split at h
      · rename_i c
        obtain ⟨h1, h2⟩ := stepsL_some h
        exact ⟨by omega, h2⟩
      · cases h
/-- The steps as they are when the first i of them have been marked, and the number that comes next. -/
def mkS : Int → List S38 → Nat → List S38 × Int
  | a, [], _ => ([], a)
  | a, x :: xs, 0 => (x :: xs, a)
  | a, x :: xs, i + 1 => (⟨a, marksT (a + 1) x.f1.length⟩ :: (mkS (a + 1 + 4 * (x.f1.length : Int)) xs i).1, (mkS (a + 1 + 4 * (x.f1.length : Int)) xs i).2)
theorem mkS_zero (a : Int) : ∀ l : List S38, mkS a l 0 = (l, a)
  | [] => rfl
  | _ :: _ => rfl
theorem mkS_len : ∀ (l : List S38) (a : Int) (i : Nat), (mkS a l i).1.length = l.length
  | [], _, _ => rfl
  | _ :: _, _, 0 => rfl
  | x :: xs, a, i + 1 => by simp only [mkS, List.length_cons]; rw [mkS_len xs]
theorem mkS_at : ∀ (l : List S38) (a : Int) (i : Nat) (h : i < l.length), (mkS a l i).1[i]? = some l[i]
  | x :: xs, a, 0, _ => rfl
  | x :: xs, a, i + 1, h => by
    simp only [mkS, List.getElem?_cons_succ, List.getElem_cons_succ]
    exact mkS_at xs _ i (by simpa using h)
theorem mkS_step : ∀ (l : List S38) (a : Int) (i : Nat) (h : i < l.length), mkS a l (i + 1) = ((mkS a l i).1.set i ⟨(mkS a l i).2, marksT ((mkS a l i).2 + 1) l[i].f1.length⟩, (mkS a l i).2 + 1 + 4 * (l[i].f1.length : Int))
  | x :: xs, a, 0, _ => by
    simp only [mkS, mkS_zero]
    rfl
  | x :: xs, a, i + 1, h => by
    have ih := mkS_step xs (a + 1 + 4 * (x.f1.length : Int)) i (by simpa using h)
    rw [mkS, ih, mkS]
    rfl
theorem mkS_bound (m : Nat) : ∀ (l : List S38) (a : Int) (i : Nat), (∀ x ∈ l, x.f1.length ≤ m) → a ≤ (mkS a l i).2 ∧ (mkS a l i).2 ≤ a + (l.length : Int) * (1 + 4 * (m : Int))
  | [], a, i, _ => by simp [mkS]
  | x :: xs, a, 0, _ => by
    simp only [mkS]
    have : (0 : Int) ≤ ((x :: xs).length : Int) * (1 + 4 * (m : Int)) := Int.mul_nonneg (by omega) (by omega)
    omega
  | x :: xs, a, i + 1, h => by
    have hx := h x (by simp)
    obtain ⟨h1, h2⟩ := mkS_bound m xs (a + 1 + 4 * (x.f1.length : Int)) i (fun y hy => h y (by simp [hy]))
    simp only [mkS, List.length_cons]
    rw [show (((xs.length + 1 : Nat) : Int)) * (1 + 4 * (m : Int)) = (xs.length : Int) * (1 + 4 * (m : Int)) + (1 + 4 * (m : Int)) from by rw [Int.natCast_add, Int.add_mul]; simp]
    omega
theorem mkS_done : ∀ (l : List S38) (a : Int) (j i : Nat) (h : i < l.length), i < j → (mkS a l j).1[i]? = some ⟨(mkS a l i).2, marksT ((mkS a l i).2 + 1) l[i].f1.length⟩
  | x :: xs, a, j + 1, 0, _, _ => by
    simp only [mkS]
    rfl
  | x :: xs, a, j + 1, i + 1, h, hj => by
    simp only [mkS, List.getElem?_cons_succ, List.getElem_cons_succ]
    exact mkS_done xs _ j i (by simpa using h) (by omega)
theorem stepsRes_small (o : Option (List (Int × List Tx))) (h : ∀ l, o = some l → l.length ≤ 30 ∧ ∀ x ∈ l, x.1 ≤ 60 ∧ x.2.length ≤ 2) : (stepsRes [] o).1.length ≤ 30 ∧ ∀ x ∈ (stepsRes [] o).1, x.f1.length ≤ 2 := by
  cases o with
  | none => simp [stepsRes]
  | some l =>
    obtain ⟨h1, h2⟩ := h l rfl
    simp only [stepsRes, List.nil_append, List.length_map]
    refine ⟨h1, fun x hx => ?_⟩
    obtain ⟨y, hy, rfl⟩ := List.mem_map.1 hx
    have := (h2 y hy).2
    simpa [fromS] using this
theorem FnExactSteps {w : World} (a0 : ByteArray) (hw0 : a0.size ≤ 9223372036854775807) (hL : LaidW w) :
    Calls Tryd.prog 3 #[.string a0] w fun e w' => e = .returned (.bool true) ∧ Below w.heap.size w w' := by
  obtain ⟨l, rfl, hs, _⟩ := B_eta a0
  by_cases c : (1048576 : Int) < ((B l).size : Int)
  · exact w0.walk0 (B l) w c
  have hl : l.length ≤ 536870912 := by omega
  have e1 := spec_Steps_ev l hl
  have e2 := impl_Steps_ev l hl
  obtain ⟨n1, n2⟩ := stepsRes_small (stepsS l) (fun q hq => stepsS_some hq)
  generalize stepsRes [] (stepsS l) = r at e1 e2 n1 n2
  obtain ⟨xs, b⟩ := r
  simp only at n1 n2
  have bd := fun i => mkS_bound 2 xs 1 i n2
  have hmul : (xs.length : Int) * (1 + 4 * ((2 : Nat) : Int)) ≤ 270 := by omega
  have sp := fun i (hi : i < xs.length) => mkS_step xs 1 i hi
  have eS := eqStepS_refl xs (by omega) (fun x hx => by have := n2 x hx; omega)
  have eH := heldStepS_ev (mkS 1 xs xs.length).1 (fun i => (mkS 1 xs i).2) (fun i => if h : i < xs.length then xs[i].f1.length else 0) (by rw [mkS_len]; omega) (fun i h => by
    have hi : i < xs.length := by rw [mkS_len] at h; exact h
    have h2 := mkS_done xs 1 xs.length i hi hi
    rw [List.getElem?_eq_getElem h] at h2
    have b1 := bd i
    have b2 := bd (i + 1)
    refine ⟨?_, by omega, ?_, by omega⟩
    · rw [Option.some.inj h2]
      simp only [dif_pos hi]
    · simp only [dif_pos hi]
      rw [sp i hi])
  rw [mkS_len] at eH
  have z0 : (mkS 1 xs 0).2 = 1 := by rw [mkS_zero]
  simp only [z0] at eH
  obtain ⟨k1, f1⟩ := e1.rounds
  obtain ⟨k2, f2⟩ := e2.rounds
  obtain ⟨k3, f3⟩ := eS.rounds
  obtain ⟨k4, f4⟩ := eH.rounds
  exact w0.walk (w := w) (h1 := ⟨f1⟩) (h2 := ⟨f2⟩) (he := ⟨f3⟩) (hh := ⟨f4⟩) (hLW := ⟨hL⟩) (hl_ms := ⟨(mkS_len xs 1 _).symm⟩) (hsz := c) (hm0 := by have := bd xs.length; omega) (L := fun i => (mkS 1 xs i).1) (pos := fun i => (mkS 1 xs i).2)
    (hM := ⟨by show (mkS 1 xs 0).1 = xs; rw [mkS_zero], by omega, z0, rfl, rfl, fun i hi => ⟨mkS_len xs 1 i, mkS_at xs 1 i hi, by have := bd i; show 0 ≤ (mkS 1 xs i).2; omega, by have := bd i; show (mkS 1 xs i).2 ≤ 1000000; omega, by
      have b1 := bd i
      have hx := n2 _ (List.getElem_mem hi)
      obtain ⟨k, hk⟩ := (markTxS_ev xs[i].f1 ((mkS 1 xs i).2 + 1) (by omega) (by omega)).rounds
      refine ⟨k, marksT ((mkS 1 xs i).2 + 1) xs[i].f1.length, ?_, ?_⟩
      · rw [hk]; show _ = some ((mkS 1 xs (i + 1)).2, _); rw [sp i hi]
      · show (mkS 1 xs (i + 1)).1 = _; rw [sp i hi]⟩⟩)
end Go.Proofs.YtkeplglaiikfhaaDoor.Law
