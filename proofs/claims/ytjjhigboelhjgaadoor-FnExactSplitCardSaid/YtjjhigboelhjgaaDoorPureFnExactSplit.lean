/- For every text and byte the program's Split tells what the reference tells, in a row of its own; no condition beyond the row's own. -/
import Derived.Test.YtjjhigboelhjgaaDoorS
import Derived.Test.YtjjhigboelhjgaaDoorPFnExactSplitx1
import Derived.Test.YtjjhigboelhjgaaDoorPFnExactSplitx2
namespace Go.Proofs.YtjjhigboelhjgaaDoor.Pure
open Go.RowKit Go.Proofs.YtjjhigboelhjgaaDoor.PFnExactSplit Go.Proofs.YtjjhigboelhjgaaDoorW.PrintWords Go.Proofs.YtjjhigboelhjgaaDoorW.PrintLast Go.Proofs.YtjjhigboelhjgaaDoorS

section
set_option linter.unusedVariables false
set_option linter.unusedSimpArgs false
theorem up1 (n : Nat) (h : n < 4611686018427387904) : wrap64 ((n : Int) + 1) = ((n + 1 : Nat) : Int) := by
  unfold wrap64; omega
theorem up1' (a : Int) (h0 : -4611686018427387904 ≤ a) (h : a < 4611686018427387904) : wrap64 (a + 1) = a + 1 := by
  unfold wrap64; omega
theorem dn1 (a : Int) (h0 : -4611686018427387904 ≤ a) (h : a < 4611686018427387904) : wrap64 (a - 1) = a - 1 := by
  unfold wrap64; omega
theorem wrapI (a : Int) (h0 : -4611686018427387904 ≤ a) (h : a < 4611686018427387904) : wrap64 a = a := by
  unfold wrap64; omega
theorem rd_nat (xs : List Int) (n : Nat) (h : n < xs.length) : rd xs (n : Int) = xs[n] := by
  unfold rd; simp [List.getD_eq_getElem?_getD, h]
theorem ev_eq {α : Type} {g : Nat → Option α} {r s : α} (h : Ev g r) (e : r = s) : Ev g s := e ▸ h
theorem ev_ite {α : Type} {c : Prop} [Decidable c] {g f : Nat → Option α} {r s : α} (hg : c → Ev g r) (hf : ¬ c → Ev f s) : Ev (fun k => if c then g k else f k) (if c then r else s) := by
  by_cases h : c
  · simp only [if_pos h]; exact hg h
  · simp only [if_neg h]; exact hf h
theorem ev_pos {α : Type} {c : Prop} [Decidable c] {g f : Nat → Option α} {r : α} (h : c) (hg : Ev g r) : Ev (fun k => if c then g k else f k) r := by
  simp only [if_pos h]; exact hg
theorem ev_neg {α : Type} {c : Prop} [Decidable c] {g f : Nat → Option α} {r : α} (h : ¬ c) (hf : Ev f r) : Ev (fun k => if c then g k else f k) r := by
  simp only [if_neg h]; exact hf
theorem ev_some {α : Type} {r s : α} (e : r = s) : Ev (fun _ => some r) s := e ▸ Ev.now r
theorem ev_const {α β : Type} {o : Option α} {f : Nat → α → Option β} {a : α} {r : β} (h : o = some a) (k : Ev (fun n => f n a) r) : Ev (fun n => o.bind (f n)) r := by
  subst h; exact k
theorem ev_up {α : Type} {g : Nat → Option α} {r : α} (h : Ev (fun k => g (k + 1)) r) : Ev g r := by
  obtain ⟨K, hK⟩ := h
  refine ⟨K + 1, fun k hk => ?_⟩
  obtain ⟨m, rfl⟩ : ∃ m, k = m + 1 := ⟨k - 1, by omega⟩
  exact hK m (by omega)
theorem wNat (c : Nat) (h : c < 4611686018427387904) : wrap64 (c : Int) = (c : Int) := by unfold wrap64; omega
theorem wAdd (a i : Nat) (h : a + i < 4611686018427387904) : wrap64 ((a : Int) + (i : Int)) = ((a + i : Nat) : Int) := by unfold wrap64; omega
theorem wAdd1 (a i : Nat) (h : a + i < 4611686018427387904) : wrap64 (((a + i : Nat) : Int) + 1) = (a : Int) + ((i + 1 : Nat) : Int) := by unfold wrap64; omega
theorem wSub (a i : Nat) (h : a < 4611686018427387904) (h' : i < 4611686018427387904) : wrap64 ((a : Int) - (i : Int)) = (a : Int) - (i : Int) := by unfold wrap64; omega
theorem tmod128 (c : Nat) : Int.tmod (c : Int) 128 = ((c % 128 : Nat) : Int) := by rw [Int.tmod_eq_emod_of_nonneg (by omega)]; omega
theorem all_drop {α : Type} {P : α → Prop} {l : List α} {i : Nat} (h : i < l.length) : (∀ x ∈ l.drop i, P x) ↔ P l[i] ∧ ∀ x ∈ l.drop (i + 1), P x := by
  rw [List.drop_eq_getElem_cons h, List.forall_mem_cons]

abbrev B (l : List UInt8) : ByteArray := ⟨l.toArray⟩
theorem B_list (l : List UInt8) : (B l).data.toList = l := by simp
theorem B_of (s : ByteArray) : B s.data.toList = s := Lib.mk_data s
theorem B_size (l : List UInt8) : (B l).size = l.length := by simp [ByteArray.size]
theorem B_app (l m : List UInt8) : B l ++ B m = B (l ++ m) := by
  rw [← B_of (B l ++ B m)]
  congr 2
  first | done | simp
theorem B_toList (l : List UInt8) : (B l).toList = l := by rw [Lib.toList_data, B_list]
theorem B_eq {l m : List UInt8} : B l = B m ↔ l = m := ⟨fun h => by have := congrArg (fun s : ByteArray => s.data.toList) h; simpa using this, fun h => by rw [h]⟩
theorem B_eta (s : ByteArray) : ∃ l, s = B l ∧ s.size = l.length ∧ s.data.toList = l := ⟨s.data.toList, (B_of s).symm, Lib.size_eq s, rfl⟩
theorem nums_B (xs : List Int) : strOfNums xs = B (xs.map fun n => UInt8.ofNat n.toNat) := rfl
theorem bt_B (l : List UInt8) (i : Nat) (h : i < l.length) : bt (B l) (i : Int) = (l[i].toNat : Int) := by
  rw [← bt_at (B l) i (by rw [Int.toNat_natCast, B_size]; exact h)]
  rfl
theorem bt_mid (pre suf : List UInt8) (b : UInt8) : bt (B (pre ++ b :: suf)) (pre.length : Int) = (b.toNat : Int) := by
  rw [bt_B _ _ (by simp)]
  simp
theorem extract_B (l : List UInt8) (a b : Nat) : (B l).extract a b = B ((l.drop a).take (b - a)) := by rw [Lib.extract_eq, B_list]
theorem B_nil : (⟨#[]⟩ : ByteArray) = B [] := rfl
theorem byte_of (a : Int) (h0 : 0 ≤ a) (h1 : a ≤ 255) : ∃ c : UInt8, a = (c.toNat : Int) := ⟨UInt8.ofNat a.toNat, by rw [UInt8.toNat_ofNat', Nat.mod_eq_of_lt (by omega)]; omega⟩
theorem byte_eq {b c : UInt8} : ((b.toNat : Int) = (c.toNat : Int)) ↔ b = c := ⟨fun h => UInt8.toNat_inj.1 (by omega), fun h => by rw [h]⟩
theorem splitL_len (c : UInt8) : ∀ l : List UInt8, (splitL c l).length ≤ l.length + 1
  | [] => by simp [splitL]
  | b :: l => by
    have ih := splitL_len c l
    rw [splitL]
    by_cases h : b = c
    · rw [if_pos h]; simp only [List.length_cons]; omega
    · rw [if_neg h]
      split <;> rename_i he
      · rw [he] at ih; simp only [List.length_cons] at ih ⊢; omega
      · simp
theorem ext_mid (pre seg suf : List UInt8) : (B (pre ++ seg ++ suf)).extract pre.length (pre.length + seg.length) = B seg := by
  rw [extract_B, List.append_assoc, List.drop_left, Nat.add_sub_cancel_left, List.take_left]
theorem spec_Split_loop (c : UInt8) : ∀ (suf pre seg : List UInt8) (dn : List ByteArray), (pre ++ seg ++ suf).length ≤ 1073741824 → dn.length ≤ pre.length → c ∉ seg →
    Ev (fun k => spec_Split.l0 k (B (pre ++ seg ++ suf)) (c.toNat : Int) dn (pre.length : Int) ((pre.length + seg.length : Nat) : Int)) (dn ++ (splitL c (seg ++ suf)).map B)
  | [], pre, seg, dn, hl, hd, hc => by
    rw [List.append_nil, List.append_nil] at *
    have hs := B_size (pre ++ seg)
    have he := ext_mid pre seg []
    rw [List.append_nil] at he
    simp only [List.length_append] at hl hs
    rw [splitL_none hc]
    refine Ev.step (f := fun k => spec_Split.l0 k (B (pre ++ seg)) (c.toNat : Int) (dn ++ [B seg]) ((pre.length + seg.length + 1 : Nat) : Int) ((pre.length + seg.length + 1 : Nat) : Int)) (fun k => ?_) ?_
    · simp only [spec_Split.l0]
      rw [if_pos (by omega), if_pos (by omega), if_pos (by omega), if_pos (by omega), if_pos (by omega), up1 _ (by omega), Int.toNat_natCast, Int.toNat_natCast, he]
    · refine Ev.step (f := fun _ => some (dn ++ [B seg])) (fun k => ?_) (Ev.now _)
      simp only [spec_Split.l0]
      rw [if_neg (by omega)]
  | b :: suf, pre, seg, dn, hl, hd, hc => by
    have hs := B_size (pre ++ seg ++ b :: suf)
    have he := ext_mid pre seg (b :: suf)
    have hbt := bt_mid (pre ++ seg) suf b
    rw [List.length_append] at hbt
    simp only [List.length_append, List.length_cons] at hl hs
    by_cases h : b = c
    · subst h
      rw [splitL_at hc]
      have ih := spec_Split_loop b suf (pre ++ seg ++ [b]) [] (dn ++ [B seg]) (by simp; omega) (by simp; omega) (by simp)
      have e1 : pre ++ seg ++ [b] ++ [] ++ suf = pre ++ seg ++ b :: suf := by simp
      have e2 : (pre ++ seg ++ [b]).length + ([] : List UInt8).length = pre.length + seg.length + 1 := by simp; omega
      have e3 : (pre ++ seg ++ [b]).length = pre.length + seg.length + 1 := by simp; omega
      rw [e1, e2, e3] at ih
      refine Ev.step (f := fun k => spec_Split.l0 k (B (pre ++ seg ++ b :: suf)) (b.toNat : Int) (dn ++ [B seg]) ((pre.length + seg.length + 1 : Nat) : Int) ((pre.length + seg.length + 1 : Nat) : Int)) (fun k => ?_) (ev_eq ih (by simp))
      simp only [spec_Split.l0]
      rw [if_pos (by omega), if_neg (by omega), if_pos (by omega), if_pos (by omega), hbt, if_pos rfl, if_pos (by omega), if_pos (by omega), if_pos (by omega), up1 _ (by omega), Int.toNat_natCast, Int.toNat_natCast, he]
    · have ih := spec_Split_loop c suf pre (seg ++ [b]) dn (by simp; omega) hd (by simp [hc, Ne.symm h])
      have e1 : pre ++ (seg ++ [b]) ++ suf = pre ++ seg ++ b :: suf := by simp
      have e2 : pre.length + (seg ++ [b]).length = pre.length + seg.length + 1 := by simp; omega
      have e3 : seg ++ [b] ++ suf = seg ++ b :: suf := by simp
      rw [e1, e2, e3] at ih
      refine Ev.step (f := fun k => spec_Split.l0 k (B (pre ++ seg ++ b :: suf)) (c.toNat : Int) dn (pre.length : Int) ((pre.length + seg.length + 1 : Nat) : Int)) (fun k => ?_) ih
      simp only [spec_Split.l0]
      rw [if_pos (by omega), if_neg (by omega), if_pos (by omega), if_pos (by omega), hbt, if_neg (fun e => h (byte_eq.1 e)), up1 _ (by omega)]
theorem spec_Split_ev (l : List UInt8) (c : UInt8) (hl : l.length ≤ 1073741824) : Ev (fun k => spec_Split.f k (B l) (c.toNat : Int)) ((splitL c l).map B) := by
  unfold spec_Split.f
  exact spec_Split_loop c l [] [] [] (by simpa using hl) (by simp) (by simp)

theorem splitB_one (l : List UInt8) (c : UInt8) : Lib.splitB (B [c]) 0 (Lib.countB (B l) (B [c])) (B l) = (splitL c l).map B := by
  have h := Lib.splitB_data (B [c]) 0 (Lib.countB (B l) (B [c])) (B l)
  have e : Lib.splitK (B [c]).data.toList 0 (Lib.countB (B l) (B [c])) (B l).data.toList = splitL c l := by
    rw [← split_one, B_list, B_list]
    unfold Lib.split Lib.countB
    rw [B_list, B_list]
  rw [e] at h
  rw [← h, List.map_map]
  conv => lhs; rw [← List.map_id (Lib.splitB (B [c]) 0 (Lib.countB (B l) (B [c])) (B l))]
  exact List.map_congr_left (fun s _ => (B_of s).symm)
theorem sep_B (c : UInt8) : strOfNums [(c.toNat : Int)] = B [c] := by
  rw [nums_B]
  simp
theorem impl_Split_val (l : List UInt8) (c : UInt8) (hl : l.length ≤ 1073741824) : impl_Split.f (B l) (c.toNat : Int) = some ((splitL c l).map B) := by
  unfold impl_Split.f strings_Split.f
  rw [sep_B, B_size, B_size, if_pos ⟨by omega, by simp⟩, splitB_one]
  rfl

theorem eqStringS_refl (l : List ByteArray) (hl : l.length ≤ 35184372088832) : Ev (fun k => laws_eqStringS.f k l l) true := by
  unfold laws_eqStringS.f
  refine ev_pos rfl ?_
  have loop : ∀ (d n : Nat), l.length - n = d → n ≤ l.length → Ev (fun k => laws_eqStringS.l0 k l l (n : Int)) true := by
    intro d
    induction d with
    | zero =>
      intro n hd hn
      exact Ev.step (f := fun _ => some true) (fun k => by simp only [laws_eqStringS.l0]; rw [if_neg (by omega)]) (ev_some rfl)
    | succ d ih =>
      intro n hd hn
      have h1 : n < l.length := by omega
      refine Ev.step (f := fun k => laws_eqStringS.l0 k l l ((n + 1 : Nat) : Int)) (fun k => ?_) (ih (n + 1) (by omega) (by omega))
      simp only [laws_eqStringS.l0]
      rw [if_pos (by omega), if_pos (by omega), if_pos (by omega), if_pos trivial, up1 n (by omega)]
  exact loop l.length 0 (by omega) (by omega)

theorem digM (u : Nat) : strOfNums [(wrap64 (48 + (Int.tmod (u : Int) 10))) % 256] = B [UInt8.ofNat (48 + u % 10)] := by
  rw [nums_B]
  have : (wrap64 (48 + (Int.tmod (u : Int) 10))) % 256 = ((48 + u % 10 : Nat) : Int) := by
    rw [Int.tmod_eq_emod_of_nonneg (by omega)]
    unfold wrap64; omega
  rw [this]
  rfl
theorem markText_loop : ∀ (d : Nat) (u : Nat) (acc : List UInt8), u < 10 ^ d → acc.length + d ≤ 100 → u ≤ 9223372036854775807 →
    Ev (fun k => laws_markText.l0 k (u : Int) (B acc)) (B (109 :: ((if u = 0 then [] else Lib.decDigits u) ++ acc))) := by
  have zero : ∀ (acc : List UInt8), acc.length ≤ 100 → Ev (fun k => laws_markText.l0 k 0 (B acc)) (B (109 :: acc)) := by
    intro acc h
    have hs := B_size acc
    refine Ev.step (f := fun _ => some (B (109 :: acc))) (fun k => ?_) (Ev.now _)
    simp only [laws_markText.l0]
    rw [if_neg (by omega), if_pos (by omega), show (⟨#[109]⟩ : ByteArray) = B [109] from rfl, B_app]
    rfl
  intro d
  induction d with
  | zero =>
    intro u acc h hl _
    obtain rfl : u = 0 := by simpa using h
    exact zero acc (by omega)
  | succ d ih =>
    intro u acc h hl h1
    by_cases hu : u = 0
    · subst hu; exact zero acc (by omega)
    have hs := B_size acc
    have ih' := ih (u / 10) (UInt8.ofNat (48 + u % 10) :: acc) (by rw [Nat.pow_succ] at h; omega) (by simp only [List.length_cons]; omega) (by omega)
    have e : (if u / 10 = 0 then [] else Lib.decDigits (u / 10)) ++ (UInt8.ofNat (48 + u % 10) :: acc) = (if u = 0 then [] else Lib.decDigits u) ++ acc := by
      rw [if_neg hu]
      by_cases hu' : u < 10
      · rw [if_pos (by omega), Lib.decDigits, dif_pos hu', Nat.mod_eq_of_lt hu']; rfl
      · rw [if_neg (by omega), show Lib.decDigits u = Lib.decDigits (u / 10) ++ [UInt8.ofNat (48 + u % 10)] by rw [Lib.decDigits, dif_neg hu']]
        simp
    rw [e] at ih'
    refine Ev.step (f := fun k => laws_markText.l0 k ((u / 10 : Nat) : Int) (B (UInt8.ofNat (48 + u % 10) :: acc))) (fun k => ?_) ih'
    simp only [laws_markText.l0]
    have e2 : wrap64 (Int.tdiv (u : Int) 10) = ((u / 10 : Nat) : Int) := by
      rw [Int.tdiv_eq_ediv_of_nonneg (by omega)]
      unfold wrap64; omega
    rw [if_pos (by omega), Option.bind_some, digM, B_size, if_pos (by simp only [List.length_singleton]; omega), e2, B_app]
    rfl
def mt (n : Nat) : ByteArray := B (109 :: Lib.decDigits n)
theorem markText_ev (n : Nat) (h0 : 0 < n) (h1 : n ≤ 9223372036854775807) : Ev (fun k => laws_markText.f k (n : Int)) (mt n) := by
  unfold laws_markText.f
  refine ev_neg (by omega) ?_
  have h := markText_loop 19 n [] (by omega) (by simp) h1
  rw [if_neg (by omega), List.append_nil] at h
  exact h
def mts (m n : Nat) : List ByteArray := (List.range n).map fun i => mt (m + i)
theorem mts_len (m n : Nat) : (mts m n).length = n := by simp [mts]
theorem mts_at (m n i : Nat) (h : i < n) : (mts m n)[i]? = some (mt (m + i)) := by simp [mts, h]

theorem markStringS_loop (l : List ByteArray) (hl : l.length ≤ 1099511627776) : ∀ (d n : Nat) (x : List ByteArray), l.length - n = d → n ≤ l.length → x.length = l.length → x.take n = (mts 1 l.length).take n → Ev (fun k => laws_markStringS.l0 k x ((1 + n : Nat) : Int) (n : Int)) (((1 + l.length : Nat) : Int), mts 1 l.length) := by
  intro d
  induction d with
  | zero =>
    intro n x hd hn hx ht
    obtain rfl : n = l.length := by omega
    rw [List.take_of_length_le (by omega), List.take_of_length_le (by rw [mts_len]; omega)] at ht
    subst ht
    exact Ev.step (f := fun _ => some _) (fun k => by simp only [laws_markStringS.l0]; rw [if_neg (by rw [mts_len]; omega)]) (Ev.now _)
  | succ d ih =>
    intro n x hd hn hx ht
    have h1 : n < l.length := by omega
    refine Ev.step (f := fun k => (laws_markText.f k ((1 + n : Nat) : Int)).bind fun t => laws_markStringS.l0 k (x.set n t) ((1 + (n + 1) : Nat) : Int) ((n + 1 : Nat) : Int)) (fun k => ?_) ?_
    · simp only [laws_markStringS.l0]
      rw [if_pos (by omega)]
      congr 1
      funext t
      rw [if_pos (by omega), Int.toNat_natCast, up1 n (by omega), up1 (1 + n) (by omega)]
      rfl
    · refine Ev.bind (markText_ev (1 + n) (by omega) (by omega)) (ih (n + 1) _ (by omega) (by omega) (by simpa using hx) ?_)
      have hm : n < (mts 1 l.length).length := by rw [mts_len]; exact h1
      have hg : (mts 1 l.length)[n] = mt (1 + n) := by
        have := mts_at 1 l.length n h1
        rw [List.getElem?_eq_getElem hm] at this
        exact Option.some.inj this
      rw [List.take_succ_eq_append_getElem (by simpa [hx] using h1), List.take_succ_eq_append_getElem hm]
      simp only [List.take_set_of_le (Nat.le_refl n), ht, List.getElem_set_self, hg]
theorem markStringS_ev (l : List ByteArray) (hl : l.length ≤ 1099511627776) : Ev (fun k => laws_markStringS.f k l 1) (((1 + l.length : Nat) : Int), mts 1 l.length) := by
  unfold laws_markStringS.f
  exact markStringS_loop l hl l.length 0 l (by omega) (by omega) rfl (by simp)

theorem heldStringS_ev (m : Nat) (hl : m ≤ 1099511627776) : Ev (fun k => laws_heldStringS.f k (mts 1 m) 1) ((1 + m : Nat) : Int) := by
  unfold laws_heldStringS.f
  have hlen := mts_len 1 m
  have loop : ∀ (d n : Nat), m - n = d → n ≤ m → Ev (fun k => laws_heldStringS.l0 k (mts 1 m) ((1 + n : Nat) : Int) (n : Int)) ((1 + m : Nat) : Int) := by
    intro d
    induction d with
    | zero =>
      intro n hd hn
      obtain rfl : n = m := by omega
      exact Ev.step (f := fun _ => some _) (fun k => by simp only [laws_heldStringS.l0]; rw [if_neg (by omega)]) (Ev.now _)
    | succ d ih =>
      intro n hd hn
      have hg : rdOf ByteArray.empty (mts 1 m) (n : Int) = mt (1 + n) := by
        unfold rdOf
        rw [Int.toNat_natCast, List.getD_eq_getElem?_getD, mts_at 1 m n (by omega)]; rfl
      refine Ev.step (f := fun k => (laws_markText.f k ((1 + n : Nat) : Int)).bind fun t => if (mt (1 + n)).toList = t.toList then laws_heldStringS.l0 k (mts 1 m) ((1 + (n + 1) : Nat) : Int) ((n + 1 : Nat) : Int) else some (-1)) (fun k => ?_) ?_
      · simp only [laws_heldStringS.l0]
        rw [if_pos (by omega), if_pos (by omega), hg, up1 n (by omega), up1 (1 + n) (by omega)]
        rfl
      · exact Ev.bind (markText_ev (1 + n) (by omega) (by omega)) (ev_pos rfl (ih (n + 1) (by omega) (by omega)))
  exact loop m 0 (by omega) (by omega)

theorem FnExactSplit (a0 : ByteArray) (a1 : Int) (w0 : a0.size ≤ 9223372036854775807) (w1 : (Lit.int .u8 a1).wf = true) : ∃ k, laws_FnExactSplit.f k a0 a1 = some true := by
  obtain ⟨l, rfl, hs, _⟩ := B_eta a0
  have hb : 0 ≤ a1 ∧ a1 ≤ 255 := by
    simp [Lit.wf, IntKind.min, IntKind.max, IntKind.signed, IntKind.bits] at w1
    omega
  obtain ⟨c, rfl⟩ := byte_of a1 hb.1 hb.2
  refine Ev.rounds ?_
  unfold laws_FnExactSplit.f
  by_cases h : ((B l).size : Int) > 1048576
  · exact ev_pos h (ev_some rfl)
  refine ev_neg h ?_
  have hl : l.length ≤ 1073741824 := by omega
  have hn := splitL_len c l
  have hm : ((splitL c l).map B).length ≤ 1099511627776 := by rw [List.length_map]; omega
  refine Ev.bind (spec_Split_ev l c hl) (ev_const (impl_Split_val l c hl) ?_)
  refine Ev.bind (eqStringS_refl _ (by omega)) (ev_pos rfl ?_)
  refine Ev.bind (markStringS_ev _ hm) (Ev.bind (heldStringS_ev _ hm) (ev_neg (by omega) (ev_pos rfl ?_)))
  refine ev_const (impl_Split_val l c hl) (Ev.bind (eqStringS_refl _ (by omega)) (ev_pos rfl ?_))
  exact Ev.bind (heldStringS_ev _ hm) (ev_neg (by omega) (ev_pos rfl (ev_some rfl)))
end
end Go.Proofs.YtjjhigboelhjgaaDoor.Pure
