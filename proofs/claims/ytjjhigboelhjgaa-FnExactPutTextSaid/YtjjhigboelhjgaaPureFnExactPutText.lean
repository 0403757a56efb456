/- For every text the program's PutText returns what the reference returns, each answer in new memory; no condition. -/
import Derived.Test.YtjjhigboelhjgaaPFnExactPutTextx1
import Derived.Test.YtjjhigboelhjgaaPFnExactPutTextx2
namespace Go.Proofs.Ytjjhigboelhjgaa.Pure
open Go.RowKit Go.Proofs.Ytjjhigboelhjgaa.PFnExactPutText Go.Proofs.YtjjhigboelhjgaaW.PrintWords Go.Proofs.YtjjhigboelhjgaaW.PrintLast

section
set_option linter.unusedVariables false
set_option linter.unusedSimpArgs false
theorem up1 (n : Nat) (h : n < 4611686018427387904) : wrap64 ((n : Int) + 1) = ((n + 1 : Nat) : Int) := by
  unfold wrap64; omega
theorem up1' (a : Int) (h0 : -4611686018427387904 ≤ a) (h : a < 4611686018427387904) : wrap64 (a + 1) = a + 1 := by
  unfold wrap64; omega
theorem dn1 (a : Int) (h0 : -4611686018427387904 ≤ a) (h : a < 4611686018427387904) : wrap64 (a - 1) = a - 1 := by
  unfold wrap64; omega
theorem wrapI (a : Int) (h0 : -4611686018427387904 ≤ a) (h : a < 4611686018427387904) : wrap64 a = a := by
  unfold wrap64; omega
theorem rd_nat (xs : List Int) (n : Nat) (h : n < xs.length) : rd xs (n : Int) = xs[n] := by
  unfold rd; simp [List.getD_eq_getElem?_getD, h]
theorem ev_eq {α : Type} {g : Nat → Option α} {r s : α} (h : Ev g r) (e : r = s) : Ev g s := e ▸ h
theorem ev_ite {α : Type} {c : Prop} [Decidable c] {g f : Nat → Option α} {r s : α} (hg : c → Ev g r) (hf : ¬ c → Ev f s) : Ev (fun k => if c then g k else f k) (if c then r else s) := by
  by_cases h : c
  · simp only [if_pos h]; exact hg h
  · simp only [if_neg h]; exact hf h
theorem ev_pos {α : Type} {c : Prop} [Decidable c] {g f : Nat → Option α} {r : α} (h : c) (hg : Ev g r) : Ev (fun k => if c then g k else f k) r := by
  simp only [if_pos h]; exact hg
theorem ev_neg {α : Type} {c : Prop} [Decidable c] {g f : Nat → Option α} {r : α} (h : ¬ c) (hf : Ev f r) : Ev (fun k => if c then g k else f k) r := by
  simp only [if_neg h]; exact hf
theorem ev_some {α : Type} {r s : α} (e : r = s) : Ev (fun _ => some r) s := e ▸ Ev.now r
theorem ev_const {α β : Type} {o : Option α} {f : Nat → α → Option β} {a : α} {r : β} (h : o = some a) (k : Ev (fun n => f n a) r) : Ev (fun n => o.bind (f n)) r := by
  subst h; exact k
theorem ev_up {α : Type} {g : Nat → Option α} {r : α} (h : Ev (fun k => g (k + 1)) r) : Ev g r := by
  obtain ⟨K, hK⟩ := h
  refine ⟨K + 1, fun k hk => ?_⟩
  obtain ⟨m, rfl⟩ : ∃ m, k = m + 1 := ⟨k - 1, by omega⟩
  exact hK m (by omega)
theorem wNat (c : Nat) (h : c < 4611686018427387904) : wrap64 (c : Int) = (c : Int) := by unfold wrap64; omega
theorem wAdd (a i : Nat) (h : a + i < 4611686018427387904) : wrap64 ((a : Int) + (i : Int)) = ((a + i : Nat) : Int) := by unfold wrap64; omega
theorem wAdd1 (a i : Nat) (h : a + i < 4611686018427387904) : wrap64 (((a + i : Nat) : Int) + 1) = (a : Int) + ((i + 1 : Nat) : Int) := by unfold wrap64; omega
theorem wSub (a i : Nat) (h : a < 4611686018427387904) (h' : i < 4611686018427387904) : wrap64 ((a : Int) - (i : Int)) = (a : Int) - (i : Int) := by unfold wrap64; omega
theorem tmod128 (c : Nat) : Int.tmod (c : Int) 128 = ((c % 128 : Nat) : Int) := by rw [Int.tmod_eq_emod_of_nonneg (by omega)]; omega
theorem all_drop {α : Type} {P : α → Prop} {l : List α} {i : Nat} (h : i < l.length) : (∀ x ∈ l.drop i, P x) ↔ P l[i] ∧ ∀ x ∈ l.drop (i + 1), P x := by
  rw [List.drop_eq_getElem_cons h, List.forall_mem_cons]

theorem eqByteS_loop (a b : List Int) (hl : a.length ≤ 281474976710656) (hab : a.length = b.length) : ∀ (d n : Nat), a.length - n = d → n ≤ a.length → Ev (fun k => laws_eqByteS.l0 k a b (n : Int)) (decide (a.drop n = b.drop n)) := by
  intro d
  induction d with
  | zero =>
    intro n hd hn
    obtain rfl : n = a.length := by omega
    refine Ev.step (f := fun _ => some true) (fun k => by simp only [laws_eqByteS.l0]; rw [if_neg (by omega)]) (ev_some ?_)
    rw [List.drop_of_length_le (by omega), List.drop_of_length_le (by omega)]; rfl
  | succ d ih =>
    intro n hd hn
    have h1 : n < a.length := by omega
    have h2 : n < b.length := by omega
    have e : (a.drop n = b.drop n) ↔ (a[n] = b[n] ∧ a.drop (n + 1) = b.drop (n + 1)) := by
      rw [List.drop_eq_getElem_cons h1, List.drop_eq_getElem_cons h2, List.cons.injEq]
    by_cases hc : a[n] = b[n]
    · refine Ev.step (f := fun k => laws_eqByteS.l0 k a b ((n + 1 : Nat) : Int)) (fun k => ?_) (ev_eq (ih (n + 1) (by omega) (by omega)) ?_)
      · simp only [laws_eqByteS.l0]
        rw [if_pos (by omega), if_pos (by omega), if_pos (by omega), rd_nat a n h1, rd_nat b n h2, if_pos hc, up1 n (by omega)]
      · exact decide_eq_decide.mpr (by rw [e]; simp [hc])
    · refine Ev.step (f := fun _ => some false) (fun k => ?_) (ev_some ?_)
      · simp only [laws_eqByteS.l0]
        rw [if_pos (by omega), if_pos (by omega), if_pos (by omega), rd_nat a n h1, rd_nat b n h2, if_neg hc]
      · exact (decide_eq_false (by rw [e]; exact fun h => hc h.1)).symm
theorem eqByteS_ev (a b : List Int) (hl : a.length ≤ 281474976710656) : Ev (fun k => laws_eqByteS.f k a b) (decide (a = b)) := by
  unfold laws_eqByteS.f
  by_cases h : a.length = b.length
  · exact ev_pos (by omega) (eqByteS_loop a b hl h a.length 0 (by omega) (by omega))
  · exact ev_neg (by omega) (ev_some (decide_eq_false (fun e => h (by rw [e]))).symm)

def bmarks (a : Int) (n : Nat) : List Int := (List.range n).map fun i : Nat => (a + (i : Int)) % 256
theorem bmarks_length (a : Int) (n : Nat) : (bmarks a n).length = n := by simp [bmarks]
theorem bmarks_at (a : Int) (n i : Nat) (h : i < (bmarks a n).length) : (bmarks a n)[i] = (a + (i : Int)) % 256 := by simp [bmarks]
theorem markByteS_loop (a : Int) (N : Nat) (h0 : 0 ≤ a) (h1 : a + N < 4611686018427387904) : ∀ (d n : Nat) (x : List Int), N - n = d → n ≤ N → x.length = N → x.take n = (bmarks a N).take n → Ev (fun k => laws_markByteS.l0 k x (a + n) (n : Int)) (a + N, bmarks a N) := by
  intro d
  induction d with
  | zero =>
    intro n x hd hn hx ht
    obtain rfl : n = N := by omega
    refine Ev.step (f := fun _ => some (a + n, x)) (fun k => by simp only [laws_markByteS.l0]; rw [if_neg (by omega)]) (ev_some ?_)
    rw [List.take_of_length_le (by omega), List.take_of_length_le (by simp [bmarks_length])] at ht
    rw [ht]
  | succ d ih =>
    intro n x hd hn hx ht
    have hlt : n < N := by omega
    refine Ev.step (f := fun k => laws_markByteS.l0 k (x.set n ((a + n) % 256)) (a + (n + 1 : Nat)) ((n + 1 : Nat) : Int)) (fun k => ?_) (ih (n + 1) (x.set n ((a + n) % 256)) (by omega) (by omega) (by simpa using hx) ?_)
    · simp only [laws_markByteS.l0]
      rw [if_pos (by omega), if_pos (by omega), up1 n (by omega), up1' (a + n) (by omega) (by omega)]
      rw [show a + (n : Int) + 1 = a + ((n + 1 : Nat) : Int) by omega]
      rfl
    · rw [List.take_succ_eq_append_getElem (by simpa [hx] using hlt), List.take_succ_eq_append_getElem (by simpa [bmarks_length] using hlt)]
      simp [List.take_set_of_le, ht, bmarks_at]
theorem markByteS_ev (l : List Int) (a : Int) (h0 : 0 ≤ a) (h1 : a + l.length < 4611686018427387904) : Ev (fun k => laws_markByteS.f k l a) (a + l.length, bmarks a l.length) := by
  unfold laws_markByteS.f
  have := markByteS_loop a l.length h0 h1 l.length 0 l (by omega) (by omega) rfl (by simp)
  simpa using this

theorem heldByteS_loop (a : Int) (N : Nat) (h0 : 0 ≤ a) (h1 : a + N < 4611686018427387904) : ∀ (d n : Nat), N - n = d → n ≤ N → Ev (fun k => laws_heldByteS.l0 k (bmarks a N) (a + n) (n : Int)) (a + N) := by
  intro d
  have hl := bmarks_length a N
  induction d with
  | zero =>
    intro n hd hn
    obtain rfl : n = N := by omega
    exact Ev.step (f := fun _ => some (a + n)) (fun k => by simp only [laws_heldByteS.l0]; rw [if_neg (by omega)]) (ev_some rfl)
  | succ d ih =>
    intro n hd hn
    have hlt : n < (bmarks a N).length := by omega
    refine Ev.step (f := fun k => laws_heldByteS.l0 k (bmarks a N) (a + (n + 1 : Nat)) ((n + 1 : Nat) : Int)) (fun k => ?_) (ih (n + 1) (by omega) (by omega))
    simp only [laws_heldByteS.l0]
    rw [if_pos (by omega), if_pos (by omega), rd_nat _ n hlt, bmarks_at, if_pos rfl, up1 n (by omega), up1' (a + n) (by omega) (by omega)]
    rw [show a + (n : Int) + 1 = a + ((n + 1 : Nat) : Int) by omega]
theorem heldByteS_ev (a : Int) (N : Nat) (h0 : 0 ≤ a) (h1 : a + N < 4611686018427387904) : Ev (fun k => laws_heldByteS.f k (bmarks a N) a) (a + N) := by
  unfold laws_heldByteS.f
  have := heldByteS_loop a N h0 h1 N 0 (by omega) (by omega)
  simpa using this

theorem spec_l1In_val (a b c : Int) : spec_l1In.f a b c = some (decide (b ≤ a ∧ a ≤ c)) := by
  unfold spec_l1In.f
  by_cases h : a ≥ b <;> by_cases h2 : a ≤ c <;> simp [h, h2] <;> omega

/-- Seven bits a byte, the low ones first. -/
def putBytes (n : Nat) : List Int := if n < 128 then [(n : Int)] else ((n % 128 + 128 : Nat) : Int) :: putBytes (n / 128)
termination_by n
decreasing_by omega
theorem putBytes_len (n : Nat) : 1 ≤ (putBytes n).length := by
  rw [putBytes]; split <;> simp
theorem putBytes_len_le : ∀ (m n : Nat), 1 ≤ m → n < 128 ^ m → (putBytes n).length ≤ m := by
  intro m
  induction m with
  | zero => intro n h _; omega
  | succ m ih =>
    intro n _ h
    rw [putBytes]
    split
    · simp
    · rename_i hn
      rw [List.length_cons]
      rcases Nat.eq_zero_or_pos m with rfl | hm
      · omega
      · have := ih (n / 128) hm (by rw [Nat.pow_succ] at h; omega)
        omega
def putIs (n : Int) : List Int := if 0 ≤ n ∧ n ≤ 2147483647 then putBytes n.toNat else []
theorem putIs_len (n : Int) : (putIs n).length ≤ 5 := by
  unfold putIs
  split
  · exact putBytes_len_le 5 _ (by omega) (by omega)
  · simp
theorem put_step (n : Nat) (h : n < 4611686018427387904) (h2 : 128 ≤ n) : wrap64 (Int.tdiv (n : Int) 128) = ((n / 128 : Nat) : Int) ∧ (wrap64 ((Int.tmod (n : Int) 128) + 128)) % 256 = ((n % 128 + 128 : Nat) : Int) := by
  have e1 : Int.tdiv (n : Int) 128 = ((n / 128 : Nat) : Int) := by rw [Int.tdiv_eq_ediv_of_nonneg (by omega)]; omega
  have e2 : Int.tmod (n : Int) 128 = ((n % 128 : Nat) : Int) := by rw [Int.tmod_eq_emod_of_nonneg (by omega)]; omega
  rw [e1, e2]; unfold wrap64; omega
theorem spec_PutNum_loop : ∀ (d n : Nat) (x : List Int), n ≤ d → n < 4611686018427387904 → x.length + (putBytes n).length ≤ 1000 → Ev (fun k => spec_PutNum.l0 k (n : Int) x) (x ++ putBytes n) := by
  intro d
  induction d with
  | zero =>
    intro n x hn hb hx
    obtain rfl : n = 0 := by omega
    refine Ev.step (f := fun _ => some (x ++ [0])) (fun k => by simp only [spec_PutNum.l0]; rw [if_neg (by omega), if_pos (by omega)]; rfl) (ev_some (by rw [putBytes]; rfl))
  | succ d ih =>
    intro n x hn hb hx
    by_cases h : n < 128
    · refine Ev.step (f := fun _ => some (x ++ [(n : Int)])) (fun k => by simp only [spec_PutNum.l0]; rw [if_neg (by omega), if_pos (by omega), show (n : Int) % 256 = n by omega]) (ev_some (by rw [putBytes, if_pos h]))
    · obtain ⟨e1, e2⟩ := put_step n hb (by omega)
      rw [putBytes, if_neg h, List.length_cons] at hx
      refine Ev.step (f := fun k => spec_PutNum.l0 k ((n / 128 : Nat) : Int) (x ++ [((n % 128 + 128 : Nat) : Int)])) (fun k => by simp only [spec_PutNum.l0]; rw [if_pos (by omega), if_pos (by omega), e1, e2]) (ev_eq (ih (n / 128) _ (by omega) (by omega) (by simp; omega)) (by rw [putBytes.eq_def n, if_neg h]; simp))
theorem spec_PutNum_ev (n : Int) : Ev (fun k => spec_PutNum.f k n) (putIs n) := by
  unfold spec_PutNum.f
  simp only [spec_l1In_val, Option.bind_some]
  have hl := putIs_len n
  by_cases h : 0 ≤ n ∧ n ≤ 2147483647
  · refine ev_pos (by simpa using h) ?_
    unfold putIs at hl ⊢
    rw [if_pos h] at hl ⊢
    obtain ⟨m, rfl⟩ := Int.eq_ofNat_of_zero_le h.1
    have h5 : (putBytes m).length ≤ 5 := by simpa using hl
    have := spec_PutNum_loop m m [] (Nat.le_refl _) (by omega) (by rw [List.length_nil]; omega)
    simpa using this
  · refine ev_neg (by simpa using h) (ev_some ?_)
    unfold putIs; rw [if_neg h]

theorem spec_PutText_ev (s : ByteArray) (hs : s.size ≤ 70368744177664) : Ev (fun k => spec_PutText.f k s) (putIs (s.size : Int) ++ bytesOf s) := by
  unfold spec_PutText.f
  have h := putIs_len (s.size : Int)
  exact Ev.bind (spec_PutNum_ev _) (ev_pos (by omega) (ev_some rfl))

theorem impl_within_val (a b c : Int) : impl_within.f a b c = some (decide (b ≤ a ∧ a ≤ c)) := by
  unfold impl_within.f
  by_cases h : a ≥ b <;> by_cases h2 : a ≤ c <;> simp [h, h2] <;> omega

theorem impl_PutNum_loop : ∀ (d n : Nat) (x : List Int), n ≤ d → n < 4611686018427387904 → x.length + (putBytes n).length ≤ 1000 → Ev (fun k => impl_PutNum.l0 k (n : Int) x) (x ++ putBytes n) := by
  intro d
  induction d with
  | zero =>
    intro n x hn hb hx
    obtain rfl : n = 0 := by omega
    refine Ev.step (f := fun _ => some (x ++ [0])) (fun k => by simp only [impl_PutNum.l0]; rw [if_neg (by omega), if_pos (by omega)]; rfl) (ev_some (by rw [putBytes]; rfl))
  | succ d ih =>
    intro n x hn hb hx
    by_cases h : n < 128
    · refine Ev.step (f := fun _ => some (x ++ [(n : Int)])) (fun k => by simp only [impl_PutNum.l0]; rw [if_neg (by omega), if_pos (by omega), show (n : Int) % 256 = n by omega]) (ev_some (by rw [putBytes, if_pos h]))
    · obtain ⟨e1, e2⟩ := put_step n hb (by omega)
      rw [putBytes, if_neg h, List.length_cons] at hx
      refine Ev.step (f := fun k => impl_PutNum.l0 k ((n / 128 : Nat) : Int) (x ++ [((n % 128 + 128 : Nat) : Int)])) (fun k => by simp only [impl_PutNum.l0]; rw [if_pos (by omega), if_pos (by omega), e1, e2]) (ev_eq (ih (n / 128) _ (by omega) (by omega) (by simp; omega)) (by rw [putBytes.eq_def n, if_neg h]; simp))
theorem impl_PutNum_ev (n : Int) : Ev (fun k => impl_PutNum.f k n) (putIs n) := by
  unfold impl_PutNum.f
  simp only [impl_within_val, Option.bind_some]
  have hl := putIs_len n
  by_cases h : 0 ≤ n ∧ n ≤ 2147483647
  · refine ev_pos (by simpa using h) ?_
    unfold putIs at hl ⊢
    rw [if_pos h] at hl ⊢
    obtain ⟨m, rfl⟩ := Int.eq_ofNat_of_zero_le h.1
    have h5 : (putBytes m).length ≤ 5 := by simpa using hl
    have := impl_PutNum_loop m m [] (Nat.le_refl _) (by omega) (by rw [List.length_nil]; omega)
    simpa using this
  · refine ev_neg (by simpa using h) (ev_some ?_)
    unfold putIs; rw [if_neg h]

theorem impl_PutText_ev (s : ByteArray) (hs : s.size ≤ 70368744177664) : Ev (fun k => impl_PutText.f k s) (putIs (s.size : Int) ++ bytesOf s) := by
  unfold impl_PutText.f
  have h := putIs_len (s.size : Int)
  exact Ev.bind (impl_PutNum_ev _) (ev_pos (by omega) (ev_some rfl))

theorem FnExactPutText (a0 : ByteArray) (w0 : a0.size ≤ 9223372036854775807) : ∃ k, laws_FnExactPutText.f k a0 = some true := by
  refine Ev.rounds ?_
  unfold laws_FnExactPutText.f
  by_cases c : (a0.size : Int) > 1048576
  · exact ev_pos c (ev_some rfl)
  refine ev_neg c ?_
  have hs : a0.size ≤ 70368744177664 := by omega
  have h1 := spec_PutText_ev a0 hs
  have h2 := impl_PutText_ev a0 hs
  have hp := putIs_len (a0.size : Int)
  have hl : (putIs (a0.size : Int) ++ bytesOf a0).length ≤ 2097152 := by rw [List.length_append, bytesOf_length]; omega
  generalize putIs (a0.size : Int) ++ bytesOf a0 = r at h1 h2 hl
  refine Ev.bind h1 (Ev.bind h2 ?_)
  refine Ev.bind (eqByteS_ev _ _ (by omega)) (ev_pos (by simp) ?_)
  refine Ev.bind (markByteS_ev _ 1 (by omega) (by omega)) ?_
  refine Ev.bind (heldByteS_ev 1 _ (by omega) (by omega)) (ev_neg (by omega) (ev_pos rfl ?_))
  refine Ev.bind h2 ?_
  refine Ev.bind (eqByteS_ev _ _ (by omega)) (ev_pos (by simp) ?_)
  exact Ev.bind (heldByteS_ev 1 _ (by omega) (by omega)) (ev_neg (by omega) (ev_pos rfl (ev_some rfl)))
end
end Go.Proofs.Ytjjhigboelhjgaa.Pure
