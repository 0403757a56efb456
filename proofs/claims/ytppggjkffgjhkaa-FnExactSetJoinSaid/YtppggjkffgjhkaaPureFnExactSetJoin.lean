/- For every two slices the program's SetJoin returns what the reference returns, in new memory, and both slices stay as they were; no condition. -/
import Derived.Test.YtppggjkffgjhkaaPFnExactSetJoinx1
import Derived.Test.YtppggjkffgjhkaaPFnExactSetJoinx2
import Derived.Test.YtppggjkffgjhkaaPFnExactSetJoinx3
namespace Go.Proofs.Ytppggjkffgjhkaa.Pure
open Go.RowKit Go.Proofs.Ytppggjkffgjhkaa.PFnExactSetJoin Go.Proofs.YtppggjkffgjhkaaW.PrintWords Go.Proofs.YtppggjkffgjhkaaW.PrintLast

section
set_option linter.unusedVariables false
set_option linter.unusedSimpArgs false
theorem up1 (n : Nat) (h : n < 4611686018427387904) : wrap64 ((n : Int) + 1) = ((n + 1 : Nat) : Int) := by
  unfold wrap64; omega
theorem up1' (a : Int) (h0 : -4611686018427387904 ≤ a) (h : a < 4611686018427387904) : wrap64 (a + 1) = a + 1 := by
  unfold wrap64; omega
theorem dn1 (a : Int) (h0 : -4611686018427387904 ≤ a) (h : a < 4611686018427387904) : wrap64 (a - 1) = a - 1 := by
  unfold wrap64; omega
theorem wrapI (a : Int) (h0 : -4611686018427387904 ≤ a) (h : a < 4611686018427387904) : wrap64 a = a := by
  unfold wrap64; omega
theorem rd_nat (xs : List Int) (n : Nat) (h : n < xs.length) : rd xs (n : Int) = xs[n] := by
  unfold rd; simp [List.getD_eq_getElem?_getD, h]
theorem ev_eq {α : Type} {g : Nat → Option α} {r s : α} (h : Ev g r) (e : r = s) : Ev g s := e ▸ h
theorem ev_ite {α : Type} {c : Prop} [Decidable c] {g f : Nat → Option α} {r s : α} (hg : c → Ev g r) (hf : ¬ c → Ev f s) : Ev (fun k => if c then g k else f k) (if c then r else s) := by
  by_cases h : c
  · simp only [if_pos h]; exact hg h
  · simp only [if_neg h]; exact hf h
theorem ev_pos {α : Type} {c : Prop} [Decidable c] {g f : Nat → Option α} {r : α} (h : c) (hg : Ev g r) : Ev (fun k => if c then g k else f k) r := by
  simp only [if_pos h]; exact hg
theorem ev_neg {α : Type} {c : Prop} [Decidable c] {g f : Nat → Option α} {r : α} (h : ¬ c) (hf : Ev f r) : Ev (fun k => if c then g k else f k) r := by
  simp only [if_neg h]; exact hf
theorem ev_some {α : Type} {r s : α} (e : r = s) : Ev (fun _ => some r) s := e ▸ Ev.now r
theorem ev_const {α β : Type} {o : Option α} {f : Nat → α → Option β} {a : α} {r : β} (h : o = some a) (k : Ev (fun n => f n a) r) : Ev (fun n => o.bind (f n)) r := by
  subst h; exact k
theorem ev_up {α : Type} {g : Nat → Option α} {r : α} (h : Ev (fun k => g (k + 1)) r) : Ev g r := by
  obtain ⟨K, hK⟩ := h
  refine ⟨K + 1, fun k hk => ?_⟩
  obtain ⟨m, rfl⟩ : ∃ m, k = m + 1 := ⟨k - 1, by omega⟩
  exact hK m (by omega)
theorem wNat (c : Nat) (h : c < 4611686018427387904) : wrap64 (c : Int) = (c : Int) := by unfold wrap64; omega
theorem wAdd (a i : Nat) (h : a + i < 4611686018427387904) : wrap64 ((a : Int) + (i : Int)) = ((a + i : Nat) : Int) := by unfold wrap64; omega
theorem wAdd1 (a i : Nat) (h : a + i < 4611686018427387904) : wrap64 (((a + i : Nat) : Int) + 1) = (a : Int) + ((i + 1 : Nat) : Int) := by unfold wrap64; omega
theorem wSub (a i : Nat) (h : a < 4611686018427387904) (h' : i < 4611686018427387904) : wrap64 ((a : Int) - (i : Int)) = (a : Int) - (i : Int) := by unfold wrap64; omega
theorem tmod128 (c : Nat) : Int.tmod (c : Int) 128 = ((c % 128 : Nat) : Int) := by rw [Int.tmod_eq_emod_of_nonneg (by omega)]; omega
theorem all_drop {α : Type} {P : α → Prop} {l : List α} {i : Nat} (h : i < l.length) : (∀ x ∈ l.drop i, P x) ↔ P l[i] ∧ ∀ x ∈ l.drop (i + 1), P x := by
  rw [List.drop_eq_getElem_cons h, List.forall_mem_cons]

theorem toIntS_loop (l : List Int) (hl : l.length ≤ 35184372088832) : ∀ (d n : Nat) (x : List Int), l.length - n = d → n ≤ l.length → x.length = l.length → x.take n = l.take n → Ev (fun k => laws_toIntS.l0 k l x (n : Int)) l := by
  intro d
  induction d with
  | zero =>
    intro n x hd hn hx ht
    obtain rfl : n = l.length := by omega
    refine Ev.step (f := fun _ => some x) (fun k => by simp only [laws_toIntS.l0]; rw [if_neg (by omega)]) (ev_some ?_)
    rw [List.take_of_length_le (by omega), List.take_of_length_le (by omega)] at ht
    exact ht
  | succ d ih =>
    intro n x hd hn hx ht
    have h1 : n < l.length := by omega
    refine Ev.step (f := fun k => laws_toIntS.l0 k l (x.set n l[n]) ((n + 1 : Nat) : Int)) (fun k => ?_) (ih (n + 1) (x.set n l[n]) (by omega) (by omega) (by simpa using hx) ?_)
    · simp only [laws_toIntS.l0]
      rw [if_pos (by omega), if_pos (by omega), if_pos (by omega), up1 n (by omega), rd_nat l n h1]
      rfl
    · rw [List.take_succ_eq_append_getElem (by simpa [hx] using h1), List.take_succ_eq_append_getElem h1]
      simp [List.take_set_of_le, ht]
theorem toIntS_ev (l : List Int) (hl : l.length ≤ 35184372088832) : Ev (fun k => laws_toIntS.f k l) l := by
  unfold laws_toIntS.f
  refine ev_pos (by omega) (ev_pos (by simpa using hl) ?_)
  exact toIntS_loop l hl l.length 0 _ (by omega) (by omega) (by simp) (by simp)

theorem eqIntS_loop (a b : List Int) (hl : a.length ≤ 35184372088832) (hab : a.length = b.length) : ∀ (d n : Nat), a.length - n = d → n ≤ a.length → Ev (fun k => laws_eqIntS.l0 k a b (n : Int)) (decide (a.drop n = b.drop n)) := by
  intro d
  induction d with
  | zero =>
    intro n hd hn
    obtain rfl : n = a.length := by omega
    refine Ev.step (f := fun _ => some true) (fun k => by simp only [laws_eqIntS.l0]; rw [if_neg (by omega)]) (ev_some ?_)
    rw [List.drop_of_length_le (by omega), List.drop_of_length_le (by omega)]; rfl
  | succ d ih =>
    intro n hd hn
    have h1 : n < a.length := by omega
    have h2 : n < b.length := by omega
    have e : (a.drop n = b.drop n) ↔ (a[n] = b[n] ∧ a.drop (n + 1) = b.drop (n + 1)) := by
      rw [List.drop_eq_getElem_cons h1, List.drop_eq_getElem_cons h2, List.cons.injEq]
    by_cases hc : a[n] = b[n]
    · refine Ev.step (f := fun k => laws_eqIntS.l0 k a b ((n + 1 : Nat) : Int)) (fun k => ?_) (ev_eq (ih (n + 1) (by omega) (by omega)) ?_)
      · simp only [laws_eqIntS.l0]
        rw [if_pos (by omega), if_pos (by omega), if_pos (by omega), rd_nat a n h1, rd_nat b n h2, if_pos hc, up1 n (by omega)]
      · exact decide_eq_decide.mpr (by rw [e]; simp [hc])
    · refine Ev.step (f := fun _ => some false) (fun k => ?_) (ev_some ?_)
      · simp only [laws_eqIntS.l0]
        rw [if_pos (by omega), if_pos (by omega), if_pos (by omega), rd_nat a n h1, rd_nat b n h2, if_neg hc]
      · exact (decide_eq_false (by rw [e]; exact fun h => hc h.1)).symm
theorem eqIntS_ev (a b : List Int) (hl : a.length ≤ 35184372088832) : Ev (fun k => laws_eqIntS.f k a b) (decide (a = b)) := by
  unfold laws_eqIntS.f
  by_cases h : a.length = b.length
  · exact ev_pos (by omega) (eqIntS_loop a b hl h a.length 0 (by omega) (by omega))
  · exact ev_neg (by omega) (ev_some (decide_eq_false (fun e => h (by rw [e]))).symm)

def marks (a : Int) (n : Nat) : List Int := (List.range n).map fun i : Nat => a + (i : Int)
theorem marks_length (a : Int) (n : Nat) : (marks a n).length = n := by simp [marks]
theorem marks_at (a : Int) (n i : Nat) (h : i < (marks a n).length) : (marks a n)[i] = a + (i : Int) := by simp [marks]
theorem markIntS_loop (a : Int) (N : Nat) (h0 : 0 ≤ a) (h1 : a + N < 4611686018427387904) : ∀ (d n : Nat) (x : List Int), N - n = d → n ≤ N → x.length = N → x.take n = (marks a N).take n → Ev (fun k => laws_markIntS.l0 k x (a + n) (n : Int)) (a + N, marks a N) := by
  intro d
  induction d with
  | zero =>
    intro n x hd hn hx ht
    obtain rfl : n = N := by omega
    refine Ev.step (f := fun _ => some (a + n, x)) (fun k => by simp only [laws_markIntS.l0]; rw [if_neg (by omega)]) (ev_some ?_)
    rw [List.take_of_length_le (by omega), List.take_of_length_le (by simp [marks_length])] at ht
    rw [ht]
  | succ d ih =>
    intro n x hd hn hx ht
    have hlt : n < N := by omega
    refine Ev.step (f := fun k => laws_markIntS.l0 k (x.set n (a + n)) (a + (n + 1 : Nat)) ((n + 1 : Nat) : Int)) (fun k => ?_) (ih (n + 1) (x.set n (a + n)) (by omega) (by omega) (by simpa using hx) ?_)
    · simp only [laws_markIntS.l0]
      rw [if_pos (by omega), if_pos (by omega), up1 n (by omega), up1' (a + n) (by omega) (by omega)]
      rw [show a + (n : Int) + 1 = a + ((n + 1 : Nat) : Int) by omega]
      rfl
    · rw [List.take_succ_eq_append_getElem (by simpa [hx] using hlt), List.take_succ_eq_append_getElem (by simpa [marks_length] using hlt)]
      simp [List.take_set_of_le, ht, marks_at]
theorem markIntS_ev (l : List Int) (a : Int) (h0 : 0 ≤ a) (h1 : a + l.length < 4611686018427387904) : Ev (fun k => laws_markIntS.f k l a) (a + l.length, marks a l.length) := by
  unfold laws_markIntS.f
  have := markIntS_loop a l.length h0 h1 l.length 0 l (by omega) (by omega) rfl (by simp)
  simpa using this

theorem heldIntS_loop (a : Int) (N : Nat) (h0 : 0 ≤ a) (h1 : a + N < 4611686018427387904) : ∀ (d n : Nat), N - n = d → n ≤ N → Ev (fun k => laws_heldIntS.l0 k (marks a N) (a + n) (n : Int)) (a + N) := by
  intro d
  have hl := marks_length a N
  induction d with
  | zero =>
    intro n hd hn
    obtain rfl : n = N := by omega
    exact Ev.step (f := fun _ => some (a + n)) (fun k => by simp only [laws_heldIntS.l0]; rw [if_neg (by omega)]) (ev_some rfl)
  | succ d ih =>
    intro n hd hn
    have hlt : n < (marks a N).length := by omega
    refine Ev.step (f := fun k => laws_heldIntS.l0 k (marks a N) (a + (n + 1 : Nat)) ((n + 1 : Nat) : Int)) (fun k => ?_) (ih (n + 1) (by omega) (by omega))
    simp only [laws_heldIntS.l0]
    rw [if_pos (by omega), if_pos (by omega), rd_nat _ n hlt, marks_at, if_pos rfl, up1 n (by omega), up1' (a + n) (by omega) (by omega)]
    rw [show a + (n : Int) + 1 = a + ((n + 1 : Nat) : Int) by omega]
theorem heldIntS_ev (a : Int) (N : Nat) (h0 : 0 ≤ a) (h1 : a + N < 4611686018427387904) : Ev (fun k => laws_heldIntS.f k (marks a N) a) (a + N) := by
  unfold laws_heldIntS.f
  have := heldIntS_loop a N h0 h1 N 0 (by omega) (by omega)
  simpa using this

theorem spec_SetHas_loop (l : List Int) (a : Int) (hl : l.length ≤ 35184372088832) : ∀ (d n : Nat), l.length - n = d → n ≤ l.length → Ev (fun k => spec_SetHas.l0 k l a (n : Int)) (decide (a ∈ l.drop n)) := by
  intro d
  induction d with
  | zero =>
    intro n hd hn
    obtain rfl : n = l.length := by omega
    refine Ev.step (f := fun _ => some false) (fun k => by simp only [spec_SetHas.l0]; rw [if_neg (by omega)]) (ev_some ?_)
    rw [List.drop_of_length_le (by omega)]; simp
  | succ d ih =>
    intro n hd hn
    have h1 : n < l.length := by omega
    have e : a ∈ l.drop n ↔ (a = l[n] ∨ a ∈ l.drop (n + 1)) := by rw [List.drop_eq_getElem_cons h1, List.mem_cons]
    by_cases hc : l[n] = a
    · refine Ev.step (f := fun _ => some true) (fun k => ?_) (ev_some (decide_eq_true (e.mpr (.inl hc.symm))).symm)
      simp only [spec_SetHas.l0]
      rw [if_pos (by omega), if_pos (by omega), rd_nat l n h1, if_pos hc]
    · refine Ev.step (f := fun k => spec_SetHas.l0 k l a ((n + 1 : Nat) : Int)) (fun k => ?_) (ev_eq (ih (n + 1) (by omega) (by omega)) (decide_eq_decide.mpr ?_))
      · simp only [spec_SetHas.l0]
        rw [if_pos (by omega), if_pos (by omega), rd_nat l n h1, if_neg hc, up1 n (by omega)]
      · rw [e]; exact ⟨.inr, fun h => h.resolve_left (fun z => hc z.symm)⟩
theorem spec_SetHas_ev (l : List Int) (a : Int) (hl : l.length ≤ 35184372088832) : Ev (fun k => spec_SetHas.f k l a) (decide (a ∈ l)) := by
  unfold spec_SetHas.f
  exact spec_SetHas_loop l a hl l.length 0 (by omega) (by omega)

def setAddL (l : List Int) (a : Int) : List Int := if a ∈ l then l else l.take (firstGeq l a) ++ a :: l.drop (firstGeq l a)
theorem firstGeq_le (l : List Int) (a : Int) : firstGeq l a ≤ l.length := List.findIdx_le_length
theorem setAddL_len (l : List Int) (a : Int) : (setAddL l a).length ≤ l.length + 1 := by
  have := firstGeq_le l a
  unfold setAddL
  split
  · omega
  · simp; omega
theorem setAddL_ge (l : List Int) (a : Int) : l.length ≤ (setAddL l a).length := by
  have := firstGeq_le l a
  unfold setAddL
  split
  · omega
  · simp; omega
theorem firstGeq_eq (l : List Int) (a : Int) (n : Nat) (hn : n ≤ l.length) (hb : ∀ i (hi : i < n), l[i] < a) (he : ∀ h : n < l.length, a ≤ l[n]) : firstGeq l a = n := by
  unfold firstGeq
  rcases Nat.eq_or_lt_of_le hn with rfl | hlt
  · have h1 : ¬ List.findIdx (fun x => decide (a ≤ x)) l < l.length := by
      rw [List.findIdx_lt_length]
      rintro ⟨x, hx, hp⟩
      obtain ⟨i, hi, rfl⟩ := List.getElem_of_mem hx
      have := hb i hi
      have : a ≤ l[i] := by simpa using hp
      omega
    have := @List.findIdx_le_length _ (fun x => decide (a ≤ x)) l
    omega
  · rw [List.findIdx_eq hlt]
    exact ⟨by simpa using he hlt, fun i hi => by simpa using hb i hi⟩
theorem spec_SetAdd_loop (l : List Int) (a : Int) (hl : l.length ≤ 1099511627776) : ∀ (d n : Nat), l.length - n = d → n ≤ l.length → (∀ i (hi : i < n) (h2 : i < l.length), l[i] < a) → Ev (fun k => spec_SetAdd.l0 k l a (n : Int)) (l.take (firstGeq l a) ++ a :: l.drop (firstGeq l a)) := by
  intro d
  induction d with
  | zero =>
    intro n hd hn hb
    obtain rfl : n = l.length := by omega
    have e : firstGeq l a = l.length := firstGeq_eq l a l.length (Nat.le_refl _) (fun i hi => hb i hi hi) (fun h => absurd h (by omega))
    rw [e]
    refine Ev.step (f := fun _ => some (l.take l.length ++ a :: l.drop l.length)) (fun k => ?_) (ev_some rfl)
    simp only [spec_SetAdd.l0]
    rw [if_neg (by omega)]
    simp only [Option.bind_some, Int.toNat_natCast]
    rw [if_pos (by omega), if_pos (by omega), if_pos (by simp; omega), if_pos (by simp; omega), if_pos (by simp; omega)]
    simp
  | succ d ih =>
    intro n hd hn hb
    have h1 : n < l.length := by omega
    by_cases hc : l[n] < a
    · refine Ev.step (f := fun k => spec_SetAdd.l0 k l a ((n + 1 : Nat) : Int)) (fun k => ?_) (ih (n + 1) (by omega) (by omega) (fun i hi h2 => ?_))
      · simp only [spec_SetAdd.l0]
        rw [if_pos (by omega), if_pos (by omega), rd_nat l n h1, if_pos hc, up1 n (by omega)]
      · rcases Nat.lt_or_ge i n with h | h
        · exact hb i h h2
        · obtain rfl : i = n := by omega
          exact hc
    · have e : firstGeq l a = n := firstGeq_eq l a n hn (fun i hi => hb i hi (by omega)) (fun h => by omega)
      rw [e]
      refine Ev.step (f := fun _ => some (l.take n ++ a :: l.drop n)) (fun k => ?_) (ev_some rfl)
      simp only [spec_SetAdd.l0]
      rw [if_pos (by omega), if_pos (by omega), rd_nat l n h1, if_neg hc]
      simp only [Option.bind_some, Int.toNat_natCast]
      rw [if_pos (by omega), if_pos (by simp; omega), if_pos (by simp; omega), if_pos (by simp; omega)]
      simp
theorem spec_SetAdd_ev (l : List Int) (a : Int) (hl : l.length ≤ 1099511627776) : Ev (fun k => spec_SetAdd.f k l a) (setAddL l a) := by
  unfold spec_SetAdd.f setAddL
  refine Ev.bind (spec_SetHas_ev l a (by omega)) ?_
  by_cases h : a ∈ l
  · rw [if_pos h]
    refine ev_pos (decide_eq_true h) ?_
    simp only [Option.bind_some]
    exact ev_pos (by simp; omega) (ev_some (by simp))
  · rw [if_neg h]
    refine ev_neg (fun z => h (of_decide_eq_true z)) ?_
    exact spec_SetAdd_loop l a hl l.length 0 (by omega) (by omega) (fun i hi => absurd hi (by omega))

def setJoinL (a b : List Int) : List Int := b.foldl setAddL (a.foldl setAddL [])
theorem foldl_len (b : List Int) : ∀ acc : List Int, (b.foldl setAddL acc).length ≤ acc.length + b.length := by
  induction b with
  | nil => intro acc; simp
  | cons x b ih =>
    intro acc
    have h1 := ih (setAddL acc x)
    have h2 := setAddL_len acc x
    rw [List.foldl_cons, List.length_cons]
    omega
theorem setJoinL_len (a b : List Int) : (setJoinL a b).length ≤ a.length + b.length := by
  have h1 := foldl_len b (a.foldl setAddL [])
  have h2 := foldl_len a []
  unfold setJoinL
  simp at h2
  omega
theorem spec_SetJoin_l1 (b : List Int) (hbl : b.length ≤ 4294967296) : ∀ (d n : Nat) (acc : List Int), b.length - n = d → n ≤ b.length → acc.length + d ≤ 1099511627776 → Ev (fun k => spec_SetJoin.l1 k b acc (n : Int)) ((b.drop n).foldl setAddL acc) := by
  intro d
  induction d with
  | zero =>
    intro n acc hd hn hl
    refine Ev.step (f := fun _ => some acc) (fun k => by simp only [spec_SetJoin.l1]; rw [if_neg (by omega)]) (ev_some ?_)
    rw [List.drop_of_length_le (by omega)]; rfl
  | succ d ih =>
    intro n acc hd hn hl
    have h1 : n < b.length := by omega
    have h2 := setAddL_len acc b[n]
    refine Ev.step (f := fun k => (spec_SetAdd.f k acc b[n]).bind fun t => spec_SetJoin.l1 k b t ((n + 1 : Nat) : Int)) (fun k => by simp only [spec_SetJoin.l1]; rw [if_pos (by omega), if_pos (by omega), rd_nat b n h1, up1 n (by omega)]) ?_
    rw [List.drop_eq_getElem_cons h1, List.foldl_cons]
    exact Ev.bind (spec_SetAdd_ev acc b[n] (by omega)) (ih (n + 1) _ (by omega) (by omega) (by omega))
theorem spec_SetJoin_l0 (a b : List Int) (hal : a.length ≤ 4294967296) (hbl : b.length ≤ 4294967296) : ∀ (d n : Nat) (acc : List Int), a.length - n = d → n ≤ a.length → acc.length + d + b.length ≤ 1099511627776 → Ev (fun k => spec_SetJoin.l0 k a b acc (n : Int)) (b.foldl setAddL ((a.drop n).foldl setAddL acc)) := by
  intro d
  induction d with
  | zero =>
    intro n acc hd hn hl
    refine Ev.step (f := fun k => spec_SetJoin.l1 k b acc 0) (fun k => by simp only [spec_SetJoin.l0]; rw [if_neg (by omega)]) ?_
    rw [List.drop_of_length_le (by omega)]
    exact spec_SetJoin_l1 b hbl b.length 0 acc (by omega) (by omega) (by omega)
  | succ d ih =>
    intro n acc hd hn hl
    have h1 : n < a.length := by omega
    have h2 := setAddL_len acc a[n]
    refine Ev.step (f := fun k => (spec_SetAdd.f k acc a[n]).bind fun t => spec_SetJoin.l0 k a b t ((n + 1 : Nat) : Int)) (fun k => by simp only [spec_SetJoin.l0]; rw [if_pos (by omega), if_pos (by omega), rd_nat a n h1, up1 n (by omega)]) ?_
    rw [List.drop_eq_getElem_cons h1, List.foldl_cons]
    exact Ev.bind (spec_SetAdd_ev acc a[n] (by omega)) (ih (n + 1) _ (by omega) (by omega) (by omega))
theorem spec_SetJoin_ev (a b : List Int) (ha : a.length ≤ 4294967296) (hb : b.length ≤ 4294967296) : Ev (fun k => spec_SetJoin.f k a b) (setJoinL a b) := by
  unfold spec_SetJoin.f setJoinL
  exact spec_SetJoin_l0 a b ha hb a.length 0 [] (by omega) (by omega) (by simp; omega)

theorem slices_Index_loop (l : List Int) (a : Int) (hl : l.length ≤ 35184372088832) : ∀ (d n : Nat), l.length - n = d → n ≤ l.length → ∃ r : Int, Ev (fun k => slices_Index_int_int.l0 k l a (l.length : Int) (n : Int)) r ∧ (0 ≤ r ↔ a ∈ l.drop n) := by
  intro d
  induction d with
  | zero =>
    intro n hd hn
    obtain rfl : n = l.length := by omega
    refine ⟨-1, Ev.step (f := fun _ => some (-1)) (fun k => by simp only [slices_Index_int_int.l0]; rw [if_neg (by omega)]) (ev_some rfl), ?_⟩
    rw [List.drop_of_length_le (by omega)]; simp
  | succ d ih =>
    intro n hd hn
    have h1 : n < l.length := by omega
    have e : a ∈ l.drop n ↔ (a = l[n] ∨ a ∈ l.drop (n + 1)) := by rw [List.drop_eq_getElem_cons h1, List.mem_cons]
    by_cases hc : a = l[n]
    · refine ⟨n, Ev.step (f := fun _ => some (n : Int)) (fun k => ?_) (ev_some rfl), ?_⟩
      · simp only [slices_Index_int_int.l0]
        rw [if_pos (by omega), if_pos (by omega), if_pos (by omega), rd_nat l n h1, if_pos hc]
      · exact ⟨fun _ => e.mpr (.inl hc), fun _ => by omega⟩
    · obtain ⟨r, hr, hi⟩ := ih (n + 1) (by omega) (by omega)
      refine ⟨r, Ev.step (f := fun k => slices_Index_int_int.l0 k l a (l.length : Int) ((n + 1 : Nat) : Int)) (fun k => ?_) hr, ?_⟩
      · simp only [slices_Index_int_int.l0]
        rw [if_pos (by omega), if_pos (by omega), if_pos (by omega), rd_nat l n h1, if_neg hc, up1 n (by omega)]
      · rw [hi, e]; exact ⟨.inr, fun h => h.resolve_left hc⟩

theorem slices_Contains_ev (l : List Int) (a : Int) (hl : l.length ≤ 35184372088832) : Ev (fun k => slices_Contains_int_int.f k l a) (decide (a ∈ l)) := by
  obtain ⟨r, hr, hi⟩ := slices_Index_loop l a hl l.length 0 (by omega) (by omega)
  unfold slices_Contains_int_int.f slices_Index_int_int.f
  refine Ev.bind hr (ev_some (decide_eq_decide.mpr ?_))
  simpa using hi

theorem impl_SetHas_ev (l : List Int) (a : Int) (hl : l.length ≤ 35184372088832) : Ev (fun k => impl_SetHas.f k l a) (decide (a ∈ l)) := by
  unfold impl_SetHas.f
  exact Ev.bind (slices_Contains_ev l a hl) (ev_some rfl)

theorem impl_SetAdd_ev (l : List Int) (a : Int) (hl : l.length ≤ 1099511627776) : Ev (fun k => impl_SetAdd.f k l a) (setAddL l a) := by
  unfold impl_SetAdd.f setAddL
  refine Ev.bind (impl_SetHas_ev l a (by omega)) ?_
  by_cases h : a ∈ l
  · rw [if_pos h]
    refine ev_pos (decide_eq_true h) ?_
    unfold impl_copyInts.f
    exact ev_pos (by simp; omega) (ev_some (by simp))
  · rw [if_neg h]
    exact ev_neg (fun z => h (of_decide_eq_true z)) (ev_pos (by omega) (ev_some rfl))

theorem impl_SetJoin_l1 (b : List Int) (hbl : b.length ≤ 4294967296) : ∀ (d n : Nat) (acc : List Int), b.length - n = d → n ≤ b.length → acc.length + d ≤ 1099511627776 → Ev (fun k => impl_SetJoin.l1 k acc b (b.length : Int) (n : Int)) ((b.drop n).foldl setAddL acc) := by
  intro d
  induction d with
  | zero =>
    intro n acc hd hn hl
    refine Ev.step (f := fun _ => some acc) (fun k => by simp only [impl_SetJoin.l1]; rw [if_neg (by omega)]) (ev_some ?_)
    rw [List.drop_of_length_le (by omega)]; rfl
  | succ d ih =>
    intro n acc hd hn hl
    have h1 : n < b.length := by omega
    have h2 := setAddL_len acc b[n]
    refine Ev.step (f := fun k => (impl_SetAdd.f k acc b[n]).bind fun t => impl_SetJoin.l1 k t b (b.length : Int) ((n + 1 : Nat) : Int)) (fun k => by simp only [impl_SetJoin.l1]; rw [if_pos (by omega), if_pos (by omega), if_pos (by omega), rd_nat b n h1, up1 n (by omega)]) ?_
    rw [List.drop_eq_getElem_cons h1, List.foldl_cons]
    exact Ev.bind (impl_SetAdd_ev acc b[n] (by omega)) (ih (n + 1) _ (by omega) (by omega) (by omega))
theorem impl_SetJoin_l0 (a b : List Int) (hal : a.length ≤ 4294967296) (hbl : b.length ≤ 4294967296) : ∀ (d n : Nat) (acc : List Int), a.length - n = d → n ≤ a.length → acc.length + d + b.length ≤ 1099511627776 → Ev (fun k => impl_SetJoin.l0 k b acc a (a.length : Int) (n : Int)) (b.foldl setAddL ((a.drop n).foldl setAddL acc)) := by
  intro d
  induction d with
  | zero =>
    intro n acc hd hn hl
    refine Ev.step (f := fun k => impl_SetJoin.l1 k acc b (b.length : Int) 0) (fun k => by simp only [impl_SetJoin.l0]; rw [if_neg (by omega)]) ?_
    rw [List.drop_of_length_le (by omega)]
    exact impl_SetJoin_l1 b hbl b.length 0 acc (by omega) (by omega) (by omega)
  | succ d ih =>
    intro n acc hd hn hl
    have h1 : n < a.length := by omega
    have h2 := setAddL_len acc a[n]
    refine Ev.step (f := fun k => (impl_SetAdd.f k acc a[n]).bind fun t => impl_SetJoin.l0 k b t a (a.length : Int) ((n + 1 : Nat) : Int)) (fun k => by simp only [impl_SetJoin.l0]; rw [if_pos (by omega), if_pos (by omega), if_pos (by omega), rd_nat a n h1, up1 n (by omega)]) ?_
    rw [List.drop_eq_getElem_cons h1, List.foldl_cons]
    exact Ev.bind (impl_SetAdd_ev acc a[n] (by omega)) (ih (n + 1) _ (by omega) (by omega) (by omega))
theorem impl_SetJoin_ev (a b : List Int) (ha : a.length ≤ 4294967296) (hb : b.length ≤ 4294967296) : Ev (fun k => impl_SetJoin.f k a b) (setJoinL a b) := by
  unfold impl_SetJoin.f setJoinL
  exact impl_SetJoin_l0 a b ha hb a.length 0 [] (by omega) (by omega) (by simp; omega)

theorem FnExactSetJoin (a b : List Int) (hm : a.length ≤ maxLen) (hw : ∀ x ∈ a, (Lit.int .i64 x).wf = true) (hm' : b.length ≤ maxLen) (hw' : ∀ x ∈ b, (Lit.int .i64 x).wf = true) : ∃ k, laws_FnExactSetJoin.f k a b = some true := by
  refine Ev.rounds ?_
  unfold laws_FnExactSetJoin.f
  by_cases hl : (a.length : Int) > 1048576
  · exact ev_pos hl (ev_some rfl)
  refine ev_neg hl ?_
  by_cases hl' : (b.length : Int) > 1048576
  · exact ev_pos hl' (ev_some rfl)
  refine ev_neg hl' ?_
  have ha : a.length ≤ 35184372088832 := by omega
  have hb : b.length ≤ 35184372088832 := by omega
  have hs := setJoinL_len a b
  have hh := heldIntS_ev 1 (setJoinL a b).length (by omega) (by omega)
  have hS := spec_SetJoin_ev a b (by omega) (by omega)
  have hI := impl_SetJoin_ev a b (by omega) (by omega)
  have hE := eqIntS_ev (setJoinL a b) (setJoinL a b) (by omega)
  have hj : Ev (fun k => laws_FnExactSetJoin.j0 k a b (setJoinL a b) (setJoinL a b) false) true := by
    refine ev_up ?_
    simp only [laws_FnExactSetJoin.j0]
    refine ev_neg (by decide) ?_
    refine Ev.bind (markIntS_ev _ 1 (by omega) (by omega)) ?_
    refine Ev.bind hh (ev_neg (by omega) (ev_pos rfl ?_))
    refine Ev.bind (toIntS_ev a ha) (Ev.bind (toIntS_ev b hb) (Ev.bind hI ?_))
    refine Ev.bind hE (ev_pos (by simp) ?_)
    exact Ev.bind hh (ev_neg (by omega) (ev_pos rfl (ev_some rfl)))
  refine Ev.bind (toIntS_ev a ha) (Ev.bind (toIntS_ev b hb) (Ev.bind hS ?_))
  refine Ev.bind (toIntS_ev a ha) (Ev.bind (toIntS_ev b hb) (Ev.bind hI ?_))
  refine Ev.bind hE (ev_pos (by simp) ?_)
  refine Ev.bind (toIntS_ev a ha) (Ev.bind (eqIntS_ev a a ha) (ev_pos (by simp) ?_))
  refine Ev.bind (toIntS_ev b hb) (Ev.bind (eqIntS_ev b b hb) (ev_pos (by simp) ?_))
  refine Ev.bind (markIntS_ev a 1 (by omega) (by omega)) ?_
  refine Ev.bind (markIntS_ev b _ (by omega) (by omega)) (ev_neg (by omega) ?_)
  refine Ev.bind hE ?_
  rw [show (!decide (setJoinL a b = setJoinL a b)) = false by simp]
  exact hj
end
end Go.Proofs.Ytppggjkffgjhkaa.Pure
