/- For every two slices the program's Common tells what the reference tells, and both slices stay as they were; no condition. -/
import Derived.Test.YtppggjkffgjhkaaPFnExactCommonx1
import Derived.Test.YtppggjkffgjhkaaPFnExactCommonx2
namespace Go.Proofs.Ytppggjkffgjhkaa.Pure
open Go.RowKit Go.Proofs.Ytppggjkffgjhkaa.PFnExactCommon Go.Proofs.YtppggjkffgjhkaaW.PrintWords Go.Proofs.YtppggjkffgjhkaaW.PrintLast

section
set_option linter.unusedVariables false
set_option linter.unusedSimpArgs false
theorem up1 (n : Nat) (h : n < 4611686018427387904) : wrap64 ((n : Int) + 1) = ((n + 1 : Nat) : Int) := by
  unfold wrap64; omega
theorem up1' (a : Int) (h0 : -4611686018427387904 ≤ a) (h : a < 4611686018427387904) : wrap64 (a + 1) = a + 1 := by
  unfold wrap64; omega
theorem dn1 (a : Int) (h0 : -4611686018427387904 ≤ a) (h : a < 4611686018427387904) : wrap64 (a - 1) = a - 1 := by
  unfold wrap64; omega
theorem wrapI (a : Int) (h0 : -4611686018427387904 ≤ a) (h : a < 4611686018427387904) : wrap64 a = a := by
  unfold wrap64; omega
theorem rd_nat (xs : List Int) (n : Nat) (h : n < xs.length) : rd xs (n : Int) = xs[n] := by
  unfold rd; simp [List.getD_eq_getElem?_getD, h]
theorem ev_eq {α : Type} {g : Nat → Option α} {r s : α} (h : Ev g r) (e : r = s) : Ev g s := e ▸ h
theorem ev_ite {α : Type} {c : Prop} [Decidable c] {g f : Nat → Option α} {r s : α} (hg : c → Ev g r) (hf : ¬ c → Ev f s) : Ev (fun k => if c then g k else f k) (if c then r else s) := by
  by_cases h : c
  · simp only [if_pos h]; exact hg h
  · simp only [if_neg h]; exact hf h
theorem ev_pos {α : Type} {c : Prop} [Decidable c] {g f : Nat → Option α} {r : α} (h : c) (hg : Ev g r) : Ev (fun k => if c then g k else f k) r := by
  simp only [if_pos h]; exact hg
theorem ev_neg {α : Type} {c : Prop} [Decidable c] {g f : Nat → Option α} {r : α} (h : ¬ c) (hf : Ev f r) : Ev (fun k => if c then g k else f k) r := by
  simp only [if_neg h]; exact hf
theorem ev_some {α : Type} {r s : α} (e : r = s) : Ev (fun _ => some r) s := e ▸ Ev.now r
theorem ev_const {α β : Type} {o : Option α} {f : Nat → α → Option β} {a : α} {r : β} (h : o = some a) (k : Ev (fun n => f n a) r) : Ev (fun n => o.bind (f n)) r := by
  subst h; exact k
theorem ev_up {α : Type} {g : Nat → Option α} {r : α} (h : Ev (fun k => g (k + 1)) r) : Ev g r := by
  obtain ⟨K, hK⟩ := h
  refine ⟨K + 1, fun k hk => ?_⟩
  obtain ⟨m, rfl⟩ : ∃ m, k = m + 1 := ⟨k - 1, by omega⟩
  exact hK m (by omega)

theorem toIntS_loop (l : List Int) (hl : l.length ≤ 35184372088832) : ∀ (d n : Nat) (x : List Int), l.length - n = d → n ≤ l.length → x.length = l.length → x.take n = l.take n → Ev (fun k => laws_toIntS.l0 k l x (n : Int)) l := by
  intro d
  induction d with
  | zero =>
    intro n x hd hn hx ht
    obtain rfl : n = l.length := by omega
    refine Ev.step (f := fun _ => some x) (fun k => by simp only [laws_toIntS.l0]; rw [if_neg (by omega)]) (ev_some ?_)
    rw [List.take_of_length_le (by omega), List.take_of_length_le (by omega)] at ht
    exact ht
  | succ d ih =>
    intro n x hd hn hx ht
    have h1 : n < l.length := by omega
    refine Ev.step (f := fun k => laws_toIntS.l0 k l (x.set n l[n]) ((n + 1 : Nat) : Int)) (fun k => ?_) (ih (n + 1) (x.set n l[n]) (by omega) (by omega) (by simpa using hx) ?_)
    · simp only [laws_toIntS.l0]
      rw [if_pos (by omega), if_pos (by omega), if_pos (by omega), up1 n (by omega), rd_nat l n h1]
      rfl
    · rw [List.take_succ_eq_append_getElem (by simpa [hx] using h1), List.take_succ_eq_append_getElem h1]
      simp [List.take_set_of_le, ht]
theorem toIntS_ev (l : List Int) (hl : l.length ≤ 35184372088832) : Ev (fun k => laws_toIntS.f k l) l := by
  unfold laws_toIntS.f
  refine ev_pos (by omega) (ev_pos (by simpa using hl) ?_)
  exact toIntS_loop l hl l.length 0 _ (by omega) (by omega) (by simp) (by simp)

theorem eqIntS_loop (a b : List Int) (hl : a.length ≤ 35184372088832) (hab : a.length = b.length) : ∀ (d n : Nat), a.length - n = d → n ≤ a.length → Ev (fun k => laws_eqIntS.l0 k a b (n : Int)) (decide (a.drop n = b.drop n)) := by
  intro d
  induction d with
  | zero =>
    intro n hd hn
    obtain rfl : n = a.length := by omega
    refine Ev.step (f := fun _ => some true) (fun k => by simp only [laws_eqIntS.l0]; rw [if_neg (by omega)]) (ev_some ?_)
    rw [List.drop_of_length_le (by omega), List.drop_of_length_le (by omega)]; rfl
  | succ d ih =>
    intro n hd hn
    have h1 : n < a.length := by omega
    have h2 : n < b.length := by omega
    have e : (a.drop n = b.drop n) ↔ (a[n] = b[n] ∧ a.drop (n + 1) = b.drop (n + 1)) := by
      rw [List.drop_eq_getElem_cons h1, List.drop_eq_getElem_cons h2, List.cons.injEq]
    by_cases hc : a[n] = b[n]
    · refine Ev.step (f := fun k => laws_eqIntS.l0 k a b ((n + 1 : Nat) : Int)) (fun k => ?_) (ev_eq (ih (n + 1) (by omega) (by omega)) ?_)
      · simp only [laws_eqIntS.l0]
        rw [if_pos (by omega), if_pos (by omega), if_pos (by omega), rd_nat a n h1, rd_nat b n h2, if_pos hc, up1 n (by omega)]
      · exact decide_eq_decide.mpr (by rw [e]; simp [hc])
    · refine Ev.step (f := fun _ => some false) (fun k => ?_) (ev_some ?_)
      · simp only [laws_eqIntS.l0]
        rw [if_pos (by omega), if_pos (by omega), if_pos (by omega), rd_nat a n h1, rd_nat b n h2, if_neg hc]
      · exact (decide_eq_false (by rw [e]; exact fun h => hc h.1)).symm
theorem eqIntS_ev (a b : List Int) (hl : a.length ≤ 35184372088832) : Ev (fun k => laws_eqIntS.f k a b) (decide (a = b)) := by
  unfold laws_eqIntS.f
  by_cases h : a.length = b.length
  · exact ev_pos (by omega) (eqIntS_loop a b hl h a.length 0 (by omega) (by omega))
  · exact ev_neg (by omega) (ev_some (decide_eq_false (fun e => h (by rw [e]))).symm)

theorem spec_SetHas_loop (l : List Int) (a : Int) (hl : l.length ≤ 35184372088832) : ∀ (d n : Nat), l.length - n = d → n ≤ l.length → Ev (fun k => spec_SetHas.l0 k l a (n : Int)) (decide (a ∈ l.drop n)) := by
  intro d
  induction d with
  | zero =>
    intro n hd hn
    obtain rfl : n = l.length := by omega
    refine Ev.step (f := fun _ => some false) (fun k => by simp only [spec_SetHas.l0]; rw [if_neg (by omega)]) (ev_some ?_)
    rw [List.drop_of_length_le (by omega)]; simp
  | succ d ih =>
    intro n hd hn
    have h1 : n < l.length := by omega
    have e : a ∈ l.drop n ↔ (a = l[n] ∨ a ∈ l.drop (n + 1)) := by rw [List.drop_eq_getElem_cons h1, List.mem_cons]
    by_cases hc : l[n] = a
    · refine Ev.step (f := fun _ => some true) (fun k => ?_) (ev_some (decide_eq_true (e.mpr (.inl hc.symm))).symm)
      simp only [spec_SetHas.l0]
      rw [if_pos (by omega), if_pos (by omega), rd_nat l n h1, if_pos hc]
    · refine Ev.step (f := fun k => spec_SetHas.l0 k l a ((n + 1 : Nat) : Int)) (fun k => ?_) (ev_eq (ih (n + 1) (by omega) (by omega)) (decide_eq_decide.mpr ?_))
      · simp only [spec_SetHas.l0]
        rw [if_pos (by omega), if_pos (by omega), rd_nat l n h1, if_neg hc, up1 n (by omega)]
      · rw [e]; exact ⟨.inr, fun h => h.resolve_left (fun z => hc z.symm)⟩
theorem spec_SetHas_ev (l : List Int) (a : Int) (hl : l.length ≤ 35184372088832) : Ev (fun k => spec_SetHas.f k l a) (decide (a ∈ l)) := by
  unfold spec_SetHas.f
  exact spec_SetHas_loop l a hl l.length 0 (by omega) (by omega)

def commonN (a b : List Int) : Nat := (a.filter (fun x => decide (x ∈ b))).length
theorem commonN_le (a b : List Int) : commonN a b ≤ a.length := List.length_filter_le ..
theorem commonN_step (a b : List Int) (n : Nat) (h : n < a.length) : commonN (a.take (n + 1)) b = commonN (a.take n) b + if a[n] ∈ b then 1 else 0 := by
  unfold commonN
  rw [List.take_succ_eq_append_getElem h, List.filter_append, List.length_append]
  by_cases c : a[n] ∈ b <;> simp [List.filter_cons, c]
theorem spec_l1Bit_val (b : Bool) : spec_l1Bit.f b = some (if b = true then 1 else 0) := by cases b <;> rfl
theorem spec_Common_loop (a b : List Int) (ha : a.length ≤ 35184372088832) (hb : b.length ≤ 35184372088832) : ∀ (d n : Nat), a.length - n = d → n ≤ a.length → Ev (fun k => spec_Common.l0 k a b (commonN (a.take n) b : Int) (n : Int)) (commonN a b : Int) := by
  intro d
  induction d with
  | zero =>
    intro n hd hn
    obtain rfl : n = a.length := by omega
    refine Ev.step (f := fun _ => some (commonN (a.take a.length) b : Int)) (fun k => by simp only [spec_Common.l0]; rw [if_neg (by omega)]) (ev_some ?_)
    rw [List.take_of_length_le (by omega)]
  | succ d ih =>
    intro n hd hn
    have h1 : n < a.length := by omega
    have hc := commonN_le (a.take n) b
    rw [List.length_take] at hc
    have rest := ih (n + 1) (by omega) (by omega)
    rw [commonN_step a b n h1] at rest
    refine Ev.step (f := fun k => (spec_SetHas.f k b a[n]).bind fun t => (spec_l1Bit.f t).bind fun u => spec_Common.l0 k a b (wrap64 ((commonN (a.take n) b : Int) + u)) ((n + 1 : Nat) : Int)) (fun k => by simp only [spec_Common.l0]; rw [if_pos (by omega), if_pos (by omega), rd_nat a n h1, up1 n (by omega)]) ?_
    refine Ev.bind (spec_SetHas_ev b a[n] hb) (ev_const (spec_l1Bit_val _) ?_)
    rw [show wrap64 ((commonN (a.take n) b : Int) + if decide (a[n] ∈ b) = true then 1 else 0) = ((commonN (a.take n) b + if a[n] ∈ b then 1 else 0 : Nat) : Int) by by_cases c : a[n] ∈ b <;> simp only [c, decide_true, decide_false, if_true, if_false, Bool.false_eq_true] <;> unfold wrap64 <;> omega]
    exact rest
theorem spec_Common_ev (a b : List Int) (ha : a.length ≤ 35184372088832) (hb : b.length ≤ 35184372088832) : Ev (fun k => spec_Common.f k a b) (commonN a b : Int) := by
  unfold spec_Common.f
  have := spec_Common_loop a b ha hb a.length 0 (by omega) (by omega)
  simpa [commonN] using this

theorem slices_Index_loop (l : List Int) (a : Int) (hl : l.length ≤ 35184372088832) : ∀ (d n : Nat), l.length - n = d → n ≤ l.length → ∃ r : Int, Ev (fun k => slices_Index_int_int.l0 k l a (l.length : Int) (n : Int)) r ∧ (0 ≤ r ↔ a ∈ l.drop n) := by
  intro d
  induction d with
  | zero =>
    intro n hd hn
    obtain rfl : n = l.length := by omega
    refine ⟨-1, Ev.step (f := fun _ => some (-1)) (fun k => by simp only [slices_Index_int_int.l0]; rw [if_neg (by omega)]) (ev_some rfl), ?_⟩
    rw [List.drop_of_length_le (by omega)]; simp
  | succ d ih =>
    intro n hd hn
    have h1 : n < l.length := by omega
    have e : a ∈ l.drop n ↔ (a = l[n] ∨ a ∈ l.drop (n + 1)) := by rw [List.drop_eq_getElem_cons h1, List.mem_cons]
    by_cases hc : a = l[n]
    · refine ⟨n, Ev.step (f := fun _ => some (n : Int)) (fun k => ?_) (ev_some rfl), ?_⟩
      · simp only [slices_Index_int_int.l0]
        rw [if_pos (by omega), if_pos (by omega), if_pos (by omega), rd_nat l n h1, if_pos hc]
      · exact ⟨fun _ => e.mpr (.inl hc), fun _ => by omega⟩
    · obtain ⟨r, hr, hi⟩ := ih (n + 1) (by omega) (by omega)
      refine ⟨r, Ev.step (f := fun k => slices_Index_int_int.l0 k l a (l.length : Int) ((n + 1 : Nat) : Int)) (fun k => ?_) hr, ?_⟩
      · simp only [slices_Index_int_int.l0]
        rw [if_pos (by omega), if_pos (by omega), if_pos (by omega), rd_nat l n h1, if_neg hc, up1 n (by omega)]
      · rw [hi, e]; exact ⟨.inr, fun h => h.resolve_left hc⟩

theorem slices_Contains_ev (l : List Int) (a : Int) (hl : l.length ≤ 35184372088832) : Ev (fun k => slices_Contains_int_int.f k l a) (decide (a ∈ l)) := by
  obtain ⟨r, hr, hi⟩ := slices_Index_loop l a hl l.length 0 (by omega) (by omega)
  unfold slices_Contains_int_int.f slices_Index_int_int.f
  refine Ev.bind hr (ev_some (decide_eq_decide.mpr ?_))
  simpa using hi

theorem impl_SetHas_ev (l : List Int) (a : Int) (hl : l.length ≤ 35184372088832) : Ev (fun k => impl_SetHas.f k l a) (decide (a ∈ l)) := by
  unfold impl_SetHas.f
  exact Ev.bind (slices_Contains_ev l a hl) (ev_some rfl)

theorem impl_Common_loop (a b : List Int) (ha : a.length ≤ 35184372088832) (hb : b.length ≤ 35184372088832) : ∀ (d n : Nat), a.length - n = d → n ≤ a.length → Ev (fun k => impl_Common.l0 k b (commonN (a.take n) b : Int) a (a.length : Int) (n : Int)) (commonN a b : Int) := by
  intro d
  induction d with
  | zero =>
    intro n hd hn
    obtain rfl : n = a.length := by omega
    refine Ev.step (f := fun _ => some (commonN (a.take a.length) b : Int)) (fun k => by simp only [impl_Common.l0]; rw [if_neg (by omega)]) (ev_some ?_)
    rw [List.take_of_length_le (by omega)]
  | succ d ih =>
    intro n hd hn
    have h1 : n < a.length := by omega
    have hc := commonN_le (a.take n) b
    rw [List.length_take] at hc
    have rest := ih (n + 1) (by omega) (by omega)
    rw [commonN_step a b n h1] at rest
    refine Ev.step (f := fun k => (impl_SetHas.f k b a[n]).bind fun t => if t = true then impl_Common.l0 k b (wrap64 ((commonN (a.take n) b : Int) + 1)) a (a.length : Int) ((n + 1 : Nat) : Int) else impl_Common.l0 k b (commonN (a.take n) b : Int) a (a.length : Int) ((n + 1 : Nat) : Int)) (fun k => by simp only [impl_Common.l0]; rw [if_pos (by omega), if_pos (by omega), if_pos (by omega), rd_nat a n h1, up1 n (by omega)]) ?_
    refine Ev.bind (impl_SetHas_ev b a[n] hb) ?_
    by_cases c : a[n] ∈ b
    · refine ev_pos (by simpa using c) ?_
      rw [up1 _ (by omega)]
      rw [if_pos c] at rest
      exact rest
    · refine ev_neg (by simpa using c) ?_
      rw [if_neg c, Nat.add_zero] at rest
      exact rest
theorem impl_Common_ev (a b : List Int) (ha : a.length ≤ 35184372088832) (hb : b.length ≤ 35184372088832) : Ev (fun k => impl_Common.f k a b) (commonN a b : Int) := by
  unfold impl_Common.f
  have := impl_Common_loop a b ha hb a.length 0 (by omega) (by omega)
  simpa [commonN] using this

theorem FnExactCommon (a b : List Int) (hm : a.length ≤ maxLen) (hw : ∀ x ∈ a, (Lit.int .i64 x).wf = true) (hm' : b.length ≤ maxLen) (hw' : ∀ x ∈ b, (Lit.int .i64 x).wf = true) : ∃ k, laws_FnExactCommon.f k a b = some true := by
  refine Ev.rounds ?_
  unfold laws_FnExactCommon.f
  by_cases hl : (a.length : Int) > 1048576
  · exact ev_pos hl (ev_some rfl)
  refine ev_neg hl ?_
  by_cases hl' : (b.length : Int) > 1048576
  · exact ev_pos hl' (ev_some rfl)
  refine ev_neg hl' ?_
  have ha : a.length ≤ 35184372088832 := by omega
  have hb : b.length ≤ 35184372088832 := by omega
  refine Ev.bind (toIntS_ev a ha) (Ev.bind (toIntS_ev b hb) ?_)
  refine Ev.bind (spec_Common_ev a b ha hb) ?_
  refine Ev.bind (toIntS_ev a ha) (Ev.bind (toIntS_ev b hb) ?_)
  refine Ev.bind (impl_Common_ev a b ha hb) ?_
  refine ev_pos rfl ?_
  refine Ev.bind (toIntS_ev a ha) ?_
  refine Ev.bind (eqIntS_ev a a ha) (ev_pos (by simp) ?_)
  refine Ev.bind (toIntS_ev b hb) ?_
  refine Ev.bind (eqIntS_ev b b hb) (ev_pos (by simp) (ev_some rfl))
end
end Go.Proofs.Ytppggjkffgjhkaa.Pure
