/- For every code the law FnSets tells true: what is joined of drawn sets has each of both once, and what they have in common is told from both sides; no condition. -/
import Derived.Test.YtppggjkffgjhkaaPFnSetsx1
import Derived.Test.YtppggjkffgjhkaaPFnSetsx2
import Derived.Test.YtppggjkffgjhkaaPFnSetsx3
import Derived.Test.YtppggjkffgjhkaaPFnSetsx4
import Derived.Test.YtppggjkffgjhkaaPFnSetsx5
namespace Go.Proofs.Ytppggjkffgjhkaa.Pure
open Go.RowKit Go.Proofs.Ytppggjkffgjhkaa.PFnSets Go.Proofs.YtppggjkffgjhkaaW.PrintWords Go.Proofs.YtppggjkffgjhkaaW.PrintLast

section
set_option linter.unusedVariables false
set_option linter.unusedSimpArgs false
theorem up1 (n : Nat) (h : n < 4611686018427387904) : wrap64 ((n : Int) + 1) = ((n + 1 : Nat) : Int) := by
  unfold wrap64; omega
theorem up1' (a : Int) (h0 : -4611686018427387904 ≤ a) (h : a < 4611686018427387904) : wrap64 (a + 1) = a + 1 := by
  unfold wrap64; omega
theorem dn1 (a : Int) (h0 : -4611686018427387904 ≤ a) (h : a < 4611686018427387904) : wrap64 (a - 1) = a - 1 := by
  unfold wrap64; omega
theorem wrapI (a : Int) (h0 : -4611686018427387904 ≤ a) (h : a < 4611686018427387904) : wrap64 a = a := by
  unfold wrap64; omega
theorem rd_nat (xs : List Int) (n : Nat) (h : n < xs.length) : rd xs (n : Int) = xs[n] := by
  unfold rd; simp [List.getD_eq_getElem?_getD, h]
theorem ev_eq {α : Type} {g : Nat → Option α} {r s : α} (h : Ev g r) (e : r = s) : Ev g s := e ▸ h
theorem ev_ite {α : Type} {c : Prop} [Decidable c] {g f : Nat → Option α} {r s : α} (hg : c → Ev g r) (hf : ¬ c → Ev f s) : Ev (fun k => if c then g k else f k) (if c then r else s) := by
  by_cases h : c
  · simp only [if_pos h]; exact hg h
  · simp only [if_neg h]; exact hf h
theorem ev_pos {α : Type} {c : Prop} [Decidable c] {g f : Nat → Option α} {r : α} (h : c) (hg : Ev g r) : Ev (fun k => if c then g k else f k) r := by
  simp only [if_pos h]; exact hg
theorem ev_neg {α : Type} {c : Prop} [Decidable c] {g f : Nat → Option α} {r : α} (h : ¬ c) (hf : Ev f r) : Ev (fun k => if c then g k else f k) r := by
  simp only [if_neg h]; exact hf
theorem ev_some {α : Type} {r s : α} (e : r = s) : Ev (fun _ => some r) s := e ▸ Ev.now r
theorem ev_const {α β : Type} {o : Option α} {f : Nat → α → Option β} {a : α} {r : β} (h : o = some a) (k : Ev (fun n => f n a) r) : Ev (fun n => o.bind (f n)) r := by
  subst h; exact k
theorem ev_up {α : Type} {g : Nat → Option α} {r : α} (h : Ev (fun k => g (k + 1)) r) : Ev g r := by
  obtain ⟨K, hK⟩ := h
  refine ⟨K + 1, fun k hk => ?_⟩
  obtain ⟨m, rfl⟩ : ∃ m, k = m + 1 := ⟨k - 1, by omega⟩
  exact hK m (by omega)
theorem wNat (c : Nat) (h : c < 4611686018427387904) : wrap64 (c : Int) = (c : Int) := by unfold wrap64; omega
theorem wAdd (a i : Nat) (h : a + i < 4611686018427387904) : wrap64 ((a : Int) + (i : Int)) = ((a + i : Nat) : Int) := by unfold wrap64; omega
theorem wAdd1 (a i : Nat) (h : a + i < 4611686018427387904) : wrap64 (((a + i : Nat) : Int) + 1) = (a : Int) + ((i + 1 : Nat) : Int) := by unfold wrap64; omega
theorem wSub (a i : Nat) (h : a < 4611686018427387904) (h' : i < 4611686018427387904) : wrap64 ((a : Int) - (i : Int)) = (a : Int) - (i : Int) := by unfold wrap64; omega
theorem tmod128 (c : Nat) : Int.tmod (c : Int) 128 = ((c % 128 : Nat) : Int) := by rw [Int.tmod_eq_emod_of_nonneg (by omega)]; omega
theorem all_drop {α : Type} {P : α → Prop} {l : List α} {i : Nat} (h : i < l.length) : (∀ x ∈ l.drop i, P x) ↔ P l[i] ∧ ∀ x ∈ l.drop (i + 1), P x := by
  rw [List.drop_eq_getElem_cons h, List.forall_mem_cons]

def okAt (n : Int) (l : List Int) (j : Nat) : Prop := 0 ≤ l.getD j 0 ∧ l.getD j 0 < n ∧ (0 < j → l.getD (j - 1) 0 < l.getD j 0)
instance (n : Int) (l : List Int) (j : Nat) : Decidable (okAt n l j) := by unfold okAt; infer_instance
def okFrom (n : Int) (l : List Int) (i : Nat) : Prop := ∀ j, i ≤ j → j < l.length → okAt n l j
theorem okFrom_step {n : Int} {l : List Int} {i : Nat} (h : i < l.length) : okFrom n l i ↔ okAt n l i ∧ okFrom n l (i + 1) := by
  refine ⟨fun H => ⟨H i (Nat.le_refl _) h, fun j hj => H j (by omega)⟩, fun H j hj hl => ?_⟩
  rcases Nat.eq_or_lt_of_le hj with rfl | hj
  · exact H.1
  · exact H.2 j (by omega) hl
theorem okFrom_end {n : Int} {l : List Int} : okFrom n l l.length := fun j h1 h2 => absurd h2 (by omega)
open Classical in
theorem spec_SetOk_loop (n : Int) (l : List Int) (hl : l.length ≤ 35184372088832) : ∀ (d i : Nat), l.length - i = d → i ≤ l.length → Ev (fun k => spec_SetOk.l0 k n l (i : Int)) (decide (okFrom n l i)) := by
  intro d
  induction d with
  | zero =>
    intro i hd hi
    obtain rfl : i = l.length := by omega
    exact Ev.step (f := fun _ => some true) (fun k => by simp only [spec_SetOk.l0]; rw [if_neg (by omega)]) (ev_some (decide_eq_true okFrom_end).symm)
  | succ d ih =>
    intro i hd hi
    have h1 : i < l.length := by omega
    have g : l.getD i 0 = l[i] := by simp [List.getD_eq_getElem?_getD, h1]
    by_cases c1 : l[i] < 0
    · refine Ev.step (f := fun _ => some false) (fun k => by simp only [spec_SetOk.l0]; rw [if_pos (by omega), if_pos (by omega), rd_nat l i h1, if_pos c1]) (ev_some (decide_eq_false fun H => ?_).symm)
      have := (okFrom_step h1).1 H; unfold okAt at this; omega
    by_cases c2 : l[i] ≥ n
    · refine Ev.step (f := fun _ => some false) (fun k => by simp only [spec_SetOk.l0]; rw [if_pos (by omega), if_pos (by omega), rd_nat l i h1, if_neg c1, if_pos c2]) (ev_some (decide_eq_false fun H => ?_).symm)
      have := (okFrom_step h1).1 H; unfold okAt at this; omega
    have rest := ih (i + 1) (by omega) (by omega)
    by_cases c3 : (i : Int) > 0
    · have e1 : wrap64 ((i : Int) - 1) = ((i - 1 : Nat) : Int) := by unfold wrap64; omega
      have g2 : l.getD (i - 1) 0 = l[i - 1] := by simp [List.getD_eq_getElem?_getD, show i - 1 < l.length by omega]
      by_cases c4 : l[i - 1] ≥ l[i]
      · refine Ev.step (f := fun _ => some false) (fun k => by simp only [spec_SetOk.l0]; rw [if_pos (by omega), if_pos (by omega), rd_nat l i h1, if_neg c1, if_neg c2, if_pos c3, e1, if_pos (by omega), if_pos (by omega), rd_nat l (i - 1) (by omega), if_pos c4]) (ev_some (decide_eq_false fun H => ?_).symm)
        have := (okFrom_step h1).1 H; unfold okAt at this; omega
      · refine Ev.step (f := fun k => spec_SetOk.l0 k n l ((i + 1 : Nat) : Int)) (fun k => by simp only [spec_SetOk.l0]; rw [if_pos (by omega), if_pos (by omega), rd_nat l i h1, if_neg c1, if_neg c2, if_pos c3, e1, if_pos (by omega), if_pos (by omega), rd_nat l (i - 1) (by omega), if_neg c4, up1 i (by omega)]) (ev_eq rest (decide_eq_decide.mpr ?_))
        rw [okFrom_step h1]; exact ⟨fun H => ⟨by unfold okAt; omega, H⟩, fun H => H.2⟩
    · refine Ev.step (f := fun k => spec_SetOk.l0 k n l ((i + 1 : Nat) : Int)) (fun k => by simp only [spec_SetOk.l0]; rw [if_pos (by omega), if_pos (by omega), rd_nat l i h1, if_neg c1, if_neg c2, if_neg c3, up1 i (by omega)]) (ev_eq rest (decide_eq_decide.mpr ?_))
      rw [okFrom_step h1]; exact ⟨fun H => ⟨by unfold okAt; omega, H⟩, fun H => H.2⟩
open Classical in
theorem spec_SetOk_ev (n : Int) (l : List Int) (hl : l.length ≤ 35184372088832) : Ev (fun k => spec_SetOk.f k n l) (decide (okFrom n l 0)) := by
  unfold spec_SetOk.f
  exact spec_SetOk_loop n l hl l.length 0 (by omega) (by omega)

open Classical in
theorem impl_SetOk_loop (n : Int) (l : List Int) (hl : l.length ≤ 35184372088832) : ∀ (d i : Nat), l.length - i = d → i ≤ l.length → Ev (fun k => impl_SetOk.l0 k n l l (l.length : Int) (i : Int)) (decide (okFrom n l i)) := by
  intro d
  induction d with
  | zero =>
    intro i hd hi
    obtain rfl : i = l.length := by omega
    exact Ev.step (f := fun _ => some true) (fun k => by simp only [impl_SetOk.l0]; rw [if_neg (by omega)]) (ev_some (decide_eq_true okFrom_end).symm)
  | succ d ih =>
    intro i hd hi
    have h1 : i < l.length := by omega
    have g : l.getD i 0 = l[i] := by simp [List.getD_eq_getElem?_getD, h1]
    by_cases c1 : l[i] < 0
    · refine Ev.step (f := fun _ => some false) (fun k => by simp only [impl_SetOk.l0]; rw [if_pos (by omega), if_pos (by omega), if_pos (by omega), rd_nat l i h1, if_pos c1]) (ev_some (decide_eq_false fun H => ?_).symm)
      have := (okFrom_step h1).1 H; unfold okAt at this; omega
    by_cases c2 : l[i] ≥ n
    · refine Ev.step (f := fun _ => some false) (fun k => by simp only [impl_SetOk.l0]; rw [if_pos (by omega), if_pos (by omega), if_pos (by omega), rd_nat l i h1, if_neg c1, if_pos c2]) (ev_some (decide_eq_false fun H => ?_).symm)
      have := (okFrom_step h1).1 H; unfold okAt at this; omega
    have rest := ih (i + 1) (by omega) (by omega)
    by_cases c3 : (i : Int) > 0
    · have e1 : wrap64 ((i : Int) - 1) = ((i - 1 : Nat) : Int) := by unfold wrap64; omega
      have g2 : l.getD (i - 1) 0 = l[i - 1] := by simp [List.getD_eq_getElem?_getD, show i - 1 < l.length by omega]
      by_cases c4 : l[i - 1] ≥ l[i]
      · refine Ev.step (f := fun _ => some false) (fun k => by simp only [impl_SetOk.l0]; rw [if_pos (by omega), if_pos (by omega), if_pos (by omega), rd_nat l i h1, if_neg c1, if_neg c2, if_pos c3, e1, if_pos (by omega), if_pos (by omega), rd_nat l (i - 1) (by omega), if_pos c4]) (ev_some (decide_eq_false fun H => ?_).symm)
        have := (okFrom_step h1).1 H; unfold okAt at this; omega
      · refine Ev.step (f := fun k => impl_SetOk.l0 k n l l (l.length : Int) ((i + 1 : Nat) : Int)) (fun k => by simp only [impl_SetOk.l0]; rw [if_pos (by omega), if_pos (by omega), if_pos (by omega), rd_nat l i h1, if_neg c1, if_neg c2, if_pos c3, e1, if_pos (by omega), if_pos (by omega), rd_nat l (i - 1) (by omega), if_neg c4, up1 i (by omega)]) (ev_eq rest (decide_eq_decide.mpr ?_))
        rw [okFrom_step h1]; exact ⟨fun H => ⟨by unfold okAt; omega, H⟩, fun H => H.2⟩
    · refine Ev.step (f := fun k => impl_SetOk.l0 k n l l (l.length : Int) ((i + 1 : Nat) : Int)) (fun k => by simp only [impl_SetOk.l0]; rw [if_pos (by omega), if_pos (by omega), if_pos (by omega), rd_nat l i h1, if_neg c1, if_neg c2, if_neg c3, up1 i (by omega)]) (ev_eq rest (decide_eq_decide.mpr ?_))
      rw [okFrom_step h1]; exact ⟨fun H => ⟨by unfold okAt; omega, H⟩, fun H => H.2⟩
open Classical in
theorem impl_SetOk_ev (n : Int) (l : List Int) (hl : l.length ≤ 35184372088832) : Ev (fun k => impl_SetOk.f k n l) (decide (okFrom n l 0)) := by
  unfold impl_SetOk.f
  exact impl_SetOk_loop n l hl l.length 0 (by omega) (by omega)

theorem spec_SetHas_loop (l : List Int) (a : Int) (hl : l.length ≤ 35184372088832) : ∀ (d n : Nat), l.length - n = d → n ≤ l.length → Ev (fun k => spec_SetHas.l0 k l a (n : Int)) (decide (a ∈ l.drop n)) := by
  intro d
  induction d with
  | zero =>
    intro n hd hn
    obtain rfl : n = l.length := by omega
    refine Ev.step (f := fun _ => some false) (fun k => by simp only [spec_SetHas.l0]; rw [if_neg (by omega)]) (ev_some ?_)
    rw [List.drop_of_length_le (by omega)]; simp
  | succ d ih =>
    intro n hd hn
    have h1 : n < l.length := by omega
    have e : a ∈ l.drop n ↔ (a = l[n] ∨ a ∈ l.drop (n + 1)) := by rw [List.drop_eq_getElem_cons h1, List.mem_cons]
    by_cases hc : l[n] = a
    · refine Ev.step (f := fun _ => some true) (fun k => ?_) (ev_some (decide_eq_true (e.mpr (.inl hc.symm))).symm)
      simp only [spec_SetHas.l0]
      rw [if_pos (by omega), if_pos (by omega), rd_nat l n h1, if_pos hc]
    · refine Ev.step (f := fun k => spec_SetHas.l0 k l a ((n + 1 : Nat) : Int)) (fun k => ?_) (ev_eq (ih (n + 1) (by omega) (by omega)) (decide_eq_decide.mpr ?_))
      · simp only [spec_SetHas.l0]
        rw [if_pos (by omega), if_pos (by omega), rd_nat l n h1, if_neg hc, up1 n (by omega)]
      · rw [e]; exact ⟨.inr, fun h => h.resolve_left (fun z => hc z.symm)⟩
theorem spec_SetHas_ev (l : List Int) (a : Int) (hl : l.length ≤ 35184372088832) : Ev (fun k => spec_SetHas.f k l a) (decide (a ∈ l)) := by
  unfold spec_SetHas.f
  exact spec_SetHas_loop l a hl l.length 0 (by omega) (by omega)

theorem slices_Index_loop (l : List Int) (a : Int) (hl : l.length ≤ 35184372088832) : ∀ (d n : Nat), l.length - n = d → n ≤ l.length → ∃ r : Int, Ev (fun k => slices_Index_int_int.l0 k l a (l.length : Int) (n : Int)) r ∧ (0 ≤ r ↔ a ∈ l.drop n) := by
  intro d
  induction d with
  | zero =>
    intro n hd hn
    obtain rfl : n = l.length := by omega
    refine ⟨-1, Ev.step (f := fun _ => some (-1)) (fun k => by simp only [slices_Index_int_int.l0]; rw [if_neg (by omega)]) (ev_some rfl), ?_⟩
    rw [List.drop_of_length_le (by omega)]; simp
  | succ d ih =>
    intro n hd hn
    have h1 : n < l.length := by omega
    have e : a ∈ l.drop n ↔ (a = l[n] ∨ a ∈ l.drop (n + 1)) := by rw [List.drop_eq_getElem_cons h1, List.mem_cons]
    by_cases hc : a = l[n]
    · refine ⟨n, Ev.step (f := fun _ => some (n : Int)) (fun k => ?_) (ev_some rfl), ?_⟩
      · simp only [slices_Index_int_int.l0]
        rw [if_pos (by omega), if_pos (by omega), if_pos (by omega), rd_nat l n h1, if_pos hc]
      · exact ⟨fun _ => e.mpr (.inl hc), fun _ => by omega⟩
    · obtain ⟨r, hr, hi⟩ := ih (n + 1) (by omega) (by omega)
      refine ⟨r, Ev.step (f := fun k => slices_Index_int_int.l0 k l a (l.length : Int) ((n + 1 : Nat) : Int)) (fun k => ?_) hr, ?_⟩
      · simp only [slices_Index_int_int.l0]
        rw [if_pos (by omega), if_pos (by omega), if_pos (by omega), rd_nat l n h1, if_neg hc, up1 n (by omega)]
      · rw [hi, e]; exact ⟨.inr, fun h => h.resolve_left hc⟩

theorem slices_Contains_ev (l : List Int) (a : Int) (hl : l.length ≤ 35184372088832) : Ev (fun k => slices_Contains_int_int.f k l a) (decide (a ∈ l)) := by
  obtain ⟨r, hr, hi⟩ := slices_Index_loop l a hl l.length 0 (by omega) (by omega)
  unfold slices_Contains_int_int.f slices_Index_int_int.f
  refine Ev.bind hr (ev_some (decide_eq_decide.mpr ?_))
  simpa using hi

theorem impl_SetHas_ev (l : List Int) (a : Int) (hl : l.length ≤ 35184372088832) : Ev (fun k => impl_SetHas.f k l a) (decide (a ∈ l)) := by
  unfold impl_SetHas.f
  exact Ev.bind (slices_Contains_ev l a hl) (ev_some rfl)

def commonN (a b : List Int) : Nat := (a.filter (fun x => decide (x ∈ b))).length
theorem commonN_le (a b : List Int) : commonN a b ≤ a.length := List.length_filter_le ..
theorem commonN_step (a b : List Int) (n : Nat) (h : n < a.length) : commonN (a.take (n + 1)) b = commonN (a.take n) b + if a[n] ∈ b then 1 else 0 := by
  unfold commonN
  rw [List.take_succ_eq_append_getElem h, List.filter_append, List.length_append]
  by_cases c : a[n] ∈ b <;> simp [List.filter_cons, c]
theorem spec_l1Bit_val (b : Bool) : spec_l1Bit.f b = some (if b = true then 1 else 0) := by cases b <;> rfl
theorem spec_Common_loop (a b : List Int) (ha : a.length ≤ 35184372088832) (hb : b.length ≤ 35184372088832) : ∀ (d n : Nat), a.length - n = d → n ≤ a.length → Ev (fun k => spec_Common.l0 k a b (commonN (a.take n) b : Int) (n : Int)) (commonN a b : Int) := by
  intro d
  induction d with
  | zero =>
    intro n hd hn
    obtain rfl : n = a.length := by omega
    refine Ev.step (f := fun _ => some (commonN (a.take a.length) b : Int)) (fun k => by simp only [spec_Common.l0]; rw [if_neg (by omega)]) (ev_some ?_)
    rw [List.take_of_length_le (by omega)]
  | succ d ih =>
    intro n hd hn
    have h1 : n < a.length := by omega
    have hc := commonN_le (a.take n) b
    rw [List.length_take] at hc
    have rest := ih (n + 1) (by omega) (by omega)
    rw [commonN_step a b n h1] at rest
    refine Ev.step (f := fun k => (spec_SetHas.f k b a[n]).bind fun t => (spec_l1Bit.f t).bind fun u => spec_Common.l0 k a b (wrap64 ((commonN (a.take n) b : Int) + u)) ((n + 1 : Nat) : Int)) (fun k => by simp only [spec_Common.l0]; rw [if_pos (by omega), if_pos (by omega), rd_nat a n h1, up1 n (by omega)]) ?_
    refine Ev.bind (spec_SetHas_ev b a[n] hb) (ev_const (spec_l1Bit_val _) ?_)
    rw [show wrap64 ((commonN (a.take n) b : Int) + if decide (a[n] ∈ b) = true then 1 else 0) = ((commonN (a.take n) b + if a[n] ∈ b then 1 else 0 : Nat) : Int) by by_cases c : a[n] ∈ b <;> simp only [c, decide_true, decide_false, if_true, if_false, Bool.false_eq_true] <;> unfold wrap64 <;> omega]
    exact rest
theorem spec_Common_ev (a b : List Int) (ha : a.length ≤ 35184372088832) (hb : b.length ≤ 35184372088832) : Ev (fun k => spec_Common.f k a b) (commonN a b : Int) := by
  unfold spec_Common.f
  have := spec_Common_loop a b ha hb a.length 0 (by omega) (by omega)
  simpa [commonN] using this

theorem impl_Common_loop (a b : List Int) (ha : a.length ≤ 35184372088832) (hb : b.length ≤ 35184372088832) : ∀ (d n : Nat), a.length - n = d → n ≤ a.length → Ev (fun k => impl_Common.l0 k b (commonN (a.take n) b : Int) a (a.length : Int) (n : Int)) (commonN a b : Int) := by
  intro d
  induction d with
  | zero =>
    intro n hd hn
    obtain rfl : n = a.length := by omega
    refine Ev.step (f := fun _ => some (commonN (a.take a.length) b : Int)) (fun k => by simp only [impl_Common.l0]; rw [if_neg (by omega)]) (ev_some ?_)
    rw [List.take_of_length_le (by omega)]
  | succ d ih =>
    intro n hd hn
    have h1 : n < a.length := by omega
    have hc := commonN_le (a.take n) b
    rw [List.length_take] at hc
    have rest := ih (n + 1) (by omega) (by omega)
    rw [commonN_step a b n h1] at rest
    refine Ev.step (f := fun k => (impl_SetHas.f k b a[n]).bind fun t => if t = true then impl_Common.l0 k b (wrap64 ((commonN (a.take n) b : Int) + 1)) a (a.length : Int) ((n + 1 : Nat) : Int) else impl_Common.l0 k b (commonN (a.take n) b : Int) a (a.length : Int) ((n + 1 : Nat) : Int)) (fun k => by simp only [impl_Common.l0]; rw [if_pos (by omega), if_pos (by omega), if_pos (by omega), rd_nat a n h1, up1 n (by omega)]) ?_
    refine Ev.bind (impl_SetHas_ev b a[n] hb) ?_
    by_cases c : a[n] ∈ b
    · refine ev_pos (by simpa using c) ?_
      rw [up1 _ (by omega)]
      rw [if_pos c] at rest
      exact rest
    · refine ev_neg (by simpa using c) ?_
      rw [if_neg c, Nat.add_zero] at rest
      exact rest
theorem impl_Common_ev (a b : List Int) (ha : a.length ≤ 35184372088832) (hb : b.length ≤ 35184372088832) : Ev (fun k => impl_Common.f k a b) (commonN a b : Int) := by
  unfold impl_Common.f
  have := impl_Common_loop a b ha hb a.length 0 (by omega) (by omega)
  simpa [commonN] using this

def setAddL (l : List Int) (a : Int) : List Int := if a ∈ l then l else l.take (firstGeq l a) ++ a :: l.drop (firstGeq l a)
theorem firstGeq_le (l : List Int) (a : Int) : firstGeq l a ≤ l.length := List.findIdx_le_length
theorem setAddL_len (l : List Int) (a : Int) : (setAddL l a).length ≤ l.length + 1 := by
  have := firstGeq_le l a
  unfold setAddL
  split
  · omega
  · simp; omega
theorem setAddL_ge (l : List Int) (a : Int) : l.length ≤ (setAddL l a).length := by
  have := firstGeq_le l a
  unfold setAddL
  split
  · omega
  · simp; omega
theorem firstGeq_eq (l : List Int) (a : Int) (n : Nat) (hn : n ≤ l.length) (hb : ∀ i (hi : i < n), l[i] < a) (he : ∀ h : n < l.length, a ≤ l[n]) : firstGeq l a = n := by
  unfold firstGeq
  rcases Nat.eq_or_lt_of_le hn with rfl | hlt
  · have h1 : ¬ List.findIdx (fun x => decide (a ≤ x)) l < l.length := by
      rw [List.findIdx_lt_length]
      rintro ⟨x, hx, hp⟩
      obtain ⟨i, hi, rfl⟩ := List.getElem_of_mem hx
      have := hb i hi
      have : a ≤ l[i] := by simpa using hp
      omega
    have := @List.findIdx_le_length _ (fun x => decide (a ≤ x)) l
    omega
  · rw [List.findIdx_eq hlt]
    exact ⟨by simpa using he hlt, fun i hi => by simpa using hb i hi⟩
theorem spec_SetAdd_loop (l : List Int) (a : Int) (hl : l.length ≤ 1099511627776) : ∀ (d n : Nat), l.length - n = d → n ≤ l.length → (∀ i (hi : i < n) (h2 : i < l.length), l[i] < a) → Ev (fun k => spec_SetAdd.l0 k l a (n : Int)) (l.take (firstGeq l a) ++ a :: l.drop (firstGeq l a)) := by
  intro d
  induction d with
  | zero =>
    intro n hd hn hb
    obtain rfl : n = l.length := by omega
    have e : firstGeq l a = l.length := firstGeq_eq l a l.length (Nat.le_refl _) (fun i hi => hb i hi hi) (fun h => absurd h (by omega))
    rw [e]
    refine Ev.step (f := fun _ => some (l.take l.length ++ a :: l.drop l.length)) (fun k => ?_) (ev_some rfl)
    simp only [spec_SetAdd.l0]
    rw [if_neg (by omega)]
    simp only [Option.bind_some, Int.toNat_natCast]
    rw [if_pos (by omega), if_pos (by omega), if_pos (by simp; omega), if_pos (by simp; omega), if_pos (by simp; omega)]
    simp
  | succ d ih =>
    intro n hd hn hb
    have h1 : n < l.length := by omega
    by_cases hc : l[n] < a
    · refine Ev.step (f := fun k => spec_SetAdd.l0 k l a ((n + 1 : Nat) : Int)) (fun k => ?_) (ih (n + 1) (by omega) (by omega) (fun i hi h2 => ?_))
      · simp only [spec_SetAdd.l0]
        rw [if_pos (by omega), if_pos (by omega), rd_nat l n h1, if_pos hc, up1 n (by omega)]
      · rcases Nat.lt_or_ge i n with h | h
        · exact hb i h h2
        · obtain rfl : i = n := by omega
          exact hc
    · have e : firstGeq l a = n := firstGeq_eq l a n hn (fun i hi => hb i hi (by omega)) (fun h => by omega)
      rw [e]
      refine Ev.step (f := fun _ => some (l.take n ++ a :: l.drop n)) (fun k => ?_) (ev_some rfl)
      simp only [spec_SetAdd.l0]
      rw [if_pos (by omega), if_pos (by omega), rd_nat l n h1, if_neg hc]
      simp only [Option.bind_some, Int.toNat_natCast]
      rw [if_pos (by omega), if_pos (by simp; omega), if_pos (by simp; omega), if_pos (by simp; omega)]
      simp
theorem spec_SetAdd_ev (l : List Int) (a : Int) (hl : l.length ≤ 1099511627776) : Ev (fun k => spec_SetAdd.f k l a) (setAddL l a) := by
  unfold spec_SetAdd.f setAddL
  refine Ev.bind (spec_SetHas_ev l a (by omega)) ?_
  by_cases h : a ∈ l
  · rw [if_pos h]
    refine ev_pos (decide_eq_true h) ?_
    simp only [Option.bind_some]
    exact ev_pos (by simp; omega) (ev_some (by simp))
  · rw [if_neg h]
    refine ev_neg (fun z => h (of_decide_eq_true z)) ?_
    exact spec_SetAdd_loop l a hl l.length 0 (by omega) (by omega) (fun i hi => absurd hi (by omega))

theorem impl_SetAdd_ev (l : List Int) (a : Int) (hl : l.length ≤ 1099511627776) : Ev (fun k => impl_SetAdd.f k l a) (setAddL l a) := by
  unfold impl_SetAdd.f setAddL
  refine Ev.bind (impl_SetHas_ev l a (by omega)) ?_
  by_cases h : a ∈ l
  · rw [if_pos h]
    refine ev_pos (decide_eq_true h) ?_
    unfold impl_copyInts.f
    exact ev_pos (by simp; omega) (ev_some (by simp))
  · rw [if_neg h]
    exact ev_neg (fun z => h (of_decide_eq_true z)) (ev_pos (by omega) (ev_some rfl))

def setJoinL (a b : List Int) : List Int := b.foldl setAddL (a.foldl setAddL [])
theorem foldl_len (b : List Int) : ∀ acc : List Int, (b.foldl setAddL acc).length ≤ acc.length + b.length := by
  induction b with
  | nil => intro acc; simp
  | cons x b ih =>
    intro acc
    have h1 := ih (setAddL acc x)
    have h2 := setAddL_len acc x
    rw [List.foldl_cons, List.length_cons]
    omega
theorem setJoinL_len (a b : List Int) : (setJoinL a b).length ≤ a.length + b.length := by
  have h1 := foldl_len b (a.foldl setAddL [])
  have h2 := foldl_len a []
  unfold setJoinL
  simp at h2
  omega
theorem spec_SetJoin_l1 (b : List Int) (hbl : b.length ≤ 4294967296) : ∀ (d n : Nat) (acc : List Int), b.length - n = d → n ≤ b.length → acc.length + d ≤ 1099511627776 → Ev (fun k => spec_SetJoin.l1 k b acc (n : Int)) ((b.drop n).foldl setAddL acc) := by
  intro d
  induction d with
  | zero =>
    intro n acc hd hn hl
    refine Ev.step (f := fun _ => some acc) (fun k => by simp only [spec_SetJoin.l1]; rw [if_neg (by omega)]) (ev_some ?_)
    rw [List.drop_of_length_le (by omega)]; rfl
  | succ d ih =>
    intro n acc hd hn hl
    have h1 : n < b.length := by omega
    have h2 := setAddL_len acc b[n]
    refine Ev.step (f := fun k => (spec_SetAdd.f k acc b[n]).bind fun t => spec_SetJoin.l1 k b t ((n + 1 : Nat) : Int)) (fun k => by simp only [spec_SetJoin.l1]; rw [if_pos (by omega), if_pos (by omega), rd_nat b n h1, up1 n (by omega)]) ?_
    rw [List.drop_eq_getElem_cons h1, List.foldl_cons]
    exact Ev.bind (spec_SetAdd_ev acc b[n] (by omega)) (ih (n + 1) _ (by omega) (by omega) (by omega))
theorem spec_SetJoin_l0 (a b : List Int) (hal : a.length ≤ 4294967296) (hbl : b.length ≤ 4294967296) : ∀ (d n : Nat) (acc : List Int), a.length - n = d → n ≤ a.length → acc.length + d + b.length ≤ 1099511627776 → Ev (fun k => spec_SetJoin.l0 k a b acc (n : Int)) (b.foldl setAddL ((a.drop n).foldl setAddL acc)) := by
  intro d
  induction d with
  | zero =>
    intro n acc hd hn hl
    refine Ev.step (f := fun k => spec_SetJoin.l1 k b acc 0) (fun k => by simp only [spec_SetJoin.l0]; rw [if_neg (by omega)]) ?_
    rw [List.drop_of_length_le (by omega)]
    exact spec_SetJoin_l1 b hbl b.length 0 acc (by omega) (by omega) (by omega)
  | succ d ih =>
    intro n acc hd hn hl
    have h1 : n < a.length := by omega
    have h2 := setAddL_len acc a[n]
    refine Ev.step (f := fun k => (spec_SetAdd.f k acc a[n]).bind fun t => spec_SetJoin.l0 k a b t ((n + 1 : Nat) : Int)) (fun k => by simp only [spec_SetJoin.l0]; rw [if_pos (by omega), if_pos (by omega), rd_nat a n h1, up1 n (by omega)]) ?_
    rw [List.drop_eq_getElem_cons h1, List.foldl_cons]
    exact Ev.bind (spec_SetAdd_ev acc a[n] (by omega)) (ih (n + 1) _ (by omega) (by omega) (by omega))
theorem spec_SetJoin_ev (a b : List Int) (ha : a.length ≤ 4294967296) (hb : b.length ≤ 4294967296) : Ev (fun k => spec_SetJoin.f k a b) (setJoinL a b) := by
  unfold spec_SetJoin.f setJoinL
  exact spec_SetJoin_l0 a b ha hb a.length 0 [] (by omega) (by omega) (by simp; omega)

theorem impl_SetJoin_l1 (b : List Int) (hbl : b.length ≤ 4294967296) : ∀ (d n : Nat) (acc : List Int), b.length - n = d → n ≤ b.length → acc.length + d ≤ 1099511627776 → Ev (fun k => impl_SetJoin.l1 k acc b (b.length : Int) (n : Int)) ((b.drop n).foldl setAddL acc) := by
  intro d
  induction d with
  | zero =>
    intro n acc hd hn hl
    refine Ev.step (f := fun _ => some acc) (fun k => by simp only [impl_SetJoin.l1]; rw [if_neg (by omega)]) (ev_some ?_)
    rw [List.drop_of_length_le (by omega)]; rfl
  | succ d ih =>
    intro n acc hd hn hl
    have h1 : n < b.length := by omega
    have h2 := setAddL_len acc b[n]
    refine Ev.step (f := fun k => (impl_SetAdd.f k acc b[n]).bind fun t => impl_SetJoin.l1 k t b (b.length : Int) ((n + 1 : Nat) : Int)) (fun k => by simp only [impl_SetJoin.l1]; rw [if_pos (by omega), if_pos (by omega), if_pos (by omega), rd_nat b n h1, up1 n (by omega)]) ?_
    rw [List.drop_eq_getElem_cons h1, List.foldl_cons]
    exact Ev.bind (impl_SetAdd_ev acc b[n] (by omega)) (ih (n + 1) _ (by omega) (by omega) (by omega))
theorem impl_SetJoin_l0 (a b : List Int) (hal : a.length ≤ 4294967296) (hbl : b.length ≤ 4294967296) : ∀ (d n : Nat) (acc : List Int), a.length - n = d → n ≤ a.length → acc.length + d + b.length ≤ 1099511627776 → Ev (fun k => impl_SetJoin.l0 k b acc a (a.length : Int) (n : Int)) (b.foldl setAddL ((a.drop n).foldl setAddL acc)) := by
  intro d
  induction d with
  | zero =>
    intro n acc hd hn hl
    refine Ev.step (f := fun k => impl_SetJoin.l1 k acc b (b.length : Int) 0) (fun k => by simp only [impl_SetJoin.l0]; rw [if_neg (by omega)]) ?_
    rw [List.drop_of_length_le (by omega)]
    exact impl_SetJoin_l1 b hbl b.length 0 acc (by omega) (by omega) (by omega)
  | succ d ih =>
    intro n acc hd hn hl
    have h1 : n < a.length := by omega
    have h2 := setAddL_len acc a[n]
    refine Ev.step (f := fun k => (impl_SetAdd.f k acc a[n]).bind fun t => impl_SetJoin.l0 k b t a (a.length : Int) ((n + 1 : Nat) : Int)) (fun k => by simp only [impl_SetJoin.l0]; rw [if_pos (by omega), if_pos (by omega), if_pos (by omega), rd_nat a n h1, up1 n (by omega)]) ?_
    rw [List.drop_eq_getElem_cons h1, List.foldl_cons]
    exact Ev.bind (impl_SetAdd_ev acc a[n] (by omega)) (ih (n + 1) _ (by omega) (by omega) (by omega))
theorem impl_SetJoin_ev (a b : List Int) (ha : a.length ≤ 4294967296) (hb : b.length ≤ 4294967296) : Ev (fun k => impl_SetJoin.f k a b) (setJoinL a b) := by
  unfold impl_SetJoin.f setJoinL
  exact impl_SetJoin_l0 a b ha hb a.length 0 [] (by omega) (by omega) (by simp; omega)

theorem and_range (x y : Int) (m : Nat) (hy : y = (m : Int)) (hm : m < 4611686018427387904) : 0 ≤ Go.bits .and .i64 x y ∧ Go.bits .and .i64 x y ≤ (m : Int) := by
  subst hy
  have h2 : ((BitVec.ofInt 64 x) &&& (BitVec.ofInt 64 (m : Int))).toNat ≤ m := by
    rw [BitVec.toNat_and]
    refine Nat.le_trans Nat.and_le_right ?_
    rw [BitVec.ofInt_natCast, BitVec.toNat_ofNat]
    exact Nat.mod_le _ _
  have e : Go.bits .and .i64 x (m : Int) = IntKind.i64.wrap (((BitVec.ofInt 64 x) &&& (BitVec.ofInt 64 (m : Int))).toNat : Int) := rfl
  rw [e]
  generalize ((BitVec.ofInt 64 x) &&& (BitVec.ofInt 64 (m : Int))).toNat = q at h2
  rw [IntKind.wrap_i64]
  omega
/-- A cursor's place. -/
def Cur (i : Int) : Prop := 0 ≤ i ∧ i ≤ 1099511627776
theorem l1New_ev (l : List Int) (hl : l.length ≤ 1048576) : ∃ h : Int, Ev (fun k => spec_l1New.f k l) (l, 0, h) := by
  have loop : ∀ (d n : Nat) (h : Int), l.length - n = d → n ≤ l.length → ∃ h', Ev (fun k => spec_l1New.l0 k l h (n : Int)) (l, 0, h') := by
    intro d
    induction d with
    | zero =>
      intro n h hd hn
      exact ⟨h, Ev.step (f := fun _ => some (l, 0, h)) (fun k => by simp only [spec_l1New.l0]; rw [if_neg (by omega)]) (ev_some rfl)⟩
    | succ d ih =>
      intro n h hd hn
      by_cases c : (n : Int) < 4000
      · obtain ⟨h', hh⟩ := ih (n + 1) (Go.bits .and .i64 (wrap64 ((wrap64 ((wrap64 (h * 131)) + (wrap64 (rd l (n : Int))))) + 7)) 1073741823) (by omega) (by omega)
        refine ⟨h', Ev.step (f := fun k => spec_l1New.l0 k l (Go.bits .and .i64 (wrap64 ((wrap64 ((wrap64 (h * 131)) + (wrap64 (rd l (n : Int))))) + 7)) 1073741823) ((n + 1 : Nat) : Int)) (fun k => ?_) hh⟩
        simp only [spec_l1New.l0]
        rw [if_pos (by omega), if_pos c, if_pos (by omega), up1 n (by omega)]
      · exact ⟨h, Ev.step (f := fun _ => some (l, 0, h)) (fun k => by simp only [spec_l1New.l0]; rw [if_pos (by omega), if_neg c]) (ev_some rfl)⟩
  unfold spec_l1New.f
  exact loop l.length 0 _ (by omega) (by omega)

theorem l1Byte_some (l : List Int) (i h : Int) (hl : l.length ≤ 1048576) (hi : Cur i) : ∃ v i' h', spec_l1Byte.f l i h = some (v, i', h') ∧ 0 ≤ v ∧ v ≤ 255 ∧ Cur i' := by
  unfold spec_l1Byte.f
  by_cases c : i < (l.length : Int)
  · rw [if_pos c, if_pos hi.1]
    refine ⟨_, _, _, rfl, (and_range _ 255 255 rfl (by omega)).1, (and_range _ 255 255 rfl (by omega)).2, ?_⟩
    rw [up1' i (by unfold Cur at hi; omega) (by unfold Cur at hi; omega)]
    unfold Cur at hi ⊢; omega
  · rw [if_neg c]
    exact ⟨_, _, _, rfl, (and_range _ 255 255 rfl (by omega)).1, (and_range _ 255 255 rfl (by omega)).2, hi⟩

theorem l1Below_some (l : List Int) (i h n : Int) (hl : l.length ≤ 1048576) (hi : Cur i) (hn : 0 < n) (hn' : n ≤ 256) : ∃ v i' h', spec_l1Below.f l i h n = some (v, i', h') ∧ 0 ≤ v ∧ v < n ∧ Cur i' := by
  obtain ⟨v, i', h', e, h0, h1, hc⟩ := l1Byte_some l i h hl hi
  unfold spec_l1Below.f
  rw [if_neg (by omega), if_pos hn', e, Option.bind_some, if_neg (by omega)]
  refine ⟨_, _, _, rfl, ?_, ?_, hc⟩
  · exact Int.tmod_nonneg _ h0
  · exact Int.tmod_lt_of_pos _ hn

theorem l1PickInt_some (l : List Int) (i h : Int) (xs : List Int) (hl : l.length ≤ 1048576) (hi : Cur i) (hx : 0 < xs.length) (hx' : xs.length ≤ 256) : ∃ v i' h', spec_l1PickInt.f l i h xs = some (v, i', h') ∧ v ∈ xs ∧ Cur i' := by
  obtain ⟨v, i', h', e, h0, h1, hc⟩ := l1Below_some l i h (xs.length : Int) hl hi (by omega) (by omega)
  unfold spec_l1PickInt.f
  rw [e, Option.bind_some, if_pos h0, if_pos h1]
  refine ⟨_, _, _, rfl, ?_, hc⟩
  obtain ⟨m, rfl⟩ := Int.eq_ofNat_of_zero_le h0
  rw [rd_nat xs m (by omega)]
  exact List.getElem_mem _

theorem l1Once_some (l : List Int) (i h n : Int) (hl : l.length ≤ 1048576) (hi : Cur i) (hn : 0 < n) (hn' : n ≤ 256) : ∃ v i' h', spec_l1Once.f l i h n = some (v, i', h') ∧ Cur i' := by
  obtain ⟨v, i', h', e, h0, h1, hc⟩ := l1Below_some l i h n hl hi hn hn'
  unfold spec_l1Once.f
  rw [e, Option.bind_some]
  exact ⟨_, _, _, rfl, hc⟩

theorem l6DrawSet_ev (l : List Int) (i h n : Int) (hl : l.length ≤ 1048576) (hi : Cur i) (hn : 0 < n) (hn' : n ≤ 256) : ∃ s i' h', Ev (fun k => spec_l6DrawSet.f k l i h n) (s, i', h') ∧ s.length ≤ 9 ∧ Cur i' := by
  have loop : ∀ (d j : Nat) (s : List Int) (i h : Int), j + d = 8 → s.length ≤ j → Cur i → ∃ s' i' h', Ev (fun k => spec_l6DrawSet.l0 k n s (j : Int) l i h) (s', i', h') ∧ s'.length ≤ 9 ∧ Cur i' := by
    intro d
    induction d with
    | zero =>
      intro j s i h hj hs hi
      obtain ⟨v, i1, h1, e, a0, a1, c1⟩ := l1Below_some l i h 8 hl hi (by omega) (by omega)
      obtain ⟨b, i2, h2, e2, c2⟩ := l1Once_some l i1 h1 12 hl c1 (by omega) (by omega)
      obtain ⟨p, i3, h3, e3, _, c3⟩ := l1PickInt_some l i2 h2 [(-1), 0, 3, 9] hl c2 (by simp) (by simp)
      cases b with
      | true =>
        refine ⟨s ++ [p], i3, h3, Ev.step (f := fun _ => some (s ++ [p], i3, h3)) (fun k => ?_) (ev_some rfl), by simp; omega, c3⟩
        simp only [spec_l6DrawSet.l0]
        rw [e]
        simp only [Option.bind_some]
        rw [if_neg (by omega), e2]
        simp only [Option.bind_some, if_true]
        rw [e3]
        simp only [Option.bind_some]
        rw [if_pos (by omega)]
      | false =>
        refine ⟨s, i2, h2, Ev.step (f := fun _ => some (s, i2, h2)) (fun k => ?_) (ev_some rfl), by omega, c2⟩
        simp only [spec_l6DrawSet.l0]
        rw [e]
        simp only [Option.bind_some]
        rw [if_neg (by omega), e2]
        simp
    | succ d ih =>
      intro j s i h hj hs hi
      obtain ⟨v, i1, h1, e, a0, a1, c1⟩ := l1Below_some l i h 8 hl hi (by omega) (by omega)
      by_cases c : (j : Int) < v
      · obtain ⟨x, i2, h2, e2, _, _, c2⟩ := l1Below_some l i1 h1 n hl c1 hn hn'
        have hsl := setAddL_len s x
        obtain ⟨s', i', h', hev, h8, hc⟩ := ih (j + 1) (setAddL s x) i2 h2 (by omega) (by omega) c2
        refine ⟨s', i', h', Ev.step (f := fun k => (spec_SetAdd.f k s x).bind fun t => spec_l6DrawSet.l0 k n t ((j + 1 : Nat) : Int) l i2 h2) (fun k => ?_) (Ev.bind (spec_SetAdd_ev s x (by omega)) hev), h8, hc⟩
        simp only [spec_l6DrawSet.l0]
        rw [e]
        simp only [Option.bind_some]
        rw [if_pos c, e2]
        simp only [Option.bind_some]
        rw [up1 j (by omega)]
      · obtain ⟨b, i2, h2, e2, c2⟩ := l1Once_some l i1 h1 12 hl c1 (by omega) (by omega)
        obtain ⟨p, i3, h3, e3, _, c3⟩ := l1PickInt_some l i2 h2 [(-1), 0, 3, 9] hl c2 (by simp) (by simp)
        cases b with
        | true =>
          refine ⟨s ++ [p], i3, h3, Ev.step (f := fun _ => some (s ++ [p], i3, h3)) (fun k => ?_) (ev_some rfl), by simp; omega, c3⟩
          simp only [spec_l6DrawSet.l0]
          rw [e]
          simp only [Option.bind_some]
          rw [if_neg c, e2]
          simp only [Option.bind_some, if_true]
          rw [e3]
          simp only [Option.bind_some]
          rw [if_pos (by omega)]
        | false =>
          refine ⟨s, i2, h2, Ev.step (f := fun _ => some (s, i2, h2)) (fun k => ?_) (ev_some rfl), by omega, c2⟩
          simp only [spec_l6DrawSet.l0]
          rw [e]
          simp only [Option.bind_some]
          rw [if_neg c, e2]
          simp
  unfold spec_l6DrawSet.f
  exact loop 8 0 [] i h rfl (by simp) hi

theorem DrawSetJoin_ev (l : List Int) (hl : l.length ≤ 1048576) : ∃ a b, Ev (fun k => spec_DrawSetJoin.f k l) (a, b) ∧ a.length ≤ 9 ∧ b.length ≤ 9 := by
  obtain ⟨h, e1⟩ := l1New_ev l hl
  obtain ⟨a, i, h1, e2, la, ca⟩ := l6DrawSet_ev l 0 h 7 hl (by unfold Cur; omega) (by omega) (by omega)
  obtain ⟨b, i2, h2, e3, lb, cb⟩ := l6DrawSet_ev l i h1 7 hl ca (by omega) (by omega)
  refine ⟨a, b, ?_, la, lb⟩
  unfold spec_DrawSetJoin.f
  exact Ev.bind e1 (Ev.bind e2 (Ev.bind e3 (ev_some rfl)))

theorem DrawSetHas_ev (l : List Int) (hl : l.length ≤ 1048576) : ∃ a x, Ev (fun k => spec_DrawSetHas.f k l) (a, x) ∧ a.length ≤ 9 := by
  obtain ⟨h, e1⟩ := l1New_ev l hl
  obtain ⟨a, i, h1, e2, la, ca⟩ := l6DrawSet_ev l 0 h 7 hl (by unfold Cur; omega) (by omega) (by omega)
  obtain ⟨v, i2, h2, e3, _, _, _⟩ := l1Below_some l i h1 9 hl ca (by omega) (by omega)
  refine ⟨a, wrap64 (v - 1), ?_, la⟩
  unfold spec_DrawSetHas.f
  exact Ev.bind e1 (Ev.bind e2 (ev_const e3 (ev_some rfl)))

theorem DrawSetAdd_ev (l : List Int) (hl : l.length ≤ 1048576) : ∃ a x, Ev (fun k => spec_DrawSetAdd.f k l) (a, x) ∧ a.length ≤ 9 := by
  obtain ⟨a, x, e, la⟩ := DrawSetHas_ev l hl
  refine ⟨a, x, ?_, la⟩
  unfold spec_DrawSetAdd.f
  exact Ev.bind e (ev_some rfl)

theorem DrawSetOk_ev (l : List Int) (hl : l.length ≤ 1048576) : ∃ n a, Ev (fun k => spec_DrawSetOk.f k l) (n, a) ∧ a.length ≤ 9 := by
  obtain ⟨h, e1⟩ := l1New_ev l hl
  obtain ⟨a, i, h1, e2, la, ca⟩ := l6DrawSet_ev l 0 h 7 hl (by unfold Cur; omega) (by omega) (by omega)
  obtain ⟨v, i2, h2, e3, _, _⟩ := l1PickInt_some l i h1 [7, 7, 4, 0, (-1)] hl ca (by simp) (by simp)
  refine ⟨v, a, ?_, la⟩
  unfold spec_DrawSetOk.f
  exact Ev.bind e1 (Ev.bind e2 (ev_const e3 (ev_some rfl)))

theorem sameInts_loop (a b : List Int) (hl : a.length ≤ 35184372088832) (hab : a.length = b.length) : ∀ (d n : Nat), a.length - n = d → n ≤ a.length → Ev (fun k => laws_sameInts.l0 k a b (n : Int)) (decide (a.drop n = b.drop n)) := by
  intro d
  induction d with
  | zero =>
    intro n hd hn
    obtain rfl : n = a.length := by omega
    refine Ev.step (f := fun _ => some true) (fun k => by simp only [laws_sameInts.l0]; rw [if_neg (by omega)]) (ev_some ?_)
    rw [List.drop_of_length_le (by omega), List.drop_of_length_le (by omega)]; rfl
  | succ d ih =>
    intro n hd hn
    have h1 : n < a.length := by omega
    have h2 : n < b.length := by omega
    have e : (a.drop n = b.drop n) ↔ (a[n] = b[n] ∧ a.drop (n + 1) = b.drop (n + 1)) := by
      rw [List.drop_eq_getElem_cons h1, List.drop_eq_getElem_cons h2, List.cons.injEq]
    by_cases hc : a[n] = b[n]
    · refine Ev.step (f := fun k => laws_sameInts.l0 k a b ((n + 1 : Nat) : Int)) (fun k => ?_) (ev_eq (ih (n + 1) (by omega) (by omega)) ?_)
      · simp only [laws_sameInts.l0]
        rw [if_pos (by omega), if_pos (by omega), if_pos (by omega), rd_nat a n h1, rd_nat b n h2, if_pos hc, up1 n (by omega)]
      · exact decide_eq_decide.mpr (by rw [e]; simp [hc])
    · refine Ev.step (f := fun _ => some false) (fun k => ?_) (ev_some ?_)
      · simp only [laws_sameInts.l0]
        rw [if_pos (by omega), if_pos (by omega), if_pos (by omega), rd_nat a n h1, rd_nat b n h2, if_neg hc]
      · exact (decide_eq_false (by rw [e]; exact fun h => hc h.1)).symm
theorem sameInts_ev (a b : List Int) (hl : a.length ≤ 35184372088832) : Ev (fun k => laws_sameInts.f k a b) (decide (a = b)) := by
  unfold laws_sameInts.f
  by_cases h : a.length = b.length
  · exact ev_pos (by omega) (sameInts_loop a b hl h a.length 0 (by omega) (by omega))
  · exact ev_neg (by omega) (ev_some (decide_eq_false (fun e => h (by rw [e]))).symm)

/-- Strictly ascending. -/
def Asc (l : List Int) : Prop := l.Pairwise (· < ·)
theorem asc_unique : ∀ (a b : List Int), Asc a → Asc b → (∀ x, x ∈ a ↔ x ∈ b) → a = b
  | [], [], _, _, _ => rfl
  | [], y :: b, _, _, h => absurd ((h y).2 (by simp)) (by simp)
  | x :: a, [], _, _, h => absurd ((h x).1 (by simp)) (by simp)
  | x :: a, y :: b, ha, hb, h => by
    obtain ⟨hx, ha'⟩ := List.pairwise_cons.1 ha
    obtain ⟨hy, hb'⟩ := List.pairwise_cons.1 hb
    have e : x = y := by
      have h1 := (h x).1 (by simp)
      have h2 := (h y).2 (by simp)
      rw [List.mem_cons] at h1 h2
      rcases h1 with h1 | h1
      · exact h1
      · rcases h2 with h2 | h2
        · exact h2.symm
        · have := hy x h1
          have := hx y h2
          omega
    subst e
    congr 1
    refine asc_unique a b ha' hb' (fun z => ?_)
    have hz := h z
    rw [List.mem_cons, List.mem_cons] at hz
    constructor
    · intro hza
      rcases hz.1 (.inr hza) with h1 | h1
      · have := hx z hza; omega
      · exact h1
    · intro hzb
      rcases hz.2 (.inr hzb) with h1 | h1
      · have := hy z hzb; omega
      · exact h1
theorem mem_setAddL (l : List Int) (a x : Int) : x ∈ setAddL l a ↔ x = a ∨ x ∈ l := by
  unfold setAddL
  by_cases h : a ∈ l
  · rw [if_pos h]
    exact ⟨.inr, fun z => z.elim (fun e => e ▸ h) id⟩
  · rw [if_neg h]
    have e : x ∈ l ↔ x ∈ l.take (firstGeq l a) ∨ x ∈ l.drop (firstGeq l a) := by
      rw [← List.mem_append, List.take_append_drop]
    rw [List.mem_append, List.mem_cons, e]
    constructor
    · rintro (h | h | h)
      · exact .inr (.inl h)
      · exact .inl h
      · exact .inr (.inr h)
    · rintro (h | h | h)
      · exact .inr (.inl h)
      · exact .inl h
      · exact .inr (.inr h)
theorem firstGeq_below (l : List Int) (a x : Int) (h : x ∈ l.take (firstGeq l a)) : x < a := by
  obtain ⟨i, hi, rfl⟩ := List.getElem_of_mem h
  rw [List.length_take] at hi
  rw [List.getElem_take]
  have h1 : i < firstGeq l a := by omega
  have := List.not_of_lt_findIdx (p := fun x => decide (a ≤ x)) (xs := l) h1
  simp at this
  omega
theorem asc_setAddL (l : List Int) (a : Int) (hl : Asc l) : Asc (setAddL l a) := by
  unfold setAddL
  by_cases h : a ∈ l
  · rw [if_pos h]; exact hl
  · rw [if_neg h]
    have hT : Asc (l.take (firstGeq l a)) := hl.sublist (List.take_sublist _ _)
    have hD : Asc (l.drop (firstGeq l a)) := hl.sublist (List.drop_sublist _ _)
    have hd : ∀ x ∈ l.drop (firstGeq l a), a < x := by
      intro x hx
      have hne : x ≠ a := fun e => h (e ▸ List.mem_of_mem_drop hx)
      have hge : a ≤ x := by
        rcases Nat.lt_or_ge (firstGeq l a) l.length with hlt | hge
        · have h0 : a ≤ l[firstGeq l a] := by
            have := List.findIdx_getElem (p := fun x => decide (a ≤ x)) (xs := l) (w := hlt)
            exact of_decide_eq_true this
          rw [List.drop_eq_getElem_cons hlt] at hx hD
          rcases List.mem_cons.1 hx with e | hx
          · rw [e]; exact h0
          · have := (List.pairwise_cons.1 hD).1 x hx; omega
        · rw [List.drop_of_length_le hge] at hx; simp at hx
      omega
    unfold Asc
    rw [List.pairwise_append]
    refine ⟨hT, List.pairwise_cons.2 ⟨hd, hD⟩, fun x hx y hy => ?_⟩
    have hxa := firstGeq_below l a x hx
    rcases List.mem_cons.1 hy with rfl | hy
    · exact hxa
    · have := hd y hy; omega
theorem mem_foldAdd (b : List Int) : ∀ (acc : List Int) (x : Int), x ∈ b.foldl setAddL acc ↔ x ∈ acc ∨ x ∈ b := by
  induction b with
  | nil => intro acc x; simp
  | cons y b ih =>
    intro acc x
    rw [List.foldl_cons, ih, mem_setAddL, List.mem_cons]
    constructor
    · rintro ((h | h) | h)
      · exact .inr (.inl h)
      · exact .inl h
      · exact .inr (.inr h)
    · rintro (h | h | h)
      · exact .inl (.inr h)
      · exact .inl (.inl h)
      · exact .inr h
theorem asc_foldAdd (b : List Int) : ∀ acc : List Int, Asc acc → Asc (b.foldl setAddL acc) := by
  induction b with
  | nil => intro acc h; exact h
  | cons y b ih => intro acc h; exact ih _ (asc_setAddL acc y h)
theorem asc_nil : Asc [] := List.Pairwise.nil
theorem asc_join (a b : List Int) : Asc (setJoinL a b) := asc_foldAdd b _ (asc_foldAdd a [] asc_nil)
theorem mem_join (a b : List Int) (x : Int) : x ∈ setJoinL a b ↔ x ∈ a ∨ x ∈ b := by
  unfold setJoinL
  rw [mem_foldAdd, mem_foldAdd]
  simp
theorem join_comm (a b : List Int) : setJoinL a b = setJoinL b a := asc_unique _ _ (asc_join a b) (asc_join b a) (fun x => by rw [mem_join, mem_join]; exact Or.comm)
theorem common_comm (a b : List Int) (ha : Asc a) (hb : Asc b) : commonN a b = commonN b a := by
  unfold commonN
  congr 1
  refine asc_unique _ _ (ha.sublist List.filter_sublist) (hb.sublist List.filter_sublist) (fun x => ?_)
  simp only [List.mem_filter, decide_eq_true_eq]
  exact And.comm
theorem setAddL_len_new (l : List Int) (a : Int) (h : a ∉ l) : (setAddL l a).length = l.length + 1 := by
  have := firstGeq_le l a
  unfold setAddL
  rw [if_neg h]
  simp; omega
theorem fold_len (b : List Int) : ∀ acc : List Int, Asc b → (b.foldl setAddL acc).length + commonN b acc = acc.length + b.length := by
  induction b with
  | nil => intro acc _; simp [commonN]
  | cons y b ih =>
    intro acc hb
    obtain ⟨hy, hb'⟩ := List.pairwise_cons.1 hb
    have h1 := ih (setAddL acc y) hb'
    have e : commonN b (setAddL acc y) = commonN b acc := by
      unfold commonN
      congr 1
      refine List.filter_congr (fun x hx => ?_)
      have hne : x ≠ y := by have := hy x hx; omega
      simp [mem_setAddL, hne]
    rw [e] at h1
    have c : commonN (y :: b) acc = commonN b acc + if y ∈ acc then 1 else 0 := by
      unfold commonN
      by_cases hm : y ∈ acc <;> simp [List.filter_cons, hm]
    rw [List.foldl_cons, List.length_cons, c]
    by_cases hm : y ∈ acc
    · rw [if_pos hm]
      have : setAddL acc y = acc := by unfold setAddL; rw [if_pos hm]
      rw [this] at h1 ⊢
      omega
    · rw [if_neg hm]
      have := setAddL_len_new acc y hm
      omega
theorem fold_self (a : List Int) (ha : Asc a) : a.foldl setAddL [] = a :=
  asc_unique _ _ (asc_foldAdd a [] asc_nil) ha (fun x => by rw [mem_foldAdd]; simp)
theorem join_len (a b : List Int) (ha : Asc a) (hb : Asc b) : (setJoinL a b).length + commonN a b = a.length + b.length := by
  have h := fold_len b a hb
  unfold setJoinL
  rw [fold_self a ha, common_comm a b ha hb]
  exact h
theorem okFrom_asc (n : Int) (l : List Int) : okFrom n l 0 ↔ Asc l ∧ ∀ x ∈ l, 0 ≤ x ∧ x < n := by
  have gd : ∀ j (h : j < l.length), l.getD j 0 = l[j] := fun j h => by simp [List.getD_eq_getElem?_getD, h]
  constructor
  · intro H
    have adj : ∀ j (h : j + 1 < l.length), l[j] < l[j + 1] := by
      intro j h
      have := (H (j + 1) (by omega) h).2.2 (by omega)
      rw [gd (j + 1) h] at this
      simp only [Nat.add_sub_cancel] at this
      rw [gd j (by omega)] at this
      exact this
    refine ⟨?_, fun x hx => ?_⟩
    · unfold Asc
      rw [List.pairwise_iff_getElem]
      intro i j hi hj hij
      have : ∀ d i (h : i + d + 1 < l.length), l[i]'(by omega) < l[i + d + 1] := by
        intro d
        induction d with
        | zero => intro i h; exact adj i h
        | succ d ih =>
          intro i h
          have h1 := ih i (by omega)
          have h2 := adj (i + d + 1) (by omega)
          exact Int.lt_trans h1 h2
      have h := this (j - i - 1) i (by omega)
      have e : i + (j - i - 1) + 1 = j := by omega
      simp only [e] at h
      exact h
    · obtain ⟨j, hj, rfl⟩ := List.getElem_of_mem hx
      have := H j (by omega) hj
      unfold okAt at this
      rw [gd j hj] at this
      exact ⟨this.1, this.2.1⟩
  · rintro ⟨ha, hr⟩ j _ hj
    unfold okAt
    rw [gd j hj]
    have := hr l[j] (List.getElem_mem _)
    refine ⟨this.1, this.2, fun h0 => ?_⟩
    rw [gd (j - 1) (by omega)]
    exact List.pairwise_iff_getElem.1 ha (j - 1) j (by omega) hj (by omega)
open Classical in
theorem FnSets (l : List Int) (hm : l.length ≤ maxLen) (hw : ∀ x ∈ l, (Lit.int .u8 x).wf = true) : ∃ k, laws_FnSets.f k l = some true := by
  refine Ev.rounds ?_
  unfold laws_FnSets.f laws_big.f
  simp only [Option.bind_some]
  by_cases hl : (l.length : Int) > 1048576
  · exact ev_pos (decide_eq_true hl) (ev_some rfl)
  refine ev_neg (fun z => hl (of_decide_eq_true z)) ?_
  obtain ⟨a, b, e1, la, lb⟩ := DrawSetJoin_ev l (by omega)
  obtain ⟨s, x, e2, ls⟩ := DrawSetAdd_ev l (by omega)
  obtain ⟨n, o, e3, lo⟩ := DrawSetOk_ev l (by omega)
  have hj := setJoinL_len a b
  have ht := setAddL_len s x
  have main : Ev (fun k => laws_FnSets.j0 k a b (setJoinL a b) x (setAddL s x) false) true := by
    refine ev_up ?_
    simp only [laws_FnSets.j0]
    refine ev_neg (by decide) ?_
    refine Ev.bind (impl_SetOk_ev 9 a (by omega)) ?_
    have tr : ∀ q : Bool, q = true → Ev (fun k => laws_FnSets.j1 k a b (setJoinL a b) x (setAddL s x) q) true := fun q hq => by
      refine ev_up ?_
      simp only [laws_FnSets.j1]
      exact ev_pos hq (ev_some rfl)
    by_cases ha : okFrom 9 a 0
    · refine ev_pos (decide_eq_true ha) (Ev.bind (impl_SetOk_ev 9 b (by omega)) ?_)
      by_cases hb : okFrom 9 b 0
      · rw [show (!decide (okFrom 9 b 0)) = false by simp [hb]]
        obtain ⟨aa, ra⟩ := (okFrom_asc 9 a).1 ha
        obtain ⟨ab, rb⟩ := (okFrom_asc 9 b).1 hb
        have hJ : okFrom 9 (setJoinL a b) 0 := (okFrom_asc 9 _).2 ⟨asc_join a b, fun y hy => (mem_join a b y).1 hy |>.elim (ra y) (rb y)⟩
        have hlen := join_len a b aa ab
        have hcc := common_comm a b aa ab
        refine ev_up ?_
        simp only [laws_FnSets.j1]
        refine ev_neg (by decide) (Ev.bind (impl_SetOk_ev 9 _ (by omega)) (ev_pos (decide_eq_true hJ) ?_))
        refine Ev.bind (impl_Common_ev a b (by omega) (by omega)) (ev_pos ?_ ?_)
        · rw [wAdd a.length b.length (by omega), wrapI _ (by omega) (by omega)]
          omega
        · refine Ev.bind (impl_Common_ev a b (by omega) (by omega)) (Ev.bind (impl_Common_ev b a (by omega) (by omega)) (ev_pos (by rw [hcc]) ?_))
          refine Ev.bind (impl_SetJoin_ev b a (by omega) (by omega)) ?_
          refine Ev.bind (sameInts_ev _ _ (by omega)) (ev_pos (decide_eq_true (join_comm a b)) ?_)
          refine Ev.bind (impl_SetHas_ev _ x (by omega)) (ev_some (decide_eq_true ((mem_setAddL s x x).2 (.inl rfl))))
      · exact tr _ (by simp [hb])
    · exact ev_neg (fun z => ha (of_decide_eq_true z)) (tr true rfl)
  refine Ev.bind e1 (Ev.bind (impl_SetJoin_ev a b (by omega) (by omega)) ?_)
  refine Ev.bind e2 (Ev.bind (impl_SetAdd_ev s x (by omega)) ?_)
  refine Ev.bind e3 (Ev.bind (spec_SetJoin_ev a b (by omega) (by omega)) ?_)
  refine Ev.bind (sameInts_ev _ _ (by omega)) (ev_pos (by simp) ?_)
  refine Ev.bind (spec_SetAdd_ev s x (by omega)) ?_
  refine Ev.bind (sameInts_ev _ _ (by omega)) (ev_pos (by simp) ?_)
  refine Ev.bind (impl_SetOk_ev n o (by omega)) (Ev.bind (spec_SetOk_ev n o (by omega)) (ev_neg (by simp) ?_))
  refine Ev.bind (impl_SetHas_ev s x (by omega)) (Ev.bind (spec_SetHas_ev s x (by omega)) (ev_neg (by simp) ?_))
  refine Ev.bind (impl_Common_ev a b (by omega) (by omega)) (Ev.bind (spec_Common_ev a b (by omega) (by omega)) ?_)
  rw [show ((commonN a b : Int) != (commonN a b : Int)) = false by simp]
  exact main
end
end Go.Proofs.Ytppggjkffgjhkaa.Pure
