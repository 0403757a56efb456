/- For every number and every slice the program's SetOk tells what the reference tells, and the slice stays as it was; no condition. -/
import Derived.Test.YtppggjkffgjhkaaPFnExactSetOkx1
namespace Go.Proofs.Ytppggjkffgjhkaa.Pure
open Go.RowKit Go.Proofs.Ytppggjkffgjhkaa.PFnExactSetOk Go.Proofs.YtppggjkffgjhkaaW.PrintWords Go.Proofs.YtppggjkffgjhkaaW.PrintLast

section
set_option linter.unusedVariables false
set_option linter.unusedSimpArgs false
theorem up1 (n : Nat) (h : n < 4611686018427387904) : wrap64 ((n : Int) + 1) = ((n + 1 : Nat) : Int) := by
  unfold wrap64; omega
theorem up1' (a : Int) (h0 : -4611686018427387904 ≤ a) (h : a < 4611686018427387904) : wrap64 (a + 1) = a + 1 := by
  unfold wrap64; omega
theorem dn1 (a : Int) (h0 : -4611686018427387904 ≤ a) (h : a < 4611686018427387904) : wrap64 (a - 1) = a - 1 := by
  unfold wrap64; omega
theorem wrapI (a : Int) (h0 : -4611686018427387904 ≤ a) (h : a < 4611686018427387904) : wrap64 a = a := by
  unfold wrap64; omega
theorem rd_nat (xs : List Int) (n : Nat) (h : n < xs.length) : rd xs (n : Int) = xs[n] := by
  unfold rd; simp [List.getD_eq_getElem?_getD, h]
theorem ev_eq {α : Type} {g : Nat → Option α} {r s : α} (h : Ev g r) (e : r = s) : Ev g s := e ▸ h
theorem ev_ite {α : Type} {c : Prop} [Decidable c] {g f : Nat → Option α} {r s : α} (hg : c → Ev g r) (hf : ¬ c → Ev f s) : Ev (fun k => if c then g k else f k) (if c then r else s) := by
  by_cases h : c
  · simp only [if_pos h]; exact hg h
  · simp only [if_neg h]; exact hf h
theorem ev_pos {α : Type} {c : Prop} [Decidable c] {g f : Nat → Option α} {r : α} (h : c) (hg : Ev g r) : Ev (fun k => if c then g k else f k) r := by
  simp only [if_pos h]; exact hg
theorem ev_neg {α : Type} {c : Prop} [Decidable c] {g f : Nat → Option α} {r : α} (h : ¬ c) (hf : Ev f r) : Ev (fun k => if c then g k else f k) r := by
  simp only [if_neg h]; exact hf
theorem ev_some {α : Type} {r s : α} (e : r = s) : Ev (fun _ => some r) s := e ▸ Ev.now r
theorem ev_const {α β : Type} {o : Option α} {f : Nat → α → Option β} {a : α} {r : β} (h : o = some a) (k : Ev (fun n => f n a) r) : Ev (fun n => o.bind (f n)) r := by
  subst h; exact k
theorem ev_up {α : Type} {g : Nat → Option α} {r : α} (h : Ev (fun k => g (k + 1)) r) : Ev g r := by
  obtain ⟨K, hK⟩ := h
  refine ⟨K + 1, fun k hk => ?_⟩
  obtain ⟨m, rfl⟩ : ∃ m, k = m + 1 := ⟨k - 1, by omega⟩
  exact hK m (by omega)

def okAt (n : Int) (l : List Int) (j : Nat) : Prop := 0 ≤ l.getD j 0 ∧ l.getD j 0 < n ∧ (0 < j → l.getD (j - 1) 0 < l.getD j 0)
instance (n : Int) (l : List Int) (j : Nat) : Decidable (okAt n l j) := by unfold okAt; infer_instance
def okFrom (n : Int) (l : List Int) (i : Nat) : Prop := ∀ j, i ≤ j → j < l.length → okAt n l j
theorem okFrom_step {n : Int} {l : List Int} {i : Nat} (h : i < l.length) : okFrom n l i ↔ okAt n l i ∧ okFrom n l (i + 1) := by
  refine ⟨fun H => ⟨H i (Nat.le_refl _) h, fun j hj => H j (by omega)⟩, fun H j hj hl => ?_⟩
  rcases Nat.eq_or_lt_of_le hj with rfl | hj
  · exact H.1
  · exact H.2 j (by omega) hl
theorem okFrom_end {n : Int} {l : List Int} : okFrom n l l.length := fun j h1 h2 => absurd h2 (by omega)
open Classical in
theorem spec_SetOk_loop (n : Int) (l : List Int) (hl : l.length ≤ 35184372088832) : ∀ (d i : Nat), l.length - i = d → i ≤ l.length → Ev (fun k => spec_SetOk.l0 k n l (i : Int)) (decide (okFrom n l i)) := by
  intro d
  induction d with
  | zero =>
    intro i hd hi
    obtain rfl : i = l.length := by omega
    exact Ev.step (f := fun _ => some true) (fun k => by simp only [spec_SetOk.l0]; rw [if_neg (by omega)]) (ev_some (decide_eq_true okFrom_end).symm)
  | succ d ih =>
    intro i hd hi
    have h1 : i < l.length := by omega
    have g : l.getD i 0 = l[i] := by simp [List.getD_eq_getElem?_getD, h1]
    by_cases c1 : l[i] < 0
    · refine Ev.step (f := fun _ => some false) (fun k => by simp only [spec_SetOk.l0]; rw [if_pos (by omega), if_pos (by omega), rd_nat l i h1, if_pos c1]) (ev_some (decide_eq_false fun H => ?_).symm)
      have := (okFrom_step h1).1 H; unfold okAt at this; omega
    by_cases c2 : l[i] ≥ n
    · refine Ev.step (f := fun _ => some false) (fun k => by simp only [spec_SetOk.l0]; rw [if_pos (by omega), if_pos (by omega), rd_nat l i h1, if_neg c1, if_pos c2]) (ev_some (decide_eq_false fun H => ?_).symm)
      have := (okFrom_step h1).1 H; unfold okAt at this; omega
    have rest := ih (i + 1) (by omega) (by omega)
    by_cases c3 : (i : Int) > 0
    · have e1 : wrap64 ((i : Int) - 1) = ((i - 1 : Nat) : Int) := by unfold wrap64; omega
      have g2 : l.getD (i - 1) 0 = l[i - 1] := by simp [List.getD_eq_getElem?_getD, show i - 1 < l.length by omega]
      by_cases c4 : l[i - 1] ≥ l[i]
      · refine Ev.step (f := fun _ => some false) (fun k => by simp only [spec_SetOk.l0]; rw [if_pos (by omega), if_pos (by omega), rd_nat l i h1, if_neg c1, if_neg c2, if_pos c3, e1, if_pos (by omega), if_pos (by omega), rd_nat l (i - 1) (by omega), if_pos c4]) (ev_some (decide_eq_false fun H => ?_).symm)
        have := (okFrom_step h1).1 H; unfold okAt at this; omega
      · refine Ev.step (f := fun k => spec_SetOk.l0 k n l ((i + 1 : Nat) : Int)) (fun k => by simp only [spec_SetOk.l0]; rw [if_pos (by omega), if_pos (by omega), rd_nat l i h1, if_neg c1, if_neg c2, if_pos c3, e1, if_pos (by omega), if_pos (by omega), rd_nat l (i - 1) (by omega), if_neg c4, up1 i (by omega)]) (ev_eq rest (decide_eq_decide.mpr ?_))
        rw [okFrom_step h1]; exact ⟨fun H => ⟨by unfold okAt; omega, H⟩, fun H => H.2⟩
    · refine Ev.step (f := fun k => spec_SetOk.l0 k n l ((i + 1 : Nat) : Int)) (fun k => by simp only [spec_SetOk.l0]; rw [if_pos (by omega), if_pos (by omega), rd_nat l i h1, if_neg c1, if_neg c2, if_neg c3, up1 i (by omega)]) (ev_eq rest (decide_eq_decide.mpr ?_))
      rw [okFrom_step h1]; exact ⟨fun H => ⟨by unfold okAt; omega, H⟩, fun H => H.2⟩
open Classical in
theorem spec_SetOk_ev (n : Int) (l : List Int) (hl : l.length ≤ 35184372088832) : Ev (fun k => spec_SetOk.f k n l) (decide (okFrom n l 0)) := by
  unfold spec_SetOk.f
  exact spec_SetOk_loop n l hl l.length 0 (by omega) (by omega)

theorem toIntS_loop (l : List Int) (hl : l.length ≤ 35184372088832) : ∀ (d n : Nat) (x : List Int), l.length - n = d → n ≤ l.length → x.length = l.length → x.take n = l.take n → Ev (fun k => laws_toIntS.l0 k l x (n : Int)) l := by
  intro d
  induction d with
  | zero =>
    intro n x hd hn hx ht
    obtain rfl : n = l.length := by omega
    refine Ev.step (f := fun _ => some x) (fun k => by simp only [laws_toIntS.l0]; rw [if_neg (by omega)]) (ev_some ?_)
    rw [List.take_of_length_le (by omega), List.take_of_length_le (by omega)] at ht
    exact ht
  | succ d ih =>
    intro n x hd hn hx ht
    have h1 : n < l.length := by omega
    refine Ev.step (f := fun k => laws_toIntS.l0 k l (x.set n l[n]) ((n + 1 : Nat) : Int)) (fun k => ?_) (ih (n + 1) (x.set n l[n]) (by omega) (by omega) (by simpa using hx) ?_)
    · simp only [laws_toIntS.l0]
      rw [if_pos (by omega), if_pos (by omega), if_pos (by omega), up1 n (by omega), rd_nat l n h1]
      rfl
    · rw [List.take_succ_eq_append_getElem (by simpa [hx] using h1), List.take_succ_eq_append_getElem h1]
      simp [List.take_set_of_le, ht]
theorem toIntS_ev (l : List Int) (hl : l.length ≤ 35184372088832) : Ev (fun k => laws_toIntS.f k l) l := by
  unfold laws_toIntS.f
  refine ev_pos (by omega) (ev_pos (by simpa using hl) ?_)
  exact toIntS_loop l hl l.length 0 _ (by omega) (by omega) (by simp) (by simp)

open Classical in
theorem impl_SetOk_loop (n : Int) (l : List Int) (hl : l.length ≤ 35184372088832) : ∀ (d i : Nat), l.length - i = d → i ≤ l.length → Ev (fun k => impl_SetOk.l0 k n l l (l.length : Int) (i : Int)) (decide (okFrom n l i)) := by
  intro d
  induction d with
  | zero =>
    intro i hd hi
    obtain rfl : i = l.length := by omega
    exact Ev.step (f := fun _ => some true) (fun k => by simp only [impl_SetOk.l0]; rw [if_neg (by omega)]) (ev_some (decide_eq_true okFrom_end).symm)
  | succ d ih =>
    intro i hd hi
    have h1 : i < l.length := by omega
    have g : l.getD i 0 = l[i] := by simp [List.getD_eq_getElem?_getD, h1]
    by_cases c1 : l[i] < 0
    · refine Ev.step (f := fun _ => some false) (fun k => by simp only [impl_SetOk.l0]; rw [if_pos (by omega), if_pos (by omega), if_pos (by omega), rd_nat l i h1, if_pos c1]) (ev_some (decide_eq_false fun H => ?_).symm)
      have := (okFrom_step h1).1 H; unfold okAt at this; omega
    by_cases c2 : l[i] ≥ n
    · refine Ev.step (f := fun _ => some false) (fun k => by simp only [impl_SetOk.l0]; rw [if_pos (by omega), if_pos (by omega), if_pos (by omega), rd_nat l i h1, if_neg c1, if_pos c2]) (ev_some (decide_eq_false fun H => ?_).symm)
      have := (okFrom_step h1).1 H; unfold okAt at this; omega
    have rest := ih (i + 1) (by omega) (by omega)
    by_cases c3 : (i : Int) > 0
    · have e1 : wrap64 ((i : Int) - 1) = ((i - 1 : Nat) : Int) := by unfold wrap64; omega
      have g2 : l.getD (i - 1) 0 = l[i - 1] := by simp [List.getD_eq_getElem?_getD, show i - 1 < l.length by omega]
      by_cases c4 : l[i - 1] ≥ l[i]
      · refine Ev.step (f := fun _ => some false) (fun k => by simp only [impl_SetOk.l0]; rw [if_pos (by omega), if_pos (by omega), if_pos (by omega), rd_nat l i h1, if_neg c1, if_neg c2, if_pos c3, e1, if_pos (by omega), if_pos (by omega), rd_nat l (i - 1) (by omega), if_pos c4]) (ev_some (decide_eq_false fun H => ?_).symm)
        have := (okFrom_step h1).1 H; unfold okAt at this; omega
      · refine Ev.step (f := fun k => impl_SetOk.l0 k n l l (l.length : Int) ((i + 1 : Nat) : Int)) (fun k => by simp only [impl_SetOk.l0]; rw [if_pos (by omega), if_pos (by omega), if_pos (by omega), rd_nat l i h1, if_neg c1, if_neg c2, if_pos c3, e1, if_pos (by omega), if_pos (by omega), rd_nat l (i - 1) (by omega), if_neg c4, up1 i (by omega)]) (ev_eq rest (decide_eq_decide.mpr ?_))
        rw [okFrom_step h1]; exact ⟨fun H => ⟨by unfold okAt; omega, H⟩, fun H => H.2⟩
    · refine Ev.step (f := fun k => impl_SetOk.l0 k n l l (l.length : Int) ((i + 1 : Nat) : Int)) (fun k => by simp only [impl_SetOk.l0]; rw [if_pos (by omega), if_pos (by omega), if_pos (by omega), rd_nat l i h1, if_neg c1, if_neg c2, if_neg c3, up1 i (by omega)]) (ev_eq rest (decide_eq_decide.mpr ?_))
      rw [okFrom_step h1]; exact ⟨fun H => ⟨by unfold okAt; omega, H⟩, fun H => H.2⟩
open Classical in
theorem impl_SetOk_ev (n : Int) (l : List Int) (hl : l.length ≤ 35184372088832) : Ev (fun k => impl_SetOk.f k n l) (decide (okFrom n l 0)) := by
  unfold impl_SetOk.f
  exact impl_SetOk_loop n l hl l.length 0 (by omega) (by omega)

theorem eqIntS_loop (a b : List Int) (hl : a.length ≤ 35184372088832) (hab : a.length = b.length) : ∀ (d n : Nat), a.length - n = d → n ≤ a.length → Ev (fun k => laws_eqIntS.l0 k a b (n : Int)) (decide (a.drop n = b.drop n)) := by
  intro d
  induction d with
  | zero =>
    intro n hd hn
    obtain rfl : n = a.length := by omega
    refine Ev.step (f := fun _ => some true) (fun k => by simp only [laws_eqIntS.l0]; rw [if_neg (by omega)]) (ev_some ?_)
    rw [List.drop_of_length_le (by omega), List.drop_of_length_le (by omega)]; rfl
  | succ d ih =>
    intro n hd hn
    have h1 : n < a.length := by omega
    have h2 : n < b.length := by omega
    have e : (a.drop n = b.drop n) ↔ (a[n] = b[n] ∧ a.drop (n + 1) = b.drop (n + 1)) := by
      rw [List.drop_eq_getElem_cons h1, List.drop_eq_getElem_cons h2, List.cons.injEq]
    by_cases hc : a[n] = b[n]
    · refine Ev.step (f := fun k => laws_eqIntS.l0 k a b ((n + 1 : Nat) : Int)) (fun k => ?_) (ev_eq (ih (n + 1) (by omega) (by omega)) ?_)
      · simp only [laws_eqIntS.l0]
        rw [if_pos (by omega), if_pos (by omega), if_pos (by omega), rd_nat a n h1, rd_nat b n h2, if_pos hc, up1 n (by omega)]
      · exact decide_eq_decide.mpr (by rw [e]; simp [hc])
    · refine Ev.step (f := fun _ => some false) (fun k => ?_) (ev_some ?_)
      · simp only [laws_eqIntS.l0]
        rw [if_pos (by omega), if_pos (by omega), if_pos (by omega), rd_nat a n h1, rd_nat b n h2, if_neg hc]
      · exact (decide_eq_false (by rw [e]; exact fun h => hc h.1)).symm
theorem eqIntS_ev (a b : List Int) (hl : a.length ≤ 35184372088832) : Ev (fun k => laws_eqIntS.f k a b) (decide (a = b)) := by
  unfold laws_eqIntS.f
  by_cases h : a.length = b.length
  · exact ev_pos (by omega) (eqIntS_loop a b hl h a.length 0 (by omega) (by omega))
  · exact ev_neg (by omega) (ev_some (decide_eq_false (fun e => h (by rw [e]))).symm)

theorem FnExactSetOk (a : Int) (l : List Int) (wa : (Lit.int .i64 a).wf = true) (hm : l.length ≤ maxLen) (hw : ∀ x ∈ l, (Lit.int .i64 x).wf = true) : ∃ k, laws_FnExactSetOk.f k a l = some true := by
  refine Ev.rounds ?_
  unfold laws_FnExactSetOk.f
  by_cases hl : (l.length : Int) > 1048576
  · exact ev_pos hl (ev_some rfl)
  have hb : l.length ≤ 35184372088832 := by omega
  refine ev_neg hl ?_
  refine Ev.bind (toIntS_ev l hb) ?_
  refine Ev.bind (spec_SetOk_ev a l hb) ?_
  refine Ev.bind (toIntS_ev l hb) ?_
  refine Ev.bind (impl_SetOk_ev a l hb) ?_
  refine ev_neg (by simp) ?_
  refine Ev.bind (toIntS_ev l hb) ?_
  refine Ev.bind (eqIntS_ev l l hb) ?_
  exact ev_pos (by simp) (ev_some rfl)
end
end Go.Proofs.Ytppggjkffgjhkaa.Pure
