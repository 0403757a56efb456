/- The program's LedgerNew returns what the reference returns, and two answers share no memory; no condition. -/
import Derived.Test.YtajblkfgdalldaaPFnExactLedgerNewx1
import Derived.Test.YtajblkfgdalldaaPFnExactLedgerNewx2
namespace Go.Proofs.Ytajblkfgdalldaa.Pure
open Go.RowKit Go.Proofs.Ytajblkfgdalldaa.PFnExactLedgerNew Go.Proofs.YtajblkfgdalldaaW.PrintWords Go.Proofs.YtajblkfgdalldaaW.PrintLast

section
set_option linter.unusedVariables false
set_option linter.unusedSimpArgs false
theorem up1 (n : Nat) (h : n < 4611686018427387904) : wrap64 ((n : Int) + 1) = ((n + 1 : Nat) : Int) := by
  unfold wrap64; omega
theorem up1' (a : Int) (h0 : -4611686018427387904 ≤ a) (h : a < 4611686018427387904) : wrap64 (a + 1) = a + 1 := by
  unfold wrap64; omega
theorem dn1 (a : Int) (h0 : -4611686018427387904 ≤ a) (h : a < 4611686018427387904) : wrap64 (a - 1) = a - 1 := by
  unfold wrap64; omega
theorem wrapI (a : Int) (h0 : -4611686018427387904 ≤ a) (h : a < 4611686018427387904) : wrap64 a = a := by
  unfold wrap64; omega
theorem rd_nat (xs : List Int) (n : Nat) (h : n < xs.length) : rd xs (n : Int) = xs[n] := by
  unfold rd; simp [List.getD_eq_getElem?_getD, h]
theorem ev_eq {α : Type} {g : Nat → Option α} {r s : α} (h : Ev g r) (e : r = s) : Ev g s := e ▸ h
theorem ev_ite {α : Type} {c : Prop} [Decidable c] {g f : Nat → Option α} {r s : α} (hg : c → Ev g r) (hf : ¬ c → Ev f s) : Ev (fun k => if c then g k else f k) (if c then r else s) := by
  by_cases h : c
  · simp only [if_pos h]; exact hg h
  · simp only [if_neg h]; exact hf h
theorem ev_pos {α : Type} {c : Prop} [Decidable c] {g f : Nat → Option α} {r : α} (h : c) (hg : Ev g r) : Ev (fun k => if c then g k else f k) r := by
  simp only [if_pos h]; exact hg
theorem ev_neg {α : Type} {c : Prop} [Decidable c] {g f : Nat → Option α} {r : α} (h : ¬ c) (hf : Ev f r) : Ev (fun k => if c then g k else f k) r := by
  simp only [if_neg h]; exact hf
theorem ev_some {α : Type} {r s : α} (e : r = s) : Ev (fun _ => some r) s := e ▸ Ev.now r
theorem ev_const {α β : Type} {o : Option α} {f : Nat → α → Option β} {a : α} {r : β} (h : o = some a) (k : Ev (fun n => f n a) r) : Ev (fun n => o.bind (f n)) r := by
  subst h; exact k
theorem ev_up {α : Type} {g : Nat → Option α} {r : α} (h : Ev (fun k => g (k + 1)) r) : Ev g r := by
  obtain ⟨K, hK⟩ := h
  refine ⟨K + 1, fun k hk => ?_⟩
  obtain ⟨m, rfl⟩ : ∃ m, k = m + 1 := ⟨k - 1, by omega⟩
  exact hK m (by omega)
theorem wNat (c : Nat) (h : c < 4611686018427387904) : wrap64 (c : Int) = (c : Int) := by unfold wrap64; omega
theorem wAdd (a i : Nat) (h : a + i < 4611686018427387904) : wrap64 ((a : Int) + (i : Int)) = ((a + i : Nat) : Int) := by unfold wrap64; omega
theorem wAdd1 (a i : Nat) (h : a + i < 4611686018427387904) : wrap64 (((a + i : Nat) : Int) + 1) = (a : Int) + ((i + 1 : Nat) : Int) := by unfold wrap64; omega
theorem wSub (a i : Nat) (h : a < 4611686018427387904) (h' : i < 4611686018427387904) : wrap64 ((a : Int) - (i : Int)) = (a : Int) - (i : Int) := by unfold wrap64; omega
theorem tmod128 (c : Nat) : Int.tmod (c : Int) 128 = ((c % 128 : Nat) : Int) := by rw [Int.tmod_eq_emod_of_nonneg (by omega)]; omega
theorem all_drop {α : Type} {P : α → Prop} {l : List α} {i : Nat} (h : i < l.length) : (∀ x ∈ l.drop i, P x) ↔ P l[i] ∧ ∀ x ∈ l.drop (i + 1), P x := by
  rw [List.drop_eq_getElem_cons h, List.forall_mem_cons]

theorem eqIntS_loop (a b : List Int) (hl : a.length ≤ 35184372088832) (hab : a.length = b.length) : ∀ (d n : Nat), a.length - n = d → n ≤ a.length → Ev (fun k => laws_eqIntS.l0 k a b (n : Int)) (decide (a.drop n = b.drop n)) := by
  intro d
  induction d with
  | zero =>
    intro n hd hn
    obtain rfl : n = a.length := by omega
    refine Ev.step (f := fun _ => some true) (fun k => by simp only [laws_eqIntS.l0]; rw [if_neg (by omega)]) (ev_some ?_)
    rw [List.drop_of_length_le (by omega), List.drop_of_length_le (by omega)]; rfl
  | succ d ih =>
    intro n hd hn
    have h1 : n < a.length := by omega
    have h2 : n < b.length := by omega
    have e : (a.drop n = b.drop n) ↔ (a[n] = b[n] ∧ a.drop (n + 1) = b.drop (n + 1)) := by
      rw [List.drop_eq_getElem_cons h1, List.drop_eq_getElem_cons h2, List.cons.injEq]
    by_cases hc : a[n] = b[n]
    · refine Ev.step (f := fun k => laws_eqIntS.l0 k a b ((n + 1 : Nat) : Int)) (fun k => ?_) (ev_eq (ih (n + 1) (by omega) (by omega)) ?_)
      · simp only [laws_eqIntS.l0]
        rw [if_pos (by omega), if_pos (by omega), if_pos (by omega), rd_nat a n h1, rd_nat b n h2, if_pos hc, up1 n (by omega)]
      · exact decide_eq_decide.mpr (by rw [e]; simp [hc])
    · refine Ev.step (f := fun _ => some false) (fun k => ?_) (ev_some ?_)
      · simp only [laws_eqIntS.l0]
        rw [if_pos (by omega), if_pos (by omega), if_pos (by omega), rd_nat a n h1, rd_nat b n h2, if_neg hc]
      · exact (decide_eq_false (by rw [e]; exact fun h => hc h.1)).symm
theorem eqIntS_ev (a b : List Int) (hl : a.length ≤ 35184372088832) : Ev (fun k => laws_eqIntS.f k a b) (decide (a = b)) := by
  unfold laws_eqIntS.f
  by_cases h : a.length = b.length
  · exact ev_pos (by omega) (eqIntS_loop a b hl h a.length 0 (by omega) (by omega))
  · exact ev_neg (by omega) (ev_some (decide_eq_false (fun e => h (by rw [e]))).symm)

theorem eqLedger_refl (l m : List Int) (hl : l.length ≤ 35184372088832) (hm : m.length ≤ 35184372088832) : Ev (fun k => laws_eqLedger.f k l m l m) true := by
  unfold laws_eqLedger.f
  refine Ev.bind (eqIntS_ev l l hl) (ev_pos (by simp) ?_)
  exact Ev.bind (eqIntS_ev m m hm) (ev_pos (by simp) (ev_some rfl))

theorem spec_LedgerNew_ev : Ev (fun k => spec_LedgerNew.f k) ([100, 100, 100, 100], [0, 0, 0, 0]) :=
  Ev.of (fun k => spec_LedgerNew.mono k) (k := 6) (by simp [spec_LedgerNew.f, spec_LedgerNew.l0, wrap64])

theorem impl_LedgerNew_ev : Ev (fun k => impl_LedgerNew.f k) ([100, 100, 100, 100], [0, 0, 0, 0]) :=
  Ev.of (fun k => impl_LedgerNew.mono k) (k := 6) (by simp [impl_LedgerNew.f, impl_LedgerNew.l0, wrap64])

def marks (a : Int) (n : Nat) : List Int := (List.range n).map fun i : Nat => a + (i : Int)
theorem marks_length (a : Int) (n : Nat) : (marks a n).length = n := by simp [marks]
theorem marks_at (a : Int) (n i : Nat) (h : i < (marks a n).length) : (marks a n)[i] = a + (i : Int) := by simp [marks]
theorem markIntS_loop (a : Int) (N : Nat) (h0 : 0 ≤ a) (h1 : a + N < 4611686018427387904) : ∀ (d n : Nat) (x : List Int), N - n = d → n ≤ N → x.length = N → x.take n = (marks a N).take n → Ev (fun k => laws_markIntS.l0 k x (a + n) (n : Int)) (a + N, marks a N) := by
  intro d
  induction d with
  | zero =>
    intro n x hd hn hx ht
    obtain rfl : n = N := by omega
    refine Ev.step (f := fun _ => some (a + n, x)) (fun k => by simp only [laws_markIntS.l0]; rw [if_neg (by omega)]) (ev_some ?_)
    rw [List.take_of_length_le (by omega), List.take_of_length_le (by simp [marks_length])] at ht
    rw [ht]
  | succ d ih =>
    intro n x hd hn hx ht
    have hlt : n < N := by omega
    refine Ev.step (f := fun k => laws_markIntS.l0 k (x.set n (a + n)) (a + (n + 1 : Nat)) ((n + 1 : Nat) : Int)) (fun k => ?_) (ih (n + 1) (x.set n (a + n)) (by omega) (by omega) (by simpa using hx) ?_)
    · simp only [laws_markIntS.l0]
      rw [if_pos (by omega), if_pos (by omega), up1 n (by omega), up1' (a + n) (by omega) (by omega)]
      rw [show a + (n : Int) + 1 = a + ((n + 1 : Nat) : Int) by omega]
      rfl
    · rw [List.take_succ_eq_append_getElem (by simpa [hx] using hlt), List.take_succ_eq_append_getElem (by simpa [marks_length] using hlt)]
      simp [List.take_set_of_le, ht, marks_at]
theorem markIntS_ev (l : List Int) (a : Int) (h0 : 0 ≤ a) (h1 : a + l.length < 4611686018427387904) : Ev (fun k => laws_markIntS.f k l a) (a + l.length, marks a l.length) := by
  unfold laws_markIntS.f
  have := markIntS_loop a l.length h0 h1 l.length 0 l (by omega) (by omega) rfl (by simp)
  simpa using this

theorem markLedger_ev (l m : List Int) (a : Int) (h0 : 0 ≤ a) (h1 : a + l.length + m.length < 4611686018427387904) : Ev (fun k => laws_markLedger.f k l m a) (a + l.length + m.length, marks a l.length, marks (a + l.length) m.length) := by
  unfold laws_markLedger.f
  refine Ev.bind (markIntS_ev l a h0 (by omega)) ?_
  exact Ev.bind (markIntS_ev m _ (by omega) (by omega)) (ev_some rfl)

theorem heldIntS_loop (a : Int) (N : Nat) (h0 : 0 ≤ a) (h1 : a + N < 4611686018427387904) : ∀ (d n : Nat), N - n = d → n ≤ N → Ev (fun k => laws_heldIntS.l0 k (marks a N) (a + n) (n : Int)) (a + N) := by
  intro d
  have hl := marks_length a N
  induction d with
  | zero =>
    intro n hd hn
    obtain rfl : n = N := by omega
    exact Ev.step (f := fun _ => some (a + n)) (fun k => by simp only [laws_heldIntS.l0]; rw [if_neg (by omega)]) (ev_some rfl)
  | succ d ih =>
    intro n hd hn
    have hlt : n < (marks a N).length := by omega
    refine Ev.step (f := fun k => laws_heldIntS.l0 k (marks a N) (a + (n + 1 : Nat)) ((n + 1 : Nat) : Int)) (fun k => ?_) (ih (n + 1) (by omega) (by omega))
    simp only [laws_heldIntS.l0]
    rw [if_pos (by omega), if_pos (by omega), rd_nat _ n hlt, marks_at, if_pos rfl, up1 n (by omega), up1' (a + n) (by omega) (by omega)]
    rw [show a + (n : Int) + 1 = a + ((n + 1 : Nat) : Int) by omega]
theorem heldIntS_ev (a : Int) (N : Nat) (h0 : 0 ≤ a) (h1 : a + N < 4611686018427387904) : Ev (fun k => laws_heldIntS.f k (marks a N) a) (a + N) := by
  unfold laws_heldIntS.f
  have := heldIntS_loop a N h0 h1 N 0 (by omega) (by omega)
  simpa using this

theorem heldLedger_ev (a : Int) (n m : Nat) (h0 : 0 ≤ a) (h1 : a + n + m < 4611686018427387904) : Ev (fun k => laws_heldLedger.f k (marks a n) (marks (a + n) m) a) (a + n + m) := by
  unfold laws_heldLedger.f
  refine Ev.bind (heldIntS_ev a n h0 (by omega)) (ev_neg (by omega) ?_)
  exact Ev.bind (heldIntS_ev (a + n) m (by omega) (by omega)) (ev_neg (by omega) (ev_some rfl))

theorem FnExactLedgerNew : ∃ k, laws_FnExactLedgerNew.f k = some true := by
  refine Ev.rounds ?_
  unfold laws_FnExactLedgerNew.f
  have hm := markLedger_ev [100, 100, 100, 100] [0, 0, 0, 0] 1 (by omega) (by simp)
  have hh := heldLedger_ev 1 4 4 (by omega) (by omega)
  have he := eqLedger_refl [100, 100, 100, 100] [0, 0, 0, 0] (by simp) (by simp)
  refine Ev.bind spec_LedgerNew_ev (Ev.bind impl_LedgerNew_ev ?_)
  refine Ev.bind he (ev_pos rfl (Ev.bind hm ?_))
  refine Ev.bind hh (ev_neg (by simp) (ev_pos (by simp) ?_))
  refine Ev.bind impl_LedgerNew_ev (Ev.bind he (ev_pos rfl ?_))
  exact Ev.bind hh (ev_neg (by simp) (ev_pos (by simp) (ev_some rfl)))
end
end Go.Proofs.Ytajblkfgdalldaa.Pure
