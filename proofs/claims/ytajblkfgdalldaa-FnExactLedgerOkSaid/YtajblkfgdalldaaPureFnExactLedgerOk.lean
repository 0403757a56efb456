/- For every Ledger the program's LedgerOk tells what the reference tells, and the ledger stays as it was; no condition. -/
import Derived.Test.YtajblkfgdalldaaPFnExactLedgerOkx1
import Derived.Test.YtajblkfgdalldaaPFnExactLedgerOkx2
namespace Go.Proofs.Ytajblkfgdalldaa.Pure
open Go.RowKit Go.Proofs.Ytajblkfgdalldaa.PFnExactLedgerOk Go.Proofs.YtajblkfgdalldaaW.PrintWords Go.Proofs.YtajblkfgdalldaaW.PrintLast

section
set_option linter.unusedVariables false
set_option linter.unusedSimpArgs false
theorem up1 (n : Nat) (h : n < 4611686018427387904) : wrap64 ((n : Int) + 1) = ((n + 1 : Nat) : Int) := by
  unfold wrap64; omega
theorem up1' (a : Int) (h0 : -4611686018427387904 ≤ a) (h : a < 4611686018427387904) : wrap64 (a + 1) = a + 1 := by
  unfold wrap64; omega
theorem dn1 (a : Int) (h0 : -4611686018427387904 ≤ a) (h : a < 4611686018427387904) : wrap64 (a - 1) = a - 1 := by
  unfold wrap64; omega
theorem wrapI (a : Int) (h0 : -4611686018427387904 ≤ a) (h : a < 4611686018427387904) : wrap64 a = a := by
  unfold wrap64; omega
theorem rd_nat (xs : List Int) (n : Nat) (h : n < xs.length) : rd xs (n : Int) = xs[n] := by
  unfold rd; simp [List.getD_eq_getElem?_getD, h]
theorem ev_eq {α : Type} {g : Nat → Option α} {r s : α} (h : Ev g r) (e : r = s) : Ev g s := e ▸ h
theorem ev_ite {α : Type} {c : Prop} [Decidable c] {g f : Nat → Option α} {r s : α} (hg : c → Ev g r) (hf : ¬ c → Ev f s) : Ev (fun k => if c then g k else f k) (if c then r else s) := by
  by_cases h : c
  · simp only [if_pos h]; exact hg h
  · simp only [if_neg h]; exact hf h
theorem ev_pos {α : Type} {c : Prop} [Decidable c] {g f : Nat → Option α} {r : α} (h : c) (hg : Ev g r) : Ev (fun k => if c then g k else f k) r := by
  simp only [if_pos h]; exact hg
theorem ev_neg {α : Type} {c : Prop} [Decidable c] {g f : Nat → Option α} {r : α} (h : ¬ c) (hf : Ev f r) : Ev (fun k => if c then g k else f k) r := by
  simp only [if_neg h]; exact hf
theorem ev_some {α : Type} {r s : α} (e : r = s) : Ev (fun _ => some r) s := e ▸ Ev.now r
theorem ev_const {α β : Type} {o : Option α} {f : Nat → α → Option β} {a : α} {r : β} (h : o = some a) (k : Ev (fun n => f n a) r) : Ev (fun n => o.bind (f n)) r := by
  subst h; exact k
theorem ev_up {α : Type} {g : Nat → Option α} {r : α} (h : Ev (fun k => g (k + 1)) r) : Ev g r := by
  obtain ⟨K, hK⟩ := h
  refine ⟨K + 1, fun k hk => ?_⟩
  obtain ⟨m, rfl⟩ : ∃ m, k = m + 1 := ⟨k - 1, by omega⟩
  exact hK m (by omega)
theorem wNat (c : Nat) (h : c < 4611686018427387904) : wrap64 (c : Int) = (c : Int) := by unfold wrap64; omega
theorem wAdd (a i : Nat) (h : a + i < 4611686018427387904) : wrap64 ((a : Int) + (i : Int)) = ((a + i : Nat) : Int) := by unfold wrap64; omega
theorem wAdd1 (a i : Nat) (h : a + i < 4611686018427387904) : wrap64 (((a + i : Nat) : Int) + 1) = (a : Int) + ((i + 1 : Nat) : Int) := by unfold wrap64; omega
theorem wSub (a i : Nat) (h : a < 4611686018427387904) (h' : i < 4611686018427387904) : wrap64 ((a : Int) - (i : Int)) = (a : Int) - (i : Int) := by unfold wrap64; omega
theorem tmod128 (c : Nat) : Int.tmod (c : Int) 128 = ((c % 128 : Nat) : Int) := by rw [Int.tmod_eq_emod_of_nonneg (by omega)]; omega
theorem all_drop {α : Type} {P : α → Prop} {l : List α} {i : Nat} (h : i < l.length) : (∀ x ∈ l.drop i, P x) ↔ P l[i] ∧ ∀ x ∈ l.drop (i + 1), P x := by
  rw [List.drop_eq_getElem_cons h, List.forall_mem_cons]

theorem szIntS_val (l : List Int) (a : Int) (hm : l.length ≤ maxLen) (h0 : 0 ≤ a) (h1 : a ≤ 1048576) : laws_szIntS.f l a = some (if a < l.length then -1 else a - l.length) := by
  unfold maxLen at hm
  have e : wrap64 (a - (l.length : Int)) = a - l.length := by unfold wrap64; omega
  unfold laws_szIntS.f
  rw [e]
  by_cases h : a < l.length
  · rw [if_pos (by omega), if_pos h]
  · rw [if_neg (by omega), if_neg h]

theorem szLedger_val (l m : List Int) (a : Int) (hl : l.length ≤ maxLen) (hm : m.length ≤ maxLen) (h0 : 0 ≤ a) (h1 : a ≤ 1048576) : ∃ r, laws_szLedger.f l m a = some r ∧ (r < 0 ∨ (0 ≤ r ∧ r = a - l.length - m.length)) := by
  unfold laws_szLedger.f
  rw [szIntS_val l a hl h0 h1, Option.bind_some]
  by_cases h : a < l.length
  · rw [if_pos h, if_pos (by omega)]
    exact ⟨-1, rfl, .inl (by omega)⟩
  · rw [if_neg h, if_neg (by omega), szIntS_val m _ hm (by omega) (by omega), Option.bind_some]
    by_cases h2 : a - l.length < m.length
    · rw [if_pos h2, if_pos (by omega)]
      exact ⟨-1, rfl, .inl (by omega)⟩
    · rw [if_neg h2, if_neg (by omega)]
      exact ⟨_, rfl, .inr ⟨by omega, rfl⟩⟩

theorem toIntS_loop (l : List Int) (hl : l.length ≤ 35184372088832) : ∀ (d n : Nat) (x : List Int), l.length - n = d → n ≤ l.length → x.length = l.length → x.take n = l.take n → Ev (fun k => laws_toIntS.l0 k l x (n : Int)) l := by
  intro d
  induction d with
  | zero =>
    intro n x hd hn hx ht
    obtain rfl : n = l.length := by omega
    refine Ev.step (f := fun _ => some x) (fun k => by simp only [laws_toIntS.l0]; rw [if_neg (by omega)]) (ev_some ?_)
    rw [List.take_of_length_le (by omega), List.take_of_length_le (by omega)] at ht
    exact ht
  | succ d ih =>
    intro n x hd hn hx ht
    have h1 : n < l.length := by omega
    refine Ev.step (f := fun k => laws_toIntS.l0 k l (x.set n l[n]) ((n + 1 : Nat) : Int)) (fun k => ?_) (ih (n + 1) (x.set n l[n]) (by omega) (by omega) (by simpa using hx) ?_)
    · simp only [laws_toIntS.l0]
      rw [if_pos (by omega), if_pos (by omega), if_pos (by omega), up1 n (by omega), rd_nat l n h1]
      rfl
    · rw [List.take_succ_eq_append_getElem (by simpa [hx] using h1), List.take_succ_eq_append_getElem h1]
      simp [List.take_set_of_le, ht]
theorem toIntS_ev (l : List Int) (hl : l.length ≤ 35184372088832) : Ev (fun k => laws_toIntS.f k l) l := by
  unfold laws_toIntS.f
  refine ev_pos (by omega) (ev_pos (by simpa using hl) ?_)
  exact toIntS_loop l hl l.length 0 _ (by omega) (by omega) (by simp) (by simp)

theorem toLedger_ev (l m : List Int) (hl : l.length ≤ 35184372088832) (hm : m.length ≤ 35184372088832) : Ev (fun k => laws_toLedger.f k l m) (l, m) := by
  unfold laws_toLedger.f
  exact Ev.bind (toIntS_ev l hl) (Ev.bind (toIntS_ev m hm) (ev_some rfl))

theorem eqIntS_loop (a b : List Int) (hl : a.length ≤ 35184372088832) (hab : a.length = b.length) : ∀ (d n : Nat), a.length - n = d → n ≤ a.length → Ev (fun k => laws_eqIntS.l0 k a b (n : Int)) (decide (a.drop n = b.drop n)) := by
  intro d
  induction d with
  | zero =>
    intro n hd hn
    obtain rfl : n = a.length := by omega
    refine Ev.step (f := fun _ => some true) (fun k => by simp only [laws_eqIntS.l0]; rw [if_neg (by omega)]) (ev_some ?_)
    rw [List.drop_of_length_le (by omega), List.drop_of_length_le (by omega)]; rfl
  | succ d ih =>
    intro n hd hn
    have h1 : n < a.length := by omega
    have h2 : n < b.length := by omega
    have e : (a.drop n = b.drop n) ↔ (a[n] = b[n] ∧ a.drop (n + 1) = b.drop (n + 1)) := by
      rw [List.drop_eq_getElem_cons h1, List.drop_eq_getElem_cons h2, List.cons.injEq]
    by_cases hc : a[n] = b[n]
    · refine Ev.step (f := fun k => laws_eqIntS.l0 k a b ((n + 1 : Nat) : Int)) (fun k => ?_) (ev_eq (ih (n + 1) (by omega) (by omega)) ?_)
      · simp only [laws_eqIntS.l0]
        rw [if_pos (by omega), if_pos (by omega), if_pos (by omega), rd_nat a n h1, rd_nat b n h2, if_pos hc, up1 n (by omega)]
      · exact decide_eq_decide.mpr (by rw [e]; simp [hc])
    · refine Ev.step (f := fun _ => some false) (fun k => ?_) (ev_some ?_)
      · simp only [laws_eqIntS.l0]
        rw [if_pos (by omega), if_pos (by omega), if_pos (by omega), rd_nat a n h1, rd_nat b n h2, if_neg hc]
      · exact (decide_eq_false (by rw [e]; exact fun h => hc h.1)).symm
theorem eqIntS_ev (a b : List Int) (hl : a.length ≤ 35184372088832) : Ev (fun k => laws_eqIntS.f k a b) (decide (a = b)) := by
  unfold laws_eqIntS.f
  by_cases h : a.length = b.length
  · exact ev_pos (by omega) (eqIntS_loop a b hl h a.length 0 (by omega) (by omega))
  · exact ev_neg (by omega) (ev_some (decide_eq_false (fun e => h (by rw [e]))).symm)

theorem eqLedger_refl (l m : List Int) (hl : l.length ≤ 35184372088832) (hm : m.length ≤ 35184372088832) : Ev (fun k => laws_eqLedger.f k l m l m) true := by
  unfold laws_eqLedger.f
  refine Ev.bind (eqIntS_ev l l hl) (ev_pos (by simp) ?_)
  exact Ev.bind (eqIntS_ev m m hm) (ev_pos (by simp) (ev_some rfl))

theorem spec_l1In_val (a b c : Int) : spec_l1In.f a b c = some (decide (b ≤ a ∧ a ≤ c)) := by
  unfold spec_l1In.f
  by_cases h : a ≥ b <;> by_cases h2 : a ≤ c <;> simp [h, h2] <;> omega

def ledgerIs (h n : List Int) : Prop := (h.length = 4 ∧ n.length = 4) ∧ (∀ x ∈ h, 0 ≤ x ∧ x ≤ 400) ∧ ∀ x ∈ n, 0 ≤ x ∧ x ≤ 100
instance (h n : List Int) : Decidable (ledgerIs h n) := by unfold ledgerIs; infer_instance
theorem spec_LedgerOk_loop (h n : List Int) (hh : h.length = 4) (hn : n.length = 4) : ∀ (d i : Nat), i + d = 4 → Ev (fun k => spec_LedgerOk.l0 k (i : Int) h n) (decide ((∀ x ∈ h.drop i, 0 ≤ x ∧ x ≤ 400) ∧ ∀ x ∈ n.drop i, 0 ≤ x ∧ x ≤ 100)) := by
  intro d
  induction d with
  | zero =>
    intro i hi
    refine Ev.step (f := fun _ => some true) (fun k => by simp only [spec_LedgerOk.l0]; rw [if_neg (by omega)]) (ev_some ?_)
    rw [List.drop_of_length_le (by omega), List.drop_of_length_le (by omega)]; simp
  | succ d ih =>
    intro i hi
    have h1 : i < h.length := by omega
    have h2 : i < n.length := by omega
    refine Ev.step (f := fun k => (spec_l1In.f h[i] 0 400).bind fun t => if t = true then ((spec_l1In.f n[i] 0 100).bind fun u => if u = true then spec_LedgerOk.l0 k ((i + 1 : Nat) : Int) h n else some false) else some false) (fun k => by simp only [spec_LedgerOk.l0]; rw [if_pos (by omega), if_pos (by omega), if_pos (by omega), if_pos (by omega), rd_nat h i h1, rd_nat n i h2, up1 i (by omega)]) ?_
    refine ev_const (spec_l1In_val _ _ _) ?_
    by_cases c1 : 0 ≤ h[i] ∧ h[i] ≤ 400
    · refine ev_pos (by simpa using c1) (ev_const (spec_l1In_val _ _ _) ?_)
      by_cases c2 : 0 ≤ n[i] ∧ n[i] ≤ 100
      · exact ev_pos (by simpa using c2) (ev_eq (ih (i + 1) (by omega)) (decide_eq_decide.mpr (by rw [all_drop h1, all_drop h2]; exact ⟨fun z => ⟨⟨c1, z.1⟩, c2, z.2⟩, fun z => ⟨z.1.2, z.2.2⟩⟩)))
      · exact ev_neg (by simpa using c2) (ev_some (decide_eq_false (by rw [all_drop h2]; exact fun z => c2 z.2.1)).symm)
    · exact ev_neg (by simpa using c1) (ev_some (decide_eq_false (by rw [all_drop h1]; exact fun z => c1 z.1.1)).symm)
theorem spec_LedgerOk_ev (h n : List Int) : Ev (fun k => spec_LedgerOk.f k h n) (decide (ledgerIs h n)) := by
  unfold spec_LedgerOk.f ledgerIs
  have tr : ∀ b : Bool, b = true → Ev (fun k => spec_LedgerOk.j0 k b h n) false := fun b hb => Ev.step (f := fun _ => some false) (fun k => by simp only [spec_LedgerOk.j0]; rw [if_pos hb]) (ev_some rfl)
  by_cases hh : h.length = 4
  · refine ev_pos (by omega) ?_
    by_cases hn : n.length = 4
    · rw [show ((n.length : Int) != 4) = false by simp; omega]
      refine Ev.step (f := fun k => spec_LedgerOk.l0 k 0 h n) (fun k => by simp only [spec_LedgerOk.j0]; rw [if_neg (by decide)]) ?_
      refine ev_eq (spec_LedgerOk_loop h n hh hn 4 0 rfl) (decide_eq_decide.mpr ?_)
      simp [hh, hn]
    · exact ev_eq (tr _ (by simp; omega)) (decide_eq_false (fun z => hn z.1.2)).symm
  · exact ev_neg (by omega) (ev_eq (tr true rfl) (decide_eq_false (fun z => hh z.1.1)).symm)

theorem impl_within_val (a b c : Int) : impl_within.f a b c = some (decide (b ≤ a ∧ a ≤ c)) := by
  unfold impl_within.f
  by_cases h : a ≥ b <;> by_cases h2 : a ≤ c <;> simp [h, h2] <;> omega

theorem allWithin_loop (l : List Int) (lo hi : Int) (hl : l.length ≤ 35184372088832) : ∀ (d i : Nat), l.length - i = d → i ≤ l.length → Ev (fun k => impl_allWithin.l0 k lo hi l (l.length : Int) (i : Int)) (decide (∀ x ∈ l.drop i, lo ≤ x ∧ x ≤ hi)) := by
  intro d
  induction d with
  | zero =>
    intro i hd hi'
    refine Ev.step (f := fun _ => some true) (fun k => by simp only [impl_allWithin.l0]; rw [if_neg (by omega)]) (ev_some ?_)
    rw [List.drop_of_length_le (by omega)]; simp
  | succ d ih =>
    intro i hd hi'
    have h1 : i < l.length := by omega
    refine Ev.step (f := fun k => (impl_within.f l[i] lo hi).bind fun t => if t = true then impl_allWithin.l0 k lo hi l (l.length : Int) ((i + 1 : Nat) : Int) else some false) (fun k => by simp only [impl_allWithin.l0]; rw [if_pos (by omega), if_pos (by omega), if_pos (by omega), rd_nat l i h1, up1 i (by omega)]) ?_
    refine ev_const (impl_within_val _ _ _) ?_
    by_cases c1 : lo ≤ l[i] ∧ l[i] ≤ hi
    · exact ev_pos (by simpa using c1) (ev_eq (ih (i + 1) (by omega) (by omega)) (decide_eq_decide.mpr (by rw [all_drop h1]; exact ⟨fun z => ⟨c1, z⟩, fun z => z.2⟩)))
    · exact ev_neg (by simpa using c1) (ev_some (decide_eq_false (by rw [all_drop h1]; exact fun z => c1 z.1)).symm)
theorem allWithin_ev (l : List Int) (lo hi : Int) (hl : l.length ≤ 35184372088832) : Ev (fun k => impl_allWithin.f k l lo hi) (decide (∀ x ∈ l, lo ≤ x ∧ x ≤ hi)) := by
  unfold impl_allWithin.f
  exact allWithin_loop l lo hi hl l.length 0 (by omega) (by omega)

theorem impl_LedgerOk_ev (h n : List Int) : Ev (fun k => impl_LedgerOk.f k h n) (decide (ledgerIs h n)) := by
  unfold impl_LedgerOk.f ledgerIs
  by_cases hh : h.length = 4
  · refine ev_pos (by omega) ?_
    by_cases hn : n.length = 4
    · refine ev_pos (by omega) (Ev.bind (allWithin_ev h 0 400 (by omega)) ?_)
      by_cases c : ∀ x ∈ h, 0 ≤ x ∧ x ≤ 400
      · exact ev_pos (decide_eq_true c) (Ev.bind (allWithin_ev n 0 100 (by omega)) (ev_some (decide_eq_decide.mpr ⟨fun z => ⟨⟨hh, hn⟩, c, z⟩, fun z => z.2.2⟩)))
      · exact ev_neg (by simpa using c) (ev_some (decide_eq_false (fun z => c z.2.1)).symm)
    · exact ev_neg (by omega) (ev_some (decide_eq_false (fun z => hn z.1.2)).symm)
  · exact ev_neg (by omega) (ev_some (decide_eq_false (fun z => hh z.1.1)).symm)

theorem FnExactLedgerOk (h n : List Int) (hm : h.length ≤ maxLen) (hw : ∀ x ∈ h, (Lit.int .i64 x).wf = true) (hm' : n.length ≤ maxLen) (hw' : ∀ x ∈ n, (Lit.int .i64 x).wf = true) : ∃ k, laws_FnExactLedgerOk.f k h n = some true := by
  refine Ev.rounds ?_
  unfold laws_FnExactLedgerOk.f
  obtain ⟨r, hr, hc⟩ := szLedger_val h n 1048576 hm hm' (by omega) (by omega)
  refine ev_const hr ?_
  rcases hc with hc | ⟨h0, h1⟩
  · exact ev_pos hc (ev_some rfl)
  refine ev_neg (by omega) ?_
  have b1 : h.length ≤ 35184372088832 := by omega
  have b2 : n.length ≤ 35184372088832 := by omega
  refine Ev.bind (toLedger_ev h n b1 b2) (Ev.bind (spec_LedgerOk_ev h n) ?_)
  refine Ev.bind (toLedger_ev h n b1 b2) (Ev.bind (impl_LedgerOk_ev h n) ?_)
  refine ev_neg (by simp) ?_
  refine Ev.bind (toLedger_ev h n b1 b2) (Ev.bind (eqLedger_refl h n b1 b2) ?_)
  exact ev_pos rfl (ev_some rfl)
end
end Go.Proofs.Ytajblkfgdalldaa.Pure
