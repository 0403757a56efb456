/- For every Conf the program's Quorum tells what the reference tells; no condition. -/
import Derived.Test.YtppggjkffgjhkaaPFnExactQuorumx1
namespace Go.Proofs.Ytppggjkffgjhkaa.Pure
open Go.RowKit Go.Proofs.Ytppggjkffgjhkaa.PFnExactQuorum Go.Proofs.YtppggjkffgjhkaaW.PrintWords Go.Proofs.YtppggjkffgjhkaaW.PrintLast

section
set_option linter.unusedVariables false
set_option linter.unusedSimpArgs false
theorem up1 (n : Nat) (h : n < 4611686018427387904) : wrap64 ((n : Int) + 1) = ((n + 1 : Nat) : Int) := by
  unfold wrap64; omega
theorem up1' (a : Int) (h0 : -4611686018427387904 ≤ a) (h : a < 4611686018427387904) : wrap64 (a + 1) = a + 1 := by
  unfold wrap64; omega
theorem dn1 (a : Int) (h0 : -4611686018427387904 ≤ a) (h : a < 4611686018427387904) : wrap64 (a - 1) = a - 1 := by
  unfold wrap64; omega
theorem wrapI (a : Int) (h0 : -4611686018427387904 ≤ a) (h : a < 4611686018427387904) : wrap64 a = a := by
  unfold wrap64; omega
theorem rd_nat (xs : List Int) (n : Nat) (h : n < xs.length) : rd xs (n : Int) = xs[n] := by
  unfold rd; simp [List.getD_eq_getElem?_getD, h]
theorem ev_eq {α : Type} {g : Nat → Option α} {r s : α} (h : Ev g r) (e : r = s) : Ev g s := e ▸ h
theorem ev_ite {α : Type} {c : Prop} [Decidable c] {g f : Nat → Option α} {r s : α} (hg : c → Ev g r) (hf : ¬ c → Ev f s) : Ev (fun k => if c then g k else f k) (if c then r else s) := by
  by_cases h : c
  · simp only [if_pos h]; exact hg h
  · simp only [if_neg h]; exact hf h
theorem ev_pos {α : Type} {c : Prop} [Decidable c] {g f : Nat → Option α} {r : α} (h : c) (hg : Ev g r) : Ev (fun k => if c then g k else f k) r := by
  simp only [if_pos h]; exact hg
theorem ev_neg {α : Type} {c : Prop} [Decidable c] {g f : Nat → Option α} {r : α} (h : ¬ c) (hf : Ev f r) : Ev (fun k => if c then g k else f k) r := by
  simp only [if_neg h]; exact hf
theorem ev_some {α : Type} {r s : α} (e : r = s) : Ev (fun _ => some r) s := e ▸ Ev.now r
theorem ev_const {α β : Type} {o : Option α} {f : Nat → α → Option β} {a : α} {r : β} (h : o = some a) (k : Ev (fun n => f n a) r) : Ev (fun n => o.bind (f n)) r := by
  subst h; exact k
theorem ev_up {α : Type} {g : Nat → Option α} {r : α} (h : Ev (fun k => g (k + 1)) r) : Ev g r := by
  obtain ⟨K, hK⟩ := h
  refine ⟨K + 1, fun k hk => ?_⟩
  obtain ⟨m, rfl⟩ : ∃ m, k = m + 1 := ⟨k - 1, by omega⟩
  exact hK m (by omega)

theorem spec_l1In_val (a b c : Int) : spec_l1In.f a b c = some (decide (b ≤ a ∧ a ≤ c)) := by
  unfold spec_l1In.f
  by_cases h : a ≥ b <;> by_cases h2 : a ≤ c <;> simp [h, h2] <;> omega

def confIs (n f : Int) : Prop := (4 ≤ n ∧ n ≤ 7) ∧ (1 ≤ f ∧ f ≤ 6)
instance (n f : Int) : Decidable (confIs n f) := by unfold confIs; infer_instance
theorem spec_ConfOk_val (n f : Int) : spec_ConfOk.f n f = some (decide (confIs n f)) := by
  unfold spec_ConfOk.f confIs
  simp only [spec_l1In_val, Option.bind_some, decide_eq_true_eq]
  by_cases h1 : 4 ≤ n ∧ n ≤ 7 <;> by_cases h2 : 1 ≤ f ∧ f ≤ 6 <;> simp only [h1, h2, if_true, if_false, true_and, false_and, and_false, and_self, decide_false]

theorem impl_within_val (a b c : Int) : impl_within.f a b c = some (decide (b ≤ a ∧ a ≤ c)) := by
  unfold impl_within.f
  by_cases h : a ≥ b <;> by_cases h2 : a ≤ c <;> simp [h, h2] <;> omega

theorem impl_ConfOk_val (n f : Int) : impl_ConfOk.f n f = some (decide (confIs n f)) := by
  unfold impl_ConfOk.f confIs
  simp only [impl_within_val, Option.bind_some, decide_eq_true_eq]
  by_cases h1 : 4 ≤ n ∧ n ≤ 7 <;> by_cases h2 : 1 ≤ f ∧ f ≤ 6 <;> simp only [h1, h2, if_true, if_false, true_and, false_and, and_false, and_self, decide_false]

theorem FnExactQuorum (n f : Int) (wn : (Lit.int .i64 n).wf = true) (wf : (Lit.int .i64 f).wf = true) : laws_FnExactQuorum.f n f = some true := by
  unfold laws_FnExactQuorum.f laws_toConf.f spec_Quorum.f impl_Quorum.f impl_Faults.f
  simp only [Option.bind_some, spec_ConfOk_val, impl_ConfOk_val]
  by_cases h : confIs n f <;> simp [h]
end
end Go.Proofs.Ytppggjkffgjhkaa.Pure
