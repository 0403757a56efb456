/- For every list of payments the program's PoolOk tells what the reference tells, and the list stays as it was; no condition. -/
import Derived.Test.YtajblkfgdalldaaRows
import Derived.Test.YtajblkfgdalldaaPFnExactPoolOkx5
import Derived.Test.YtajblkfgdalldaaPureFnExactPoolOk
import Derived.Test.YtajblkfgdalldaaRowKit
import Derived.WalkKit
import Derived.ProofKit
import Derived.OpenShut
import Derived.ShutString
import Derived.ChangeOld
import Derived.Below
import Derived.Carry
import Derived.SizedLaws
namespace Go.Proofs.Ytajblkfgdalldaa.fnExactPoolOk
open Go.ChangeShapes Go.WideShapes Go.ChangeAt Go.RowKit Go.Proofs.YtajblkfgdalldaaW.PrintWords
open Go.ChangeMaps (open_string shut_string)
set_option linter.unusedVariables false
theorem own : ownKnob Try.prog.godebug = none := by kernel_rfl
theorem laidOut : laidOutB Try.prog = true := by kernel_rfl
theorem toS50 {w : World} {A : Option Addr} {n : Nat} {g : Nat → Int × Int × Int × Int} (hm : n ≤ maxLen) (h : RowKit.Fours w A n g) (hw : ∀ j, j < n → RowKit.Fit4 (g j)) :
    ∃ l : List PFnExactPoolOk.S50, n = l.length ∧ Kd.C PFnExactPoolOk.k50 w A l.length l ∧ ∀ x ∈ l, RowKit.Fit4 (x.f0, x.f1, x.f2, x.f3) := by
  let f : Nat → PFnExactPoolOk.S50 := fun j => ⟨(g j).1, (g j).2.1, (g j).2.2.1, (g j).2.2.2⟩
  have hl : ((List.range n).map f).length = n := by simp
  refine ⟨(List.range n).map f, hl.symm, ?_, ?_⟩
  · rw [hl]
    refine ⟨hl, by unfold maxLen at hm; omega, fun hp => ?_⟩
    obtain ⟨ad, e, hc⟩ := h hp
    refine ⟨ad, e, fun j p hj => ?_⟩
    have hjn : j < n := by
      have := (List.getElem?_eq_some_iff.1 hj).1
      rw [hl] at this; exact this
    obtain rfl : f j = p := by
      rw [List.getElem?_map, List.getElem?_range hjn] at hj
      exact Option.some.inj hj
    obtain ⟨h0, h1, h2, h3⟩ := hc j hjn
    refine ⟨_, rfl, PFnExactPoolOk.k50_mk w (f j), fun q u hq => ?_⟩
    rcases q with _ | _ | _ | _ | q
    · obtain rfl := Option.some.inj hq; exact h0
    · obtain rfl := Option.some.inj hq; exact h1
    · obtain rfl := Option.some.inj hq; exact h2
    · obtain rfl := Option.some.inj hq; exact h3
    · simp at hq
  · intro x hx
    obtain ⟨j, hj, rfl⟩ := List.mem_map.1 hx
    exact hw j (List.mem_range.1 hj)
set_option maxRecDepth 100000 in
theorem lifted (os : Os) (started : os.Started) (H : Type) (enc : TypeId × Value → H) :
    ReturnsInHanded {} Try.checked os 6 .any (Rows.fnExactPoolOkSpec.pre6 enc Try.prog Try.f6 Rows.fnExactPoolOkRow.domain false) (Rows.fnExactPoolOkSpec.post enc Try.prog Try.f6 false true false false) := by
  refine returnsInHanded_of_change_sized (C := Try.checked) own started (by kernel_rfl) Try.func6
    (ChangeSpec.witness6 (enc := enc) (C := Try.checked) false ⟨#[], #[.slice none 0 0], []⟩ 8 (by kernel_rfl) (by kernel_rfl) (by kernel_rfl) (by kernel_rfl)) ?_
  intro W base args ds gs before hval0 hW hcnd hsz0 _
  have hval : ∀ (j : Nat) t v, Try.f6.params[j]? = some t → args[j]? = some v → Value.okWide Try.prog W .any base t v := hval0
  have hW' := hW
  obtain ⟨p, q, hA0, hV, rfl, hfz, hnd⟩ := hW
  have hA : DataW.TrodAll enc Try.prog W 0 (fun _ => true) true Try.f6.params.toList args.toList ds p := hA0
  rw [Try.params6] at hA hval
  obtain ⟨v0, vs0, d0, ds0, p0, q0, hargs, rfl, rfl, h0, r0⟩ := trodAll_cons hA
  obtain ⟨rfl, rfl, rfl⟩ := trodAll_nil r0
  obtain rfl : args = #[v0] := by cases args; simp_all
  obtain ⟨rfl, rfl⟩ := trodVars_none hV
  have k0 := h0
  have lt0 : ∀ x ∈ p0, x.block < W.heap.size := by obtain ⟨m, hm⟩ := k0; exact DataW.trod_lt m _ _ _ hm
  obtain ⟨A0, n0, c0, g0, rfl, hg0, hn0, hm0, hw0⟩ := RowKit.fours_val Try.underlying35 Try.underlying50 ⟨rfl, by kernel_rfl, Try.underlying3⟩ ⟨rfl, by kernel_rfl, Try.underlying3⟩ ⟨rfl, by kernel_rfl, Try.underlying3⟩ ⟨rfl, by kernel_rfl, Try.underlying3⟩ (by kernel_rfl) (hval 0 35 v0 rfl rfl) h0
  obtain ⟨l0, rfl, hr0, hf0⟩ := toS50 hm0 hg0 hw0
  clear hA0 hval0 hsz0
  obtain ⟨k, hk⟩ := Pure.FnExactPoolOk l0 hm0 hf0
  refine (PFnExactPoolOk.laws_FnExactPoolOk.calls (w := W) (hr0 := hr0) (hc0 := hn0) (hT := rfl) (h := hk)).mono fun e W' ⟨he, hd⟩ => ?_
  have bel : Below W.heap.size W W' := hd
  subst he
  exact ⟨_, rfl, _, _, _, [], _, [], hW', trodAll_mk1 (shut_bool Try.underlying4 _), (trodAll_cons_mk (Below.trod laidOut (by kernel_rfl) (of_decide_eq_true (by kernel_rfl)) k0 bel lt0) trodAll_mk0), rfl, bel.frame _, fun h => by cases h⟩
theorem proved : Rows.FnExactPoolOkSaid :=
  OpenClaim.holds_of_wide 6 Try.f6 rfl rfl rfl rfl rfl rfl rfl ⟨rfl, rfl, rfl, rfl, rfl⟩ rfl rfl rfl rfl rfl (by kernel_rfl) Try.func6 (by kernel_rfl)
    (of_decide_eq_true (by kernel_rfl)) (by unfold Func.isWrapper; first | (rw [if_pos (by decide +kernel)]; kernel_rfl) | (rw [if_neg (by decide +kernel)]; exact ⟨rfl, rfl⟩))
    (fun os started H enc _ => lifted os started H enc)
#print axioms proved
end Go.Proofs.Ytajblkfgdalldaa.fnExactPoolOk
namespace Go.Proofs.Ytajblkfgdalldaa
/-- The statement, under a short name, for the claim. -/
theorem fnExactPoolOk_holds : Rows.FnExactPoolOkSaid := fnExactPoolOk.proved
end Go.Proofs.Ytajblkfgdalldaa
