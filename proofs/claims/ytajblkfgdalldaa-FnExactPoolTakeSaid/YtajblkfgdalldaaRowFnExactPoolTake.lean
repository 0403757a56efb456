/- For every list of payments and every ledger the program's PoolTake tells what the reference tells, both stay as they were, and the list it tells shares nothing; no condition. -/
import Derived.Test.YtajblkfgdalldaaRows
import Derived.Test.YtajblkfgdalldaaLawFnExactPoolTake
import Derived.Test.YtajblkfgdalldaaRowKit
import Derived.WalkKit
import Derived.ProofKit
import Derived.OpenShut
import Derived.ShutString
import Derived.ChangeOld
import Derived.Below
import Derived.Carry
import Derived.SizedLaws
namespace Go.Proofs.Ytajblkfgdalldaa.fnExactPoolTake
open Go.ChangeShapes Go.WideShapes Go.ChangeAt Go.RowKit Go.Proofs.YtajblkfgdalldaaW.PrintWords
open Go.ChangeMaps (open_string shut_string)
set_option linter.unusedVariables false
theorem own : ownKnob Try.prog.godebug = none := by kernel_rfl
theorem laidOut : laidOutB Try.prog = true := by kernel_rfl
theorem toS50 {w : World} {A : Option Addr} {n : Nat} {g : Nat → Int × Int × Int × Int} (hm : n ≤ maxLen) (h : RowKit.Fours w A n g) (hw : ∀ j, j < n → RowKit.Fit4 (g j)) :
    ∃ l : List PFnExactPoolTake.S50, n = l.length ∧ Kd.C PFnExactPoolTake.k50 w A l.length l ∧ ∀ x ∈ l, RowKit.Fit4 (x.f0, x.f1, x.f2, x.f3) := by
  let f : Nat → PFnExactPoolTake.S50 := fun j => ⟨(g j).1, (g j).2.1, (g j).2.2.1, (g j).2.2.2⟩
  have hl : ((List.range n).map f).length = n := by simp
  refine ⟨(List.range n).map f, hl.symm, ?_, ?_⟩
  · rw [hl]
    refine ⟨hl, by unfold maxLen at hm; omega, fun hp => ?_⟩
    obtain ⟨ad, e, hc⟩ := h hp
    refine ⟨ad, e, fun j p hj => ?_⟩
    have hjn : j < n := by
      have := (List.getElem?_eq_some_iff.1 hj).1
      rw [hl] at this; exact this
    obtain rfl : f j = p := by
      rw [List.getElem?_map, List.getElem?_range hjn] at hj
      exact Option.some.inj hj
    obtain ⟨h0, h1, h2, h3⟩ := hc j hjn
    refine ⟨_, rfl, PFnExactPoolTake.k50_mk w (f j), fun q u hq => ?_⟩
    rcases q with _ | _ | _ | _ | q
    · obtain rfl := Option.some.inj hq; exact h0
    · obtain rfl := Option.some.inj hq; exact h1
    · obtain rfl := Option.some.inj hq; exact h2
    · obtain rfl := Option.some.inj hq; exact h3
    · simp at hq
  · intro x hx
    obtain ⟨j, hj, rfl⟩ := List.mem_map.1 hx
    exact hw j (List.mem_range.1 hj)
set_option maxRecDepth 100000 in
theorem lifted (os : Os) (started : os.Started) (H : Type) (enc : TypeId × Value → H) :
    ReturnsInHanded {} Try.checked os 13 .any (Rows.fnExactPoolTakeSpec.pre6 enc Try.prog Try.f13 Rows.fnExactPoolTakeRow.domain false) (Rows.fnExactPoolTakeSpec.post enc Try.prog Try.f13 false true false false) := by
  refine returnsInHanded_of_change_sized (C := Try.checked) own started (by kernel_rfl) Try.func13
    (ChangeSpec.witness6 (enc := enc) (C := Try.checked) false ⟨#[], #[.slice none 0 0, .agg #[.slice none 0 0, .slice none 0 0]], []⟩ 8 (by kernel_rfl) (by kernel_rfl) (by kernel_rfl) (by kernel_rfl)) ?_
  intro W base args ds gs before hval0 hW hcnd hsz0 _
  have hval : ∀ (j : Nat) t v, Try.f13.params[j]? = some t → args[j]? = some v → Value.okWide Try.prog W .any base t v := hval0
  have hW' := hW
  obtain ⟨p, q, hA0, hV, rfl, hfz, hnd⟩ := hW
  have hA : DataW.TrodAll enc Try.prog W 0 (fun _ => true) true Try.f13.params.toList args.toList ds p := hA0
  rw [Try.params13] at hA hval
  obtain ⟨v0, vs0, d0, ds0, p0, q0, hargs, rfl, rfl, h0, r0⟩ := trodAll_cons hA
  obtain ⟨v1, vs1, d1, ds1, p1, q1, rfl, rfl, rfl, h1, r1⟩ := trodAll_cons r0
  obtain ⟨rfl, rfl, rfl⟩ := trodAll_nil r1
  obtain rfl : args = #[v0, v1] := by cases args; simp_all
  obtain ⟨rfl, rfl⟩ := trodVars_none hV
  have k0 := h0
  have lt0 : ∀ x ∈ p0, x.block < W.heap.size := by obtain ⟨m, hm⟩ := k0; exact DataW.trod_lt m _ _ _ hm
  obtain ⟨A0, n0, c0, g0, rfl, hg0, hn0, hm0, hw0⟩ := RowKit.fours_val Try.underlying35 Try.underlying50 ⟨rfl, by kernel_rfl, Try.underlying3⟩ ⟨rfl, by kernel_rfl, Try.underlying3⟩ ⟨rfl, by kernel_rfl, Try.underlying3⟩ ⟨rfl, by kernel_rfl, Try.underlying3⟩ (by kernel_rfl) (hval 0 35 v0 rfl rfl) h0
  obtain ⟨l0, rfl, hr0, hf0⟩ := toS50 hm0 hg0 hw0
  have k1 := h1
  have lt1 : ∀ x ∈ p1, x.block < W.heap.size := by obtain ⟨m, hm⟩ := k1; exact DataW.trod_lt m _ _ _ hm
  obtain ⟨v1_0, v1_1, y1_0, y1_1, n1, rfl, rfl, rfl, t1_0, t1_1⟩ := Go.Joins.open_agg2 Try.underlying24 (by kernel_rfl) (by kernel_rfl) (hval 1 24 v1 rfl rfl) h1
  obtain ⟨A1_0, c1_0, l1_0, rfl, hr1_0, hc1_0, hm1_0, hw1_0⟩ := RowKit.ints_cell Try.underlying22 Try.underlying3 (by kernel_rfl) t1_0
  obtain ⟨A1_1, c1_1, l1_1, rfl, hr1_1, hc1_1, hm1_1, hw1_1⟩ := RowKit.ints_cell Try.underlying22 Try.underlying3 (by kernel_rfl) t1_1
  clear hA0 hval0 hsz0
  refine (Law.FnExactPoolTake (w := W) l0 l1_0 l1_1 hm0 hf0 hm1_0 hw1_0 hm1_1 hw1_1 (hr0 := hr0) (hc0 := hn0) (hr1_0 := hr1_0) (hc1_0 := hc1_0) (hr1_1 := hr1_1) (hc1_1 := hc1_1) ).mono fun e W' ⟨he, bel⟩ => ?_
  subst he
  exact ⟨_, rfl, _, _, _, [], _, [], hW', trodAll_mk1 (shut_bool Try.underlying4 _), (trodAll_cons_mk (Below.trod laidOut (by kernel_rfl) (of_decide_eq_true (by kernel_rfl)) k0 bel lt0) (trodAll_cons_mk (Below.trod laidOut (by kernel_rfl) (of_decide_eq_true (by kernel_rfl)) k1 bel lt1) trodAll_mk0)), rfl, bel.frame _, fun h => by cases h⟩
theorem proved : Rows.FnExactPoolTakeSaid :=
  OpenClaim.holds_of_wide 13 Try.f13 rfl rfl rfl rfl rfl rfl rfl ⟨rfl, rfl, rfl, rfl, rfl⟩ rfl rfl rfl rfl rfl (by kernel_rfl) Try.func13 (by kernel_rfl)
    (of_decide_eq_true (by kernel_rfl)) (by unfold Func.isWrapper; first | (rw [if_pos (by decide +kernel)]; kernel_rfl) | (rw [if_neg (by decide +kernel)]; exact ⟨rfl, rfl⟩))
    (fun os started H enc _ => lifted os started H enc)
#print axioms proved
end Go.Proofs.Ytajblkfgdalldaa.fnExactPoolTake
namespace Go.Proofs.Ytajblkfgdalldaa
/-- The statement, under a short name, for the claim. -/
theorem fnExactPoolTake_holds : Rows.FnExactPoolTakeSaid := fnExactPoolTake.proved
end Go.Proofs.Ytajblkfgdalldaa
