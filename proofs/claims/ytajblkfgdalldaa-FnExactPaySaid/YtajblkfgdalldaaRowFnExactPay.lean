/- For every ledger and every payment the program's Pay tells what the reference tells, the ledger that was handed in stays as it was, and the ledger that it tells shares nothing; no condition. -/
import Derived.Test.YtajblkfgdalldaaRows
import Derived.Test.YtajblkfgdalldaaLawFnExactPay
import Derived.Test.YtajblkfgdalldaaRowKit
import Derived.WalkKit
import Derived.ProofKit
import Derived.OpenShut
import Derived.ShutString
import Derived.ChangeOld
import Derived.Below
import Derived.Carry
import Derived.SizedLaws
namespace Go.Proofs.Ytajblkfgdalldaa.fnExactPay
open Go.ChangeShapes Go.WideShapes Go.ChangeAt Go.RowKit Go.Proofs.YtajblkfgdalldaaW.PrintWords
open Go.ChangeMaps (open_string shut_string)
set_option linter.unusedVariables false
theorem own : ownKnob Try.prog.godebug = none := by kernel_rfl
theorem laidOut : laidOutB Try.prog = true := by kernel_rfl
set_option maxRecDepth 100000 in
theorem lifted (os : Os) (started : os.Started) (H : Type) (enc : TypeId × Value → H) :
    ReturnsInHanded {} Try.checked os 8 .any (Rows.fnExactPaySpec.pre6 enc Try.prog Try.f8 Rows.fnExactPayRow.domain false) (Rows.fnExactPaySpec.post enc Try.prog Try.f8 false true false false) := by
  refine returnsInHanded_of_change_sized (C := Try.checked) own started (by kernel_rfl) Try.func8
    (ChangeSpec.witness6 (enc := enc) (C := Try.checked) false ⟨#[], #[.agg #[.slice none 0 0, .slice none 0 0], .agg #[.int .i64 0, .int .i64 0, .int .i64 0, .int .i64 0]], []⟩ 8 (by kernel_rfl) (by kernel_rfl) (by kernel_rfl) (by kernel_rfl)) ?_
  intro W base args ds gs before hval0 hW hcnd hsz0 _
  have hval : ∀ (j : Nat) t v, Try.f8.params[j]? = some t → args[j]? = some v → Value.okWide Try.prog W .any base t v := hval0
  have hW' := hW
  obtain ⟨p, q, hA0, hV, rfl, hfz, hnd⟩ := hW
  have hA : DataW.TrodAll enc Try.prog W 0 (fun _ => true) true Try.f8.params.toList args.toList ds p := hA0
  rw [Try.params8] at hA hval
  obtain ⟨v0, vs0, d0, ds0, p0, q0, hargs, rfl, rfl, h0, r0⟩ := trodAll_cons hA
  obtain ⟨v1, vs1, d1, ds1, p1, q1, rfl, rfl, rfl, h1, r1⟩ := trodAll_cons r0
  obtain ⟨rfl, rfl, rfl⟩ := trodAll_nil r1
  obtain rfl : args = #[v0, v1] := by cases args; simp_all
  obtain ⟨rfl, rfl⟩ := trodVars_none hV
  have k0 := h0
  have lt0 : ∀ x ∈ p0, x.block < W.heap.size := by obtain ⟨m, hm⟩ := k0; exact DataW.trod_lt m _ _ _ hm
  obtain ⟨v0_0, v0_1, y0_0, y0_1, n0, rfl, rfl, rfl, t0_0, t0_1⟩ := Go.Joins.open_agg2 Try.underlying24 (by kernel_rfl) (by kernel_rfl) (hval 0 24 v0 rfl rfl) h0
  obtain ⟨A0_0, c0_0, l0_0, rfl, hr0_0, hc0_0, hm0_0, hw0_0⟩ := RowKit.ints_cell Try.underlying22 Try.underlying3 (by kernel_rfl) t0_0
  obtain ⟨A0_1, c0_1, l0_1, rfl, hr0_1, hc0_1, hm0_1, hw0_1⟩ := RowKit.ints_cell Try.underlying22 Try.underlying3 (by kernel_rfl) t0_1
  have k1 := h1
  have lt1 : ∀ x ∈ p1, x.block < W.heap.size := by obtain ⟨m, hm⟩ := k1; exact DataW.trod_lt m _ _ _ hm
  obtain ⟨v1_0, v1_1, v1_2, v1_3, y1_0, y1_1, y1_2, y1_3, n1, rfl, rfl, rfl, t1_0, t1_1, t1_2, t1_3⟩ := Go.Joins.open_agg4 Try.underlying50 (by kernel_rfl) (by kernel_rfl) (hval 1 50 v1 rfl rfl) h1
  obtain ⟨a1_0, rfl, w1_0⟩ := RowKit.int_cell Try.underlying3 t1_0
  obtain ⟨a1_1, rfl, w1_1⟩ := RowKit.int_cell Try.underlying3 t1_1
  obtain ⟨a1_2, rfl, w1_2⟩ := RowKit.int_cell Try.underlying3 t1_2
  obtain ⟨a1_3, rfl, w1_3⟩ := RowKit.int_cell Try.underlying3 t1_3
  clear hA0 hval0 hsz0
  refine (Law.FnExactPay (w := W) l0_0 l0_1 a1_0 a1_1 a1_2 a1_3 hm0_0 hw0_0 hm0_1 hw0_1 w1_0 w1_1 w1_2 w1_3 (hr0_0 := hr0_0) (hc0_0 := hc0_0) (hr0_1 := hr0_1) (hc0_1 := hc0_1) ).mono fun e W' ⟨he, bel⟩ => ?_
  subst he
  exact ⟨_, rfl, _, _, _, [], _, [], hW', trodAll_mk1 (shut_bool Try.underlying4 _), (trodAll_cons_mk (Below.trod laidOut (by kernel_rfl) (of_decide_eq_true (by kernel_rfl)) k0 bel lt0) (trodAll_cons_mk (Below.trod laidOut (by kernel_rfl) (of_decide_eq_true (by kernel_rfl)) k1 bel lt1) trodAll_mk0)), rfl, bel.frame _, fun h => by cases h⟩
theorem proved : Rows.FnExactPaySaid :=
  OpenClaim.holds_of_wide 8 Try.f8 rfl rfl rfl rfl rfl rfl rfl ⟨rfl, rfl, rfl, rfl, rfl⟩ rfl rfl rfl rfl rfl (by kernel_rfl) Try.func8 (by kernel_rfl)
    (of_decide_eq_true (by kernel_rfl)) (by unfold Func.isWrapper; first | (rw [if_pos (by decide +kernel)]; kernel_rfl) | (rw [if_neg (by decide +kernel)]; exact ⟨rfl, rfl⟩))
    (fun os started H enc _ => lifted os started H enc)
#print axioms proved
end Go.Proofs.Ytajblkfgdalldaa.fnExactPay
namespace Go.Proofs.Ytajblkfgdalldaa
/-- The statement, under a short name, for the claim. -/
theorem fnExactPay_holds : Rows.FnExactPaySaid := fnExactPay.proved
end Go.Proofs.Ytajblkfgdalldaa
