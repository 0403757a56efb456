/- For every list of payments and every payment the program's PoolAdd tells what the reference tells, the list stays as it was, and the list it tells shares nothing; no condition. -/
import Derived.Test.YtajblkfgdalldaaRows
import Derived.Test.YtajblkfgdalldaaPFnExactPoolAddx7
import Derived.Test.YtajblkfgdalldaaPureFnExactPoolAdd
import Derived.Test.YtajblkfgdalldaaRowKit
import Derived.WalkKit
import Derived.ProofKit
import Derived.OpenShut
import Derived.ShutString
import Derived.ChangeOld
import Derived.Below
import Derived.Carry
import Derived.SizedLaws
namespace Go.Proofs.Ytajblkfgdalldaa.fnExactPoolAdd
open Go.ChangeShapes Go.WideShapes Go.ChangeAt Go.RowKit Go.Proofs.YtajblkfgdalldaaW.PrintWords
open Go.ChangeMaps (open_string shut_string)
set_option linter.unusedVariables false
theorem own : ownKnob Try.prog.godebug = none := by kernel_rfl
theorem laidOut : laidOutB Try.prog = true := by kernel_rfl
theorem toS50 {w : World} {A : Option Addr} {n : Nat} {g : Nat → Int × Int × Int × Int} (hm : n ≤ maxLen) (h : RowKit.Fours w A n g) (hw : ∀ j, j < n → RowKit.Fit4 (g j)) :
    ∃ l : List PFnExactPoolAdd.S50, n = l.length ∧ Kd.C PFnExactPoolAdd.k50 w A l.length l ∧ ∀ x ∈ l, RowKit.Fit4 (x.f0, x.f1, x.f2, x.f3) := by
  let f : Nat → PFnExactPoolAdd.S50 := fun j => ⟨(g j).1, (g j).2.1, (g j).2.2.1, (g j).2.2.2⟩
  have hl : ((List.range n).map f).length = n := by simp
  refine ⟨(List.range n).map f, hl.symm, ?_, ?_⟩
  · rw [hl]
    refine ⟨hl, by unfold maxLen at hm; omega, fun hp => ?_⟩
    obtain ⟨ad, e, hc⟩ := h hp
    refine ⟨ad, e, fun j p hj => ?_⟩
    have hjn : j < n := by
      have := (List.getElem?_eq_some_iff.1 hj).1
      rw [hl] at this; exact this
    obtain rfl : f j = p := by
      rw [List.getElem?_map, List.getElem?_range hjn] at hj
      exact Option.some.inj hj
    obtain ⟨h0, h1, h2, h3⟩ := hc j hjn
    refine ⟨_, rfl, PFnExactPoolAdd.k50_mk w (f j), fun q u hq => ?_⟩
    rcases q with _ | _ | _ | _ | q
    · obtain rfl := Option.some.inj hq; exact h0
    · obtain rfl := Option.some.inj hq; exact h1
    · obtain rfl := Option.some.inj hq; exact h2
    · obtain rfl := Option.some.inj hq; exact h3
    · simp at hq
  · intro x hx
    obtain ⟨j, hj, rfl⟩ := List.mem_map.1 hx
    exact hw j (List.mem_range.1 hj)
set_option maxRecDepth 100000 in
theorem lifted (os : Os) (started : os.Started) (H : Type) (enc : TypeId × Value → H) :
    ReturnsInHanded {} Try.checked os 14 .any (Rows.fnExactPoolAddSpec.pre6 enc Try.prog Try.f14 Rows.fnExactPoolAddRow.domain false) (Rows.fnExactPoolAddSpec.post enc Try.prog Try.f14 false true false false) := by
  refine returnsInHanded_of_change_sized (C := Try.checked) own started (by kernel_rfl) Try.func14
    (ChangeSpec.witness6 (enc := enc) (C := Try.checked) false ⟨#[], #[.slice none 0 0, .agg #[.int .i64 0, .int .i64 0, .int .i64 0, .int .i64 0]], []⟩ 8 (by kernel_rfl) (by kernel_rfl) (by kernel_rfl) (by kernel_rfl)) ?_
  intro W base args ds gs before hval0 hW hcnd hsz0 _
  have hval : ∀ (j : Nat) t v, Try.f14.params[j]? = some t → args[j]? = some v → Value.okWide Try.prog W .any base t v := hval0
  have hW' := hW
  obtain ⟨p, q, hA0, hV, rfl, hfz, hnd⟩ := hW
  have hA : DataW.TrodAll enc Try.prog W 0 (fun _ => true) true Try.f14.params.toList args.toList ds p := hA0
  rw [Try.params14] at hA hval
  obtain ⟨v0, vs0, d0, ds0, p0, q0, hargs, rfl, rfl, h0, r0⟩ := trodAll_cons hA
  obtain ⟨v1, vs1, d1, ds1, p1, q1, rfl, rfl, rfl, h1, r1⟩ := trodAll_cons r0
  obtain ⟨rfl, rfl, rfl⟩ := trodAll_nil r1
  obtain rfl : args = #[v0, v1] := by cases args; simp_all
  obtain ⟨rfl, rfl⟩ := trodVars_none hV
  have k0 := h0
  have lt0 : ∀ x ∈ p0, x.block < W.heap.size := by obtain ⟨m, hm⟩ := k0; exact DataW.trod_lt m _ _ _ hm
  obtain ⟨A0, n0, c0, g0, rfl, hg0, hn0, hm0, hw0⟩ := RowKit.fours_val Try.underlying35 Try.underlying50 ⟨rfl, by kernel_rfl, Try.underlying3⟩ ⟨rfl, by kernel_rfl, Try.underlying3⟩ ⟨rfl, by kernel_rfl, Try.underlying3⟩ ⟨rfl, by kernel_rfl, Try.underlying3⟩ (by kernel_rfl) (hval 0 35 v0 rfl rfl) h0
  obtain ⟨l0, rfl, hr0, hf0⟩ := toS50 hm0 hg0 hw0
  have k1 := h1
  have lt1 : ∀ x ∈ p1, x.block < W.heap.size := by obtain ⟨m, hm⟩ := k1; exact DataW.trod_lt m _ _ _ hm
  obtain ⟨v1_0, v1_1, v1_2, v1_3, y1_0, y1_1, y1_2, y1_3, n1, rfl, rfl, rfl, t1_0, t1_1, t1_2, t1_3⟩ := Go.Joins.open_agg4 Try.underlying50 (by kernel_rfl) (by kernel_rfl) (hval 1 50 v1 rfl rfl) h1
  obtain ⟨a1_0, rfl, w1_0⟩ := RowKit.int_cell Try.underlying3 t1_0
  obtain ⟨a1_1, rfl, w1_1⟩ := RowKit.int_cell Try.underlying3 t1_1
  obtain ⟨a1_2, rfl, w1_2⟩ := RowKit.int_cell Try.underlying3 t1_2
  obtain ⟨a1_3, rfl, w1_3⟩ := RowKit.int_cell Try.underlying3 t1_3
  clear hA0 hval0 hsz0
  obtain ⟨k, hk⟩ := Pure.FnExactPoolAdd l0 a1_0 a1_1 a1_2 a1_3 hm0 hf0 w1_0 w1_1 w1_2 w1_3
  refine (PFnExactPoolAdd.laws_FnExactPoolAdd.calls (w := W) (hr0 := hr0) (hc0 := hn0) (hT := rfl) (h := hk)).mono fun e W' ⟨he, hd⟩ => ?_
  have bel : Below W.heap.size W W' := hd
  subst he
  exact ⟨_, rfl, _, _, _, [], _, [], hW', trodAll_mk1 (shut_bool Try.underlying4 _), (trodAll_cons_mk (Below.trod laidOut (by kernel_rfl) (of_decide_eq_true (by kernel_rfl)) k0 bel lt0) (trodAll_cons_mk (Below.trod laidOut (by kernel_rfl) (of_decide_eq_true (by kernel_rfl)) k1 bel lt1) trodAll_mk0)), rfl, bel.frame _, fun h => by cases h⟩
theorem proved : Rows.FnExactPoolAddSaid :=
  OpenClaim.holds_of_wide 14 Try.f14 rfl rfl rfl rfl rfl rfl rfl ⟨rfl, rfl, rfl, rfl, rfl⟩ rfl rfl rfl rfl rfl (by kernel_rfl) Try.func14 (by kernel_rfl)
    (of_decide_eq_true (by kernel_rfl)) (by unfold Func.isWrapper; first | (rw [if_pos (by decide +kernel)]; kernel_rfl) | (rw [if_neg (by decide +kernel)]; exact ⟨rfl, rfl⟩))
    (fun os started H enc _ => lifted os started H enc)
#print axioms proved
end Go.Proofs.Ytajblkfgdalldaa.fnExactPoolAdd
namespace Go.Proofs.Ytajblkfgdalldaa
/-- The statement, under a short name, for the claim. -/
theorem fnExactPoolAdd_holds : Rows.FnExactPoolAddSaid := fnExactPoolAdd.proved
end Go.Proofs.Ytajblkfgdalldaa
