/- For every list of payments the program's TxsText tells what the reference tells, and the list stays as it was; no condition beyond the row's own (the library's table lies as the program's text lays it). -/
import Derived.Test.YtjjhigboelhjgaaDoorRows
import Derived.Test.YtjjhigboelhjgaaDoorPFnExactTxsTextx3
import Derived.Test.YtjjhigboelhjgaaDoorPureFnExactTxsText
import Derived.Test.YtjjhigboelhjgaaDoorRowKit
import Derived.WalkKit
import Derived.ProofKit
import Derived.OpenShut
import Derived.ShutString
import Derived.ChangeOld
import Derived.Below
import Derived.Carry
import Derived.SizedLaws
import Derived.Test.YtjjhigboelhjgaaDoorCards
import Derived.Test.YtjjhigboelhjgaaDoorTie
import Derived.Test.YtjjhigboelhjgaaDoorShelf
import Derived.Deep.DeepHandedRow
import Derived.Lib.LaidTab
import Derived.Stop.LaidErr
import Derived.MakeChecks
namespace Go.Proofs.YtjjhigboelhjgaaDoor.fnExactTxsText
open Go.ChangeShapes Go.WideShapes Go.ChangeAt Go.RowKit Go.Proofs.YtjjhigboelhjgaaDoorW.PrintWords
open Go.ChangeMaps (open_string shut_string)
set_option linter.unusedVariables false
theorem own : ownKnob Tryd.prog.godebug = none := by kernel_rfl
theorem laidOut : laidOutB Tryd.prog = true := by kernel_rfl
theorem toS28 {w : World} {A : Option Addr} {n : Nat} {g : Nat → Int × Int × Int × Int} (hm : n ≤ maxLen) (h : RowKit.Fours w A n g) (hw : ∀ j, j < n → RowKit.Fit4 (g j)) :
    ∃ l : List PFnExactTxsText.S28, n = l.length ∧ Kd.C PFnExactTxsText.k28 w A l.length l ∧ ∀ x ∈ l, RowKit.Fit4 (x.f0, x.f1, x.f2, x.f3) := by
  let f : Nat → PFnExactTxsText.S28 := fun j => ⟨(g j).1, (g j).2.1, (g j).2.2.1, (g j).2.2.2⟩
  have hl : ((List.range n).map f).length = n := by simp
  refine ⟨(List.range n).map f, hl.symm, ?_, ?_⟩
  · rw [hl]
    refine ⟨hl, by unfold maxLen at hm; omega, fun hp => ?_⟩
    obtain ⟨ad, e, hc⟩ := h hp
    refine ⟨ad, e, fun j p hj => ?_⟩
    have hjn : j < n := by
      have := (List.getElem?_eq_some_iff.1 hj).1
      rw [hl] at this; exact this
    obtain rfl : f j = p := by
      rw [List.getElem?_map, List.getElem?_range hjn] at hj
      exact Option.some.inj hj
    obtain ⟨h0, h1, h2, h3⟩ := hc j hjn
    refine ⟨_, rfl, PFnExactTxsText.k28_mk w (f j), fun q u hq => ?_⟩
    rcases q with _ | _ | _ | _ | q
    · obtain rfl := Option.some.inj hq; exact h0
    · obtain rfl := Option.some.inj hq; exact h1
    · obtain rfl := Option.some.inj hq; exact h2
    · obtain rfl := Option.some.inj hq; exact h3
    · simp at hq
  · intro x hx
    obtain ⟨j, hj, rfl⟩ := List.mem_map.1 hx
    exact hw j (List.mem_range.1 hj)
theorem gTab : Tryd.prog.globalNamed "internal/strconv.uint64pow10" = some 1 := by kernel_rfl
theorem gTabType : (Tryd.prog.globals[1]?).map (·.type) = some 113 := by kernel_rfl
theorem cellsE : Tryd.prog.cellsOf 100 = 1 := by kernel_rfl
theorem cellsT : Tryd.prog.cellsOf 113 = 20 := by kernel_rfl
/-- WHAT THE ROW's LIST GIVES: the table of powers of ten. -/
theorem table {W : World} (h : laidMetH Tryd.prog Rows.fnExactTxsTextRow.laid W) : Lib.TabIs Tryd.prog W "internal/strconv.uint64pow10" .u64 Lib.pow10Tab := by
  rw [MakeChecks.laidMetH_plain _ _ _ (by kernel_rfl)] at h
  exact Lib.tabIs_of_head gTab gTabType Tryd.underlying113 Tryd.underlying100 cellsE cellsT (zs := Lib.pow10Tab) (show laidMet Tryd.prog (("internal/strconv.uint64pow10", Lib.tabData .u64 Lib.pow10Tab) :: _) W from h.tail.tail)
def litV : DataW Unit → Value
  | .lit (.int k z) => .int k z
  | _ => .bool false
def rowV : DataW Unit → List Value
  | .agg xs => xs.map litV
  | _ => []
def gridV : DataW Unit → List Value
  | .agg xs => (xs.map rowV).flatten
  | _ => []
def putB (cs : List Value) : Obj → Obj
  | .cells _ t fr => .cells cs.toArray t fr
  | x => x
/-- A WORLD FOR THE WITNESS: the settled one, the listed tables holding what their initialisers lay. -/
noncomputable def laidWorld (os : Os) : World :=
  { World.holding Tryd.prog os ⟨#[], #[], []⟩ with heap := ((((World.holding Tryd.prog os ⟨#[], #[], []⟩).heap.modify 4 (putB (rowV Rows.laid_math_bits_deBruijn32tab))).modify 5 (putB (rowV Rows.laid_math_bits_deBruijn64tab))).modify 1 (putB (rowV Rows.laid_internal_strconv_uint64pow10))) }
theorem laid_met (os : Os) : laidMet Tryd.prog Rows.fnExactTxsTextRow.laid ((laidWorld os).forCall (fun _ _ => 0) ⟨#[], #[.slice none 0 0], []⟩).memory :=
  laidMet_of_run' 8 (by kernel_rfl) (by kernel_rfl)
theorem reads (os : Os) {H : Type} (enc : TypeId × Value → H) : ∃ places, DataW.whole enc Tryd.prog ((laidWorld os).forCall (fun _ _ => 0) ⟨#[], #[.slice none 0 0], []⟩).memory Tryd.f6.params.toList Rows.fnExactTxsTextSpec.vars false #[(.slice none 0 0 : Value)].toList 8 = some ([.nil], [], places) :=
  ⟨[], by kernel_rfl⟩
set_option maxRecDepth 100000 in
theorem lifted (os : Os) (started : os.Started) (H : Type) (enc : TypeId × Value → H) (F : Stop.Interp) :
    ReturnsInHanded {} Tryd.checked os 6 .any ((OpenSpec.ofChange Rows.fnExactTxsTextSpec).preRow enc Tryd.prog Tryd.f6 Rows.fnExactTxsTextRow.domain false Rows.fnExactTxsTextRow.laid) (((OpenSpec.ofChange Rows.fnExactTxsTextSpec).at F).post enc Tryd.prog Tryd.f6 false true false false) := by
  obtain ⟨places, hx⟩ := reads os enc
  refine returnsInHanded_of_row (C := Tryd.checked) (s := OpenSpec.ofChange Rows.fnExactTxsTextSpec) own started (by kernel_rfl) Tryd.func6
    (witness_row_at (enc := enc) (C := Tryd.checked) false (laidWorld os) #[.slice none 0 0] rfl (by kernel_rfl) (by kernel_rfl) (by kernel_rfl)
      (OpenSpec.preRow_of_cond 8 hx (by kernel_rfl) (fun k hk => by cases hk) (by kernel_rfl) (laid_met os))) ?_
  intro W base args ds gs before hval0 hW hcnd hcd_ hsz0 hlaid hshape _
  have hval : ∀ (j : Nat) t v, Tryd.f6.params[j]? = some t → args[j]? = some v → Value.okWide Tryd.prog W .any base t v := hval0
  have hW' := hW
  obtain ⟨p, q, hA0, hV, rfl, hfz, hnd⟩ := hW
  have hA : DataW.TrodAll enc Tryd.prog W 0 (fun _ => true) true Tryd.f6.params.toList args.toList ds p := hA0
  rw [Tryd.params6] at hA hval
  obtain ⟨v0, vs0, d0, ds0, p0, q0, hargs, rfl, rfl, h0, r0⟩ := trodAll_cons hA
  obtain ⟨rfl, rfl, rfl⟩ := trodAll_nil r0
  obtain rfl : args = #[v0] := by cases args; simp_all
  obtain ⟨rfl, rfl⟩ := trodVars_none hV
  have k0 := h0
  have lt0 : ∀ x ∈ p0, x.block < W.heap.size := by obtain ⟨m, hm⟩ := k0; exact DataW.trod_lt m _ _ _ hm
  obtain ⟨A0, n0, c0, g0, rfl, hg0, hn0, hm0, hw0⟩ := RowKit.fours_val Tryd.underlying33 Tryd.underlying28 ⟨rfl, by kernel_rfl, Tryd.underlying3⟩ ⟨rfl, by kernel_rfl, Tryd.underlying3⟩ ⟨rfl, by kernel_rfl, Tryd.underlying3⟩ ⟨rfl, by kernel_rfl, Tryd.underlying3⟩ (by kernel_rfl) (hval 0 33 v0 rfl rfl) h0
  obtain ⟨l0, rfl, hr0, hf0⟩ := toS28 hm0 hg0 hw0
  have hLW : PFnExactTxsText.LaidW W := ⟨fun _ => ⟨table hlaid, World.block_lt_of_cell? W _ ((table hlaid).cell gTab 0 (by decide))⟩, Tryd.laysM145.s1_3 W hshape⟩
  clear hA0 hval0 hsz0
  obtain ⟨k, hk⟩ := Pure.FnExactTxsText l0 hm0 hf0
  refine (PFnExactTxsText.laws_FnExactTxsText.calls (w := W) (hr0 := hr0) (hc0 := hn0) (hT := rfl) (hL := hLW) (h := hk)).mono fun e W' ⟨he, hd⟩ => ?_
  have bel : Below W.heap.size W W' := hd
  subst he
  exact ⟨_, rfl, _, _, _, [], _, [], hW', trodAll_mk1 (shut_bool Tryd.underlying4 _), (trodAll_cons_mk (Below.trod laidOut (by kernel_rfl) (of_decide_eq_true (by kernel_rfl)) k0 bel lt0) trodAll_mk0), rfl, bel.frame _, fun h => by cases h⟩
theorem proved : Rows.FnExactTxsTextSaid :=
  OpenClaim.holds_of_cond 6 Tryd.f6 rfl rfl rfl rfl rfl rfl rfl ⟨rfl, rfl, rfl, rfl, rfl⟩ rfl rfl rfl rfl rfl (by kernel_rfl) Tryd.func6 (by kernel_rfl)
    (of_decide_eq_true (by kernel_rfl)) (by unfold Func.isWrapper; first | (rw [if_pos (by decide +kernel)]; kernel_rfl) | (rw [if_neg (by decide +kernel)]; exact ⟨rfl, rfl⟩))
    (fun os started H enc _ F => by rw [OpenClaim.pre_eq_preRow]; exact lifted os started H enc F)
theorem plain (f : FuncId) (fn : Func) (hf : Tryd.pinned.checked.prog.funcNamed "loop.example/g00448/laws.FnExactTxsText" = some f) (hfn : Tryd.pinned.checked.prog.funcs[f]? = some fn) :
    false = Tryd.pinned.checked.prog.looks [] ∧ ∀ (j : Nat) t, fn.params[j]? = some t → Tryd.pinned.checked.prog.wantsStandIn t = false := by
  obtain rfl : f = 6 := Option.some.inj ((show Tryd.prog.funcNamed "loop.example/g00448/laws.FnExactTxsText" = some 6 by kernel_rfl).symm.trans hf) |>.symm
  obtain rfl : fn = Tryd.f6 := (Option.some.inj (Tryd.func6.symm.trans hfn)).symm
  refine ⟨by kernel_rfl, fun j t ht => ?_⟩
  rw [Tryd.params6] at ht
  obtain rfl : t = 33 := by simpa using Array.mem_of_getElem? ht
  exact (show Tryd.prog.wantsStandIn 33 = false by kernel_rfl)
/-- THE CARD. -/
theorem card : Rows.FnExactTxsTextCardSaid :=
  Claim7.holds_tied_plain_at .later [] _ _ _ _ proved (fun _ h => by cases h) (by kernel_rfl) (fun _ h => by cases h) fnExactTxsText_row_tie rfl ⟨rfl, rfl⟩ (by kernel_rfl) rfl plain (by kernel_rfl)
#print axioms card
end Go.Proofs.YtjjhigboelhjgaaDoor.fnExactTxsText
namespace Go.Proofs.YtjjhigboelhjgaaDoor
/-- The statement, under a short name, for the claim. -/
theorem fnExactTxsText_holds : Rows.FnExactTxsTextCardSaid := fnExactTxsText.card
end Go.Proofs.YtjjhigboelhjgaaDoor
