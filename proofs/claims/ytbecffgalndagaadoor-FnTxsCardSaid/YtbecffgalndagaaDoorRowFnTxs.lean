/- Whatever is drawn: payments are read from their texts as they were, and the two tell the same of each text; no condition beyond the row's own (the library's tables lie as the program's text lays them). -/
import Derived.Test.YtbecffgalndagaaDoorRows
import Derived.Test.YtbecffgalndagaaDoorPFnTxsx8
import Derived.Test.YtbecffgalndagaaDoorPureFnTxs
import Derived.Test.YtbecffgalndagaaDoorRowKit
import Derived.WalkKit
import Derived.ProofKit
import Derived.OpenShut
import Derived.ShutString
import Derived.ChangeOld
import Derived.Below
import Derived.Carry
import Derived.SizedLaws
import Derived.Test.YtbecffgalndagaaDoorCards
import Derived.Test.YtbecffgalndagaaDoorTie
import Derived.Test.YtbecffgalndagaaDoorShelf
import Derived.Deep.DeepHandedRow
import Derived.Lib.LaidTab
import Derived.Stop.LaidErr
import Derived.MakeChecks
namespace Go.Proofs.YtbecffgalndagaaDoor.fnTxs
open Go.ChangeShapes Go.WideShapes Go.ChangeAt Go.RowKit Go.Proofs.YtbecffgalndagaaDoorW.PrintWords
open Go.ChangeMaps (open_string shut_string)
set_option linter.unusedVariables false
theorem own : ownKnob Tryd.prog.godebug = none := by kernel_rfl
theorem laidOut : laidOutB Tryd.prog = true := by kernel_rfl
theorem gTab : Tryd.prog.globalNamed "internal/strconv.uint64pow10" = some 1 := by kernel_rfl
theorem gTabType : (Tryd.prog.globals[1]?).map (·.type) = some 119 := by kernel_rfl
theorem cellsE : Tryd.prog.cellsOf 108 = 1 := by kernel_rfl
theorem cellsT : Tryd.prog.cellsOf 119 = 20 := by kernel_rfl
/-- WHAT THE ROW's LIST GIVES: the table of powers of ten. -/
theorem table {W : World} (h : laidMetH Tryd.prog Rows.fnTxsRow.laid W) : Lib.TabIs Tryd.prog W "internal/strconv.uint64pow10" .u64 Lib.pow10Tab := by
  rw [MakeChecks.laidMetH_plain _ _ _ (by kernel_rfl)] at h
  exact Lib.tabIs_of_head gTab gTabType Tryd.underlying119 Tryd.underlying108 cellsE cellsT (zs := Lib.pow10Tab) (show laidMet Tryd.prog (("internal/strconv.uint64pow10", Lib.tabData .u64 Lib.pow10Tab) :: _) W from h.tail.tail)
def litV : DataW Unit → Value
  | .lit (.int k z) => .int k z
  | _ => .bool false
def rowV : DataW Unit → List Value
  | .agg xs => xs.map litV
  | _ => []
def gridV : DataW Unit → List Value
  | .agg xs => (xs.map rowV).flatten
  | _ => []
def putB (cs : List Value) : Obj → Obj
  | .cells _ t fr => .cells cs.toArray t fr
  | x => x
/-- A WORLD FOR THE WITNESS: the settled one, the listed tables holding what their initialisers lay. -/
noncomputable def laidWorld (os : Os) : World :=
  { World.holding Tryd.prog os ⟨#[], #[], []⟩ with heap := ((((((World.holding Tryd.prog os ⟨#[], #[], []⟩).heap.modify 4 (putB (rowV Rows.laid_math_bits_deBruijn32tab))).modify 5 (putB (rowV Rows.laid_math_bits_deBruijn64tab))).modify 1 (putB (rowV Rows.laid_internal_strconv_uint64pow10))).modify 3 (putB (gridV Rows.laid_unicode_utf8_acceptRanges))).modify 2 (putB (rowV Rows.laid_unicode_utf8_first))) }
theorem laid_met (os : Os) : laidMet Tryd.prog Rows.fnTxsRow.laid ((laidWorld os).forCall (fun _ _ => 0) ⟨#[], #[.slice none 0 0], []⟩).memory :=
  laidMet_of_run' 8 (by kernel_rfl) (by kernel_rfl)
theorem reads (os : Os) {H : Type} (enc : TypeId × Value → H) : ∃ places, DataW.whole enc Tryd.prog ((laidWorld os).forCall (fun _ _ => 0) ⟨#[], #[.slice none 0 0], []⟩).memory Tryd.f13.params.toList Rows.fnTxsSpec.vars false #[(.slice none 0 0 : Value)].toList 8 = some ([.nil], [], places) :=
  ⟨[], by kernel_rfl⟩
set_option maxRecDepth 100000 in
theorem lifted (os : Os) (started : os.Started) (H : Type) (enc : TypeId × Value → H) (F : Stop.Interp) :
    ReturnsInHanded {} Tryd.checked os 13 .any ((OpenSpec.ofChange Rows.fnTxsSpec).preRow enc Tryd.prog Tryd.f13 Rows.fnTxsRow.domain false Rows.fnTxsRow.laid) (((OpenSpec.ofChange Rows.fnTxsSpec).at F).post enc Tryd.prog Tryd.f13 false true false false) := by
  obtain ⟨places, hx⟩ := reads os enc
  refine returnsInHanded_of_row (C := Tryd.checked) (s := OpenSpec.ofChange Rows.fnTxsSpec) own started (by kernel_rfl) Tryd.func13
    (witness_row_at (enc := enc) (C := Tryd.checked) false (laidWorld os) #[.slice none 0 0] rfl (by kernel_rfl) (by kernel_rfl) (by kernel_rfl)
      (OpenSpec.preRow_of_cond 8 hx (by kernel_rfl) (fun k hk => by cases hk) (by kernel_rfl) (laid_met os))) ?_
  intro W base args ds gs before hval0 hW hcnd hcd_ hsz0 hlaid hshape _
  have hval : ∀ (j : Nat) t v, Tryd.f13.params[j]? = some t → args[j]? = some v → Value.okWide Tryd.prog W .any base t v := hval0
  have hW' := hW
  obtain ⟨p, q, hA0, hV, rfl, hfz, hnd⟩ := hW
  have hA : DataW.TrodAll enc Tryd.prog W 0 (fun _ => true) true Tryd.f13.params.toList args.toList ds p := hA0
  rw [Tryd.params13] at hA hval
  obtain ⟨v0, vs0, d0, ds0, p0, q0, hargs, rfl, rfl, h0, r0⟩ := trodAll_cons hA
  obtain ⟨rfl, rfl, rfl⟩ := trodAll_nil r0
  obtain rfl : args = #[v0] := by cases args; simp_all
  obtain ⟨rfl, rfl⟩ := trodVars_none hV
  have k0 := h0
  have lt0 : ∀ x ∈ p0, x.block < W.heap.size := by obtain ⟨m, hm⟩ := k0; exact DataW.trod_lt m _ _ _ hm
  obtain ⟨A0, c0, l0, rfl, hr0, hc0, hm0, hw0⟩ := RowKit.ints_val Tryd.underlying40 Tryd.underlying5 (by kernel_rfl) (hval 0 40 v0 rfl rfl) h0
  have hLW : PFnTxs.LaidW W := ⟨fun _ => ⟨table hlaid, World.block_lt_of_cell? W _ ((table hlaid).cell gTab 0 (by decide))⟩, Tryd.laysM145.s1_3 W hshape⟩
  clear hA0 hval0 hsz0
  obtain ⟨k, hk⟩ := Pure.FnTxs l0 hm0 hw0
  refine (PFnTxs.laws_FnTxs.calls (w := W) (hr0 := hr0) (hc0 := hc0) (hT := rfl) (hL := hLW) (h := hk)).mono fun e W' ⟨he, hd⟩ => ?_
  have bel : Below W.heap.size W W' := hd
  subst he
  exact ⟨_, rfl, _, _, _, [], _, [], hW', trodAll_mk1 (shut_bool Tryd.underlying4 _), (trodAll_cons_mk (Below.trod laidOut (by kernel_rfl) (of_decide_eq_true (by kernel_rfl)) k0 bel lt0) trodAll_mk0), rfl, bel.frame _, fun h => by cases h⟩
theorem proved : Rows.FnTxsSaid :=
  OpenClaim.holds_of_cond 13 Tryd.f13 rfl rfl rfl rfl rfl rfl rfl ⟨rfl, rfl, rfl, rfl, rfl⟩ rfl rfl rfl rfl rfl (by kernel_rfl) Tryd.func13 (by kernel_rfl)
    (of_decide_eq_true (by kernel_rfl)) (by unfold Func.isWrapper; first | (rw [if_pos (by decide +kernel)]; kernel_rfl) | (rw [if_neg (by decide +kernel)]; exact ⟨rfl, rfl⟩))
    (fun os started H enc _ F => by rw [OpenClaim.pre_eq_preRow]; exact lifted os started H enc F)
theorem plain (f : FuncId) (fn : Func) (hf : Tryd.pinned.checked.prog.funcNamed "loop.example/g00448/laws.FnTxs" = some f) (hfn : Tryd.pinned.checked.prog.funcs[f]? = some fn) :
    false = Tryd.pinned.checked.prog.looks [] ∧ ∀ (j : Nat) t, fn.params[j]? = some t → Tryd.pinned.checked.prog.wantsStandIn t = false := by
  obtain rfl : f = 13 := Option.some.inj ((show Tryd.prog.funcNamed "loop.example/g00448/laws.FnTxs" = some 13 by kernel_rfl).symm.trans hf) |>.symm
  obtain rfl : fn = Tryd.f13 := (Option.some.inj (Tryd.func13.symm.trans hfn)).symm
  refine ⟨by kernel_rfl, fun j t ht => ?_⟩
  rw [Tryd.params13] at ht
  obtain rfl : t = 40 := by simpa using Array.mem_of_getElem? ht
  exact (show Tryd.prog.wantsStandIn 40 = false by kernel_rfl)
/-- THE CARD. -/
theorem card : Rows.FnTxsCardSaid :=
  Claim7.holds_tied_plain_at .later [] _ _ _ _ proved (fun _ h => by cases h) (by kernel_rfl) (fun _ h => by cases h) fnTxs_row_tie rfl ⟨rfl, rfl⟩ (by kernel_rfl) rfl plain (by kernel_rfl)
#print axioms card
end Go.Proofs.YtbecffgalndagaaDoor.fnTxs
namespace Go.Proofs.YtbecffgalndagaaDoor
/-- The statement, under a short name, for the claim. -/
theorem fnTxs_holds : Rows.FnTxsCardSaid := fnTxs.card
end Go.Proofs.YtbecffgalndagaaDoor
