/- For every text, every whole number and every list of payments the program's NameOf tells what the reference tells, and the list stays as it was; no condition beyond the row's own (the library's tables lie as the program's text lays them). -/
import Derived.Test.YtbecffgalndagaaDoorRows
import Derived.Test.YtbecffgalndagaaDoorPFnExactNameOfx7
import Derived.Test.YtbecffgalndagaaDoorPureFnExactNameOf
import Derived.Test.YtbecffgalndagaaDoorRowKit
import Derived.WalkKit
import Derived.ProofKit
import Derived.OpenShut
import Derived.ShutString
import Derived.ChangeOld
import Derived.Below
import Derived.Carry
import Derived.SizedLaws
import Derived.Test.YtbecffgalndagaaDoorCards
import Derived.Test.YtbecffgalndagaaDoorTie
import Derived.Test.YtbecffgalndagaaDoorShelf
import Derived.Deep.DeepHandedRow
import Derived.Lib.LaidTab
import Derived.Stop.LaidErr
import Derived.MakeChecks
namespace Go.Proofs.YtbecffgalndagaaDoor.fnExactNameOf
open Go.ChangeShapes Go.WideShapes Go.ChangeAt Go.RowKit Go.Proofs.YtbecffgalndagaaDoorW.PrintWords
open Go.ChangeMaps (open_string shut_string)
set_option linter.unusedVariables false
theorem own : ownKnob Tryd.prog.godebug = none := by kernel_rfl
theorem laidOut : laidOutB Tryd.prog = true := by kernel_rfl
theorem toS56 {w : World} {A : Option Addr} {n : Nat} {g : Nat → Int × Int × Int × Int} (hm : n ≤ maxLen) (h : RowKit.Fours w A n g) (hw : ∀ j, j < n → RowKit.Fit4 (g j)) :
    ∃ l : List PFnExactNameOf.S56, n = l.length ∧ Kd.C PFnExactNameOf.k56 w A l.length l ∧ ∀ x ∈ l, RowKit.Fit4 (x.f0, x.f1, x.f2, x.f3) := by
  let f : Nat → PFnExactNameOf.S56 := fun j => ⟨(g j).1, (g j).2.1, (g j).2.2.1, (g j).2.2.2⟩
  have hl : ((List.range n).map f).length = n := by simp
  refine ⟨(List.range n).map f, hl.symm, ?_, ?_⟩
  · rw [hl]
    refine ⟨hl, by unfold maxLen at hm; omega, fun hp => ?_⟩
    obtain ⟨ad, e, hc⟩ := h hp
    refine ⟨ad, e, fun j p hj => ?_⟩
    have hjn : j < n := by
      have := (List.getElem?_eq_some_iff.1 hj).1
      rw [hl] at this; exact this
    obtain rfl : f j = p := by
      rw [List.getElem?_map, List.getElem?_range hjn] at hj
      exact Option.some.inj hj
    obtain ⟨h0, h1, h2, h3⟩ := hc j hjn
    refine ⟨_, rfl, PFnExactNameOf.k56_mk w (f j), fun q u hq => ?_⟩
    rcases q with _ | _ | _ | _ | q
    · obtain rfl := Option.some.inj hq; exact h0
    · obtain rfl := Option.some.inj hq; exact h1
    · obtain rfl := Option.some.inj hq; exact h2
    · obtain rfl := Option.some.inj hq; exact h3
    · simp at hq
  · intro x hx
    obtain ⟨j, hj, rfl⟩ := List.mem_map.1 hx
    exact hw j (List.mem_range.1 hj)
theorem gTab : Tryd.prog.globalNamed "internal/strconv.uint64pow10" = some 1 := by kernel_rfl
theorem gTabType : (Tryd.prog.globals[1]?).map (·.type) = some 119 := by kernel_rfl
theorem cellsE : Tryd.prog.cellsOf 108 = 1 := by kernel_rfl
theorem cellsT : Tryd.prog.cellsOf 119 = 20 := by kernel_rfl
/-- WHAT THE ROW's LIST GIVES: the table of powers of ten. -/
theorem table {W : World} (h : laidMetH Tryd.prog Rows.fnExactNameOfRow.laid W) : Lib.TabIs Tryd.prog W "internal/strconv.uint64pow10" .u64 Lib.pow10Tab := by
  rw [MakeChecks.laidMetH_plain _ _ _ (by kernel_rfl)] at h
  exact Lib.tabIs_of_head gTab gTabType Tryd.underlying119 Tryd.underlying108 cellsE cellsT (zs := Lib.pow10Tab) (show laidMet Tryd.prog (("internal/strconv.uint64pow10", Lib.tabData .u64 Lib.pow10Tab) :: _) W from h.tail.tail)
def litV : DataW Unit → Value
  | .lit (.int k z) => .int k z
  | _ => .bool false
def rowV : DataW Unit → List Value
  | .agg xs => xs.map litV
  | _ => []
def gridV : DataW Unit → List Value
  | .agg xs => (xs.map rowV).flatten
  | _ => []
def putB (cs : List Value) : Obj → Obj
  | .cells _ t fr => .cells cs.toArray t fr
  | x => x
/-- A WORLD FOR THE WITNESS: the settled one, the listed tables holding what their initialisers lay. -/
noncomputable def laidWorld (os : Os) : World :=
  { World.holding Tryd.prog os ⟨#[], #[], []⟩ with heap := ((((((World.holding Tryd.prog os ⟨#[], #[], []⟩).heap.modify 4 (putB (rowV Rows.laid_math_bits_deBruijn32tab))).modify 5 (putB (rowV Rows.laid_math_bits_deBruijn64tab))).modify 1 (putB (rowV Rows.laid_internal_strconv_uint64pow10))).modify 3 (putB (gridV Rows.laid_unicode_utf8_acceptRanges))).modify 2 (putB (rowV Rows.laid_unicode_utf8_first))) }
theorem laid_met (os : Os) : laidMet Tryd.prog Rows.fnExactNameOfRow.laid ((laidWorld os).forCall (fun _ _ => 0) ⟨#[], #[.string ByteArray.empty, .int .i64 0, .slice none 0 0], []⟩).memory :=
  laidMet_of_run' 8 (by kernel_rfl) (by kernel_rfl)
theorem reads (os : Os) {H : Type} (enc : TypeId × Value → H) : ∃ places, DataW.whole enc Tryd.prog ((laidWorld os).forCall (fun _ _ => 0) ⟨#[], #[.string ByteArray.empty, .int .i64 0, .slice none 0 0], []⟩).memory Tryd.f3.params.toList Rows.fnExactNameOfSpec.vars false #[(.string ByteArray.empty : Value), (.int .i64 0 : Value), (.slice none 0 0 : Value)].toList 8 = some ([.lit (.string []), .lit (.int .i64 0), .nil], [], places) :=
  ⟨[], by kernel_rfl⟩
set_option maxRecDepth 100000 in
theorem lifted (os : Os) (started : os.Started) (H : Type) (enc : TypeId × Value → H) (F : Stop.Interp) :
    ReturnsInHanded {} Tryd.checked os 3 .any ((OpenSpec.ofChange Rows.fnExactNameOfSpec).preRow enc Tryd.prog Tryd.f3 Rows.fnExactNameOfRow.domain false Rows.fnExactNameOfRow.laid) (((OpenSpec.ofChange Rows.fnExactNameOfSpec).at F).post enc Tryd.prog Tryd.f3 false true false false) := by
  obtain ⟨places, hx⟩ := reads os enc
  refine returnsInHanded_of_row (C := Tryd.checked) (s := OpenSpec.ofChange Rows.fnExactNameOfSpec) own started (by kernel_rfl) Tryd.func3
    (witness_row_at (enc := enc) (C := Tryd.checked) false (laidWorld os) #[.string ByteArray.empty, .int .i64 0, .slice none 0 0] rfl (by kernel_rfl) (by kernel_rfl) (by kernel_rfl)
      (OpenSpec.preRow_of_cond 8 hx (by kernel_rfl) (fun k hk => by cases hk) (by kernel_rfl) (laid_met os))) ?_
  intro W base args ds gs before hval0 hW hcnd hcd_ hsz0 hlaid hshape _
  have hval : ∀ (j : Nat) t v, Tryd.f3.params[j]? = some t → args[j]? = some v → Value.okWide Tryd.prog W .any base t v := hval0
  have hW' := hW
  obtain ⟨p, q, hA0, hV, rfl, hfz, hnd⟩ := hW
  have hA : DataW.TrodAll enc Tryd.prog W 0 (fun _ => true) true Tryd.f3.params.toList args.toList ds p := hA0
  rw [Tryd.params3] at hA hval
  obtain ⟨v0, vs0, d0, ds0, p0, q0, hargs, rfl, rfl, h0, r0⟩ := trodAll_cons hA
  obtain ⟨v1, vs1, d1, ds1, p1, q1, rfl, rfl, rfl, h1, r1⟩ := trodAll_cons r0
  obtain ⟨v2, vs2, d2, ds2, p2, q2, rfl, rfl, rfl, h2, r2⟩ := trodAll_cons r1
  obtain ⟨rfl, rfl, rfl⟩ := trodAll_nil r2
  obtain rfl : args = #[v0, v1, v2] := by cases args; simp_all
  obtain ⟨rfl, rfl⟩ := trodVars_none hV
  have k0 := h0
  have lt0 : ∀ x ∈ p0, x.block < W.heap.size := by obtain ⟨m, hm⟩ := k0; exact DataW.trod_lt m _ _ _ hm
  obtain ⟨a0, rfl, rfl, rfl, w0⟩ := open_string Tryd.underlying9 (hval 0 9 v0 rfl rfl) h0
  have k1 := h1
  have lt1 : ∀ x ∈ p1, x.block < W.heap.size := by obtain ⟨m, hm⟩ := k1; exact DataW.trod_lt m _ _ _ hm
  obtain ⟨a1, rfl, rfl, rfl, w1⟩ := open_int Tryd.underlying3 (hval 1 3 v1 rfl rfl) h1
  have k2 := h2
  have lt2 : ∀ x ∈ p2, x.block < W.heap.size := by obtain ⟨m, hm⟩ := k2; exact DataW.trod_lt m _ _ _ hm
  obtain ⟨A2, n2, c2, g2, rfl, hg2, hn2, hm2, hw2⟩ := RowKit.fours_val Tryd.underlying22 Tryd.underlying56 ⟨rfl, by kernel_rfl, Tryd.underlying3⟩ ⟨rfl, by kernel_rfl, Tryd.underlying3⟩ ⟨rfl, by kernel_rfl, Tryd.underlying3⟩ ⟨rfl, by kernel_rfl, Tryd.underlying3⟩ (by kernel_rfl) (hval 2 22 v2 rfl rfl) h2
  obtain ⟨l2, rfl, hr2, hf2⟩ := toS56 hm2 hg2 hw2
  have hLW : PFnExactNameOf.LaidW W := ⟨fun _ => ⟨table hlaid, World.block_lt_of_cell? W _ ((table hlaid).cell gTab 0 (by decide))⟩, Tryd.laysM145.s1_3 W hshape⟩
  clear hA0 hval0 hsz0
  obtain ⟨k, hk⟩ := Pure.FnExactNameOf a0 a1 l2 w0 w1 hm2 hf2
  refine (PFnExactNameOf.laws_FnExactNameOf.calls (w := W) (hr2 := hr2) (hc2 := hn2) (hT := rfl) (hL := hLW) (h := hk)).mono fun e W' ⟨he, hd⟩ => ?_
  have bel : Below W.heap.size W W' := hd
  subst he
  exact ⟨_, rfl, _, _, _, [], _, [], hW', trodAll_mk1 (shut_bool Tryd.underlying4 _), (trodAll_cons_mk (Below.trod laidOut (by kernel_rfl) (of_decide_eq_true (by kernel_rfl)) k0 bel lt0) (trodAll_cons_mk (Below.trod laidOut (by kernel_rfl) (of_decide_eq_true (by kernel_rfl)) k1 bel lt1) (trodAll_cons_mk (Below.trod laidOut (by kernel_rfl) (of_decide_eq_true (by kernel_rfl)) k2 bel lt2) trodAll_mk0))), rfl, bel.frame _, fun h => by cases h⟩
theorem proved : Rows.FnExactNameOfSaid :=
  OpenClaim.holds_of_cond 3 Tryd.f3 rfl rfl rfl rfl rfl rfl rfl ⟨rfl, rfl, rfl, rfl, rfl⟩ rfl rfl rfl rfl rfl (by kernel_rfl) Tryd.func3 (by kernel_rfl)
    (of_decide_eq_true (by kernel_rfl)) (by unfold Func.isWrapper; first | (rw [if_pos (by decide +kernel)]; kernel_rfl) | (rw [if_neg (by decide +kernel)]; exact ⟨rfl, rfl⟩))
    (fun os started H enc _ F => by rw [OpenClaim.pre_eq_preRow]; exact lifted os started H enc F)
theorem plain (f : FuncId) (fn : Func) (hf : Tryd.pinned.checked.prog.funcNamed "loop.example/g00448/laws.FnExactNameOf" = some f) (hfn : Tryd.pinned.checked.prog.funcs[f]? = some fn) :
    false = Tryd.pinned.checked.prog.looks [] ∧ ∀ (j : Nat) t, fn.params[j]? = some t → Tryd.pinned.checked.prog.wantsStandIn t = false := by
  obtain rfl : f = 3 := Option.some.inj ((show Tryd.prog.funcNamed "loop.example/g00448/laws.FnExactNameOf" = some 3 by kernel_rfl).symm.trans hf) |>.symm
  obtain rfl : fn = Tryd.f3 := (Option.some.inj (Tryd.func3.symm.trans hfn)).symm
  refine ⟨by kernel_rfl, fun j t ht => ?_⟩
  rw [Tryd.params3] at ht
  have ht' := Array.mem_of_getElem? ht
  simp at ht'
  rcases ht' with rfl | rfl | rfl
  · exact (show Tryd.prog.wantsStandIn 9 = false by kernel_rfl)
  · exact (show Tryd.prog.wantsStandIn 3 = false by kernel_rfl)
  · exact (show Tryd.prog.wantsStandIn 22 = false by kernel_rfl)
/-- THE CARD. -/
theorem card : Rows.FnExactNameOfCardSaid :=
  Claim7.holds_tied_plain_at .later [] _ _ _ _ proved (fun _ h => by cases h) (by kernel_rfl) (fun _ h => by cases h) fnExactNameOf_row_tie rfl ⟨rfl, rfl⟩ (by kernel_rfl) rfl plain (by kernel_rfl)
#print axioms card
end Go.Proofs.YtbecffgalndagaaDoor.fnExactNameOf
namespace Go.Proofs.YtbecffgalndagaaDoor
/-- The statement, under a short name, for the claim. -/
theorem fnExactNameOf_holds : Rows.FnExactNameOfCardSaid := fnExactNameOf.card
end Go.Proofs.YtbecffgalndagaaDoor
