/- How a law's arguments open to numbers and lists, whatever the law; no condition of their own. -/
import Derived.Test.YtnlakfbbbnkcpaaDoorWWords
import Derived.WalkKit
import Derived.ProofKit
import Derived.OpenShut
import Derived.ShutString
import Derived.ChangeOld
import Derived.ChangeSlices
import Derived.Below
import Derived.Carry
import Derived.SizedLaws
import Derived.Lib.SmallJoins
import Derived.Deep.Slices
namespace Go.Proofs.YtnlakfbbbnkcpaaDoor.RowKit
open Go.ChangeShapes Go.WideShapes Go.ChangeAt Go.RowKit Go.Joins Go.Deep Go.Proofs.YtnlakfbbbnkcpaaDoorW.PrintWords
set_option linter.unusedVariables false
variable {H : Type} {enc : TypeId × Value → H} {P : Program} {W : World} {base : Nat} {spare : Nat → Bool} {held : Bool} {t e : TypeId} {fuel : Nat} {v : Value} {y : DataW H × List MemPlace}

theorem int_cell {k : IntKind} (hu : P.underlying t = some (.int k)) (h : DataW.trod enc P W base spare held fuel t [v] = some y) : ∃ a, v = .int k a ∧ (Lit.int k a).wf = true := by
  obtain ⟨n, hc, _, hw⟩ := DataW.trod_int hu h
  exact ⟨n, by simpa using hc, hw⟩
def IsRow (k : IntKind) (w : World) (a : Option Addr) (len cap : Nat) (zs : List Int) : Prop :=
  (a = none ∧ len = 0 ∧ cap = 0 ∧ zs = []) ∨ ∃ x, a = some x ∧ len ≤ cap ∧ cap ≤ maxLen ∧ zs.length = cap ∧ (∀ i, i < zs.length → w.cell? (x.add i) = some (.int k (zs.getD i 0))) ∧ ∀ n ∈ zs, (Lit.int k n).wf = true
theorem ints_of_row {k : IntKind} {w : World} {a : Option Addr} {len cap : Nat} {zs : List Int} (h : IsRow k w a len cap zs) :
    ∃ l : List Int, len = l.length ∧ Kd.C (Kd.int k) w a l.length l ∧ l.length ≤ cap ∧ l.length ≤ maxLen ∧ ∀ x ∈ l, (Lit.int k x).wf = true := by
  obtain ⟨l, hl, hr, hm, hw, hc⟩ := ReadsInt.ofRowC h
  exact ⟨l, hl, Kd.C_of_reads (d := (0 : Int)) (h1 := fun _ => rfl) hr, hc, hm, hw⟩
theorem ints_cell {k : IntKind} (hu : P.underlying t = some (.slice e)) (he : P.underlying e = some (.int k)) (hc : P.cellsOf e = 1) (h : DataW.trod enc P W 0 (fun _ => true) held fuel t [v] = some y) :
    ∃ (A : Option Addr) (c : Nat) (l : List Int), v = .slice A l.length c ∧ Kd.C (Kd.int k) W A l.length l ∧ l.length ≤ c ∧ l.length ≤ maxLen ∧ ∀ x ∈ l, (Lit.int k x).wf = true := by
  rcases open_ints hu he hc h with ⟨hcs, _⟩ | ⟨x, len, cap, zs, hcs, _, hl, hm, hz, _, hcell, hwz⟩
  · obtain rfl : v = .slice none 0 0 := by simpa using hcs
    obtain ⟨l, h0, h1, h2, h3, h4⟩ := ints_of_row (k := k) (w := W) (a := none) (len := 0) (cap := 0) (zs := []) (.inl ⟨rfl, rfl, rfl, rfl⟩)
    exact ⟨none, 0, l, by rw [← h0], h1, h2, h3, h4⟩
  · obtain rfl : v = .slice (some x) len cap := by simpa using hcs
    obtain ⟨l, h0, h1, h2, h3, h4⟩ := ints_of_row (k := k) (w := W) (a := some x) (len := len) (cap := cap) (zs := zs) (.inr ⟨x, rfl, hl, hm, by simpa using hz, hcell, hwz⟩)
    exact ⟨some x, cap, l, by rw [← h0], h1, h2, h3, h4⟩
theorem ints_val {k : IntKind} {r : Reach} {b0 : Nat} {d : DataW H} {ps : List MemPlace} (hu : P.underlying t = some (.slice e)) (he : P.underlying e = some (.int k)) (hc : P.cellsOf e = 1) (hv : Value.okWide P W r b0 t v) (h : DataW.Trod enc P W 0 (fun _ => true) held t v d ps) :
    ∃ (A : Option Addr) (c : Nat) (l : List Int), v = .slice A l.length c ∧ Kd.C (Kd.int k) W A l.length l ∧ l.length ≤ c ∧ l.length ≤ maxLen ∧ ∀ x ∈ l, (Lit.int k x).wf = true := by
  obtain ⟨a, len, cap, rfl⟩ := okWide_slice hu hv
  obtain ⟨fuel, hf⟩ := h
  exact ints_cell hu he hc (fuel := fuel) (y := (d, ps)) (by simpa [Value.cells] using hf)
/-- A slice of structs of four numbers. -/
def Fours (w : World) (A : Option Addr) (n : Nat) (g : Nat → Int × Int × Int × Int) : Prop :=
  0 < n → ∃ ad, A = some ad ∧ ∀ j, j < n → w.cell? (ad.add (j * 4)) = some (.int .i64 (g j).1) ∧ w.cell? (ad.add (j * 4 + 1)) = some (.int .i64 (g j).2.1) ∧ w.cell? (ad.add (j * 4 + 2)) = some (.int .i64 (g j).2.2.1) ∧ w.cell? (ad.add (j * 4 + 3)) = some (.int .i64 (g j).2.2.2)
def Fit4 (x : Int × Int × Int × Int) : Prop := (Lit.int .i64 x.1).wf = true ∧ (Lit.int .i64 x.2.1).wf = true ∧ (Lit.int .i64 x.2.2.1).wf = true ∧ (Lit.int .i64 x.2.2.2).wf = true
theorem four_of {f0 f1 f2 f3 : Field} {n : Nat} {cs : List Value} {a : Addr} {i : Nat} (he : P.underlying e = some (.struct #[f0, f1, f2, f3]))
    (o0 : f0.offset = 0 ∧ P.cellsOf f0.type = 1 ∧ P.underlying f0.type = some (.int .i64)) (o1 : f1.offset = 1 ∧ P.cellsOf f1.type = 1 ∧ P.underlying f1.type = some (.int .i64))
    (o2 : f2.offset = 2 ∧ P.cellsOf f2.type = 1 ∧ P.underlying f2.type = some (.int .i64)) (o3 : f3.offset = 3 ∧ P.cellsOf f3.type = 1 ∧ P.underlying f3.type = some (.int .i64)) (hC : P.cellsOf e = 4)
    (hc : W.cells? base (a.add (i * 4)) 4 = some cs) (h : DataW.trod enc P W base spare held n e cs = some y) :
    ∃ x : Int × Int × Int × Int, W.cell? (a.add (i * 4)) = some (.int .i64 x.1) ∧ W.cell? (a.add (i * 4 + 1)) = some (.int .i64 x.2.1) ∧ W.cell? (a.add (i * 4 + 2)) = some (.int .i64 x.2.2.1) ∧ W.cell? (a.add (i * 4 + 3)) = some (.int .i64 x.2.2.2) ∧ Fit4 x := by
  obtain ⟨_, hl, hat⟩ := World.cells?_some hc
  obtain ⟨y0, y1, y2, y3, n', _, _, h0, h1, h2, h3⟩ := trod_struct4 he h
  match cs, hl with
  | [c0, c1, c2, c3], _ =>
    rw [o0.1, o0.2.1] at h0
    rw [o1.1, o1.2.1] at h1
    rw [o2.1, o2.2.1] at h2
    rw [o3.1, o3.2.1] at h3
    obtain ⟨x0, rfl, w0⟩ := int_cell (v := c0) o0.2.2 (by simpa using h0)
    obtain ⟨x1, rfl, w1⟩ := int_cell (v := c1) o1.2.2 (by simpa using h1)
    obtain ⟨x2, rfl, w2⟩ := int_cell (v := c2) o2.2.2 (by simpa using h2)
    obtain ⟨x3, rfl, w3⟩ := int_cell (v := c3) o3.2.2 (by simpa using h3)
    have a0 := hat 0 (by omega)
    have a1 := hat 1 (by omega)
    have a2 := hat 2 (by omega)
    have a3 := hat 3 (by omega)
    rw [Go.Deep.add_add] at a0 a1 a2 a3
    exact ⟨(x0, x1, x2, x3), by simpa using a0, by simpa using a1, by simpa using a2, by simpa using a3, w0, w1, w2, w3⟩
theorem fours_val {f0 f1 f2 f3 : Field} {r : Reach} {b0 : Nat} {d : DataW H} {ps : List MemPlace} (hu : P.underlying t = some (.slice e)) (he : P.underlying e = some (.struct #[f0, f1, f2, f3]))
    (o0 : f0.offset = 0 ∧ P.cellsOf f0.type = 1 ∧ P.underlying f0.type = some (.int .i64)) (o1 : f1.offset = 1 ∧ P.cellsOf f1.type = 1 ∧ P.underlying f1.type = some (.int .i64))
    (o2 : f2.offset = 2 ∧ P.cellsOf f2.type = 1 ∧ P.underlying f2.type = some (.int .i64)) (o3 : f3.offset = 3 ∧ P.cellsOf f3.type = 1 ∧ P.underlying f3.type = some (.int .i64)) (hC : P.cellsOf e = 4)
    (hv : Value.okWide P W r b0 t v) (h : DataW.Trod enc P W 0 (fun _ => true) held t v d ps) :
    ∃ (A : Option Addr) (len c : Nat) (g : Nat → Int × Int × Int × Int), v = .slice A len c ∧ Fours W A len g ∧ len ≤ c ∧ len ≤ maxLen ∧ ∀ j, j < len → Fit4 (g j) := by
  obtain ⟨A, len, cap, rfl⟩ := okWide_slice hu hv
  obtain ⟨fuel, hf⟩ := h
  rcases open_slice (cs := [.slice A len cap]) hu (by simpa [Value.cells] using hf) with ⟨hcs, _⟩ | ⟨a, l, c, m, n, D, Pl, hcs, _, hl, hm, hmm, _, hi⟩
  · obtain ⟨rfl, rfl, rfl⟩ : A = none ∧ len = 0 ∧ cap = 0 := by simpa using hcs
    exact ⟨none, 0, 0, fun _ => (0, 0, 0, 0), rfl, fun h => absurd h (by omega), by omega, by unfold maxLen; omega, fun j h => absurd h (by omega)⟩
  · obtain ⟨rfl, rfl, rfl⟩ : A = some a ∧ len = l ∧ cap = c := by simpa using hcs
    have hml : len ≤ m := by rw [hmm]; simp only [if_true]; exact hl
    have hx : ∀ i, i < len → ∃ x : Int × Int × Int × Int, W.cell? (a.add (i * 4)) = some (.int .i64 x.1) ∧ W.cell? (a.add (i * 4 + 1)) = some (.int .i64 x.2.1) ∧ W.cell? (a.add (i * 4 + 2)) = some (.int .i64 x.2.2.1) ∧ W.cell? (a.add (i * 4 + 3)) = some (.int .i64 x.2.2.2) ∧ Fit4 x := by
      intro i h
      obtain ⟨cs', hcc, htt⟩ := hi i (by omega)
      rw [hC] at hcc
      exact four_of he o0 o1 o2 o3 hC hcc htt
    obtain ⟨g, hg⟩ := choose_lt hx
    exact ⟨some a, len, cap, g, rfl, fun _ => ⟨a, rfl, fun j hj => let z := hg j hj; ⟨z.1, z.2.1, z.2.2.1, z.2.2.2.1⟩⟩, hl, Nat.le_trans hl hm, fun j hj => (hg j hj).2.2.2.2⟩
end Go.Proofs.YtnlakfbbbnkcpaaDoor.RowKit
