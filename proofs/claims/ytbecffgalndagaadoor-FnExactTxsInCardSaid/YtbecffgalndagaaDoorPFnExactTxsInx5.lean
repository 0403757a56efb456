/- Walks of the functions that a law of seat YtbecffgalndagaaDoor reaches, each against a Lean function, printed by this session's wip/myprint.py; no condition of their own. -/
import Derived.Test.YtbecffgalndagaaDoorPFnExactTxsInx0
import Derived.Test.YtbecffgalndagaaDoorPFnExactTxsInx4
namespace Go.Proofs.YtbecffgalndagaaDoor.PFnExactTxsIn
open Go.RowKit Go.Proofs.YtbecffgalndagaaDoorW.PrintWords Go.Proofs.YtbecffgalndagaaDoorW.PrintLast Go.Proofs.YtbecffgalndagaaDoorW.PrintMore
attribute [local go_sem] max2_int min2_int max_two min_two max_three min_three max_four min_four   -- for this text's walks alone
set_option linter.unusedVariables false
set_option linter.unusedSimpArgs false

/-! ### strings_Cut: function 69 -/
def strings_Cut.f (a0 : ByteArray) (a1 : ByteArray) : Option (ByteArray × ByteArray × Bool) := if a0.size < 4294967281 then some (⟨(Lib.cut a0.data.toList a1.data.toList).1.toArray⟩, ⟨(Lib.cut a0.data.toList a1.data.toList).2.1.toArray⟩, (Lib.cut a0.data.toList a1.data.toList).2.2) else none
theorem strings_Cut.calls (a0 : ByteArray) (a1 : ByteArray) (r1 : ByteArray) (r2 : ByteArray) (r3 : Bool) (w : World) (hL : LaidW w) (h : strings_Cut.f a0 a1 = some (r1, r2, r3)) :
    Calls Tryd.prog 69 #[.string a0, .string a1] w fun e w' => e = .returned (.tuple #[.string r1, .string r2, .bool r3]) ∧ Drawn0 w w' := by
  unfold strings_Cut.f at h
  by_cases hb : a0.size < 4294967281
  · rw [if_pos hb] at h
    replace h := Option.some.inj h
    simp only [Prod.mk.injEq] at h
    obtain ⟨rfl, rfl, rfl⟩ := h
    obtain ⟨m, hm⟩ := hL.2
    refine (Tryd.strings_Cut a0 a1 m w hb hm).mono ?_
    rintro e w' ⟨rfl, n, rfl⟩
    exact ⟨rfl, ⟨⟨n, rfl⟩⟩⟩
  · rw [if_neg hb] at h
    cases h

/-! ### impl_TxOf: function 45 -/
theorem ev_slice {P : Program} {ops : Array Oper} {rest : List Oper} {o : Oper} {a : Act} {Q : Exit → Act → World → Prop} {w0 W : World} {L : List Go.Proofs.YtbecffgalndagaaDoorH.Pc} (HS : Go.Proofs.YtbecffgalndagaaDoorH.SS w0 W L) {t : TypeId} {n : Nat} {xs : Array (Nat × Operand)} {e : TypeId} {cs : Array Value} (ho : o.op = .buildSlice t n xs) (hw : Region.wanted o (yielded ops a.tmps) = true)
    (hrun : (Instr.buildSlice t n (xs.map fun (i, x) => (i, a.eval x))).run P W = .ok (.slice (some ⟨W.heap.size, 0, none⟩) n n) (W.alloc (.cells cs e (0, 0))))
    (h : ∀ g w1, Go.Proofs.YtbecffgalndagaaDoorH.SS w0 w1 (Go.Proofs.YtbecffgalndagaaDoorH.box g cs e :: L) → wpList P ops Q rest (a.put o.dst (.slice (some ⟨g, 0, none⟩) n n)) w1) : wpList P ops Q (o :: rest) a W := by
  refine Go.Proofs.YtbecffgalndagaaDoorH.ev_val hw (w1 := W.alloc (.cells cs e (0, 0))) ?_ (h _ _ (HS.push (below_alloc (Below.refl _ _) _) (Go.Proofs.YtbecffgalndagaaDoorH.box W.heap.size cs e) (G := fun k => k = W.heap.size) ⟨blk_new _ _, fun k => Iff.rfl⟩ (fun k hk => Nat.le_of_eq hk.symm)))
  unfold execOp
  simp only [ho, Sem.run_bind, hrun, Result.andThen_ok, Sem.run_pure]
theorem gate_slice {P : Program} {ops : Array Oper} {rest : List Oper} {o : Oper} {a : Act} {Q : Exit → Act → World → Prop} {W : World} {t : TypeId} {n : Nat} {xs : Array (Nat × Operand)} (_ho : o.op = .buildSlice t n xs) (h : wpList P ops Q (o :: rest) a W) : wpList P ops Q (o :: rest) a W := h
section
open Go.Proofs.YtbecffgalndagaaDoorH
local instance : ZeroT Tryd.prog 44 #[.int .i64 0, .int .i64 0, .int .i64 0, .int .i64 0] := ⟨by kernel_rfl⟩
local instance : ZeroT Tryd.prog 76 #[.int .i64 0, .int .i64 0, .int .i64 0, .int .i64 0] := ⟨by kernel_rfl⟩
local instance : AggT Tryd.prog 44 4 := ⟨by kernel_rfl, by kernel_rfl⟩
local instance : CellT Tryd.prog 3 := ⟨by kernel_rfl, by kernel_rfl⟩
local instance : CellT Tryd.prog 9 := ⟨by kernel_rfl, by kernel_rfl⟩
set_option maxHeartbeats 8000000 in
set_option maxRecDepth 100000 in
theorem impl_TxOf.walk (k : Nat) (a0 s1 s2 s3 s4 r1 r2 : ByteArray) (b1 b2 b3 : Bool) (n1 n2 n3 n4 : Int) (o1 o2 o3 o4 : Bool) (t : ByteArray) (ok sm : Bool) (w : World) (hL : Aside0 (LaidW w))
    (c1 : Aside0 (strings_Cut.f a0 ⟨#[62]⟩ = some (s1, r1, b1))) (c2 : Aside0 (strings_Cut.f r1 ⟨#[58]⟩ = some (s2, r2, b2))) (c3 : Aside0 (strings_Cut.f r2 ⟨#[35]⟩ = some (s3, s4, b3)))
    (m1 : Aside0 (impl_Number.f k s1 = some (n1, o1))) (m2 : Aside0 (impl_Number.f k s2 = some (n2, o2))) (m3 : Aside0 (impl_Number.f k s3 = some (n3, o3))) (m4 : Aside0 (impl_Number.f k s4 = some (n4, o4)))
    (hk : Aside0 (impl_TxOk.f n1 n2 n3 n4 = some ok)) (ht : ok = true → Aside0 (impl_TxText.f n1 n2 n3 n4 = some t)) (hs : ok = true → (t.toList == a0.toList) = sm) :
    Calls Tryd.prog 45 #[.string a0] w fun e w' => e = .returned (if (ok && sm) = true then .tuple #[.agg #[.int .i64 n1, .int .i64 n2, .int .i64 n3, .int .i64 n4], .bool true] else .tuple #[.agg #[.int .i64 0, .int .i64 0, .int .i64 0, .int .i64 0], .bool false]) ∧ Below w.heap.size w w' := by
  have HS := SS.nil w
  go_enter Tryd.func45, Tryd.ntmps45
  go_wp2_with (first | ((with_reducible refine gate_dst (N := 2) rfl ?_); refine ev_alloc HS rfl rfl ?_; clear HS; intro g2 w1 HS) | ((with_reducible refine gate_dst (N := 12) rfl ?_); refine ev_alloc HS rfl rfl ?_; clear HS; intro g12 w1 HS) | ((with_reducible refine gate_slice rfl ?_); refine ev_slice HS (e := 9) (cs := #[.string s1, .string s2, .string s3, .string s4]) rfl rfl (by kernel_rfl) ?_; clear HS; intro gs w1 HS) | ((with_reducible refine gate_dst (N := 18) rfl ?_); refine ev_call (some 18) rfl rfl Tryd.func69 (by kernel_rfl) rfl rfl (by simp only [List.map_toArray, List.map_cons, List.map_nil]; rfl) ?_; refine (HS.valD (strings_Cut.calls (w := _) (hL := LaidW.below hL.out HS.below) (h := c1.out))).mono ?_; clear HS; rintro e w1 ⟨rfl, HS⟩; refine ⟨_, rfl, ?_⟩) | ((with_reducible refine gate_dst (N := 24) rfl ?_); refine ev_call (some 24) rfl rfl Tryd.func69 (by kernel_rfl) rfl rfl (by simp only [List.map_toArray, List.map_cons, List.map_nil]; rfl) ?_; refine (HS.valD (strings_Cut.calls (w := _) (hL := LaidW.below hL.out HS.below) (h := c2.out))).mono ?_; clear HS; rintro e w1 ⟨rfl, HS⟩; refine ⟨_, rfl, ?_⟩) | ((with_reducible refine gate_dst (N := 30) rfl ?_); refine ev_call (some 30) rfl rfl Tryd.func69 (by kernel_rfl) rfl rfl (by simp only [List.map_toArray, List.map_cons, List.map_nil]; rfl) ?_; refine (HS.valD (strings_Cut.calls (w := _) (hL := LaidW.below hL.out HS.below) (h := c3.out))).mono ?_; clear HS; rintro e w1 ⟨rfl, HS⟩; refine ⟨_, rfl, ?_⟩))
  refine wp_loop_rounds 5 ?_
  rw [rounds_succ]
  go_wp2_with (first | ((with_reducible refine gate_dst (N := 48) rfl ?_); refine ev_call (some 48) rfl rfl Tryd.func70 (by kernel_rfl) rfl rfl (by simp only [List.map_toArray, List.map_cons, List.map_nil]; rfl) ?_; refine (HS.val (impl_Number.calls (w := _) (hL := LaidW.below hL.out HS.below) (h := m1.out))).mono ?_; clear HS; rintro e w1 ⟨rfl, HS⟩; refine ⟨_, rfl, ?_⟩) | ((with_reducible refine gate_load rfl ?_); first | refine ev_loadC HS rfl rfl rfl (by rfl) ?_ | refine ev_loadS HS rfl rfl rfl (by rfl) ?_) | ((with_reducible refine gate_put rfl ?_); (first | refine ev_storeC HS rfl rfl rfl rfl rfl (by rfl) (by rfl) ?_ | refine ev_storeS HS rfl rfl rfl rfl rfl (by rfl) (by rfl) (by rfl) ?_); clear HS; intro w1 HS))
  rw [rounds_succ]
  go_wp2_with (first | ((with_reducible refine gate_dst (N := 48) rfl ?_); refine ev_call (some 48) rfl rfl Tryd.func70 (by kernel_rfl) rfl rfl (by simp only [List.map_toArray, List.map_cons, List.map_nil]; rfl) ?_; refine (HS.val (impl_Number.calls (w := _) (hL := LaidW.below hL.out HS.below) (h := m2.out))).mono ?_; clear HS; rintro e w1 ⟨rfl, HS⟩; refine ⟨_, rfl, ?_⟩) | ((with_reducible refine gate_load rfl ?_); first | refine ev_loadC HS rfl rfl rfl (by rfl) ?_ | refine ev_loadS HS rfl rfl rfl (by rfl) ?_) | ((with_reducible refine gate_put rfl ?_); (first | refine ev_storeC HS rfl rfl rfl rfl rfl (by rfl) (by rfl) ?_ | refine ev_storeS HS rfl rfl rfl rfl rfl (by rfl) (by rfl) (by rfl) ?_); clear HS; intro w1 HS))
  rw [rounds_succ]
  go_wp2_with (first | ((with_reducible refine gate_dst (N := 48) rfl ?_); refine ev_call (some 48) rfl rfl Tryd.func70 (by kernel_rfl) rfl rfl (by simp only [List.map_toArray, List.map_cons, List.map_nil]; rfl) ?_; refine (HS.val (impl_Number.calls (w := _) (hL := LaidW.below hL.out HS.below) (h := m3.out))).mono ?_; clear HS; rintro e w1 ⟨rfl, HS⟩; refine ⟨_, rfl, ?_⟩) | ((with_reducible refine gate_load rfl ?_); first | refine ev_loadC HS rfl rfl rfl (by rfl) ?_ | refine ev_loadS HS rfl rfl rfl (by rfl) ?_) | ((with_reducible refine gate_put rfl ?_); (first | refine ev_storeC HS rfl rfl rfl rfl rfl (by rfl) (by rfl) ?_ | refine ev_storeS HS rfl rfl rfl rfl rfl (by rfl) (by rfl) (by rfl) ?_); clear HS; intro w1 HS))
  rw [rounds_succ]
  go_wp2_with (first | ((with_reducible refine gate_dst (N := 48) rfl ?_); refine ev_call (some 48) rfl rfl Tryd.func70 (by kernel_rfl) rfl rfl (by simp only [List.map_toArray, List.map_cons, List.map_nil]; rfl) ?_; refine (HS.val (impl_Number.calls (w := _) (hL := LaidW.below hL.out HS.below) (h := m4.out))).mono ?_; clear HS; rintro e w1 ⟨rfl, HS⟩; refine ⟨_, rfl, ?_⟩) | ((with_reducible refine gate_load rfl ?_); first | refine ev_loadC HS rfl rfl rfl (by rfl) ?_ | refine ev_loadS HS rfl rfl rfl (by rfl) ?_) | ((with_reducible refine gate_put rfl ?_); (first | refine ev_storeC HS rfl rfl rfl rfl rfl (by rfl) (by rfl) ?_ | refine ev_storeS HS rfl rfl rfl rfl rfl (by rfl) (by rfl) (by rfl) ?_); clear HS; intro w1 HS))
  rw [rounds_succ]
  rcases ok with _ | _
  · clear ht hs
    go_wp2_with (first | ((with_reducible refine gate_dst (N := 15) rfl ?_); refine ev_alloc HS rfl rfl ?_; clear HS; intro g15 w1 HS) | ((with_reducible refine gate_dst (N := 63) rfl ?_); refine ev_call (some 63) rfl rfl Tryd.func56 (by kernel_rfl) rfl rfl (by simp only [List.map_toArray, List.map_cons, List.map_nil]; rfl) ?_; refine (HS.val (impl_TxOk.calls (w := _) (h := hk.out))).mono ?_; clear HS; rintro e w1 ⟨rfl, HS⟩; refine ⟨_, rfl, ?_⟩) | ((with_reducible refine gate_load rfl ?_); first | refine ev_loadC HS rfl rfl rfl (by rfl) ?_ | refine ev_loadS HS rfl rfl rfl (by rfl) ?_) | ((with_reducible refine gate_put rfl ?_); (first | refine ev_storeC HS rfl rfl rfl rfl rfl (by rfl) (by rfl) ?_ | refine ev_storeS HS rfl rfl rfl rfl rfl (by rfl) (by rfl) (by rfl) ?_); clear HS; intro w1 HS))
    refine bodyPost_ret (results_ct rfl _ _ g2 44 #[.int .i64 0, .int .i64 0, .int .i64 0, .int .i64 0] (0, 0) _ rfl (HS.box g2) Tryd.underlying44 rfl (by kernel_rfl)) rfl ?_
    exact ⟨rfl, HS.below⟩
  · have hq := hs rfl
    clear hs
    rcases sm with _ | _
    · go_wp2_with (first | ((with_reducible refine gate_dst (N := 15) rfl ?_); refine ev_alloc HS rfl rfl ?_; clear HS; intro g15 w1 HS) | ((with_reducible refine gate_dst (N := 63) rfl ?_); refine ev_call (some 63) rfl rfl Tryd.func56 (by kernel_rfl) rfl rfl (by simp only [List.map_toArray, List.map_cons, List.map_nil]; rfl) ?_; refine (HS.val (impl_TxOk.calls (w := _) (h := hk.out))).mono ?_; clear HS; rintro e w1 ⟨rfl, HS⟩; refine ⟨_, rfl, ?_⟩) | ((with_reducible refine gate_dst (N := 67) rfl ?_); refine ev_call (some 67) rfl rfl Tryd.func43 (by kernel_rfl) rfl rfl (by simp only [List.map_toArray, List.map_cons, List.map_nil]; rfl) ?_; refine (HS.val (impl_TxText.calls (w := _) (hL := LaidW.below hL.out HS.below) (h := (ht rfl).out))).mono ?_; clear HS; rintro e w1 ⟨rfl, HS⟩; refine ⟨_, rfl, ?_⟩) | ((with_reducible refine gate_load rfl ?_); first | refine ev_loadC HS rfl rfl rfl (by rfl) ?_ | refine ev_loadS HS rfl rfl rfl (by rfl) ?_) | ((with_reducible refine gate_put rfl ?_); (first | refine ev_storeC HS rfl rfl rfl rfl rfl (by rfl) (by rfl) ?_ | refine ev_storeS HS rfl rfl rfl rfl rfl (by rfl) (by rfl) (by rfl) ?_); clear HS; intro w1 HS))
      refine bodyPost_ret (results_ct rfl _ _ g2 44 #[.int .i64 0, .int .i64 0, .int .i64 0, .int .i64 0] (0, 0) _ rfl (HS.box g2) Tryd.underlying44 rfl (by kernel_rfl)) rfl ?_
      exact ⟨rfl, HS.below⟩
    · go_wp2_with (first | ((with_reducible refine gate_dst (N := 15) rfl ?_); refine ev_alloc HS rfl rfl ?_; clear HS; intro g15 w1 HS) | ((with_reducible refine gate_dst (N := 63) rfl ?_); refine ev_call (some 63) rfl rfl Tryd.func56 (by kernel_rfl) rfl rfl (by simp only [List.map_toArray, List.map_cons, List.map_nil]; rfl) ?_; refine (HS.val (impl_TxOk.calls (w := _) (h := hk.out))).mono ?_; clear HS; rintro e w1 ⟨rfl, HS⟩; refine ⟨_, rfl, ?_⟩) | ((with_reducible refine gate_dst (N := 67) rfl ?_); refine ev_call (some 67) rfl rfl Tryd.func43 (by kernel_rfl) rfl rfl (by simp only [List.map_toArray, List.map_cons, List.map_nil]; rfl) ?_; refine (HS.val (impl_TxText.calls (w := _) (hL := LaidW.below hL.out HS.below) (h := (ht rfl).out))).mono ?_; clear HS; rintro e w1 ⟨rfl, HS⟩; refine ⟨_, rfl, ?_⟩) | ((with_reducible refine gate_load rfl ?_); first | refine ev_loadC HS rfl rfl rfl (by rfl) ?_ | refine ev_loadS HS rfl rfl rfl (by rfl) ?_) | ((with_reducible refine gate_put rfl ?_); (first | refine ev_storeC HS rfl rfl rfl rfl rfl (by rfl) (by rfl) ?_ | refine ev_storeS HS rfl rfl rfl rfl rfl (by rfl) (by rfl) (by rfl) ?_); clear HS; intro w1 HS))
      refine bodyPost_ret (results_ct rfl _ _ g2 44 #[.int .i64 n1, .int .i64 n2, .int .i64 n3, .int .i64 n4] (0, 0) _ rfl (HS.box g2) Tryd.underlying44 rfl (by kernel_rfl)) rfl ?_
      exact ⟨rfl, HS.below⟩
end
def impl_TxOf.f (k : Nat) (a0 : ByteArray) : Option (Int × Int × Int × Int × Bool) := (strings_Cut.f a0 ⟨#[62]⟩).bind fun p => (strings_Cut.f p.2.1 ⟨#[58]⟩).bind fun q => (strings_Cut.f q.2.1 ⟨#[35]⟩).bind fun r => (impl_Number.f k p.1).bind fun n1 => (impl_Number.f k q.1).bind fun n2 => (impl_Number.f k r.1).bind fun n3 => (impl_Number.f k r.2.1).bind fun n4 =>
  (impl_TxOk.f n1.1 n2.1 n3.1 n4.1).bind fun ok => if ok = true then ((impl_TxText.f n1.1 n2.1 n3.1 n4.1).bind fun t => if t.toList = a0.toList then some (n1.1, n2.1, n3.1, n4.1, true) else some (0, 0, 0, 0, false)) else some (0, 0, 0, 0, false)
theorem impl_TxOf.mono : ∀ a0 k, LeO (impl_TxOf.f k a0) (impl_TxOf.f (k + 1) a0) := by
  intro a0 k
  unfold impl_TxOf.f
  repeat' first
      | (with_reducible exact LeO.refl _)
      | (with_reducible exact impl_Number.mono _ _)
      | (with_reducible refine LeO.bind ?_ (fun _ => ?_))
theorem impl_TxOf.calls (k : Nat) (a0 : ByteArray) (r1 : Int) (r2 : Int) (r3 : Int) (r4 : Int) (r5 : Bool) (w : World) (hL : LaidW w) (h : impl_TxOf.f k a0 = some (r1, r2, r3, r4, r5)) :
    Calls Tryd.prog 45 #[.string a0] w fun e w' => e = .returned (.tuple #[.agg #[.int .i64 r1, .int .i64 r2, .int .i64 r3, .int .i64 r4], .bool r5]) ∧ Below w.heap.size w w' := by
  unfold impl_TxOf.f at h
  obtain ⟨⟨s1, x1, b1⟩, c1, h⟩ := Option.bind_eq_some_iff.1 h
  obtain ⟨⟨s2, x2, b2⟩, c2, h⟩ := Option.bind_eq_some_iff.1 h
  obtain ⟨⟨s3, s4, b3⟩, c3, h⟩ := Option.bind_eq_some_iff.1 h
  obtain ⟨⟨n1, o1⟩, m1, h⟩ := Option.bind_eq_some_iff.1 h
  obtain ⟨⟨n2, o2⟩, m2, h⟩ := Option.bind_eq_some_iff.1 h
  obtain ⟨⟨n3, o3⟩, m3, h⟩ := Option.bind_eq_some_iff.1 h
  obtain ⟨⟨n4, o4⟩, m4, h⟩ := Option.bind_eq_some_iff.1 h
  obtain ⟨ok, hk, h⟩ := Option.bind_eq_some_iff.1 h
  simp only at c2 c3 m1 m2 m3 m4 hk h
  cases ok with
  | false =>
    rw [if_neg (by decide)] at h
    simp only [Option.some.injEq, Prod.mk.injEq] at h
    obtain ⟨rfl, rfl, rfl, rfl, rfl⟩ := h
    refine (impl_TxOf.walk k a0 s1 s2 s3 s4 x1 x2 b1 b2 b3 n1 n2 n3 n4 o1 o2 o3 o4 ByteArray.empty false false w ⟨hL⟩ ⟨c1⟩ ⟨c2⟩ ⟨c3⟩ ⟨m1⟩ ⟨m2⟩ ⟨m3⟩ ⟨m4⟩ ⟨hk⟩ (fun h => by cases h) (fun h => by cases h)).mono ?_
    rintro e w' ⟨he, hb⟩
    exact ⟨he, hb⟩
  | true =>
    rw [if_pos rfl] at h
    obtain ⟨t, ht, h⟩ := Option.bind_eq_some_iff.1 h
    by_cases hc : t.toList = a0.toList
    · rw [if_pos hc] at h
      simp only [Option.some.injEq, Prod.mk.injEq] at h
      obtain ⟨rfl, rfl, rfl, rfl, rfl⟩ := h
      refine (impl_TxOf.walk k a0 s1 s2 s3 s4 x1 x2 b1 b2 b3 n1 n2 n3 n4 o1 o2 o3 o4 t true true w ⟨hL⟩ ⟨c1⟩ ⟨c2⟩ ⟨c3⟩ ⟨m1⟩ ⟨m2⟩ ⟨m3⟩ ⟨m4⟩ ⟨hk⟩ (fun _ => ⟨ht⟩) (fun _ => beq_iff_eq.mpr hc)).mono ?_
      rintro e w' ⟨he, hb⟩
      exact ⟨he, hb⟩
    · rw [if_neg hc] at h
      simp only [Option.some.injEq, Prod.mk.injEq] at h
      obtain ⟨rfl, rfl, rfl, rfl, rfl⟩ := h
      refine (impl_TxOf.walk k a0 s1 s2 s3 s4 x1 x2 b1 b2 b3 n1 n2 n3 n4 o1 o2 o3 o4 t true false w ⟨hL⟩ ⟨c1⟩ ⟨c2⟩ ⟨c3⟩ ⟨m1⟩ ⟨m2⟩ ⟨m3⟩ ⟨m4⟩ ⟨hk⟩ (fun _ => ⟨ht⟩) (fun _ => beq_eq_false_iff_ne.mpr hc)).mono ?_
      rintro e w' ⟨he, hb⟩
      exact ⟨he, hb⟩

/-! ### strings_Split: function 84 -/
theorem row_new {α : Type} {enc : α → Value} {h1 : ∀ x, (enc x).oneCell' = true} (w : World) (e n : Nat) (xs : List α) (hn : xs.length = n) (hm : n ≤ maxLen) :
    Kd.R (Kd.scalar enc h1) e (w.alloc (.cells (xs.map enc).toArray e (0, 0))) w.heap.size (fun _ => True) (.slice (some ⟨w.heap.size, 0, none⟩) n n) xs := by
  subst hn
  refine Kd.R_of_own (ok := fun _ => True) ⟨by simp [encs], .inr ⟨_, xs.length, (xs.map enc).toArray, rfl, Nat.le_refl _, blk_new _ _, Nat.le_refl _, hm, by simp, by simp [encs]; exact List.take_of_length_le (by simp)⟩⟩ (fun _ _ => trivial)
def strings_Split.f (a0 : ByteArray) (a1 : ByteArray) : Option (List ByteArray) := if a0.size < 4294967281 ∧ 1 ≤ a1.size then some (Lib.splitB a1 0 (Lib.countB a0 a1) a0) else none
theorem strings_Split.calls (a0 : ByteArray) (a1 : ByteArray) (r : List ByteArray) (w : World) (hL : LaidW w) (h : strings_Split.f a0 a1 = some r) :
    Calls Tryd.prog 84 #[.string a0, .string a1] w fun e w' => ∃ v0_ : Value, e = .returned (v0_) ∧ Kd.R Kd.string 9 w' w.heap.size (fun _ => True) v0_ r ∧ Below w.heap.size w w' := by
  unfold strings_Split.f at h
  by_cases hb : a0.size < 4294967281 ∧ 1 ≤ a1.size
  · rw [if_pos hb] at h
    obtain rfl := Option.some.inj h
    obtain ⟨m, hm⟩ := hL.2
    refine (Tryd.strings_Split a0 a1 m w hb.1 hm hb.2).mono ?_
    rintro e w' ⟨rfl, rfl⟩
    have hlen := Lib.splitB_all a1 hb.2 0 _ a0 rfl
    have hle := Lib.countB_le a1 hb.2 a0.size a0 (Nat.le_refl _)
    exact ⟨_, rfl, row_new (enc := Value.string) (h1 := fun _ => rfl) w 9 _ _ hlen (by unfold maxLen; omega), below_alloc (Below.refl _ _) _⟩
  · rw [if_neg hb] at h
    cases h

/-! ### impl_Split: function 68 -/
def impl_Split.f (a0 : ByteArray) (a1 : Int) : Option (List ByteArray) := (strings_Split.f a0 (strOfNums (([a1] : List Int)))).bind fun t222 => (some t222)
set_option maxHeartbeats 8000000 in
set_option maxRecDepth 100000 in
theorem impl_Split.calls (a0 : ByteArray) (a1 : Int) (r : List ByteArray) (w : World) (hL : LaidW w) (h : impl_Split.f a0 a1 = some r) :
    Calls Tryd.prog 68 #[.string a0, .int .u8 a1] w fun e w' => ∃ v0_ : Value, e = .returned (v0_) ∧ Kd.R Kd.string 9 w' w.heap.size (fun _ => True) v0_ r ∧ Below w.heap.size w w' := by
  have HL0 := Aside0.mk hL
  clear hL
  have HB := Aside0.mk (Below.refl w.heap.size w)
  have H : ((strings_Split.f a0 (strOfNums (([a1] : List Int)))).bind fun t222 => (some t222)) = some r := h
  clear h
  obtain ⟨y219, hy219⟩ : ∃ y_ : List Int, y_ = (([a1] : List Int)) := ⟨_, rfl⟩
  replace H : ((strings_Split.f a0 (strOfNums y219)).bind fun t222 => (some t222)) = some r := by first | (rw [hy219]; with_reducible exact H) | (have H2_ := (Option.bind_some _ _).symm.trans H; rw [hy219]; with_reducible exact H2_) | (have H2_ := (Option.bind_some _ _).symm.trans H; with_reducible exact H2_) | with_reducible exact H | (rw [hy219]; exact H) | exact H
  have Ny219 := Aside0.mk hy219
  clear hy219
  replace H := Option.bind_eq_some_iff.mp H
  obtain ⟨t222, A30, H⟩ := H
  replace H : (some t222) = some r := H
  have A3 := Aside0.mk A30
  clear A30
  obtain rfl := Option.some.inj H
  go_enter Tryd.func68, Tryd.ntmps68
  go_wp2_with (first | ((with_reducible refine gate_dst (N := 7) rfl ?_); refine Kd.R_lit (Kd.int .u8) _ 5 ?hg (N := 7) ?hd (xs := ([a1] : List Int)) (inner := [.int .u8 a1]) (ok := fun _ => True) (okp := fun _ => True) ?hr ?hp (fun _ hk => hk) trivial (Below.refl _ _) (Nat.le_refl _) (by simp) ?_; (case hd => rfl); (case hg => rfl); (case hr => first | (go_simp; done) | (go_simp; rfl)); (case hp => exact (Reps.one (show Kd.M (Kd.int .u8) _ _ _ a1 [.int .u8 a1] from rfl) (Reps.none _ _))); intro v220 w4 ho5 hb hg_ hnew_; clear hg_ hnew_; (first | rw [← Ny219.out] at ho5 | (simp only [Int.reduceToNat] at ho5; rw [← Ny219.out] at ho5)); have n0_ := Aside0.mk (Kd.R_lower ho5 (below_size (by repeat (first | (with_reducible first | exact HB.out | apply below_alloc | apply pw_below_drewN | apply below_drew1) | exact HB.out)))); have n1_ := Aside0.mk (below_step (by repeat (first | (with_reducible first | exact HB.out | apply below_alloc | apply pw_below_drewN | apply below_drew1) | exact HB.out)) hb); clear HB; have HO221 := n0_; have HB := n1_; clear n0_ n1_; clear hb ho5; have hcv6 := own_string (P := Tryd.prog) Tryd.underlying40 Tryd.underlying5 Tryd.underlying9 (Kd.own_of_R HO221.out)) | ((with_reducible refine gate_callee (f := 84) rfl ?_); refine goesL_ (some 9) rfl rfl Tryd.func84 (by kernel_rfl) rfl #[.string a0, .string (strOfNums y219)] rfl (by (try simp only [List.map_toArray, List.map_cons, List.map_nil]); first | done | rfl | (simp only [List.length_drop, List.length_take]; rfl)) ?_; (with_reducible refine (strings_Split.calls a0 (strOfNums y219) t222 _ ?side1 A3.out).mono ?_); (case side1 => exact LaidW.below HL0.out (by repeat (first | (with_reducible first | exact HB.out | apply below_alloc | apply pw_below_drewN | apply below_drew1) | exact HB.out))); rintro e w7 ⟨v223, rfl, ho0, hb⟩; refine ⟨_, rfl, ?_⟩; have n0_ := Aside0.mk (Kd.R_below (by (with_reducible repeat (first | apply Kd.R_alloc | apply Kd.R_drewN | apply Kd.R_drew)); exact HO221.out) hb); have n1_ := Aside0.mk (Kd.R_lower ho0 (below_size (by repeat (first | (with_reducible first | exact HB.out | apply below_alloc | apply pw_below_drewN | apply below_drew1) | exact HB.out)))); have n2_ := Aside0.mk (below_step (by repeat (first | (with_reducible first | exact HB.out | apply below_alloc | apply pw_below_drewN | apply below_drew1) | exact HB.out)) hb); clear HO221; clear HB; have HO221 := n0_; have HO224 := n1_; have HB := n2_; clear n0_ n1_ n2_; (try clear hb); (try clear hb2); (try clear hk); (try clear hi); (try clear ho0)))
  go_ret
  exact ⟨_, by first | rfl | (simp [errW_none, errW_some] <;> rfl) | (simp [*, errW_none, errW_some] <;> rfl), by (with_reducible repeat (first | apply Kd.R_alloc | apply Kd.R_drewN | apply Kd.R_drew)); exact HO224.out, by repeat (first | (with_reducible first | exact HB.out | apply below_alloc | apply pw_below_drewN | apply below_drew1) | exact HB.out)⟩

/-! ### impl_TxsOf: function 50 -/
def impl_TxsOf.l0 : Nat → List (S44) → List ByteArray → Int → Int → Option ((List (S44)) × Bool)
  | 0, _, _, _, _ => none
  | k + 1, x4, x12, x13, x14 => if x14 < x13 then (if 0 ≤ x14 then (if x14 < (x12.length : Int) then ((impl_TxOf.f k (rdOf ByteArray.empty x12 x14)).bind fun bt229 => (if bt229.2.2.2.2 = true then (if x4.length < 4398046511104 then (impl_TxsOf.l0 k (x4 ++ [(⟨bt229.1, bt229.2.1, bt229.2.2.1, bt229.2.2.2.1⟩ : S44)]) x12 x13 (wrap64 (x14 + 1))) else (none)) else (some (([] : List (S44)), false)))) else (none)) else (none)) else (some (x4, true))
def impl_TxsOf.f (k : Nat) (a0 : ByteArray) : Option ((List (S44)) × Bool) := if a0.toList = ([] : List UInt8) then (some (([] : List (S44)), true)) else ((impl_Split.f a0 44).bind fun t225 => (impl_TxsOf.l0 k ([] : List (S44)) t225 (t225.length : Int) 0))
theorem impl_TxsOf.mono_l : ∀ k, (∀ y0 y1 y2 y3, LeO (impl_TxsOf.l0 k y0 y1 y2 y3) (impl_TxsOf.l0 (k + 1) y0 y1 y2 y3))
  | 0 => fun _ _ _ _ r h => by simp [impl_TxsOf.l0] at h
  | k + 1 => by
    have ih0 := impl_TxsOf.mono_l k
    · intro y0 y1 y2 y3
      unfold impl_TxsOf.l0
      repeat' first
      | (with_reducible exact ih0 _ _ _ _)
      | (with_reducible exact impl_TxOf.mono _ _)
      | (with_reducible exact LeO.refl _)
      | (with_reducible exact LeO.none _)
      | (with_reducible refine LeO.ite ?_ ?_)
      | (with_reducible refine LeO.bind ?_ (fun _ => ?_))
      | exact ih0 _ _ _ _
      | exact impl_TxOf.mono _ _
      | exact LeO.none _
      | refine LeO.ite ?_ ?_
      | refine LeO.bind ?_ (fun _ => ?_)
theorem impl_TxsOf.mono : ∀ a0 k, LeO (impl_TxsOf.f k a0) (impl_TxsOf.f (k + 1) a0) := by
  intro a0 k
  have ih0 := impl_TxsOf.mono_l k
  unfold impl_TxsOf.f
  repeat' first
      | (with_reducible exact ih0 _ _ _ _)
      | (with_reducible exact impl_TxOf.mono _ _)
      | (with_reducible exact LeO.refl _)
      | (with_reducible exact LeO.none _)
      | (with_reducible refine LeO.ite ?_ ?_)
      | (with_reducible refine LeO.bind ?_ (fun _ => ?_))
      | exact ih0 _ _ _ _
      | exact impl_TxOf.mono _ _
      | exact LeO.none _
      | refine LeO.ite ?_ ?_
      | refine LeO.bind ?_ (fun _ => ?_)
set_option maxHeartbeats 8000000 in
set_option maxRecDepth 100000 in
theorem impl_TxsOf.calls (k : Nat) (a0 : ByteArray) (r1 : List (S44)) (r2 : Bool) (w : World) (hL : LaidW w) (h : impl_TxsOf.f k a0 = some (r1, r2)) :
    Calls Tryd.prog 50 #[.string a0] w fun e w' => ∃ v0_ : Value, e = .returned (.tuple #[v0_, .bool r2]) ∧ Kd.R k44 44 w' w.heap.size (fun _ => True) v0_ r1 ∧ Below w.heap.size w w' := by
  have hu44 := Tryd.underlying44
  have HL0 := Aside0.mk hL
  clear hL
  have HB := Aside0.mk (Below.refl w.heap.size w)
  have H : (if a0.toList = ([] : List UInt8) then (some (([] : List (S44)), true)) else ((impl_Split.f a0 44).bind fun t225 => (impl_TxsOf.l0 k ([] : List (S44)) t225 (t225.length : Int) 0))) = some (r1, r2) := h
  clear h
  have HF := Aside0.mk H
  clear H
  go_enter Tryd.func50, Tryd.ntmps50
  go_upto_if 10 with (fail)
  have H := HF.out
  clear HF
  by_cases c2 : a0.toList = ([] : List UInt8)
  · rw [if_pos c2] at H
    have c2b0 : (a0.toList == ([] : List UInt8)) = true := beq_iff_eq.mpr c2
    have c2b8 : (a0.toList).isEmpty = true := List.isEmpty_iff.2 c2
    have c2b1 : (a0.toList != ([] : List UInt8)) = false := bne_eq_false_iff_eq.mpr c2
    clear c2
    (first | rw [c2b8] | rw [c2b0] | (simp only [i64_w, i32_w]; rw [c2b0]) | skip)
    simp only [Option.some.injEq, Prod.mk.injEq] at H
    obtain ⟨rfl, rfl⟩ := H
    go_wp2
    go_ret2
    exact ⟨_, by first | rfl | (simp [errW_none, errW_some] <;> rfl) | (simp [*, errW_none, errW_some] <;> rfl), by first | exact Kd.R_nil _ _ _ _ _ | exact Kd.N_nil _ _ _ _ _ | exact Kd.V_nil _ _ _ _ _ | exact Kd.Q_nil _ _ _ _ _ | exact Kd.S_nil _ _ _ _ _, by repeat (first | (with_reducible first | exact HB.out | apply below_alloc | apply pw_below_drewN | apply below_drew1) | exact HB.out)⟩
  · rw [if_neg c2] at H
    have c2b0 : (a0.toList == ([] : List UInt8)) = false := beq_eq_false_iff_ne.mpr c2
    have c2b8 : (a0.toList).isEmpty = false := Bool.eq_false_iff.2 (fun h_ => c2 (List.isEmpty_iff.1 h_))
    have c2b1 : (a0.toList != ([] : List UInt8)) = true := bne_iff_ne.mpr c2
    (first | rw [c2b8] | rw [c2b0] | (simp only [i64_w, i32_w]; rw [c2b0]) | skip)
    replace H := Option.bind_eq_some_iff.mp H
    obtain ⟨t225, A30, H⟩ := H
    replace H : (impl_TxsOf.l0 k ([] : List (S44)) t225 (t225.length : Int) 0) = some (r1, r2) := H
    have A3 := Aside0.mk A30
    clear A30
    have H' := Aside0.mk H
    clear H
    go_wp2_with (first | ((with_reducible refine gate_callee (f := 68) rfl ?_); refine goesL_ (some 12) rfl rfl Tryd.func68 (by kernel_rfl) rfl #[.string a0, .int .u8 44] rfl (by (try simp only [List.map_toArray, List.map_cons, List.map_nil]); first | done | rfl | (simp only [List.length_drop, List.length_take]; rfl)) ?_; (with_reducible refine (impl_Split.calls a0 44 t225 _ ?side1 A3.out).mono ?_); (case side1 => exact LaidW.below HL0.out (by repeat (first | (with_reducible first | exact HB.out | apply below_alloc | apply pw_below_drewN | apply below_drew1) | exact HB.out))); rintro e w4 ⟨v226, rfl, ho0, hb⟩; refine ⟨_, rfl, ?_⟩; have n0_ := Aside0.mk (Kd.R_lower ho0 (below_size (by repeat (first | (with_reducible first | exact HB.out | apply below_alloc | apply pw_below_drewN | apply below_drew1) | exact HB.out)))); have n1_ := Aside0.mk (below_step (by repeat (first | (with_reducible first | exact HB.out | apply below_alloc | apply pw_below_drewN | apply below_drew1) | exact HB.out)) hb); clear HB; have HO227 := n0_; have HB := n1_; clear n0_ n1_; (try clear hb); (try clear hb2); (try clear hk); (try clear hi); (try clear ho0); obtain ⟨Ao5, co5, eo5⟩ := Kd.R_slice HO227.out; subst eo5))
    go_loopg [4, 14] k (fun kq v4 v14 w' => ∃ (x4_1 : List (S44)) (x14_1 : Int), v14 = .int .i64 x14_1 ∧ Aside0 (impl_TxsOf.l0 kq x4_1 t225 (t225.length : Int) x14_1 = some (r1, r2)) ∧ Aside0 (kq ≤ k) ∧ Aside0 (Kd.R k44 44 w' w.heap.size (fun _ => True) v4 x4_1) ∧ Aside0 (Kd.R Kd.string 9 w' w.heap.size (fun _ => True) (.slice Ao5 t225.length co5) t225) ∧ Aside0 (Below w.heap.size w w'))
    case atStart => exact ⟨(([] : List (S44))), (0), (by first | rfl | (simp; done) | (simp [*]; done)), H', ⟨Nat.le_refl _⟩, ⟨by first | exact Kd.R_nil _ _ _ _ _ | exact Kd.N_nil _ _ _ _ _ | exact Kd.V_nil _ _ _ _ _ | exact Kd.Q_nil _ _ _ _ _ | exact Kd.S_nil _ _ _ _ _⟩, ⟨by (with_reducible repeat (first | apply Kd.R_alloc | apply Kd.R_drewN | apply Kd.R_drew)); exact HO227.out⟩, ⟨by repeat (first | (with_reducible first | exact HB.out | apply below_alloc | apply pw_below_drewN | apply below_drew1) | exact HB.out)⟩⟩
    case round =>
      clear H'
      try clear c2
      try clear c2b0
      try clear c2b1
      try clear p2
      try clear c5
      obtain ⟨x4_1, x14_1, rfl, HA, HK1, HO_4, HO_12, HB⟩ := hrel
      cases gk with
      | zero => exact absurd HA.out (by simp [impl_TxsOf.l0])
      | succ k1 =>
        have H := HA.out
        clear HA
        simp only [impl_TxsOf.l0] at H
        have HF := Aside0.mk H
        clear H
        go_upto_if 15 with (fail)
        have H := HF.out
        clear HF
        by_cases c6 : x14_1 < (t225.length : Int)
        · rw [if_pos c6] at H
          have c6b0 : decide (x14_1 < (t225.length : Int)) = true := decide_eq_true c6
          clear c6
          (first | rw [c6b0] | (simp only [i64_w, i32_w]; rw [c6b0]) | skip)
          by_cases c7 : 0 ≤ x14_1
          · rw [if_pos c7] at H
            have c7b0 : decide (0 ≤ x14_1) = true := decide_eq_true c7
            clear c7
            by_cases c8 : x14_1 < (t225.length : Int)
            · rw [if_pos c8] at H
              have c8b0 : decide (x14_1 < (t225.length : Int)) = true := decide_eq_true c8
              clear c8
              replace H := Option.bind_eq_some_iff.mp H
              obtain ⟨⟨t229, t230, t231, t232, t233⟩, A90, H⟩ := H
              replace H : (if t233 = true then (if x4_1.length < 4398046511104 then (impl_TxsOf.l0 k1 (x4_1 ++ [(⟨t229, t230, t231, t232⟩ : S44)]) t225 (t225.length : Int) (wrap64 (x14_1 + 1))) else (none)) else (some (([] : List (S44)), false))) = some (r1, r2) := H
              have A9 := Aside0.mk A90
              clear A90
              have HF := Aside0.mk H
              clear H
              have p228 : 0 ≤ (x14_1 : Int) := of_decide_eq_true (by first | (with_reducible assumption) | assumption)
              have q228 : x14_1 < (t225.length : Int) := of_decide_eq_true (by first | (with_reducible assumption) | assumption)
              obtain ⟨ad228, e228, hx228_0⟩ := Kd.at_string (Kd.R_reads' HO_12.out).2.2 x14_1 p228 q228
              cases e228
              replace p228 := eq_true p228
              replace q228 := eq_true q228
              go_upto_if 24 with (go_big_may; first | ((with_reducible refine gate_callee (f := 45) rfl ?_); refine goesL_ (some 20) rfl rfl Tryd.func45 (by kernel_rfl) rfl #[.string (rdOf ByteArray.empty t225 x14_1)] rfl (by (try simp only [List.map_toArray, List.map_cons, List.map_nil]); first | done | rfl | (simp only [List.length_drop, List.length_take]; rfl)) ?_; (with_reducible refine (impl_TxOf.calls k1 (rdOf ByteArray.empty t225 x14_1) t229 t230 t231 t232 t233 _ ?side1 A9.out).mono ?_); (case side1 => exact LaidW.below HL0.out (by repeat (first | (with_reducible first | exact HB.out | apply below_alloc | apply pw_below_drewN | apply below_drew1) | exact HB.out))); rintro e w10 ⟨rfl, hb⟩; refine ⟨_, rfl, ?_⟩; have n0_ := Aside0.mk (Kd.R_below (by (with_reducible repeat (first | apply Kd.R_alloc | apply Kd.R_drewN | apply Kd.R_drew)); exact HO_4.out) hb); have n1_ := Aside0.mk (Kd.R_below (by (with_reducible repeat (first | apply Kd.R_alloc | apply Kd.R_drewN | apply Kd.R_drew)); exact HO_12.out) hb); have n2_ := Aside0.mk (below_step (by repeat (first | (with_reducible first | exact HB.out | apply below_alloc | apply pw_below_drewN | apply below_drew1) | exact HB.out)) hb); clear HO_4; clear HO_12; clear HB; have HO_4 := n0_; have HO_12 := n1_; have HB := n2_; clear n0_ n1_ n2_; (try clear hb); (try clear hb2); (try clear hk); (try clear hi)) | ((with_reducible refine gate_dst (N := 7) rfl ?_); refine box_event ?hg (N := 7) ?hd (cs := #[.int .i64 0, .int .i64 0, .int .i64 0, .int .i64 0]) (t := 44) ?hr ?_; (case hd => rfl); (case hg => rfl); (case hr => first | (go_simp; done) | (go_simp; rfl)); intro gb234 hg w11 hbox hb; have n0_ := Aside0.mk (Kd.R_below (Kd.R_elderB (by (with_reducible repeat (first | apply Kd.R_alloc | apply Kd.R_drewN | apply Kd.R_drew)); exact HO_4.out) gb234 (Nat.le_of_eq hg.symm)) hb); have n1_ := Aside0.mk (Kd.R_below (by (with_reducible repeat (first | apply Kd.R_alloc | apply Kd.R_drewN | apply Kd.R_drew)); exact HO_12.out) hb); have n2_ := Aside0.mk (below_step (by repeat (first | (with_reducible first | exact HB.out | apply below_alloc | apply pw_below_drewN | apply below_drew1) | exact HB.out)) hb); have n3_ := Aside0.mk (hbox); have n4_ := Aside0.mk ((by rw [hg]; exact (below_size (by repeat (first | (with_reducible first | exact HB.out | apply below_alloc | apply pw_below_drewN | apply below_drew1) | exact HB.out))) : w.heap.size ≤ gb234)); have n5_ := Aside0.mk ((by rw [hg]; exact (below_size (by repeat (first | (with_reducible first | exact HB.out | apply below_alloc | apply pw_below_drewN | apply below_drew1) | exact HB.out))) : w.heap.size ≤ gb234)); clear HO_4; clear HO_12; clear HB; have HO_4 := n0_; have HO_12 := n1_; have HB := n2_; have BK234 := n3_; have GW234 := n4_; have GE234 := n5_; clear n0_ n1_ n2_ n3_ n4_ n5_; clear hb hbox hg; have hcz12_0 : w11.cell? ⟨gb234, 0, none⟩ = some (.int .i64 0) := (blk_cell BK234.out 0).trans rfl; have hcz12_1 : w11.cell? ⟨gb234, 1, none⟩ = some (.int .i64 0) := (blk_cell BK234.out 1).trans rfl; have hcz12_2 : w11.cell? ⟨gb234, 2, none⟩ = some (.int .i64 0) := (blk_cell BK234.out 2).trans rfl; have hcz12_3 : w11.cell? ⟨gb234, 3, none⟩ = some (.int .i64 0) := (blk_cell BK234.out 3).trans rfl; have hfz12_0 := blk_frozen BK234.out 0; have hfz12_1 := blk_frozen BK234.out 1; have hfz12_2 := blk_frozen BK234.out 2; have hfz12_3 := blk_frozen BK234.out 3))
              have H := HF.out
              clear HF
              by_cases c13 : t233 = true
              · subst c13
                have H1 : (if x4_1.length < 4398046511104 then (impl_TxsOf.l0 k1 (x4_1 ++ [(⟨t229, t230, t231, t232⟩ : S44)]) t225 (t225.length : Int) (wrap64 (x14_1 + 1))) else (none)) = some (r1, r2) := by rw [if_pos rfl] at H; exact H
                clear H
                have H := H1
                clear H1
                by_cases c14 : x4_1.length < 4398046511104
                · rw [if_pos c14] at H
                  have LMc14 := Aside0.mk c14
                  clear c14
                  obtain ⟨y235, hy235⟩ : ∃ y_ : List (S44), y_ = (x4_1 ++ [(⟨t229, t230, t231, t232⟩ : S44)]) := ⟨_, rfl⟩
                  replace H : (impl_TxsOf.l0 k1 y235 t225 (t225.length : Int) (wrap64 (x14_1 + 1))) = some (r1, r2) := by first | (rw [hy235]; with_reducible exact H) | (have H2_ := (Option.bind_some _ _).symm.trans H; rw [hy235]; with_reducible exact H2_) | (have H2_ := (Option.bind_some _ _).symm.trans H; with_reducible exact H2_) | with_reducible exact H | (rw [hy235]; exact H) | exact H
                  have Ny235 := Aside0.mk hy235
                  clear hy235
                  have H' := Aside0.mk H
                  clear H
                  have hcz15_0 : w11.cell? ⟨gb234, 0, none⟩ = some (.int .i64 0) := (blk_cell BK234.out 0).trans rfl
                  have hcz15_1 : w11.cell? ⟨gb234, 1, none⟩ = some (.int .i64 0) := (blk_cell BK234.out 1).trans rfl
                  have hcz15_2 : w11.cell? ⟨gb234, 2, none⟩ = some (.int .i64 0) := (blk_cell BK234.out 2).trans rfl
                  have hcz15_3 : w11.cell? ⟨gb234, 3, none⟩ = some (.int .i64 0) := (blk_cell BK234.out 3).trans rfl
                  have hfz15_0 := blk_frozen BK234.out 0
                  have hfz15_1 := blk_frozen BK234.out 1
                  have hfz15_2 := blk_frozen BK234.out 2
                  have hfz15_3 := blk_frozen BK234.out 3
                  go_wp2_with (first | ((with_reducible refine gate_builtin (b := .append) (xs := #[.tmp 25, .tmp 27]) rfl ?_); at_builtin; refine Kd.R_append k44 (w0 := w) w.heap.size rfl (.tmp 25) (.tmp 27) 25 44 (.agg #[(.int .i64 0), (.int .i64 0), (.int .i64 0), (.int .i64 0)]) 32 rfl Tryd.underlying25 info44 rfl (by decide) (by omega) u4 x4_1 (⟨t229, t230, t231, t232⟩ : S44) [.int .i64 t229, .int .i64 t230, .int .i64 t231, .int .i64 t232] (fun k_ => k_ ≠ gb234) (fun _ => False) rfl (by first | (go_simp; done) | (go_simp; rfl)) ?aP (fun _ hk => hk.elim) ?aF ?aO ?aB ?aS ?aL ?_; (case aP => exact k44_mkM _ _ _ (⟨t229, t230, t231, t232⟩ : S44)); (case aB => exact (by repeat (first | (with_reducible first | exact HB.out | apply below_alloc | apply pw_below_drewN | apply below_drew1 | refine below_set ?_ GE234.out) | exact HB.out))); (case aF => exact (fun k_ hk => Kd.freshB (g := gb234) (o := .cells #[.int .i64 t229, .int .i64 t230, .int .i64 t231, .int .i64 t232] 44 (0, 0)) (by (with_reducible repeat (first | refine blk_drewN ?_ _ | refine blk_drew ?_ | refine blk_alloc ?_ _)); refine blk_put (cs := #[.int .i64 t229, .int .i64 t230, .int .i64 t231, .int .i64 0]) ?_ 3 _ rfl; (with_reducible repeat (first | refine blk_drewN ?_ _ | refine blk_drew ?_ | refine blk_alloc ?_ _)); refine blk_put (cs := #[.int .i64 t229, .int .i64 t230, .int .i64 0, .int .i64 0]) ?_ 2 _ rfl; (with_reducible repeat (first | refine blk_drewN ?_ _ | refine blk_drew ?_ | refine blk_alloc ?_ _)); refine blk_put (cs := #[.int .i64 t229, .int .i64 0, .int .i64 0, .int .i64 0]) ?_ 1 _ rfl; (with_reducible repeat (first | refine blk_drewN ?_ _ | refine blk_drew ?_ | refine blk_alloc ?_ _)); refine blk_put (cs := #[.int .i64 0, .int .i64 0, .int .i64 0, .int .i64 0]) ?_ 0 _ rfl; (with_reducible repeat (first | refine blk_drewN ?_ _ | refine blk_drew ?_ | refine blk_alloc ?_ _)); exact BK234.out) k_ hk)); (case aO => exact (by (with_reducible repeat (first | apply Kd.R_alloc | apply Kd.R_drewN | apply Kd.R_drew)); exact Kd.R_mono (Kd.R_far (p := ⟨gb234, 3, none⟩) (Kd.R_far (p := ⟨gb234, 2, none⟩) (Kd.R_far (p := ⟨gb234, 1, none⟩) (Kd.R_far (p := ⟨gb234, 0, none⟩) (Kd.R_mono HO_4.out (fun k_ hk => (⟨hk, hk.2⟩ : _ ∧ k_ ≠ gb234))) (fun _ hk => hk.2) (.int .i64 t229)) (fun _ hk => hk.2) (.int .i64 t230)) (fun _ hk => hk.2) (.int .i64 t231)) (fun _ hk => hk.2) (.int .i64 t232)) (fun _ hk => hk.1.2))); (case aS => exact (below_size (by repeat (first | (with_reducible first | exact HB.out | apply below_alloc | apply pw_below_drewN | apply below_drew1 | refine below_set ?_ GE234.out) | exact HB.out)))); (case aL => have := LMc14.out; omega); intro v236 w16 ho hb hg hat; rw [← Ny235.out] at ho; have n0_ := Aside0.mk (Kd.R_over' (by (with_reducible repeat (first | apply Kd.R_alloc | apply Kd.R_drewN | apply Kd.R_drew)); exact (Kd.R_mono (Kd.R_far (p := ⟨gb234, 3, none⟩) (Kd.R_far (p := ⟨gb234, 2, none⟩) (Kd.R_far (p := ⟨gb234, 1, none⟩) (Kd.R_far (p := ⟨gb234, 0, none⟩) (Kd.R_types HO_12.out BK234.out (by decide)) (fun _ hk => hk.2) (.int .i64 t229)) (fun _ hk => hk.2) (.int .i64 t230)) (fun _ hk => hk.2) (.int .i64 t231)) (fun _ hk => hk.2) (.int .i64 t232)) (fun _ h_ => h_.1))) (Kd.R_typed (by (with_reducible repeat (first | apply Kd.R_alloc | apply Kd.R_drewN | apply Kd.R_drew)); exact (Kd.R_mono (Kd.R_far (p := ⟨gb234, 3, none⟩) (Kd.R_far (p := ⟨gb234, 2, none⟩) (Kd.R_far (p := ⟨gb234, 1, none⟩) (Kd.R_far (p := ⟨gb234, 0, none⟩) (Kd.R_mono HO_4.out (fun k_ hk => (⟨hk, hk.2⟩ : _ ∧ k_ ≠ gb234))) (fun _ hk => hk.2) (.int .i64 t229)) (fun _ hk => hk.2) (.int .i64 t230)) (fun _ hk => hk.2) (.int .i64 t231)) (fun _ hk => hk.2) (.int .i64 t232)) (fun _ h_ => h_.1)))) (by decide) hg); have n1_ := Aside0.mk (blk_grown (g := gb234) (o := .cells #[.int .i64 t229, .int .i64 t230, .int .i64 t231, .int .i64 t232] 44 (0, 0)) (by (with_reducible repeat (first | refine blk_drewN ?_ _ | refine blk_drew ?_ | refine blk_alloc ?_ _)); refine blk_put (cs := #[.int .i64 t229, .int .i64 t230, .int .i64 t231, .int .i64 0]) ?_ 3 _ rfl; (with_reducible repeat (first | refine blk_drewN ?_ _ | refine blk_drew ?_ | refine blk_alloc ?_ _)); refine blk_put (cs := #[.int .i64 t229, .int .i64 t230, .int .i64 0, .int .i64 0]) ?_ 2 _ rfl; (with_reducible repeat (first | refine blk_drewN ?_ _ | refine blk_drew ?_ | refine blk_alloc ?_ _)); refine blk_put (cs := #[.int .i64 t229, .int .i64 0, .int .i64 0, .int .i64 0]) ?_ 1 _ rfl; (with_reducible repeat (first | refine blk_drewN ?_ _ | refine blk_drew ?_ | refine blk_alloc ?_ _)); refine blk_put (cs := #[.int .i64 0, .int .i64 0, .int .i64 0, .int .i64 0]) ?_ 0 _ rfl; (with_reducible repeat (first | refine blk_drewN ?_ _ | refine blk_drew ?_ | refine blk_alloc ?_ _)); exact BK234.out) hg (Kd.R_away HO_4.out (fun _ hk => hk.2))); have n2_ := Aside0.mk (hb); have n3_ := Aside0.mk (ho); clear HO_12; clear BK234; clear HB; clear HO_4; have HO_12 := n0_; have BK234 := n1_; have HB := n2_; have HO237 := n3_; clear n0_ n1_ n2_ n3_; clear ho hb hg hat))
                  go_roundg k1
                  case measure => have := HK1.out; omega
                  case rel => exact ⟨(y235), (wrap64 (x14_1 + 1)), (by first | rfl | (simp; done) | (simp [*]; done)), H', ⟨by have := HK1.out; omega⟩, ⟨by (with_reducible repeat (first | apply Kd.R_alloc | apply Kd.R_drewN | apply Kd.R_drew)); exact Kd.R_mono HO237.out (fun _ hk => trivial)⟩, ⟨by (with_reducible repeat (first | apply Kd.R_alloc | apply Kd.R_drewN | apply Kd.R_drew)); exact HO_12.out⟩, ⟨by repeat (first | (with_reducible first | exact HB.out | apply below_alloc | apply pw_below_drewN | apply below_drew1 | refine below_set ?_ GE234.out) | exact HB.out)⟩⟩
                · rw [if_neg c14] at H
                  exact absurd H (by simp)
              · replace c13 := Bool.eq_false_iff.mpr c13
                subst c13
                have H1 : (some (([] : List (S44)), false)) = some (r1, r2) := by rw [if_neg (show ¬ (false = true) by decide)] at H; exact H
                clear H
                have H := H1
                clear H1
                simp only [Option.some.injEq, Prod.mk.injEq] at H
                obtain ⟨rfl, rfl⟩ := H
                go_wp2
                go_ret2
                exact ⟨_, by first | rfl | (simp [errW_none, errW_some] <;> rfl) | (simp [*, errW_none, errW_some] <;> rfl), by first | exact Kd.R_nil _ _ _ _ _ | exact Kd.N_nil _ _ _ _ _ | exact Kd.V_nil _ _ _ _ _ | exact Kd.Q_nil _ _ _ _ _ | exact Kd.S_nil _ _ _ _ _, by repeat (first | (with_reducible first | exact HB.out | apply below_alloc | apply pw_below_drewN | apply below_drew1 | refine below_set ?_ GE234.out) | exact HB.out)⟩
            · rw [if_neg c8] at H
              exact absurd H (by simp)
          · rw [if_neg c7] at H
            exact absurd H (by simp)
        · rw [if_neg c6] at H
          have c6b0 : decide (x14_1 < (t225.length : Int)) = false := decide_eq_false c6
          clear c6
          (first | rw [c6b0] | (simp only [i64_w, i32_w]; rw [c6b0]) | skip)
          simp only [Option.some.injEq, Prod.mk.injEq] at H
          obtain ⟨rfl, rfl⟩ := H
          go_wp2
          go_ret2
          exact ⟨_, by first | rfl | (simp [errW_none, errW_some] <;> rfl) | (simp [*, errW_none, errW_some] <;> rfl), by (with_reducible repeat (first | apply Kd.R_alloc | apply Kd.R_drewN | apply Kd.R_drew)); exact HO_4.out, by repeat (first | (with_reducible first | exact HB.out | apply below_alloc | apply pw_below_drewN | apply below_drew1) | exact HB.out)⟩

/-! ### impl_Steps: function 36 -/
mutual
def impl_Steps.j0 : Nat → List ByteArray → Bool → Option ((List (S59)) × Bool)
  | 0, _, _ => none
  | k + 1, x4, x29 => if x29 = true then (some (([] : List (S59)), false)) else (if 1 ≤ (x4.length : Int) then ((some (x4.drop 1 : List ByteArray)).bind fun y242 => (impl_Steps.l0 k ([] : List (S59)) 0 y242 (y242.length : Int) 0)) else (none))
def impl_Steps.l0 : Nat → List (S59) → Int → List ByteArray → Int → Int → Option ((List (S59)) × Bool)
  | 0, _, _, _, _, _ => none
  | k + 1, x5, x6, x31, x32, x33 => if x33 < x32 then (if 0 ≤ x33 then (if x33 < (x31.length : Int) then ((strings_Cut.f (rdOf ByteArray.empty x31 x33) (⟨#[124]⟩ : ByteArray)).bind fun bt247 => ((impl_Number.f k bt247.1).bind fun bt250 => ((impl_TxsOf.f k bt247.2.1).bind fun bt252 => (if bt247.2.2 = true then (if bt250.2 = true then (if bt252.2 = true then ((impl_within.f bt250.1 (wrap64 (x6 + 1)) 60).bind fun t256 => (if t256 = true then (if (bt252.1.length : Int) > 2 then (some (([] : List (S59)), false)) else (if x5.length < 4398046511104 then (impl_Steps.l0 k (x5 ++ [(⟨bt250.1, bt252.1⟩ : S59)]) bt250.1 x31 x32 (wrap64 (x33 + 1))) else (none))) else (some (([] : List (S59)), false)))) else (some (([] : List (S59)), false))) else (some (([] : List (S59)), false))) else (some (([] : List (S59)), false)))))) else (none)) else (none)) else (some (x5, true))
end
def impl_Steps.f (k : Nat) (a0 : ByteArray) : Option ((List (S59)) × Bool) := if a0.toList = ([] : List UInt8) then (some (([] : List (S59)), true)) else ((impl_Split.f a0 47).bind fun t238 => (if 0 < (t238.length : Int) then (if (rdOf ByteArray.empty t238 0).toList = ([] : List UInt8) then (impl_Steps.j0 k t238 (decide ((wrap64 ((t238.length : Int) - 1)) > 30))) else (impl_Steps.j0 k t238 true)) else (none)))
theorem impl_Steps.mono_l : ∀ k, (∀ y0 y1, LeO (impl_Steps.j0 k y0 y1) (impl_Steps.j0 (k + 1) y0 y1)) ∧ (∀ y0 y1 y2 y3 y4, LeO (impl_Steps.l0 k y0 y1 y2 y3 y4) (impl_Steps.l0 (k + 1) y0 y1 y2 y3 y4))
  | 0 => ⟨fun _ _ r h => by simp [impl_Steps.j0] at h, fun _ _ _ _ _ r h => by simp [impl_Steps.l0] at h⟩
  | k + 1 => by
    obtain ⟨ih0, ih1⟩ := impl_Steps.mono_l k
    refine ⟨?_, ?_⟩
    · intro y0 y1
      unfold impl_Steps.j0
      repeat' first
      | (with_reducible exact ih0 _ _)
      | (with_reducible exact ih1 _ _ _ _ _)
      | (with_reducible exact impl_Number.mono _ _)
      | (with_reducible exact impl_TxsOf.mono _ _)
      | (with_reducible exact LeO.refl _)
      | (with_reducible exact LeO.none _)
      | (with_reducible refine LeO.ite ?_ ?_)
      | (with_reducible refine LeO.bind ?_ (fun _ => ?_))
      | exact ih0 _ _
      | exact ih1 _ _ _ _ _
      | exact impl_Number.mono _ _
      | exact impl_TxsOf.mono _ _
      | exact LeO.none _
      | refine LeO.ite ?_ ?_
      | refine LeO.bind ?_ (fun _ => ?_)
    · intro y0 y1 y2 y3 y4
      unfold impl_Steps.l0
      repeat' first
      | (with_reducible exact ih0 _ _)
      | (with_reducible exact ih1 _ _ _ _ _)
      | (with_reducible exact impl_Number.mono _ _)
      | (with_reducible exact impl_TxsOf.mono _ _)
      | (with_reducible exact LeO.refl _)
      | (with_reducible exact LeO.none _)
      | (with_reducible refine LeO.ite ?_ ?_)
      | (with_reducible refine LeO.bind ?_ (fun _ => ?_))
      | exact ih0 _ _
      | exact ih1 _ _ _ _ _
      | exact impl_Number.mono _ _
      | exact impl_TxsOf.mono _ _
      | exact LeO.none _
      | refine LeO.ite ?_ ?_
      | refine LeO.bind ?_ (fun _ => ?_)
theorem impl_Steps.mono : ∀ a0 k, LeO (impl_Steps.f k a0) (impl_Steps.f (k + 1) a0) := by
  intro a0 k
  obtain ⟨ih0, ih1⟩ := impl_Steps.mono_l k
  unfold impl_Steps.f
  repeat' first
      | (with_reducible exact ih0 _ _)
      | (with_reducible exact ih1 _ _ _ _ _)
      | (with_reducible exact impl_Number.mono _ _)
      | (with_reducible exact impl_TxsOf.mono _ _)
      | (with_reducible exact LeO.refl _)
      | (with_reducible exact LeO.none _)
      | (with_reducible refine LeO.ite ?_ ?_)
      | (with_reducible refine LeO.bind ?_ (fun _ => ?_))
      | exact ih0 _ _
      | exact ih1 _ _ _ _ _
      | exact impl_Number.mono _ _
      | exact impl_TxsOf.mono _ _
      | exact LeO.none _
      | refine LeO.ite ?_ ?_
      | refine LeO.bind ?_ (fun _ => ?_)
set_option maxHeartbeats 8000000 in
set_option maxRecDepth 100000 in
theorem impl_Steps.calls (k : Nat) (a0 : ByteArray) (r1 : List (S59)) (r2 : Bool) (w : World) (hL : LaidW w) (h : impl_Steps.f k a0 = some (r1, r2)) :
    Calls Tryd.prog 36 #[.string a0] w fun e w' => ∃ v0_ : Value, e = .returned (.tuple #[v0_, .bool r2]) ∧ Kd.S k59 59 w' w.heap.size (fun _ => True) v0_ r1 ∧ Below w.heap.size w w' := by
  have hu59 := Tryd.underlying59
  have HL0 := Aside0.mk hL
  clear hL
  have HB := Aside0.mk (Below.refl w.heap.size w)
  have H : (if a0.toList = ([] : List UInt8) then (some (([] : List (S59)), true)) else ((impl_Split.f a0 47).bind fun t238 => (if 0 < (t238.length : Int) then (if (rdOf ByteArray.empty t238 0).toList = ([] : List UInt8) then (impl_Steps.j0 k t238 (decide ((wrap64 ((t238.length : Int) - 1)) > 30))) else (impl_Steps.j0 k t238 true)) else (none)))) = some (r1, r2) := h
  clear h
  have HF := Aside0.mk H
  clear H
  go_enter Tryd.func36, Tryd.ntmps36
  go_upto_if 17 with (fail)
  have H := HF.out
  clear HF
  by_cases c2 : a0.toList = ([] : List UInt8)
  · rw [if_pos c2] at H
    have c2b0 : (a0.toList == ([] : List UInt8)) = true := beq_iff_eq.mpr c2
    have c2b8 : (a0.toList).isEmpty = true := List.isEmpty_iff.2 c2
    have c2b1 : (a0.toList != ([] : List UInt8)) = false := bne_eq_false_iff_eq.mpr c2
    clear c2
    (first | rw [c2b8] | rw [c2b0] | (simp only [i64_w, i32_w]; rw [c2b0]) | skip)
    simp only [Option.some.injEq, Prod.mk.injEq] at H
    obtain ⟨rfl, rfl⟩ := H
    go_wp2
    go_ret2
    exact ⟨_, by first | rfl | (simp [errW_none, errW_some] <;> rfl) | (simp [*, errW_none, errW_some] <;> rfl), by first | exact Kd.S_nil _ _ _ _ _ | exact Kd.N_nil _ _ _ _ _ | exact Kd.V_nil _ _ _ _ _ | exact Kd.Q_nil _ _ _ _ _ | exact Kd.R_nil _ _ _ _ _, by repeat (first | (with_reducible first | exact HB.out | apply below_alloc | apply pw_below_drewN | apply below_drew1) | exact HB.out)⟩
  · rw [if_neg c2] at H
    have c2b0 : (a0.toList == ([] : List UInt8)) = false := beq_eq_false_iff_ne.mpr c2
    have c2b8 : (a0.toList).isEmpty = false := Bool.eq_false_iff.2 (fun h_ => c2 (List.isEmpty_iff.1 h_))
    have c2b1 : (a0.toList != ([] : List UInt8)) = true := bne_iff_ne.mpr c2
    (first | rw [c2b8] | rw [c2b0] | (simp only [i64_w, i32_w]; rw [c2b0]) | skip)
    replace H := Option.bind_eq_some_iff.mp H
    obtain ⟨t238, A30, H⟩ := H
    replace H : (if 0 < (t238.length : Int) then (if (rdOf ByteArray.empty t238 0).toList = ([] : List UInt8) then (impl_Steps.j0 k t238 (decide ((wrap64 ((t238.length : Int) - 1)) > 30))) else (impl_Steps.j0 k t238 true)) else (none)) = some (r1, r2) := H
    have A3 := Aside0.mk A30
    clear A30
    have HC4 := Aside0.mk H
    clear H
    go_upto_region 4 with (first | ((with_reducible refine gate_callee (f := 68) rfl ?_); refine goesL_ (some 19) rfl rfl Tryd.func68 (by kernel_rfl) rfl #[.string a0, .int .u8 47] rfl (by (try simp only [List.map_toArray, List.map_cons, List.map_nil]); first | done | rfl | (simp only [List.length_drop, List.length_take]; rfl)) ?_; (with_reducible refine (impl_Split.calls a0 47 t238 _ ?side1 A3.out).mono ?_); (case side1 => exact LaidW.below HL0.out (by repeat (first | (with_reducible first | exact HB.out | apply below_alloc | apply pw_below_drewN | apply below_drew1) | exact HB.out))); rintro e w5 ⟨v239, rfl, ho0, hb⟩; refine ⟨_, rfl, ?_⟩; have n0_ := Aside0.mk (Kd.R_lower ho0 (below_size (by repeat (first | (with_reducible first | exact HB.out | apply below_alloc | apply pw_below_drewN | apply below_drew1) | exact HB.out)))); have n1_ := Aside0.mk (below_step (by repeat (first | (with_reducible first | exact HB.out | apply below_alloc | apply pw_below_drewN | apply below_drew1) | exact HB.out)) hb); clear HB; have HO240 := n0_; have HB := n1_; clear n0_ n1_; (try clear hb); (try clear hb2); (try clear hk); (try clear hi); (try clear ho0)))
    (try simp only [Act.put, List.setIfInBounds_toArray, List.set_cons_zero, List.set_cons_succ])
    go_cut [29] (fun v29 wc => ∃ (kq : Nat) (x29_3 : Bool), v29 = .bool x29_3 ∧ Aside0 (impl_Steps.j0 kq t238 x29_3 = some (r1, r2)) ∧ Aside0 (kq ≤ k) ∧ Aside0 (Kd.R Kd.string 9 wc w.heap.size (fun _ => True) v239 t238) ∧ Aside0 (Below w.heap.size w wc))
    case first =>
      have H := HC4.out
      clear HC4
      by_cases c6 : 0 < (t238.length : Int)
      · rw [if_pos c6] at H
        have c6b0 : decide (0 < (t238.length : Int)) = true := decide_eq_true c6
        have c6b1 : decide (0 < t238.length) = true := decide_eq_true (by omega)
        clear c6
        (first | rw [c6b0] | (simp only [i64_w, i32_w]; rw [c6b0]) | skip)
        by_cases c7 : (rdOf ByteArray.empty t238 0).toList = ([] : List UInt8)
        · rw [if_pos c7] at H
          have c7b0 : ((rdOf ByteArray.empty t238 0).toList == ([] : List UInt8)) = true := beq_iff_eq.mpr c7
          have c7b8 : ((rdOf ByteArray.empty t238 0).toList).isEmpty = true := List.isEmpty_iff.2 c7
          have c7b1 : ((rdOf ByteArray.empty t238 0).toList != ([] : List UInt8)) = false := bne_eq_false_iff_eq.mpr c7
          clear c7
          have H' := Aside0.mk H
          clear H
          obtain ⟨Ao8, co8, eo8⟩ := Kd.R_slice HO240.out
          subst eo8
          have p241 : 0 ≤ (0 : Int) := (by omega)
          have q241 : 0 < (t238.length : Int) := of_decide_eq_true (by first | (with_reducible assumption) | assumption)
          obtain ⟨ad241, e241, hx241_0⟩ := Kd.at_string (Kd.R_reads' HO240.out).2.2 0 p241 q241
          cases e241
          have qi241 : (0 < t238.length) = True := eq_true (by omega)
          (try rw [show ((0 : Int)).toNat = 0 from rfl] at hx241_0)
          (try rw [Addr.add_zero'] at hx241_0)
          replace p241 := eq_true p241
          replace q241 := eq_true q241
          go_wp2
          go_meet
          case rel => exact ⟨_, (decide ((wrap64 ((t238.length : Int) - 1)) > 30)), (by first | rfl | (simp; done) | (simp [*]; done)), H', ⟨by first | omega | exact Nat.le_refl _⟩, ⟨by (with_reducible repeat (first | apply Kd.R_alloc | apply Kd.R_drewN | apply Kd.R_drew)); exact HO240.out⟩, ⟨by repeat (first | (with_reducible first | exact HB.out | apply below_alloc | apply pw_below_drewN | apply below_drew1) | exact HB.out)⟩⟩
        · rw [if_neg c7] at H
          have c7b0 : ((rdOf ByteArray.empty t238 0).toList == ([] : List UInt8)) = false := beq_eq_false_iff_ne.mpr c7
          have c7b8 : ((rdOf ByteArray.empty t238 0).toList).isEmpty = false := Bool.eq_false_iff.2 (fun h_ => c7 (List.isEmpty_iff.1 h_))
          have c7b1 : ((rdOf ByteArray.empty t238 0).toList != ([] : List UInt8)) = true := bne_iff_ne.mpr c7
          have H' := Aside0.mk H
          clear H
          obtain ⟨Ao9, co9, eo9⟩ := Kd.R_slice HO240.out
          subst eo9
          have p241 : 0 ≤ (0 : Int) := (by omega)
          have q241 : 0 < (t238.length : Int) := of_decide_eq_true (by first | (with_reducible assumption) | assumption)
          obtain ⟨ad241, e241, hx241_0⟩ := Kd.at_string (Kd.R_reads' HO240.out).2.2 0 p241 q241
          cases e241
          have qi241 : (0 < t238.length) = True := eq_true (by omega)
          (try rw [show ((0 : Int)).toNat = 0 from rfl] at hx241_0)
          (try rw [Addr.add_zero'] at hx241_0)
          replace p241 := eq_true p241
          replace q241 := eq_true q241
          go_wp2
          go_meet
          case rel => exact ⟨_, (true), (by first | rfl | (simp; done) | (simp [*]; done)), H', ⟨by first | omega | exact Nat.le_refl _⟩, ⟨by (with_reducible repeat (first | apply Kd.R_alloc | apply Kd.R_drewN | apply Kd.R_drew)); exact HO240.out⟩, ⟨by repeat (first | (with_reducible first | exact HB.out | apply below_alloc | apply pw_below_drewN | apply below_drew1) | exact HB.out)⟩⟩
      · rw [if_neg c6] at H
        exact absurd H (by simp)
    case rest =>
      clear HC4
      try clear c2
      try clear c2b0
      try clear c2b1
      try clear p2
      try clear q2
      try clear hx2
      try clear qi2
      try clear c3
      try clear c6
      try clear c6b0
      try clear c6b1
      try clear p6
      try clear c7
      try clear c7b0
      try clear c7b1
      try clear hx241_0
      try clear p241
      try clear q241
      obtain ⟨kq, x29_3, rfl, HA, HJ3, HO_4, HB⟩ := hcut
      cases kq with
      | zero => exact absurd HA.out (by simp [impl_Steps.j0])
      | succ kj3 =>
        have H := HA.out
        clear HA
        simp only [impl_Steps.j0] at H
        have HF := Aside0.mk H
        clear H
        go_upto_if 29 with (fail)
        have H := HF.out
        clear HF
        by_cases c10 : x29_3 = true
        · subst c10
          have H1 : (some (([] : List (S59)), false)) = some (r1, r2) := by rw [if_pos rfl] at H; exact H
          clear H
          have H := H1
          clear H1
          simp only [Option.some.injEq, Prod.mk.injEq] at H
          obtain ⟨rfl, rfl⟩ := H
          go_wp2
          go_ret2
          exact ⟨_, by first | rfl | (simp [errW_none, errW_some] <;> rfl) | (simp [*, errW_none, errW_some] <;> rfl), by first | exact Kd.S_nil _ _ _ _ _ | exact Kd.N_nil _ _ _ _ _ | exact Kd.V_nil _ _ _ _ _ | exact Kd.Q_nil _ _ _ _ _ | exact Kd.R_nil _ _ _ _ _, by repeat (first | (with_reducible first | exact HB.out | apply below_alloc | apply pw_below_drewN | apply below_drew1) | exact HB.out)⟩
        · replace c10 := Bool.eq_false_iff.mpr c10
          subst c10
          have H1 : (if 1 ≤ (t238.length : Int) then ((some (t238.drop 1 : List ByteArray)).bind fun y242 => (impl_Steps.l0 kj3 ([] : List (S59)) 0 y242 (y242.length : Int) 0)) else (none)) = some (r1, r2) := by rw [if_neg (show ¬ (false = true) by decide)] at H; exact H
          clear H
          have H := H1
          clear H1
          by_cases c11 : 1 ≤ (t238.length : Int)
          · rw [if_pos c11] at H
            have c11b0 := eq_true c11
            have c11b1 : decide (1 ≤ (t238.length : Int)) = true := decide_eq_true c11
            clear c11
            obtain ⟨y242, hy242⟩ : ∃ y_ : List ByteArray, y_ = (t238.drop 1) := ⟨_, rfl⟩
            replace H : (impl_Steps.l0 kj3 ([] : List (S59)) 0 y242 (y242.length : Int) 0) = some (r1, r2) := by first | (rw [hy242]; with_reducible exact H) | (have H2_ := (Option.bind_some _ _).symm.trans H; rw [hy242]; with_reducible exact H2_) | (have H2_ := (Option.bind_some _ _).symm.trans H; with_reducible exact H2_) | with_reducible exact H | (rw [hy242]; exact H) | exact H
            have Ny242 := Aside0.mk hy242
            clear hy242
            have H' := Aside0.mk H
            clear H
            obtain ⟨Ao13, co13, eo13⟩ := Kd.R_slice HO_4.out
            subst eo13
            have q12 : (1 : Int) ≤ ((t238.length : Int) : Int) := of_decide_eq_true (by first | (with_reducible assumption) | assumption)
            obtain ⟨i012, hi012, _, hsz12, _⟩ := info_parts info9
            have hroom12 : t238.length ≤ co13 := (Kd.R_reads' HO_4.out).2.1
            have hC12 : Kd.C Kd.string _ Ao13 t238.length t238 := (Kd.R_reads' HO_4.out).2.2
            have hcut12 := cut_from (P := Tryd.prog) 62 9 .i64 Tryd.underlying62 hi012 1 hsz12 Ao13 t238.length co13 1 (by omega) q12
            have hr12 := Kd.C_drop (m := (1 : Int).toNat) (c := co13) hC12 (by omega) hroom12
            obtain ⟨A12, hA12⟩ : ∃ A1, A1 = (if co13 = (1 : Int).toNat then Ao13 else (Ao13 : Option Addr).map (·.add ((1 : Int).toNat * 1))) := ⟨_, rfl⟩
            obtain ⟨c12, hc12⟩ : ∃ c1, c1 = co13 - (1 : Int).toNat := ⟨_, rfl⟩
            have hy12 : y242.length = t238.length - (1 : Int).toNat := (by rw [Ny242.out, List.length_drop] <;> omega)
            rw [show (t238).drop (1 : Int).toNat = y242 from Ny242.out.symm] at hr12
            replace hr12 : Kd.C Kd.string _ A12 y242.length y242 := (by rw [hA12]; exact hr12)
            rw [← hy12, ← hA12, ← hc12] at hcut12
            have HR245 := Aside0.mk hr12
            have HC245 := Aside0.mk (show y242.length ≤ c12 from by rw [hy12, hc12]; exact Nat.sub_le_sub_right hroom12 _)
            clear hr12 hC12 hroom12 hi012 hsz12 hc12
            have KY12 := Aside0.mk hy12
            have KA12 := Aside0.mk hA12
            clear hy12 hA12
            have KL12 := Aside0.mk (show 1 ≤ t238.length from by omega)
            replace q12 := eq_true q12
            go_wp2
            have HBw := HB
            have HLn := Aside0.mk (LaidW.below HL0.out HB.out)
            clear HL0
            have HL0 := HLn
            go_loopg [5, 6, 33] kj3 (fun kq v5 v6 v33 w' => ∃ (x5_2 : List (S59)) (x6_2 : Int) (x33_2 : Int), v6 = .int .i64 x6_2 ∧ v33 = .int .i64 x33_2 ∧ Aside0 (impl_Steps.l0 kq x5_2 x6_2 y242 (y242.length : Int) x33_2 = some (r1, r2)) ∧ Aside0 (kq ≤ kj3) ∧ Aside0 (Kd.S k59 59 w' wc.heap.size (fun _ => True) v5 x5_2) ∧ Aside0 (Below wc.heap.size wc w'))
            case atStart => exact ⟨(([] : List (S59))), (0), (0), (by first | rfl | (simp; done) | (simp [*]; done)), (by first | rfl | (simp; done) | (simp [*]; done)), H', ⟨Nat.le_refl _⟩, ⟨by first | exact Kd.S_nil _ _ _ _ _ | exact Kd.N_nil _ _ _ _ _ | exact Kd.V_nil _ _ _ _ _ | exact Kd.Q_nil _ _ _ _ _ | exact Kd.R_nil _ _ _ _ _⟩, ⟨Below.refl _ _⟩⟩
            case round =>
              clear H'
              try clear c1
              try clear q1
              try clear c2
              try clear c2b0
              try clear c2b1
              try clear p2
              try clear q2
              try clear hx2
              try clear qi2
              try clear c3
              try clear c6
              try clear c6b0
              try clear c6b1
              try clear p6
              try clear c7
              try clear c7b0
              try clear c7b1
              try clear c10
              try clear c11
              try clear c11b0
              try clear c11b1
              try clear c12
              try clear q12
              try clear hx241_0
              try clear p2
              try clear p241
              try clear p6
              try clear q12
              try clear q2
              try clear q241
              obtain ⟨x5_2, x6_2, x33_2, rfl, rfl, HA, HK2, HO_5, HB⟩ := hrel
              cases gk with
              | zero => exact absurd HA.out (by simp [impl_Steps.l0])
              | succ k2 =>
                have H := HA.out
                clear HA
                simp only [impl_Steps.l0] at H
                have HF := Aside0.mk H
                clear H
                go_upto_if 34 with (fail)
                have H := HF.out
                clear HF
                by_cases c14 : x33_2 < (y242.length : Int)
                · rw [if_pos c14] at H
                  have c14b0 : decide (x33_2 < (y242.length : Int)) = true := decide_eq_true c14
                  clear c14
                  (first | rw [c14b0] | (simp only [i64_w, i32_w]; rw [c14b0]) | skip)
                  by_cases c15 : 0 ≤ x33_2
                  · rw [if_pos c15] at H
                    have c15b0 : decide (0 ≤ x33_2) = true := decide_eq_true c15
                    clear c15
                    by_cases c16 : x33_2 < (y242.length : Int)
                    · rw [if_pos c16] at H
                      have c16b0 : decide (x33_2 < (y242.length : Int)) = true := decide_eq_true c16
                      clear c16
                      replace H := Option.bind_eq_some_iff.mp H
                      obtain ⟨⟨t247, t248, t249⟩, A170, H⟩ := H
                      replace H : ((impl_Number.f k2 t247).bind fun bt250 => ((impl_TxsOf.f k2 t248).bind fun bt252 => (if t249 = true then (if bt250.2 = true then (if bt252.2 = true then ((impl_within.f bt250.1 (wrap64 (x6_2 + 1)) 60).bind fun t256 => (if t256 = true then (if (bt252.1.length : Int) > 2 then (some (([] : List (S59)), false)) else (if x5_2.length < 4398046511104 then (impl_Steps.l0 k2 (x5_2 ++ [(⟨bt250.1, bt252.1⟩ : S59)]) bt250.1 y242 (y242.length : Int) (wrap64 (x33_2 + 1))) else (none))) else (some (([] : List (S59)), false)))) else (some (([] : List (S59)), false))) else (some (([] : List (S59)), false))) else (some (([] : List (S59)), false))))) = some (r1, r2) := H
                      have A17 := Aside0.mk A170
                      clear A170
                      replace H := Option.bind_eq_some_iff.mp H
                      obtain ⟨⟨t250, t251⟩, A180, H⟩ := H
                      replace H : ((impl_TxsOf.f k2 t248).bind fun bt252 => (if t249 = true then (if t251 = true then (if bt252.2 = true then ((impl_within.f t250 (wrap64 (x6_2 + 1)) 60).bind fun t256 => (if t256 = true then (if (bt252.1.length : Int) > 2 then (some (([] : List (S59)), false)) else (if x5_2.length < 4398046511104 then (impl_Steps.l0 k2 (x5_2 ++ [(⟨t250, bt252.1⟩ : S59)]) t250 y242 (y242.length : Int) (wrap64 (x33_2 + 1))) else (none))) else (some (([] : List (S59)), false)))) else (some (([] : List (S59)), false))) else (some (([] : List (S59)), false))) else (some (([] : List (S59)), false)))) = some (r1, r2) := H
                      have A18 := Aside0.mk A180
                      clear A180
                      replace H := Option.bind_eq_some_iff.mp H
                      obtain ⟨⟨t252, t253⟩, A190, H⟩ := H
                      replace H : (if t249 = true then (if t251 = true then (if t253 = true then ((impl_within.f t250 (wrap64 (x6_2 + 1)) 60).bind fun t256 => (if t256 = true then (if (t252.length : Int) > 2 then (some (([] : List (S59)), false)) else (if x5_2.length < 4398046511104 then (impl_Steps.l0 k2 (x5_2 ++ [(⟨t250, t252⟩ : S59)]) t250 y242 (y242.length : Int) (wrap64 (x33_2 + 1))) else (none))) else (some (([] : List (S59)), false)))) else (some (([] : List (S59)), false))) else (some (([] : List (S59)), false))) else (some (([] : List (S59)), false))) = some (r1, r2) := H
                      have A19 := Aside0.mk A190
                      clear A190
                      by_cases c20 : t249 = true
                      · subst c20
                        have H1 : (if t251 = true then (if t253 = true then ((impl_within.f t250 (wrap64 (x6_2 + 1)) 60).bind fun t256 => (if t256 = true then (if (t252.length : Int) > 2 then (some (([] : List (S59)), false)) else (if x5_2.length < 4398046511104 then (impl_Steps.l0 k2 (x5_2 ++ [(⟨t250, t252⟩ : S59)]) t250 y242 (y242.length : Int) (wrap64 (x33_2 + 1))) else (none))) else (some (([] : List (S59)), false)))) else (some (([] : List (S59)), false))) else (some (([] : List (S59)), false))) = some (r1, r2) := by rw [if_pos rfl] at H; exact H
                        clear H
                        have H := H1
                        clear H1
                        by_cases c21 : t251 = true
                        · subst c21
                          have H1 : (if t253 = true then ((impl_within.f t250 (wrap64 (x6_2 + 1)) 60).bind fun t256 => (if t256 = true then (if (t252.length : Int) > 2 then (some (([] : List (S59)), false)) else (if x5_2.length < 4398046511104 then (impl_Steps.l0 k2 (x5_2 ++ [(⟨t250, t252⟩ : S59)]) t250 y242 (y242.length : Int) (wrap64 (x33_2 + 1))) else (none))) else (some (([] : List (S59)), false)))) else (some (([] : List (S59)), false))) = some (r1, r2) := by rw [if_pos rfl] at H; exact H
                          clear H
                          have H := H1
                          clear H1
                          by_cases c22 : t253 = true
                          · subst c22
                            have H1 : ((impl_within.f t250 (wrap64 (x6_2 + 1)) 60).bind fun t256 => (if t256 = true then (if (t252.length : Int) > 2 then (some (([] : List (S59)), false)) else (if x5_2.length < 4398046511104 then (impl_Steps.l0 k2 (x5_2 ++ [(⟨t250, t252⟩ : S59)]) t250 y242 (y242.length : Int) (wrap64 (x33_2 + 1))) else (none))) else (some (([] : List (S59)), false)))) = some (r1, r2) := by rw [if_pos rfl] at H; exact H
                            clear H
                            have H := H1
                            clear H1
                            replace H := Option.bind_eq_some_iff.mp H
                            obtain ⟨t256, A230, H⟩ := H
                            replace H : (if t256 = true then (if (t252.length : Int) > 2 then (some (([] : List (S59)), false)) else (if x5_2.length < 4398046511104 then (impl_Steps.l0 k2 (x5_2 ++ [(⟨t250, t252⟩ : S59)]) t250 y242 (y242.length : Int) (wrap64 (x33_2 + 1))) else (none))) else (some (([] : List (S59)), false))) = some (r1, r2) := H
                            have A23 := Aside0.mk A230
                            clear A230
                            by_cases c24 : t256 = true
                            · subst c24
                              have H1 : (if (t252.length : Int) > 2 then (some (([] : List (S59)), false)) else (if x5_2.length < 4398046511104 then (impl_Steps.l0 k2 (x5_2 ++ [(⟨t250, t252⟩ : S59)]) t250 y242 (y242.length : Int) (wrap64 (x33_2 + 1))) else (none))) = some (r1, r2) := by rw [if_pos rfl] at H; exact H
                              clear H
                              have H := H1
                              clear H1
                              have HF := Aside0.mk H
                              clear H
                              have p246 : 0 ≤ (x33_2 : Int) := of_decide_eq_true (by first | (with_reducible assumption) | assumption)
                              have q246 : x33_2 < (y242.length : Int) := of_decide_eq_true (by first | (with_reducible assumption) | assumption)
                              obtain ⟨ad246, e246, hx246_0⟩ := Kd.at_string HR245.out x33_2 p246 q246
                              cases e246
                              replace hx246_0 := (HB.out.cell (World.block_lt_of_cell? wc _ hx246_0)).trans hx246_0
                              replace p246 := eq_true p246
                              replace q246 := eq_true q246
                              go_upto_if 74 with (go_big_may; first | ((with_reducible refine gate_callee (f := 69) rfl ?_); refine goesL_ (some 39) rfl rfl Tryd.func69 (by kernel_rfl) rfl #[.string (rdOf ByteArray.empty y242 x33_2), .string (⟨#[124]⟩ : ByteArray)] rfl (by (try simp only [List.map_toArray, List.map_cons, List.map_nil]); first | done | rfl | (simp only [List.length_drop, List.length_take]; rfl)) ?_; (with_reducible refine (strings_Cut.calls (rdOf ByteArray.empty y242 x33_2) (⟨#[124]⟩ : ByteArray) t247 t248 true _ ?side1 A17.out).mono ?_); (case side1 => exact LaidW.below HL0.out (by repeat (first | (with_reducible first | exact HB.out | apply below_alloc | apply pw_below_drewN | apply below_drew1) | exact HB.out))); rintro e w' ⟨rfl, ⟨nd, rfl⟩⟩; refine ⟨_, rfl, ?_⟩) | ((with_reducible refine gate_callee (f := 70) rfl ?_); refine goesL_ (some 45) rfl rfl Tryd.func70 (by kernel_rfl) rfl #[.string t247] rfl (by (try simp only [List.map_toArray, List.map_cons, List.map_nil]); first | done | rfl | (simp only [List.length_drop, List.length_take]; rfl)) ?_; (with_reducible refine (impl_Number.calls k2 t247 t250 true _ ?side1 A18.out).mono ?_); (case side1 => exact LaidW.below HL0.out (by repeat (first | (with_reducible first | exact HB.out | apply below_alloc | apply pw_below_drewN | apply below_drew1) | exact HB.out))); rintro e w25 ⟨rfl, hb⟩; refine ⟨_, rfl, ?_⟩; have n0_ := Aside0.mk (Kd.S_below (by (with_reducible repeat (first | apply Kd.S_alloc | apply Kd.S_drewN | apply Kd.S_drew)); exact HO_5.out) hb); have n1_ := Aside0.mk (below_step (by repeat (first | (with_reducible first | exact HB.out | apply below_alloc | apply pw_below_drewN | apply below_drew1) | exact HB.out)) hb); clear HO_5; clear HB; have HO_5 := n0_; have HB := n1_; clear n0_ n1_; (try clear hb); (try clear hb2); (try clear hk); (try clear hi)) | ((with_reducible refine gate_callee (f := 50) rfl ?_); refine goesL_ (some 50) rfl rfl Tryd.func50 (by kernel_rfl) rfl #[.string t248] rfl (by (try simp only [List.map_toArray, List.map_cons, List.map_nil]); first | done | rfl | (simp only [List.length_drop, List.length_take]; rfl)) ?_; (with_reducible refine (impl_TxsOf.calls k2 t248 t252 true _ ?side1 A19.out).mono ?_); (case side1 => exact LaidW.below HL0.out (by repeat (first | (with_reducible first | exact HB.out | apply below_alloc | apply pw_below_drewN | apply below_drew1) | exact HB.out))); rintro e w26 ⟨v254, rfl, ho0, hb⟩; refine ⟨_, rfl, ?_⟩; have n0_ := Aside0.mk (Kd.S_elder' (by (with_reducible repeat (first | apply Kd.S_alloc | apply Kd.S_drewN | apply Kd.S_drew)); exact HO_5.out) (Kd.R_base ho0) hb); have n1_ := Aside0.mk (Kd.R_lower ho0 (below_size (by repeat (first | (with_reducible first | exact HB.out | apply below_alloc | apply pw_below_drewN | apply below_drew1) | exact HB.out)))); have n2_ := Aside0.mk (below_step (by repeat (first | (with_reducible first | exact HB.out | apply below_alloc | apply pw_below_drewN | apply below_drew1) | exact HB.out)) hb); clear HO_5; clear HB; have HO_5 := n0_; have HO255 := n1_; have HB := n2_; clear n0_ n1_ n2_; (try clear hb); (try clear hb2); (try clear hk); (try clear hi); (try clear ho0)) | (go_at_call 71; (with_reducible refine (impl_within.calls t250 (wrap64 (x6_2 + 1)) 60 true _ A23.out).mono ?_); rintro e w' ⟨rfl, ⟨nd, rfl⟩⟩; obtain ⟨Ao27, co27, eo27⟩ := Kd.R_slice HO255.out; subst eo27))
                              have H := HF.out
                              clear HF
                              by_cases c28 : (t252.length : Int) > 2
                              · rw [if_pos c28] at H
                                have c28b0 : decide (2 < (t252.length : Int)) = true := decide_eq_true c28
                                have c28b1 : decide (2 < t252.length) = true := decide_eq_true (by omega)
                                clear c28
                                (first | rw [c28b0] | (simp only [i64_w, i32_w]; rw [c28b0]) | skip)
                                simp only [Option.some.injEq, Prod.mk.injEq] at H
                                obtain ⟨rfl, rfl⟩ := H
                                go_wp2
                                go_ret2
                                exact ⟨_, by first | rfl | (simp [errW_none, errW_some] <;> rfl) | (simp [*, errW_none, errW_some] <;> rfl), by first | exact Kd.S_nil _ _ _ _ _ | exact Kd.N_nil _ _ _ _ _ | exact Kd.V_nil _ _ _ _ _ | exact Kd.Q_nil _ _ _ _ _ | exact Kd.R_nil _ _ _ _ _, below_then HBw.out (below_size HBw.out) (by repeat (first | (with_reducible first | exact HB.out | apply below_alloc | apply pw_below_drewN | apply below_drew1) | exact HB.out))⟩
                              · rw [if_neg c28] at H
                                have c28b0 : decide (2 < (t252.length : Int)) = false := decide_eq_false c28
                                have c28b1 : decide (2 < t252.length) = false := decide_eq_false (by omega)
                                clear c28
                                (first | rw [c28b0] | (simp only [i64_w, i32_w]; rw [c28b0]) | skip)
                                by_cases c29 : x5_2.length < 4398046511104
                                · rw [if_pos c29] at H
                                  have LMc29 := Aside0.mk c29
                                  clear c29
                                  obtain ⟨y257, hy257⟩ : ∃ y_ : List (S59), y_ = (x5_2 ++ [(⟨t250, t252⟩ : S59)]) := ⟨_, rfl⟩
                                  replace H : (impl_Steps.l0 k2 y257 t250 y242 (y242.length : Int) (wrap64 (x33_2 + 1))) = some (r1, r2) := by first | (rw [hy257]; with_reducible exact H) | (have H2_ := (Option.bind_some _ _).symm.trans H; rw [hy257]; with_reducible exact H2_) | (have H2_ := (Option.bind_some _ _).symm.trans H; with_reducible exact H2_) | with_reducible exact H | (rw [hy257]; exact H) | exact H
                                  have Ny257 := Aside0.mk hy257
                                  clear hy257
                                  have H' := Aside0.mk H
                                  clear H
                                  go_wp2_with (first | ((with_reducible refine gate_builtin (b := .append) (xs := #[.tmp 75, .tmp 79]) rfl ?_); (try (refine gate_guard (by rfl) ?_; dsimp only)); at_builtin; refine Kd.S_append k59 (w0 := wc) wc.heap.size rfl (.tmp 75) (.tmp 79) 35 59 (.agg #[(.int .i64 0), (.slice none 0 0)]) 32 rfl Tryd.underlying35 info59 rfl (by decide) (by omega) u5 x5_2 (⟨t250, t252⟩ : S59) [.int .i64 t250, .slice Ao27 t252.length co27] (fun _ => True) (fun k_ => some k_ = (.slice Ao27 t252.length co27 : Value).ownBlock) rfl rfl ?aP (fun k_ hk_ => ((Kd.R_mono (ok' := fun k_ => ((fun _ => True)) k_ ∧ some k_ ≠ (u5 : Value).ownBlock) (Kd.R_apart' (HO255.out) (Kd.S_typed HO_5.out) (by decide)) (fun k_ hk => ⟨trivial, hk.2⟩))).1 k_ hk_.symm) ?aF ?aO ?aB ?aS ?aL ?_; (case aP => exact k59_mkM _ _ _ (⟨t250, t252⟩ : S59) (Kd.R_mono (Kd.R_tight rfl (Kd.R_mono (ok' := fun k_ => ((fun _ => True)) k_ ∧ some k_ ≠ (u5 : Value).ownBlock) (Kd.R_apart' (HO255.out) (Kd.S_typed HO_5.out) (by decide)) (fun k_ hk => ⟨trivial, hk.2⟩))) (fun _ h_ => h_))); (case aB => exact (by repeat (first | (with_reducible first | exact HB.out | apply below_alloc | apply pw_below_drewN | apply below_drew1) | exact HB.out))); (case aF => exact (fun _ _ => trivial)); (case aO => exact (by (with_reducible repeat (first | apply Kd.S_alloc | apply Kd.S_drewN | apply Kd.S_drew)); exact Kd.S_mono HO_5.out (fun k_ hk => ⟨trivial, fun e_ => hk.2 e_⟩))); (case aS => exact (below_size (by repeat (first | (with_reducible first | exact HB.out | apply below_alloc | apply pw_below_drewN | apply below_drew1) | exact HB.out)))); (case aL => have := LMc29.out; omega); intro v258 w30 ho hb hg hat; rw [← Ny257.out] at ho; have n0_ := Aside0.mk (hb); have n1_ := Aside0.mk (ho); clear HB; clear HO_5; clear HO255; have HB := n0_; have HO259 := n1_; clear n0_ n1_; clear ho hb hg hat))
                                  go_roundg k2
                                  case measure => have := HJ3.out; have := HK2.out; omega
                                  case rel => exact ⟨(y257), (t250), (wrap64 (x33_2 + 1)), (by first | rfl | (simp; done) | (simp [*]; done)), (by first | rfl | (simp; done) | (simp [*]; done)), H', ⟨by have := HJ3.out; have := HK2.out; omega⟩, ⟨by (with_reducible repeat (first | apply Kd.S_alloc | apply Kd.S_drewN | apply Kd.S_drew)); exact HO259.out⟩, ⟨by repeat (first | (with_reducible first | exact HB.out | apply below_alloc | apply pw_below_drewN | apply below_drew1) | exact HB.out)⟩⟩
                                · rw [if_neg c29] at H
                                  exact absurd H (by simp)
                            · replace c24 := Bool.eq_false_iff.mpr c24
                              subst c24
                              have H1 : (some (([] : List (S59)), false)) = some (r1, r2) := by rw [if_neg (show ¬ (false = true) by decide)] at H; exact H
                              clear H
                              have H := H1
                              clear H1
                              simp only [Option.some.injEq, Prod.mk.injEq] at H
                              obtain ⟨rfl, rfl⟩ := H
                              have p246 : 0 ≤ (x33_2 : Int) := of_decide_eq_true (by first | (with_reducible assumption) | assumption)
                              have q246 : x33_2 < (y242.length : Int) := of_decide_eq_true (by first | (with_reducible assumption) | assumption)
                              obtain ⟨ad246, e246, hx246_0⟩ := Kd.at_string HR245.out x33_2 p246 q246
                              cases e246
                              replace hx246_0 := (HB.out.cell (World.block_lt_of_cell? wc _ hx246_0)).trans hx246_0
                              replace p246 := eq_true p246
                              replace q246 := eq_true q246
                              go_wp2_with (first | ((with_reducible refine gate_callee (f := 69) rfl ?_); refine goesL_ (some 39) rfl rfl Tryd.func69 (by kernel_rfl) rfl #[.string (rdOf ByteArray.empty y242 x33_2), .string (⟨#[124]⟩ : ByteArray)] rfl (by (try simp only [List.map_toArray, List.map_cons, List.map_nil]); first | done | rfl | (simp only [List.length_drop, List.length_take]; rfl)) ?_; (with_reducible refine (strings_Cut.calls (rdOf ByteArray.empty y242 x33_2) (⟨#[124]⟩ : ByteArray) t247 t248 true _ ?side1 A17.out).mono ?_); (case side1 => exact LaidW.below HL0.out (by repeat (first | (with_reducible first | exact HB.out | apply below_alloc | apply pw_below_drewN | apply below_drew1) | exact HB.out))); rintro e w' ⟨rfl, ⟨nd, rfl⟩⟩; refine ⟨_, rfl, ?_⟩) | ((with_reducible refine gate_callee (f := 70) rfl ?_); refine goesL_ (some 45) rfl rfl Tryd.func70 (by kernel_rfl) rfl #[.string t247] rfl (by (try simp only [List.map_toArray, List.map_cons, List.map_nil]); first | done | rfl | (simp only [List.length_drop, List.length_take]; rfl)) ?_; (with_reducible refine (impl_Number.calls k2 t247 t250 true _ ?side1 A18.out).mono ?_); (case side1 => exact LaidW.below HL0.out (by repeat (first | (with_reducible first | exact HB.out | apply below_alloc | apply pw_below_drewN | apply below_drew1) | exact HB.out))); rintro e w31 ⟨rfl, hb⟩; refine ⟨_, rfl, ?_⟩; have n0_ := Aside0.mk (Kd.S_below (by (with_reducible repeat (first | apply Kd.S_alloc | apply Kd.S_drewN | apply Kd.S_drew)); exact HO_5.out) hb); have n1_ := Aside0.mk (below_step (by repeat (first | (with_reducible first | exact HB.out | apply below_alloc | apply pw_below_drewN | apply below_drew1) | exact HB.out)) hb); clear HO_5; clear HB; have HO_5 := n0_; have HB := n1_; clear n0_ n1_; (try clear hb); (try clear hb2); (try clear hk); (try clear hi)) | ((with_reducible refine gate_callee (f := 50) rfl ?_); refine goesL_ (some 50) rfl rfl Tryd.func50 (by kernel_rfl) rfl #[.string t248] rfl (by (try simp only [List.map_toArray, List.map_cons, List.map_nil]); first | done | rfl | (simp only [List.length_drop, List.length_take]; rfl)) ?_; (with_reducible refine (impl_TxsOf.calls k2 t248 t252 true _ ?side1 A19.out).mono ?_); (case side1 => exact LaidW.below HL0.out (by repeat (first | (with_reducible first | exact HB.out | apply below_alloc | apply pw_below_drewN | apply below_drew1) | exact HB.out))); rintro e w32 ⟨v254, rfl, ho0, hb⟩; refine ⟨_, rfl, ?_⟩; have n0_ := Aside0.mk (Kd.S_elder' (by (with_reducible repeat (first | apply Kd.S_alloc | apply Kd.S_drewN | apply Kd.S_drew)); exact HO_5.out) (Kd.R_base ho0) hb); have n1_ := Aside0.mk (Kd.R_lower ho0 (below_size (by repeat (first | (with_reducible first | exact HB.out | apply below_alloc | apply pw_below_drewN | apply below_drew1) | exact HB.out)))); have n2_ := Aside0.mk (below_step (by repeat (first | (with_reducible first | exact HB.out | apply below_alloc | apply pw_below_drewN | apply below_drew1) | exact HB.out)) hb); clear HO_5; clear HB; have HO_5 := n0_; have HO255 := n1_; have HB := n2_; clear n0_ n1_ n2_; (try clear hb); (try clear hb2); (try clear hk); (try clear hi); (try clear ho0)) | (go_at_call 71; (with_reducible refine (impl_within.calls t250 (wrap64 (x6_2 + 1)) 60 false _ A23.out).mono ?_); rintro e w' ⟨rfl, ⟨nd, rfl⟩⟩))
                              go_ret2
                              exact ⟨_, by first | rfl | (simp [errW_none, errW_some] <;> rfl) | (simp [*, errW_none, errW_some] <;> rfl), by first | exact Kd.S_nil _ _ _ _ _ | exact Kd.N_nil _ _ _ _ _ | exact Kd.V_nil _ _ _ _ _ | exact Kd.Q_nil _ _ _ _ _ | exact Kd.R_nil _ _ _ _ _, below_then HBw.out (below_size HBw.out) (by repeat (first | (with_reducible first | exact HB.out | apply below_alloc | apply pw_below_drewN | apply below_drew1) | exact HB.out))⟩
                          · replace c22 := Bool.eq_false_iff.mpr c22
                            subst c22
                            have H1 : (some (([] : List (S59)), false)) = some (r1, r2) := by rw [if_neg (show ¬ (false = true) by decide)] at H; exact H
                            clear H
                            have H := H1
                            clear H1
                            simp only [Option.some.injEq, Prod.mk.injEq] at H
                            obtain ⟨rfl, rfl⟩ := H
                            have p246 : 0 ≤ (x33_2 : Int) := of_decide_eq_true (by first | (with_reducible assumption) | assumption)
                            have q246 : x33_2 < (y242.length : Int) := of_decide_eq_true (by first | (with_reducible assumption) | assumption)
                            obtain ⟨ad246, e246, hx246_0⟩ := Kd.at_string HR245.out x33_2 p246 q246
                            cases e246
                            replace hx246_0 := (HB.out.cell (World.block_lt_of_cell? wc _ hx246_0)).trans hx246_0
                            replace p246 := eq_true p246
                            replace q246 := eq_true q246
                            go_wp2_with (first | ((with_reducible refine gate_callee (f := 69) rfl ?_); refine goesL_ (some 39) rfl rfl Tryd.func69 (by kernel_rfl) rfl #[.string (rdOf ByteArray.empty y242 x33_2), .string (⟨#[124]⟩ : ByteArray)] rfl (by (try simp only [List.map_toArray, List.map_cons, List.map_nil]); first | done | rfl | (simp only [List.length_drop, List.length_take]; rfl)) ?_; (with_reducible refine (strings_Cut.calls (rdOf ByteArray.empty y242 x33_2) (⟨#[124]⟩ : ByteArray) t247 t248 true _ ?side1 A17.out).mono ?_); (case side1 => exact LaidW.below HL0.out (by repeat (first | (with_reducible first | exact HB.out | apply below_alloc | apply pw_below_drewN | apply below_drew1) | exact HB.out))); rintro e w' ⟨rfl, ⟨nd, rfl⟩⟩; refine ⟨_, rfl, ?_⟩) | ((with_reducible refine gate_callee (f := 70) rfl ?_); refine goesL_ (some 45) rfl rfl Tryd.func70 (by kernel_rfl) rfl #[.string t247] rfl (by (try simp only [List.map_toArray, List.map_cons, List.map_nil]); first | done | rfl | (simp only [List.length_drop, List.length_take]; rfl)) ?_; (with_reducible refine (impl_Number.calls k2 t247 t250 true _ ?side1 A18.out).mono ?_); (case side1 => exact LaidW.below HL0.out (by repeat (first | (with_reducible first | exact HB.out | apply below_alloc | apply pw_below_drewN | apply below_drew1) | exact HB.out))); rintro e w33 ⟨rfl, hb⟩; refine ⟨_, rfl, ?_⟩; have n0_ := Aside0.mk (Kd.S_below (by (with_reducible repeat (first | apply Kd.S_alloc | apply Kd.S_drewN | apply Kd.S_drew)); exact HO_5.out) hb); have n1_ := Aside0.mk (below_step (by repeat (first | (with_reducible first | exact HB.out | apply below_alloc | apply pw_below_drewN | apply below_drew1) | exact HB.out)) hb); clear HO_5; clear HB; have HO_5 := n0_; have HB := n1_; clear n0_ n1_; (try clear hb); (try clear hb2); (try clear hk); (try clear hi)) | ((with_reducible refine gate_callee (f := 50) rfl ?_); refine goesL_ (some 50) rfl rfl Tryd.func50 (by kernel_rfl) rfl #[.string t248] rfl (by (try simp only [List.map_toArray, List.map_cons, List.map_nil]); first | done | rfl | (simp only [List.length_drop, List.length_take]; rfl)) ?_; (with_reducible refine (impl_TxsOf.calls k2 t248 t252 false _ ?side1 A19.out).mono ?_); (case side1 => exact LaidW.below HL0.out (by repeat (first | (with_reducible first | exact HB.out | apply below_alloc | apply pw_below_drewN | apply below_drew1) | exact HB.out))); rintro e w34 ⟨v254, rfl, ho0, hb⟩; refine ⟨_, rfl, ?_⟩; have n0_ := Aside0.mk (Kd.S_elder' (by (with_reducible repeat (first | apply Kd.S_alloc | apply Kd.S_drewN | apply Kd.S_drew)); exact HO_5.out) (Kd.R_base ho0) hb); have n1_ := Aside0.mk (Kd.R_lower ho0 (below_size (by repeat (first | (with_reducible first | exact HB.out | apply below_alloc | apply pw_below_drewN | apply below_drew1) | exact HB.out)))); have n2_ := Aside0.mk (below_step (by repeat (first | (with_reducible first | exact HB.out | apply below_alloc | apply pw_below_drewN | apply below_drew1) | exact HB.out)) hb); clear HO_5; clear HB; have HO_5 := n0_; have HO255 := n1_; have HB := n2_; clear n0_ n1_ n2_; (try clear hb); (try clear hb2); (try clear hk); (try clear hi); (try clear ho0)))
                            go_ret2
                            exact ⟨_, by first | rfl | (simp [errW_none, errW_some] <;> rfl) | (simp [*, errW_none, errW_some] <;> rfl), by first | exact Kd.S_nil _ _ _ _ _ | exact Kd.N_nil _ _ _ _ _ | exact Kd.V_nil _ _ _ _ _ | exact Kd.Q_nil _ _ _ _ _ | exact Kd.R_nil _ _ _ _ _, below_then HBw.out (below_size HBw.out) (by repeat (first | (with_reducible first | exact HB.out | apply below_alloc | apply pw_below_drewN | apply below_drew1) | exact HB.out))⟩
                        · replace c21 := Bool.eq_false_iff.mpr c21
                          subst c21
                          have H1 : (some (([] : List (S59)), false)) = some (r1, r2) := by rw [if_neg (show ¬ (false = true) by decide)] at H; exact H
                          clear H
                          have H := H1
                          clear H1
                          simp only [Option.some.injEq, Prod.mk.injEq] at H
                          obtain ⟨rfl, rfl⟩ := H
                          have p246 : 0 ≤ (x33_2 : Int) := of_decide_eq_true (by first | (with_reducible assumption) | assumption)
                          have q246 : x33_2 < (y242.length : Int) := of_decide_eq_true (by first | (with_reducible assumption) | assumption)
                          obtain ⟨ad246, e246, hx246_0⟩ := Kd.at_string HR245.out x33_2 p246 q246
                          cases e246
                          replace hx246_0 := (HB.out.cell (World.block_lt_of_cell? wc _ hx246_0)).trans hx246_0
                          replace p246 := eq_true p246
                          replace q246 := eq_true q246
                          go_wp2_with (first | ((with_reducible refine gate_callee (f := 69) rfl ?_); refine goesL_ (some 39) rfl rfl Tryd.func69 (by kernel_rfl) rfl #[.string (rdOf ByteArray.empty y242 x33_2), .string (⟨#[124]⟩ : ByteArray)] rfl (by (try simp only [List.map_toArray, List.map_cons, List.map_nil]); first | done | rfl | (simp only [List.length_drop, List.length_take]; rfl)) ?_; (with_reducible refine (strings_Cut.calls (rdOf ByteArray.empty y242 x33_2) (⟨#[124]⟩ : ByteArray) t247 t248 true _ ?side1 A17.out).mono ?_); (case side1 => exact LaidW.below HL0.out (by repeat (first | (with_reducible first | exact HB.out | apply below_alloc | apply pw_below_drewN | apply below_drew1) | exact HB.out))); rintro e w' ⟨rfl, ⟨nd, rfl⟩⟩; refine ⟨_, rfl, ?_⟩) | ((with_reducible refine gate_callee (f := 70) rfl ?_); refine goesL_ (some 45) rfl rfl Tryd.func70 (by kernel_rfl) rfl #[.string t247] rfl (by (try simp only [List.map_toArray, List.map_cons, List.map_nil]); first | done | rfl | (simp only [List.length_drop, List.length_take]; rfl)) ?_; (with_reducible refine (impl_Number.calls k2 t247 t250 false _ ?side1 A18.out).mono ?_); (case side1 => exact LaidW.below HL0.out (by repeat (first | (with_reducible first | exact HB.out | apply below_alloc | apply pw_below_drewN | apply below_drew1) | exact HB.out))); rintro e w35 ⟨rfl, hb⟩; refine ⟨_, rfl, ?_⟩; have n0_ := Aside0.mk (Kd.S_below (by (with_reducible repeat (first | apply Kd.S_alloc | apply Kd.S_drewN | apply Kd.S_drew)); exact HO_5.out) hb); have n1_ := Aside0.mk (below_step (by repeat (first | (with_reducible first | exact HB.out | apply below_alloc | apply pw_below_drewN | apply below_drew1) | exact HB.out)) hb); clear HO_5; clear HB; have HO_5 := n0_; have HB := n1_; clear n0_ n1_; (try clear hb); (try clear hb2); (try clear hk); (try clear hi)) | ((with_reducible refine gate_callee (f := 50) rfl ?_); refine goesL_ (some 50) rfl rfl Tryd.func50 (by kernel_rfl) rfl #[.string t248] rfl (by (try simp only [List.map_toArray, List.map_cons, List.map_nil]); first | done | rfl | (simp only [List.length_drop, List.length_take]; rfl)) ?_; (with_reducible refine (impl_TxsOf.calls k2 t248 t252 t253 _ ?side1 A19.out).mono ?_); (case side1 => exact LaidW.below HL0.out (by repeat (first | (with_reducible first | exact HB.out | apply below_alloc | apply pw_below_drewN | apply below_drew1) | exact HB.out))); rintro e w36 ⟨v254, rfl, ho0, hb⟩; refine ⟨_, rfl, ?_⟩; have n0_ := Aside0.mk (Kd.S_elder' (by (with_reducible repeat (first | apply Kd.S_alloc | apply Kd.S_drewN | apply Kd.S_drew)); exact HO_5.out) (Kd.R_base ho0) hb); have n1_ := Aside0.mk (Kd.R_lower ho0 (below_size (by repeat (first | (with_reducible first | exact HB.out | apply below_alloc | apply pw_below_drewN | apply below_drew1) | exact HB.out)))); have n2_ := Aside0.mk (below_step (by repeat (first | (with_reducible first | exact HB.out | apply below_alloc | apply pw_below_drewN | apply below_drew1) | exact HB.out)) hb); clear HO_5; clear HB; have HO_5 := n0_; have HO255 := n1_; have HB := n2_; clear n0_ n1_ n2_; (try clear hb); (try clear hb2); (try clear hk); (try clear hi); (try clear ho0)))
                          go_ret2
                          exact ⟨_, by first | rfl | (simp [errW_none, errW_some] <;> rfl) | (simp [*, errW_none, errW_some] <;> rfl), by first | exact Kd.S_nil _ _ _ _ _ | exact Kd.N_nil _ _ _ _ _ | exact Kd.V_nil _ _ _ _ _ | exact Kd.Q_nil _ _ _ _ _ | exact Kd.R_nil _ _ _ _ _, below_then HBw.out (below_size HBw.out) (by repeat (first | (with_reducible first | exact HB.out | apply below_alloc | apply pw_below_drewN | apply below_drew1) | exact HB.out))⟩
                      · replace c20 := Bool.eq_false_iff.mpr c20
                        subst c20
                        have H1 : (some (([] : List (S59)), false)) = some (r1, r2) := by rw [if_neg (show ¬ (false = true) by decide)] at H; exact H
                        clear H
                        have H := H1
                        clear H1
                        simp only [Option.some.injEq, Prod.mk.injEq] at H
                        obtain ⟨rfl, rfl⟩ := H
                        have p246 : 0 ≤ (x33_2 : Int) := of_decide_eq_true (by first | (with_reducible assumption) | assumption)
                        have q246 : x33_2 < (y242.length : Int) := of_decide_eq_true (by first | (with_reducible assumption) | assumption)
                        obtain ⟨ad246, e246, hx246_0⟩ := Kd.at_string HR245.out x33_2 p246 q246
                        cases e246
                        replace hx246_0 := (HB.out.cell (World.block_lt_of_cell? wc _ hx246_0)).trans hx246_0
                        replace p246 := eq_true p246
                        replace q246 := eq_true q246
                        go_wp2_with (first | ((with_reducible refine gate_callee (f := 69) rfl ?_); refine goesL_ (some 39) rfl rfl Tryd.func69 (by kernel_rfl) rfl #[.string (rdOf ByteArray.empty y242 x33_2), .string (⟨#[124]⟩ : ByteArray)] rfl (by (try simp only [List.map_toArray, List.map_cons, List.map_nil]); first | done | rfl | (simp only [List.length_drop, List.length_take]; rfl)) ?_; (with_reducible refine (strings_Cut.calls (rdOf ByteArray.empty y242 x33_2) (⟨#[124]⟩ : ByteArray) t247 t248 false _ ?side1 A17.out).mono ?_); (case side1 => exact LaidW.below HL0.out (by repeat (first | (with_reducible first | exact HB.out | apply below_alloc | apply pw_below_drewN | apply below_drew1) | exact HB.out))); rintro e w' ⟨rfl, ⟨nd, rfl⟩⟩; refine ⟨_, rfl, ?_⟩) | ((with_reducible refine gate_callee (f := 70) rfl ?_); refine goesL_ (some 45) rfl rfl Tryd.func70 (by kernel_rfl) rfl #[.string t247] rfl (by (try simp only [List.map_toArray, List.map_cons, List.map_nil]); first | done | rfl | (simp only [List.length_drop, List.length_take]; rfl)) ?_; (with_reducible refine (impl_Number.calls k2 t247 t250 t251 _ ?side1 A18.out).mono ?_); (case side1 => exact LaidW.below HL0.out (by repeat (first | (with_reducible first | exact HB.out | apply below_alloc | apply pw_below_drewN | apply below_drew1) | exact HB.out))); rintro e w37 ⟨rfl, hb⟩; refine ⟨_, rfl, ?_⟩; have n0_ := Aside0.mk (Kd.S_below (by (with_reducible repeat (first | apply Kd.S_alloc | apply Kd.S_drewN | apply Kd.S_drew)); exact HO_5.out) hb); have n1_ := Aside0.mk (below_step (by repeat (first | (with_reducible first | exact HB.out | apply below_alloc | apply pw_below_drewN | apply below_drew1) | exact HB.out)) hb); clear HO_5; clear HB; have HO_5 := n0_; have HB := n1_; clear n0_ n1_; (try clear hb); (try clear hb2); (try clear hk); (try clear hi)) | ((with_reducible refine gate_callee (f := 50) rfl ?_); refine goesL_ (some 50) rfl rfl Tryd.func50 (by kernel_rfl) rfl #[.string t248] rfl (by (try simp only [List.map_toArray, List.map_cons, List.map_nil]); first | done | rfl | (simp only [List.length_drop, List.length_take]; rfl)) ?_; (with_reducible refine (impl_TxsOf.calls k2 t248 t252 t253 _ ?side1 A19.out).mono ?_); (case side1 => exact LaidW.below HL0.out (by repeat (first | (with_reducible first | exact HB.out | apply below_alloc | apply pw_below_drewN | apply below_drew1) | exact HB.out))); rintro e w38 ⟨v254, rfl, ho0, hb⟩; refine ⟨_, rfl, ?_⟩; have n0_ := Aside0.mk (Kd.S_elder' (by (with_reducible repeat (first | apply Kd.S_alloc | apply Kd.S_drewN | apply Kd.S_drew)); exact HO_5.out) (Kd.R_base ho0) hb); have n1_ := Aside0.mk (Kd.R_lower ho0 (below_size (by repeat (first | (with_reducible first | exact HB.out | apply below_alloc | apply pw_below_drewN | apply below_drew1) | exact HB.out)))); have n2_ := Aside0.mk (below_step (by repeat (first | (with_reducible first | exact HB.out | apply below_alloc | apply pw_below_drewN | apply below_drew1) | exact HB.out)) hb); clear HO_5; clear HB; have HO_5 := n0_; have HO255 := n1_; have HB := n2_; clear n0_ n1_ n2_; (try clear hb); (try clear hb2); (try clear hk); (try clear hi); (try clear ho0)))
                        go_ret2
                        exact ⟨_, by first | rfl | (simp [errW_none, errW_some] <;> rfl) | (simp [*, errW_none, errW_some] <;> rfl), by first | exact Kd.S_nil _ _ _ _ _ | exact Kd.N_nil _ _ _ _ _ | exact Kd.V_nil _ _ _ _ _ | exact Kd.Q_nil _ _ _ _ _ | exact Kd.R_nil _ _ _ _ _, below_then HBw.out (below_size HBw.out) (by repeat (first | (with_reducible first | exact HB.out | apply below_alloc | apply pw_below_drewN | apply below_drew1) | exact HB.out))⟩
                    · rw [if_neg c16] at H
                      exact absurd H (by simp)
                  · rw [if_neg c15] at H
                    exact absurd H (by simp)
                · rw [if_neg c14] at H
                  have c14b0 : decide (x33_2 < (y242.length : Int)) = false := decide_eq_false c14
                  clear c14
                  (first | rw [c14b0] | (simp only [i64_w, i32_w]; rw [c14b0]) | skip)
                  simp only [Option.some.injEq, Prod.mk.injEq] at H
                  obtain ⟨rfl, rfl⟩ := H
                  go_wp2
                  go_ret2
                  exact ⟨_, by first | rfl | (simp [errW_none, errW_some] <;> rfl) | (simp [*, errW_none, errW_some] <;> rfl), by (with_reducible repeat (first | apply Kd.S_alloc | apply Kd.S_drewN | apply Kd.S_drew)); exact Kd.S_lower HO_5.out (below_size HBw.out), below_then HBw.out (below_size HBw.out) (by repeat (first | (with_reducible first | exact HB.out | apply below_alloc | apply pw_below_drewN | apply below_drew1) | exact HB.out))⟩
          · rw [if_neg c11] at H
            exact absurd H (by simp)

end Go.Proofs.YtbecffgalndagaaDoor.PFnExactTxsIn
