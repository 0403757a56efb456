/- Walks of the functions that a law of seat YtnlakfbbbnkcpaaDoor reaches, each against a Lean function, printed by this session's wip/myprint.py; no condition of their own. -/
import Derived.Test.YtnlakfbbbnkcpaaDoorPFnPoolsx0
import Derived.Test.YtnlakfbbbnkcpaaDoorPFnPoolsx5
import Derived.Test.YtnlakfbbbnkcpaaDoorPFnPoolsx6
namespace Go.Proofs.YtnlakfbbbnkcpaaDoor.PFnPools
open Go.RowKit Go.Proofs.YtnlakfbbbnkcpaaDoorW.PrintWords Go.Proofs.YtnlakfbbbnkcpaaDoorW.PrintLast Go.Proofs.YtnlakfbbbnkcpaaDoorW.PrintMore
attribute [local go_sem] max2_int min2_int max_two min_two max_three min_three max_four min_four   -- for this text's walks alone
set_option linter.unusedVariables false
set_option linter.unusedSimpArgs false

/-! ### impl_PoolAdd: function 6 -/
-- included insert_tx.inc
/-! slices.Insert at rows of impl.Tx (four cells an element): the four roads, walked; what they come to over a row of the call's own. -/
theorem run_copy_K {P : Program} (w : World) (dT sT ty elem : TypeId) (b o dLen dCap : Nat) (a : Addr) (sLen sCap : Nat) (cs : List Value) (size m : Nat)
    (hu : P.underlying dT = some (.slice elem)) (hs : (P.info? elem).map (·.size) = some size) (hm : Nat.min sLen dLen = m) (hn : cs.length = m * size)
    (hsrc : ∀ j v, cs[j]? = some v → w.cell? (a.add j) = some v) (hc : ∀ j, j < cs.length → (w.cell? ⟨b, o + j, none⟩).isSome = true) (hf : ∀ j, j < cs.length → w.frozen? ⟨b, o + j, none⟩ = false) (h1 : ∀ v ∈ cs, v.oneCell' = true) :
    (Builtin.copy_ #[dT, sT] ty #[.slice (some ⟨b, o, none⟩) dLen dCap, .slice (some a) sLen sCap]).run P w = .ok (goInt m) (w.setCells b o cs) := by
  have hl := run_loadCells_list (P := P) w a cs hsrc
  have hst := run_storeCells_cells (P := P) b o cs 0 w (by simpa using hc) (by simpa using hf) h1
  cases hq : P.info? elem with
  | none => simp [hq] at hs
  | some i =>
    have hi : i.size = size := by simpa [hq] using hs
    simp [Builtin.copy_, run_underlying hu, Builtin.lenOf, Builtin.firstCells, sizeOf, typeInfo, hq, hi, hm, ← hn, hl, hst]
def putL (cur : Array Value) : Nat → List Value → Array Value
  | _, [] => cur
  | o, v :: r => putL (cur.setIfInBounds o v) (o + 1) r
theorem putL_size : ∀ (vs : List Value) (cur : Array Value) (o : Nat), (putL cur o vs).size = cur.size
  | [], _, _ => rfl
  | v :: r, cur, o => by rw [putL, putL_size r]; simp
theorem putL_list : ∀ (vs : List Value) (cur : Array Value) (o : Nat), o + vs.length ≤ cur.size → (putL cur o vs).toList = cur.toList.take o ++ vs ++ cur.toList.drop (o + vs.length)
  | [], cur, o, h => by simp [putL]
  | v :: r, cur, o, h => by
    have h1 : o < cur.size := by simp at h; omega
    rw [putL, putL_list r _ _ (by simp at h ⊢; omega)]
    simp only [Array.toList_setIfInBounds, List.length_cons]
    have e1 : (cur.toList.set o v).take (o + 1) = cur.toList.take o ++ [v] := by
      rw [List.take_succ_eq_append_getElem (by simpa using h1)]
      simp [List.take_set_of_le]
    rw [e1, List.drop_set_of_lt (by omega), show o + 1 + r.length = o + (r.length + 1) by omega]
    simp
theorem heap_setCells_at (g : Nat) (t : TypeId) : ∀ (vs : List Value) (o : Nat) (w : World) (cur : Array Value), w.heap[g]? = some (.cells cur t (0, 0)) → (w.setCells g o vs).heap[g]? = some (.cells (putL cur o vs) t (0, 0))
  | [], _, _, _, h => h
  | v :: r, o, w, cur, h => by
    rw [World.setCells, putL]
    exact heap_setCells_at g t r (o + 1) _ _ (Go.Joins.block_setCell h v)
theorem below_setCells_at {B g : Nat} (hB : B ≤ g) : ∀ (vs : List Value) (o : Nat) (a w : World), Below B a w → Below B a (w.setCells g o vs)
  | [], _, _, _, h => h
  | v :: r, o, a, w, h => by
    rw [World.setCells]
    exact below_setCells_at hB r (o + 1) a _ (h.setCell (p := ⟨g, o, none⟩) hB v)
theorem heap_new (w : World) (o : Obj) : (w.drew.alloc o).heap[w.heap.size]? = some o := by
  show (w.heap.push o)[w.heap.size]? = _
  exact Array.getElem?_push_size
theorem infoTx : (Tryd.prog.info? 26).map (fun i => (i.zero, i.size, i.bytes)) = some (some (.agg #[(.int .i64 0), (.int .i64 0), (.int .i64 0), (.int .i64 0)]), 4, 32) := by kernel_rfl
theorem sizeTx : (Tryd.prog.info? 26).map (·.size) = some 4 := by kernel_rfl
def zTx : Array Value := #[(.int .i64 0), (.int .i64 0), (.int .i64 0), (.int .i64 0)]
set_option maxHeartbeats 4000000 in
set_option maxRecDepth 100000 in
/-- At the end, there is room: in place. -/
theorem ins_end_room (g n c vb : Nat) (vs : List Value) (w : World) (hroom : n + 1 ≤ c) (hc63 : c ≤ 9223372036854775807)
    (hvl : vs.length = 4) (hsp : ∀ j, j < 4 → (w.cell? ⟨g, n * 4 + j, none⟩).isSome = true) (hfz : ∀ j, w.frozen? ⟨g, j, none⟩ = false)
    (hvs : ∀ j v, vs[j]? = some v → w.cell? ⟨vb, j, none⟩ = some v) (h1v : ∀ v ∈ vs, v.oneCell' = true) :
    Calls Tryd.prog 25 #[.slice (some ⟨g, 0, none⟩) n c, .int .i64 n, .slice (some ⟨vb, 0, none⟩) 1 1] w fun e w' =>
      e = .returned (.slice (some ⟨g, 0, none⟩) (n + 1) c) ∧ w' = w.setCells g (n * 4) vs := by
  obtain ⟨i0, hi0, hz0, hzs, hzb⟩ := info_parts infoTx
  have hsrc : Src Tryd.prog i0.size 24 (.slice (some ⟨vb, 0, none⟩) 1 1) 1 vs w := by
    rw [hzs]
    exact Src.ofSlice w Tryd.underlying24 ⟨vb, 0, none⟩ 1 1 vs (by omega) (fun j u hj => by rw [Addr.add_lit, Nat.zero_add]; exact hvs j u hj) h1v
  go_enter Tryd.func25, Tryd.ntmps25
  go_wp2_with (at_builtin; refine wpList_append_room_src _ rfl _ _ 24 24 rfl 26 i0 Tryd.underlying24 hi0 g 0 n c rfl _ rfl 1 vs hsrc hroom (by rw [hvl, hzs]; intro j hj; rw [Nat.zero_add]; exact hsp j hj) (by rw [hzs]; intro j _; exact hfz _) ?_)
  go_ret
  exact ⟨rfl, rfl⟩
set_option maxHeartbeats 4000000 in
set_option maxRecDepth 100000 in
/-- At the end, no room: a new row. -/
theorem ins_end_grow (base : Option Addr) (n c vb : Nat) (cs vs : List Value) (w : World) (hnc : n ≤ c) (hroom : c < n + 1) (hbig : (n + 1) * 32 ≤ 140737488355328)
    (hcl : cs.length = n * 4) (hvl : vs.length = 4) (hnil : base = none → n = 0)
    (hcs : ∀ a, base = some a → ∀ j v, cs[j]? = some v → w.cell? (a.add j) = some v)
    (hvs : ∀ j v, vs[j]? = some v → w.cell? ⟨vb, j, none⟩ = some v) (h1v : ∀ v ∈ vs, v.oneCell' = true) :
    Calls Tryd.prog 25 #[.slice base n c, .int .i64 n, .slice (some ⟨vb, 0, none⟩) 1 1] w fun e w' =>
      e = .returned (.slice (some ⟨w.heap.size, 0, none⟩) (n + 1) (grownCap w (n + 1) c 26)) ∧
      w' = w.drew.alloc (.cells ((cs ++ vs).toArray ++ Builtin.zeroCells zTx (grownCap w (n + 1) c 26 - (n + 1))) 26) := by
  obtain ⟨i0, hi0, hz0, hzs, hzb⟩ := info_parts infoTx
  have hsrc : Src Tryd.prog i0.size 24 (.slice (some ⟨vb, 0, none⟩) 1 1) 1 vs w := by
    rw [hzs]
    exact Src.ofSlice w Tryd.underlying24 ⟨vb, 0, none⟩ 1 1 vs (by omega) (fun j u hj => by rw [Addr.add_lit, Nat.zero_add]; exact hvs j u hj) h1v
  have hold : (Builtin.firstCells i0.size n (.slice base n c)).run Tryd.prog w.drew = .ok cs.toArray w.drew := by
    rw [hzs]
    cases base with
    | none =>
      have h0 := hnil rfl
      subst h0
      rw [List.length_eq_zero_iff.1 (hcl.trans (Nat.zero_mul _))]
      exact run_firstCells_none w.drew 4 0 0 c
    | some a => exact run_firstCells_some w.drew 4 n a n c cs (by omega) (fun j v hj => hcs a rfl j v hj)
  have hrun : ∀ ty, (Builtin.append_ #[24, 24] ty #[.slice base n c, .slice (some ⟨vb, 0, none⟩) 1 1]).run Tryd.prog w = _ := fun ty =>
    run_append_grow_src w 24 24 ty 26 i0 _ Tryd.underlying24 hi0 hz0 base n c cs hold _ 1 vs hsrc hroom (by omega) (by rw [hzb]; exact growslice_fits hroom hbig)
  go_enter Tryd.func25, Tryd.ntmps25
  cases base with
  | none =>
    have h0 := hnil rfl
    subst h0
    go_wp2_with (at_builtin; refine Lib.wpList_append_run _ rfl _ _ _ _ rfl _ _ rfl rfl _ _ (hrun _) ?_)
    go_ret
    exact ⟨rfl, rfl⟩
  | some a =>
    obtain ⟨ab, ao, asp⟩ := a
    go_wp2_with (at_builtin; refine Lib.wpList_append_run _ rfl _ _ _ _ rfl _ _ rfl rfl _ _ (hrun _) ?_)
    all_goals (go_ret; exact ⟨rfl, rfl⟩)
set_option maxHeartbeats 4000000 in
set_option maxRecDepth 100000 in
/-- Within, there is room: in place. -/
theorem ins_shift (g n c i vb : Nat) (cs vs : List Value) (w : World) (hi : i < n) (hroom : n + 1 ≤ c) (hc63 : c ≤ 9223372036854775807) (hvb : vb ≠ g)
    (hcl : cs.length = n * 4) (hvl : vs.length = 4)
    (hcs : ∀ j v, cs[j]? = some v → w.cell? ⟨g, j, none⟩ = some v) (hsp : ∀ j, j < (n + 1) * 4 → (w.cell? ⟨g, j, none⟩).isSome = true) (hfz : ∀ j, w.frozen? ⟨g, j, none⟩ = false)
    (hvs : ∀ j v, vs[j]? = some v → w.cell? ⟨vb, j, none⟩ = some v) (h1c : ∀ v ∈ cs, v.oneCell' = true) (h1v : ∀ v ∈ vs, v.oneCell' = true)
    (tA tB : TypeId) (kA kB : Nat) (hsa : w.shape? vb = some (tA, kA)) (hsb : w.shape? g = some (tB, kB)) (hkB : kB ≠ 0) (hfa : w.frozen? ⟨vb, 0, none⟩ = false) (hfe : w.frozen? ⟨vb, kA, none⟩ = false) :
    Calls Tryd.prog 25 #[.slice (some ⟨g, 0, none⟩) n c, .int .i64 i, .slice (some ⟨vb, 0, none⟩) 1 1] w fun e w' =>
      e = .returned (.slice (some ⟨g, 0, none⟩) (n + 1) c) ∧ w' = (w.drew.setCells g ((i + 1) * 4) (cs.drop (i * 4))).setCells g (i * 4) vs := by
  have hz2 : ¬ ((i : Int) = (n : Int)) := by omega
  have mixed : Tryd.prog.follows Departure.mixedOrders = true := by kernel_rfl
  have hov : ∀ lb cb, (callFunc 42 #[.slice (some ⟨vb, 0, none⟩) 1 1, .slice (some ⟨g, (i + 1) * 4, none⟩) lb cb]).run Tryd.prog w = .ok (.value (.bool false)) w := fun lb cb => by
    rw [run_callFunc_extern Tryd.func42 (by kernel_rfl) (by kernel_rfl) (by kernel_rfl) (e := Extern.SlicesOverlaps.overlaps #[24, 24] #[4]) (by kernel_rfl),
      Lib.run_overlaps_apart w 24 4 26 Tryd.underlying24 4 Tryd.sizeOf26 ⟨vb, 0, none⟩ ⟨g, (i + 1) * 4, none⟩ 1 1 lb cb hvb tA tB kA kB hsa hsb hkB hfa hfe]
    rfl
  have hdl : (cs.drop (i * 4)).length = (n - i) * 4 := by rw [List.length_drop, hcl]; omega
  have hw1 : IntKind.i64.wrap ((i : Int) + 1) = (i : Int) + 1 := by rw [IntKind.wrap_i64]; omega
  have hwn : IntKind.i64.wrap ((n : Int) + 1) = (n : Int) + 1 := by rw [IntKind.wrap_i64]; omega
  have hb1 : (0 : Int) ≤ (i : Int) + 1 := by omega
  have hin : i ≤ n := by omega
  have htn : ((i : Int) + 1).toNat = i + 1 := by omega
  have htn' : ((n : Int) + 1).toNat = n + 1 := by omega
  have hb2 : ¬ (c = i + 1) := by omega
  have hb3 : (i : Int) ≤ (n : Int) + 1 := by omega
  have hb4 : ¬ (c = i) := by omega
  have hcp1 : ∀ ty dc sc, (Builtin.copy_ #[24, 24] ty #[.slice (some ⟨g, (i + 1) * 4, none⟩) (n - i) dc, .slice (some ⟨g, i * 4, none⟩) (n + 1 - i) sc]).run Tryd.prog w.drew = .ok (goInt ((n - i : Nat) : Int)) (w.drew.setCells g ((i + 1) * 4) (cs.drop (i * 4))) := fun ty dc sc =>
    run_copy_K w.drew _ _ ty 26 g ((i + 1) * 4) (n - i) dc ⟨g, i * 4, none⟩ (n + 1 - i) sc (cs.drop (i * 4)) 4 (n - i) Tryd.underlying24 sizeTx (by simp only [Nat.min_def]; split <;> omega) hdl
      (fun j v hj => by rw [Addr.add_lit]; exact hcs (i * 4 + j) v (by rwa [List.getElem?_drop] at hj))
      (fun j hj => hsp _ (by omega)) (fun j hj => hfz _) (fun v hv => h1c v (List.mem_of_mem_drop hv))
  obtain ⟨W1, hW1⟩ : ∃ W1, W1 = w.drew.setCells g ((i + 1) * 4) (cs.drop (i * 4)) := ⟨_, rfl⟩
  have hsp1 : ∀ k, k < (n + 1) * 4 → (W1.cell? ⟨g, k, none⟩).isSome = true := fun k hk => by
    rw [hW1]
    exact isSome_setCells g _ _ _ (fun j hj => by exact hsp _ (by omega)) _ (hsp k hk)
  have hcp2 : ∀ (W : World), (∀ x, W.cell? x = W1.cell? x) → (∀ x, W.frozen? x = W1.frozen? x) → ∀ ty dc, (Builtin.copy_ #[24, 24] ty #[.slice (some ⟨g, i * 4, none⟩) (n + 1 - i) dc, .slice (some ⟨vb, 0, none⟩) 1 1]).run Tryd.prog W = .ok (goInt 1) (W.setCells g (i * 4) vs) := fun W hWc hWf ty dc =>
    run_copy_K W _ _ ty 26 g (i * 4) (n + 1 - i) dc ⟨vb, 0, none⟩ 1 1 vs 4 1 Tryd.underlying24 sizeTx (by simp only [Nat.min_def]; split <;> omega) (by omega)
      (fun j v hj => by
        rw [Addr.add_lit, hWc, hW1, World.cell?_setCells_out g _ _ _ _ (fun h _ => absurd h hvb), Nat.zero_add]
        exact hvs j v hj)
      (fun j hj => by rw [hWc]; exact hsp1 _ (by omega)) (fun j hj => by rw [hWf, hW1, World.frozen?_setCells]; exact hfz _) h1v
  rw [← hW1] at hcp1
  go_enter Tryd.func25, Tryd.ntmps25
  go_wp2_with (simp only [hov])
  go_region_law_o (refine step_copy_runI rfl _ _ 24 24 rfl _ _ (by simp [Act.eval, Act.put]) (by simp [Act.eval, Act.put]) (hcp1 _ _ _) ?_)
  go_wp2_with (at_builtin; refine wpList_copy_runI _ rfl _ _ 24 24 rfl _ _ rfl rfl (hcp2 _ (fun _ => rfl) (fun _ => rfl) _ _) ?_)
  go_ret
  first | exact ⟨rfl, rfl⟩ | exact ⟨rfl, by rw [hW1]⟩
set_option maxHeartbeats 4000000 in
set_option maxRecDepth 100000 in
/-- Within, no room: a new row. -/
theorem ins_grow (g n c i vb : Nat) (cs vs : List Value) (w : World) (hi : i < n) (hnc : n ≤ c) (hroom : c < n + 1) (hbig : (n + 1) * 32 ≤ 140737488355328)
    (hcl : cs.length = n * 4) (hvl : vs.length = 4)
    (hcs : ∀ j v, cs[j]? = some v → w.cell? ⟨g, j, none⟩ = some v)
    (hvs : ∀ j v, vs[j]? = some v → w.cell? ⟨vb, j, none⟩ = some v) (h1c : ∀ v ∈ cs, v.oneCell' = true) (h1v : ∀ v ∈ vs, v.oneCell' = true) :
    Calls Tryd.prog 25 #[.slice (some ⟨g, 0, none⟩) n c, .int .i64 i, .slice (some ⟨vb, 0, none⟩) 1 1] w fun e w' =>
      e = .returned (.slice (some ⟨w.heap.size, 0, none⟩) (n + 1) (grownCap w (n + 1) c 26)) ∧
      w' = (((w.alloc (.cells ((cs.take (i * 4)).toArray ++ Builtin.zeroCells zTx (n + 1 - i) ++ Builtin.zeroCells zTx (grownCap w (n + 1) c 26 - (n + 1))) 26)).drew.setCells w.heap.size (i * 4) vs).drew).setCells w.heap.size ((i + 1) * 4) (cs.drop (i * 4)) := by
  obtain ⟨i0, hi0, hz0, hzs, hzb⟩ := info_parts infoTx
  have hz2 : ¬ ((i : Int) = (n : Int)) := by omega
  have mixed : Tryd.prog.follows Departure.mixedOrders = true := by kernel_rfl
  have hz3 : (c : Int) < (n : Int) + 1 := by omega
  have hbw : g < w.heap.size := block_lt_of_cell (hcs 0 _ (List.getElem?_eq_getElem (by omega)))
  have hvw : vb < w.heap.size := block_lt_of_cell (hvs 0 _ (List.getElem?_eq_getElem (by omega)))
  have hkk : (n : Int) + 1 - (i : Int) = ((n + 1 - i : Nat) : Int) := by omega
  have hik : i + (n + 1 - i) = n + 1 := by omega
  have hold : (Builtin.firstCells i0.size i (.slice (some ⟨g, 0, none⟩) i c)).run Tryd.prog w.drew = .ok (cs.take (i * 4)).toArray w.drew := by
    rw [hzs]
    exact run_firstCells_some w.drew 4 i ⟨g, 0, none⟩ i c (cs.take (i * 4)) (by rw [List.length_take]; omega) (fun j v hj => by
      rw [Addr.add_lit, Nat.zero_add]
      rw [List.getElem?_take] at hj
      split at hj
      · exact hcs j v hj
      · cases hj)
  have hrz : ∀ ty, (Builtin.append_ #[24, 3] ty #[.slice (some ⟨g, 0, none⟩) i c, .int .i64 ((n : Int) + 1 - (i : Int))]).run Tryd.prog w =
      .ok (.slice (some ⟨w.heap.size, 0, none⟩) (n + 1) (grownCap w (n + 1) c 26)) (w.drew.alloc (.cells ((cs.take (i * 4)).toArray ++ Builtin.zeroCells zTx (n + 1 - i) ++ Builtin.zeroCells zTx (grownCap w (n + 1) c 26 - (n + 1))) 26)) := fun ty => by
    have h := Lib.run_append_grow_zeros w 24 3 ty 26 i0 _ .i64 .i64 Tryd.underlying24 Tryd.underlying3 hi0 hz0 (some ⟨g, 0, none⟩) i c (cs.take (i * 4)) hold (n + 1 - i) (by omega) (by omega) (by omega) (by omega) (by rw [hzb]; omega) (by rw [hzb, hik]; exact growslice_fits hroom hbig)
    rw [hik] at h
    rw [hkk]
    exact h
  obtain ⟨G, hG⟩ : ∃ G, G = grownCap w (n + 1) c 26 := ⟨_, rfl⟩
  obtain ⟨ROW, hROW⟩ : ∃ ROW : Array Value, ROW = (cs.take (i * 4)).toArray ++ Builtin.zeroCells zTx (n + 1 - i) ++ Builtin.zeroCells zTx (G - (n + 1)) := ⟨_, rfl⟩
  rw [← hG] at hrz ⊢
  rw [← hROW] at hrz ⊢
  have hRl : (n + 1) * 4 ≤ ROW.size := by
    rw [hROW]
    simp [Builtin.zeroCells, zTx]
    omega
  obtain ⟨W1, hW1⟩ : ∃ W1, W1 = w.drew.alloc (.cells ROW 26) := ⟨_, rfl⟩
  rw [← hW1] at hrz
  have hN : ∀ j, j < (n + 1) * 4 → (W1.cell? ⟨w.heap.size, j, none⟩).isSome = true := fun j hj => by
    rw [hW1, World.cell?_alloc_at (w := w.drew) ROW _ w.heap.size j rfl, Array.getElem?_eq_getElem (by omega)]; rfl
  have hNf : ∀ j, W1.frozen? ⟨w.heap.size, j, none⟩ = false := fun j => by rw [hW1]; exact World.frozen?_alloc_at (w := w.drew) ROW _ w.heap.size j rfl
  have hOb : ∀ j v, w.cell? ⟨g, j, none⟩ = some v → W1.cell? ⟨g, j, none⟩ = some v := fun j v h => by rw [hW1, World.cell?_alloc_past (w := w.drew) _ g j hbw]; exact h
  have hOv : ∀ j v, w.cell? ⟨vb, j, none⟩ = some v → W1.cell? ⟨vb, j, none⟩ = some v := fun j v h => by rw [hW1, World.cell?_alloc_past (w := w.drew) _ vb j hvw]; exact h
  have hcpA : ∀ (W : World), (∀ x, W.cell? x = W1.cell? x) → (∀ x, W.frozen? x = W1.frozen? x) → ∀ ty dc, (Builtin.copy_ #[24, 24] ty #[.slice (some ⟨w.heap.size, i * 4, none⟩) (n + 1 - i) dc, .slice (some ⟨vb, 0, none⟩) 1 1]).run Tryd.prog W = .ok (goInt 1) (W.setCells w.heap.size (i * 4) vs) := fun W hWc hWf ty dc =>
    run_copy_K W _ _ ty 26 w.heap.size (i * 4) (n + 1 - i) dc ⟨vb, 0, none⟩ 1 1 vs 4 1 Tryd.underlying24 sizeTx (by simp only [Nat.min_def]; split <;> omega) (by omega)
      (fun j v hj => by rw [Addr.add_lit, hWc, Nat.zero_add]; exact hOv _ v (hvs j v hj))
      (fun j hj => by rw [hWc]; exact hN _ (by omega)) (fun j hj => by rw [hWf]; exact hNf _) h1v
  have hGn : n + 1 ≤ G := by rw [hG]; exact grownCap_ge w _ _ _
  have hG63 : G ≤ 9223372036854775807 := by
    have := grownCap_le_maxLen w (n + 1) c 26 (by unfold maxLen; omega)
    rw [← hG] at this
    unfold maxLen at this
    omega
  have hGi : ¬ (G = i) := by omega
  have hGim : ¬ (G = i + 1) := by omega
  have hci : ¬ (c = i) := by omega
  have hbN : g ≠ w.heap.size := by omega
  have hdl : (cs.drop (i * 4)).length = (n - i) * 4 := by rw [List.length_drop, hcl]; omega
  have hcpB : ∀ (W : World), (∀ x, W.cell? x = (W1.setCells w.heap.size (i * 4) vs).cell? x) → (∀ x, W.frozen? x = (W1.setCells w.heap.size (i * 4) vs).frozen? x) → ∀ ty dc sc, (Builtin.copy_ #[24, 24] ty #[.slice (some ⟨w.heap.size, (i + 1) * 4, none⟩) (n - i) dc, .slice (some ⟨g, i * 4, none⟩) (n - i) sc]).run Tryd.prog W = .ok (goInt ((n - i : Nat) : Int)) (W.setCells w.heap.size ((i + 1) * 4) (cs.drop (i * 4))) := fun W hWc hWf ty dc sc =>
    run_copy_K W _ _ ty 26 w.heap.size ((i + 1) * 4) (n - i) dc ⟨g, i * 4, none⟩ (n - i) sc (cs.drop (i * 4)) 4 (n - i) Tryd.underlying24 sizeTx (by simp only [Nat.min_def]; split <;> omega) hdl
      (fun j v hj => by
        rw [Addr.add_lit, hWc, World.cell?_setCells_out _ _ _ _ _ (fun h _ => absurd h hbN)]
        exact hOb _ v (hcs (i * 4 + j) v (by rwa [List.getElem?_drop] at hj)))
      (fun j hj => by rw [hWc]; exact isSome_setCells _ _ _ _ (fun t ht => hN _ (by omega)) _ (hN _ (by omega)))
      (fun j hj => by rw [hWf, World.frozen?_setCells]; exact hNf _) (fun v hv => h1c v (List.mem_of_mem_drop hv))
  subst hW1
  have hE1 : ∀ x, ((w.alloc (.cells ROW 26)).drew).cell? x = (w.drew.alloc (.cells ROW 26)).cell? x := fun x => rfl
  have hE2 : ∀ x, ((w.alloc (.cells ROW 26)).drew).frozen? x = (w.drew.alloc (.cells ROW 26)).frozen? x := fun x => rfl
  have hF1 : ∀ x, (((w.alloc (.cells ROW 26)).drew.setCells w.heap.size (i * 4) vs).drew).cell? x = ((w.drew.alloc (.cells ROW 26)).setCells w.heap.size (i * 4) vs).cell? x := fun x => rfl
  have hF2 : ∀ x, (((w.alloc (.cells ROW 26)).drew.setCells w.heap.size (i * 4) vs).drew).frozen? x = ((w.drew.alloc (.cells ROW 26)).setCells w.heap.size (i * 4) vs).frozen? x := fun x => rfl
  have hw1 : IntKind.i64.wrap ((i : Int) + 1) = (i : Int) + 1 := by rw [IntKind.wrap_i64]; omega
  have hwn : IntKind.i64.wrap ((n : Int) + 1) = (n : Int) + 1 := by rw [IntKind.wrap_i64]; omega
  have hb1 : (0 : Int) ≤ (i : Int) + 1 := by omega
  have hin : i ≤ n := by omega
  have htn : ((i : Int) + 1).toNat = i + 1 := by omega
  have hb3 : (i : Int) ≤ (n : Int) := by omega
  clear hkk hik hold hROW hG hRl
  go_enter Tryd.func25, Tryd.ntmps25
  go_wp2_with (first
    | (at_builtin; refine Lib.wpList_append_run _ rfl _ _ _ _ rfl _ _ rfl rfl _ _ (hrz _) ?_)
    | (at_builtin; refine wpList_copy_runI _ rfl _ _ 24 24 rfl _ _ rfl rfl (hcpA _ hE1 hE2 _ _) ?_)
    | (at_builtin; refine wpList_copy_runI _ rfl _ _ 24 24 rfl _ _ rfl rfl (hcpB _ (fun _ => rfl) (fun _ => rfl) _ _ _) ?_))
  go_region_law_o (refine step_copy_runI rfl _ _ 24 24 rfl (.slice (some ⟨w.heap.size, (i + 1) * 4, none⟩) (n - i) (G - (i + 1))) (.slice (some ⟨g, i * 4, none⟩) (n - i) (c - i)) (by simp [Act.eval, Act.put]) (by simp [Act.eval, Act.put]) (hcpB _ hF1 hF2 3 (G - (i + 1)) (c - i)) ?_)
  go_wp2
  go_ret
  exact ⟨rfl, rfl⟩
-- included insert_own_tx.inc
theorem reps_take {α : Type} {R : α → List Value → Prop} {size : Nat} {ps : List α} {cs : List Value} (h : Reps R size ps cs) {m : Nat} (hm : m ≤ ps.length) : Reps R size (ps.take m) (cs.take (m * size)) := by
  have hml : m * size ≤ cs.length := by rw [h.1]; exact Nat.mul_le_mul_right _ hm
  refine ⟨by rw [List.length_take, List.length_take, Nat.min_eq_left hml, Nat.min_eq_left hm], fun j p hj => ?_⟩
  rw [List.getElem?_take] at hj
  split at hj
  · rename_i hjm
    have h2 := h.2 j p hj
    have h3 : j * size + size ≤ m * size := by rw [← Nat.succ_mul]; exact Nat.mul_le_mul_right _ hjm
    rw [List.drop_take, List.take_take, Nat.min_eq_left (by omega)]
    exact h2
  · cases hj
theorem reps_drop {α : Type} {R : α → List Value → Prop} {size : Nat} {ps : List α} {cs : List Value} (h : Reps R size ps cs) (m : Nat) : Reps R size (ps.drop m) (cs.drop (m * size)) := by
  refine ⟨by rw [List.length_drop, List.length_drop, h.1, Nat.sub_mul], fun j p hj => ?_⟩
  rw [List.getElem?_drop] at hj
  rw [List.drop_drop, ← Nat.add_mul]
  exact h.2 _ p hj
theorem reps_ins {α : Type} {R : α → List Value → Prop} {size : Nat} {ps : List α} {cs c : List Value} {p : α} (h : Reps R size ps cs) {m : Nat} (hm : m ≤ ps.length) (hp : R p c) (hc : c.length = size) : Reps R size (ps.take m ++ p :: ps.drop m) (cs.take (m * size) ++ c ++ cs.drop (m * size)) := by
  have h1 := Kd.reps_append ((reps_take h hm).snoc hp hc) (reps_drop h m)
  rw [List.append_assoc, List.singleton_append] at h1
  exact h1
theorem take_put {cur cs vs : List Value} {n i : Nat} (hc : cur.take (n * 4) = cs) (hl : cs.length = n * 4) (hv : vs.length = 4) (hi : i ≤ n) (hs : (n + 1) * 4 ≤ cur.length) :
    (((cur.take ((i + 1) * 4) ++ cs.drop (i * 4) ++ cur.drop ((i + 1) * 4 + (cs.drop (i * 4)).length)).take (i * 4) ++ vs ++ (cur.take ((i + 1) * 4) ++ cs.drop (i * 4) ++ cur.drop ((i + 1) * 4 + (cs.drop (i * 4)).length)).drop (i * 4 + vs.length)).take ((n + 1) * 4)) = cs.take (i * 4) ++ vs ++ cs.drop (i * 4) := by
  have hd : (cs.drop (i * 4)).length = (n - i) * 4 := by rw [List.length_drop, hl]; omega
  have l1 : (cur.take ((i + 1) * 4)).length = (i + 1) * 4 := by rw [List.length_take]; omega
  have e1 : cur.take (i * 4) = cs.take (i * 4) := by rw [← hc, List.take_take, Nat.min_eq_left (by omega)]
  have e2 : (cur.take ((i + 1) * 4) ++ cs.drop (i * 4) ++ cur.drop ((i + 1) * 4 + (cs.drop (i * 4)).length)).take (i * 4) = cs.take (i * 4) := by
    rw [List.append_assoc, List.take_append_of_le_length (by omega), List.take_take, Nat.min_eq_left (by omega), e1]
  have e3 : (cur.take ((i + 1) * 4) ++ cs.drop (i * 4) ++ cur.drop ((i + 1) * 4 + (cs.drop (i * 4)).length)).drop (i * 4 + vs.length) = cs.drop (i * 4) ++ cur.drop ((i + 1) * 4 + (cs.drop (i * 4)).length) := by
    rw [List.append_assoc, hv, List.drop_append_of_le_length (by omega), List.drop_of_length_le (by omega), List.nil_append]
  rw [e2, e3, ← List.append_assoc]
  have l2 : (cs.take (i * 4) ++ vs ++ cs.drop (i * 4)).length = (n + 1) * 4 := by
    rw [List.length_append, List.length_append, List.length_take, hd, hv]; omega
  rw [List.take_append_of_le_length (by omega), List.take_of_length_le (by omega)]
set_option maxHeartbeats 4000000 in
/-- slices.Insert(s, i, x), s a row of the call's own, x in a block of its own: a row that holds the elements with x at place i; what lay below the base stays. -/
theorem insert_tx (B : Nat) (W : World) (v : Value) (n : Nat) (cs vs : List Value) (i vb : Nat) (hown : W.ownsRow B 26 4 v n cs) (hi : i ≤ n) (hvb : W.heap[vb]? = some (.cells vs.toArray 26 (0, 0))) (hvl : vs.length = 4) (h1v : ∀ u ∈ vs, u.oneCell' = true) (h1c : ∀ u ∈ cs, u.oneCell' = true)
    (hne : v.ownBlock ≠ some vb) (hB : B ≤ W.heap.size) (hbig : n + 1 ≤ 4398046511104) :
    Calls Tryd.prog 25 #[v, .int .i64 i, .slice (some ⟨vb, 0, none⟩) 1 1] W fun e w' => ∃ v', e = .returned v' ∧ w'.ownsRow B 26 4 v' (n + 1) (cs.take (i * 4) ++ vs ++ cs.drop (i * 4)) ∧ Below B W w' := by
  have hvs : ∀ j (u : Value), vs[j]? = some u → W.cell? ⟨vb, j, none⟩ = some u := fun j u hj => by
    rw [Go.Joins.cell_of_block hvb]
    simpa using hj
  have hlenR : cs.length = n * 4 → (cs.take (i * 4) ++ vs ++ cs.drop (i * 4)).length = (n + 1) * 4 := fun h => by
    rw [List.length_append, List.length_append, List.length_take, List.length_drop, h, hvl]; omega
  obtain ⟨hlen, hv⟩ := hown
  have hzs : zTx.size = 4 := rfl
  have hzc : ∀ q : Nat, (Builtin.zeroCells zTx q).size = q * 4 := fun q => by rw [size_zeroCells, hzs]
  rcases hv with ⟨rfl, hn⟩ | ⟨g, cap, cur, rfl, hg, hh, hnc, hcm, hcs, htk⟩
  · obtain rfl : n = 0 := hn
    obtain rfl : i = 0 := by omega
    have hc0 : cs = [] := List.length_eq_zero_iff.1 (by omega)
    subst hc0
    refine (ins_end_grow none 0 0 vb [] vs W (by omega) (by omega) (by omega) rfl hvl (fun _ => rfl) (fun _ h => by cases h) hvs h1v).mono ?_
    rintro e w' ⟨rfl, rfl⟩
    have hge := grownCap_ge W 1 0 26
    have hle := grownCap_le_maxLen W 1 0 26 (by unfold maxLen; omega)
    refine ⟨_, rfl, ⟨by simp [hvl], .inr ⟨_, _, _, rfl, hB, heap_new W _, hge, hle, ?_, ?_⟩⟩, ((Below.refl _ _).drew).alloc (by simpa using hB) _⟩
    · rw [Array.size_append, hzc]; simp [hvl]; omega
    · rw [Array.toList_append, List.take_append_of_le_length (by simp [hvl]), List.take_of_length_le (by simp [hvl])]; simp
  · have hcl : ∀ j u, cs[j]? = some u → W.cell? ⟨g, j, none⟩ = some u := by
      intro j u hj
      rw [Go.Joins.cell_of_block hh]
      rw [← htk] at hj
      rw [List.getElem?_take] at hj
      split at hj
      · simpa using hj
      · cases hj
    have hsome : ∀ j, j < cap * 4 → (W.cell? ⟨g, j, none⟩).isSome = true := by
      intro j hj
      rw [Go.Joins.cell_of_block hh]
      simp [hcs, hj]
    have hfz : ∀ j, W.frozen? ⟨g, j, none⟩ = false := fun j => Go.Joins.unfrozen_of_block hh j
    have hgv : vb ≠ g := by
      rintro rfl
      exact hne rfl
    have hcsz : cur.toList.length = cap * 4 := by rw [Array.length_toList, hcs]
    have hl0 : cs.length = n * 4 := hlen
    have hcm' : cap ≤ 9223372036854775807 := by unfold maxLen at hcm; omega
    by_cases hin : i = n
    · subst hin
      have t1 : cs.take (i * 4) = cs := List.take_of_length_le (by omega)
      have d1 : cs.drop (i * 4) = [] := List.drop_of_length_le (by omega)
      by_cases hroom : i + 1 ≤ cap
      · refine (ins_end_room g i cap vb vs W hroom hcm' hvl (fun j hj => hsome _ (by omega)) hfz hvs h1v).mono ?_
        rintro e w' ⟨rfl, rfl⟩
        refine ⟨_, rfl, ⟨hlenR hl0, .inr ⟨g, cap, _, rfl, hg, heap_setCells_at g 26 _ _ _ _ hh, hroom, hcm, by rw [putL_size]; exact hcs, ?_⟩⟩, below_setCells_at hg _ _ _ _ (Below.refl _ _)⟩
        rw [putL_list _ _ _ (by rw [← Array.length_toList, hcsz, hvl]; omega), htk, t1, d1, List.append_nil]
        rw [List.take_append_of_le_length (by rw [List.length_append, hl0, hvl]; omega), List.take_of_length_le (by rw [List.length_append, hl0, hvl]; omega)]
      · have hce : cap = i := by omega
        subst hce
        refine (ins_end_grow (some ⟨g, 0, none⟩) cap cap vb cs vs W (by omega) (by omega) (by omega) hl0 hvl (fun h => by cases h) (fun a h j u hj => by
          obtain rfl := Option.some.inj h
          have := hcl j u hj
          rw [add_plain]; exact this) hvs h1v).mono ?_
        rintro e w' ⟨rfl, rfl⟩
        have hge := grownCap_ge W (cap + 1) cap 26
        have hle := grownCap_le_maxLen W (cap + 1) cap 26 (by unfold maxLen; omega)
        refine ⟨_, rfl, ⟨hlenR hl0, .inr ⟨_, _, _, rfl, hB, heap_new W _, hge, hle, ?_, ?_⟩⟩, ((Below.refl _ _).drew).alloc (by simpa using hB) _⟩
        · rw [Array.size_append, hzc]; simp [hvl, hl0]; omega
        · rw [t1, d1, List.append_nil, Array.toList_append, List.take_append_of_le_length (by simp [hvl, hl0]; omega), List.take_of_length_le (by simp [hvl, hl0]; omega)]
    · have hlt : i < n := by omega
      have hd : (cs.drop (i * 4)).length = (n - i) * 4 := by rw [List.length_drop, hl0]; omega
      by_cases hroom : n + 1 ≤ cap
      · refine (ins_shift g n cap i vb cs vs W hlt hroom hcm' hgv hl0 hvl hcl (fun j hj => hsome j (by omega)) hfz hvs h1c h1v
          26 26 4 (cap * 4) (by simp [World.shape?, hvb, hvl]) (by simp [World.shape?, hh, hcs]) (by omega) (Go.Joins.unfrozen_of_block hvb _) (Go.Joins.unfrozen_of_block hvb _)).mono ?_
        rintro e w' ⟨rfl, rfl⟩
        have hh' : W.drew.heap[g]? = some (.cells cur 26 (0, 0)) := hh
        refine ⟨_, rfl, ⟨hlenR hl0, .inr ⟨g, cap, _, rfl, hg, heap_setCells_at g 26 _ _ _ _ (heap_setCells_at g 26 _ _ _ _ hh'), hroom, hcm, by rw [putL_size, putL_size]; exact hcs, ?_⟩⟩, below_setCells_at hg _ _ _ _ (below_setCells_at hg _ _ _ _ (Below.refl _ _).drew)⟩
        rw [putL_list _ _ _ (by rw [putL_size, ← Array.length_toList, hcsz, hvl]; omega), putL_list _ _ _ (by rw [← Array.length_toList, hcsz, hd]; omega)]
        exact take_put htk hl0 hvl hi (by rw [hcsz]; omega)
      · refine (ins_grow g n cap i vb cs vs W hlt hnc (by omega) (by omega) hl0 hvl hcl hvs h1c h1v).mono ?_
        rintro e w' ⟨rfl, rfl⟩
        have hge := grownCap_ge W (n + 1) cap 26
        have hle := grownCap_le_maxLen W (n + 1) cap 26 (by unfold maxLen; omega)
        generalize hgc : grownCap W (n + 1) cap 26 = gc at hge hle
        have l3 : (cs.take (i * 4)).length = i * 4 := by rw [List.length_take, hl0]; omega
        obtain ⟨ROW, hROW⟩ : ∃ ROW : Array Value, ROW = (cs.take (i * 4)).toArray ++ Builtin.zeroCells zTx (n + 1 - i) ++ Builtin.zeroCells zTx (gc - (n + 1)) := ⟨_, rfl⟩
        have hRs : ROW.size = gc * 4 := by rw [hROW, Array.size_append, Array.size_append, hzc, hzc, List.size_toArray, l3]; omega
        have hRt : ROW.toList.take (i * 4) = cs.take (i * 4) := by
          rw [hROW, Array.toList_append, Array.toList_append, List.append_assoc, List.take_append_of_le_length (by simp [l3]), List.take_of_length_le (by simp [l3])]
        have hH : ((W.alloc (.cells ROW 26)).drew).heap[W.heap.size]? = some (.cells ROW 26 (0, 0)) := by
          show (W.heap.push _)[W.heap.size]? = _
          exact Array.getElem?_push_size
        refine ⟨_, rfl, ⟨hlenR hl0, .inr ⟨W.heap.size, gc, _, rfl, hB, by rw [← hROW]; exact heap_setCells_at _ 26 _ _ _ _ (heap_setCells_at _ 26 _ _ _ _ hH), hge, hle, ?_, ?_⟩⟩, below_setCells_at hB _ _ _ _ ((below_setCells_at hB _ _ _ _ ((Below.refl _ _).alloc hB _).drew).drew)⟩
        · rw [putL_size, putL_size, hRs]
        · rw [putL_list _ _ _ (by rw [putL_size, hRs, hd]; omega), putL_list _ _ _ (by rw [hRs, hvl]; omega), hRt]
          have l4 : (cs.take (i * 4) ++ vs ++ ROW.toList.drop (i * 4 + vs.length)).take ((i + 1) * 4) = cs.take (i * 4) ++ vs := by
            rw [List.take_append_of_le_length (by rw [List.length_append, l3, hvl]; omega), List.take_of_length_le (by rw [List.length_append, l3, hvl]; omega)]
          rw [l4, List.take_append_of_le_length (by rw [List.length_append, List.length_append, l3, hvl, hd]; omega), List.take_of_length_le (by rw [List.length_append, List.length_append, l3, hvl, hd]; omega)]
-- included index_tx.inc
def encT (x : S26) : List Value := [.int .i64 x.f0, .int .i64 x.f1, .int .i64 x.f2, .int .i64 x.f3]
def befB (x y : S26) : Bool := decide (x.f0 < y.f0) || (decide (x.f0 = y.f0) && decide (x.f3 < y.f3))
theorem befB_f (x y : S26) : impl_beforeTx.f x.f0 x.f1 x.f2 x.f3 y.f0 y.f1 y.f2 y.f3 = some (befB x y) := by
  unfold impl_beforeTx.f befB
  by_cases h : x.f0 < y.f0
  · rw [if_pos h]; simp [h]
  · rw [if_neg h]
    by_cases h2 : x.f0 = y.f0
    · rw [if_pos h2]; simp [h2]
    · rw [if_neg h2]; simp [h, h2]
def firstT (l : List S26) (x : S26) : Nat := l.findIdx (befB x)
def retT (l : List S26) (x : S26) : Int := if firstT l x < l.length then (firstT l x : Int) else -1
theorem retT_hit (l : List S26) (x : S26) (j : Nat) (hj : j < l.length) (h : befB x l[j] = true) (hb : ∀ i (hi : i < j), befB x l[i] = false) : retT l x = (j : Int) := by
  have e : firstT l x = j := by
    unfold firstT
    rw [List.findIdx_eq hj]
    exact ⟨h, fun i hi => hb i hi⟩
  unfold retT
  rw [e, if_pos hj]
theorem retT_none (l : List S26) (x : S26) (hb : ∀ i (hi : i < l.length), befB x l[i] = false) : retT l x = -1 := by
  unfold retT firstT
  rw [if_neg]
  rw [List.findIdx_lt_length]
  rintro ⟨y, hy, hp⟩
  obtain ⟨i, hi, rfl⟩ := List.getElem_of_mem hy
  rw [hb i hi] at hp
  cases hp
section
open Go.Proofs.YtnlakfbbbnkcpaaDoorH
local instance i7_1 : AggT Tryd.prog 26 4 := ⟨by kernel_rfl, by kernel_rfl⟩
theorem ev_loadB {P : Program} {ops : Array Oper} {rest : List Oper} {o : Oper} {a : Act} {Q : Exit → Act → World → Prop} {W : World} {t t' : TypeId} {x : Operand} {g n : Nat} {cs : Array Value} (hb : W.heap[g]? = some (.cells cs t' (0, 0))) (ho : o.op = .load t x) (hw : Region.wanted o (yielded ops a.tmps) = true) (hx : a.eval x = .pointer (some ⟨g, 0, none⟩)) [hA : AggT P t n] (hn : cs.size = n)
    (h : wpList P ops Q rest (a.put o.dst (.agg cs)) W) : wpList P ops Q (o :: rest) a W := by
  refine ev_val hw ?_ h
  obtain ⟨d, hu, hd⟩ := Option.map_eq_some_iff.1 hA.agg
  unfold execOp
  simp only [ho, hx, Instr.loadAt, Instr.sureAddr, Sem.run_bind, Sem.run_pure, Result.andThen_ok, run_loadVar_row W g t' t cs (0, 0) d hb hu (by cases d <;> first | rfl | (exact hd)) (by rw [hA.size, hn])]
set_option maxHeartbeats 1000000 in
theorem pred_tx (x y : S26) (b : Nat) (W : World) (hb : Aside0 (W.heap[b]? = some (.cells #[.int .i64 x.f0, .int .i64 x.f1, .int .i64 x.f2, .int .i64 x.f3] 26 (0, 0)))) :
    Calls Tryd.prog 23 #[.agg #[.int .i64 y.f0, .int .i64 y.f1, .int .i64 y.f2, .int .i64 y.f3], .pointer (some ⟨b, 0, none⟩)] W fun e w' => e = .returned (.bool (befB x y)) ∧ Below W.heap.size W w' := by
  have HF := Aside0.mk (befB_f x y)
  have HS := SS.nil W
  go_enter Tryd.func23, Tryd.ntmps23
  go_wp2_with (first | ((with_reducible refine gate_dst (N := 2) rfl ?_); refine ev_box HS (cs := #[.int .i64 y.f0, .int .i64 y.f1, .int .i64 y.f2, .int .i64 y.f3]) rfl rfl rfl ?_; clear HS; intro g2 w1 HS) | ((with_reducible refine gate_dst (N := 4) rfl ?_); refine ev_loadB ((HS.below.block b (blk_lt hb.out)).trans hb.out) rfl rfl rfl (by rfl) ?_) | ((with_reducible refine gate_dst (N := 5) rfl ?_); refine ev_loadS HS rfl rfl rfl (by rfl) ?_) | ((with_reducible refine gate_dst (N := 6) rfl ?_); refine ev_call (some 6) rfl rfl Tryd.func24 (by kernel_rfl) rfl rfl (by simp only [List.map_toArray, List.map_cons, List.map_nil]; rfl) ?_; refine (HS.val (impl_beforeTx.calls (w := _) (h := HF.out))).mono ?_; clear HS; rintro e w1 ⟨rfl, HS⟩; refine ⟨_, rfl, ?_⟩))
  go_ret
  exact ⟨rfl, HS.below⟩
set_option maxHeartbeats 1000000 in
theorem indexFunc_tx (A : Option Addr) (c : Nat) (l : List S26) (x : S26) (b : Nat) (w : World) (hr : Kd.C k26 w A l.length l) (hl : l.length < 4611686018427387904) (hb : w.heap[b]? = some (.cells #[.int .i64 x.f0, .int .i64 x.f1, .int .i64 x.f2, .int .i64 x.f3] 26 (0, 0))) :
    Calls Tryd.prog 22 #[.slice A l.length c, .func (.func 23) #[] #[.pointer (some ⟨b, 0, none⟩)]] w fun e w' => e = .returned (.int .i64 (retT l x)) ∧ Below w.heap.size w w' := by
  have HR := Aside0.mk hr
  have HX := Aside0.mk hb
  clear hr hb
  obtain ⟨n, hn⟩ : ∃ n, n = l.length := ⟨_, rfl⟩
  have HN := Aside0.mk hn
  rw [← hn] at hl ⊢
  clear hn
  go_enter Tryd.func22, Tryd.ntmps22
  go_wp2
  go_loopg [5, 8] n (fun gg _ s8 wr => ∃ kk : Nat, kk ≤ n ∧ n - kk ≤ gg ∧ s8 = .int .i64 kk ∧ Aside0 (Below w.heap.size w wr) ∧ Aside0 (∀ i (hi : i < kk) (h2 : i < l.length), befB x l[i] = false))
  case atStart => exact ⟨0, Nat.zero_le _, by omega, rfl, ⟨Below.refl _ w⟩, ⟨fun i hi => absurd hi (Nat.not_lt_zero _)⟩⟩
  case round =>
    obtain ⟨kk, hkk, hg, rfl, BW, HB⟩ := hrel
    by_cases hlt : kk < n
    · have hlt2 : kk < l.length := by rw [← HN.out]; exact hlt
      obtain ⟨ad, rfl, h0, h1, h2, h3⟩ := at_T26 (Kd.C_below HR.out BW.out) (kk : Int) (by omega) (by omega)
      have hy : rd_T26 l (kk : Int) = l[kk] := by unfold rd_T26; simp [List.getD_eq_getElem?_getD, hlt2]
      rw [hy] at h0 h1 h2 h3
      rw [Int.toNat_natCast] at h0 h1 h2 h3
      clear hy
      have HC := Aside0.mk (pred_tx x l[kk] b wr ⟨(BW.out.block b (blk_lt HX.out)).trans HX.out⟩)
      have HR1 := Aside0.mk (fun (e : befB x l[kk] = true) => retT_hit l x kk hlt2 e (fun i hi => HB.out i hi (by omega)))
      have HR2 : Aside0 (befB x l[kk] = false → ∀ i (hi : i < kk + 1) (h2 : i < l.length), befB x l[i] = false) := ⟨fun e i hi h2 => by
        rcases Nat.lt_or_ge i kk with h | h
        · exact HB.out i h h2
        · obtain rfl : i = kk := by omega
          exact e⟩
      generalize l[kk] = y at h0 h1 h2 h3 HC HR1 HR2
      clear hlt2 HB
      go_wp2_with fail
      (with_reducible refine HC.out.mono ?_)
      cases hq : befB x y with
      | true =>
        rintro e w' ⟨rfl, hb'⟩
        go_wp2_with fail
        go_ret
        exact ⟨by rw [HR1.out hq]; rfl, below_then BW.out BW.out.size hb'⟩
      | false =>
        rintro e w' ⟨rfl, hb'⟩
        go_wp2_with fail
        go_roundg (n - (kk + 1))
        case measure => omega
        case rel => exact ⟨kk + 1, by omega, by omega, by go_num, ⟨below_then BW.out BW.out.size hb'⟩, ⟨HR2.out hq⟩⟩
    · have HE := Aside0.mk (retT_none l x (fun i hi => HB.out i (by have := HN.out; omega) hi))
      go_wp2
      go_ret
      exact ⟨by rw [HE.out]; rfl, BW.out⟩
theorem reps_all {R : S26 → List Value → Prop} {ps : List S26} {cs : List Value} (h : Reps R 4 ps cs) (hR : ∀ p c, R p c → ∀ u ∈ c, u.oneCell' = true) : ∀ u ∈ cs, u.oneCell' = true := by
  intro u hu
  obtain ⟨j, hj, rfl⟩ := List.getElem_of_mem hu
  have hl := h.1
  have hq : j / 4 < ps.length := by omega
  refine hR _ _ (h.2 (j / 4) _ (List.getElem?_eq_getElem hq)) _ (List.mem_iff_getElem?.2 ⟨j % 4, ?_⟩)
  rw [List.getElem?_take_of_lt (by omega), List.getElem?_drop, show j / 4 * 4 + j % 4 = j by omega, List.getElem?_eq_getElem hj]
theorem insert_SS {w0 w : World} {L : List Pc} {g c : Nat} {A : Option Addr} {xs : List S26} {x : S26} {i : Nat} (HS : SS w0 w (box g #[.int .i64 x.f0, .int .i64 x.f1, .int .i64 x.f2, .int .i64 x.f3] 26 :: row k26 26 (.slice A xs.length c) xs :: L)) (hi : i ≤ xs.length) (hbig : xs.length + 1 ≤ 4398046511104) :
    Calls Tryd.prog 25 #[.slice A xs.length c, .int .i64 i, .slice (some ⟨g, 0, none⟩) 1 1] w fun e w' => ∃ v', e = .returned v' ∧ Kd.R k26 26 w' w0.heap.size (fun _ => True) v' (xs.take i ++ x :: xs.drop i) ∧ Below w0.heap.size w0 w' := by
  have hne : (Value.slice A xs.length c).ownBlock ≠ some g := fun he => by
    obtain ⟨_, F, h1, h2⟩ := HS
    have p0 := (h1 0 _ rfl).1
    have p1 := (h1 1 _ rfl).1
    exact h2 0 1 g (by decide) ((p0.2 g).2 rfl) (p1.1.1 g he)
  obtain ⟨_, inner, ho, hr⟩ := HS.out1 A
  refine (insert_tx w0.heap.size w _ xs.length inner (encT x) i g ho hi (HS.box g) rfl (fun u hu => ?_) (reps_all hr (fun p q hp u hu => ?_)) hne HS.below.size hbig).mono ?_
  · exact Kd.K_one k26 (k26_mk w x) u hu
  · exact Kd.K_one k26 (Kd.K_of_M k26 hp) u hu
  · rintro e w' ⟨v', rfl, ho', hb'⟩
    refine ⟨v', rfl, ⟨fun _ _ => trivial, inner.take (i * 4) ++ encT x ++ inner.drop (i * 4), ?_, ?_⟩, below_weaken HS.below (Nat.le_refl _) hb'⟩
    · rw [show (xs.take i ++ x :: xs.drop i).length = xs.length + 1 by simp; omega]
      exact ho'
    · exact reps_ins (hr.imp_ (fun p q hp => by obtain rfl := k26_openM hp; exact k26_mkM _ _ _ p)) hi (k26_mkM _ _ _ x) rfl
theorem bs_R {P : Program} {ops : Array Oper} {o : Oper} {a : Act} {Q : Exit → Act → World → Prop} {w0 W : World} {L : List Pc} {K : Act → World → Prop} (HS : SS w0 W L) {N : Option Tmp} {t : TypeId} {n : Nat} {xs : Array (Nat × Operand)} {e : TypeId} {cs : Array Value} (hw : Region.wanted o (yielded ops a.tmps) = true) (hN : o.dst = N) (ho : o.op = .buildSlice t n xs)
    (hrun : (Instr.buildSlice t n (xs.map fun (i, x) => (i, a.eval x))).run P W = .ok (.slice (some ⟨W.heap.size, 0, none⟩) n n) (W.alloc (.cells cs e (0, 0))))
    (h : ∀ g w1, SS w0 w1 (box g cs e :: L) → K (a.put N (.slice (some ⟨g, 0, none⟩) n n)) w1) : if Region.wanted o (yielded ops a.tmps) = true then Oper.wp P o a W K Q else K (a.put N undef) W := by
  refine Go.Proofs.YtnlakfbbbnkcpaaDoorW.PrintLast.value_ hw hN (w1 := W.alloc (.cells cs e (0, 0))) ?_ (h _ _ (HS.push (below_alloc (Below.refl _ _) _) (box W.heap.size cs e) (G := fun k => k = W.heap.size) ⟨blk_new _ _, fun k => Iff.rfl⟩ (fun k hk => Nat.le_of_eq hk.symm)))
  unfold execOp
  simp only [ho, Sem.run_bind, hrun, Result.andThen_ok, Sem.run_pure]
def insT (l : List S26) (x : S26) : List S26 := l.take (firstT l x) ++ x :: l.drop (firstT l x)
set_option maxHeartbeats 8000000 in
set_option maxRecDepth 100000 in
theorem impl_PoolAdd.hitOk (k : Nat) (A0 : Option Addr) (c0 : Nat) (l0 : List S26) (x : S26) (m : Nat) (w : World) (HR : Aside0 (Kd.C k26 w A0 l0.length l0)) (HC : Aside0 (l0.length ≤ c0)) (HCP : Aside0 (impl_copyTxs.f l0 = some l0)) (hl : l0.length + 1 < 4398046511104) (hm : m ≤ l0.length) (HX : Aside0 (retT l0 x = (m : Int))) (y : List S26) (HY : Aside0 (l0.take m ++ x :: l0.drop m = y)) (HP : Aside0 (impl_PoolOk.f k y = some true)) :
    Calls Tryd.prog 6 #[.slice A0 l0.length c0, .agg #[.int .i64 x.f0, .int .i64 x.f1, .int .i64 x.f2, .int .i64 x.f3]] w fun e w' => ∃ v0_ : Value, e = .returned (.tuple #[v0_, .bool true]) ∧ Kd.R k26 26 w' w.heap.size (fun _ => True) v0_ y ∧ Below w.heap.size w w' := by
  have hl62 : l0.length < 4611686018427387904 := by omega
  have HS := SS.nil w
  go_enter Tryd.func6, Tryd.ntmps6
  go_wp2_with (first | ((with_reducible refine gate_dst (N := 3) rfl ?_); refine ev_box HS (cs := #[.int .i64 x.f0, .int .i64 x.f1, .int .i64 x.f2, .int .i64 x.f3]) rfl rfl rfl ?_; clear HS; intro g3 w1 HS) | ((with_reducible refine gate_dst (N := 10) rfl ?_); refine ev_call (some 10) rfl rfl Tryd.func22 (by kernel_rfl) rfl rfl (by simp only [List.map_toArray, List.map_cons, List.map_nil]; rfl) ?_; refine (HS.val (indexFunc_tx A0 c0 l0 x g3 _ (Kd.C_below HR.out HS.below) hl62 (HS.box g3))).mono ?_; clear HS; rw [HX.out]; rintro e w1 ⟨rfl, HS⟩; refine ⟨_, rfl, ?_⟩))
  refine start_ (n := 7) (S := fun w' => SS w w' [box g3 #[.int .i64 x.f0, .int .i64 x.f1, .int .i64 x.f2, .int .i64 x.f3] 26]) (ds := [5]) #[false, false, false, false, false, false, false] (by kernel_rfl) rfl rfl HS.drew (fun _ => ?_)
  replace HS := HS.drew
  generalize w1.drew = w1 at HS ⊢
  refine pA 0 15 ?_ rfl rfl (by kernel_rfl) (fun _ _ _ h => h) ⟨by rfl, ?_⟩ ?_ ?_ ?_
  rotate_left
  · intro w'; go_simp; (try with_reducible rfl)
  rotate_left
  · simp only [Act.put, nm]; rfl
  refine pA 2 17 ?_ rfl rfl (by kernel_rfl) (fun _ _ _ h => h) ⟨by rfl, ?_⟩ ?_ ?_ ?_
  rotate_left
  · intro w'; go_simp; (try with_reducible rfl)
  rotate_left
  · simp only [Act.put, nm]; rfl
  refine take_ (i := 3) (N := some 18) (a' := ?_) #[true, false, true, true, false, false, false] rfl rfl (by kernel_rfl) (fun _ _ _ h => h) (Or.inl ⟨by rfl, fun w' hs => rl_S hs rfl rfl (by rfl)⟩) HS ?_ ?_
  rotate_left
  · simp only [Act.put, nm]; rfl
  refine join_ (σ := Option Addr × Nat × Nat) 2 #[true, true, true, true, true, false, false] (fun s_ => [(16, .slice s_.1 l0.length s_.2.1), (19, .slice (some ⟨s_.2.2, 0, none⟩) 1 1)]) (fun s_ w' => SS w w' [box s_.2.2 #[.int .i64 x.f0, .int .i64 x.f1, .int .i64 x.f2, .int .i64 x.f3] 26, row k26 26 (.slice s_.1 l0.length s_.2.1) l0, box g3 #[.int .i64 x.f0, .int .i64 x.f1, .int .i64 x.f2, .int .i64 x.f3] 26]) ?_ (fun hcont => ?_)
  rotate_left
  · refine two_ (i := 1) (j := 4) (Ni := some 16) (Nj := some 19) #[true, true, true, true, false, false, false] #[true, false, true, true, true, false, false] rfl rfl rfl rfl (by kernel_rfl) (by decide) (by decide) (fun K hK => ?_) (fun K hK => ?_)
    · refine goes_ Tryd.func26 (by kernel_rfl) rfl _ (by rfl) rfl rfl (by simp only [List.map_toArray, List.map_cons, List.map_nil]; rfl) ?_
      refine (HS.get1 (impl_copyTxs.calls (w := _) (hr0 := Kd.C_below HR.out HS.below) (hc0 := HC.out) (h := HCP.out))).mono ?_
      clear HS
      rintro e w1 ⟨A16, c16, rfl, HS⟩
      refine ⟨_, rfl, ?_⟩
      refine hK.out _ _ (HS.drop 1) (fun _ => ?_)
      clear hK K
      refine norm_ (a' := ?_) ?_ ?_
      rotate_left
      · simp only [Act.put, nm]; rfl
      refine one_ (i := 4) (N := some 19) #[true, true, true, true, true, false, false] rfl rfl (by kernel_rfl) (by decide) (fun K hK => ?_)
      refine bs_R HS (e := 26) (cs := #[.int .i64 x.f0, .int .i64 x.f1, .int .i64 x.f2, .int .i64 x.f3]) (by rfl) rfl rfl (by kernel_rfl) ?_
      clear HS
      intro g19 w1 HS
      refine hK.out _ _ (HS.drop 2) (fun _ => ?_)
      clear hK K
      refine norm_ (a' := ?_) ?_ ?_
      rotate_left
      · simp only [Act.put, nm]; rfl
      have hp := HS.perm [0, 1, 2] (by decide)
      have hc := hcont ⟨A16, c16, g19⟩ w1 hp
      simp only [putAll, Act.put, nm] at hc
      exact hc
    · refine bs_R HS (e := 26) (cs := #[.int .i64 x.f0, .int .i64 x.f1, .int .i64 x.f2, .int .i64 x.f3]) (by rfl) rfl rfl (by kernel_rfl) ?_
      clear HS
      intro g19 w1 HS
      refine hK.out _ _ (HS.drop 1) (fun _ => ?_)
      clear hK K
      refine norm_ (a' := ?_) ?_ ?_
      rotate_left
      · simp only [Act.put, nm]; rfl
      refine one_ (i := 1) (N := some 16) #[true, true, true, true, true, false, false] rfl rfl (by kernel_rfl) (by decide) (fun K hK => ?_)
      refine goes_ Tryd.func26 (by kernel_rfl) rfl _ (by rfl) rfl rfl (by simp only [List.map_toArray, List.map_cons, List.map_nil]; rfl) ?_
      refine (HS.get1 (impl_copyTxs.calls (w := _) (hr0 := Kd.C_below HR.out HS.below) (hc0 := HC.out) (h := HCP.out))).mono ?_
      clear HS
      rintro e w1 ⟨A16, c16, rfl, HS⟩
      refine ⟨_, rfl, ?_⟩
      refine hK.out _ _ (HS.drop 2) (fun _ => ?_)
      clear hK K
      refine norm_ (a' := ?_) ?_ ?_
      rotate_left
      · simp only [Act.put, nm]; rfl
      have hp := HS.perm [1, 0, 2] (by decide)
      have hc := hcont ⟨A16, c16, g19⟩ w1 hp
      simp only [putAll, Act.put, nm] at hc
      exact hc
  clear HS
  rintro ⟨A16, c16, g19⟩ w1 HS
  dsimp only at HS
  refine norm_ (a' := ?_) ?_ ?_
  rotate_left
  · simp only [putAll, Act.put, nm]; rfl
  refine last_ (i := 5) (N := some 20) #[true, true, true, true, true, true, false] rfl rfl (by kernel_rfl) (by decide) (fun K hK => ?_)
  refine goes_ Tryd.func25 (by kernel_rfl) rfl _ (by rfl) rfl rfl (by simp only [List.map_toArray, List.map_cons, List.map_nil]; rfl) ?_
  refine (insert_SS (i := m) HS (by omega) (by omega)).mono ?_
  clear HS
  rintro e w1 ⟨v1, rfl, hR, hB⟩
  rw [HY.out] at hR
  refine ⟨_, rfl, ?_⟩
  refine hK.out _ _ ?_
  clear hK K
  refine norm_ (a' := ?_) ?_ ?_
  rotate_left
  · simp only [Act.put, nm]; rfl
  refine pA 6 7 ?_ rfl rfl (by kernel_rfl) (fun _ _ _ h => h) ⟨by rfl, ?_⟩ ?_ ?_ ?_
  rotate_left
  · intro w'; go_simp; (try with_reducible rfl)
  rotate_left
  · simp only [Act.put, nm]; rfl
  refine done_ (by kernel_rfl) ?_
  obtain ⟨A3, c3, rfl, hc3, hC3⟩ := Kd.R_reads hR
  go_wp2_with (first | ((with_reducible refine gate_dst (N := 22) rfl ?_); refine ev_call (some 22) rfl rfl Tryd.func16 (by kernel_rfl) rfl rfl (by simp only [List.map_toArray, List.map_cons, List.map_nil]; rfl) ?_; refine ((impl_PoolOk.calls (w := _) (hr0 := hC3) (hc0 := hc3) (h := HP.out))).mono ?_; rintro e w1 ⟨rfl, hB2⟩; refine ⟨_, rfl, ?_⟩))
  go_ret2
  exact ⟨_, rfl, Kd.R_below hR hB2, below_then hB hB.size hB2⟩
set_option maxHeartbeats 8000000 in
set_option maxRecDepth 100000 in
theorem impl_PoolAdd.hitNo (k : Nat) (A0 : Option Addr) (c0 : Nat) (l0 : List S26) (x : S26) (m : Nat) (w : World) (HR : Aside0 (Kd.C k26 w A0 l0.length l0)) (HC : Aside0 (l0.length ≤ c0)) (HCP : Aside0 (impl_copyTxs.f l0 = some l0)) (hl : l0.length + 1 < 4398046511104) (hm : m ≤ l0.length) (HX : Aside0 (retT l0 x = (m : Int))) (y : List S26) (HY : Aside0 (l0.take m ++ x :: l0.drop m = y)) (HP : Aside0 (impl_PoolOk.f k y = some false)) :
    Calls Tryd.prog 6 #[.slice A0 l0.length c0, .agg #[.int .i64 x.f0, .int .i64 x.f1, .int .i64 x.f2, .int .i64 x.f3]] w fun e w' => ∃ v0_ : Value, e = .returned (.tuple #[v0_, .bool false]) ∧ Kd.R k26 26 w' w.heap.size (fun _ => True) v0_ l0 ∧ Below w.heap.size w w' := by
  have hl62 : l0.length < 4611686018427387904 := by omega
  have HS := SS.nil w
  go_enter Tryd.func6, Tryd.ntmps6
  go_wp2_with (first | ((with_reducible refine gate_dst (N := 3) rfl ?_); refine ev_box HS (cs := #[.int .i64 x.f0, .int .i64 x.f1, .int .i64 x.f2, .int .i64 x.f3]) rfl rfl rfl ?_; clear HS; intro g3 w1 HS) | ((with_reducible refine gate_dst (N := 10) rfl ?_); refine ev_call (some 10) rfl rfl Tryd.func22 (by kernel_rfl) rfl rfl (by simp only [List.map_toArray, List.map_cons, List.map_nil]; rfl) ?_; refine (HS.val (indexFunc_tx A0 c0 l0 x g3 _ (Kd.C_below HR.out HS.below) hl62 (HS.box g3))).mono ?_; clear HS; rw [HX.out]; rintro e w1 ⟨rfl, HS⟩; refine ⟨_, rfl, ?_⟩))
  refine start_ (n := 7) (S := fun w' => SS w w' [box g3 #[.int .i64 x.f0, .int .i64 x.f1, .int .i64 x.f2, .int .i64 x.f3] 26]) (ds := [5]) #[false, false, false, false, false, false, false] (by kernel_rfl) rfl rfl HS.drew (fun _ => ?_)
  replace HS := HS.drew
  generalize w1.drew = w1 at HS ⊢
  refine pA 0 15 ?_ rfl rfl (by kernel_rfl) (fun _ _ _ h => h) ⟨by rfl, ?_⟩ ?_ ?_ ?_
  rotate_left
  · intro w'; go_simp; (try with_reducible rfl)
  rotate_left
  · simp only [Act.put, nm]; rfl
  refine pA 2 17 ?_ rfl rfl (by kernel_rfl) (fun _ _ _ h => h) ⟨by rfl, ?_⟩ ?_ ?_ ?_
  rotate_left
  · intro w'; go_simp; (try with_reducible rfl)
  rotate_left
  · simp only [Act.put, nm]; rfl
  refine take_ (i := 3) (N := some 18) (a' := ?_) #[true, false, true, true, false, false, false] rfl rfl (by kernel_rfl) (fun _ _ _ h => h) (Or.inl ⟨by rfl, fun w' hs => rl_S hs rfl rfl (by rfl)⟩) HS ?_ ?_
  rotate_left
  · simp only [Act.put, nm]; rfl
  refine join_ (σ := Option Addr × Nat × Nat) 2 #[true, true, true, true, true, false, false] (fun s_ => [(16, .slice s_.1 l0.length s_.2.1), (19, .slice (some ⟨s_.2.2, 0, none⟩) 1 1)]) (fun s_ w' => SS w w' [box s_.2.2 #[.int .i64 x.f0, .int .i64 x.f1, .int .i64 x.f2, .int .i64 x.f3] 26, row k26 26 (.slice s_.1 l0.length s_.2.1) l0, box g3 #[.int .i64 x.f0, .int .i64 x.f1, .int .i64 x.f2, .int .i64 x.f3] 26]) ?_ (fun hcont => ?_)
  rotate_left
  · refine two_ (i := 1) (j := 4) (Ni := some 16) (Nj := some 19) #[true, true, true, true, false, false, false] #[true, false, true, true, true, false, false] rfl rfl rfl rfl (by kernel_rfl) (by decide) (by decide) (fun K hK => ?_) (fun K hK => ?_)
    · refine goes_ Tryd.func26 (by kernel_rfl) rfl _ (by rfl) rfl rfl (by simp only [List.map_toArray, List.map_cons, List.map_nil]; rfl) ?_
      refine (HS.get1 (impl_copyTxs.calls (w := _) (hr0 := Kd.C_below HR.out HS.below) (hc0 := HC.out) (h := HCP.out))).mono ?_
      clear HS
      rintro e w1 ⟨A16, c16, rfl, HS⟩
      refine ⟨_, rfl, ?_⟩
      refine hK.out _ _ (HS.drop 1) (fun _ => ?_)
      clear hK K
      refine norm_ (a' := ?_) ?_ ?_
      rotate_left
      · simp only [Act.put, nm]; rfl
      refine one_ (i := 4) (N := some 19) #[true, true, true, true, true, false, false] rfl rfl (by kernel_rfl) (by decide) (fun K hK => ?_)
      refine bs_R HS (e := 26) (cs := #[.int .i64 x.f0, .int .i64 x.f1, .int .i64 x.f2, .int .i64 x.f3]) (by rfl) rfl rfl (by kernel_rfl) ?_
      clear HS
      intro g19 w1 HS
      refine hK.out _ _ (HS.drop 2) (fun _ => ?_)
      clear hK K
      refine norm_ (a' := ?_) ?_ ?_
      rotate_left
      · simp only [Act.put, nm]; rfl
      have hp := HS.perm [0, 1, 2] (by decide)
      have hc := hcont ⟨A16, c16, g19⟩ w1 hp
      simp only [putAll, Act.put, nm] at hc
      exact hc
    · refine bs_R HS (e := 26) (cs := #[.int .i64 x.f0, .int .i64 x.f1, .int .i64 x.f2, .int .i64 x.f3]) (by rfl) rfl rfl (by kernel_rfl) ?_
      clear HS
      intro g19 w1 HS
      refine hK.out _ _ (HS.drop 1) (fun _ => ?_)
      clear hK K
      refine norm_ (a' := ?_) ?_ ?_
      rotate_left
      · simp only [Act.put, nm]; rfl
      refine one_ (i := 1) (N := some 16) #[true, true, true, true, true, false, false] rfl rfl (by kernel_rfl) (by decide) (fun K hK => ?_)
      refine goes_ Tryd.func26 (by kernel_rfl) rfl _ (by rfl) rfl rfl (by simp only [List.map_toArray, List.map_cons, List.map_nil]; rfl) ?_
      refine (HS.get1 (impl_copyTxs.calls (w := _) (hr0 := Kd.C_below HR.out HS.below) (hc0 := HC.out) (h := HCP.out))).mono ?_
      clear HS
      rintro e w1 ⟨A16, c16, rfl, HS⟩
      refine ⟨_, rfl, ?_⟩
      refine hK.out _ _ (HS.drop 2) (fun _ => ?_)
      clear hK K
      refine norm_ (a' := ?_) ?_ ?_
      rotate_left
      · simp only [Act.put, nm]; rfl
      have hp := HS.perm [1, 0, 2] (by decide)
      have hc := hcont ⟨A16, c16, g19⟩ w1 hp
      simp only [putAll, Act.put, nm] at hc
      exact hc
  clear HS
  rintro ⟨A16, c16, g19⟩ w1 HS
  dsimp only at HS
  refine norm_ (a' := ?_) ?_ ?_
  rotate_left
  · simp only [putAll, Act.put, nm]; rfl
  refine last_ (i := 5) (N := some 20) #[true, true, true, true, true, true, false] rfl rfl (by kernel_rfl) (by decide) (fun K hK => ?_)
  refine goes_ Tryd.func25 (by kernel_rfl) rfl _ (by rfl) rfl rfl (by simp only [List.map_toArray, List.map_cons, List.map_nil]; rfl) ?_
  refine (insert_SS (i := m) HS (by omega) (by omega)).mono ?_
  clear HS
  rintro e w1 ⟨v1, rfl, hR, hB⟩
  rw [HY.out] at hR
  refine ⟨_, rfl, ?_⟩
  refine hK.out _ _ ?_
  clear hK K
  refine norm_ (a' := ?_) ?_ ?_
  rotate_left
  · simp only [Act.put, nm]; rfl
  refine pA 6 7 ?_ rfl rfl (by kernel_rfl) (fun _ _ _ h => h) ⟨by rfl, ?_⟩ ?_ ?_ ?_
  rotate_left
  · intro w'; go_simp; (try with_reducible rfl)
  rotate_left
  · simp only [Act.put, nm]; rfl
  refine done_ (by kernel_rfl) ?_
  obtain ⟨A3, c3, rfl, hc3, hC3⟩ := Kd.R_reads hR
  go_wp2_with (first | ((with_reducible refine gate_dst (N := 22) rfl ?_); refine ev_call (some 22) rfl rfl Tryd.func16 (by kernel_rfl) rfl rfl (by simp only [List.map_toArray, List.map_cons, List.map_nil]; rfl) ?_; refine ((impl_PoolOk.calls (w := _) (hr0 := hC3) (hc0 := hc3) (h := HP.out))).mono ?_; rintro e w1 ⟨rfl, hB2⟩; refine ⟨_, rfl, ?_⟩) | ((with_reducible refine gate_dst (N := 25) rfl ?_); refine ev_call (some 25) rfl rfl Tryd.func26 (by kernel_rfl) rfl rfl (by simp only [List.map_toArray, List.map_cons, List.map_nil]; rfl) ?_; refine ((impl_copyTxs.calls (w := _) (hr0 := Kd.C_below HR.out (below_then hB hB.size hB2)) (hc0 := HC.out) (h := HCP.out))).mono ?_; rintro e w1 ⟨v4, rfl, hR4, hB4⟩; refine ⟨_, rfl, ?_⟩))
  go_ret2
  exact ⟨_, rfl, Kd.R_lower hR4 (below_then hB hB.size hB2).size, below_then (below_then hB hB.size hB2) (below_then hB hB.size hB2).size hB4⟩
set_option maxHeartbeats 8000000 in
set_option maxRecDepth 100000 in
theorem impl_PoolAdd.endOk (k : Nat) (A0 : Option Addr) (c0 : Nat) (l0 : List S26) (x : S26) (m : Nat) (w : World) (HR : Aside0 (Kd.C k26 w A0 l0.length l0)) (HC : Aside0 (l0.length ≤ c0)) (HCP : Aside0 (impl_copyTxs.f l0 = some l0)) (hl : l0.length + 1 < 4398046511104) (hm : m ≤ l0.length) (HX : Aside0 (retT l0 x = -1 ∧ m = l0.length)) (y : List S26) (HY : Aside0 (l0.take m ++ x :: l0.drop m = y)) (HP : Aside0 (impl_PoolOk.f k y = some true)) :
    Calls Tryd.prog 6 #[.slice A0 l0.length c0, .agg #[.int .i64 x.f0, .int .i64 x.f1, .int .i64 x.f2, .int .i64 x.f3]] w fun e w' => ∃ v0_ : Value, e = .returned (.tuple #[v0_, .bool true]) ∧ Kd.R k26 26 w' w.heap.size (fun _ => True) v0_ y ∧ Below w.heap.size w w' := by
  have hl62 : l0.length < 4611686018427387904 := by omega
  have HS := SS.nil w
  obtain ⟨hx, rfl⟩ := HX.out
  clear HX
  have HX := Aside0.mk hx
  clear hx
  go_enter Tryd.func6, Tryd.ntmps6
  go_wp2_with (first | ((with_reducible refine gate_dst (N := 3) rfl ?_); refine ev_box HS (cs := #[.int .i64 x.f0, .int .i64 x.f1, .int .i64 x.f2, .int .i64 x.f3]) rfl rfl rfl ?_; clear HS; intro g3 w1 HS) | ((with_reducible refine gate_dst (N := 10) rfl ?_); refine ev_call (some 10) rfl rfl Tryd.func22 (by kernel_rfl) rfl rfl (by simp only [List.map_toArray, List.map_cons, List.map_nil]; rfl) ?_; refine (HS.val (indexFunc_tx A0 c0 l0 x g3 _ (Kd.C_below HR.out HS.below) hl62 (HS.box g3))).mono ?_; clear HS; rw [HX.out]; rintro e w1 ⟨rfl, HS⟩; refine ⟨_, rfl, ?_⟩))
  refine start_ (n := 7) (S := fun w' => SS w w' [box g3 #[.int .i64 x.f0, .int .i64 x.f1, .int .i64 x.f2, .int .i64 x.f3] 26]) (ds := [5]) #[false, false, false, false, false, false, false] (by kernel_rfl) rfl rfl HS.drew (fun _ => ?_)
  replace HS := HS.drew
  generalize w1.drew = w1 at HS ⊢
  refine pA 0 15 ?_ rfl rfl (by kernel_rfl) (fun _ _ _ h => h) ⟨by rfl, ?_⟩ ?_ ?_ ?_
  rotate_left
  · intro w'; go_simp; (try with_reducible rfl)
  rotate_left
  · simp only [Act.put, nm]; rfl
  refine pA 2 17 ?_ rfl rfl (by kernel_rfl) (fun _ _ _ h => h) ⟨by rfl, ?_⟩ ?_ ?_ ?_
  rotate_left
  · intro w'; go_simp; (try with_reducible rfl)
  rotate_left
  · simp only [Act.put, nm]; rfl
  refine take_ (i := 3) (N := some 18) (a' := ?_) #[true, false, true, true, false, false, false] rfl rfl (by kernel_rfl) (fun _ _ _ h => h) (Or.inl ⟨by rfl, fun w' hs => rl_S hs rfl rfl (by rfl)⟩) HS ?_ ?_
  rotate_left
  · simp only [Act.put, nm]; rfl
  refine join_ (σ := Option Addr × Nat × Nat) 2 #[true, true, true, true, true, false, false] (fun s_ => [(16, .slice s_.1 l0.length s_.2.1), (19, .slice (some ⟨s_.2.2, 0, none⟩) 1 1)]) (fun s_ w' => SS w w' [box s_.2.2 #[.int .i64 x.f0, .int .i64 x.f1, .int .i64 x.f2, .int .i64 x.f3] 26, row k26 26 (.slice s_.1 l0.length s_.2.1) l0, box g3 #[.int .i64 x.f0, .int .i64 x.f1, .int .i64 x.f2, .int .i64 x.f3] 26]) ?_ (fun hcont => ?_)
  rotate_left
  · refine two_ (i := 1) (j := 4) (Ni := some 16) (Nj := some 19) #[true, true, true, true, false, false, false] #[true, false, true, true, true, false, false] rfl rfl rfl rfl (by kernel_rfl) (by decide) (by decide) (fun K hK => ?_) (fun K hK => ?_)
    · refine goes_ Tryd.func26 (by kernel_rfl) rfl _ (by rfl) rfl rfl (by simp only [List.map_toArray, List.map_cons, List.map_nil]; rfl) ?_
      refine (HS.get1 (impl_copyTxs.calls (w := _) (hr0 := Kd.C_below HR.out HS.below) (hc0 := HC.out) (h := HCP.out))).mono ?_
      clear HS
      rintro e w1 ⟨A16, c16, rfl, HS⟩
      refine ⟨_, rfl, ?_⟩
      refine hK.out _ _ (HS.drop 1) (fun _ => ?_)
      clear hK K
      refine norm_ (a' := ?_) ?_ ?_
      rotate_left
      · simp only [Act.put, nm]; rfl
      refine one_ (i := 4) (N := some 19) #[true, true, true, true, true, false, false] rfl rfl (by kernel_rfl) (by decide) (fun K hK => ?_)
      refine bs_R HS (e := 26) (cs := #[.int .i64 x.f0, .int .i64 x.f1, .int .i64 x.f2, .int .i64 x.f3]) (by rfl) rfl rfl (by kernel_rfl) ?_
      clear HS
      intro g19 w1 HS
      refine hK.out _ _ (HS.drop 2) (fun _ => ?_)
      clear hK K
      refine norm_ (a' := ?_) ?_ ?_
      rotate_left
      · simp only [Act.put, nm]; rfl
      have hp := HS.perm [0, 1, 2] (by decide)
      have hc := hcont ⟨A16, c16, g19⟩ w1 hp
      simp only [putAll, Act.put, nm] at hc
      exact hc
    · refine bs_R HS (e := 26) (cs := #[.int .i64 x.f0, .int .i64 x.f1, .int .i64 x.f2, .int .i64 x.f3]) (by rfl) rfl rfl (by kernel_rfl) ?_
      clear HS
      intro g19 w1 HS
      refine hK.out _ _ (HS.drop 1) (fun _ => ?_)
      clear hK K
      refine norm_ (a' := ?_) ?_ ?_
      rotate_left
      · simp only [Act.put, nm]; rfl
      refine one_ (i := 1) (N := some 16) #[true, true, true, true, true, false, false] rfl rfl (by kernel_rfl) (by decide) (fun K hK => ?_)
      refine goes_ Tryd.func26 (by kernel_rfl) rfl _ (by rfl) rfl rfl (by simp only [List.map_toArray, List.map_cons, List.map_nil]; rfl) ?_
      refine (HS.get1 (impl_copyTxs.calls (w := _) (hr0 := Kd.C_below HR.out HS.below) (hc0 := HC.out) (h := HCP.out))).mono ?_
      clear HS
      rintro e w1 ⟨A16, c16, rfl, HS⟩
      refine ⟨_, rfl, ?_⟩
      refine hK.out _ _ (HS.drop 2) (fun _ => ?_)
      clear hK K
      refine norm_ (a' := ?_) ?_ ?_
      rotate_left
      · simp only [Act.put, nm]; rfl
      have hp := HS.perm [1, 0, 2] (by decide)
      have hc := hcont ⟨A16, c16, g19⟩ w1 hp
      simp only [putAll, Act.put, nm] at hc
      exact hc
  clear HS
  rintro ⟨A16, c16, g19⟩ w1 HS
  dsimp only at HS
  refine norm_ (a' := ?_) ?_ ?_
  rotate_left
  · simp only [putAll, Act.put, nm]; rfl
  refine last_ (i := 5) (N := some 20) #[true, true, true, true, true, true, false] rfl rfl (by kernel_rfl) (by decide) (fun K hK => ?_)
  refine goes_ Tryd.func25 (by kernel_rfl) rfl _ (by rfl) rfl rfl (by simp only [List.map_toArray, List.map_cons, List.map_nil]; rfl) ?_
  refine (insert_SS (i := l0.length) HS (by omega) (by omega)).mono ?_
  clear HS
  rintro e w1 ⟨v1, rfl, hR, hB⟩
  rw [HY.out] at hR
  refine ⟨_, rfl, ?_⟩
  refine hK.out _ _ ?_
  clear hK K
  refine norm_ (a' := ?_) ?_ ?_
  rotate_left
  · simp only [Act.put, nm]; rfl
  refine pA 6 7 ?_ rfl rfl (by kernel_rfl) (fun _ _ _ h => h) ⟨by rfl, ?_⟩ ?_ ?_ ?_
  rotate_left
  · intro w'; go_simp; (try with_reducible rfl)
  rotate_left
  · simp only [Act.put, nm]; rfl
  refine done_ (by kernel_rfl) ?_
  obtain ⟨A3, c3, rfl, hc3, hC3⟩ := Kd.R_reads hR
  go_wp2_with (first | ((with_reducible refine gate_dst (N := 22) rfl ?_); refine ev_call (some 22) rfl rfl Tryd.func16 (by kernel_rfl) rfl rfl (by simp only [List.map_toArray, List.map_cons, List.map_nil]; rfl) ?_; refine ((impl_PoolOk.calls (w := _) (hr0 := hC3) (hc0 := hc3) (h := HP.out))).mono ?_; rintro e w1 ⟨rfl, hB2⟩; refine ⟨_, rfl, ?_⟩))
  go_ret2
  exact ⟨_, rfl, Kd.R_below hR hB2, below_then hB hB.size hB2⟩
set_option maxHeartbeats 8000000 in
set_option maxRecDepth 100000 in
theorem impl_PoolAdd.endNo (k : Nat) (A0 : Option Addr) (c0 : Nat) (l0 : List S26) (x : S26) (m : Nat) (w : World) (HR : Aside0 (Kd.C k26 w A0 l0.length l0)) (HC : Aside0 (l0.length ≤ c0)) (HCP : Aside0 (impl_copyTxs.f l0 = some l0)) (hl : l0.length + 1 < 4398046511104) (hm : m ≤ l0.length) (HX : Aside0 (retT l0 x = -1 ∧ m = l0.length)) (y : List S26) (HY : Aside0 (l0.take m ++ x :: l0.drop m = y)) (HP : Aside0 (impl_PoolOk.f k y = some false)) :
    Calls Tryd.prog 6 #[.slice A0 l0.length c0, .agg #[.int .i64 x.f0, .int .i64 x.f1, .int .i64 x.f2, .int .i64 x.f3]] w fun e w' => ∃ v0_ : Value, e = .returned (.tuple #[v0_, .bool false]) ∧ Kd.R k26 26 w' w.heap.size (fun _ => True) v0_ l0 ∧ Below w.heap.size w w' := by
  have hl62 : l0.length < 4611686018427387904 := by omega
  have HS := SS.nil w
  obtain ⟨hx, rfl⟩ := HX.out
  clear HX
  have HX := Aside0.mk hx
  clear hx
  go_enter Tryd.func6, Tryd.ntmps6
  go_wp2_with (first | ((with_reducible refine gate_dst (N := 3) rfl ?_); refine ev_box HS (cs := #[.int .i64 x.f0, .int .i64 x.f1, .int .i64 x.f2, .int .i64 x.f3]) rfl rfl rfl ?_; clear HS; intro g3 w1 HS) | ((with_reducible refine gate_dst (N := 10) rfl ?_); refine ev_call (some 10) rfl rfl Tryd.func22 (by kernel_rfl) rfl rfl (by simp only [List.map_toArray, List.map_cons, List.map_nil]; rfl) ?_; refine (HS.val (indexFunc_tx A0 c0 l0 x g3 _ (Kd.C_below HR.out HS.below) hl62 (HS.box g3))).mono ?_; clear HS; rw [HX.out]; rintro e w1 ⟨rfl, HS⟩; refine ⟨_, rfl, ?_⟩))
  refine start_ (n := 7) (S := fun w' => SS w w' [box g3 #[.int .i64 x.f0, .int .i64 x.f1, .int .i64 x.f2, .int .i64 x.f3] 26]) (ds := [5]) #[false, false, false, false, false, false, false] (by kernel_rfl) rfl rfl HS.drew (fun _ => ?_)
  replace HS := HS.drew
  generalize w1.drew = w1 at HS ⊢
  refine pA 0 15 ?_ rfl rfl (by kernel_rfl) (fun _ _ _ h => h) ⟨by rfl, ?_⟩ ?_ ?_ ?_
  rotate_left
  · intro w'; go_simp; (try with_reducible rfl)
  rotate_left
  · simp only [Act.put, nm]; rfl
  refine pA 2 17 ?_ rfl rfl (by kernel_rfl) (fun _ _ _ h => h) ⟨by rfl, ?_⟩ ?_ ?_ ?_
  rotate_left
  · intro w'; go_simp; (try with_reducible rfl)
  rotate_left
  · simp only [Act.put, nm]; rfl
  refine take_ (i := 3) (N := some 18) (a' := ?_) #[true, false, true, true, false, false, false] rfl rfl (by kernel_rfl) (fun _ _ _ h => h) (Or.inl ⟨by rfl, fun w' hs => rl_S hs rfl rfl (by rfl)⟩) HS ?_ ?_
  rotate_left
  · simp only [Act.put, nm]; rfl
  refine join_ (σ := Option Addr × Nat × Nat) 2 #[true, true, true, true, true, false, false] (fun s_ => [(16, .slice s_.1 l0.length s_.2.1), (19, .slice (some ⟨s_.2.2, 0, none⟩) 1 1)]) (fun s_ w' => SS w w' [box s_.2.2 #[.int .i64 x.f0, .int .i64 x.f1, .int .i64 x.f2, .int .i64 x.f3] 26, row k26 26 (.slice s_.1 l0.length s_.2.1) l0, box g3 #[.int .i64 x.f0, .int .i64 x.f1, .int .i64 x.f2, .int .i64 x.f3] 26]) ?_ (fun hcont => ?_)
  rotate_left
  · refine two_ (i := 1) (j := 4) (Ni := some 16) (Nj := some 19) #[true, true, true, true, false, false, false] #[true, false, true, true, true, false, false] rfl rfl rfl rfl (by kernel_rfl) (by decide) (by decide) (fun K hK => ?_) (fun K hK => ?_)
    · refine goes_ Tryd.func26 (by kernel_rfl) rfl _ (by rfl) rfl rfl (by simp only [List.map_toArray, List.map_cons, List.map_nil]; rfl) ?_
      refine (HS.get1 (impl_copyTxs.calls (w := _) (hr0 := Kd.C_below HR.out HS.below) (hc0 := HC.out) (h := HCP.out))).mono ?_
      clear HS
      rintro e w1 ⟨A16, c16, rfl, HS⟩
      refine ⟨_, rfl, ?_⟩
      refine hK.out _ _ (HS.drop 1) (fun _ => ?_)
      clear hK K
      refine norm_ (a' := ?_) ?_ ?_
      rotate_left
      · simp only [Act.put, nm]; rfl
      refine one_ (i := 4) (N := some 19) #[true, true, true, true, true, false, false] rfl rfl (by kernel_rfl) (by decide) (fun K hK => ?_)
      refine bs_R HS (e := 26) (cs := #[.int .i64 x.f0, .int .i64 x.f1, .int .i64 x.f2, .int .i64 x.f3]) (by rfl) rfl rfl (by kernel_rfl) ?_
      clear HS
      intro g19 w1 HS
      refine hK.out _ _ (HS.drop 2) (fun _ => ?_)
      clear hK K
      refine norm_ (a' := ?_) ?_ ?_
      rotate_left
      · simp only [Act.put, nm]; rfl
      have hp := HS.perm [0, 1, 2] (by decide)
      have hc := hcont ⟨A16, c16, g19⟩ w1 hp
      simp only [putAll, Act.put, nm] at hc
      exact hc
    · refine bs_R HS (e := 26) (cs := #[.int .i64 x.f0, .int .i64 x.f1, .int .i64 x.f2, .int .i64 x.f3]) (by rfl) rfl rfl (by kernel_rfl) ?_
      clear HS
      intro g19 w1 HS
      refine hK.out _ _ (HS.drop 1) (fun _ => ?_)
      clear hK K
      refine norm_ (a' := ?_) ?_ ?_
      rotate_left
      · simp only [Act.put, nm]; rfl
      refine one_ (i := 1) (N := some 16) #[true, true, true, true, true, false, false] rfl rfl (by kernel_rfl) (by decide) (fun K hK => ?_)
      refine goes_ Tryd.func26 (by kernel_rfl) rfl _ (by rfl) rfl rfl (by simp only [List.map_toArray, List.map_cons, List.map_nil]; rfl) ?_
      refine (HS.get1 (impl_copyTxs.calls (w := _) (hr0 := Kd.C_below HR.out HS.below) (hc0 := HC.out) (h := HCP.out))).mono ?_
      clear HS
      rintro e w1 ⟨A16, c16, rfl, HS⟩
      refine ⟨_, rfl, ?_⟩
      refine hK.out _ _ (HS.drop 2) (fun _ => ?_)
      clear hK K
      refine norm_ (a' := ?_) ?_ ?_
      rotate_left
      · simp only [Act.put, nm]; rfl
      have hp := HS.perm [1, 0, 2] (by decide)
      have hc := hcont ⟨A16, c16, g19⟩ w1 hp
      simp only [putAll, Act.put, nm] at hc
      exact hc
  clear HS
  rintro ⟨A16, c16, g19⟩ w1 HS
  dsimp only at HS
  refine norm_ (a' := ?_) ?_ ?_
  rotate_left
  · simp only [putAll, Act.put, nm]; rfl
  refine last_ (i := 5) (N := some 20) #[true, true, true, true, true, true, false] rfl rfl (by kernel_rfl) (by decide) (fun K hK => ?_)
  refine goes_ Tryd.func25 (by kernel_rfl) rfl _ (by rfl) rfl rfl (by simp only [List.map_toArray, List.map_cons, List.map_nil]; rfl) ?_
  refine (insert_SS (i := l0.length) HS (by omega) (by omega)).mono ?_
  clear HS
  rintro e w1 ⟨v1, rfl, hR, hB⟩
  rw [HY.out] at hR
  refine ⟨_, rfl, ?_⟩
  refine hK.out _ _ ?_
  clear hK K
  refine norm_ (a' := ?_) ?_ ?_
  rotate_left
  · simp only [Act.put, nm]; rfl
  refine pA 6 7 ?_ rfl rfl (by kernel_rfl) (fun _ _ _ h => h) ⟨by rfl, ?_⟩ ?_ ?_ ?_
  rotate_left
  · intro w'; go_simp; (try with_reducible rfl)
  rotate_left
  · simp only [Act.put, nm]; rfl
  refine done_ (by kernel_rfl) ?_
  obtain ⟨A3, c3, rfl, hc3, hC3⟩ := Kd.R_reads hR
  go_wp2_with (first | ((with_reducible refine gate_dst (N := 22) rfl ?_); refine ev_call (some 22) rfl rfl Tryd.func16 (by kernel_rfl) rfl rfl (by simp only [List.map_toArray, List.map_cons, List.map_nil]; rfl) ?_; refine ((impl_PoolOk.calls (w := _) (hr0 := hC3) (hc0 := hc3) (h := HP.out))).mono ?_; rintro e w1 ⟨rfl, hB2⟩; refine ⟨_, rfl, ?_⟩) | ((with_reducible refine gate_dst (N := 25) rfl ?_); refine ev_call (some 25) rfl rfl Tryd.func26 (by kernel_rfl) rfl rfl (by simp only [List.map_toArray, List.map_cons, List.map_nil]; rfl) ?_; refine ((impl_copyTxs.calls (w := _) (hr0 := Kd.C_below HR.out (below_then hB hB.size hB2)) (hc0 := HC.out) (h := HCP.out))).mono ?_; rintro e w1 ⟨v4, rfl, hR4, hB4⟩; refine ⟨_, rfl, ?_⟩))
  go_ret2
  exact ⟨_, rfl, Kd.R_lower hR4 (below_then hB hB.size hB2).size, below_then (below_then hB hB.size hB2) (below_then hB hB.size hB2).size hB4⟩
end
def impl_PoolAdd.f (k : Nat) (l0 : List S26) (a1_0 : Int) (a1_1 : Int) (a1_2 : Int) (a1_3 : Int) : Option (List S26 × Bool) := if l0.length + 1 < 4398046511104 then ((impl_PoolOk.f k (insT l0 ⟨a1_0, a1_1, a1_2, a1_3⟩)).bind fun t => if t = true then some (insT l0 ⟨a1_0, a1_1, a1_2, a1_3⟩, true) else some (l0, false)) else none
theorem impl_PoolAdd.mono : ∀ a0 a1 a2 a3 a4 k, LeO (impl_PoolAdd.f k a0 a1 a2 a3 a4) (impl_PoolAdd.f (k + 1) a0 a1 a2 a3 a4) := fun a0 a1 a2 a3 a4 k => LeO.ite (LeO.bind (impl_PoolOk.mono _ k) (fun _ => LeO.refl _)) (LeO.refl _)
theorem impl_PoolAdd.calls (k : Nat) (A0 : Option Addr) (c0 : Nat) (l0 : List (S26)) (a1_0 : Int) (a1_1 : Int) (a1_2 : Int) (a1_3 : Int) (r1 : List (S26)) (r2 : Bool) (w : World) (hr0 : Kd.C k26 w A0 l0.length l0) (hc0 : l0.length ≤ c0) (h : impl_PoolAdd.f k l0 a1_0 a1_1 a1_2 a1_3 = some (r1, r2)) :
    Calls Tryd.prog 6 #[.slice A0 l0.length c0, .agg #[.int .i64 a1_0, .int .i64 a1_1, .int .i64 a1_2, .int .i64 a1_3]] w fun e w' => ∃ v0_ : Value, e = .returned (.tuple #[v0_, .bool r2]) ∧ Kd.R k26 26 w' w.heap.size (fun _ => True) v0_ r1 ∧ Below w.heap.size w w' := by
  unfold impl_PoolAdd.f at h
  by_cases hl : l0.length + 1 < 4398046511104
  · rw [if_pos hl] at h
    obtain ⟨t, hA, h⟩ := Option.bind_eq_some_iff.mp h
    have hcp : impl_copyTxs.f l0 = some l0 := by unfold impl_copyTxs.f; rw [if_pos (by simp; omega)]; simp
    have hf : firstT l0 ⟨a1_0, a1_1, a1_2, a1_3⟩ ≤ l0.length := List.findIdx_le_length
    unfold insT at hA h
    cases t with
    | true =>
      rw [if_pos rfl] at h
      injection h with h
      injection h with h1 h2
      subst h1
      subst h2
      by_cases c : firstT l0 ⟨a1_0, a1_1, a1_2, a1_3⟩ < l0.length
      · exact impl_PoolAdd.hitOk k A0 c0 l0 ⟨a1_0, a1_1, a1_2, a1_3⟩ _ w ⟨hr0⟩ ⟨hc0⟩ ⟨hcp⟩ hl hf ⟨by unfold retT; rw [if_pos c]⟩ _ ⟨rfl⟩ ⟨hA⟩
      · have e : firstT l0 ⟨a1_0, a1_1, a1_2, a1_3⟩ = l0.length := by omega
        exact impl_PoolAdd.endOk k A0 c0 l0 ⟨a1_0, a1_1, a1_2, a1_3⟩ _ w ⟨hr0⟩ ⟨hc0⟩ ⟨hcp⟩ hl hf ⟨by unfold retT; rw [if_neg c], e⟩ _ ⟨rfl⟩ ⟨hA⟩
    | false =>
      rw [if_neg (by decide)] at h
      injection h with h
      injection h with h1 h2
      subst h1
      subst h2
      by_cases c : firstT l0 ⟨a1_0, a1_1, a1_2, a1_3⟩ < l0.length
      · exact impl_PoolAdd.hitNo k A0 c0 l0 ⟨a1_0, a1_1, a1_2, a1_3⟩ _ w ⟨hr0⟩ ⟨hc0⟩ ⟨hcp⟩ hl hf ⟨by unfold retT; rw [if_pos c]⟩ _ ⟨rfl⟩ ⟨hA⟩
      · have e : firstT l0 ⟨a1_0, a1_1, a1_2, a1_3⟩ = l0.length := by omega
        exact impl_PoolAdd.endNo k A0 c0 l0 ⟨a1_0, a1_1, a1_2, a1_3⟩ _ w ⟨hr0⟩ ⟨hc0⟩ ⟨hcp⟩ hl hf ⟨by unfold retT; rw [if_neg c], e⟩ _ ⟨rfl⟩ ⟨hA⟩
  · rw [if_neg hl] at h; cases h

end Go.Proofs.YtnlakfbbbnkcpaaDoor.PFnPools
