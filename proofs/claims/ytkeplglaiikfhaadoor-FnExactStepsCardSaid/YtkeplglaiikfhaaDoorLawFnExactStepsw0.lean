/- Walks of a law on its true paths, printed by this session's wip/mklaw.py; no condition of their own. -/
import Derived.Test.YtkeplglaiikfhaaDoorPFnExactStepsx0
import Derived.Test.YtkeplglaiikfhaaDoorPFnExactStepsx1
import Derived.Test.YtkeplglaiikfhaaDoorPFnExactStepsx2
import Derived.Test.YtkeplglaiikfhaaDoorPFnExactStepsx3
import Derived.Test.YtkeplglaiikfhaaDoorPFnExactStepsx4
import Derived.Test.YtkeplglaiikfhaaDoorPFnExactStepsx5
import Derived.Test.YtkeplglaiikfhaaDoorPFnExactStepsx6
import Derived.Test.YtkeplglaiikfhaaDoorPFnExactStepsx7
import Derived.Test.YtkeplglaiikfhaaDoorH
namespace Go.Proofs.YtkeplglaiikfhaaDoor.Law
open Go.RowKit Go.Proofs.YtkeplglaiikfhaaDoorW.PrintWords Go.Proofs.YtkeplglaiikfhaaDoorW.PrintLast Go.Proofs.YtkeplglaiikfhaaDoorW.PrintMore Go.Proofs.YtkeplglaiikfhaaDoorH Go.Proofs.YtkeplglaiikfhaaDoor.PFnExactSteps
set_option linter.unusedVariables false
set_option linter.unusedSimpArgs false
local instance : CellT Tryd.prog 3 := ⟨by kernel_rfl, by kernel_rfl⟩
local instance : CellT Tryd.prog 34 := ⟨by kernel_rfl, by kernel_rfl⟩
namespace w0
theorem chunk_other {l : List Value} {i j : Nat} (y : Value) (h : j ≠ i) : ((l.set (i * 2) y).drop (j * 2)).take 2 = (l.drop (j * 2)).take 2 := by
  apply List.ext_getElem?
  intro q
  rw [List.getElem?_take, List.getElem?_take]
  split
  · rw [List.getElem?_drop, List.getElem?_drop, List.getElem?_set_ne (by omega)]
  · rfl
/-- Element i of a row of steps whose inner rows lie apart: its cells, its inner row, and the row again when its number and its inner row have been written. -/
theorem step_at {f : Nat → Nat} {w : World} {B : Nat} {P : Nat → Prop} {u : Value} {xs : List S38} (hR : (Kd.tag f k38).R 38 w B P u xs.zipIdx) (i : Nat) (hi : i < xs.length) : ∃ g cap v, u = .slice (some ⟨g, 0, none⟩) xs.length cap ∧ B ≤ g ∧ g < w.heap.size ∧ P g ∧
    w.cell? ⟨g, i * 2, none⟩ = some (.int .i64 xs[i].f0) ∧ w.cell? ⟨g, i * 2 + 1, none⟩ = some v ∧ (∀ j, w.frozen? ⟨g, j, none⟩ = false) ∧ k45.R 45 w B (fun k => (P k ∧ some k ≠ u.ownBlock) ∧ f k = i) v xs[i].f1 ∧
    ∀ (w2 : World) (z : Int) (t : List S45), w2.heap[g]? = (w.setCell ⟨g, i * 2, none⟩ (.int .i64 z)).heap[g]? → (∀ k, k < w.heap.size → ¬ ((P k ∧ some k ≠ u.ownBlock) ∧ f k = i) → k ≠ g → w2.heap[k]? = w.heap[k]?) → k45.R 45 w2 B (fun k => some k = v.ownBlock) v t → (Kd.tag f k38).R 38 w2 B P u (xs.set i ⟨z, t⟩).zipIdx := by
  obtain ⟨h0, inner, ho, hr⟩ := hR
  have hzl : xs.zipIdx.length = xs.length := List.length_zipIdx
  rw [hzl] at ho
  have hp := hr.2 i (xs[i], i) (by rw [List.getElem?_zipIdx, List.getElem?_eq_getElem hi]; simp)
  obtain ⟨v, hc, hv⟩ := k38_openM hp
  have hc : (inner.drop (i * 2)).take 2 = [.int .i64 xs[i].f0, v] := hc
  have hil : inner.length = xs.length * 2 := ho.1
  have c0 : inner[i * 2]? = some (.int .i64 xs[i].f0) := by
    have := congrArg (fun l : List Value => l[0]?) hc
    simpa using this
  have c1 : inner[i * 2 + 1]? = some v := by
    have := congrArg (fun l : List Value => l[1]?) hc
    simpa using this
  rcases ho.2 with ⟨rfl, hn⟩ | ⟨g, cap, cur, rfl, hg, hh, hnc, hcm, hcs, htk⟩
  · omega
  · have htk : cur.toList.take (xs.length * 2) = inner := htk
    have hcs : cur.size = cap * 2 := hcs
    have q : ∀ j, j < xs.length * 2 → cur[j]? = inner[j]? := fun j hj => by
      rw [← htk, List.getElem?_take_of_lt hj]
      simp
    refine ⟨g, cap, v, rfl, hg, (Array.getElem?_eq_some_iff.1 hh).1, h0 g rfl, ?_, ?_, fun j => blk_frozen hh j, hv, ?_⟩
    · rw [blk_cell hh, q _ (by omega)]; exact c0
    · rw [blk_cell hh, q _ (by omega)]; exact c1
    · intro w2 z t hw2 hk ht
      have hh2 : w2.heap[g]? = some (.cells (cur.setIfInBounds (i * 2) (.int .i64 z)) 38 (0, 0)) := hw2.trans (blk_set hh _ _)
      refine ⟨h0, inner.set (i * 2) (.int .i64 z), ?_, ?_, ?_⟩
      · rw [List.length_zipIdx, List.length_set]
        refine ⟨by rw [List.length_set]; exact ho.1, .inr ⟨g, cap, _, rfl, hg, hh2, hnc, hcm, by rw [Array.size_setIfInBounds]; exact hcs, ?_⟩⟩
        show (cur.setIfInBounds (i * 2) (.int .i64 z)).toList.take (xs.length * 2) = _
        rw [Array.toList_setIfInBounds, ← htk, List.take_set]
      · rw [List.length_set, List.length_zipIdx, List.length_set]; exact hil
      · intro j p hj
        rw [List.getElem?_zipIdx] at hj
        simp only [Nat.zero_add] at hj
        obtain ⟨y, hy, rfl⟩ := Option.map_eq_some_iff.1 hj
        by_cases e : j = i
        · subst e
          rw [List.getElem?_set_self (by omega)] at hy
          obtain rfl := Option.some.inj hy
          show k38.M w2 B _ _ (((inner.set (j * 2) (.int .i64 z)).drop (j * 2)).take 2)
          have e2 : ((inner.set (j * 2) (.int .i64 z)).drop (j * 2)).take 2 = [.int .i64 z, v] := by
            apply List.ext_getElem?
            intro q'
            rcases q' with _ | _ | q'
            · rw [List.getElem?_take_of_lt (by omega), List.getElem?_drop, Nat.add_zero, List.getElem?_set_self (by omega)]; rfl
            · rw [List.getElem?_take_of_lt (by omega), List.getElem?_drop, List.getElem?_set_ne (by omega)]; exact c1
            · rw [List.getElem?_take, if_neg (by omega)]; rfl
          rw [e2]
          refine k38_mkM w2 B _ ⟨z, t⟩ (Kd.R_mono ht (fun k hk' => ?_))
          exact hv.1 k hk'.symm
        · rw [List.getElem?_set_ne (fun h => e h.symm)] at hy
          have h2 := hr.2 j (y, j) (by rw [List.getElem?_zipIdx, hy]; simp)
          show k38.M w2 B _ _ (((inner.set (i * 2) (.int .i64 z)).drop (j * 2)).take 2)
          rw [chunk_other _ e]
          refine Kd.M_step h2 (fun k hk' hlt => hk k hlt (fun h => e ?_) (fun h => ?_))
          · exact hk'.2.symm.trans h.2
          · subst h; exact hk'.1.2 rfl
set_option maxHeartbeats 4000000 in
set_option maxRecDepth 100000 in
theorem laws_markStepS.calls (f : Nat → Nat) (P0_ : Nat → Prop) (A : Option Addr) (c : Nat) (l0 : List S38) (L : Nat → List S38) (pos : Nat → Int) (w0 w : World) (hB : Below w0.heap.size w0 w) (ho0 : (Kd.tag f k38).R 38 w w0.heap.size P0_ (.slice A l0.length c) l0.zipIdx) (h0 : L 0 = l0) (hlen : l0.length ≤ 1000)
    (hs : ∀ i (hi : i < l0.length), (L i).length = l0.length ∧ (L i)[i]? = some l0[i] ∧ 0 ≤ pos i ∧ pos i ≤ 1000000 ∧ ∃ k t, laws_markTxS.f k l0[i].f1 (pos i + 1) = some (pos (i + 1), t) ∧ L (i + 1) = (L i).set i ⟨pos i, t⟩) :
    Calls Tryd.prog 7 #[.slice A l0.length c, .int .i64 (pos 0)] w fun e w' => e = .returned (.int .i64 (pos l0.length)) ∧ (Kd.tag f k38).R 38 w' w0.heap.size (fun k_ => P0_ k_ ∨ w.heap.size ≤ k_) (.slice A l0.length c) (L l0.length).zipIdx ∧ Below w0.heap.size w0 w' ∧ Kept w w' (fun k_ => P0_ k_) := by
  have HS := Aside0.mk hs
  have HR := Aside0.mk ho0
  have HB := Aside0.mk hB
  have H0 := Aside0.mk h0
  clear hs ho0 hB h0
  go_enter Tryd.func7, Tryd.ntmps7
  go_wp2
  go_loopw [1, 5] (fun u1 u5 wr => ∃ i : Nat, i ≤ l0.length ∧ u1 = .int .i64 (pos i) ∧ u5 = .int .i64 i ∧ Aside0 ((Kd.tag f k38).R 38 wr w0.heap.size P0_ (.slice A l0.length c) (L i).zipIdx) ∧ Aside0 (Below w0.heap.size w0 wr) ∧ Aside0 (Kept w wr (fun k_ => P0_ k_))) (fun u1 u5 wr => l0.length - (intOf u5).toNat)
  case atStart => exact ⟨0, Nat.zero_le _, rfl, rfl, ⟨by rw [H0.out]; exact HR.out⟩, HB, ⟨Kept.refl _ _⟩⟩
  case round =>
    obtain ⟨i, hin, rfl, rfl, HRi, HBi, HKi⟩ := hrel
    by_cases hlt : i < l0.length
    · have hi := hlt
      obtain ⟨s1, s2, s3, s4, km, t, s5, s6⟩ := HS.out i hi
      have hi2 : i < (L i).length := by rw [s1]; exact hi
      have hx : (L i)[i] = l0[i] := Option.some.inj ((List.getElem?_eq_getElem hi2).symm.trans s2)
      obtain ⟨g, cap, v, e1, hg, hgl, hPg, k0, k1, k2, k3, k4⟩ := step_at HRi.out i hi2
      rw [hx] at k0 k3
      injection e1 with e1 e2 e3
      subst e1
      subst e3
      obtain ⟨w1, hw1⟩ : ∃ w1, w1 = wr.setCell ⟨g, i * 2, none⟩ (.int .i64 (pos i)) := ⟨_, rfl⟩
      have hgg : wr.grownBy w1 (some g) := by rw [hw1]; exact ⟨rfl, rfl, rfl, by simp [World.setCell], fun k _ hk => Below.heap_setCell wr _ _ k (fun e => hk (by rw [e]))⟩
      have d1 : w1.cell? ⟨g, i * 2 + 1, none⟩ = some v := by rw [hw1, World.cell?_setCell_other _ _ _ _ (by simp)]; exact k1
      have hB1 : Below w0.heap.size w0 w1 := by rw [hw1]; exact HBi.out.setCell (p := ⟨g, i * 2, none⟩) hg _
      have k3' : k45.R 45 w1 w0.heap.size (fun k => (P0_ k ∧ some k ≠ (Value.slice (some ⟨g, 0, none⟩) l0.length c).ownBlock) ∧ f k = i) v l0[i].f1 := Kd.R_grown k3 hgg (fun k hk => hk.1.2)
      have M := Aside0.mk (laws_markTxS.calls (w0 := w0) (hB := hB1) (ho0 := k3') (h := s5))
      have D := Aside0.mk d1
      have W1 := Aside0.mk hw1
      have K4 := Aside0.mk k4
      have K3 := Aside0.mk k3'
      have S6 := Aside0.mk s6
      have K0 := Aside0.mk k0
      have K2 := Aside0.mk (k2 (i * 2))
      have HP := Aside0.mk hPg
      clear hw1 d1 k3' k3 k4 s5 s6 k0 k1 k2 hx s2 hi2 s1 e2
      go_wp2_with (first | ((with_reducible refine gate_put rfl ?_); refine ev_storeV (A := ⟨g, i * 2, none⟩) (v := .int .i64 (pos i)) rfl rfl rfl rfl rfl rfl K0.out K2.out rfl ?_; rw [← W1.out]) | ((with_reducible refine gate_dst (N := 23) rfl ?_); refine ev_loadV (A := ⟨g, i * 2 + 1, none⟩) rfl rfl rfl D.out ?_) | ((with_reducible refine gate_dst (N := 25) rfl ?_); refine ev_call (some 25) rfl rfl Tryd.func19 (by kernel_rfl) rfl rfl (by simp only [List.map_toArray, List.map_cons, List.map_nil, i64_w]; rfl) ?_; refine M.out.mono ?_; rintro e w2 ⟨rfl, hR2, hB2, hK2⟩; refine ⟨_, rfl, ?_⟩))
      go_roundw
      case rel =>
        have hb1 : wr.heap.size = w1.heap.size := by rw [W1.out]; simp [World.setCell]
        refine ⟨i + 1, hlt, rfl, by first | rfl | go_num, ⟨?_⟩, ⟨hB2⟩, ⟨?_⟩⟩
        · rw [S6.out]
          refine K4.out w2 (pos i) t ?_ (fun k hk hn' hne => ?_) (Kd.R_tight rfl hR2)
          · rw [hK2.2 g (by omega) (fun h => h.1.2 rfl), W1.out]
          · rw [hK2.2 k (by omega) hn', W1.out]
            exact Below.heap_setCell wr _ _ k hne
        · refine ⟨Nat.le_trans HKi.out.1 (Nat.le_trans (Nat.le_of_eq hb1) hK2.1), fun k hk hn' => ?_⟩
          rw [hK2.2 k (by have := HKi.out.1; omega) (fun h => hn' h.1.1), W1.out]
          rw [Below.heap_setCell wr _ _ k (fun e => hn' (by subst e; exact HP.out))]
          exact HKi.out.2 k hk hn'
      case measure => simp [intOf]; omega
    · obtain rfl : i = l0.length := by omega
      go_wp2
      go_ret
      exact ⟨rfl, Kd.R_mono HRi.out (fun _ h => .inl h), HBi.out, HKi.out⟩
theorem SS_got {w0 w : World} {L : List Pc} {P : Program} {fn : Nat} {args : Array Value} {xs : List S38} {E : Value → Ending} (h : SS w0 w L) (hc : Calls P fn args w fun e' w' => ∃ v0, e' = E v0 ∧ Kd.S k38 38 w' w.heap.size (fun _ => True) v0 xs ∧ Below w.heap.size w w') :
    Calls P fn args w fun e' w' => ∃ f A c, e' = E (.slice A xs.length c) ∧ SS w0 w' (row (Kd.tag f k38) 38 (.slice A xs.length c) xs.zipIdx :: L) := hc.mono fun _ _ ⟨v0, he, ⟨f, r⟩, hb⟩ => by
  obtain ⟨A, c, hv, hs⟩ := h.got1 hb r
  subst hv
  rw [List.length_zipIdx] at hs he
  exact ⟨f, A, c, he, hs⟩
theorem SS_reads {w0 w : World} {L : List Pc} (h : SS w0 w L) (A : Option Addr) {f : Nat → Nat} {e n c i : Nat} {xs : List S38} {put : Value → List (S38 × Nat) → List Pc} [hR : RowIn L A i (Kd.tag f k38) e n c xs.zipIdx put] : Kd.C k38 w A xs.length xs := (Kd.S_reads' (n := n) ⟨f, h.out1 A⟩).2.2
theorem SS_cap {w0 w : World} {L : List Pc} (h : SS w0 w L) (A : Option Addr) {f : Nat → Nat} {e n c i : Nat} {xs : List S38} {put : Value → List (S38 × Nat) → List Pc} [hR : RowIn L A i (Kd.tag f k38) e n c xs.zipIdx put] : xs.length ≤ c := by
  have h1 := Kd.S_reads' (n := n) ⟨f, h.out1 A⟩
  omega
theorem mark_steps (f : Nat → Nat) (P0_ : Nat → Prop) (A : Option Addr) (c : Nat) (l0 ms : List S38) (m : Int) (L : Nat → List S38) (pos : Nat → Int) (w0 w : World) (hB : Below w0.heap.size w0 w) (ho0 : (Kd.tag f k38).R 38 w w0.heap.size P0_ (.slice A l0.length c) l0.zipIdx) (h0 : L 0 = l0) (hlen : l0.length ≤ 1000) (hp0 : pos 0 = 1) (hpn : pos l0.length = m) (hLn : L l0.length = ms)
    (hs : ∀ i (hi : i < l0.length), (L i).length = l0.length ∧ (L i)[i]? = some l0[i] ∧ 0 ≤ pos i ∧ pos i ≤ 1000000 ∧ ∃ k t, laws_markTxS.f k l0[i].f1 (pos i + 1) = some (pos (i + 1), t) ∧ L (i + 1) = (L i).set i ⟨pos i, t⟩) :
    Calls Tryd.prog 7 #[.slice A l0.length c, .int .i64 1] w fun e w' => e = .returned (.int .i64 m) ∧ (Kd.tag f k38).R 38 w' w0.heap.size (fun k_ => P0_ k_ ∨ w.heap.size ≤ k_) (.slice A l0.length c) ms.zipIdx ∧ Below w0.heap.size w0 w' ∧ Kept w w' (fun k_ => P0_ k_) := by
  rw [← hp0, ← hpn, ← hLn]
  exact laws_markStepS.calls f P0_ A c l0 L pos w0 w hB ho0 h0 hlen hs

set_option maxHeartbeats 8000000 in
set_option maxRecDepth 100000 in
theorem walk (s : ByteArray) (xs : List S38) (b : Bool) (ms : List S38) (m : Int) (w : World)  (k_h1 : Nat) (h1 : Aside0 (spec_Steps.f k_h1 s = some (xs, b)))
    (k_h2 : Nat) (h2 : Aside0 (impl_Steps.f k_h2 s = some (xs, b)))
    (k_he : Nat) (he : Aside0 (laws_eqStepS.f k_he xs xs = some true))
    (k_hh : Nat) (hh : Aside0 (laws_heldStepS.f k_hh ms 1 = some m)) (hLW : Aside0 (LaidW w)) (hsz : ¬ (1048576 : Int) < (s.size : Int)) (hm0 : ¬ m < 0) (L : Nat → List S38) (pos : Nat → Int) (hM : Aside0 (L 0 = xs ∧ xs.length ≤ 1000 ∧ pos 0 = 1 ∧ pos xs.length = m ∧ L xs.length = ms ∧ ∀ i (hi : i < xs.length), (L i).length = xs.length ∧ (L i)[i]? = some xs[i] ∧ 0 ≤ pos i ∧ pos i ≤ 1000000 ∧ ∃ k t, laws_markTxS.f k xs[i].f1 (pos i + 1) = some (pos (i + 1), t) ∧ L (i + 1) = (L i).set i ⟨pos i, t⟩)) (hl_ms : Aside0 (xs.length = ms.length)) :
    Calls Tryd.prog 3 #[.string s] w fun e w' => e = .returned (.bool true) ∧ Below w.heap.size w w' := by
  have HS := SS.nil w
  go_enter Tryd.func3, Tryd.ntmps3
  go_wp2_with (first | ((with_reducible refine gate_dst (N := 16) rfl ?_); refine ev_call (some 16) rfl rfl Tryd.func4 (by kernel_rfl) rfl rfl (by simp only [List.map_toArray, List.map_cons, List.map_nil]; rfl) ?_; refine (SS_got HS (spec_Steps.calls (w := _) (h := h1.out))).mono ?_; clear HS; rintro e w1 ⟨f16, A16, c16, rfl, HS⟩; refine ⟨_, rfl, ?_⟩) | ((with_reducible refine gate_dst (N := 21) rfl ?_); refine ev_call (some 21) rfl rfl Tryd.func5 (by kernel_rfl) rfl rfl (by simp only [List.map_toArray, List.map_cons, List.map_nil]; rfl) ?_; refine (SS_got HS (impl_Steps.calls (w := _) (hL := LaidW.below hLW.out HS.below) (h := h2.out))).mono ?_; clear HS; rintro e w1 ⟨f21, A21, c21, rfl, HS⟩; refine ⟨_, rfl, ?_⟩) | ((with_reducible refine gate_dst (N := 26) rfl ?_); refine ev_call (some 26) rfl rfl Tryd.func6 (by kernel_rfl) rfl rfl (by simp only [List.map_toArray, List.map_cons, List.map_nil]; rfl) ?_; refine (HS.val (laws_eqStepS.calls (w := _) (hr0 := SS_reads HS A21) (hc0 := SS_cap HS A21) (hr1 := SS_reads HS A16) (hc1 := SS_cap HS A16) (h := he.out))).mono ?_; clear HS; rintro e w1 ⟨rfl, HS⟩; refine ⟨_, rfl, ?_⟩) | ((with_reducible refine gate_dst (N := 35) rfl ?_); refine ev_call (some 35) rfl rfl Tryd.func7 (by kernel_rfl) rfl rfl (by simp only [List.map_toArray, List.map_cons, List.map_nil]; rfl) ?_; refine (HS.mark A21 (fun F hF => mark_steps f21 F A21 c21 xs ms m L pos w _ HS.below hF hM.out.1 hM.out.2.1 hM.out.2.2.1 hM.out.2.2.2.1 hM.out.2.2.2.2.1 hM.out.2.2.2.2.2)).mono ?_; clear HS; rintro e w1 ⟨rfl, HS⟩; refine ⟨_, rfl, ?_⟩) | ((with_reducible refine gate_dst (N := 38) rfl ?_); refine ev_call (some 38) rfl rfl Tryd.func8 (by kernel_rfl) rfl rfl (by simp only [List.map_toArray, List.map_cons, List.map_nil]; rfl) ?_; refine (calls_at (by rw [← hl_ms.out]; try rfl) (HS.valD (laws_heldStepS.calls (w := _) (hr0 := SS_reads HS A21) (hc0 := SS_cap HS A21) (h := hh.out)))).mono ?_; clear HS; rintro e w1 ⟨rfl, HS⟩; refine ⟨_, rfl, ?_⟩) | ((with_reducible refine gate_dst (N := 46) rfl ?_); refine ev_call (some 46) rfl rfl Tryd.func5 (by kernel_rfl) rfl rfl (by simp only [List.map_toArray, List.map_cons, List.map_nil]; rfl) ?_; refine (SS_got HS (impl_Steps.calls (w := _) (hL := LaidW.below hLW.out HS.below) (h := h2.out))).mono ?_; clear HS; rintro e w1 ⟨f46, A46, c46, rfl, HS⟩; refine ⟨_, rfl, ?_⟩) | ((with_reducible refine gate_dst (N := 51) rfl ?_); refine ev_call (some 51) rfl rfl Tryd.func6 (by kernel_rfl) rfl rfl (by simp only [List.map_toArray, List.map_cons, List.map_nil]; rfl) ?_; refine (HS.val (laws_eqStepS.calls (w := _) (hr0 := SS_reads HS A46) (hc0 := SS_cap HS A46) (hr1 := SS_reads HS A16) (hc1 := SS_cap HS A16) (h := he.out))).mono ?_; clear HS; rintro e w1 ⟨rfl, HS⟩; refine ⟨_, rfl, ?_⟩) | ((with_reducible refine gate_dst (N := 60) rfl ?_); refine ev_call (some 60) rfl rfl Tryd.func8 (by kernel_rfl) rfl rfl (by simp only [List.map_toArray, List.map_cons, List.map_nil]; rfl) ?_; refine (calls_at (by rw [← hl_ms.out]; try rfl) (HS.valD (laws_heldStepS.calls (w := _) (hr0 := SS_reads HS A21) (hc0 := SS_cap HS A21) (h := hh.out)))).mono ?_; clear HS; rintro e w1 ⟨rfl, HS⟩; refine ⟨_, rfl, ?_⟩))
  go_ret
  exact ⟨rfl, HS.below⟩

set_option maxHeartbeats 8000000 in
set_option maxRecDepth 100000 in
theorem walk0 (s : ByteArray) (w : World)   (hsz : (1048576 : Int) < (s.size : Int)) :
    Calls Tryd.prog 3 #[.string s] w fun e w' => e = .returned (.bool true) ∧ Below w.heap.size w w' := by
  have HS := SS.nil w
  go_enter Tryd.func3, Tryd.ntmps3
  go_wp2
  go_ret
  exact ⟨rfl, HS.below⟩
end w0
end Go.Proofs.YtkeplglaiikfhaaDoor.Law
