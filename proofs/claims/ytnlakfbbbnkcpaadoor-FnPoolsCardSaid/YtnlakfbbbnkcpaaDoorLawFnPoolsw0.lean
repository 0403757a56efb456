/- Walks of a law on its true paths, printed by this session's wip/mklaw.py; no condition of their own. -/
import Derived.Test.YtnlakfbbbnkcpaaDoorPFnPoolsx0
import Derived.Test.YtnlakfbbbnkcpaaDoorPFnPoolsx1
import Derived.Test.YtnlakfbbbnkcpaaDoorPFnPoolsx2
import Derived.Test.YtnlakfbbbnkcpaaDoorPFnPoolsx3
import Derived.Test.YtnlakfbbbnkcpaaDoorPFnPoolsx4
import Derived.Test.YtnlakfbbbnkcpaaDoorPFnPoolsx5
import Derived.Test.YtnlakfbbbnkcpaaDoorPFnPoolsx6
import Derived.Test.YtnlakfbbbnkcpaaDoorPFnPoolsx7
import Derived.Test.YtnlakfbbbnkcpaaDoorPFnPoolsx8
import Derived.Test.YtnlakfbbbnkcpaaDoorPFnPoolsx9
import Derived.Test.YtnlakfbbbnkcpaaDoorPFnPoolsx10
import Derived.Test.YtnlakfbbbnkcpaaDoorPFnPoolsx11
import Derived.Test.YtnlakfbbbnkcpaaDoorPFnPoolsx12
import Derived.Test.YtnlakfbbbnkcpaaDoorPFnPoolsx13
import Derived.Test.YtnlakfbbbnkcpaaDoorPFnPoolsx14
import Derived.Test.YtnlakfbbbnkcpaaDoorH
namespace Go.Proofs.YtnlakfbbbnkcpaaDoor.Law
open Go.RowKit Go.Proofs.YtnlakfbbbnkcpaaDoorW.PrintWords Go.Proofs.YtnlakfbbbnkcpaaDoorW.PrintLast Go.Proofs.YtnlakfbbbnkcpaaDoorW.PrintMore Go.Proofs.YtnlakfbbbnkcpaaDoorH Go.Proofs.YtnlakfbbbnkcpaaDoor.PFnPools
set_option linter.unusedVariables false
set_option linter.unusedSimpArgs false
local instance : ZeroT Tryd.prog 26 #[.int .i64 0, .int .i64 0, .int .i64 0, .int .i64 0] := ⟨by kernel_rfl⟩
local instance : AggT Tryd.prog 26 4 := ⟨by kernel_rfl, by kernel_rfl⟩
local instance : ZeroT Tryd.prog 33 #[.slice none 0 0, .slice none 0 0] := ⟨by kernel_rfl⟩
local instance : AggT Tryd.prog 33 2 := ⟨by kernel_rfl, by kernel_rfl⟩
namespace w0
theorem SS.get3d {P : Program} {f : FuncId} {args : Array Value} {w0 w : World} {L : List Pc} {α β γ : Type} {d : Kd α} {d' : Kd β} {d'' : Kd γ} {e e' e'' : Nat} {xs : List α} {ys : List β} {zs : List γ} {ok ok' : Value → Value → Value → Nat → Prop} {E : Value → Value → Value → Ending} (h : SS w0 w L) (hE : d.E = []) (hE' : d'.E = []) (hE'' : d''.E = []) (hn : e ≠ e') (hn' : e ≠ e'')
    (hc : Calls P f args w fun x w' => ∃ v0 v1 v2, x = E v0 v1 v2 ∧ d.R e w' w.heap.size (ok v0 v1 v2) v0 xs ∧ d'.R e' w' w.heap.size (fun k_ => some k_ ≠ v2.ownBlock) v1 ys ∧ d''.R e'' w' w.heap.size (ok' v0 v1 v2) v2 zs ∧ Below w.heap.size w w') :
    Calls P f args w fun x w' => ∃ A c A' c' A'' c'', x = E (.slice A xs.length c) (.slice A' ys.length c') (.slice A'' zs.length c'') ∧ SS w0 w' (row d e (.slice A xs.length c) xs :: row d' e' (.slice A' ys.length c') ys :: row d'' e'' (.slice A'' zs.length c'') zs :: L) := hc.mono fun _ _ ⟨v0, v1, v2, he, r, r', r'', hb⟩ => by
  obtain ⟨A, c, rfl⟩ := Kd.R_slice r
  obtain ⟨A', c', rfl⟩ := Kd.R_slice r'
  obtain ⟨A'', c'', rfl⟩ := Kd.R_slice r''
  exact ⟨A, c, A', c', A'', c'', he, h.pushs hb (New.row h.below.size (New.row h.below.size (New.row h.below.size .nil hE'' r'' (fun _ _ h => h)) hE' r' (fun k h1 h2 => h2.elim (own_apart r' (fun _ h => h) k h1) id)) hE r (fun k h1 h2 => h2.elim (own_types r r' hn k h1) (fun h2 => h2.elim (own_types r r'' hn' k h1) id)))⟩

set_option maxHeartbeats 8000000 in
set_option maxRecDepth 100000 in
theorem walkT (A0 : Option Addr) (c0 : Nat) (l : List Int) (p a q t d a2 : List S26) (x0 x1 x2 x3 : Int) (h n mh mn mc : List Int) (s : ByteArray) (pk : Bool) (w : World) (hr0 : Aside0 (Kd.C (Kd.int .u8) w A0 l.length l)) (hc0 : Aside0 (l.length ≤ c0)) (hb : Aside0 (laws_big.f l = some false))
    (k_h1 : Nat) (h1 : Aside0 (spec_DrawPoolAdd.f k_h1 l = some (p, x0, x1, x2, x3)))
    (k_h2 : Nat) (h2 : Aside0 (impl_PoolAdd.f k_h2 p x0 x1 x2 x3 = some (a, true)))
    (k_h3 : Nat) (h3 : Aside0 (spec_PoolAdd.f k_h3 p x0 x1 x2 x3 = some (a, true)))
    (k_h4 : Nat) (h4 : Aside0 (spec_DrawPoolTake.f k_h4 l = some (q, h, n)))
    (k_h5 : Nat) (h5 : Aside0 (impl_PoolTake.f k_h5 q h n = some t))
    (k_h6 : Nat) (h6 : Aside0 (impl_PoolDrop.f k_h6 q h n = some d))
    (k_h7 : Nat) (h7 : Aside0 (impl_TxsText.f k_h7 a = some s))
    (k_h8 : Nat) (h8 : Aside0 (spec_TxsText.f k_h8 a = some s))
    (k_h9 : Nat) (h9 : Aside0 (spec_PoolTake.f k_h9 q h n = some t))
    (k_h10 : Nat) (h10 : Aside0 (laws_sameTxs.f k_h10 t t = some true))
    (k_h11 : Nat) (h11 : Aside0 (spec_PoolDrop.f k_h11 q h n = some d))
    (k_h12 : Nat) (h12 : Aside0 (laws_sameTxs.f k_h12 d d = some true))
    (k_h13 : Nat) (h13 : Aside0 (impl_PoolOk.f k_h13 p = some pk))
    (k_h14 : Nat) (h14 : Aside0 (spec_PoolOk.f k_h14 p = some pk))
    (k_h15 : Nat) (h15 : Aside0 (impl_PayAll.f k_h15 h n t = some (mh, mn, mc)))
    (k_h16 : Nat) (h16 : Aside0 (impl_PoolAdd.f k_h16 a x0 x1 x2 x3 = some (a2, false)))
    (k_h17 : Nat) (h17 : Aside0 (impl_PoolOk.f k_h17 a = some true)) (hLW : Aside0 (LaidW w)) (hml : mc.length ≤ 1000) (hmc : Aside0 (∀ j : Int, 0 ≤ j → j < (mc.length : Int) → rd mc j = 0 ∨ rd mc j = 4)) (g1 : ((a.length : Int) == wrap64 ((p.length : Int) + 1)) = true) (g3 : decide ((t.length : Int) ≤ 2) = true) (g4 : decide (t.length ≤ 2) = true) (g5 : decide ((d.length : Int) ≤ (q.length : Int)) = true) (g6 : decide (d.length ≤ q.length) = true) :
    Calls Tryd.prog 3 #[.slice A0 l.length c0] w fun e w' => e = .returned (.bool true) ∧ Below w.heap.size w w' := by
  have HS := SS.nil w
  go_enter Tryd.func3, Tryd.ntmps3
  go_wp2_with (first | ((with_reducible refine gate_dst (N := 19) rfl ?_); refine ev_call (some 19) rfl rfl Tryd.func4 (by kernel_rfl) rfl rfl (by simp only [List.map_toArray, List.map_cons, List.map_nil]; rfl) ?_; refine (HS.valD (laws_big.calls (w := _) (hr0 := Kd.C_below hr0.out HS.below) (hc0 := hc0.out) (h := hb.out))).mono ?_; clear HS; rintro e w1 ⟨rfl, HS⟩; refine ⟨_, rfl, ?_⟩) | ((with_reducible refine gate_dst (N := 22) rfl ?_); refine ev_call (some 22) rfl rfl Tryd.func5 (by kernel_rfl) rfl rfl (by simp only [List.map_toArray, List.map_cons, List.map_nil]; rfl) ?_; refine (HS.get1 (spec_DrawPoolAdd.calls (w := _) (hr0 := Kd.C_below hr0.out HS.below) (hc0 := hc0.out) (h := h1.out))).mono ?_; clear HS; rintro e w1 ⟨A22, c22, rfl, HS⟩; refine ⟨_, rfl, ?_⟩) | ((with_reducible refine gate_dst (N := 4) rfl ?_); refine ev_alloc HS rfl rfl ?_; clear HS; intro g4 w1 HS) | ((with_reducible refine gate_put rfl ?_); (first | refine ev_storeC HS rfl rfl rfl rfl rfl (by rfl) (by rfl) ?_ | refine ev_storeS HS rfl rfl rfl rfl rfl (by rfl) (by rfl) (by rfl) ?_); clear HS; intro w1 HS) | ((with_reducible refine gate_load rfl ?_); first | refine ev_loadC HS rfl rfl rfl (by rfl) ?_ | refine ev_loadS HS rfl rfl rfl (by rfl) ?_) | ((with_reducible refine gate_dst (N := 28) rfl ?_); refine ev_call (some 28) rfl rfl Tryd.func6 (by kernel_rfl) rfl rfl (by simp only [List.map_toArray, List.map_cons, List.map_nil]; rfl) ?_; refine (HS.get1 (impl_PoolAdd.calls (w := _) (hr0 := HS.reads A22) (hc0 := HS.cap A22) (h := h2.out))).mono ?_; clear HS; rintro e w1 ⟨A28, c28, rfl, HS⟩; refine ⟨_, rfl, ?_⟩) | ((with_reducible refine gate_dst (N := 34) rfl ?_); refine ev_call (some 34) rfl rfl Tryd.func7 (by kernel_rfl) rfl rfl (by simp only [List.map_toArray, List.map_cons, List.map_nil]; rfl) ?_; refine (HS.get1 (spec_PoolAdd.calls (w := _) (hr0 := HS.reads A22) (hc0 := HS.cap A22) (h := h3.out))).mono ?_; clear HS; rintro e w1 ⟨A34, c34, rfl, HS⟩; refine ⟨_, rfl, ?_⟩) | ((with_reducible refine gate_dst (N := 39) rfl ?_); refine ev_call (some 39) rfl rfl Tryd.func8 (by kernel_rfl) rfl rfl (by simp only [List.map_toArray, List.map_cons, List.map_nil]; rfl) ?_; refine (SS.get3d HS rfl rfl rfl (by decide) (by decide) (spec_DrawPoolTake.calls (w := _) (hr0 := Kd.C_below hr0.out HS.below) (hc0 := hc0.out) (h := h4.out))).mono ?_; clear HS; rintro e w1 ⟨A39, c39, B39, d39, C39, e39, rfl, HS⟩; refine ⟨_, rfl, ?_⟩) | ((with_reducible refine gate_dst (N := 10) rfl ?_); refine ev_alloc HS rfl rfl ?_; clear HS; intro g10 w1 HS) | ((with_reducible refine gate_dst (N := 44) rfl ?_); refine ev_call (some 44) rfl rfl Tryd.func9 (by kernel_rfl) rfl rfl (by simp only [List.map_toArray, List.map_cons, List.map_nil]; rfl) ?_; refine (HS.get1 (impl_PoolTake.calls (w := _) (hr0 := HS.reads A39) (hc0 := HS.cap A39) (hr1_0 := HS.reads B39) (hc1_0 := HS.cap B39) (hr1_1 := HS.reads C39) (hc1_1 := HS.cap C39) (h := h5.out))).mono ?_; clear HS; rintro e w1 ⟨A44, c44, rfl, HS⟩; refine ⟨_, rfl, ?_⟩) | ((with_reducible refine gate_dst (N := 47) rfl ?_); refine ev_call (some 47) rfl rfl Tryd.func10 (by kernel_rfl) rfl rfl (by simp only [List.map_toArray, List.map_cons, List.map_nil]; rfl) ?_; refine (HS.get1 (impl_PoolDrop.calls (w := _) (hr0 := HS.reads A39) (hc0 := HS.cap A39) (hr1_0 := HS.reads B39) (hc1_0 := HS.cap B39) (hr1_1 := HS.reads C39) (hc1_1 := HS.cap C39) (h := h6.out))).mono ?_; clear HS; rintro e w1 ⟨A47, c47, rfl, HS⟩; refine ⟨_, rfl, ?_⟩) | ((with_reducible refine gate_dst (N := 53) rfl ?_); refine ev_call (some 53) rfl rfl Tryd.func11 (by kernel_rfl) rfl rfl (by simp only [List.map_toArray, List.map_cons, List.map_nil]; rfl) ?_; refine (HS.val (impl_TxsText.calls (w := _) (hL := LaidW.below hLW.out HS.below) (hr0 := HS.reads A28) (hc0 := HS.cap A28) (h := h7.out))).mono ?_; clear HS; rintro e w1 ⟨rfl, HS⟩; refine ⟨_, rfl, ?_⟩) | ((with_reducible refine gate_dst (N := 55) rfl ?_); refine ev_call (some 55) rfl rfl Tryd.func12 (by kernel_rfl) rfl rfl (by simp only [List.map_toArray, List.map_cons, List.map_nil]; rfl) ?_; refine (HS.val (spec_TxsText.calls (w := _) (hr0 := HS.reads A34) (hc0 := HS.cap A34) (h := h8.out))).mono ?_; clear HS; rintro e w1 ⟨rfl, HS⟩; refine ⟨_, rfl, ?_⟩) | ((with_reducible refine gate_dst (N := 69) rfl ?_); refine ev_call (some 69) rfl rfl Tryd.func14 (by kernel_rfl) rfl rfl (by simp only [List.map_toArray, List.map_cons, List.map_nil]; rfl) ?_; refine (HS.get1 (spec_PoolTake.calls (w := _) (hr0 := HS.reads A39) (hc0 := HS.cap A39) (hr1_0 := HS.reads B39) (hc1_0 := HS.cap B39) (hr1_1 := HS.reads C39) (hc1_1 := HS.cap C39) (h := h9.out))).mono ?_; clear HS; rintro e w1 ⟨A69, c69, rfl, HS⟩; refine ⟨_, rfl, ?_⟩) | ((with_reducible refine gate_dst (N := 70) rfl ?_); refine ev_call (some 70) rfl rfl Tryd.func13 (by kernel_rfl) rfl rfl (by simp only [List.map_toArray, List.map_cons, List.map_nil]; rfl) ?_; refine (HS.valD (laws_sameTxs.calls (w := _) (hr0 := HS.reads A44) (hc0 := HS.cap A44) (hr1 := HS.reads A69) (hc1 := HS.cap A69) (h := h10.out))).mono ?_; clear HS; rintro e w1 ⟨rfl, HS⟩; refine ⟨_, rfl, ?_⟩) | ((with_reducible refine gate_dst (N := 77) rfl ?_); refine ev_call (some 77) rfl rfl Tryd.func15 (by kernel_rfl) rfl rfl (by simp only [List.map_toArray, List.map_cons, List.map_nil]; rfl) ?_; refine (HS.get1 (spec_PoolDrop.calls (w := _) (hr0 := HS.reads A39) (hc0 := HS.cap A39) (hr1_0 := HS.reads B39) (hc1_0 := HS.cap B39) (hr1_1 := HS.reads C39) (hc1_1 := HS.cap C39) (h := h11.out))).mono ?_; clear HS; rintro e w1 ⟨A77, c77, rfl, HS⟩; refine ⟨_, rfl, ?_⟩) | ((with_reducible refine gate_dst (N := 78) rfl ?_); refine ev_call (some 78) rfl rfl Tryd.func13 (by kernel_rfl) rfl rfl (by simp only [List.map_toArray, List.map_cons, List.map_nil]; rfl) ?_; refine (HS.valD (laws_sameTxs.calls (w := _) (hr0 := HS.reads A47) (hc0 := HS.cap A47) (hr1 := HS.reads A77) (hc1 := HS.cap A77) (h := h12.out))).mono ?_; clear HS; rintro e w1 ⟨rfl, HS⟩; refine ⟨_, rfl, ?_⟩) | ((with_reducible refine gate_dst (N := 83) rfl ?_); refine ev_call (some 83) rfl rfl Tryd.func16 (by kernel_rfl) rfl rfl (by simp only [List.map_toArray, List.map_cons, List.map_nil]; rfl) ?_; refine (HS.val (impl_PoolOk.calls (w := _) (hr0 := HS.reads A22) (hc0 := HS.cap A22) (h := h13.out))).mono ?_; clear HS; rintro e w1 ⟨rfl, HS⟩; refine ⟨_, rfl, ?_⟩) | ((with_reducible refine gate_dst (N := 85) rfl ?_); refine ev_call (some 85) rfl rfl Tryd.func17 (by kernel_rfl) rfl rfl (by simp only [List.map_toArray, List.map_cons, List.map_nil]; rfl) ?_; refine (HS.val (spec_PoolOk.calls (w := _) (hr0 := HS.reads A22) (hc0 := HS.cap A22) (h := h14.out))).mono ?_; clear HS; rintro e w1 ⟨rfl, HS⟩; refine ⟨_, rfl, ?_⟩) | ((with_reducible refine gate_dst (N := 91) rfl ?_); refine ev_call (some 91) rfl rfl Tryd.func18 (by kernel_rfl) rfl rfl (by simp only [List.map_toArray, List.map_cons, List.map_nil]; rfl) ?_; refine (HS.get3 rfl rfl rfl (impl_PayAll.calls (w := _) (hr0_0 := HS.reads B39) (hc0_0 := HS.cap B39) (hr0_1 := HS.reads C39) (hc0_1 := HS.cap C39) (hr1 := HS.reads A44) (hc1 := HS.cap A44) (h := h15.out))).mono ?_; clear HS; rintro e w1 ⟨A91, c91, B91, d91, C91, e91, rfl, HS⟩; refine ⟨_, rfl, ?_⟩) | ((with_reducible refine gate_dst (N := 13) rfl ?_); refine ev_alloc HS rfl rfl ?_; clear HS; intro g13 w1 HS))
  go_loopw [15] (fun u15 wr => ∃ (j : Int), 0 ≤ j ∧ j ≤ (mc.length : Int) ∧ u15 = .int .i64 j ∧ SS w wr [box g13 #[.slice A91 mh.length c91, .slice B91 mn.length d91] 33, row (Kd.int .i64) 3 (.slice A91 mh.length c91) mh, row (Kd.int .i64) 3 (.slice B91 mn.length d91) mn, row (Kd.int .i64) 3 (.slice C91 mc.length e91) mc, row k26 26 (.slice A77 d.length c77) d, row k26 26 (.slice A69 t.length c69) t, row k26 26 (.slice A47 d.length c47) d, row k26 26 (.slice A44 t.length c44) t, box g10 #[.slice B39 h.length d39, .slice C39 n.length e39] 33, row k26 26 (.slice A39 q.length c39) q, row (Kd.int .i64) 3 (.slice B39 h.length d39) h, row (Kd.int .i64) 3 (.slice C39 n.length e39) n, row k26 26 (.slice A34 a.length c34) a, row k26 26 (.slice A28 a.length c28) a, box g4 #[.int .i64 x0, .int .i64 x1, .int .i64 x2, .int .i64 x3] 26, row k26 26 (.slice A22 p.length c22) p]) (fun u15 wr => mc.length - (intOf u15).toNat)
  case atStart => exact ⟨0, by omega, by omega, rfl, HS⟩
  case round =>
    clear HS
    obtain ⟨j, j0, j1, rfl, HS⟩ := hrel
    by_cases hlt : j < (mc.length : Int)
    · have hq := hmc.out j j0 hlt
      obtain ⟨bp, rfl⟩ := HS.form C91 (by omega)
      by_cases hz : rd mc j = 0
      · have e1 : (rd mc j != 0) = false := by rw [hz]; rfl
        clear hq hz
        go_wp2_with (first | ((with_reducible refine gate_load rfl ?_); refine ev_loadI HS rfl rfl rfl (by assumption) (by assumption) ?_))
        go_roundw
        case rel => exact ⟨j + 1, by omega, by omega, by first | rfl | rw [show wrap64 (j + 1) = j + 1 from by unfold wrap64; omega], HS⟩
        case measure => first | (simp [intOf]; omega) | (rw [show wrap64 (j + 1) = j + 1 from by unfold wrap64; omega]; simp [intOf]; omega)
      · have h4 := hq.resolve_left hz
        have e1 : (rd mc j != 0) = true := bne_iff_ne.mpr hz
        have e2 : (rd mc j != 4) = false := by rw [h4]; rfl
        clear hq hz h4
        go_wp2_with (first | ((with_reducible refine gate_load rfl ?_); refine ev_loadI HS rfl rfl rfl (by assumption) (by assumption) ?_))
        go_roundw
        case rel => exact ⟨j + 1, by omega, by omega, by first | rfl | rw [show wrap64 (j + 1) = j + 1 from by unfold wrap64; omega], HS⟩
        case measure => first | (simp [intOf]; omega) | (rw [show wrap64 (j + 1) = j + 1 from by unfold wrap64; omega]; simp [intOf]; omega)
    · clear hmc
      go_wp2_with (first | ((with_reducible refine gate_load rfl ?_); first | refine ev_loadC HS rfl rfl rfl (by rfl) ?_ | refine ev_loadS HS rfl rfl rfl (by rfl) ?_) | ((with_reducible refine gate_dst (N := 122) rfl ?_); refine ev_call (some 122) rfl rfl Tryd.func6 (by kernel_rfl) rfl rfl (by simp only [List.map_toArray, List.map_cons, List.map_nil]; rfl) ?_; refine (HS.get1 (impl_PoolAdd.calls (w := _) (hr0 := HS.reads A28) (hc0 := HS.cap A28) (h := h16.out))).mono ?_; clear HS; rintro e w1 ⟨A122, c122, rfl, HS⟩; refine ⟨_, rfl, ?_⟩) | ((with_reducible refine gate_dst (N := 126) rfl ?_); refine ev_call (some 126) rfl rfl Tryd.func16 (by kernel_rfl) rfl rfl (by simp only [List.map_toArray, List.map_cons, List.map_nil]; rfl) ?_; refine (HS.val (impl_PoolOk.calls (w := _) (hr0 := HS.reads A28) (hc0 := HS.cap A28) (h := h17.out))).mono ?_; clear HS; rintro e w1 ⟨rfl, HS⟩; refine ⟨_, rfl, ?_⟩))
      go_ret
      exact ⟨rfl, HS.below⟩

set_option maxHeartbeats 8000000 in
set_option maxRecDepth 100000 in
theorem walkF (A0 : Option Addr) (c0 : Nat) (l : List Int) (p a q t d : List S26) (x0 x1 x2 x3 : Int) (h n mh mn mc : List Int) (s : ByteArray) (pk : Bool) (w : World) (hr0 : Aside0 (Kd.C (Kd.int .u8) w A0 l.length l)) (hc0 : Aside0 (l.length ≤ c0)) (hb : Aside0 (laws_big.f l = some false))
    (k_h1 : Nat) (h1 : Aside0 (spec_DrawPoolAdd.f k_h1 l = some (p, x0, x1, x2, x3)))
    (k_h2 : Nat) (h2 : Aside0 (impl_PoolAdd.f k_h2 p x0 x1 x2 x3 = some (a, false)))
    (k_h3 : Nat) (h3 : Aside0 (spec_PoolAdd.f k_h3 p x0 x1 x2 x3 = some (a, false)))
    (k_h4 : Nat) (h4 : Aside0 (spec_DrawPoolTake.f k_h4 l = some (q, h, n)))
    (k_h5 : Nat) (h5 : Aside0 (impl_PoolTake.f k_h5 q h n = some t))
    (k_h6 : Nat) (h6 : Aside0 (impl_PoolDrop.f k_h6 q h n = some d))
    (k_h7 : Nat) (h7 : Aside0 (impl_TxsText.f k_h7 a = some s))
    (k_h8 : Nat) (h8 : Aside0 (spec_TxsText.f k_h8 a = some s))
    (k_h9 : Nat) (h9 : Aside0 (spec_PoolTake.f k_h9 q h n = some t))
    (k_h10 : Nat) (h10 : Aside0 (laws_sameTxs.f k_h10 t t = some true))
    (k_h11 : Nat) (h11 : Aside0 (spec_PoolDrop.f k_h11 q h n = some d))
    (k_h12 : Nat) (h12 : Aside0 (laws_sameTxs.f k_h12 d d = some true))
    (k_h13 : Nat) (h13 : Aside0 (impl_PoolOk.f k_h13 p = some pk))
    (k_h14 : Nat) (h14 : Aside0 (spec_PoolOk.f k_h14 p = some pk))
    (k_h15 : Nat) (h15 : Aside0 (impl_PayAll.f k_h15 h n t = some (mh, mn, mc))) (hLW : Aside0 (LaidW w)) (hml : mc.length ≤ 1000) (hmc : Aside0 (∀ j : Int, 0 ≤ j → j < (mc.length : Int) → rd mc j = 0 ∨ rd mc j = 4)) (g1 : ((a.length : Int) == (p.length : Int)) = true) (g2 : (a.length == p.length) = true) :
    Calls Tryd.prog 3 #[.slice A0 l.length c0] w fun e w' => e = .returned (.bool true) ∧ Below w.heap.size w w' := by
  have HS := SS.nil w
  go_enter Tryd.func3, Tryd.ntmps3
  go_wp2_with (first | ((with_reducible refine gate_dst (N := 19) rfl ?_); refine ev_call (some 19) rfl rfl Tryd.func4 (by kernel_rfl) rfl rfl (by simp only [List.map_toArray, List.map_cons, List.map_nil]; rfl) ?_; refine (HS.valD (laws_big.calls (w := _) (hr0 := Kd.C_below hr0.out HS.below) (hc0 := hc0.out) (h := hb.out))).mono ?_; clear HS; rintro e w1 ⟨rfl, HS⟩; refine ⟨_, rfl, ?_⟩) | ((with_reducible refine gate_dst (N := 22) rfl ?_); refine ev_call (some 22) rfl rfl Tryd.func5 (by kernel_rfl) rfl rfl (by simp only [List.map_toArray, List.map_cons, List.map_nil]; rfl) ?_; refine (HS.get1 (spec_DrawPoolAdd.calls (w := _) (hr0 := Kd.C_below hr0.out HS.below) (hc0 := hc0.out) (h := h1.out))).mono ?_; clear HS; rintro e w1 ⟨A22, c22, rfl, HS⟩; refine ⟨_, rfl, ?_⟩) | ((with_reducible refine gate_dst (N := 4) rfl ?_); refine ev_alloc HS rfl rfl ?_; clear HS; intro g4 w1 HS) | ((with_reducible refine gate_put rfl ?_); (first | refine ev_storeC HS rfl rfl rfl rfl rfl (by rfl) (by rfl) ?_ | refine ev_storeS HS rfl rfl rfl rfl rfl (by rfl) (by rfl) (by rfl) ?_); clear HS; intro w1 HS) | ((with_reducible refine gate_load rfl ?_); first | refine ev_loadC HS rfl rfl rfl (by rfl) ?_ | refine ev_loadS HS rfl rfl rfl (by rfl) ?_) | ((with_reducible refine gate_dst (N := 28) rfl ?_); refine ev_call (some 28) rfl rfl Tryd.func6 (by kernel_rfl) rfl rfl (by simp only [List.map_toArray, List.map_cons, List.map_nil]; rfl) ?_; refine (HS.get1 (impl_PoolAdd.calls (w := _) (hr0 := HS.reads A22) (hc0 := HS.cap A22) (h := h2.out))).mono ?_; clear HS; rintro e w1 ⟨A28, c28, rfl, HS⟩; refine ⟨_, rfl, ?_⟩) | ((with_reducible refine gate_dst (N := 34) rfl ?_); refine ev_call (some 34) rfl rfl Tryd.func7 (by kernel_rfl) rfl rfl (by simp only [List.map_toArray, List.map_cons, List.map_nil]; rfl) ?_; refine (HS.get1 (spec_PoolAdd.calls (w := _) (hr0 := HS.reads A22) (hc0 := HS.cap A22) (h := h3.out))).mono ?_; clear HS; rintro e w1 ⟨A34, c34, rfl, HS⟩; refine ⟨_, rfl, ?_⟩) | ((with_reducible refine gate_dst (N := 39) rfl ?_); refine ev_call (some 39) rfl rfl Tryd.func8 (by kernel_rfl) rfl rfl (by simp only [List.map_toArray, List.map_cons, List.map_nil]; rfl) ?_; refine (SS.get3d HS rfl rfl rfl (by decide) (by decide) (spec_DrawPoolTake.calls (w := _) (hr0 := Kd.C_below hr0.out HS.below) (hc0 := hc0.out) (h := h4.out))).mono ?_; clear HS; rintro e w1 ⟨A39, c39, B39, d39, C39, e39, rfl, HS⟩; refine ⟨_, rfl, ?_⟩) | ((with_reducible refine gate_dst (N := 10) rfl ?_); refine ev_alloc HS rfl rfl ?_; clear HS; intro g10 w1 HS) | ((with_reducible refine gate_dst (N := 44) rfl ?_); refine ev_call (some 44) rfl rfl Tryd.func9 (by kernel_rfl) rfl rfl (by simp only [List.map_toArray, List.map_cons, List.map_nil]; rfl) ?_; refine (HS.get1 (impl_PoolTake.calls (w := _) (hr0 := HS.reads A39) (hc0 := HS.cap A39) (hr1_0 := HS.reads B39) (hc1_0 := HS.cap B39) (hr1_1 := HS.reads C39) (hc1_1 := HS.cap C39) (h := h5.out))).mono ?_; clear HS; rintro e w1 ⟨A44, c44, rfl, HS⟩; refine ⟨_, rfl, ?_⟩) | ((with_reducible refine gate_dst (N := 47) rfl ?_); refine ev_call (some 47) rfl rfl Tryd.func10 (by kernel_rfl) rfl rfl (by simp only [List.map_toArray, List.map_cons, List.map_nil]; rfl) ?_; refine (HS.get1 (impl_PoolDrop.calls (w := _) (hr0 := HS.reads A39) (hc0 := HS.cap A39) (hr1_0 := HS.reads B39) (hc1_0 := HS.cap B39) (hr1_1 := HS.reads C39) (hc1_1 := HS.cap C39) (h := h6.out))).mono ?_; clear HS; rintro e w1 ⟨A47, c47, rfl, HS⟩; refine ⟨_, rfl, ?_⟩) | ((with_reducible refine gate_dst (N := 53) rfl ?_); refine ev_call (some 53) rfl rfl Tryd.func11 (by kernel_rfl) rfl rfl (by simp only [List.map_toArray, List.map_cons, List.map_nil]; rfl) ?_; refine (HS.val (impl_TxsText.calls (w := _) (hL := LaidW.below hLW.out HS.below) (hr0 := HS.reads A28) (hc0 := HS.cap A28) (h := h7.out))).mono ?_; clear HS; rintro e w1 ⟨rfl, HS⟩; refine ⟨_, rfl, ?_⟩) | ((with_reducible refine gate_dst (N := 55) rfl ?_); refine ev_call (some 55) rfl rfl Tryd.func12 (by kernel_rfl) rfl rfl (by simp only [List.map_toArray, List.map_cons, List.map_nil]; rfl) ?_; refine (HS.val (spec_TxsText.calls (w := _) (hr0 := HS.reads A34) (hc0 := HS.cap A34) (h := h8.out))).mono ?_; clear HS; rintro e w1 ⟨rfl, HS⟩; refine ⟨_, rfl, ?_⟩) | ((with_reducible refine gate_dst (N := 69) rfl ?_); refine ev_call (some 69) rfl rfl Tryd.func14 (by kernel_rfl) rfl rfl (by simp only [List.map_toArray, List.map_cons, List.map_nil]; rfl) ?_; refine (HS.get1 (spec_PoolTake.calls (w := _) (hr0 := HS.reads A39) (hc0 := HS.cap A39) (hr1_0 := HS.reads B39) (hc1_0 := HS.cap B39) (hr1_1 := HS.reads C39) (hc1_1 := HS.cap C39) (h := h9.out))).mono ?_; clear HS; rintro e w1 ⟨A69, c69, rfl, HS⟩; refine ⟨_, rfl, ?_⟩) | ((with_reducible refine gate_dst (N := 70) rfl ?_); refine ev_call (some 70) rfl rfl Tryd.func13 (by kernel_rfl) rfl rfl (by simp only [List.map_toArray, List.map_cons, List.map_nil]; rfl) ?_; refine (HS.valD (laws_sameTxs.calls (w := _) (hr0 := HS.reads A44) (hc0 := HS.cap A44) (hr1 := HS.reads A69) (hc1 := HS.cap A69) (h := h10.out))).mono ?_; clear HS; rintro e w1 ⟨rfl, HS⟩; refine ⟨_, rfl, ?_⟩) | ((with_reducible refine gate_dst (N := 77) rfl ?_); refine ev_call (some 77) rfl rfl Tryd.func15 (by kernel_rfl) rfl rfl (by simp only [List.map_toArray, List.map_cons, List.map_nil]; rfl) ?_; refine (HS.get1 (spec_PoolDrop.calls (w := _) (hr0 := HS.reads A39) (hc0 := HS.cap A39) (hr1_0 := HS.reads B39) (hc1_0 := HS.cap B39) (hr1_1 := HS.reads C39) (hc1_1 := HS.cap C39) (h := h11.out))).mono ?_; clear HS; rintro e w1 ⟨A77, c77, rfl, HS⟩; refine ⟨_, rfl, ?_⟩) | ((with_reducible refine gate_dst (N := 78) rfl ?_); refine ev_call (some 78) rfl rfl Tryd.func13 (by kernel_rfl) rfl rfl (by simp only [List.map_toArray, List.map_cons, List.map_nil]; rfl) ?_; refine (HS.valD (laws_sameTxs.calls (w := _) (hr0 := HS.reads A47) (hc0 := HS.cap A47) (hr1 := HS.reads A77) (hc1 := HS.cap A77) (h := h12.out))).mono ?_; clear HS; rintro e w1 ⟨rfl, HS⟩; refine ⟨_, rfl, ?_⟩) | ((with_reducible refine gate_dst (N := 83) rfl ?_); refine ev_call (some 83) rfl rfl Tryd.func16 (by kernel_rfl) rfl rfl (by simp only [List.map_toArray, List.map_cons, List.map_nil]; rfl) ?_; refine (HS.val (impl_PoolOk.calls (w := _) (hr0 := HS.reads A22) (hc0 := HS.cap A22) (h := h13.out))).mono ?_; clear HS; rintro e w1 ⟨rfl, HS⟩; refine ⟨_, rfl, ?_⟩) | ((with_reducible refine gate_dst (N := 85) rfl ?_); refine ev_call (some 85) rfl rfl Tryd.func17 (by kernel_rfl) rfl rfl (by simp only [List.map_toArray, List.map_cons, List.map_nil]; rfl) ?_; refine (HS.val (spec_PoolOk.calls (w := _) (hr0 := HS.reads A22) (hc0 := HS.cap A22) (h := h14.out))).mono ?_; clear HS; rintro e w1 ⟨rfl, HS⟩; refine ⟨_, rfl, ?_⟩) | ((with_reducible refine gate_dst (N := 91) rfl ?_); refine ev_call (some 91) rfl rfl Tryd.func18 (by kernel_rfl) rfl rfl (by simp only [List.map_toArray, List.map_cons, List.map_nil]; rfl) ?_; refine (HS.get3 rfl rfl rfl (impl_PayAll.calls (w := _) (hr0_0 := HS.reads B39) (hc0_0 := HS.cap B39) (hr0_1 := HS.reads C39) (hc0_1 := HS.cap C39) (hr1 := HS.reads A44) (hc1 := HS.cap A44) (h := h15.out))).mono ?_; clear HS; rintro e w1 ⟨A91, c91, B91, d91, C91, e91, rfl, HS⟩; refine ⟨_, rfl, ?_⟩) | ((with_reducible refine gate_dst (N := 13) rfl ?_); refine ev_alloc HS rfl rfl ?_; clear HS; intro g13 w1 HS))
  go_loopw [15] (fun u15 wr => ∃ (j : Int), 0 ≤ j ∧ j ≤ (mc.length : Int) ∧ u15 = .int .i64 j ∧ SS w wr [box g13 #[.slice A91 mh.length c91, .slice B91 mn.length d91] 33, row (Kd.int .i64) 3 (.slice A91 mh.length c91) mh, row (Kd.int .i64) 3 (.slice B91 mn.length d91) mn, row (Kd.int .i64) 3 (.slice C91 mc.length e91) mc, row k26 26 (.slice A77 d.length c77) d, row k26 26 (.slice A69 t.length c69) t, row k26 26 (.slice A47 d.length c47) d, row k26 26 (.slice A44 t.length c44) t, box g10 #[.slice B39 h.length d39, .slice C39 n.length e39] 33, row k26 26 (.slice A39 q.length c39) q, row (Kd.int .i64) 3 (.slice B39 h.length d39) h, row (Kd.int .i64) 3 (.slice C39 n.length e39) n, row k26 26 (.slice A34 a.length c34) a, row k26 26 (.slice A28 a.length c28) a, box g4 #[.int .i64 x0, .int .i64 x1, .int .i64 x2, .int .i64 x3] 26, row k26 26 (.slice A22 p.length c22) p]) (fun u15 wr => mc.length - (intOf u15).toNat)
  case atStart => exact ⟨0, by omega, by omega, rfl, HS⟩
  case round =>
    clear HS
    obtain ⟨j, j0, j1, rfl, HS⟩ := hrel
    by_cases hlt : j < (mc.length : Int)
    · have hq := hmc.out j j0 hlt
      obtain ⟨bp, rfl⟩ := HS.form C91 (by omega)
      by_cases hz : rd mc j = 0
      · have e1 : (rd mc j != 0) = false := by rw [hz]; rfl
        clear hq hz
        go_wp2_with (first | ((with_reducible refine gate_load rfl ?_); refine ev_loadI HS rfl rfl rfl (by assumption) (by assumption) ?_))
        go_roundw
        case rel => exact ⟨j + 1, by omega, by omega, by first | rfl | rw [show wrap64 (j + 1) = j + 1 from by unfold wrap64; omega], HS⟩
        case measure => first | (simp [intOf]; omega) | (rw [show wrap64 (j + 1) = j + 1 from by unfold wrap64; omega]; simp [intOf]; omega)
      · have h4 := hq.resolve_left hz
        have e1 : (rd mc j != 0) = true := bne_iff_ne.mpr hz
        have e2 : (rd mc j != 4) = false := by rw [h4]; rfl
        clear hq hz h4
        go_wp2_with (first | ((with_reducible refine gate_load rfl ?_); refine ev_loadI HS rfl rfl rfl (by assumption) (by assumption) ?_))
        go_roundw
        case rel => exact ⟨j + 1, by omega, by omega, by first | rfl | rw [show wrap64 (j + 1) = j + 1 from by unfold wrap64; omega], HS⟩
        case measure => first | (simp [intOf]; omega) | (rw [show wrap64 (j + 1) = j + 1 from by unfold wrap64; omega]; simp [intOf]; omega)
    · clear hmc
      go_wp2
      go_ret
      exact ⟨rfl, HS.below⟩

set_option maxHeartbeats 8000000 in
set_option maxRecDepth 100000 in
theorem walk0 (A0 : Option Addr) (c0 : Nat) (l : List Int) (w : World) (hr0 : Aside0 (Kd.C (Kd.int .u8) w A0 l.length l)) (hc0 : Aside0 (l.length ≤ c0)) (hb : Aside0 (laws_big.f l = some true))  :
    Calls Tryd.prog 3 #[.slice A0 l.length c0] w fun e w' => e = .returned (.bool true) ∧ Below w.heap.size w w' := by
  have HS := SS.nil w
  go_enter Tryd.func3, Tryd.ntmps3
  go_wp2_with (first | ((with_reducible refine gate_dst (N := 19) rfl ?_); refine ev_call (some 19) rfl rfl Tryd.func4 (by kernel_rfl) rfl rfl (by simp only [List.map_toArray, List.map_cons, List.map_nil]; rfl) ?_; refine (HS.valD (laws_big.calls (w := _) (hr0 := Kd.C_below hr0.out HS.below) (hc0 := hc0.out) (h := hb.out))).mono ?_; clear HS; rintro e w1 ⟨rfl, HS⟩; refine ⟨_, rfl, ?_⟩))
  go_ret
  exact ⟨rfl, HS.below⟩
end w0
end Go.Proofs.YtnlakfbbbnkcpaaDoor.Law
