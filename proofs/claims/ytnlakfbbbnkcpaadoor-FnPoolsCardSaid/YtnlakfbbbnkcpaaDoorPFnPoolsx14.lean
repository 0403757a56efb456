/- Walks of the functions that a law of seat YtnlakfbbbnkcpaaDoor reaches, each against a Lean function, printed by this session's wip/myprint.py; no condition of their own. -/
import Derived.Test.YtnlakfbbbnkcpaaDoorPFnPoolsx0
import Derived.Test.YtnlakfbbbnkcpaaDoorPFnPoolsx8
import Derived.Test.YtnlakfbbbnkcpaaDoorPFnPoolsx9
import Derived.Test.YtnlakfbbbnkcpaaDoorPFnPoolsx10
import Derived.Test.YtnlakfbbbnkcpaaDoorPFnPoolsx11
namespace Go.Proofs.YtnlakfbbbnkcpaaDoor.PFnPools
open Go.RowKit Go.Proofs.YtnlakfbbbnkcpaaDoorW.PrintWords Go.Proofs.YtnlakfbbbnkcpaaDoorW.PrintLast Go.Proofs.YtnlakfbbbnkcpaaDoorW.PrintMore
attribute [local go_sem] max2_int min2_int max_two min_two max_three min_three max_four min_four   -- for this text's walks alone
set_option linter.unusedVariables false
set_option linter.unusedSimpArgs false

/-! ### spec_PoolTake: function 14 -/
section
open Go.Proofs.YtnlakfbbbnkcpaaDoorH
local instance i14_1 : AggT Tryd.prog 26 4 := ⟨by kernel_rfl, by kernel_rfl⟩
local instance i14_2 : ZeroT Tryd.prog 26 #[.int .i64 0, .int .i64 0, .int .i64 0, .int .i64 0] := ⟨by kernel_rfl⟩
local instance i14_3 : ZeroT Tryd.prog 33 #[.slice none 0 0, .slice none 0 0] := ⟨by kernel_rfl⟩
local instance i14_4 : AggT Tryd.prog 33 2 := ⟨by kernel_rfl, by kernel_rfl⟩
set_option maxHeartbeats 8000000 in
set_option maxRecDepth 100000 in
theorem spec_PoolTake.go (A0 : Option Addr) (c0 : Nat) (p : List S26) (A1 : Option Addr) (c1 : Nat) (h : List Int) (A2 : Option Addr) (c2 : Nat) (n : List Int) (w : World) (hr0 : Aside0 (Kd.C k26 w A0 p.length p)) (hc0 : Aside0 (p.length ≤ c0)) (hr1 : Aside0 (Kd.C (Kd.int .i64) w A1 h.length h)) (hc1 : Aside0 (h.length ≤ c1)) (hr2 : Aside0 (Kd.C (Kd.int .i64) w A2 n.length n)) (hc2 : Aside0 (n.length ≤ c2)) (b0 : p.length ≤ 1048576) (b1 : h.length ≤ 1048576) (b2 : n.length ≤ 1048576) (hcp : Aside0 (spec_l3Copy.f h n = some (h, n))) :
    Calls Tryd.prog 14 #[.slice A0 p.length c0, .agg #[.slice A1 h.length c1, .slice A2 n.length c2]] w fun e w' => ∃ v0_ : Value, e = .returned v0_ ∧ Kd.R k26 26 w' w.heap.size (fun _ => True) v0_ (takeS h n [] p) ∧ Below w.heap.size w w' := by
  have HS := SS.nil w
  go_enter Tryd.func14, Tryd.ntmps14
  go_wp2_with (first | ((with_reducible refine gate_dst (N := 3) rfl ?_); refine ev_box HS (cs := #[.slice A1 h.length c1, .slice A2 n.length c2]) rfl rfl rfl ?_; clear HS; intro g3 w1 HS) | ((with_reducible refine gate_dst (N := 10) rfl ?_); refine ev_b0 k26 (e := 26) HS rfl rfl (by kernel_rfl) ?_; clear HS; intro g10 w1 HS) | ((with_reducible refine gate_load rfl ?_); first | refine ev_loadC HS rfl rfl rfl (by rfl) ?_ | refine ev_loadS HS rfl rfl rfl (by rfl) ?_) | ((with_reducible refine gate_dst (N := 12) rfl ?_); refine ev_call (some 12) rfl rfl Tryd.func35 (by kernel_rfl) rfl rfl (by simp only [List.map_toArray, List.map_cons, List.map_nil]; rfl) ?_; refine (HS.get2 rfl rfl (spec_l3Copy.calls (w := _) (hr0_0 := Kd.C_below hr1.out HS.below) (hc0_0 := hc1.out) (hr0_1 := Kd.C_below hr2.out HS.below) (hc0_1 := hc2.out) (h := hcp.out))).mono ?_; clear HS; rintro e w1 ⟨A12, c12, B12, d12, rfl, HS⟩; refine ⟨_, rfl, ?_⟩) | ((with_reducible refine gate_dst (N := 6) rfl ?_); refine ev_alloc HS rfl rfl ?_; clear HS; intro g6 w1 HS) | ((with_reducible refine gate_put rfl ?_); (first | refine ev_storeC HS rfl rfl rfl rfl rfl (by rfl) (by rfl) ?_ | refine ev_storeS HS rfl rfl rfl rfl rfl (by rfl) (by rfl) (by rfl) ?_); clear HS; intro w1 HS))
  go_loopw [5, 7] (fun u5 u7 wr => ∃ (j : Int) (acc : List S26) (hh nn : List Int) (AO : Option Addr) (cO : Nat) (AH : Option Addr) (cH : Nat) (AN : Option Addr) (cN : Nat), 0 ≤ j ∧ j ≤ (p.length : Int) ∧ u5 = .slice AO acc.length cO ∧ u7 = .int .i64 j ∧ hh.length ≤ 1048576 ∧ nn.length ≤ 1048576 ∧ acc.length ≤ 2 ∧ Aside0 (takeS hh nn acc (p.drop j.toNat) = takeS h n [] p) ∧ SS w wr [box g6 #[.slice AH hh.length cH, .slice AN nn.length cN] 33, row (Kd.int .i64) 3 (.slice AH hh.length cH) hh, row (Kd.int .i64) 3 (.slice AN nn.length cN) nn, row k26 26 (.slice AO acc.length cO) acc]) (fun u5 u7 wr => p.length - (intOf u7).toNat)
  case atStart => exact ⟨0, [], h, n, _, _, _, _, _, _, by omega, by omega, rfl, rfl, b1, b2, by simp, ⟨rfl⟩, (HS.perm [0, 1, 2, 3] (by decide))⟩
  case round =>
    clear HS
    obtain ⟨j, acc, hh, nn, AO, cO, AH, cH, AN, cN, j0, j1, rfl, rfl, bh, bn, ba, HT, HS⟩ := hrel
    by_cases hlt : j < (p.length : Int)
    · obtain ⟨ad, rfl, _⟩ := at_T26 hr0.out j j0 hlt
      have hst := Aside0.mk (take_at hh nn acc p j j0 hlt)
      by_cases hac : acc.length < 2
      · obtain ⟨rh, rn, rc, hq⟩ : ∃ x y z, payL hh nn ((rd_T26 p j).f0) ((rd_T26 p j).f1) ((rd_T26 p j).f2) ((rd_T26 p j).f3) = (x, y, z) := ⟨_, _, _, rfl⟩
        have hp : Aside0 (spec_Pay.f 0 hh nn ((rd_T26 p j).f0) ((rd_T26 p j).f1) ((rd_T26 p j).f2) ((rd_T26 p j).f3) = some (rh, rn, rc)) := ⟨by unfold spec_Pay.f; rw [if_pos ⟨bh, bn⟩, hq]⟩
        obtain ⟨lh, ln⟩ := paid_len hh nn ((rd_T26 p j).f0) ((rd_T26 p j).f1) ((rd_T26 p j).f2) ((rd_T26 p j).f3)
        have hst2 := hst.out.2 hac
        rw [hq] at hst2 lh ln
        simp only at hst2 lh ln
        have LH := Aside0.mk lh
        have LN := Aside0.mk ln
        have HU := Aside0.mk (HT.out.symm.trans hst2)
        clear hst hst2 hq HT lh ln
        go_upto_region 6 with (fail)
        refine start_ (n := 12) (S := fun w' => SS w w' _) (ds := []) #[false, false, false, false, false, false, false, false, false, false, false, false] (by kernel_rfl) rfl rfl HS.drew (fun _ => ?_)
        replace HS := HS.drew
        generalize w1.drew = w1 at HS ⊢
        refine pA 1 26 ?_ rfl rfl (by kernel_rfl) (fun _ _ _ h => h) ⟨by rfl, ?_⟩ ?_ ?_ ?_
        rotate_left
        · intro w'; go_simp; (try with_reducible rfl)
        rotate_left
        · simp only [Act.put, nm]; rfl
        refine pA 2 27 ?_ rfl rfl (by kernel_rfl) (fun _ _ _ h => h) ⟨by rfl, ?_⟩ ?_ ?_ ?_
        rotate_left
        · intro w'; go_simp; (try with_reducible rfl)
        rotate_left
        · simp only [Act.put, nm]; rfl
        refine pA 3 28 ?_ rfl rfl (by kernel_rfl) (fun _ _ _ h => h) ⟨by rfl, ?_⟩ ?_ ?_ ?_
        rotate_left
        · intro w'; go_simp; (try with_reducible rfl)
        rotate_left
        · simp only [Act.put, nm]; rfl
        refine take_ (i := 0) (N := some 25) (a' := ?_) #[true, true, true, true, false, false, false, false, false, false, false, false] rfl rfl (by kernel_rfl) (fun _ _ _ h => h) (Or.inl ⟨by rfl, fun w' hs => rl_S hs rfl rfl (by rfl)⟩) (HS.drop 0) ?_ ?_
        rotate_left
        · simp only [Act.put, nm]; rfl
        refine take_ (i := 4) (N := some 29) (a' := ?_) #[true, true, true, true, true, false, false, false, false, false, false, false] rfl rfl (by kernel_rfl) (fun _ _ _ h => h) (Or.inl ⟨by rfl, fun w' hs => rl_E (Kd.C_below hr0.out hs.below) j0 hlt rfl rfl⟩) (HS.drop 0) ?_ ?_
        rotate_left
        · simp only [Act.put, nm]; rfl
        refine join_ (σ := Option Addr × Nat × Option Addr × Nat × Nat) 2 #[true, true, true, true, true, true, true, true, true, true, false, false] (fun s_ => [(24, .tuple #[.agg #[.slice s_.1 rh.length s_.2.1, .slice s_.2.2.1 rn.length s_.2.2.2.1], .int .i64 rc]), (31, .agg #[.slice s_.1 rh.length s_.2.1, .slice s_.2.2.1 rn.length s_.2.2.2.1]), (32, .int .i64 rc), (30, .tuple #[.agg #[.slice s_.1 rh.length s_.2.1, .slice s_.2.2.1 rn.length s_.2.2.2.1], .int .i64 rc]), (8, .pointer (some ⟨s_.2.2.2.2, 0, none⟩))]) (fun s_ w' => SS w w' [row (Kd.int .i64) 3 (.slice s_.1 rh.length s_.2.1) rh, row (Kd.int .i64) 3 (.slice s_.2.2.1 rn.length s_.2.2.2.1) rn, box s_.2.2.2.2 #[.slice none 0 0, .slice none 0 0] 33, box g6 #[.slice AH hh.length cH, .slice AN nn.length cN] 33, row (Kd.int .i64) 3 (.slice AH hh.length cH) hh, row (Kd.int .i64) 3 (.slice AN nn.length cN) nn, row k26 26 (.slice AO acc.length cO) acc]) ?_ (fun hcont => ?_)
        rotate_left
        · refine two_ (i := 5) (j := 9) (Ni := some 30) (Nj := some 8) #[true, true, true, true, true, true, false, false, false, false, false, false] #[true, true, true, true, true, false, false, false, false, true, false, false] rfl rfl rfl rfl (by kernel_rfl) (by decide) (by decide) (fun K hK => ?_) (fun K hK => ?_)
          · refine goes_ Tryd.func36 (by kernel_rfl) rfl _ (by rfl) rfl rfl (by simp only [List.map_toArray, List.map_cons, List.map_nil]; rfl) ?_
            refine (HS.get2 rfl rfl (spec_Pay.calls (w := _) (hr0_0 := HS.reads AH) (hc0_0 := HS.cap AH) (hr0_1 := HS.reads AN) (hc0_1 := HS.cap AN) (h := hp.out))).mono ?_
            clear HS
            rintro e w1 ⟨A30, c30, B30, d30, rfl, HS⟩
            refine ⟨_, rfl, ?_⟩
            refine hK.out _ _ (HS.drop 2) (fun _ => ?_)
            clear hK K
            refine norm_ (a' := ?_) ?_ ?_
            rotate_left
            · simp only [Act.put, nm]; rfl
            refine pA 6 24 ?_ rfl rfl (by kernel_rfl) (fun _ _ _ h => h) ⟨by rfl, ?_⟩ ?_ ?_ ?_
            rotate_left
            · intro w'; go_simp; (try with_reducible rfl)
            rotate_left
            · simp only [Act.put, nm]; rfl
            refine pA 7 31 ?_ rfl rfl (by kernel_rfl) (fun _ _ _ h => h) ⟨by rfl, ?_⟩ ?_ ?_ ?_
            rotate_left
            · intro w'; go_simp; (try with_reducible rfl)
            rotate_left
            · simp only [Act.put, nm]; rfl
            refine pA 8 32 ?_ rfl rfl (by kernel_rfl) (fun _ _ _ h => h) ⟨by rfl, ?_⟩ ?_ ?_ ?_
            rotate_left
            · intro w'; go_simp; (try with_reducible rfl)
            rotate_left
            · simp only [Act.put, nm]; rfl
            refine one_ (i := 9) (N := some 8) #[true, true, true, true, true, true, true, true, true, true, false, false] rfl rfl (by kernel_rfl) (by decide) (fun K hK => ?_)
            refine al_R HS (by rfl) rfl rfl ?_
            clear HS
            intro g8 w1 HS
            refine hK.out _ _ (HS.drop 3) (fun _ => ?_)
            clear hK K
            refine norm_ (a' := ?_) ?_ ?_
            rotate_left
            · simp only [Act.put, nm]; rfl
            have hp := HS.perm [1, 2, 0, 3, 4, 5, 6] (by decide)
            have hc := hcont ⟨A30, c30, B30, d30, g8⟩ w1 hp
            simp only [putAll, Act.put, nm] at hc
            exact hc
          · refine al_R HS (by rfl) rfl rfl ?_
            clear HS
            intro g8 w1 HS
            refine hK.out _ _ (HS.drop 1) (fun _ => ?_)
            clear hK K
            refine norm_ (a' := ?_) ?_ ?_
            rotate_left
            · simp only [Act.put, nm]; rfl
            refine one_ (i := 5) (N := some 30) #[true, true, true, true, true, true, false, false, false, true, false, false] rfl rfl (by kernel_rfl) (by decide) (fun K hK => ?_)
            refine goes_ Tryd.func36 (by kernel_rfl) rfl _ (by rfl) rfl rfl (by simp only [List.map_toArray, List.map_cons, List.map_nil]; rfl) ?_
            refine (HS.get2 rfl rfl (spec_Pay.calls (w := _) (hr0_0 := HS.reads AH) (hc0_0 := HS.cap AH) (hr0_1 := HS.reads AN) (hc0_1 := HS.cap AN) (h := hp.out))).mono ?_
            clear HS
            rintro e w1 ⟨A30, c30, B30, d30, rfl, HS⟩
            refine ⟨_, rfl, ?_⟩
            refine hK.out _ _ (HS.drop 3) (fun _ => ?_)
            clear hK K
            refine norm_ (a' := ?_) ?_ ?_
            rotate_left
            · simp only [Act.put, nm]; rfl
            refine pA 6 24 ?_ rfl rfl (by kernel_rfl) (fun _ _ _ h => h) ⟨by rfl, ?_⟩ ?_ ?_ ?_
            rotate_left
            · intro w'; go_simp; (try with_reducible rfl)
            rotate_left
            · simp only [Act.put, nm]; rfl
            refine pA 7 31 ?_ rfl rfl (by kernel_rfl) (fun _ _ _ h => h) ⟨by rfl, ?_⟩ ?_ ?_ ?_
            rotate_left
            · intro w'; go_simp; (try with_reducible rfl)
            rotate_left
            · simp only [Act.put, nm]; rfl
            refine pA 8 32 ?_ rfl rfl (by kernel_rfl) (fun _ _ _ h => h) ⟨by rfl, ?_⟩ ?_ ?_ ?_
            rotate_left
            · intro w'; go_simp; (try with_reducible rfl)
            rotate_left
            · simp only [Act.put, nm]; rfl
            have hp := HS.perm [0, 1, 2, 3, 4, 5, 6] (by decide)
            have hc := hcont ⟨A30, c30, B30, d30, g8⟩ w1 hp
            simp only [putAll, Act.put, nm] at hc
            exact hc
        clear HS
        rintro ⟨A30, c30, B30, d30, g8⟩ w1 HS
        dsimp only at HS
        refine norm_ (a' := ?_) ?_ ?_
        rotate_left
        · simp only [putAll, Act.put, nm]; rfl
        refine one_ (i := 10) (N := none) #[true, true, true, true, true, true, true, true, true, true, true, false] rfl rfl (by kernel_rfl) (by decide) (fun K hK => ?_)
        refine st_R HS (by rfl) rfl rfl rfl rfl (by rfl) (by rfl) (by rfl) ?_
        clear HS
        intro w1 HS
        refine hK.out _ _ (HS.drop 3) (fun _ => ?_)
        clear hK K
        refine pA 11 9 ?_ rfl rfl (by kernel_rfl) (fun _ _ _ h => h) ⟨by rfl, ?_⟩ ?_ ?_ ?_
        rotate_left
        · intro w'; go_simp; (try with_reducible rfl)
        rotate_left
        · simp only [Act.put, nm]; rfl
        refine done_ (by kernel_rfl) ?_
        by_cases d0 : rc = 0
        · subst d0
          obtain ⟨ya, hya⟩ : ∃ ya, Aside0 (acc ++ [rd_T26 p j] = ya) := ⟨_, ⟨rfl⟩⟩
          have hyl : Aside0 (ya.length = acc.length + 1) := ⟨by rw [← hya.out]; simp⟩
          have HU2 := Aside0.mk (HU.out.trans (if_pos (.inl rfl)))
          clear HU
          go_wp2_with (first | ((with_reducible refine gate_dst (N := 43) rfl ?_); refine ev_loadE (Kd.C_below hr0.out HS.below) j0 hlt rfl rfl rfl ?_) | ((with_reducible refine gate_dst (N := 44) rfl ?_); refine ev_bapp HS AO (cs := [.int .i64 (rd_T26 p j).f0, .int .i64 (rd_T26 p j).f1, .int .i64 (rd_T26 p j).f2, .int .i64 (rd_T26 p j).f3]) (p := (rd_T26 p j)) (ys := ya) (z := .agg #[.int .i64 0, .int .i64 0, .int .i64 0, .int .i64 0]) (bytes := 32) rfl rfl rfl rfl (by kernel_rfl) rfl rfl rfl (fun _ => rfl) Tryd.underlying24 (by kernel_rfl) rfl (by decide) (by decide) (fun W => k26_mkM W _ _ _) (by omega) hya.out ?_; clear HS; intro A45 c45 g45 w1 HS) | ((with_reducible refine gate_load rfl ?_); first | refine ev_loadC HS rfl rfl rfl (by rfl) ?_ | refine ev_loadS HS rfl rfl rfl (by rfl) ?_) | ((with_reducible refine gate_put rfl ?_); (first | refine ev_storeC HS rfl rfl rfl rfl rfl (by rfl) (by rfl) ?_ | refine ev_storeS HS rfl rfl rfl rfl rfl (by rfl) (by rfl) (by rfl) ?_); clear HS; intro w1 HS))
          go_roundw
          case rel => exact ⟨j + 1, ya, rh, rn, _, _, _, _, _, _, by omega, by omega, rfl, by first | rfl | go_num, by have := LH.out; omega, by have := LN.out; omega, by have := hyl.out; omega, ⟨by rw [HU2.out, hya.out]⟩, (HS.perm [3, 0, 1, 6] (by decide))⟩
          case measure => first | (simp [intOf]; omega) | (rw [show wrap64 (j + 1) = j + 1 from by unfold wrap64; omega]; simp [intOf]; omega)
        · have e0 : (rc == 0) = false := beq_eq_false_iff_ne.mpr d0
          by_cases d4 : rc = 4
          · subst d4
            obtain ⟨ya, hya⟩ : ∃ ya, Aside0 (acc ++ [rd_T26 p j] = ya) := ⟨_, ⟨rfl⟩⟩
            have hyl : Aside0 (ya.length = acc.length + 1) := ⟨by rw [← hya.out]; simp⟩
            have HU2 := Aside0.mk (HU.out.trans (if_pos (.inr rfl)))
            clear HU
            go_wp2_with (first | ((with_reducible refine gate_dst (N := 43) rfl ?_); refine ev_loadE (Kd.C_below hr0.out HS.below) j0 hlt rfl rfl rfl ?_) | ((with_reducible refine gate_dst (N := 44) rfl ?_); refine ev_bapp HS AO (cs := [.int .i64 (rd_T26 p j).f0, .int .i64 (rd_T26 p j).f1, .int .i64 (rd_T26 p j).f2, .int .i64 (rd_T26 p j).f3]) (p := (rd_T26 p j)) (ys := ya) (z := .agg #[.int .i64 0, .int .i64 0, .int .i64 0, .int .i64 0]) (bytes := 32) rfl rfl rfl rfl (by kernel_rfl) rfl rfl rfl (fun _ => rfl) Tryd.underlying24 (by kernel_rfl) rfl (by decide) (by decide) (fun W => k26_mkM W _ _ _) (by omega) hya.out ?_; clear HS; intro A45 c45 g45 w1 HS) | ((with_reducible refine gate_load rfl ?_); first | refine ev_loadC HS rfl rfl rfl (by rfl) ?_ | refine ev_loadS HS rfl rfl rfl (by rfl) ?_) | ((with_reducible refine gate_put rfl ?_); (first | refine ev_storeC HS rfl rfl rfl rfl rfl (by rfl) (by rfl) ?_ | refine ev_storeS HS rfl rfl rfl rfl rfl (by rfl) (by rfl) (by rfl) ?_); clear HS; intro w1 HS))
            go_roundw
            case rel => exact ⟨j + 1, ya, rh, rn, _, _, _, _, _, _, by omega, by omega, rfl, by first | rfl | go_num, by have := LH.out; omega, by have := LN.out; omega, by have := hyl.out; omega, ⟨by rw [HU2.out, hya.out]⟩, (HS.perm [3, 0, 1, 6] (by decide))⟩
            case measure => first | (simp [intOf]; omega) | (rw [show wrap64 (j + 1) = j + 1 from by unfold wrap64; omega]; simp [intOf]; omega)
          · have e4 : (rc == 4) = false := beq_eq_false_iff_ne.mpr d4
            have HU2 := Aside0.mk (HU.out.trans (if_neg (fun z => z.elim d0 d4)))
            clear HU
            go_wp2
            go_roundw
            case rel => exact ⟨j + 1, acc, hh, nn, _, _, _, _, _, _, by omega, by omega, rfl, by first | rfl | go_num, bh, bn, ba, ⟨HU2.out.symm⟩, (HS.perm [3, 4, 5, 6] (by decide))⟩
            case measure => first | (simp [intOf]; omega) | (rw [show wrap64 (j + 1) = j + 1 from by unfold wrap64; omega]; simp [intOf]; omega)
      · have he := Aside0.mk (HT.out.symm.trans (hst.out.1 (by omega)))
        go_wp2
        go_ret
        exact ⟨_, rfl, by rw [he.out]; exact HS.out1 AO, HS.below⟩
    · have he := Aside0.mk (HT.out.symm.trans (take_end hh nn acc p j (by omega)))
      go_wp2
      go_ret
      exact ⟨_, rfl, by rw [he.out]; exact HS.out1 AO, HS.below⟩
end
def spec_PoolTake.f (k : Nat) (l0 : List S26) (l1_0 l1_1 : List Int) : Option (List S26) := if l0.length ≤ 1048576 ∧ l1_0.length ≤ 1048576 ∧ l1_1.length ≤ 1048576 then some (takeS l1_0 l1_1 [] l0) else none
theorem spec_PoolTake.mono : ∀ a0 a1 a2 k, LeO (spec_PoolTake.f k a0 a1 a2) (spec_PoolTake.f (k + 1) a0 a1 a2) := fun _ _ _ _ => LeO.refl _
theorem spec_PoolTake.calls (k : Nat) (A0 : Option Addr) (c0 : Nat) (l0 : List (S26)) (A1_0 : Option Addr) (c1_0 : Nat) (l1_0 : List Int) (A1_1 : Option Addr) (c1_1 : Nat) (l1_1 : List Int) (r : List (S26)) (w : World) (hr0 : Kd.C k26 w A0 l0.length l0) (hc0 : l0.length ≤ c0) (hr1_0 : Kd.C (Kd.int .i64) w A1_0 l1_0.length l1_0) (hc1_0 : l1_0.length ≤ c1_0) (hr1_1 : Kd.C (Kd.int .i64) w A1_1 l1_1.length l1_1) (hc1_1 : l1_1.length ≤ c1_1) (h : spec_PoolTake.f k l0 l1_0 l1_1 = some r) :
    Calls Tryd.prog 14 #[.slice A0 l0.length c0, .agg #[.slice A1_0 l1_0.length c1_0, .slice A1_1 l1_1.length c1_1]] w fun e w' => ∃ v0_ : Value, e = .returned (v0_) ∧ Kd.R k26 26 w' w.heap.size (fun _ => True) v0_ r ∧ Below w.heap.size w w' := by
  unfold spec_PoolTake.f at h
  by_cases hb : l0.length ≤ 1048576 ∧ l1_0.length ≤ 1048576 ∧ l1_1.length ≤ 1048576
  · rw [if_pos hb] at h
    obtain rfl := Option.some.inj h
    exact spec_PoolTake.go A0 c0 l0 A1_0 c1_0 l1_0 A1_1 c1_1 l1_1 w ⟨hr0⟩ ⟨hc0⟩ ⟨hr1_0⟩ ⟨hc1_0⟩ ⟨hr1_1⟩ ⟨hc1_1⟩ hb.1 hb.2.1 hb.2.2 ⟨by unfold spec_l3Copy.f; simp; omega⟩
  · rw [if_neg hb] at h; cases h

/-! ### spec_PoolDrop: function 15 -/
section
open Go.Proofs.YtnlakfbbbnkcpaaDoorH
local instance i14_5 : AggT Tryd.prog 26 4 := ⟨by kernel_rfl, by kernel_rfl⟩
local instance i14_6 : ZeroT Tryd.prog 26 #[.int .i64 0, .int .i64 0, .int .i64 0, .int .i64 0] := ⟨by kernel_rfl⟩
local instance i14_7 : ZeroT Tryd.prog 33 #[.slice none 0 0, .slice none 0 0] := ⟨by kernel_rfl⟩
local instance i14_8 : AggT Tryd.prog 33 2 := ⟨by kernel_rfl, by kernel_rfl⟩
set_option maxHeartbeats 8000000 in
set_option maxRecDepth 100000 in
theorem spec_PoolDrop.go (A0 : Option Addr) (c0 : Nat) (p : List S26) (A1 : Option Addr) (c1 : Nat) (h : List Int) (A2 : Option Addr) (c2 : Nat) (n : List Int) (w : World) (hr0 : Aside0 (Kd.C k26 w A0 p.length p)) (hc0 : Aside0 (p.length ≤ c0)) (hr1 : Aside0 (Kd.C (Kd.int .i64) w A1 h.length h)) (hc1 : Aside0 (h.length ≤ c1)) (hr2 : Aside0 (Kd.C (Kd.int .i64) w A2 n.length n)) (hc2 : Aside0 (n.length ≤ c2)) (b0 : p.length ≤ 1048576) (b1 : h.length ≤ 1048576) (b2 : n.length ≤ 1048576) :
    Calls Tryd.prog 15 #[.slice A0 p.length c0, .agg #[.slice A1 h.length c1, .slice A2 n.length c2]] w fun e w' => ∃ v0_ : Value, e = .returned v0_ ∧ Kd.R k26 26 w' w.heap.size (fun _ => True) v0_ (dropS h n p) ∧ Below w.heap.size w w' := by
  have HS := SS.nil w
  go_enter Tryd.func15, Tryd.ntmps15
  go_wp2_with (first | ((with_reducible refine gate_dst (N := 3) rfl ?_); refine ev_box HS (cs := #[.slice A1 h.length c1, .slice A2 n.length c2]) rfl rfl rfl ?_; clear HS; intro g3 w1 HS) | ((with_reducible refine gate_dst (N := 9) rfl ?_); refine ev_b0 k26 (e := 26) HS rfl rfl (by kernel_rfl) ?_; clear HS; intro g9 w1 HS))
  go_loopw [5, 6] (fun u5 u7 wr => ∃ (j : Int) (acc : List S26) (AO : Option Addr) (cO : Nat), 0 ≤ j ∧ j ≤ (p.length : Int) ∧ u5 = .slice AO acc.length cO ∧ u7 = .int .i64 j ∧ (acc.length : Int) ≤ j ∧ Aside0 (acc ++ dropS h n (p.drop j.toNat) = dropS h n p) ∧ SS w wr [box g3 #[.slice A1 h.length c1, .slice A2 n.length c2] 33, row k26 26 (.slice AO acc.length cO) acc]) (fun u5 u7 wr => p.length - (intOf u7).toNat)
  case atStart => exact ⟨0, [], _, _, by omega, by omega, rfl, rfl, by simp, ⟨by simp⟩, (HS.perm [1, 0] (by decide))⟩
  case round =>
    clear HS
    obtain ⟨j, acc, AO, cO, j0, j1, rfl, rfl, ba, HT, HS⟩ := hrel
    by_cases hlt : j < (p.length : Int)
    · obtain ⟨ad, rfl, _⟩ := at_T26 hr0.out j j0 hlt
      have hst2 := dropS_at h n acc p j j0 hlt
      obtain ⟨rh, rn, rc, hq⟩ : ∃ x y z, payL h n ((rd_T26 p j).f0) ((rd_T26 p j).f1) ((rd_T26 p j).f2) ((rd_T26 p j).f3) = (x, y, z) := ⟨_, _, _, rfl⟩
      have hp : Aside0 (spec_Pay.f 0 h n ((rd_T26 p j).f0) ((rd_T26 p j).f1) ((rd_T26 p j).f2) ((rd_T26 p j).f3) = some (rh, rn, rc)) := ⟨by unfold spec_Pay.f; rw [if_pos ⟨b1, b2⟩, hq]⟩
      rw [hq] at hst2
      simp only at hst2
      have HU := Aside0.mk (HT.out.symm.trans hst2)
      clear hst2 hq HT
      go_upto_region 5 with (fail)
      refine start_ (n := 12) (S := fun w' => SS w w' _) (ds := []) #[false, false, false, false, false, false, false, false, false, false, false, false] (by kernel_rfl) rfl rfl HS.drew (fun _ => ?_)
      replace HS := HS.drew
      generalize w1.drew = w1 at HS ⊢
      refine pA 1 18 ?_ rfl rfl (by kernel_rfl) (fun _ _ _ h => h) ⟨by rfl, ?_⟩ ?_ ?_ ?_
      rotate_left
      · intro w'; go_simp; (try with_reducible rfl)
      rotate_left
      · simp only [Act.put, nm]; rfl
      refine pA 2 19 ?_ rfl rfl (by kernel_rfl) (fun _ _ _ h => h) ⟨by rfl, ?_⟩ ?_ ?_ ?_
      rotate_left
      · intro w'; go_simp; (try with_reducible rfl)
      rotate_left
      · simp only [Act.put, nm]; rfl
      refine pA 3 20 ?_ rfl rfl (by kernel_rfl) (fun _ _ _ h => h) ⟨by rfl, ?_⟩ ?_ ?_ ?_
      rotate_left
      · intro w'; go_simp; (try with_reducible rfl)
      rotate_left
      · simp only [Act.put, nm]; rfl
      refine take_ (i := 0) (N := some 17) (a' := ?_) #[true, true, true, true, false, false, false, false, false, false, false, false] rfl rfl (by kernel_rfl) (fun _ _ _ h => h) (Or.inl ⟨by rfl, fun w' hs => rl_S hs rfl rfl (by rfl)⟩) (HS.drop 0) ?_ ?_
      rotate_left
      · simp only [Act.put, nm]; rfl
      refine take_ (i := 4) (N := some 21) (a' := ?_) #[true, true, true, true, true, false, false, false, false, false, false, false] rfl rfl (by kernel_rfl) (fun _ _ _ h => h) (Or.inl ⟨by rfl, fun w' hs => rl_E (Kd.C_below hr0.out hs.below) j0 hlt rfl rfl⟩) (HS.drop 0) ?_ ?_
      rotate_left
      · simp only [Act.put, nm]; rfl
      refine join_ (σ := Option Addr × Nat × Option Addr × Nat × Nat) 2 #[true, true, true, true, true, true, true, true, true, true, false, false] (fun s_ => [(16, .tuple #[.agg #[.slice s_.1 rh.length s_.2.1, .slice s_.2.2.1 rn.length s_.2.2.2.1], .int .i64 rc]), (23, .agg #[.slice s_.1 rh.length s_.2.1, .slice s_.2.2.1 rn.length s_.2.2.2.1]), (24, .int .i64 rc), (22, .tuple #[.agg #[.slice s_.1 rh.length s_.2.1, .slice s_.2.2.1 rn.length s_.2.2.2.1], .int .i64 rc]), (7, .pointer (some ⟨s_.2.2.2.2, 0, none⟩))]) (fun s_ w' => SS w w' [row (Kd.int .i64) 3 (.slice s_.1 rh.length s_.2.1) rh, row (Kd.int .i64) 3 (.slice s_.2.2.1 rn.length s_.2.2.2.1) rn, box s_.2.2.2.2 #[.slice none 0 0, .slice none 0 0] 33, box g3 #[.slice A1 h.length c1, .slice A2 n.length c2] 33, row k26 26 (.slice AO acc.length cO) acc]) ?_ (fun hcont => ?_)
      rotate_left
      · refine two_ (i := 5) (j := 9) (Ni := some 22) (Nj := some 7) #[true, true, true, true, true, true, false, false, false, false, false, false] #[true, true, true, true, true, false, false, false, false, true, false, false] rfl rfl rfl rfl (by kernel_rfl) (by decide) (by decide) (fun K hK => ?_) (fun K hK => ?_)
        · refine goes_ Tryd.func36 (by kernel_rfl) rfl _ (by rfl) rfl rfl (by simp only [List.map_toArray, List.map_cons, List.map_nil]; rfl) ?_
          refine (HS.get2 rfl rfl (spec_Pay.calls (w := _) (hr0_0 := Kd.C_below hr1.out HS.below) (hc0_0 := hc1.out) (hr0_1 := Kd.C_below hr2.out HS.below) (hc0_1 := hc2.out) (h := hp.out))).mono ?_
          clear HS
          rintro e w1 ⟨A22, c22, B22, d22, rfl, HS⟩
          refine ⟨_, rfl, ?_⟩
          refine hK.out _ _ (HS.drop 2) (fun _ => ?_)
          clear hK K
          refine norm_ (a' := ?_) ?_ ?_
          rotate_left
          · simp only [Act.put, nm]; rfl
          refine pA 6 16 ?_ rfl rfl (by kernel_rfl) (fun _ _ _ h => h) ⟨by rfl, ?_⟩ ?_ ?_ ?_
          rotate_left
          · intro w'; go_simp; (try with_reducible rfl)
          rotate_left
          · simp only [Act.put, nm]; rfl
          refine pA 7 23 ?_ rfl rfl (by kernel_rfl) (fun _ _ _ h => h) ⟨by rfl, ?_⟩ ?_ ?_ ?_
          rotate_left
          · intro w'; go_simp; (try with_reducible rfl)
          rotate_left
          · simp only [Act.put, nm]; rfl
          refine pA 8 24 ?_ rfl rfl (by kernel_rfl) (fun _ _ _ h => h) ⟨by rfl, ?_⟩ ?_ ?_ ?_
          rotate_left
          · intro w'; go_simp; (try with_reducible rfl)
          rotate_left
          · simp only [Act.put, nm]; rfl
          refine one_ (i := 9) (N := some 7) #[true, true, true, true, true, true, true, true, true, true, false, false] rfl rfl (by kernel_rfl) (by decide) (fun K hK => ?_)
          refine al_R HS (by rfl) rfl rfl ?_
          clear HS
          intro g7 w1 HS
          refine hK.out _ _ (HS.drop 3) (fun _ => ?_)
          clear hK K
          refine norm_ (a' := ?_) ?_ ?_
          rotate_left
          · simp only [Act.put, nm]; rfl
          have hp := HS.perm [1, 2, 0, 3, 4] (by decide)
          have hc := hcont ⟨A22, c22, B22, d22, g7⟩ w1 hp
          simp only [putAll, Act.put, nm] at hc
          exact hc
        · refine al_R HS (by rfl) rfl rfl ?_
          clear HS
          intro g7 w1 HS
          refine hK.out _ _ (HS.drop 1) (fun _ => ?_)
          clear hK K
          refine norm_ (a' := ?_) ?_ ?_
          rotate_left
          · simp only [Act.put, nm]; rfl
          refine one_ (i := 5) (N := some 22) #[true, true, true, true, true, true, false, false, false, true, false, false] rfl rfl (by kernel_rfl) (by decide) (fun K hK => ?_)
          refine goes_ Tryd.func36 (by kernel_rfl) rfl _ (by rfl) rfl rfl (by simp only [List.map_toArray, List.map_cons, List.map_nil]; rfl) ?_
          refine (HS.get2 rfl rfl (spec_Pay.calls (w := _) (hr0_0 := Kd.C_below hr1.out HS.below) (hc0_0 := hc1.out) (hr0_1 := Kd.C_below hr2.out HS.below) (hc0_1 := hc2.out) (h := hp.out))).mono ?_
          clear HS
          rintro e w1 ⟨A22, c22, B22, d22, rfl, HS⟩
          refine ⟨_, rfl, ?_⟩
          refine hK.out _ _ (HS.drop 3) (fun _ => ?_)
          clear hK K
          refine norm_ (a' := ?_) ?_ ?_
          rotate_left
          · simp only [Act.put, nm]; rfl
          refine pA 6 16 ?_ rfl rfl (by kernel_rfl) (fun _ _ _ h => h) ⟨by rfl, ?_⟩ ?_ ?_ ?_
          rotate_left
          · intro w'; go_simp; (try with_reducible rfl)
          rotate_left
          · simp only [Act.put, nm]; rfl
          refine pA 7 23 ?_ rfl rfl (by kernel_rfl) (fun _ _ _ h => h) ⟨by rfl, ?_⟩ ?_ ?_ ?_
          rotate_left
          · intro w'; go_simp; (try with_reducible rfl)
          rotate_left
          · simp only [Act.put, nm]; rfl
          refine pA 8 24 ?_ rfl rfl (by kernel_rfl) (fun _ _ _ h => h) ⟨by rfl, ?_⟩ ?_ ?_ ?_
          rotate_left
          · intro w'; go_simp; (try with_reducible rfl)
          rotate_left
          · simp only [Act.put, nm]; rfl
          have hp := HS.perm [0, 1, 2, 3, 4] (by decide)
          have hc := hcont ⟨A22, c22, B22, d22, g7⟩ w1 hp
          simp only [putAll, Act.put, nm] at hc
          exact hc
      clear HS
      rintro ⟨A22, c22, B22, d22, g7⟩ w1 HS
      dsimp only at HS
      refine norm_ (a' := ?_) ?_ ?_
      rotate_left
      · simp only [putAll, Act.put, nm]; rfl
      refine one_ (i := 10) (N := none) #[true, true, true, true, true, true, true, true, true, true, true, false] rfl rfl (by kernel_rfl) (by decide) (fun K hK => ?_)
      refine st_R HS (by rfl) rfl rfl rfl rfl (by rfl) (by rfl) (by rfl) ?_
      clear HS
      intro w1 HS
      refine hK.out _ _ (HS.drop 3) (fun _ => ?_)
      clear hK K
      refine pA 11 8 ?_ rfl rfl (by kernel_rfl) (fun _ _ _ h => h) ⟨by rfl, ?_⟩ ?_ ?_ ?_
      rotate_left
      · intro w'; go_simp; (try with_reducible rfl)
      rotate_left
      · simp only [Act.put, nm]; rfl
      refine done_ (by kernel_rfl) ?_
      by_cases d2 : rc = 2
      · subst d2
        have HU2 := Aside0.mk (HU.out.trans (if_pos rfl))
        clear HU
        go_wp2
        go_roundw
        case rel => exact ⟨j + 1, acc, _, _, by omega, by omega, rfl, by first | rfl | go_num, by omega, ⟨HU2.out.symm⟩, (HS.perm [3, 4] (by decide))⟩
        case measure => first | (simp [intOf]; omega) | (rw [show wrap64 (j + 1) = j + 1 from by unfold wrap64; omega]; simp [intOf]; omega)
      · have e2 : (rc != 2) = true := bne_iff_ne.mpr d2
        obtain ⟨ya, hya⟩ : ∃ ya, Aside0 (acc ++ [rd_T26 p j] = ya) := ⟨_, ⟨rfl⟩⟩
        have hyl : Aside0 (ya.length = acc.length + 1) := ⟨by rw [← hya.out]; simp⟩
        have HU2 := Aside0.mk (HU.out.trans (if_neg d2))
        clear HU
        go_wp2_with (first | ((with_reducible refine gate_dst (N := 31) rfl ?_); refine ev_loadE (Kd.C_below hr0.out HS.below) j0 hlt rfl rfl rfl ?_) | ((with_reducible refine gate_dst (N := 32) rfl ?_); refine ev_bapp HS AO (cs := [.int .i64 (rd_T26 p j).f0, .int .i64 (rd_T26 p j).f1, .int .i64 (rd_T26 p j).f2, .int .i64 (rd_T26 p j).f3]) (p := (rd_T26 p j)) (ys := ya) (z := .agg #[.int .i64 0, .int .i64 0, .int .i64 0, .int .i64 0]) (bytes := 32) rfl rfl rfl rfl (by kernel_rfl) rfl rfl rfl (fun _ => rfl) Tryd.underlying24 (by kernel_rfl) rfl (by decide) (by decide) (fun W => k26_mkM W _ _ _) (by omega) hya.out ?_; clear HS; intro A33 c33 g33 w1 HS))
        go_roundw
        case rel => exact ⟨j + 1, ya, _, _, by omega, by omega, rfl, by first | rfl | go_num, by have := hyl.out; omega, ⟨by rw [HU2.out, hya.out]⟩, (HS.perm [3, 4] (by decide))⟩
        case measure => first | (simp [intOf]; omega) | (rw [show wrap64 (j + 1) = j + 1 from by unfold wrap64; omega]; simp [intOf]; omega)
    · have he := Aside0.mk (HT.out.symm.trans (dropS_end h n acc p j (by omega)))
      go_wp2
      go_ret
      exact ⟨_, rfl, by rw [he.out]; exact HS.out1 AO, HS.below⟩
end
def spec_PoolDrop.f (k : Nat) (l0 : List S26) (l1_0 l1_1 : List Int) : Option (List S26) := if l0.length ≤ 1048576 ∧ l1_0.length ≤ 1048576 ∧ l1_1.length ≤ 1048576 then some (dropS l1_0 l1_1 l0) else none
theorem spec_PoolDrop.mono : ∀ a0 a1 a2 k, LeO (spec_PoolDrop.f k a0 a1 a2) (spec_PoolDrop.f (k + 1) a0 a1 a2) := fun _ _ _ _ => LeO.refl _
theorem spec_PoolDrop.calls (k : Nat) (A0 : Option Addr) (c0 : Nat) (l0 : List (S26)) (A1_0 : Option Addr) (c1_0 : Nat) (l1_0 : List Int) (A1_1 : Option Addr) (c1_1 : Nat) (l1_1 : List Int) (r : List (S26)) (w : World) (hr0 : Kd.C k26 w A0 l0.length l0) (hc0 : l0.length ≤ c0) (hr1_0 : Kd.C (Kd.int .i64) w A1_0 l1_0.length l1_0) (hc1_0 : l1_0.length ≤ c1_0) (hr1_1 : Kd.C (Kd.int .i64) w A1_1 l1_1.length l1_1) (hc1_1 : l1_1.length ≤ c1_1) (h : spec_PoolDrop.f k l0 l1_0 l1_1 = some r) :
    Calls Tryd.prog 15 #[.slice A0 l0.length c0, .agg #[.slice A1_0 l1_0.length c1_0, .slice A1_1 l1_1.length c1_1]] w fun e w' => ∃ v0_ : Value, e = .returned (v0_) ∧ Kd.R k26 26 w' w.heap.size (fun _ => True) v0_ r ∧ Below w.heap.size w w' := by
  unfold spec_PoolDrop.f at h
  by_cases hb : l0.length ≤ 1048576 ∧ l1_0.length ≤ 1048576 ∧ l1_1.length ≤ 1048576
  · rw [if_pos hb] at h
    obtain rfl := Option.some.inj h
    exact spec_PoolDrop.go A0 c0 l0 A1_0 c1_0 l1_0 A1_1 c1_1 l1_1 w ⟨hr0⟩ ⟨hc0⟩ ⟨hr1_0⟩ ⟨hc1_0⟩ ⟨hr1_1⟩ ⟨hc1_1⟩ hb.1 hb.2.1 hb.2.2
  · rw [if_neg hb] at h; cases h

/-! ### impl_PayAll: function 18 -/
def impl_PayAll.l0 : Nat → List Int → List (S26) → Int → Int → List Int → List Int → Option (List Int × List Int × List Int)
  | 0, _, _, _, _, _, _ => none
  | k + 1, x7, x14, x15, x16, x473000, x473001 => if x16 < x15 then (if 0 ≤ x16 then (if x16 < (x14.length : Int) then ((impl_Pay.f k x473000 x473001 ((rd_T26 x14 x16).f0) ((rd_T26 x14 x16).f1) ((rd_T26 x14 x16).f2) ((rd_T26 x14 x16).f3)).bind fun bt475 => (if x7.length < 17592186044416 then (impl_PayAll.l0 k (x7 ++ [bt475.2.2]) x14 x15 (wrap64 (x16 + 1)) bt475.1 bt475.2.1) else (none))) else (none)) else (none)) else (some (x473000, x473001, x7))
def impl_PayAll.f (k : Nat) (l0_0 : List Int) (l0_1 : List Int) (l1 : List (S26)) : Option (List Int × List Int × List Int) := (impl_copyLedger.f l0_0 l0_1).bind fun bt466 => (impl_PayAll.l0 k ([] : List Int) l1 (l1.length : Int) 0 bt466.1 bt466.2)
theorem impl_PayAll.mono_l : ∀ k, (∀ y0 y1 y2 y3 y4 y5, LeO (impl_PayAll.l0 k y0 y1 y2 y3 y4 y5) (impl_PayAll.l0 (k + 1) y0 y1 y2 y3 y4 y5))
  | 0 => fun _ _ _ _ _ _ r h => by simp [impl_PayAll.l0] at h
  | k + 1 => by
    have ih0 := impl_PayAll.mono_l k
    · intro y0 y1 y2 y3 y4 y5
      unfold impl_PayAll.l0
      repeat' first
      | (with_reducible exact ih0 _ _ _ _ _ _)
      | (with_reducible exact impl_Pay.mono _ _ _ _ _ _ _)
      | (with_reducible exact LeO.refl _)
      | (with_reducible exact LeO.none _)
      | (with_reducible refine LeO.ite ?_ ?_)
      | (with_reducible refine LeO.bind ?_ (fun _ => ?_))
      | exact ih0 _ _ _ _ _ _
      | exact impl_Pay.mono _ _ _ _ _ _ _
      | exact LeO.none _
      | refine LeO.ite ?_ ?_
      | refine LeO.bind ?_ (fun _ => ?_)
theorem impl_PayAll.mono : ∀ a0 a1 a2 k, LeO (impl_PayAll.f k a0 a1 a2) (impl_PayAll.f (k + 1) a0 a1 a2) := by
  intro a0 a1 a2 k
  have ih0 := impl_PayAll.mono_l k
  unfold impl_PayAll.f
  repeat' first
      | (with_reducible exact ih0 _ _ _ _ _ _)
      | (with_reducible exact impl_Pay.mono _ _ _ _ _ _ _)
      | (with_reducible exact LeO.refl _)
      | (with_reducible exact LeO.none _)
      | (with_reducible refine LeO.ite ?_ ?_)
      | (with_reducible refine LeO.bind ?_ (fun _ => ?_))
      | exact ih0 _ _ _ _ _ _
      | exact impl_Pay.mono _ _ _ _ _ _ _
      | exact LeO.none _
      | refine LeO.ite ?_ ?_
      | refine LeO.bind ?_ (fun _ => ?_)
set_option maxHeartbeats 8000000 in
set_option maxRecDepth 100000 in
theorem impl_PayAll.calls (k : Nat) (A0_0 : Option Addr) (c0_0 : Nat) (l0_0 : List Int) (A0_1 : Option Addr) (c0_1 : Nat) (l0_1 : List Int) (A1 : Option Addr) (c1 : Nat) (l1 : List (S26)) (r1 : List Int) (r2 : List Int) (r3 : List Int) (w : World) (hr0_0 : Kd.C (Kd.int .i64) w A0_0 l0_0.length l0_0) (hc0_0 : l0_0.length ≤ c0_0) (hr0_1 : Kd.C (Kd.int .i64) w A0_1 l0_1.length l0_1) (hc0_1 : l0_1.length ≤ c0_1) (hr1 : Kd.C k26 w A1 l1.length l1) (hc1 : l1.length ≤ c1) (h : impl_PayAll.f k l0_0 l0_1 l1 = some (r1, r2, r3)) :
    Calls Tryd.prog 18 #[.agg #[.slice A0_0 l0_0.length c0_0, .slice A0_1 l0_1.length c0_1], .slice A1 l1.length c1] w fun e w' => ∃ v0_ v1_ v2_ : Value, e = .returned (.tuple #[.agg #[v0_, v1_], v2_]) ∧ Kd.R (Kd.int .i64) 3 w' w.heap.size (fun k_ => some k_ ≠ (v1_ : Value).ownBlock ∧ some k_ ≠ (v2_ : Value).ownBlock) v0_ r1 ∧ Kd.R (Kd.int .i64) 3 w' w.heap.size (fun k_ => some k_ ≠ (v0_ : Value).ownBlock ∧ some k_ ≠ (v2_ : Value).ownBlock) v1_ r2 ∧ Kd.R (Kd.int .i64) 3 w' w.heap.size (fun k_ => some k_ ≠ (v0_ : Value).ownBlock ∧ some k_ ≠ (v1_ : Value).ownBlock) v2_ r3 ∧ Below w.heap.size w w' := by
  have hu33 := Tryd.underlying33
  have hu26 := Tryd.underlying26
  have HR0_0 := Aside0.mk hr0_0
  have HC0_0 := Aside0.mk hc0_0
  clear hr0_0 hc0_0
  have HR0_1 := Aside0.mk hr0_1
  have HC0_1 := Aside0.mk hc0_1
  clear hr0_1 hc0_1
  have HR1 := Aside0.mk hr1
  have HC1 := Aside0.mk hc1
  clear hr1 hc1
  have HB := Aside0.mk (Below.refl w.heap.size w)
  have H : ((impl_copyLedger.f l0_0 l0_1).bind fun bt466 => (impl_PayAll.l0 k ([] : List Int) l1 (l1.length : Int) 0 bt466.1 bt466.2)) = some (r1, r2, r3) := h
  clear h
  replace H := Option.bind_eq_some_iff.mp H
  obtain ⟨⟨t466, t469⟩, A30, H⟩ := H
  replace H : (impl_PayAll.l0 k ([] : List Int) l1 (l1.length : Int) 0 t466 t469) = some (r1, r2, r3) := H
  have A3 := Aside0.mk A30
  clear A30
  have H' := Aside0.mk H
  clear H
  go_enter Tryd.func18, Tryd.ntmps18
  go_wp2_with (first | ((with_reducible refine gate_dst (N := 2) rfl ?_); refine box_event ?hg (N := 2) ?hd (cs := #[.slice A0_0 l0_0.length c0_0, .slice A0_1 l0_1.length c0_1]) (t := 33) ?hr ?_; (case hd => rfl); (case hg => rfl); (case hr => go_simp <;> rfl); intro gb464 hg w4 hbox hb; have n0_ := Aside0.mk (below_step (HB.out) hb); have n1_ := Aside0.mk (hbox); have n2_ := Aside0.mk ((by rw [hg]; exact (below_size (HB.out)) : w.heap.size ≤ gb464)); have n3_ := Aside0.mk ((by rw [hg]; exact (below_size (HB.out)) : w.heap.size ≤ gb464)); clear HB; have HB := n0_; have BK464 := n1_; have GW464 := n2_; have GE464 := n3_; clear n0_ n1_ n2_ n3_; clear hb hbox hg) | ((with_reducible refine gate_dst (N := 4) rfl ?_); refine box_event ?hg (N := 4) ?hd (cs := #[.slice none 0 0, .slice none 0 0]) (t := 33) ?hr ?_; (case hd => rfl); (case hg => rfl); (case hr => go_simp <;> rfl); intro gb465 hg w5 hbox hb; have n0_ := Aside0.mk (blk_below (g := gb464) (o := .cells #[.slice A0_0 l0_0.length c0_0, .slice A0_1 l0_1.length c0_1] 33 (0, 0)) (by exact BK464.out) hb); have n1_ := Aside0.mk (below_step (HB.out) hb); have n2_ := Aside0.mk (hbox); have n3_ := Aside0.mk ((by rw [hg]; exact (below_size (HB.out)) : w.heap.size ≤ gb465)); have n4_ := Aside0.mk ((by rw [hg]; exact (below_size (HB.out)) : w.heap.size ≤ gb465)); have n5_ := Aside0.mk ((by rw [hg]; exact Nat.ne_of_lt (blk_lt (g := gb464) (o := .cells #[.slice A0_0 l0_0.length c0_0, .slice A0_1 l0_1.length c0_1] 33 (0, 0)) (by exact BK464.out)) : gb464 ≠ gb465)); have n6_ := Aside0.mk ((by rw [hg]; exact Nat.ne_of_gt (blk_lt (g := gb464) (o := .cells #[.slice A0_0 l0_0.length c0_0, .slice A0_1 l0_1.length c0_1] 33 (0, 0)) (by exact BK464.out)) : gb465 ≠ gb464)); clear BK464; clear HB; have BK464 := n0_; have HB := n1_; have BK465 := n2_; have GW465 := n3_; have GE465 := n4_; have NB464_465 := n5_; have NB465_464 := n6_; clear n0_ n1_ n2_ n3_ n4_ n5_ n6_; clear hb hbox hg; have hnb6 := NB464_465.out; have hnc6 := NB465_464.out; have hcz7_0 : w5.cell? ⟨gb464, 0, none⟩ = some (.slice A0_0 l0_0.length c0_0) := (blk_cell BK464.out 0).trans rfl; have hcz7_1 : w5.cell? ⟨gb464, 1, none⟩ = some (.slice A0_1 l0_1.length c0_1) := (blk_cell BK464.out 1).trans rfl; have hfz7_0 := blk_frozen BK464.out 0; have hfz7_1 := blk_frozen BK464.out 1) | ((with_reducible refine gate_callee (f := 37) rfl ?_); refine goesL_ (some 13) rfl rfl Tryd.func37 (by kernel_rfl) rfl #[.agg #[.slice A0_0 l0_0.length c0_0, .slice A0_1 l0_1.length c0_1]] rfl (by (try simp only [mp]); first | done | rfl) ?_; (with_reducible refine (impl_copyLedger.calls _ _ l0_0 _ _ l0_1 t466 t469 _ ?side1 ?side2 ?side3 ?side4 A3.out).mono ?_); (case side1 => repeat (first | exact (Kd.C_below HR0_0.out HB.out) | (with_reducible refine Kd.C_alloc ?_ _) | (with_reducible refine Kd.C_drewN ?_ _) | (with_reducible refine Kd.C_drew ?_))); (case side2 => exact HC0_0.out); (case side3 => repeat (first | exact (Kd.C_below HR0_1.out HB.out) | (with_reducible refine Kd.C_alloc ?_ _) | (with_reducible refine Kd.C_drewN ?_ _) | (with_reducible refine Kd.C_drew ?_))); (case side4 => exact HC0_1.out); rintro e w8 ⟨v467, v470, rfl, ho0, ho1, hb⟩; refine ⟨_, rfl, ?_⟩; have n0_ := Aside0.mk (Kd.R_lower ho0 (below_size (HB.out))); have n1_ := Aside0.mk (Kd.R_lower ho1 (below_size (HB.out))); have n2_ := Aside0.mk (blk_below (g := gb464) (o := .cells #[.slice A0_0 l0_0.length c0_0, .slice A0_1 l0_1.length c0_1] 33 (0, 0)) (by exact BK464.out) hb); have n3_ := Aside0.mk (blk_below (g := gb465) (o := .cells #[.slice none 0 0, .slice none 0 0] 33 (0, 0)) (by exact BK465.out) hb); have n4_ := Aside0.mk (below_step (HB.out) hb); clear BK464; clear BK465; clear HB; have HO468 := n0_; have HO471 := n1_; have BK464 := n2_; have BK465 := n3_; have HB := n4_; clear n0_ n1_ n2_ n3_ n4_; (try clear hb); (try clear hb2); (try clear hk); (try clear hi); (try clear ho0); (try clear ho1)) | ((with_reducible refine gate_dst (N := 6) rfl ?_); refine box_event ?hg (N := 6) ?hd (cs := #[.slice none 0 0, .slice none 0 0]) (t := 33) ?hr ?_; (case hd => rfl); (case hg => rfl); (case hr => go_simp <;> rfl); intro gb472 hg w9 hbox hb; have n0_ := Aside0.mk (Kd.R_below (by exact HO468.out) hb); have n1_ := Aside0.mk (Kd.R_below (by exact HO471.out) hb); have n2_ := Aside0.mk (blk_below (g := gb464) (o := .cells #[.slice A0_0 l0_0.length c0_0, .slice A0_1 l0_1.length c0_1] 33 (0, 0)) (by exact BK464.out) hb); have n3_ := Aside0.mk (blk_below (g := gb465) (o := .cells #[.slice none 0 0, .slice none 0 0] 33 (0, 0)) (by exact BK465.out) hb); have n4_ := Aside0.mk (below_step (HB.out) hb); have n5_ := Aside0.mk (hbox); have n6_ := Aside0.mk ((by rw [hg]; exact (below_size (HB.out)) : w.heap.size ≤ gb472)); have n7_ := Aside0.mk ((by rw [hg]; exact (below_size (HB.out)) : w.heap.size ≤ gb472)); have n8_ := Aside0.mk ((by rw [hg]; exact Nat.ne_of_lt (blk_lt (g := gb464) (o := .cells #[.slice A0_0 l0_0.length c0_0, .slice A0_1 l0_1.length c0_1] 33 (0, 0)) (by exact BK464.out)) : gb464 ≠ gb472)); have n9_ := Aside0.mk ((by rw [hg]; exact Nat.ne_of_gt (blk_lt (g := gb464) (o := .cells #[.slice A0_0 l0_0.length c0_0, .slice A0_1 l0_1.length c0_1] 33 (0, 0)) (by exact BK464.out)) : gb472 ≠ gb464)); have n10_ := Aside0.mk ((by rw [hg]; exact Nat.ne_of_lt (blk_lt (g := gb465) (o := .cells #[.slice none 0 0, .slice none 0 0] 33 (0, 0)) (by exact BK465.out)) : gb465 ≠ gb472)); have n11_ := Aside0.mk ((by rw [hg]; exact Nat.ne_of_gt (blk_lt (g := gb465) (o := .cells #[.slice none 0 0, .slice none 0 0] 33 (0, 0)) (by exact BK465.out)) : gb472 ≠ gb465)); clear HO468; clear HO471; clear BK464; clear BK465; clear HB; have HO468 := n0_; have HO471 := n1_; have BK464 := n2_; have BK465 := n3_; have HB := n4_; have BK472 := n5_; have GW472 := n6_; have GE472 := n7_; have NB464_472 := n8_; have NB472_464 := n9_; have NB465_472 := n10_; have NB472_465 := n11_; clear n0_ n1_ n2_ n3_ n4_ n5_ n6_ n7_ n8_ n9_ n10_ n11_; clear hb hbox hg; obtain ⟨Ao10, co10, eo10⟩ := Kd.R_slice HO468.out; subst eo10; have hnb11 := NB472_464.out; have hnc11 := NB464_472.out; have hnb12 := NB472_465.out; have hnc12 := NB465_472.out; have hcz13_0 : w9.cell? ⟨gb472, 0, none⟩ = some (.slice none 0 0) := (blk_cell BK472.out 0).trans rfl; have hcz13_1 : w9.cell? ⟨gb472, 1, none⟩ = some (.slice none 0 0) := (blk_cell BK472.out 1).trans rfl; have hfz13_0 := blk_frozen BK472.out 0; have hfz13_1 := blk_frozen BK472.out 1; obtain ⟨Ao14, co14, eo14⟩ := Kd.R_slice HO471.out; subst eo14))
  go_loopg [7, 16] k (fun kq v7 v16 w' => ∃ (x7_1 : List Int) (x16_1 : Int) (x473000_1 : List Int) (x473001_1 : List Int) (u473000 : Value) (u473001 : Value), v16 = .int .i64 x16_1 ∧ Aside0 (impl_PayAll.l0 kq x7_1 l1 (l1.length : Int) x16_1 x473000_1 x473001_1 = some (r1, r2, r3)) ∧ Aside0 (kq ≤ k) ∧ Aside0 (Kd.R (Kd.int .i64) 3 w' w.heap.size (fun k_ => some k_ ≠ (u473000 : Value).ownBlock ∧ some k_ ≠ (u473001 : Value).ownBlock) v7 x7_1) ∧ Aside0 (Kd.R (Kd.int .i64) 3 w' w.heap.size (fun k_ => some k_ ≠ (v7 : Value).ownBlock ∧ some k_ ≠ (u473001 : Value).ownBlock) u473000 x473000_1) ∧ Aside0 (Kd.R (Kd.int .i64) 3 w' w.heap.size (fun k_ => some k_ ≠ (v7 : Value).ownBlock ∧ some k_ ≠ (u473000 : Value).ownBlock) u473001 x473001_1) ∧ Aside0 (w'.heap[gb464]? = some (.cells #[(.slice A0_0 l0_0.length c0_0), (.slice A0_1 l0_1.length c0_1)] 33 (0, 0))) ∧ Aside0 (w'.heap[gb465]? = some (.cells #[(.slice none 0 0), (.slice none 0 0)] 33 (0, 0))) ∧ Aside0 (w'.heap[gb472]? = some (.cells #[u473000, u473001] 33 (0, 0))) ∧ Aside0 (Below w.heap.size w w'))
  case atStart => exact ⟨(([] : List Int)), (0), (t466), (t469), (.slice Ao10 t466.length co10), (.slice Ao14 t469.length co14), (by first | rfl | (simp; done) | (simp [*]; done)), H', ⟨Nat.le_refl _⟩, ⟨by first | exact Kd.R_nil _ _ _ _ _ | exact Kd.N_nil _ _ _ _ _ | exact Kd.V_nil _ _ _ _ _ | exact Kd.Q_nil _ _ _ _ _ | exact Kd.S_nil _ _ _ _ _⟩, ⟨by exact Kd.R_mono (Kd.R_far (p := ⟨gb472, 1, none⟩) (Kd.R_far (p := ⟨gb472, 0, none⟩) (Kd.R_types HO468.out BK472.out (by decide)) (fun _ hk => hk.2) (.slice Ao10 t466.length co10)) (fun _ hk => hk.2) (.slice Ao14 t469.length co14)) (fun _ hk => ⟨(by simp [Value.ownBlock]), hk.1⟩)⟩, ⟨by exact Kd.R_mono (Kd.R_far (p := ⟨gb472, 1, none⟩) (Kd.R_far (p := ⟨gb472, 0, none⟩) (Kd.R_types HO471.out BK472.out (by decide)) (fun _ hk => hk.2) (.slice Ao10 t466.length co10)) (fun _ hk => hk.2) (.slice Ao14 t469.length co14)) (fun _ hk => ⟨(by simp [Value.ownBlock]), hk.1⟩)⟩, ⟨by refine blk_far ?_ NB464_472.out _; refine blk_far ?_ NB464_472.out _; exact BK464.out⟩, ⟨by refine blk_far ?_ NB465_472.out _; refine blk_far ?_ NB465_472.out _; exact BK465.out⟩, ⟨by refine blk_put (cs := #[.slice Ao10 t466.length co10, .slice none 0 0]) ?_ 1 _ rfl; refine blk_put (cs := #[.slice none 0 0, .slice none 0 0]) ?_ 0 _ rfl; exact BK472.out⟩, ⟨by repeat (first | (with_reducible first | exact HB.out | apply below_alloc | apply pw_below_drewN | apply below_drew1 | refine below_set ?_ GE464.out | refine below_set ?_ GE465.out | refine below_set ?_ GE472.out) | exact HB.out)⟩⟩
  case round =>
    clear H'
    try clear c1
    try clear p2
    try clear c3
    try clear c6
    try clear c11
    try clear c12
    try clear hcz13_0
    try clear hcz13_1
    try clear hcz7_0
    try clear hcz7_1
    try clear hfz13_0
    try clear hfz13_1
    try clear hfz7_0
    try clear hfz7_1
    obtain ⟨x7_1, x16_1, x473000_1, x473001_1, u473000, u473001, rfl, HA, HK1, HO_7, HO_473000, HO_473001, BK464, BK465, BK472, HB⟩ := hrel
    cases gk with
    | zero => exact absurd HA.out (by simp [impl_PayAll.l0])
    | succ k1 =>
      have H := HA.out
      clear HA
      simp only [impl_PayAll.l0] at H
      have HF := Aside0.mk H
      clear H
      go_upto_if 17 with (fail)
      have H := HF.out
      clear HF
      by_cases c15 : x16_1 < (l1.length : Int)
      · rw [if_pos c15] at H
        have c15b0 : decide (x16_1 < (l1.length : Int)) = true := decide_eq_true c15
        clear c15
        (first | rw [c15b0] | (simp only [i64_w, i32_w]; rw [c15b0]) | skip)
        by_cases c16 : 0 ≤ x16_1
        · rw [if_pos c16] at H
          have c16b0 : decide (0 ≤ x16_1) = true := decide_eq_true c16
          clear c16
          by_cases c17 : x16_1 < (l1.length : Int)
          · rw [if_pos c17] at H
            have c17b0 : decide (x16_1 < (l1.length : Int)) = true := decide_eq_true c17
            clear c17
            replace H := Option.bind_eq_some_iff.mp H
            obtain ⟨⟨t475, t478, t481⟩, A180, H⟩ := H
            replace H : (if x7_1.length < 17592186044416 then (impl_PayAll.l0 k1 (x7_1 ++ [t481]) l1 (l1.length : Int) (wrap64 (x16_1 + 1)) t475 t478) else (none)) = some (r1, r2, r3) := H
            have A18 := Aside0.mk A180
            clear A180
            by_cases c19 : x7_1.length < 17592186044416
            · rw [if_pos c19] at H
              have LMc19 := Aside0.mk c19
              clear c19
              obtain ⟨y483, hy483⟩ : ∃ y_ : List Int, y_ = (x7_1 ++ [t481]) := ⟨_, rfl⟩
              replace H : (impl_PayAll.l0 k1 y483 l1 (l1.length : Int) (wrap64 (x16_1 + 1)) t475 t478) = some (r1, r2, r3) := by rw [hy483]; exact H
              have Ny483 := Aside0.mk hy483
              clear hy483
              have H' := Aside0.mk H
              clear H
              have p473 : 0 ≤ (x16_1 : Int) := of_decide_eq_true (by first | (with_reducible assumption) | assumption)
              have q473 : x16_1 < (l1.length : Int) := of_decide_eq_true (by first | (with_reducible assumption) | assumption)
              obtain ⟨ad473, e473, hx473_0, hx473_1, hx473_2, hx473_3⟩ := at_T26 HR1.out x16_1 p473 q473
              cases e473
              replace hx473_0 := (HB.out.cell (World.block_lt_of_cell? w _ hx473_0)).trans hx473_0
              replace hx473_1 := (HB.out.cell (World.block_lt_of_cell? w _ hx473_1)).trans hx473_1
              replace hx473_2 := (HB.out.cell (World.block_lt_of_cell? w _ hx473_2)).trans hx473_2
              replace hx473_3 := (HB.out.cell (World.block_lt_of_cell? w _ hx473_3)).trans hx473_3
              replace p473 := eq_true p473
              replace q473 := eq_true q473
              go_wp2_with (first | ((with_reducible refine gate_dst (N := 9) rfl ?_); refine box_event ?hg (N := 9) ?hd (cs := #[.int .i64 0, .int .i64 0, .int .i64 0, .int .i64 0]) (t := 26) ?hr ?_; (case hd => rfl); (case hg => rfl); (case hr => go_simp <;> rfl); intro gb474 hg w20 hbox hb; have n0_ := Aside0.mk (Kd.R_below (by exact HO_7.out) hb); have n1_ := Aside0.mk (Kd.R_below (by exact HO_473000.out) hb); have n2_ := Aside0.mk (Kd.R_below (by exact HO_473001.out) hb); have n3_ := Aside0.mk (blk_below (g := gb464) (o := .cells #[.slice A0_0 l0_0.length c0_0, .slice A0_1 l0_1.length c0_1] 33 (0, 0)) (by exact BK464.out) hb); have n4_ := Aside0.mk (blk_below (g := gb465) (o := .cells #[.slice none 0 0, .slice none 0 0] 33 (0, 0)) (by exact BK465.out) hb); have n5_ := Aside0.mk (blk_below (g := gb472) (o := .cells #[u473000, u473001] 33 (0, 0)) (by exact BK472.out) hb); have n6_ := Aside0.mk (below_step (by repeat (first | (with_reducible first | exact HB.out | apply below_alloc | apply pw_below_drewN | apply below_drew1 | refine below_set ?_ GE464.out | refine below_set ?_ GE465.out | refine below_set ?_ GE472.out) | exact HB.out)) hb); have n7_ := Aside0.mk (hbox); have n8_ := Aside0.mk ((by rw [hg]; exact (below_size (by repeat (first | (with_reducible first | exact HB.out | apply below_alloc | apply pw_below_drewN | apply below_drew1 | refine below_set ?_ GE464.out | refine below_set ?_ GE465.out | refine below_set ?_ GE472.out) | exact HB.out))) : w.heap.size ≤ gb474)); have n9_ := Aside0.mk ((by rw [hg]; exact (below_size (by repeat (first | (with_reducible first | exact HB.out | apply below_alloc | apply pw_below_drewN | apply below_drew1 | refine below_set ?_ GE464.out | refine below_set ?_ GE465.out | refine below_set ?_ GE472.out) | exact HB.out))) : w.heap.size ≤ gb474)); have n10_ := Aside0.mk ((by rw [hg]; exact Nat.ne_of_lt (blk_lt (g := gb464) (o := .cells #[.slice A0_0 l0_0.length c0_0, .slice A0_1 l0_1.length c0_1] 33 (0, 0)) (by exact BK464.out)) : gb464 ≠ gb474)); have n11_ := Aside0.mk ((by rw [hg]; exact Nat.ne_of_gt (blk_lt (g := gb464) (o := .cells #[.slice A0_0 l0_0.length c0_0, .slice A0_1 l0_1.length c0_1] 33 (0, 0)) (by exact BK464.out)) : gb474 ≠ gb464)); have n12_ := Aside0.mk ((by rw [hg]; exact Nat.ne_of_lt (blk_lt (g := gb465) (o := .cells #[.slice none 0 0, .slice none 0 0] 33 (0, 0)) (by exact BK465.out)) : gb465 ≠ gb474)); have n13_ := Aside0.mk ((by rw [hg]; exact Nat.ne_of_gt (blk_lt (g := gb465) (o := .cells #[.slice none 0 0, .slice none 0 0] 33 (0, 0)) (by exact BK465.out)) : gb474 ≠ gb465)); have n14_ := Aside0.mk ((by rw [hg]; exact Nat.ne_of_lt (blk_lt (g := gb472) (o := .cells #[u473000, u473001] 33 (0, 0)) (by exact BK472.out)) : gb472 ≠ gb474)); have n15_ := Aside0.mk ((by rw [hg]; exact Nat.ne_of_gt (blk_lt (g := gb472) (o := .cells #[u473000, u473001] 33 (0, 0)) (by exact BK472.out)) : gb474 ≠ gb472)); clear HO_7; clear HO_473000; clear HO_473001; clear BK464; clear BK465; clear BK472; clear HB; have HO_7 := n0_; have HO_473000 := n1_; have HO_473001 := n2_; have BK464 := n3_; have BK465 := n4_; have BK472 := n5_; have HB := n6_; have BK474 := n7_; have GW474 := n8_; have GE474 := n9_; have NB464_474 := n10_; have NB474_464 := n11_; have NB465_474 := n12_; have NB474_465 := n13_; have NB472_474 := n14_; have NB474_472 := n15_; clear n0_ n1_ n2_ n3_ n4_ n5_ n6_ n7_ n8_ n9_ n10_ n11_ n12_ n13_ n14_ n15_; clear hb hbox hg; have hnb21 := NB474_464.out; have hnc21 := NB464_474.out; have hnb22 := NB474_465.out; have hnc22 := NB465_474.out; have hnb23 := NB474_472.out; have hnc23 := NB472_474.out; have hcz24_0 : w20.cell? ⟨gb474, 0, none⟩ = some (.int .i64 0) := (blk_cell BK474.out 0).trans rfl; have hcz24_1 : w20.cell? ⟨gb474, 1, none⟩ = some (.int .i64 0) := (blk_cell BK474.out 1).trans rfl; have hcz24_2 : w20.cell? ⟨gb474, 2, none⟩ = some (.int .i64 0) := (blk_cell BK474.out 2).trans rfl; have hcz24_3 : w20.cell? ⟨gb474, 3, none⟩ = some (.int .i64 0) := (blk_cell BK474.out 3).trans rfl; have hfz24_0 := blk_frozen BK474.out 0; have hfz24_1 := blk_frozen BK474.out 1; have hfz24_2 := blk_frozen BK474.out 2; have hfz24_3 := blk_frozen BK474.out 3; have hnb25 := NB472_464.out; have hnc25 := NB464_472.out; have hnb26 := NB472_465.out; have hnc26 := NB465_472.out; have hcz27_0 : w20.cell? ⟨gb472, 0, none⟩ = some (u473000) := (blk_cell BK472.out 0).trans rfl; have hcz27_1 : w20.cell? ⟨gb472, 1, none⟩ = some (u473001) := (blk_cell BK472.out 1).trans rfl; have hfz27_0 := blk_frozen BK472.out 0; have hfz27_1 := blk_frozen BK472.out 1; obtain ⟨Ao28, co28, eo28⟩ := Kd.R_slice HO_473000.out; subst eo28; obtain ⟨Ao29, co29, eo29⟩ := Kd.R_slice HO_473001.out; subst eo29) | ((with_reducible refine gate_callee (f := 29) rfl ?_); refine goesL_ (some 23) rfl rfl Tryd.func29 (by kernel_rfl) rfl #[.agg #[.slice Ao28 x473000_1.length co28, .slice Ao29 x473001_1.length co29], .agg #[.int .i64 ((rd_T26 l1 x16_1).f0), .int .i64 ((rd_T26 l1 x16_1).f1), .int .i64 ((rd_T26 l1 x16_1).f2), .int .i64 ((rd_T26 l1 x16_1).f3)]] rfl (by (try simp only [mp]); first | done | rfl) ?_; (with_reducible refine (impl_Pay.calls k1 _ _ x473000_1 _ _ x473001_1 ((rd_T26 l1 x16_1).f0) ((rd_T26 l1 x16_1).f1) ((rd_T26 l1 x16_1).f2) ((rd_T26 l1 x16_1).f3) t475 t478 t481 _ ?side1 ?side2 ?side3 ?side4 A18.out).mono ?_); (case side1 => refine (Kd.R_reads' (e := 3) (base := w.heap.size) (ok := fun k_ => (some k_ ≠ (u7 : Value).ownBlock ∧ some k_ ≠ (.slice Ao29 x473001_1.length co29 : Value).ownBlock)) (n := x473000_1.length) (c := co28) ?_).2.2; exact (by exact (Kd.R_mono (Kd.R_far (p := ⟨gb474, 3, none⟩) (Kd.R_far (p := ⟨gb474, 2, none⟩) (Kd.R_far (p := ⟨gb474, 1, none⟩) (Kd.R_far (p := ⟨gb474, 0, none⟩) (Kd.R_types HO_473000.out BK474.out (by decide)) (fun _ hk => hk.2) (.int .i64 ((rd_T26 l1 x16_1).f0))) (fun _ hk => hk.2) (.int .i64 ((rd_T26 l1 x16_1).f1))) (fun _ hk => hk.2) (.int .i64 ((rd_T26 l1 x16_1).f2))) (fun _ hk => hk.2) (.int .i64 ((rd_T26 l1 x16_1).f3))) (fun _ h_ => h_.1)))); (case side2 => exact (Kd.R_reads' HO_473000.out).2.1); (case side3 => refine (Kd.R_reads' (e := 3) (base := w.heap.size) (ok := fun k_ => (some k_ ≠ (u7 : Value).ownBlock ∧ some k_ ≠ (.slice Ao28 x473000_1.length co28 : Value).ownBlock)) (n := x473001_1.length) (c := co29) ?_).2.2; exact (by exact (Kd.R_mono (Kd.R_far (p := ⟨gb474, 3, none⟩) (Kd.R_far (p := ⟨gb474, 2, none⟩) (Kd.R_far (p := ⟨gb474, 1, none⟩) (Kd.R_far (p := ⟨gb474, 0, none⟩) (Kd.R_types HO_473001.out BK474.out (by decide)) (fun _ hk => hk.2) (.int .i64 ((rd_T26 l1 x16_1).f0))) (fun _ hk => hk.2) (.int .i64 ((rd_T26 l1 x16_1).f1))) (fun _ hk => hk.2) (.int .i64 ((rd_T26 l1 x16_1).f2))) (fun _ hk => hk.2) (.int .i64 ((rd_T26 l1 x16_1).f3))) (fun _ h_ => h_.1)))); (case side4 => exact (Kd.R_reads' HO_473001.out).2.1); rintro e w30 ⟨v476, v479, rfl, ho0, ho1, hb⟩; refine ⟨_, rfl, ?_⟩; have n0_ := Aside0.mk (Kd.R_mono (Kd.R_told (Kd.R_told (Kd.R_old (by exact (Kd.R_mono (Kd.R_far (p := ⟨gb474, 3, none⟩) (Kd.R_far (p := ⟨gb474, 2, none⟩) (Kd.R_far (p := ⟨gb474, 1, none⟩) (Kd.R_far (p := ⟨gb474, 0, none⟩) (Kd.R_types HO_7.out BK474.out (by decide)) (fun _ hk => hk.2) (.int .i64 ((rd_T26 l1 x16_1).f0))) (fun _ hk => hk.2) (.int .i64 ((rd_T26 l1 x16_1).f1))) (fun _ hk => hk.2) (.int .i64 ((rd_T26 l1 x16_1).f2))) (fun _ hk => hk.2) (.int .i64 ((rd_T26 l1 x16_1).f3))) (fun _ h_ => h_.1))) hb) (Kd.R_base ho0)) (Kd.R_base ho1)) (fun _ h_ => h_.1)); have n1_ := Aside0.mk (Kd.R_mono (Kd.R_told (Kd.R_told (Kd.R_old (by exact (Kd.R_mono (Kd.R_far (p := ⟨gb474, 3, none⟩) (Kd.R_far (p := ⟨gb474, 2, none⟩) (Kd.R_far (p := ⟨gb474, 1, none⟩) (Kd.R_far (p := ⟨gb474, 0, none⟩) (Kd.R_types HO_473000.out BK474.out (by decide)) (fun _ hk => hk.2) (.int .i64 ((rd_T26 l1 x16_1).f0))) (fun _ hk => hk.2) (.int .i64 ((rd_T26 l1 x16_1).f1))) (fun _ hk => hk.2) (.int .i64 ((rd_T26 l1 x16_1).f2))) (fun _ hk => hk.2) (.int .i64 ((rd_T26 l1 x16_1).f3))) (fun _ h_ => h_.1))) hb) (Kd.R_base ho0)) (Kd.R_base ho1)) (fun _ h_ => h_.1)); have n2_ := Aside0.mk (Kd.R_mono (Kd.R_told (Kd.R_told (Kd.R_old (by exact (Kd.R_mono (Kd.R_far (p := ⟨gb474, 3, none⟩) (Kd.R_far (p := ⟨gb474, 2, none⟩) (Kd.R_far (p := ⟨gb474, 1, none⟩) (Kd.R_far (p := ⟨gb474, 0, none⟩) (Kd.R_types HO_473001.out BK474.out (by decide)) (fun _ hk => hk.2) (.int .i64 ((rd_T26 l1 x16_1).f0))) (fun _ hk => hk.2) (.int .i64 ((rd_T26 l1 x16_1).f1))) (fun _ hk => hk.2) (.int .i64 ((rd_T26 l1 x16_1).f2))) (fun _ hk => hk.2) (.int .i64 ((rd_T26 l1 x16_1).f3))) (fun _ h_ => h_.1))) hb) (Kd.R_base ho0)) (Kd.R_base ho1)) (fun _ h_ => h_.1)); have n3_ := Aside0.mk (Kd.R_lower (Kd.R_new' (Kd.R_new' (Kd.R_new' ho0 (Kd.R_lt (by exact (Kd.R_mono (Kd.R_far (p := ⟨gb474, 3, none⟩) (Kd.R_far (p := ⟨gb474, 2, none⟩) (Kd.R_far (p := ⟨gb474, 1, none⟩) (Kd.R_far (p := ⟨gb474, 0, none⟩) (Kd.R_types HO_7.out BK474.out (by decide)) (fun _ hk => hk.2) (.int .i64 ((rd_T26 l1 x16_1).f0))) (fun _ hk => hk.2) (.int .i64 ((rd_T26 l1 x16_1).f1))) (fun _ hk => hk.2) (.int .i64 ((rd_T26 l1 x16_1).f2))) (fun _ hk => hk.2) (.int .i64 ((rd_T26 l1 x16_1).f3))) (fun _ h_ => h_.1))))) (Kd.R_lt (by exact (Kd.R_mono (Kd.R_far (p := ⟨gb474, 3, none⟩) (Kd.R_far (p := ⟨gb474, 2, none⟩) (Kd.R_far (p := ⟨gb474, 1, none⟩) (Kd.R_far (p := ⟨gb474, 0, none⟩) (Kd.R_types HO_473000.out BK474.out (by decide)) (fun _ hk => hk.2) (.int .i64 ((rd_T26 l1 x16_1).f0))) (fun _ hk => hk.2) (.int .i64 ((rd_T26 l1 x16_1).f1))) (fun _ hk => hk.2) (.int .i64 ((rd_T26 l1 x16_1).f2))) (fun _ hk => hk.2) (.int .i64 ((rd_T26 l1 x16_1).f3))) (fun _ h_ => h_.1))))) (Kd.R_lt (by exact (Kd.R_mono (Kd.R_far (p := ⟨gb474, 3, none⟩) (Kd.R_far (p := ⟨gb474, 2, none⟩) (Kd.R_far (p := ⟨gb474, 1, none⟩) (Kd.R_far (p := ⟨gb474, 0, none⟩) (Kd.R_types HO_473001.out BK474.out (by decide)) (fun _ hk => hk.2) (.int .i64 ((rd_T26 l1 x16_1).f0))) (fun _ hk => hk.2) (.int .i64 ((rd_T26 l1 x16_1).f1))) (fun _ hk => hk.2) (.int .i64 ((rd_T26 l1 x16_1).f2))) (fun _ hk => hk.2) (.int .i64 ((rd_T26 l1 x16_1).f3))) (fun _ h_ => h_.1))))) (below_size (by repeat (first | (with_reducible first | exact HB.out | apply below_alloc | apply pw_below_drewN | apply below_drew1 | refine below_set ?_ GE464.out | refine below_set ?_ GE465.out | refine below_set ?_ GE472.out | refine below_set ?_ GE474.out) | exact HB.out)))); have n4_ := Aside0.mk (Kd.R_lower (Kd.R_new' (Kd.R_new' (Kd.R_new' ho1 (Kd.R_lt (by exact (Kd.R_mono (Kd.R_far (p := ⟨gb474, 3, none⟩) (Kd.R_far (p := ⟨gb474, 2, none⟩) (Kd.R_far (p := ⟨gb474, 1, none⟩) (Kd.R_far (p := ⟨gb474, 0, none⟩) (Kd.R_types HO_7.out BK474.out (by decide)) (fun _ hk => hk.2) (.int .i64 ((rd_T26 l1 x16_1).f0))) (fun _ hk => hk.2) (.int .i64 ((rd_T26 l1 x16_1).f1))) (fun _ hk => hk.2) (.int .i64 ((rd_T26 l1 x16_1).f2))) (fun _ hk => hk.2) (.int .i64 ((rd_T26 l1 x16_1).f3))) (fun _ h_ => h_.1))))) (Kd.R_lt (by exact (Kd.R_mono (Kd.R_far (p := ⟨gb474, 3, none⟩) (Kd.R_far (p := ⟨gb474, 2, none⟩) (Kd.R_far (p := ⟨gb474, 1, none⟩) (Kd.R_far (p := ⟨gb474, 0, none⟩) (Kd.R_types HO_473000.out BK474.out (by decide)) (fun _ hk => hk.2) (.int .i64 ((rd_T26 l1 x16_1).f0))) (fun _ hk => hk.2) (.int .i64 ((rd_T26 l1 x16_1).f1))) (fun _ hk => hk.2) (.int .i64 ((rd_T26 l1 x16_1).f2))) (fun _ hk => hk.2) (.int .i64 ((rd_T26 l1 x16_1).f3))) (fun _ h_ => h_.1))))) (Kd.R_lt (by exact (Kd.R_mono (Kd.R_far (p := ⟨gb474, 3, none⟩) (Kd.R_far (p := ⟨gb474, 2, none⟩) (Kd.R_far (p := ⟨gb474, 1, none⟩) (Kd.R_far (p := ⟨gb474, 0, none⟩) (Kd.R_types HO_473001.out BK474.out (by decide)) (fun _ hk => hk.2) (.int .i64 ((rd_T26 l1 x16_1).f0))) (fun _ hk => hk.2) (.int .i64 ((rd_T26 l1 x16_1).f1))) (fun _ hk => hk.2) (.int .i64 ((rd_T26 l1 x16_1).f2))) (fun _ hk => hk.2) (.int .i64 ((rd_T26 l1 x16_1).f3))) (fun _ h_ => h_.1))))) (below_size (by repeat (first | (with_reducible first | exact HB.out | apply below_alloc | apply pw_below_drewN | apply below_drew1 | refine below_set ?_ GE464.out | refine below_set ?_ GE465.out | refine below_set ?_ GE472.out | refine below_set ?_ GE474.out) | exact HB.out)))); have n5_ := Aside0.mk (blk_below (g := gb464) (o := .cells #[.slice A0_0 l0_0.length c0_0, .slice A0_1 l0_1.length c0_1] 33 (0, 0)) (by refine blk_far ?_ NB464_474.out _; refine blk_far ?_ NB464_474.out _; refine blk_far ?_ NB464_474.out _; refine blk_far ?_ NB464_474.out _; exact BK464.out) hb); have n6_ := Aside0.mk (blk_below (g := gb465) (o := .cells #[.slice none 0 0, .slice none 0 0] 33 (0, 0)) (by refine blk_far ?_ NB465_474.out _; refine blk_far ?_ NB465_474.out _; refine blk_far ?_ NB465_474.out _; refine blk_far ?_ NB465_474.out _; exact BK465.out) hb); have n7_ := Aside0.mk (blk_below (g := gb472) (o := .cells #[.slice Ao28 x473000_1.length co28, .slice Ao29 x473001_1.length co29] 33 (0, 0)) (by refine blk_far ?_ NB472_474.out _; refine blk_far ?_ NB472_474.out _; refine blk_far ?_ NB472_474.out _; refine blk_far ?_ NB472_474.out _; exact BK472.out) hb); have n8_ := Aside0.mk (blk_below (g := gb474) (o := .cells #[.int .i64 ((rd_T26 l1 x16_1).f0), .int .i64 ((rd_T26 l1 x16_1).f1), .int .i64 ((rd_T26 l1 x16_1).f2), .int .i64 ((rd_T26 l1 x16_1).f3)] 26 (0, 0)) (by refine blk_put (cs := #[.int .i64 ((rd_T26 l1 x16_1).f0), .int .i64 ((rd_T26 l1 x16_1).f1), .int .i64 ((rd_T26 l1 x16_1).f2), .int .i64 0]) ?_ 3 _ rfl; refine blk_put (cs := #[.int .i64 ((rd_T26 l1 x16_1).f0), .int .i64 ((rd_T26 l1 x16_1).f1), .int .i64 0, .int .i64 0]) ?_ 2 _ rfl; refine blk_put (cs := #[.int .i64 ((rd_T26 l1 x16_1).f0), .int .i64 0, .int .i64 0, .int .i64 0]) ?_ 1 _ rfl; refine blk_put (cs := #[.int .i64 0, .int .i64 0, .int .i64 0, .int .i64 0]) ?_ 0 _ rfl; exact BK474.out) hb); have n9_ := Aside0.mk (below_step (by repeat (first | (with_reducible first | exact HB.out | apply below_alloc | apply pw_below_drewN | apply below_drew1 | refine below_set ?_ GE464.out | refine below_set ?_ GE465.out | refine below_set ?_ GE472.out | refine below_set ?_ GE474.out) | exact HB.out)) hb); clear HO_7; clear HO_473000; clear HO_473001; clear BK464; clear BK465; clear BK472; clear BK474; clear HB; have HO_7 := n0_; have HO_473000 := n1_; have HO_473001 := n2_; have HO477 := n3_; have HO480 := n4_; have BK464 := n5_; have BK465 := n6_; have BK472 := n7_; have BK474 := n8_; have HB := n9_; clear n0_ n1_ n2_ n3_ n4_ n5_ n6_ n7_ n8_ n9_; (try clear hb); (try clear hb2); (try clear hk); (try clear hi); (try clear ho0); (try clear ho1)) | ((with_reducible refine gate_dst (N := 10) rfl ?_); refine box_event ?hg (N := 10) ?hd (cs := #[.slice none 0 0, .slice none 0 0]) (t := 33) ?hr ?_; (case hd => rfl); (case hg => rfl); (case hr => go_simp <;> rfl); intro gb482 hg w31 hbox hb; have n0_ := Aside0.mk (Kd.R_below (by exact HO_7.out) hb); have n1_ := Aside0.mk (Kd.R_below (by exact HO_473000.out) hb); have n2_ := Aside0.mk (Kd.R_below (by exact HO_473001.out) hb); have n3_ := Aside0.mk (Kd.R_below (by exact HO477.out) hb); have n4_ := Aside0.mk (Kd.R_below (by exact HO480.out) hb); have n5_ := Aside0.mk (blk_below (g := gb464) (o := .cells #[.slice A0_0 l0_0.length c0_0, .slice A0_1 l0_1.length c0_1] 33 (0, 0)) (by exact BK464.out) hb); have n6_ := Aside0.mk (blk_below (g := gb465) (o := .cells #[.slice none 0 0, .slice none 0 0] 33 (0, 0)) (by exact BK465.out) hb); have n7_ := Aside0.mk (blk_below (g := gb472) (o := .cells #[.slice Ao28 x473000_1.length co28, .slice Ao29 x473001_1.length co29] 33 (0, 0)) (by exact BK472.out) hb); have n8_ := Aside0.mk (blk_below (g := gb474) (o := .cells #[.int .i64 ((rd_T26 l1 x16_1).f0), .int .i64 ((rd_T26 l1 x16_1).f1), .int .i64 ((rd_T26 l1 x16_1).f2), .int .i64 ((rd_T26 l1 x16_1).f3)] 26 (0, 0)) (by exact BK474.out) hb); have n9_ := Aside0.mk (below_step (by repeat (first | (with_reducible first | exact HB.out | apply below_alloc | apply pw_below_drewN | apply below_drew1 | refine below_set ?_ GE464.out | refine below_set ?_ GE465.out | refine below_set ?_ GE472.out | refine below_set ?_ GE474.out) | exact HB.out)) hb); have n10_ := Aside0.mk (hbox); have n11_ := Aside0.mk ((by rw [hg]; exact (below_size (by repeat (first | (with_reducible first | exact HB.out | apply below_alloc | apply pw_below_drewN | apply below_drew1 | refine below_set ?_ GE464.out | refine below_set ?_ GE465.out | refine below_set ?_ GE472.out | refine below_set ?_ GE474.out) | exact HB.out))) : w.heap.size ≤ gb482)); have n12_ := Aside0.mk ((by rw [hg]; exact (below_size (by repeat (first | (with_reducible first | exact HB.out | apply below_alloc | apply pw_below_drewN | apply below_drew1 | refine below_set ?_ GE464.out | refine below_set ?_ GE465.out | refine below_set ?_ GE472.out | refine below_set ?_ GE474.out) | exact HB.out))) : w.heap.size ≤ gb482)); have n13_ := Aside0.mk ((by rw [hg]; exact Nat.ne_of_lt (blk_lt (g := gb464) (o := .cells #[.slice A0_0 l0_0.length c0_0, .slice A0_1 l0_1.length c0_1] 33 (0, 0)) (by exact BK464.out)) : gb464 ≠ gb482)); have n14_ := Aside0.mk ((by rw [hg]; exact Nat.ne_of_gt (blk_lt (g := gb464) (o := .cells #[.slice A0_0 l0_0.length c0_0, .slice A0_1 l0_1.length c0_1] 33 (0, 0)) (by exact BK464.out)) : gb482 ≠ gb464)); have n15_ := Aside0.mk ((by rw [hg]; exact Nat.ne_of_lt (blk_lt (g := gb465) (o := .cells #[.slice none 0 0, .slice none 0 0] 33 (0, 0)) (by exact BK465.out)) : gb465 ≠ gb482)); have n16_ := Aside0.mk ((by rw [hg]; exact Nat.ne_of_gt (blk_lt (g := gb465) (o := .cells #[.slice none 0 0, .slice none 0 0] 33 (0, 0)) (by exact BK465.out)) : gb482 ≠ gb465)); have n17_ := Aside0.mk ((by rw [hg]; exact Nat.ne_of_lt (blk_lt (g := gb472) (o := .cells #[.slice Ao28 x473000_1.length co28, .slice Ao29 x473001_1.length co29] 33 (0, 0)) (by exact BK472.out)) : gb472 ≠ gb482)); have n18_ := Aside0.mk ((by rw [hg]; exact Nat.ne_of_gt (blk_lt (g := gb472) (o := .cells #[.slice Ao28 x473000_1.length co28, .slice Ao29 x473001_1.length co29] 33 (0, 0)) (by exact BK472.out)) : gb482 ≠ gb472)); have n19_ := Aside0.mk ((by rw [hg]; exact Nat.ne_of_lt (blk_lt (g := gb474) (o := .cells #[.int .i64 ((rd_T26 l1 x16_1).f0), .int .i64 ((rd_T26 l1 x16_1).f1), .int .i64 ((rd_T26 l1 x16_1).f2), .int .i64 ((rd_T26 l1 x16_1).f3)] 26 (0, 0)) (by exact BK474.out)) : gb474 ≠ gb482)); have n20_ := Aside0.mk ((by rw [hg]; exact Nat.ne_of_gt (blk_lt (g := gb474) (o := .cells #[.int .i64 ((rd_T26 l1 x16_1).f0), .int .i64 ((rd_T26 l1 x16_1).f1), .int .i64 ((rd_T26 l1 x16_1).f2), .int .i64 ((rd_T26 l1 x16_1).f3)] 26 (0, 0)) (by exact BK474.out)) : gb482 ≠ gb474)); clear HO_7; clear HO_473000; clear HO_473001; clear HO477; clear HO480; clear BK464; clear BK465; clear BK472; clear BK474; clear HB; have HO_7 := n0_; have HO_473000 := n1_; have HO_473001 := n2_; have HO477 := n3_; have HO480 := n4_; have BK464 := n5_; have BK465 := n6_; have BK472 := n7_; have BK474 := n8_; have HB := n9_; have BK482 := n10_; have GW482 := n11_; have GE482 := n12_; have NB464_482 := n13_; have NB482_464 := n14_; have NB465_482 := n15_; have NB482_465 := n16_; have NB472_482 := n17_; have NB482_472 := n18_; have NB474_482 := n19_; have NB482_474 := n20_; clear n0_ n1_ n2_ n3_ n4_ n5_ n6_ n7_ n8_ n9_ n10_ n11_ n12_ n13_ n14_ n15_ n16_ n17_ n18_ n19_ n20_; clear hb hbox hg; obtain ⟨Ao32, co32, eo32⟩ := Kd.R_slice HO477.out; subst eo32; have hnb33 := NB482_464.out; have hnc33 := NB464_482.out; have hnb34 := NB482_465.out; have hnc34 := NB465_482.out; have hnb35 := NB482_472.out; have hnc35 := NB472_482.out; have hnb36 := NB482_474.out; have hnc36 := NB474_482.out; have hcz37_0 : w31.cell? ⟨gb482, 0, none⟩ = some (.slice none 0 0) := (blk_cell BK482.out 0).trans rfl; have hcz37_1 : w31.cell? ⟨gb482, 1, none⟩ = some (.slice none 0 0) := (blk_cell BK482.out 1).trans rfl; have hfz37_0 := blk_frozen BK482.out 0; have hfz37_1 := blk_frozen BK482.out 1; obtain ⟨Ao38, co38, eo38⟩ := Kd.R_slice HO480.out; subst eo38; have hcz39_0 : w31.cell? ⟨gb472, 0, none⟩ = some (.slice Ao28 x473000_1.length co28) := (blk_cell BK472.out 0).trans rfl; have hcz39_1 : w31.cell? ⟨gb472, 1, none⟩ = some (.slice Ao29 x473001_1.length co29) := (blk_cell BK472.out 1).trans rfl; have hfz39_0 := blk_frozen BK472.out 0; have hfz39_1 := blk_frozen BK472.out 1) | ((with_reducible refine gate_builtin (b := .append) (xs := #[.tmp 27, .tmp 29]) rfl ?_); at_builtin; refine Kd.R_append (Kd.int .i64) (w0 := w) w.heap.size rfl (.tmp 27) (.tmp 29) 31 3 (.int .i64 0) 8 rfl Tryd.underlying31 info3 rfl (by decide) (by omega) u7 x7_1 t481 [.int .i64 t481] (fun k_ => some k_ ≠ (.slice Ao28 x473000_1.length co28 : Value).ownBlock ∧ some k_ ≠ (.slice Ao29 x473001_1.length co29 : Value).ownBlock ∧ some k_ ≠ (.slice Ao32 t475.length co32 : Value).ownBlock ∧ some k_ ≠ (.slice Ao38 t478.length co38 : Value).ownBlock) (fun _ => False) rfl (by first | (go_simp; done) | (go_simp; rfl)) ?aP (fun _ hk => hk.elim) ?aF ?aO ?aB ?aS ?aL ?_; (case aP => exact rfl); (case aB => exact (by repeat (first | (with_reducible first | exact HB.out | apply below_alloc | apply pw_below_drewN | apply below_drew1 | refine below_set ?_ GE464.out | refine below_set ?_ GE465.out | refine below_set ?_ GE472.out | refine below_set ?_ GE474.out | refine below_set ?_ GE482.out) | exact HB.out))); (case aF => exact (fun k_ hk => ⟨Kd.fresh' (Kd.R_lt (by exact (Kd.R_mono (Kd.R_mono (Kd.R_far (p := ⟨gb472, 1, none⟩) (Kd.R_far (p := ⟨gb472, 0, none⟩) (Kd.R_far (p := ⟨gb482, 1, none⟩) (Kd.R_far (p := ⟨gb482, 0, none⟩) (Kd.R_types (Kd.R_types HO_473000.out BK482.out (by decide)) BK472.out (by decide)) (fun _ hk => hk.1.2) (.slice Ao32 t475.length co32)) (fun _ hk => hk.1.2) (.slice Ao38 t478.length co38)) (fun _ hk => hk.2) (.slice Ao32 t475.length co32)) (fun _ hk => hk.2) (.slice Ao38 t478.length co38)) (fun _ h_ => h_.1)) (fun _ h_ => h_.1)))) k_ hk, Kd.fresh' (Kd.R_lt (by exact (Kd.R_mono (Kd.R_mono (Kd.R_far (p := ⟨gb472, 1, none⟩) (Kd.R_far (p := ⟨gb472, 0, none⟩) (Kd.R_far (p := ⟨gb482, 1, none⟩) (Kd.R_far (p := ⟨gb482, 0, none⟩) (Kd.R_types (Kd.R_types HO_473001.out BK482.out (by decide)) BK472.out (by decide)) (fun _ hk => hk.1.2) (.slice Ao32 t475.length co32)) (fun _ hk => hk.1.2) (.slice Ao38 t478.length co38)) (fun _ hk => hk.2) (.slice Ao32 t475.length co32)) (fun _ hk => hk.2) (.slice Ao38 t478.length co38)) (fun _ h_ => h_.1)) (fun _ h_ => h_.1)))) k_ hk, Kd.fresh' (Kd.R_lt (by exact (Kd.R_mono (Kd.R_mono (Kd.R_far (p := ⟨gb472, 1, none⟩) (Kd.R_far (p := ⟨gb472, 0, none⟩) (Kd.R_far (p := ⟨gb482, 1, none⟩) (Kd.R_far (p := ⟨gb482, 0, none⟩) (Kd.R_types (Kd.R_types HO477.out BK482.out (by decide)) BK472.out (by decide)) (fun _ hk => hk.1.2) (.slice Ao32 t475.length co32)) (fun _ hk => hk.1.2) (.slice Ao38 t478.length co38)) (fun _ hk => hk.2) (.slice Ao32 t475.length co32)) (fun _ hk => hk.2) (.slice Ao38 t478.length co38)) (fun _ h_ => h_.1)) (fun _ h_ => h_.1)))) k_ hk, Kd.fresh' (Kd.R_lt (by exact (Kd.R_mono (Kd.R_mono (Kd.R_far (p := ⟨gb472, 1, none⟩) (Kd.R_far (p := ⟨gb472, 0, none⟩) (Kd.R_far (p := ⟨gb482, 1, none⟩) (Kd.R_far (p := ⟨gb482, 0, none⟩) (Kd.R_types (Kd.R_types HO480.out BK482.out (by decide)) BK472.out (by decide)) (fun _ hk => hk.1.2) (.slice Ao32 t475.length co32)) (fun _ hk => hk.1.2) (.slice Ao38 t478.length co38)) (fun _ hk => hk.2) (.slice Ao32 t475.length co32)) (fun _ hk => hk.2) (.slice Ao38 t478.length co38)) (fun _ h_ => h_.1)) (fun _ h_ => h_.1)))) k_ hk⟩)); (case aO => exact (by exact Kd.R_mono (Kd.R_far (p := ⟨gb472, 1, none⟩) (Kd.R_far (p := ⟨gb472, 0, none⟩) (Kd.R_far (p := ⟨gb482, 1, none⟩) (Kd.R_far (p := ⟨gb482, 0, none⟩) (Kd.R_types (Kd.R_types HO_7.out BK482.out (by decide)) BK472.out (by decide)) (fun _ hk => hk.1.2) (.slice Ao32 t475.length co32)) (fun _ hk => hk.1.2) (.slice Ao38 t478.length co38)) (fun _ hk => hk.2) (.slice Ao32 t475.length co32)) (fun _ hk => hk.2) (.slice Ao38 t478.length co38)) (fun _ hk => ⟨hk.1.1.1.1.1, ⟨hk.1.1.1.1.2, ⟨hk.1.1.1.2, hk.1.1.2⟩⟩⟩))); (case aS => exact (below_size (by repeat (first | (with_reducible first | exact HB.out | apply below_alloc | apply pw_below_drewN | apply below_drew1 | refine below_set ?_ GE464.out | refine below_set ?_ GE465.out | refine below_set ?_ GE472.out | refine below_set ?_ GE474.out | refine below_set ?_ GE482.out) | exact HB.out)))); (case aL => have := LMc19.out; omega); intro v484 w40 ho hb hg hat; rw [← Ny483.out] at ho; have n0_ := Aside0.mk (Kd.R_after (ok := (fun k_ => some k_ ≠ (.slice Ao29 x473001_1.length co29 : Value).ownBlock ∧ some k_ ≠ (.slice Ao32 t475.length co32 : Value).ownBlock ∧ some k_ ≠ (.slice Ao38 t478.length co38 : Value).ownBlock)) (by exact Kd.R_mono (Kd.R_far (p := ⟨gb472, 1, none⟩) (Kd.R_far (p := ⟨gb472, 0, none⟩) (Kd.R_far (p := ⟨gb482, 1, none⟩) (Kd.R_far (p := ⟨gb482, 0, none⟩) (Kd.R_types (Kd.R_types HO_473000.out BK482.out (by decide)) BK472.out (by decide)) (fun _ hk => hk.1.2) (.slice Ao32 t475.length co32)) (fun _ hk => hk.1.2) (.slice Ao38 t478.length co38)) (fun _ hk => hk.2) (.slice Ao32 t475.length co32)) (fun _ hk => hk.2) (.slice Ao38 t478.length co38)) (fun _ hk => ⟨⟨hk.1.1.1.1.2, ⟨hk.1.1.1.2, hk.1.1.2⟩⟩, hk.1.1.1.1.1⟩)) hg hat); have n1_ := Aside0.mk (Kd.R_after (ok := (fun k_ => some k_ ≠ (.slice Ao28 x473000_1.length co28 : Value).ownBlock ∧ some k_ ≠ (.slice Ao32 t475.length co32 : Value).ownBlock ∧ some k_ ≠ (.slice Ao38 t478.length co38 : Value).ownBlock)) (by exact Kd.R_mono (Kd.R_far (p := ⟨gb472, 1, none⟩) (Kd.R_far (p := ⟨gb472, 0, none⟩) (Kd.R_far (p := ⟨gb482, 1, none⟩) (Kd.R_far (p := ⟨gb482, 0, none⟩) (Kd.R_types (Kd.R_types HO_473001.out BK482.out (by decide)) BK472.out (by decide)) (fun _ hk => hk.1.2) (.slice Ao32 t475.length co32)) (fun _ hk => hk.1.2) (.slice Ao38 t478.length co38)) (fun _ hk => hk.2) (.slice Ao32 t475.length co32)) (fun _ hk => hk.2) (.slice Ao38 t478.length co38)) (fun _ hk => ⟨⟨hk.1.1.1.1.2, ⟨hk.1.1.1.2, hk.1.1.2⟩⟩, hk.1.1.1.1.1⟩)) hg hat); have n2_ := Aside0.mk (blk_grown (g := gb464) (o := .cells #[.slice A0_0 l0_0.length c0_0, .slice A0_1 l0_1.length c0_1] 33 (0, 0)) (by refine blk_far ?_ NB464_472.out _; refine blk_far ?_ NB464_472.out _; refine blk_far ?_ NB464_482.out _; refine blk_far ?_ NB464_482.out _; exact BK464.out) hg (Kd.R_ne HO_7.out BK464.out (by decide))); have n3_ := Aside0.mk (blk_grown (g := gb465) (o := .cells #[.slice none 0 0, .slice none 0 0] 33 (0, 0)) (by refine blk_far ?_ NB465_472.out _; refine blk_far ?_ NB465_472.out _; refine blk_far ?_ NB465_482.out _; refine blk_far ?_ NB465_482.out _; exact BK465.out) hg (Kd.R_ne HO_7.out BK465.out (by decide))); have n4_ := Aside0.mk (blk_grown (g := gb472) (o := .cells #[.slice Ao32 t475.length co32, .slice Ao38 t478.length co38] 33 (0, 0)) (by refine blk_put (cs := #[.slice Ao32 t475.length co32, .slice Ao29 x473001_1.length co29]) ?_ 1 _ rfl; refine blk_put (cs := #[.slice Ao28 x473000_1.length co28, .slice Ao29 x473001_1.length co29]) ?_ 0 _ rfl; refine blk_far ?_ NB472_482.out _; refine blk_far ?_ NB472_482.out _; exact BK472.out) hg (Kd.R_ne HO_7.out BK472.out (by decide))); have n5_ := Aside0.mk (blk_grown (g := gb474) (o := .cells #[.int .i64 ((rd_T26 l1 x16_1).f0), .int .i64 ((rd_T26 l1 x16_1).f1), .int .i64 ((rd_T26 l1 x16_1).f2), .int .i64 ((rd_T26 l1 x16_1).f3)] 26 (0, 0)) (by refine blk_far ?_ NB474_472.out _; refine blk_far ?_ NB474_472.out _; refine blk_far ?_ NB474_482.out _; refine blk_far ?_ NB474_482.out _; exact BK474.out) hg (Kd.R_ne HO_7.out BK474.out (by decide))); have n6_ := Aside0.mk (Kd.R_after (ok := (fun k_ => some k_ ≠ (.slice Ao28 x473000_1.length co28 : Value).ownBlock ∧ some k_ ≠ (.slice Ao29 x473001_1.length co29 : Value).ownBlock ∧ some k_ ≠ (.slice Ao38 t478.length co38 : Value).ownBlock)) (by exact Kd.R_mono (Kd.R_far (p := ⟨gb472, 1, none⟩) (Kd.R_far (p := ⟨gb472, 0, none⟩) (Kd.R_far (p := ⟨gb482, 1, none⟩) (Kd.R_far (p := ⟨gb482, 0, none⟩) (Kd.R_types (Kd.R_types HO477.out BK482.out (by decide)) BK472.out (by decide)) (fun _ hk => hk.1.2) (.slice Ao32 t475.length co32)) (fun _ hk => hk.1.2) (.slice Ao38 t478.length co38)) (fun _ hk => hk.2) (.slice Ao32 t475.length co32)) (fun _ hk => hk.2) (.slice Ao38 t478.length co38)) (fun _ hk => ⟨⟨hk.1.1.1.2, ⟨hk.1.1.2, hk.1.1.1.1.1⟩⟩, hk.1.1.1.1.2⟩)) hg hat); have n7_ := Aside0.mk (Kd.R_after (ok := (fun k_ => some k_ ≠ (.slice Ao28 x473000_1.length co28 : Value).ownBlock ∧ some k_ ≠ (.slice Ao29 x473001_1.length co29 : Value).ownBlock ∧ some k_ ≠ (.slice Ao32 t475.length co32 : Value).ownBlock)) (by exact Kd.R_mono (Kd.R_far (p := ⟨gb472, 1, none⟩) (Kd.R_far (p := ⟨gb472, 0, none⟩) (Kd.R_far (p := ⟨gb482, 1, none⟩) (Kd.R_far (p := ⟨gb482, 0, none⟩) (Kd.R_types (Kd.R_types HO480.out BK482.out (by decide)) BK472.out (by decide)) (fun _ hk => hk.1.2) (.slice Ao32 t475.length co32)) (fun _ hk => hk.1.2) (.slice Ao38 t478.length co38)) (fun _ hk => hk.2) (.slice Ao32 t475.length co32)) (fun _ hk => hk.2) (.slice Ao38 t478.length co38)) (fun _ hk => ⟨⟨hk.1.1.1.2, ⟨hk.1.1.2, hk.1.1.1.1.1⟩⟩, hk.1.1.1.1.2⟩)) hg hat); have n8_ := Aside0.mk (blk_grown (g := gb482) (o := .cells #[.slice Ao32 t475.length co32, .slice Ao38 t478.length co38] 33 (0, 0)) (by refine blk_far ?_ NB482_472.out _; refine blk_far ?_ NB482_472.out _; refine blk_put (cs := #[.slice Ao32 t475.length co32, .slice none 0 0]) ?_ 1 _ rfl; refine blk_put (cs := #[.slice none 0 0, .slice none 0 0]) ?_ 0 _ rfl; exact BK482.out) hg (Kd.R_ne HO_7.out BK482.out (by decide))); have n9_ := Aside0.mk (hb); have n10_ := Aside0.mk (ho); clear HO_473000; clear HO_473001; clear BK464; clear BK465; clear BK472; clear BK474; clear HO477; clear HO480; clear BK482; clear HB; clear HO_7; have HO_473000 := n0_; have HO_473001 := n1_; have BK464 := n2_; have BK465 := n3_; have BK472 := n4_; have BK474 := n5_; have HO477 := n6_; have HO480 := n7_; have BK482 := n8_; have HB := n9_; have HO485 := n10_; clear n0_ n1_ n2_ n3_ n4_ n5_ n6_ n7_ n8_ n9_ n10_; clear ho hb hg hat))
              go_roundg k1
              case measure => have := HK1.out; omega
              case rel => exact ⟨(y483), (wrap64 (x16_1 + 1)), (t475), (t478), (.slice Ao32 t475.length co32), (.slice Ao38 t478.length co38), (by first | rfl | (simp; done) | (simp [*]; done)), H', ⟨by have := HK1.out; omega⟩, ⟨by exact Kd.R_mono HO485.out (fun _ hk => ⟨hk.2.2.1, hk.2.2.2⟩)⟩, ⟨by exact Kd.R_mono HO477.out (fun _ hk => ⟨hk.2, hk.1.2.2⟩)⟩, ⟨by exact Kd.R_mono HO480.out (fun _ hk => ⟨hk.2, hk.1.2.2⟩)⟩, ⟨by exact BK464.out⟩, ⟨by exact BK465.out⟩, ⟨by exact BK472.out⟩, ⟨HB.out⟩⟩
            · rw [if_neg c19] at H
              exact absurd H (by simp)
          · rw [if_neg c17] at H
            exact absurd H (by simp)
        · rw [if_neg c16] at H
          exact absurd H (by simp)
      · rw [if_neg c15] at H
        have c15b0 : decide (x16_1 < (l1.length : Int)) = false := decide_eq_false c15
        clear c15
        (first | rw [c15b0] | (simp only [i64_w, i32_w]; rw [c15b0]) | skip)
        simp only [Option.some.injEq, Prod.mk.injEq] at H
        obtain ⟨rfl, rfl, rfl⟩ := H
        have hnb41 := NB472_464.out
        have hnc41 := NB464_472.out
        have hnb42 := NB472_465.out
        have hnc42 := NB465_472.out
        have hcz43_0 : wr.cell? ⟨gb472, 0, none⟩ = some (u473000) := (blk_cell BK472.out 0).trans rfl
        have hcz43_1 : wr.cell? ⟨gb472, 1, none⟩ = some (u473001) := (blk_cell BK472.out 1).trans rfl
        have hfz43_0 := blk_frozen BK472.out 0
        have hfz43_1 := blk_frozen BK472.out 1
        obtain ⟨Ao44, co44, eo44⟩ := Kd.R_slice HO_473000.out
        subst eo44
        have hnb45 := NB465_464.out
        have hnc45 := NB464_465.out
        have hcz46_0 : wr.cell? ⟨gb465, 0, none⟩ = some (.slice none 0 0) := (blk_cell BK465.out 0).trans rfl
        have hcz46_1 : wr.cell? ⟨gb465, 1, none⟩ = some (.slice none 0 0) := (blk_cell BK465.out 1).trans rfl
        have hfz46_0 := blk_frozen BK465.out 0
        have hfz46_1 := blk_frozen BK465.out 1
        obtain ⟨Ao47, co47, eo47⟩ := Kd.R_slice HO_473001.out
        subst eo47
        go_wp2
        refine bodyPost_ret (results_ct rfl _ _ gb465 33 #[.slice Ao44 x473000_1.length co44, .slice Ao47 x473001_1.length co47] (0, 0) _ rfl (by refine blk_put (cs := #[.slice Ao44 x473000_1.length co44, .slice none 0 0]) ?_ 1 _ rfl; refine blk_put (cs := #[.slice none 0 0, .slice none 0 0]) ?_ 0 _ rfl; exact BK465.out) Tryd.underlying33 rfl (by kernel_rfl)) rfl ?_
        exact ⟨_, _, _, rfl, by exact Kd.R_mono (Kd.R_far (p := ⟨gb465, 1, none⟩) (Kd.R_far (p := ⟨gb465, 0, none⟩) (Kd.R_types HO_473000.out BK465.out (by decide)) (fun _ hk => hk.2) (.slice Ao44 x473000_1.length co44)) (fun _ hk => hk.2) (.slice Ao47 x473001_1.length co47)) (fun _ hk => ⟨hk.1.2, hk.1.1⟩), by exact Kd.R_mono (Kd.R_far (p := ⟨gb465, 1, none⟩) (Kd.R_far (p := ⟨gb465, 0, none⟩) (Kd.R_types HO_473001.out BK465.out (by decide)) (fun _ hk => hk.2) (.slice Ao44 x473000_1.length co44)) (fun _ hk => hk.2) (.slice Ao47 x473001_1.length co47)) (fun _ hk => ⟨hk.1.2, hk.1.1⟩), by exact Kd.R_mono (Kd.R_far (p := ⟨gb465, 1, none⟩) (Kd.R_far (p := ⟨gb465, 0, none⟩) (Kd.R_types HO_7.out BK465.out (by decide)) (fun _ hk => hk.2) (.slice Ao44 x473000_1.length co44)) (fun _ hk => hk.2) (.slice Ao47 x473001_1.length co47)) (fun _ hk => ⟨hk.1.1, hk.1.2⟩), by repeat (first | (with_reducible first | exact HB.out | apply below_alloc | apply pw_below_drewN | apply below_drew1 | refine below_set ?_ GE464.out | refine below_set ?_ GE465.out | refine below_set ?_ GE472.out) | exact HB.out)⟩

end Go.Proofs.YtnlakfbbbnkcpaaDoor.PFnPools
