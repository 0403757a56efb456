/- Walks of the functions that a law of seat Ytajblkfgdalldaa reaches, each against a Lean function, printed by this session's wip/myprint.py; no condition of their own. -/
import Derived.Test.YtajblkfgdalldaaPFnExactPoolAddx0
import Derived.Test.YtajblkfgdalldaaPFnExactPoolAddx1
import Derived.Test.YtajblkfgdalldaaPFnExactPoolAddx2
import Derived.Test.YtajblkfgdalldaaPFnExactPoolAddx4
import Derived.Test.YtajblkfgdalldaaPFnExactPoolAddx6
namespace Go.Proofs.Ytajblkfgdalldaa.PFnExactPoolAdd
open Go.RowKit Go.Proofs.YtajblkfgdalldaaW.PrintWords Go.Proofs.YtajblkfgdalldaaW.PrintLast Go.Proofs.YtajblkfgdalldaaW.PrintMore
attribute [local go_sem] max2_int min2_int max_two min_two max_three min_three max_four min_four   -- for this text's walks alone
set_option linter.unusedVariables false
set_option linter.unusedSimpArgs false

/-! ### laws_FnExactPoolAdd: function 14 -/
mutual
def laws_FnExactPoolAdd.j0 : Nat → List (S50) → List (S45) → Bool → List (S45) → List (S45) → Bool → Bool → Int → Int → Int → Int → Option (Bool)
  | 0, _, _, _, _, _, _, _, _, _, _, _ => none
  | k + 1, x0, x6, x7, x8, x9, x10, x46, x211000, x211001, x211002, x211003 => if x46 = true then (some false) else ((laws_toTxS.f k x0).bind fun t235 => ((laws_eqTxS.f k x8 t235).bind fun t238 => (if t238 = true then ((laws_markTxS.f k x8 1).bind fun bt239 => (if bt239.1 < 0 then (none) else ((laws_eqTxS.f k x9 x6).bind fun t241 => (if t241 = true then (laws_FnExactPoolAdd.j1 k x0 x6 x7 x9 (x10 != x7) x211000 x211001 x211002 x211003) else (none))))) else (some false))))
def laws_FnExactPoolAdd.j1 : Nat → List (S50) → List (S45) → Bool → List (S45) → Bool → Int → Int → Int → Int → Option (Bool)
  | 0, _, _, _, _, _, _, _, _, _ => none
  | k + 1, x0, x6, x7, x9, x67, x211000, x211001, x211002, x211003 => if x67 = true then (some false) else ((laws_markTxS.f k x9 1).bind fun bt242 => ((laws_heldTxS.f k bt242.2 1).bind fun t244 => (if t244 < 0 then (some false) else (if t244 = bt242.1 then ((laws_toTxS.f k x0).bind fun t245 => ((laws_toTx.f x211000 x211001 x211002 x211003).bind fun bt248 => ((impl_PoolAdd.f k t245 bt248.1 bt248.2.1 bt248.2.2.1 bt248.2.2.2).bind fun bt252 => ((laws_eqTxS.f k bt252.1 x6).bind fun t256 => (if t256 = true then (laws_FnExactPoolAdd.j2 k bt242.2 bt242.1 (bt252.2 != x7)) else (none)))))) else (some false)))))
def laws_FnExactPoolAdd.j2 : Nat → List (S45) → Int → Bool → Option (Bool)
  | 0, _, _, _ => none
  | k + 1, x9, x12, x95 => if x95 = true then (some false) else ((laws_heldTxS.f k x9 1).bind fun t257 => (if t257 < 0 then (some false) else (if t257 = x12 then (some true) else (some false))))
end
def laws_FnExactPoolAdd.f (k : Nat) (l0 : List (S50)) (a1_0 : Int) (a1_1 : Int) (a1_2 : Int) (a1_3 : Int) : Option (Bool) := (laws_szTxS.f l0 1048576).bind fun t211 => (if t211 < 0 then (some true) else ((laws_toTxS.f k l0).bind fun t212 => ((laws_toTx.f a1_0 a1_1 a1_2 a1_3).bind fun bt215 => ((spec_PoolAdd.f k t212 bt215.1 bt215.2.1 bt215.2.2.1 bt215.2.2.2).bind fun bt219 => ((laws_toTxS.f k l0).bind fun t223 => ((laws_toTx.f a1_0 a1_1 a1_2 a1_3).bind fun bt226 => ((impl_PoolAdd.f k t223 bt226.1 bt226.2.1 bt226.2.2.1 bt226.2.2.2).bind fun bt230 => ((laws_eqTxS.f k bt230.1 bt219.1).bind fun t234 => (if t234 = true then (laws_FnExactPoolAdd.j0 k l0 bt219.1 bt219.2 t223 bt230.1 bt230.2 (bt230.2 != bt219.2) a1_0 a1_1 a1_2 a1_3) else (none))))))))))
theorem laws_FnExactPoolAdd.mono_l : ∀ k, (∀ y0 y1 y2 y3 y4 y5 y6 y7 y8 y9 y10, LeO (laws_FnExactPoolAdd.j0 k y0 y1 y2 y3 y4 y5 y6 y7 y8 y9 y10) (laws_FnExactPoolAdd.j0 (k + 1) y0 y1 y2 y3 y4 y5 y6 y7 y8 y9 y10)) ∧ (∀ y0 y1 y2 y3 y4 y5 y6 y7 y8, LeO (laws_FnExactPoolAdd.j1 k y0 y1 y2 y3 y4 y5 y6 y7 y8) (laws_FnExactPoolAdd.j1 (k + 1) y0 y1 y2 y3 y4 y5 y6 y7 y8)) ∧ (∀ y0 y1 y2, LeO (laws_FnExactPoolAdd.j2 k y0 y1 y2) (laws_FnExactPoolAdd.j2 (k + 1) y0 y1 y2))
  | 0 => ⟨fun _ _ _ _ _ _ _ _ _ _ _ r h => by simp [laws_FnExactPoolAdd.j0] at h, fun _ _ _ _ _ _ _ _ _ r h => by simp [laws_FnExactPoolAdd.j1] at h, fun _ _ _ r h => by simp [laws_FnExactPoolAdd.j2] at h⟩
  | k + 1 => by
    obtain ⟨ih0, ih1, ih2⟩ := laws_FnExactPoolAdd.mono_l k
    refine ⟨?_, ?_, ?_⟩
    · intro y0 y1 y2 y3 y4 y5 y6 y7 y8 y9 y10
      unfold laws_FnExactPoolAdd.j0
      repeat' first
      | (with_reducible exact ih0 _ _ _ _ _ _ _ _ _ _ _)
      | (with_reducible exact ih1 _ _ _ _ _ _ _ _ _)
      | (with_reducible exact ih2 _ _ _)
      | (with_reducible exact impl_PoolAdd.mono _ _ _ _ _ _)
      | (with_reducible exact laws_eqTxS.mono _ _ _)
      | (with_reducible exact laws_heldTxS.mono _ _ _)
      | (with_reducible exact laws_markTxS.mono _ _ _)
      | (with_reducible exact laws_toTxS.mono _ _)
      | (with_reducible exact spec_PoolAdd.mono _ _ _ _ _ _)
      | (with_reducible exact LeO.refl _)
      | (with_reducible exact LeO.none _)
      | (with_reducible refine LeO.ite ?_ ?_)
      | (with_reducible refine LeO.bind ?_ (fun _ => ?_))
      | exact ih0 _ _ _ _ _ _ _ _ _ _ _
      | exact ih1 _ _ _ _ _ _ _ _ _
      | exact ih2 _ _ _
      | exact impl_PoolAdd.mono _ _ _ _ _ _
      | exact laws_eqTxS.mono _ _ _
      | exact laws_heldTxS.mono _ _ _
      | exact laws_markTxS.mono _ _ _
      | exact laws_toTxS.mono _ _
      | exact spec_PoolAdd.mono _ _ _ _ _ _
      | exact LeO.none _
      | refine LeO.ite ?_ ?_
      | refine LeO.bind ?_ (fun _ => ?_)
    · intro y0 y1 y2 y3 y4 y5 y6 y7 y8
      unfold laws_FnExactPoolAdd.j1
      repeat' first
      | (with_reducible exact ih0 _ _ _ _ _ _ _ _ _ _ _)
      | (with_reducible exact ih1 _ _ _ _ _ _ _ _ _)
      | (with_reducible exact ih2 _ _ _)
      | (with_reducible exact impl_PoolAdd.mono _ _ _ _ _ _)
      | (with_reducible exact laws_eqTxS.mono _ _ _)
      | (with_reducible exact laws_heldTxS.mono _ _ _)
      | (with_reducible exact laws_markTxS.mono _ _ _)
      | (with_reducible exact laws_toTxS.mono _ _)
      | (with_reducible exact spec_PoolAdd.mono _ _ _ _ _ _)
      | (with_reducible exact LeO.refl _)
      | (with_reducible exact LeO.none _)
      | (with_reducible refine LeO.ite ?_ ?_)
      | (with_reducible refine LeO.bind ?_ (fun _ => ?_))
      | exact ih0 _ _ _ _ _ _ _ _ _ _ _
      | exact ih1 _ _ _ _ _ _ _ _ _
      | exact ih2 _ _ _
      | exact impl_PoolAdd.mono _ _ _ _ _ _
      | exact laws_eqTxS.mono _ _ _
      | exact laws_heldTxS.mono _ _ _
      | exact laws_markTxS.mono _ _ _
      | exact laws_toTxS.mono _ _
      | exact spec_PoolAdd.mono _ _ _ _ _ _
      | exact LeO.none _
      | refine LeO.ite ?_ ?_
      | refine LeO.bind ?_ (fun _ => ?_)
    · intro y0 y1 y2
      unfold laws_FnExactPoolAdd.j2
      repeat' first
      | (with_reducible exact ih0 _ _ _ _ _ _ _ _ _ _ _)
      | (with_reducible exact ih1 _ _ _ _ _ _ _ _ _)
      | (with_reducible exact ih2 _ _ _)
      | (with_reducible exact impl_PoolAdd.mono _ _ _ _ _ _)
      | (with_reducible exact laws_eqTxS.mono _ _ _)
      | (with_reducible exact laws_heldTxS.mono _ _ _)
      | (with_reducible exact laws_markTxS.mono _ _ _)
      | (with_reducible exact laws_toTxS.mono _ _)
      | (with_reducible exact spec_PoolAdd.mono _ _ _ _ _ _)
      | (with_reducible exact LeO.refl _)
      | (with_reducible exact LeO.none _)
      | (with_reducible refine LeO.ite ?_ ?_)
      | (with_reducible refine LeO.bind ?_ (fun _ => ?_))
      | exact ih0 _ _ _ _ _ _ _ _ _ _ _
      | exact ih1 _ _ _ _ _ _ _ _ _
      | exact ih2 _ _ _
      | exact impl_PoolAdd.mono _ _ _ _ _ _
      | exact laws_eqTxS.mono _ _ _
      | exact laws_heldTxS.mono _ _ _
      | exact laws_markTxS.mono _ _ _
      | exact laws_toTxS.mono _ _
      | exact spec_PoolAdd.mono _ _ _ _ _ _
      | exact LeO.none _
      | refine LeO.ite ?_ ?_
      | refine LeO.bind ?_ (fun _ => ?_)
theorem laws_FnExactPoolAdd.mono : ∀ a0 a1 a2 a3 a4 k, LeO (laws_FnExactPoolAdd.f k a0 a1 a2 a3 a4) (laws_FnExactPoolAdd.f (k + 1) a0 a1 a2 a3 a4) := by
  intro a0 a1 a2 a3 a4 k
  obtain ⟨ih0, ih1, ih2⟩ := laws_FnExactPoolAdd.mono_l k
  unfold laws_FnExactPoolAdd.f
  repeat' first
      | (with_reducible exact ih0 _ _ _ _ _ _ _ _ _ _ _)
      | (with_reducible exact ih1 _ _ _ _ _ _ _ _ _)
      | (with_reducible exact ih2 _ _ _)
      | (with_reducible exact impl_PoolAdd.mono _ _ _ _ _ _)
      | (with_reducible exact laws_eqTxS.mono _ _ _)
      | (with_reducible exact laws_heldTxS.mono _ _ _)
      | (with_reducible exact laws_markTxS.mono _ _ _)
      | (with_reducible exact laws_toTxS.mono _ _)
      | (with_reducible exact spec_PoolAdd.mono _ _ _ _ _ _)
      | (with_reducible exact LeO.refl _)
      | (with_reducible exact LeO.none _)
      | (with_reducible refine LeO.ite ?_ ?_)
      | (with_reducible refine LeO.bind ?_ (fun _ => ?_))
      | exact ih0 _ _ _ _ _ _ _ _ _ _ _
      | exact ih1 _ _ _ _ _ _ _ _ _
      | exact ih2 _ _ _
      | exact impl_PoolAdd.mono _ _ _ _ _ _
      | exact laws_eqTxS.mono _ _ _
      | exact laws_heldTxS.mono _ _ _
      | exact laws_markTxS.mono _ _ _
      | exact laws_toTxS.mono _ _
      | exact spec_PoolAdd.mono _ _ _ _ _ _
      | exact LeO.none _
      | refine LeO.ite ?_ ?_
      | refine LeO.bind ?_ (fun _ => ?_)
def laws_FnExactPoolAdd.T5 : Bool × List (List Nat × List Nat) := (true, [([], []), ([0], [0]), ([], []), ([2, 1], [2]), ([1, 3, 3], [1, 3]), ([4], [4]), ([5], [5]), ([5], [5]), ([6, 4, 0, 1, 2, 3, 4, 5, 6], [6]), ([7, 8, 0, 1, 2, 3, 4, 5, 6, 7, 8], [7])])
def laws_FnExactPoolAdd.B5 : List Nat := [0, 1, 0, 7, 15, 31, 63, 63, 127, 511]
theorem laws_FnExactPoolAdd.tab5 : rtab .any (opsOf Try.f14 5) = laws_FnExactPoolAdd.T5 := by kernel_rfl
theorem laws_FnExactPoolAdd.bits5 : waitsOk laws_FnExactPoolAdd.T5.2 laws_FnExactPoolAdd.B5 = true := by kernel_rfl
def laws_FnExactPoolAdd.T24 : Bool × List (List Nat × List Nat) := (true, [([], []), ([0], [0]), ([], []), ([2, 1], [2]), ([1, 3, 3], [1, 3]), ([4], [4]), ([5], [5]), ([5], [5]), ([6, 4, 0, 1, 2, 3, 4, 5, 6], [6]), ([7, 8, 0, 1, 2, 3, 4, 5, 6, 7, 8], [7])])
def laws_FnExactPoolAdd.B24 : List Nat := [0, 1, 0, 7, 15, 31, 63, 63, 127, 511]
theorem laws_FnExactPoolAdd.tab24 : rtab .any (opsOf Try.f14 24) = laws_FnExactPoolAdd.T24 := by kernel_rfl
theorem laws_FnExactPoolAdd.bits24 : waitsOk laws_FnExactPoolAdd.T24.2 laws_FnExactPoolAdd.B24 = true := by kernel_rfl
set_option maxHeartbeats 8000000 in
set_option maxRecDepth 100000 in
theorem laws_FnExactPoolAdd.calls (k : Nat) (A0 : Option Addr) (c0 : Nat) (l0 : List (S50)) (a1_0 : Int) (a1_1 : Int) (a1_2 : Int) (a1_3 : Int) (r : Bool) (w : World) (hr0 : Kd.C k50 w A0 l0.length l0) (hc0 : l0.length ≤ c0) (hT : r = true) (h : laws_FnExactPoolAdd.f k l0 a1_0 a1_1 a1_2 a1_3 = some r) :
    Calls Try.prog 14 #[.slice A0 l0.length c0, .agg #[.int .i64 a1_0, .int .i64 a1_1, .int .i64 a1_2, .int .i64 a1_3]] w fun e w' => e = .returned (.bool r) ∧ Below w.heap.size w w' := by
  have hu50 := Try.underlying50
  have HR0 := Aside0.mk hr0
  have HC0 := Aside0.mk hc0
  clear hr0 hc0
  have HRT := Aside0.mk hT
  clear hT
  have HB := Aside0.mk (Below.refl w.heap.size w)
  have H : ((laws_szTxS.f l0 1048576).bind fun t211 => (if t211 < 0 then (some true) else ((laws_toTxS.f k l0).bind fun t212 => ((laws_toTx.f a1_0 a1_1 a1_2 a1_3).bind fun bt215 => ((spec_PoolAdd.f k t212 bt215.1 bt215.2.1 bt215.2.2.1 bt215.2.2.2).bind fun bt219 => ((laws_toTxS.f k l0).bind fun t223 => ((laws_toTx.f a1_0 a1_1 a1_2 a1_3).bind fun bt226 => ((impl_PoolAdd.f k t223 bt226.1 bt226.2.1 bt226.2.2.1 bt226.2.2.2).bind fun bt230 => ((laws_eqTxS.f k bt230.1 bt219.1).bind fun t234 => (if t234 = true then (laws_FnExactPoolAdd.j0 k l0 bt219.1 bt219.2 t223 bt230.1 bt230.2 (bt230.2 != bt219.2) a1_0 a1_1 a1_2 a1_3) else (none))))))))))) = some r := h
  clear h
  replace H := Option.bind_eq_some_iff.mp H
  obtain ⟨t211, A30, H⟩ := H
  replace H : (if t211 < 0 then (some true) else ((laws_toTxS.f k l0).bind fun t212 => ((laws_toTx.f a1_0 a1_1 a1_2 a1_3).bind fun bt215 => ((spec_PoolAdd.f k t212 bt215.1 bt215.2.1 bt215.2.2.1 bt215.2.2.2).bind fun bt219 => ((laws_toTxS.f k l0).bind fun t223 => ((laws_toTx.f a1_0 a1_1 a1_2 a1_3).bind fun bt226 => ((impl_PoolAdd.f k t223 bt226.1 bt226.2.1 bt226.2.2.1 bt226.2.2.2).bind fun bt230 => ((laws_eqTxS.f k bt230.1 bt219.1).bind fun t234 => (if t234 = true then (laws_FnExactPoolAdd.j0 k l0 bt219.1 bt219.2 t223 bt230.1 bt230.2 (bt230.2 != bt219.2) a1_0 a1_1 a1_2 a1_3) else (none)))))))))) = some r := H
  have A3 := Aside0.mk A30
  clear A30
  by_cases c4 : t211 < 0
  · rw [if_pos c4] at H
    have c4b0 : decide (t211 < 0) = true := decide_eq_true c4
    clear c4
    obtain rfl := Option.some.inj H
    go_enter Try.func14, Try.ntmps14
    go_wp2_with (first | ((with_reducible refine gate_dst (N := 3) rfl ?_); refine box_event ?hg (N := 3) ?hd (cs := #[.int .i64 a1_0, .int .i64 a1_1, .int .i64 a1_2, .int .i64 a1_3]) (t := 50) ?hr ?_; (case hd => rfl); (case hg => rfl); (case hr => first | (go_simp; done) | (go_simp; rfl)); intro gb210 hg w5 hbox hb; have n0_ := Aside0.mk (below_step (by repeat (first | (with_reducible first | exact HB.out | apply below_alloc | apply pw_below_drewN | apply below_drew1) | exact HB.out)) hb); have n1_ := Aside0.mk (hbox); have n2_ := Aside0.mk ((by rw [hg]; exact (below_size (by repeat (first | (with_reducible first | exact HB.out | apply below_alloc | apply pw_below_drewN | apply below_drew1) | exact HB.out))) : w.heap.size ≤ gb210)); have n3_ := Aside0.mk ((by rw [hg]; exact (below_size (by repeat (first | (with_reducible first | exact HB.out | apply below_alloc | apply pw_below_drewN | apply below_drew1) | exact HB.out))) : w.heap.size ≤ gb210)); clear HB; have HB := n0_; have BK210 := n1_; have GW210 := n2_; have GE210 := n3_; clear n0_ n1_ n2_ n3_; clear hb hbox hg) | ((with_reducible refine gate_callee (f := 26) rfl ?_); refine goesL_ (some 18) rfl rfl Try.func26 (by kernel_rfl) rfl #[.slice A0 l0.length c0, .int .i64 1048576] rfl (by (try simp only [List.map_toArray, List.map_cons, List.map_nil]); first | done | rfl | (simp only [List.length_drop, List.length_take]; rfl)) ?_; (with_reducible refine (laws_szTxS.calls _ _ l0 1048576 t211 _ ?side1 ?side2 A3.out).mono ?_); (case side1 => repeat (first | exact (Kd.C_below HR0.out HB.out) | (with_reducible refine Kd.C_alloc ?_ _) | (with_reducible refine Kd.C_drewN ?_ _) | (with_reducible refine Kd.C_drew ?_))); (case side2 => exact HC0.out); rintro e w' ⟨rfl, ⟨nd, rfl⟩⟩; refine ⟨_, rfl, ?_⟩))
    go_ret
    exact ⟨by first | rfl | (simp [errW_none, errW_some] <;> rfl) | (simp [*, errW_none, errW_some] <;> rfl), by repeat (first | (with_reducible first | exact HB.out | apply below_alloc | apply pw_below_drewN | apply below_drew1 | refine below_set ?_ GE210.out) | exact HB.out)⟩
  · rw [if_neg c4] at H
    have c4b0 : decide (t211 < 0) = false := decide_eq_false c4
    clear c4
    replace H := Option.bind_eq_some_iff.mp H
    obtain ⟨t212, A60, H⟩ := H
    replace H : ((laws_toTx.f a1_0 a1_1 a1_2 a1_3).bind fun bt215 => ((spec_PoolAdd.f k t212 bt215.1 bt215.2.1 bt215.2.2.1 bt215.2.2.2).bind fun bt219 => ((laws_toTxS.f k l0).bind fun t223 => ((laws_toTx.f a1_0 a1_1 a1_2 a1_3).bind fun bt226 => ((impl_PoolAdd.f k t223 bt226.1 bt226.2.1 bt226.2.2.1 bt226.2.2.2).bind fun bt230 => ((laws_eqTxS.f k bt230.1 bt219.1).bind fun t234 => (if t234 = true then (laws_FnExactPoolAdd.j0 k l0 bt219.1 bt219.2 t223 bt230.1 bt230.2 (bt230.2 != bt219.2) a1_0 a1_1 a1_2 a1_3) else (none)))))))) = some r := H
    have A6 := Aside0.mk A60
    clear A60
    replace H := Option.bind_eq_some_iff.mp H
    obtain ⟨⟨t215, t216, t217, t218⟩, A70, H⟩ := H
    replace H : ((spec_PoolAdd.f k t212 t215 t216 t217 t218).bind fun bt219 => ((laws_toTxS.f k l0).bind fun t223 => ((laws_toTx.f a1_0 a1_1 a1_2 a1_3).bind fun bt226 => ((impl_PoolAdd.f k t223 bt226.1 bt226.2.1 bt226.2.2.1 bt226.2.2.2).bind fun bt230 => ((laws_eqTxS.f k bt230.1 bt219.1).bind fun t234 => (if t234 = true then (laws_FnExactPoolAdd.j0 k l0 bt219.1 bt219.2 t223 bt230.1 bt230.2 (bt230.2 != bt219.2) a1_0 a1_1 a1_2 a1_3) else (none))))))) = some r := H
    have A7 := Aside0.mk A70
    clear A70
    replace H := Option.bind_eq_some_iff.mp H
    obtain ⟨⟨t219, t222⟩, A80, H⟩ := H
    replace H : ((laws_toTxS.f k l0).bind fun t223 => ((laws_toTx.f a1_0 a1_1 a1_2 a1_3).bind fun bt226 => ((impl_PoolAdd.f k t223 bt226.1 bt226.2.1 bt226.2.2.1 bt226.2.2.2).bind fun bt230 => ((laws_eqTxS.f k bt230.1 t219).bind fun t234 => (if t234 = true then (laws_FnExactPoolAdd.j0 k l0 t219 t222 t223 bt230.1 bt230.2 (bt230.2 != t222) a1_0 a1_1 a1_2 a1_3) else (none)))))) = some r := H
    have A8 := Aside0.mk A80
    clear A80
    replace H := Option.bind_eq_some_iff.mp H
    obtain ⟨t223, A90, H⟩ := H
    replace H : ((laws_toTx.f a1_0 a1_1 a1_2 a1_3).bind fun bt226 => ((impl_PoolAdd.f k t223 bt226.1 bt226.2.1 bt226.2.2.1 bt226.2.2.2).bind fun bt230 => ((laws_eqTxS.f k bt230.1 t219).bind fun t234 => (if t234 = true then (laws_FnExactPoolAdd.j0 k l0 t219 t222 t223 bt230.1 bt230.2 (bt230.2 != t222) a1_0 a1_1 a1_2 a1_3) else (none))))) = some r := H
    have A9 := Aside0.mk A90
    clear A90
    replace H := Option.bind_eq_some_iff.mp H
    obtain ⟨⟨t226, t227, t228, t229⟩, A100, H⟩ := H
    replace H : ((impl_PoolAdd.f k t223 t226 t227 t228 t229).bind fun bt230 => ((laws_eqTxS.f k bt230.1 t219).bind fun t234 => (if t234 = true then (laws_FnExactPoolAdd.j0 k l0 t219 t222 t223 bt230.1 bt230.2 (bt230.2 != t222) a1_0 a1_1 a1_2 a1_3) else (none)))) = some r := H
    have A10 := Aside0.mk A100
    clear A100
    replace H := Option.bind_eq_some_iff.mp H
    obtain ⟨⟨t230, t233⟩, A110, H⟩ := H
    replace H : ((laws_eqTxS.f k t230 t219).bind fun t234 => (if t234 = true then (laws_FnExactPoolAdd.j0 k l0 t219 t222 t223 t230 t233 (t233 != t222) a1_0 a1_1 a1_2 a1_3) else (none))) = some r := H
    have A11 := Aside0.mk A110
    clear A110
    have HC12 := Aside0.mk H
    clear H
    go_enter Try.func14, Try.ntmps14
    try go_wp2_with (first | ((with_reducible refine gate_dst (N := 3) rfl ?_); refine box_event ?hg (N := 3) ?hd (cs := #[.int .i64 a1_0, .int .i64 a1_1, .int .i64 a1_2, .int .i64 a1_3]) (t := 50) ?hr ?_; (case hd => rfl); (case hg => rfl); (case hr => first | (go_simp; done) | (go_simp; rfl)); intro gb210 hg w13 hbox hb; have n0_ := Aside0.mk (below_step (by repeat (first | (with_reducible first | exact HB.out | apply below_alloc | apply pw_below_drewN | apply below_drew1) | exact HB.out)) hb); have n1_ := Aside0.mk (hbox); have n2_ := Aside0.mk ((by rw [hg]; exact (below_size (by repeat (first | (with_reducible first | exact HB.out | apply below_alloc | apply pw_below_drewN | apply below_drew1) | exact HB.out))) : w.heap.size ≤ gb210)); have n3_ := Aside0.mk ((by rw [hg]; exact (below_size (by repeat (first | (with_reducible first | exact HB.out | apply below_alloc | apply pw_below_drewN | apply below_drew1) | exact HB.out))) : w.heap.size ≤ gb210)); clear HB; have HB := n0_; have BK210 := n1_; have GW210 := n2_; have GE210 := n3_; clear n0_ n1_ n2_ n3_; clear hb hbox hg) | ((with_reducible refine gate_callee (f := 26) rfl ?_); refine goesL_ (some 18) rfl rfl Try.func26 (by kernel_rfl) rfl #[.slice A0 l0.length c0, .int .i64 1048576] rfl (by (try simp only [List.map_toArray, List.map_cons, List.map_nil]); first | done | rfl | (simp only [List.length_drop, List.length_take]; rfl)) ?_; (with_reducible refine (laws_szTxS.calls _ _ l0 1048576 t211 _ ?side1 ?side2 A3.out).mono ?_); (case side1 => repeat (first | exact (Kd.C_below HR0.out HB.out) | (with_reducible refine Kd.C_alloc ?_ _) | (with_reducible refine Kd.C_drewN ?_ _) | (with_reducible refine Kd.C_drew ?_))); (case side2 => exact HC0.out); rintro e w' ⟨rfl, ⟨nd, rfl⟩⟩; refine ⟨_, rfl, ?_⟩))
    (try (rw [drewN_self w13]; generalize hq_ : World.drewN w13 _ = w13; have n0_ : Aside0 (w13.heap[gb210]? = some (.cells #[.int .i64 a1_0, .int .i64 a1_1, .int .i64 a1_2, .int .i64 a1_3] 50 (0, 0))) := ⟨by rw [← hq_]; exact (by (with_reducible repeat (first | refine blk_drewN ?_ _ | refine blk_drew ?_ | refine blk_alloc ?_ _)); exact BK210.out)⟩; have n1_ : Aside0 (Below w.heap.size w w13) := ⟨by rw [← hq_]; exact (by repeat (first | (with_reducible first | exact HB.out | apply below_alloc | apply pw_below_drewN | apply below_drew1 | refine below_set ?_ GE210.out) | exact HB.out))⟩; clear BK210 HB hq_; have BK210 := n0_; have HB := n1_; clear n0_ n1_))
    have n0_ := Aside0.mk (blk_drew BK210.out)
    have n1_ := Aside0.mk (below_drew1 HB.out)
    clear BK210
    clear HB
    have BK210 := n0_
    have HB := n1_
    clear n0_ n1_
    refine start_ (n := 10) (S := fun w' => w'.cell? ⟨gb210, 0, none⟩ = some (.int .i64 a1_0) ∧ w'.cell? ⟨gb210, 1, none⟩ = some (.int .i64 a1_1) ∧ w'.cell? ⟨gb210, 2, none⟩ = some (.int .i64 a1_2) ∧ w'.cell? ⟨gb210, 3, none⟩ = some (.int .i64 a1_3)) (ds := []) #[false, false, false, false, false, false, false, false, false, false] (by kernel_rfl) rfl rfl ⟨(blk_cell BK210.out 0).trans rfl, (blk_cell BK210.out 1).trans rfl, (blk_cell BK210.out 2).trans rfl, (blk_cell BK210.out 3).trans rfl⟩ (fun hHeld => ?_); refine with_tabW laws_FnExactPoolAdd.tab5 laws_FnExactPoolAdd.bits5 (fun HT_ HW_ => ?_)
    generalize w13.drew = w14 at BK210 HB hHeld ⊢
    refine pure_ (i := 0) (N := some 22) (v := ?_) (a' := ?_) #[true, false, false, false, false, false, false, false, false, false] rfl rfl (any_of HT_.out (by kernel_rfl)) (fun _ _ _ h => h) (Or.inl ⟨by rfl, ?_⟩) ?_ ?_
    rotate_left
    · intro w'
      go_simp
      with_reducible rfl
    rotate_left
    · simp only [Act.put, List.setIfInBounds_toArray, List.set_cons_zero, List.set_cons_succ, i64_w, i32_w]
      rfl
    refine take_ (i := 2) (N := some 24) (v := ?_) (a' := ?_) #[true, false, true, false, false, false, false, false, false, false] rfl rfl (take_ofW HT_.out HW_.out (by kernel_rfl)) (fun _ _ _ h => h) (Or.inl ⟨by rfl, ?_⟩) hHeld ?_ ?_
    rotate_left
    · rintro w' ⟨s0, s1, s2, s3⟩
      go_simp
      with_reducible rfl
    rotate_left
    · simp only [Act.put, List.setIfInBounds_toArray, List.set_cons_zero, List.set_cons_succ, i64_w, i32_w]
      rfl
    refine one_ (i := 1) (N := some 23) #[true, true, true, false, false, false, false, false, false, false] rfl rfl (one_of HT_.out (by kernel_rfl)) (by decide) (fun K hK => ?_)
    refine goes_ Try.func28 (by kernel_rfl) rfl #[.slice A0 l0.length c0] (by rfl) rfl rfl (by (try simp only [List.map_toArray, List.map_cons, List.map_nil]); first | done | rfl | (simp only [List.length_drop, List.length_take]; rfl)) ?_
    with_reducible refine (laws_toTxS.calls k _ _ l0 t212 _ ?side1 ?side2 A6.out).mono ?_
    (case side1 => repeat (first | exact (Kd.C_below HR0.out HB.out) | (with_reducible refine Kd.C_alloc ?_ _) | (with_reducible refine Kd.C_drewN ?_ _) | (with_reducible refine Kd.C_drew ?_)))
    (case side2 => exact HC0.out)
    rintro e w15 ⟨v213, rfl, ho0, hb⟩
    refine ⟨_, rfl, ?_⟩
    have n0_ := Aside0.mk (Kd.R_lower ho0 (below_size (by repeat (first | (with_reducible first | exact HB.out | apply below_alloc | apply pw_below_drewN | apply below_drew1 | refine below_set ?_ GE210.out) | exact HB.out))))
    have n1_ := Aside0.mk (blk_below (g := gb210) (o := .cells #[.int .i64 a1_0, .int .i64 a1_1, .int .i64 a1_2, .int .i64 a1_3] 50 (0, 0)) (by (with_reducible repeat (first | refine blk_drewN ?_ _ | refine blk_drew ?_ | refine blk_alloc ?_ _)); exact BK210.out) hb)
    have n2_ := Aside0.mk (below_step (by repeat (first | (with_reducible first | exact HB.out | apply below_alloc | apply pw_below_drewN | apply below_drew1 | refine below_set ?_ GE210.out) | exact HB.out)) hb)
    clear BK210
    clear HB
    have HO214 := n0_
    have BK210 := n1_
    have HB := n2_
    clear n0_ n1_ n2_
    (try clear hb)
    (try clear hb2)
    (try clear hk)
    (try clear hi)
    (try clear ho0)
    refine hK.out _ _ ⟨(blk_cell BK210.out 0).trans rfl, (blk_cell BK210.out 1).trans rfl, (blk_cell BK210.out 2).trans rfl, (blk_cell BK210.out 3).trans rfl⟩ (fun hHeld => ?_)
    clear hK K
    refine norm_ (a' := ?_) ?_ ?_
    rotate_left
    · show Act.put _ (some 23) _ = _
      simp only [Act.put, List.setIfInBounds_toArray, List.set_cons_zero, List.set_cons_succ, i64_w, i32_w]
      rfl
    refine one_ (i := 3) (N := some 25) #[true, true, true, true, false, false, false, false, false, false] rfl rfl (one_of HT_.out (by kernel_rfl)) (by decide) (fun K hK => ?_)
    refine goes_ Try.func35 (by kernel_rfl) rfl #[.agg #[.int .i64 a1_0, .int .i64 a1_1, .int .i64 a1_2, .int .i64 a1_3]] (by rfl) rfl rfl (by (try simp only [List.map_toArray, List.map_cons, List.map_nil]); first | done | rfl | (simp only [List.length_drop, List.length_take]; rfl)) ?_
    with_reducible refine (laws_toTx.calls a1_0 a1_1 a1_2 a1_3 t215 t216 t217 t218 _ A7.out).mono ?_
    rintro e w16 ⟨rfl, hb⟩
    refine ⟨_, rfl, ?_⟩
    have n0_ := Aside0.mk (Kd.R_below (by (with_reducible repeat (first | apply Kd.R_alloc | apply Kd.R_drewN | apply Kd.R_drew)); exact HO214.out) hb)
    have n1_ := Aside0.mk (blk_below (g := gb210) (o := .cells #[.int .i64 a1_0, .int .i64 a1_1, .int .i64 a1_2, .int .i64 a1_3] 50 (0, 0)) (by (with_reducible repeat (first | refine blk_drewN ?_ _ | refine blk_drew ?_ | refine blk_alloc ?_ _)); exact BK210.out) hb)
    have n2_ := Aside0.mk (below_step (by repeat (first | (with_reducible first | exact HB.out | apply below_alloc | apply pw_below_drewN | apply below_drew1 | refine below_set ?_ GE210.out) | exact HB.out)) hb)
    clear HO214
    clear BK210
    clear HB
    have HO214 := n0_
    have BK210 := n1_
    have HB := n2_
    clear n0_ n1_ n2_
    (try clear hb)
    (try clear hb2)
    (try clear hk)
    (try clear hi)
    obtain ⟨Ao17, co17, eo17⟩ := Kd.R_slice HO214.out
    (first | subst eo17 | (injection eo17 with f1_ f2_ f3_; have f4_ := f1_.symm; have f5_ := f3_.symm; clear f1_ f2_ f3_; subst f4_; subst f5_))
    refine hK.out _ _ ⟨(blk_cell BK210.out 0).trans rfl, (blk_cell BK210.out 1).trans rfl, (blk_cell BK210.out 2).trans rfl, (blk_cell BK210.out 3).trans rfl⟩ (fun hHeld => ?_)
    clear hK K
    refine norm_ (a' := ?_) ?_ ?_
    rotate_left
    · show Act.put _ (some 25) _ = _
      simp only [Act.put, List.setIfInBounds_toArray, List.set_cons_zero, List.set_cons_succ, i64_w, i32_w]
      rfl
    refine one_ (i := 4) (N := some 26) #[true, true, true, true, true, false, false, false, false, false] rfl rfl (one_of HT_.out (by kernel_rfl)) (by decide) (fun K hK => ?_)
    refine goes_ Try.func50 (by kernel_rfl) rfl #[.slice Ao17 t212.length co17, .agg #[.int .i64 t215, .int .i64 t216, .int .i64 t217, .int .i64 t218]] (by rfl) rfl rfl (by (try simp only [List.map_toArray, List.map_cons, List.map_nil]); first | done | rfl | (simp only [List.length_drop, List.length_take]; rfl)) ?_
    with_reducible refine (spec_PoolAdd.calls k _ _ t212 t215 t216 t217 t218 t219 t222 _ ?side1 ?side2 A8.out).mono ?_
    (case side1 => repeat (first | exact (Kd.R_reads' HO214.out).2.2 | (with_reducible refine Kd.C_alloc ?_ _) | (with_reducible refine Kd.C_drewN ?_ _) | (with_reducible refine Kd.C_drew ?_)))
    (case side2 => exact (Kd.R_reads' HO214.out).2.1)
    rintro e w18 ⟨v220, rfl, ho0, hb⟩
    refine ⟨_, rfl, ?_⟩
    have n0_ := Aside0.mk (Kd.R_elder' (by (with_reducible repeat (first | apply Kd.R_alloc | apply Kd.R_drewN | apply Kd.R_drew)); exact HO214.out) (Kd.R_base ho0) hb)
    have n1_ := Aside0.mk (Kd.R_lower (Kd.R_new' ho0 (Kd.R_lt (by (with_reducible repeat (first | apply Kd.R_alloc | apply Kd.R_drewN | apply Kd.R_drew)); exact HO214.out))) (below_size (by repeat (first | (with_reducible first | exact HB.out | apply below_alloc | apply pw_below_drewN | apply below_drew1 | refine below_set ?_ GE210.out) | exact HB.out))))
    have n2_ := Aside0.mk (blk_below (g := gb210) (o := .cells #[.int .i64 a1_0, .int .i64 a1_1, .int .i64 a1_2, .int .i64 a1_3] 50 (0, 0)) (by (with_reducible repeat (first | refine blk_drewN ?_ _ | refine blk_drew ?_ | refine blk_alloc ?_ _)); exact BK210.out) hb)
    have n3_ := Aside0.mk (below_step (by repeat (first | (with_reducible first | exact HB.out | apply below_alloc | apply pw_below_drewN | apply below_drew1 | refine below_set ?_ GE210.out) | exact HB.out)) hb)
    clear HO214
    clear BK210
    clear HB
    have HO214 := n0_
    have HO221 := n1_
    have BK210 := n2_
    have HB := n3_
    clear n0_ n1_ n2_ n3_
    (try clear hb)
    (try clear hb2)
    (try clear hk)
    (try clear hi)
    (try clear ho0)
    refine hK.out _ _ ⟨(blk_cell BK210.out 0).trans rfl, (blk_cell BK210.out 1).trans rfl, (blk_cell BK210.out 2).trans rfl, (blk_cell BK210.out 3).trans rfl⟩ (fun hHeld => ?_)
    clear hK K
    refine norm_ (a' := ?_) ?_ ?_
    rotate_left
    · show Act.put _ (some 26) _ = _
      simp only [Act.put, List.setIfInBounds_toArray, List.set_cons_zero, List.set_cons_succ, i64_w, i32_w]
      rfl
    refine pure_ (i := 5) (N := some 21) (v := ?_) (a' := ?_) #[true, true, true, true, true, true, false, false, false, false] rfl rfl (any_of HT_.out (by kernel_rfl)) (fun _ _ _ h => h) (Or.inl ⟨by rfl, ?_⟩) ?_ ?_
    rotate_left
    · intro w'
      go_simp
      with_reducible rfl
    rotate_left
    · simp only [Act.put, List.setIfInBounds_toArray, List.set_cons_zero, List.set_cons_succ, i64_w, i32_w]
      rfl
    refine pure_ (i := 6) (N := some 27) (v := ?_) (a' := ?_) #[true, true, true, true, true, true, true, false, false, false] rfl rfl (any_of HT_.out (by kernel_rfl)) (fun _ _ _ h => h) (Or.inl ⟨by rfl, ?_⟩) ?_ ?_
    rotate_left
    · intro w'
      go_simp
      with_reducible rfl
    rotate_left
    · simp only [Act.put, List.setIfInBounds_toArray, List.set_cons_zero, List.set_cons_succ, i64_w, i32_w]
      rfl
    refine pure_ (i := 7) (N := some 28) (v := ?_) (a' := ?_) #[true, true, true, true, true, true, true, true, false, false] rfl rfl (any_of HT_.out (by kernel_rfl)) (fun _ _ _ h => h) (Or.inl ⟨by rfl, ?_⟩) ?_ ?_
    rotate_left
    · intro w'
      go_simp
      with_reducible rfl
    rotate_left
    · simp only [Act.put, List.setIfInBounds_toArray, List.set_cons_zero, List.set_cons_succ, i64_w, i32_w]
      rfl
    refine pure_ (i := 8) (N := some 6) (v := ?_) (a' := ?_) #[true, true, true, true, true, true, true, true, true, false] rfl rfl (any_of HT_.out (by kernel_rfl)) (fun _ _ _ h => h) (Or.inl ⟨by rfl, ?_⟩) ?_ ?_
    rotate_left
    · intro w'
      go_simp
      with_reducible rfl
    rotate_left
    · simp only [Act.put, List.setIfInBounds_toArray, List.set_cons_zero, List.set_cons_succ, i64_w, i32_w]
      rfl
    refine pure_ (i := 9) (N := some 7) (v := ?_) (a' := ?_) #[true, true, true, true, true, true, true, true, true, true] rfl rfl (any_of HT_.out (by kernel_rfl)) (fun _ _ _ h => h) (Or.inl ⟨by rfl, ?_⟩) ?_ ?_
    rotate_left
    · intro w'
      go_simp
      with_reducible rfl
    rotate_left
    · simp only [Act.put, List.setIfInBounds_toArray, List.set_cons_zero, List.set_cons_succ, i64_w, i32_w]
      rfl
    refine done_ (done_of HT_.out (by kernel_rfl)) ?_
    go_upto_region 8 with (first | ((with_reducible refine gate_callee (f := 28) rfl ?_); refine goesL_ (some 30) rfl rfl Try.func28 (by kernel_rfl) rfl #[.slice A0 l0.length c0] rfl (by (try simp only [List.map_toArray, List.map_cons, List.map_nil]); first | done | rfl | (simp only [List.length_drop, List.length_take]; rfl)) ?_; (with_reducible refine (laws_toTxS.calls k _ _ l0 t223 _ ?side1 ?side2 A9.out).mono ?_); (case side1 => repeat (first | exact (Kd.C_below HR0.out HB.out) | (with_reducible refine Kd.C_alloc ?_ _) | (with_reducible refine Kd.C_drewN ?_ _) | (with_reducible refine Kd.C_drew ?_))); (case side2 => exact HC0.out); rintro e w19 ⟨v224, rfl, ho0, hb⟩; refine ⟨_, rfl, ?_⟩; have n0_ := Aside0.mk (Kd.R_elder' (by (with_reducible repeat (first | apply Kd.R_alloc | apply Kd.R_drewN | apply Kd.R_drew)); exact HO214.out) (Kd.R_base ho0) hb); have n1_ := Aside0.mk (Kd.R_elder' (by (with_reducible repeat (first | apply Kd.R_alloc | apply Kd.R_drewN | apply Kd.R_drew)); exact HO221.out) (Kd.R_base ho0) hb); have n2_ := Aside0.mk (Kd.R_lower (Kd.R_new' (Kd.R_new' ho0 (Kd.R_lt (by (with_reducible repeat (first | apply Kd.R_alloc | apply Kd.R_drewN | apply Kd.R_drew)); exact HO214.out))) (Kd.R_lt (by (with_reducible repeat (first | apply Kd.R_alloc | apply Kd.R_drewN | apply Kd.R_drew)); exact HO221.out))) (below_size (by repeat (first | (with_reducible first | exact HB.out | apply below_alloc | apply pw_below_drewN | apply below_drew1 | refine below_set ?_ GE210.out) | exact HB.out)))); have n3_ := Aside0.mk (blk_below (g := gb210) (o := .cells #[.int .i64 a1_0, .int .i64 a1_1, .int .i64 a1_2, .int .i64 a1_3] 50 (0, 0)) (by (with_reducible repeat (first | refine blk_drewN ?_ _ | refine blk_drew ?_ | refine blk_alloc ?_ _)); exact BK210.out) hb); have n4_ := Aside0.mk (below_step (by repeat (first | (with_reducible first | exact HB.out | apply below_alloc | apply pw_below_drewN | apply below_drew1 | refine below_set ?_ GE210.out) | exact HB.out)) hb); clear HO214; clear HO221; clear BK210; clear HB; have HO214 := n0_; have HO221 := n1_; have HO225 := n2_; have BK210 := n3_; have HB := n4_; clear n0_ n1_ n2_ n3_ n4_; (try clear hb); (try clear hb2); (try clear hk); (try clear hi); (try clear ho0); have hcz20_0 : w19.cell? ⟨gb210, 0, none⟩ = some (.int .i64 a1_0) := (blk_cell BK210.out 0).trans rfl; have hcz20_1 : w19.cell? ⟨gb210, 1, none⟩ = some (.int .i64 a1_1) := (blk_cell BK210.out 1).trans rfl; have hcz20_2 : w19.cell? ⟨gb210, 2, none⟩ = some (.int .i64 a1_2) := (blk_cell BK210.out 2).trans rfl; have hcz20_3 : w19.cell? ⟨gb210, 3, none⟩ = some (.int .i64 a1_3) := (blk_cell BK210.out 3).trans rfl; have hfz20_0 := blk_frozen BK210.out 0; have hfz20_1 := blk_frozen BK210.out 1; have hfz20_2 := blk_frozen BK210.out 2; have hfz20_3 := blk_frozen BK210.out 3) | ((with_reducible refine gate_callee (f := 35) rfl ?_); refine goesL_ (some 34) rfl rfl Try.func35 (by kernel_rfl) rfl #[.agg #[.int .i64 a1_0, .int .i64 a1_1, .int .i64 a1_2, .int .i64 a1_3]] rfl (by (try simp only [List.map_toArray, List.map_cons, List.map_nil]); first | done | rfl | (simp only [List.length_drop, List.length_take]; rfl)) ?_; (with_reducible refine (laws_toTx.calls a1_0 a1_1 a1_2 a1_3 t226 t227 t228 t229 _ A10.out).mono ?_); rintro e w21 ⟨rfl, hb⟩; refine ⟨_, rfl, ?_⟩; have n0_ := Aside0.mk (Kd.R_below (by (with_reducible repeat (first | apply Kd.R_alloc | apply Kd.R_drewN | apply Kd.R_drew)); exact HO214.out) hb); have n1_ := Aside0.mk (Kd.R_below (by (with_reducible repeat (first | apply Kd.R_alloc | apply Kd.R_drewN | apply Kd.R_drew)); exact HO221.out) hb); have n2_ := Aside0.mk (Kd.R_below (by (with_reducible repeat (first | apply Kd.R_alloc | apply Kd.R_drewN | apply Kd.R_drew)); exact HO225.out) hb); have n3_ := Aside0.mk (blk_below (g := gb210) (o := .cells #[.int .i64 a1_0, .int .i64 a1_1, .int .i64 a1_2, .int .i64 a1_3] 50 (0, 0)) (by (with_reducible repeat (first | refine blk_drewN ?_ _ | refine blk_drew ?_ | refine blk_alloc ?_ _)); exact BK210.out) hb); have n4_ := Aside0.mk (below_step (by repeat (first | (with_reducible first | exact HB.out | apply below_alloc | apply pw_below_drewN | apply below_drew1 | refine below_set ?_ GE210.out) | exact HB.out)) hb); clear HO214; clear HO221; clear HO225; clear BK210; clear HB; have HO214 := n0_; have HO221 := n1_; have HO225 := n2_; have BK210 := n3_; have HB := n4_; clear n0_ n1_ n2_ n3_ n4_; (try clear hb); (try clear hb2); (try clear hk); (try clear hi); obtain ⟨Ao22, co22, eo22⟩ := Kd.R_slice HO225.out; subst eo22) | ((with_reducible refine gate_callee (f := 51) rfl ?_); refine goesL_ (some 35) rfl rfl Try.func51 (by kernel_rfl) rfl #[.slice Ao22 t223.length co22, .agg #[.int .i64 t226, .int .i64 t227, .int .i64 t228, .int .i64 t229]] rfl (by (try simp only [List.map_toArray, List.map_cons, List.map_nil]); first | done | rfl | (simp only [List.length_drop, List.length_take]; rfl)) ?_; (with_reducible refine (impl_PoolAdd.calls k _ _ t223 t226 t227 t228 t229 t230 t233 _ ?side1 ?side2 A11.out).mono ?_); (case side1 => repeat (first | exact (Kd.R_reads' HO225.out).2.2 | (with_reducible refine Kd.C_alloc ?_ _) | (with_reducible refine Kd.C_drewN ?_ _) | (with_reducible refine Kd.C_drew ?_))); (case side2 => exact (Kd.R_reads' HO225.out).2.1); rintro e w23 ⟨v231, rfl, ho0, hb⟩; refine ⟨_, rfl, ?_⟩; have n0_ := Aside0.mk (Kd.R_elder' (by (with_reducible repeat (first | apply Kd.R_alloc | apply Kd.R_drewN | apply Kd.R_drew)); exact HO214.out) (Kd.R_base ho0) hb); have n1_ := Aside0.mk (Kd.R_elder' (by (with_reducible repeat (first | apply Kd.R_alloc | apply Kd.R_drewN | apply Kd.R_drew)); exact HO221.out) (Kd.R_base ho0) hb); have n2_ := Aside0.mk (Kd.R_elder' (by (with_reducible repeat (first | apply Kd.R_alloc | apply Kd.R_drewN | apply Kd.R_drew)); exact HO225.out) (Kd.R_base ho0) hb); have n3_ := Aside0.mk (Kd.R_lower (Kd.R_new' (Kd.R_new' (Kd.R_new' ho0 (Kd.R_lt (by (with_reducible repeat (first | apply Kd.R_alloc | apply Kd.R_drewN | apply Kd.R_drew)); exact HO214.out))) (Kd.R_lt (by (with_reducible repeat (first | apply Kd.R_alloc | apply Kd.R_drewN | apply Kd.R_drew)); exact HO221.out))) (Kd.R_lt (by (with_reducible repeat (first | apply Kd.R_alloc | apply Kd.R_drewN | apply Kd.R_drew)); exact HO225.out))) (below_size (by repeat (first | (with_reducible first | exact HB.out | apply below_alloc | apply pw_below_drewN | apply below_drew1 | refine below_set ?_ GE210.out) | exact HB.out)))); have n4_ := Aside0.mk (blk_below (g := gb210) (o := .cells #[.int .i64 a1_0, .int .i64 a1_1, .int .i64 a1_2, .int .i64 a1_3] 50 (0, 0)) (by (with_reducible repeat (first | refine blk_drewN ?_ _ | refine blk_drew ?_ | refine blk_alloc ?_ _)); exact BK210.out) hb); have n5_ := Aside0.mk (below_step (by repeat (first | (with_reducible first | exact HB.out | apply below_alloc | apply pw_below_drewN | apply below_drew1 | refine below_set ?_ GE210.out) | exact HB.out)) hb); clear HO214; clear HO221; clear HO225; clear BK210; clear HB; have HO214 := n0_; have HO221 := n1_; have HO225 := n2_; have HO232 := n3_; have BK210 := n4_; have HB := n5_; clear n0_ n1_ n2_ n3_ n4_ n5_; (try clear hb); (try clear hb2); (try clear hk); (try clear hi); (try clear ho0)))
    (try simp only [Act.put, List.setIfInBounds_toArray, List.set_cons_zero, List.set_cons_succ])
    go_cut [46] (fun v46 wc => ∃ (kq : Nat) (x46_11 : Bool), v46 = .bool x46_11 ∧ Aside0 (laws_FnExactPoolAdd.j0 kq l0 t219 t222 t223 t230 t233 x46_11 a1_0 a1_1 a1_2 a1_3 = some r) ∧ Aside0 (kq ≤ k) ∧ Aside0 (Kd.R k45 45 wc w.heap.size (fun k_ => some k_ ≠ ((.slice Ao22 t223.length co22) : Value).ownBlock ∧ some k_ ≠ (v231 : Value).ownBlock) v220 t219) ∧ Aside0 (Kd.R k45 45 wc w.heap.size (fun k_ => some k_ ≠ (v220 : Value).ownBlock ∧ some k_ ≠ (v231 : Value).ownBlock) (.slice Ao22 t223.length co22) t223) ∧ Aside0 (Kd.R k45 45 wc w.heap.size (fun k_ => some k_ ≠ (v220 : Value).ownBlock ∧ some k_ ≠ ((.slice Ao22 t223.length co22) : Value).ownBlock) v231 t230) ∧ Aside0 (wc.heap[gb210]? = some (.cells #[.int .i64 a1_0, .int .i64 a1_1, .int .i64 a1_2, .int .i64 a1_3] 50 (0, 0))) ∧ Aside0 (Below w.heap.size w wc))
    case first =>
      have H := HC12.out
      clear HC12
      replace H := Option.bind_eq_some_iff.mp H
      obtain ⟨t234, A240, H⟩ := H
      replace H : (if t234 = true then (laws_FnExactPoolAdd.j0 k l0 t219 t222 t223 t230 t233 (t233 != t222) a1_0 a1_1 a1_2 a1_3) else (none)) = some r := H
      have A24 := Aside0.mk A240
      clear A240
      by_cases c25 : t234 = true
      · subst c25
        have H1 : (laws_FnExactPoolAdd.j0 k l0 t219 t222 t223 t230 t233 (t233 != t222) a1_0 a1_1 a1_2 a1_3) = some r := by rw [if_pos rfl] at H; exact H
        clear H
        have H := H1
        clear H1
        have H' := Aside0.mk H
        clear H
        obtain ⟨Ao26, co26, eo26⟩ := Kd.R_slice HO232.out
        subst eo26
        obtain ⟨Ao27, co27, eo27⟩ := Kd.R_slice HO221.out
        subst eo27
        go_wp2_with (first | ((with_reducible refine gate_callee (f := 30) rfl ?_); refine goesL_ (some 40) rfl rfl Try.func30 (by kernel_rfl) rfl #[.slice Ao26 t230.length co26, .slice Ao27 t219.length co27] rfl (by (try simp only [List.map_toArray, List.map_cons, List.map_nil]); first | done | rfl | (simp only [List.length_drop, List.length_take]; rfl)) ?_; (with_reducible refine (laws_eqTxS.calls k _ _ t230 _ _ t219 true _ ?side1 ?side2 ?side3 ?side4 A24.out).mono ?_); (case side1 => repeat (first | exact (Kd.R_reads' HO232.out).2.2 | (with_reducible refine Kd.C_alloc ?_ _) | (with_reducible refine Kd.C_drewN ?_ _) | (with_reducible refine Kd.C_drew ?_))); (case side2 => exact (Kd.R_reads' HO232.out).2.1); (case side3 => repeat (first | exact (Kd.R_reads' HO221.out).2.2 | (with_reducible refine Kd.C_alloc ?_ _) | (with_reducible refine Kd.C_drewN ?_ _) | (with_reducible refine Kd.C_drew ?_))); (case side4 => exact (Kd.R_reads' HO221.out).2.1); rintro e w28 ⟨rfl, hb⟩; refine ⟨_, rfl, ?_⟩; have n0_ := Aside0.mk (Kd.R_below (by (with_reducible repeat (first | apply Kd.R_alloc | apply Kd.R_drewN | apply Kd.R_drew)); exact HO214.out) hb); have n1_ := Aside0.mk (Kd.R_below (by (with_reducible repeat (first | apply Kd.R_alloc | apply Kd.R_drewN | apply Kd.R_drew)); exact HO221.out) hb); have n2_ := Aside0.mk (Kd.R_below (by (with_reducible repeat (first | apply Kd.R_alloc | apply Kd.R_drewN | apply Kd.R_drew)); exact HO225.out) hb); have n3_ := Aside0.mk (Kd.R_below (by (with_reducible repeat (first | apply Kd.R_alloc | apply Kd.R_drewN | apply Kd.R_drew)); exact HO232.out) hb); have n4_ := Aside0.mk (blk_below (g := gb210) (o := .cells #[.int .i64 a1_0, .int .i64 a1_1, .int .i64 a1_2, .int .i64 a1_3] 50 (0, 0)) (by (with_reducible repeat (first | refine blk_drewN ?_ _ | refine blk_drew ?_ | refine blk_alloc ?_ _)); exact BK210.out) hb); have n5_ := Aside0.mk (below_step (by repeat (first | (with_reducible first | exact HB.out | apply below_alloc | apply pw_below_drewN | apply below_drew1 | refine below_set ?_ GE210.out) | exact HB.out)) hb); clear HO214; clear HO221; clear HO225; clear HO232; clear BK210; clear HB; have HO214 := n0_; have HO221 := n1_; have HO225 := n2_; have HO232 := n3_; have BK210 := n4_; have HB := n5_; clear n0_ n1_ n2_ n3_ n4_ n5_; (try clear hb); (try clear hb2); (try clear hk); (try clear hi)))
        go_meet
        case rel => exact ⟨_, ((t233 != t222)), (by first | rfl | (simp; done) | (simp [*]; done)), H', ⟨by first | omega | exact Nat.le_refl _⟩, ⟨by (with_reducible repeat (first | apply Kd.R_alloc | apply Kd.R_drewN | apply Kd.R_drew)); exact Kd.R_mono HO221.out (fun _ hk => ⟨hk.1.2, hk.2⟩)⟩, ⟨by (with_reducible repeat (first | apply Kd.R_alloc | apply Kd.R_drewN | apply Kd.R_drew)); exact Kd.R_mono HO225.out (fun _ hk => ⟨hk.1.2, hk.2⟩)⟩, ⟨by (with_reducible repeat (first | apply Kd.R_alloc | apply Kd.R_drewN | apply Kd.R_drew)); exact Kd.R_mono HO232.out (fun _ hk => ⟨hk.1.2, hk.2⟩)⟩, ⟨by (with_reducible repeat (first | refine blk_drewN ?_ _ | refine blk_drew ?_ | refine blk_alloc ?_ _)); exact BK210.out⟩, ⟨by repeat (first | (with_reducible first | exact HB.out | apply below_alloc | apply pw_below_drewN | apply below_drew1 | refine below_set ?_ GE210.out) | exact HB.out)⟩⟩
      · replace c25 := Bool.eq_false_iff.mpr c25
        subst c25
        have H1 : (none) = some r := by rw [if_neg (show ¬ (false = true) by decide)] at H; exact H
        clear H
        have H := H1
        clear H1
        exact absurd H (by simp)
    case rest =>
      clear HC12
      try clear c1
      try clear c2
      try clear p2
      try clear c3
      try clear c4
      try clear c4b0
      try clear c5
      try clear c14
      try clear c25
      try clear c26
      try clear c28
      try clear hcz20_0
      try clear hcz20_1
      try clear hcz20_2
      try clear hcz20_3
      try clear hfz20_0
      try clear hfz20_1
      try clear hfz20_2
      try clear hfz20_3
      obtain ⟨kq, x46_11, rfl, HA, HJ11, HO_6, HO_8, HO_9, BK210, HB⟩ := hcut
      cases kq with
      | zero => exact absurd HA.out (by simp [laws_FnExactPoolAdd.j0])
      | succ kj11 =>
        have H := HA.out
        clear HA
        simp only [laws_FnExactPoolAdd.j0] at H
        by_cases c29 : x46_11 = true
        · subst c29
          have H1 : (some false) = some r := by rw [if_pos rfl] at H; exact H
          clear H
          have H := H1
          clear H1
          exact absurd ((Option.some.inj H).trans HRT.out) (by decide)
        · replace c29 := Bool.eq_false_iff.mpr c29
          subst c29
          have H1 : ((laws_toTxS.f kj11 l0).bind fun t235 => ((laws_eqTxS.f kj11 t223 t235).bind fun t238 => (if t238 = true then ((laws_markTxS.f kj11 t223 1).bind fun bt239 => (if bt239.1 < 0 then (none) else ((laws_eqTxS.f kj11 t230 t219).bind fun t241 => (if t241 = true then (laws_FnExactPoolAdd.j1 kj11 l0 t219 t222 t230 (t233 != t222) a1_0 a1_1 a1_2 a1_3) else (none))))) else (some false)))) = some r := by rw [if_neg (show ¬ (false = true) by decide)] at H; exact H
          clear H
          have H := H1
          clear H1
          replace H := Option.bind_eq_some_iff.mp H
          obtain ⟨t235, A300, H⟩ := H
          replace H : ((laws_eqTxS.f kj11 t223 t235).bind fun t238 => (if t238 = true then ((laws_markTxS.f kj11 t223 1).bind fun bt239 => (if bt239.1 < 0 then (none) else ((laws_eqTxS.f kj11 t230 t219).bind fun t241 => (if t241 = true then (laws_FnExactPoolAdd.j1 kj11 l0 t219 t222 t230 (t233 != t222) a1_0 a1_1 a1_2 a1_3) else (none))))) else (some false))) = some r := H
          have A30 := Aside0.mk A300
          clear A300
          replace H := Option.bind_eq_some_iff.mp H
          obtain ⟨t238, A310, H⟩ := H
          replace H : (if t238 = true then ((laws_markTxS.f kj11 t223 1).bind fun bt239 => (if bt239.1 < 0 then (none) else ((laws_eqTxS.f kj11 t230 t219).bind fun t241 => (if t241 = true then (laws_FnExactPoolAdd.j1 kj11 l0 t219 t222 t230 (t233 != t222) a1_0 a1_1 a1_2 a1_3) else (none))))) else (some false)) = some r := H
          have A31 := Aside0.mk A310
          clear A310
          by_cases c32 : t238 = true
          · subst c32
            have H1 : ((laws_markTxS.f kj11 t223 1).bind fun bt239 => (if bt239.1 < 0 then (none) else ((laws_eqTxS.f kj11 t230 t219).bind fun t241 => (if t241 = true then (laws_FnExactPoolAdd.j1 kj11 l0 t219 t222 t230 (t233 != t222) a1_0 a1_1 a1_2 a1_3) else (none))))) = some r := by rw [if_pos rfl] at H; exact H
            clear H
            have H := H1
            clear H1
            replace H := Option.bind_eq_some_iff.mp H
            obtain ⟨⟨t239, t240⟩, A330, H⟩ := H
            replace H : (if t239 < 0 then (none) else ((laws_eqTxS.f kj11 t230 t219).bind fun t241 => (if t241 = true then (laws_FnExactPoolAdd.j1 kj11 l0 t219 t222 t230 (t233 != t222) a1_0 a1_1 a1_2 a1_3) else (none)))) = some r := H
            have A33 := Aside0.mk A330
            clear A330
            have HC34 := Aside0.mk H
            clear H
            go_upto_region 14 with (first | ((with_reducible refine gate_callee (f := 28) rfl ?_); refine goesL_ (some 49) rfl rfl Try.func28 (by kernel_rfl) rfl #[.slice A0 l0.length c0] rfl (by (try simp only [List.map_toArray, List.map_cons, List.map_nil]); first | done | rfl | (simp only [List.length_drop, List.length_take]; rfl)) ?_; (with_reducible refine (laws_toTxS.calls kj11 _ _ l0 t235 _ ?side1 ?side2 A30.out).mono ?_); (case side1 => repeat (first | exact (Kd.C_below HR0.out HB.out) | (with_reducible refine Kd.C_alloc ?_ _) | (with_reducible refine Kd.C_drewN ?_ _) | (with_reducible refine Kd.C_drew ?_))); (case side2 => exact HC0.out); rintro e w35 ⟨v236, rfl, ho0, hb⟩; refine ⟨_, rfl, ?_⟩; have n0_ := Aside0.mk (Kd.R_elder' (by (with_reducible repeat (first | apply Kd.R_alloc | apply Kd.R_drewN | apply Kd.R_drew)); exact HO_6.out) (Kd.R_base ho0) hb); have n1_ := Aside0.mk (Kd.R_elder' (by (with_reducible repeat (first | apply Kd.R_alloc | apply Kd.R_drewN | apply Kd.R_drew)); exact HO_8.out) (Kd.R_base ho0) hb); have n2_ := Aside0.mk (Kd.R_elder' (by (with_reducible repeat (first | apply Kd.R_alloc | apply Kd.R_drewN | apply Kd.R_drew)); exact HO_9.out) (Kd.R_base ho0) hb); have n3_ := Aside0.mk (Kd.R_lower (Kd.R_new' (Kd.R_new' (Kd.R_new' ho0 (Kd.R_lt (by (with_reducible repeat (first | apply Kd.R_alloc | apply Kd.R_drewN | apply Kd.R_drew)); exact HO_6.out))) (Kd.R_lt (by (with_reducible repeat (first | apply Kd.R_alloc | apply Kd.R_drewN | apply Kd.R_drew)); exact HO_8.out))) (Kd.R_lt (by (with_reducible repeat (first | apply Kd.R_alloc | apply Kd.R_drewN | apply Kd.R_drew)); exact HO_9.out))) (below_size (by repeat (first | (with_reducible first | exact HB.out | apply below_alloc | apply pw_below_drewN | apply below_drew1 | refine below_set ?_ GE210.out) | exact HB.out)))); have n4_ := Aside0.mk (blk_below (g := gb210) (o := .cells #[.int .i64 a1_0, .int .i64 a1_1, .int .i64 a1_2, .int .i64 a1_3] 50 (0, 0)) (by (with_reducible repeat (first | refine blk_drewN ?_ _ | refine blk_drew ?_ | refine blk_alloc ?_ _)); exact BK210.out) hb); have n5_ := Aside0.mk (below_step (by repeat (first | (with_reducible first | exact HB.out | apply below_alloc | apply pw_below_drewN | apply below_drew1 | refine below_set ?_ GE210.out) | exact HB.out)) hb); clear HO_6; clear HO_8; clear HO_9; clear BK210; clear HB; have HO_6 := n0_; have HO_8 := n1_; have HO_9 := n2_; have HO237 := n3_; have BK210 := n4_; have HB := n5_; clear n0_ n1_ n2_ n3_ n4_ n5_; (try clear hb); (try clear hb2); (try clear hk); (try clear hi); (try clear ho0); obtain ⟨Ao36, co36, eo36⟩ := Kd.R_slice HO237.out; subst eo36) | ((with_reducible refine gate_callee (f := 30) rfl ?_); refine goesL_ (some 50) rfl rfl Try.func30 (by kernel_rfl) rfl #[.slice Ao22 t223.length co22, .slice Ao36 t235.length co36] rfl (by (try simp only [List.map_toArray, List.map_cons, List.map_nil]); first | done | rfl | (simp only [List.length_drop, List.length_take]; rfl)) ?_; (with_reducible refine (laws_eqTxS.calls kj11 _ _ t223 _ _ t235 true _ ?side1 ?side2 ?side3 ?side4 A31.out).mono ?_); (case side1 => repeat (first | exact (Kd.R_reads' HO_8.out).2.2 | (with_reducible refine Kd.C_alloc ?_ _) | (with_reducible refine Kd.C_drewN ?_ _) | (with_reducible refine Kd.C_drew ?_))); (case side2 => exact (Kd.R_reads' HO_8.out).2.1); (case side3 => repeat (first | exact (Kd.R_reads' HO237.out).2.2 | (with_reducible refine Kd.C_alloc ?_ _) | (with_reducible refine Kd.C_drewN ?_ _) | (with_reducible refine Kd.C_drew ?_))); (case side4 => exact (Kd.R_reads' HO237.out).2.1); rintro e w37 ⟨rfl, hb⟩; refine ⟨_, rfl, ?_⟩; have n0_ := Aside0.mk (Kd.R_below (by (with_reducible repeat (first | apply Kd.R_alloc | apply Kd.R_drewN | apply Kd.R_drew)); exact HO_6.out) hb); have n1_ := Aside0.mk (Kd.R_below (by (with_reducible repeat (first | apply Kd.R_alloc | apply Kd.R_drewN | apply Kd.R_drew)); exact HO_8.out) hb); have n2_ := Aside0.mk (Kd.R_below (by (with_reducible repeat (first | apply Kd.R_alloc | apply Kd.R_drewN | apply Kd.R_drew)); exact HO_9.out) hb); have n3_ := Aside0.mk (Kd.R_below (by (with_reducible repeat (first | apply Kd.R_alloc | apply Kd.R_drewN | apply Kd.R_drew)); exact HO237.out) hb); have n4_ := Aside0.mk (blk_below (g := gb210) (o := .cells #[.int .i64 a1_0, .int .i64 a1_1, .int .i64 a1_2, .int .i64 a1_3] 50 (0, 0)) (by (with_reducible repeat (first | refine blk_drewN ?_ _ | refine blk_drew ?_ | refine blk_alloc ?_ _)); exact BK210.out) hb); have n5_ := Aside0.mk (below_step (by repeat (first | (with_reducible first | exact HB.out | apply below_alloc | apply pw_below_drewN | apply below_drew1 | refine below_set ?_ GE210.out) | exact HB.out)) hb); clear HO_6; clear HO_8; clear HO_9; clear HO237; clear BK210; clear HB; have HO_6 := n0_; have HO_8 := n1_; have HO_9 := n2_; have HO237 := n3_; have BK210 := n4_; have HB := n5_; clear n0_ n1_ n2_ n3_ n4_ n5_; (try clear hb); (try clear hb2); (try clear hk); (try clear hi)) | ((with_reducible refine gate_callee (f := 43) rfl ?_); refine goesL_ (some 54) rfl rfl Try.func43 (by kernel_rfl) rfl #[.slice Ao22 t223.length co22, .int .i64 1] rfl (by (try simp only [List.map_toArray, List.map_cons, List.map_nil]); first | done | rfl | (simp only [List.length_drop, List.length_take]; rfl)) ?_; (with_reducible refine (laws_markTxS.calls kj11 (fun k_ => some k_ = (.slice Ao22 t223.length co22 : Value).ownBlock) (.slice Ao22 t223.length co22) t223 1 t239 t240 w _ ?side1 ?side2 A33.out).mono ?_); (case side1 => repeat (first | (with_reducible first | exact HB.out | apply below_alloc | apply pw_below_drewN | apply below_drew1 | refine below_set ?_ GE210.out) | exact HB.out)); (case side2 => exact Kd.R_tight rfl HO_8.out); rintro e w38 ⟨rfl, hy0, hb, hkp⟩; refine ⟨_, rfl, ?_⟩; have n0_ := Aside0.mk (Kd.R_mono (ok' := fun k_ => some k_ ≠ (.slice Ao22 t223.length co22 : Value).ownBlock ∧ some k_ ≠ (v231 : Value).ownBlock ∧ some k_ ≠ (.slice Ao36 t235.length co36 : Value).ownBlock) (Kd.R_keptB (HO_6.out) hkp (fun k_ hk_ hs_ => (hk_.1.1) hs_)) (fun k_ hk_ => ⟨hk_.1.1.1, hk_.1.1.2, hk_.1.2⟩)); have n1_ := Aside0.mk (Kd.R_reok rfl hy0 (fun k_ e_ => HO_8.out.1 k_ e_)); have n2_ := Aside0.mk (Kd.R_mono (ok' := fun k_ => some k_ ≠ (v220 : Value).ownBlock ∧ some k_ ≠ (.slice Ao22 t223.length co22 : Value).ownBlock ∧ some k_ ≠ (.slice Ao36 t235.length co36 : Value).ownBlock) (Kd.R_keptB (HO_9.out) hkp (fun k_ hk_ hs_ => (hk_.1.2) hs_)) (fun k_ hk_ => ⟨hk_.1.1.1, hk_.1.1.2, hk_.1.2⟩)); have n3_ := Aside0.mk (blk_kept (by (with_reducible repeat (first | refine blk_drewN ?_ _ | refine blk_drew ?_ | refine blk_alloc ?_ _)); exact BK210.out) hkp (fun hs_ => (fun e_ => (Kd.R_ne HO_8.out BK210.out (by decide)) e_) hs_)); have n4_ := Aside0.mk (Kd.R_mono (ok' := fun k_ => some k_ ≠ (v220 : Value).ownBlock ∧ some k_ ≠ (.slice Ao22 t223.length co22 : Value).ownBlock ∧ some k_ ≠ (v231 : Value).ownBlock) (Kd.R_keptB (HO237.out) hkp (fun k_ hk_ hs_ => (hk_.1.2) hs_)) (fun k_ hk_ => ⟨hk_.1.1.1.2, hk_.1.1.2, hk_.1.2⟩)); have n5_ := Aside0.mk (hb); clear HO_6; clear HO_8; clear HO_9; clear BK210; clear HO237; clear HB; have HO_6 := n0_; have HO_8 := n1_; have HO_9 := n2_; have BK210 := n3_; have HO237 := n4_; have HB := n5_; clear n0_ n1_ n2_ n3_ n4_ n5_; (try clear hb); (try clear hkp); (try clear hy0)))
            (try simp only [Act.put, List.setIfInBounds_toArray, List.set_cons_zero, List.set_cons_succ])
            go_cut [67] (fun v67 wc => ∃ (kq : Nat) (x67_33 : Bool), v67 = .bool x67_33 ∧ Aside0 (laws_FnExactPoolAdd.j1 kq l0 t219 t222 t230 x67_33 a1_0 a1_1 a1_2 a1_3 = some r) ∧ Aside0 (kq ≤ kj11) ∧ Aside0 (Kd.R k45 45 wc w.heap.size (fun k_ => some k_ ≠ (v231 : Value).ownBlock) v220 t219) ∧ Aside0 (Kd.R k45 45 wc w.heap.size (fun k_ => some k_ ≠ (v220 : Value).ownBlock) v231 t230) ∧ Aside0 (wc.heap[gb210]? = some (.cells #[.int .i64 a1_0, .int .i64 a1_1, .int .i64 a1_2, .int .i64 a1_3] 50 (0, 0))) ∧ Aside0 (Below w.heap.size w wc))
            case first =>
              have H := HC34.out
              clear HC34
              by_cases c39 : t239 < 0
              · rw [if_pos c39] at H
                exact absurd H (by simp)
              · rw [if_neg c39] at H
                have c39b0 : decide (t239 < 0) = false := decide_eq_false c39
                clear c39
                (first | rw [c39b0] | (simp only [i64_w, i32_w]; rw [c39b0]) | skip)
                replace H := Option.bind_eq_some_iff.mp H
                obtain ⟨t241, A400, H⟩ := H
                replace H : (if t241 = true then (laws_FnExactPoolAdd.j1 kj11 l0 t219 t222 t230 (t233 != t222) a1_0 a1_1 a1_2 a1_3) else (none)) = some r := H
                have A40 := Aside0.mk A400
                clear A400
                by_cases c41 : t241 = true
                · subst c41
                  have H1 : (laws_FnExactPoolAdd.j1 kj11 l0 t219 t222 t230 (t233 != t222) a1_0 a1_1 a1_2 a1_3) = some r := by rw [if_pos rfl] at H; exact H
                  clear H
                  have H := H1
                  clear H1
                  have H' := Aside0.mk H
                  clear H
                  obtain ⟨Ao42, co42, eo42⟩ := Kd.R_slice HO_9.out
                  subst eo42
                  obtain ⟨Ao43, co43, eo43⟩ := Kd.R_slice HO_6.out
                  subst eo43
                  go_wp2_with (first | (go_at_call 30; (with_reducible refine (laws_eqTxS.calls kj11 _ _ t230 _ _ t219 true _ ?side1 ?side2 ?side3 ?side4 A40.out).mono ?_); (case side1 => repeat (first | exact (Kd.R_reads' HO_9.out).2.2 | (with_reducible refine Kd.C_alloc ?_ _) | (with_reducible refine Kd.C_drewN ?_ _) | (with_reducible refine Kd.C_drew ?_))); (case side2 => exact (Kd.R_reads' HO_9.out).2.1); (case side3 => repeat (first | exact (Kd.R_reads' HO_6.out).2.2 | (with_reducible refine Kd.C_alloc ?_ _) | (with_reducible refine Kd.C_drewN ?_ _) | (with_reducible refine Kd.C_drew ?_))); (case side4 => exact (Kd.R_reads' HO_6.out).2.1); rintro e w44 ⟨rfl, hb⟩; have n0_ := Aside0.mk (Kd.R_below (by (with_reducible repeat (first | apply Kd.R_alloc | apply Kd.R_drewN | apply Kd.R_drew)); exact HO_6.out) hb); have n1_ := Aside0.mk (Kd.R_below (by (with_reducible repeat (first | apply Kd.R_alloc | apply Kd.R_drewN | apply Kd.R_drew)); exact HO_8.out) hb); have n2_ := Aside0.mk (Kd.R_below (by (with_reducible repeat (first | apply Kd.R_alloc | apply Kd.R_drewN | apply Kd.R_drew)); exact HO_9.out) hb); have n3_ := Aside0.mk (Kd.R_below (by (with_reducible repeat (first | apply Kd.R_alloc | apply Kd.R_drewN | apply Kd.R_drew)); exact HO237.out) hb); have n4_ := Aside0.mk (blk_below (g := gb210) (o := .cells #[.int .i64 a1_0, .int .i64 a1_1, .int .i64 a1_2, .int .i64 a1_3] 50 (0, 0)) (by (with_reducible repeat (first | refine blk_drewN ?_ _ | refine blk_drew ?_ | refine blk_alloc ?_ _)); exact BK210.out) hb); have n5_ := Aside0.mk (below_step (by repeat (first | (with_reducible first | exact HB.out | apply below_alloc | apply pw_below_drewN | apply below_drew1 | refine below_set ?_ GE210.out) | exact HB.out)) hb); clear HO_6; clear HO_8; clear HO_9; clear HO237; clear BK210; clear HB; have HO_6 := n0_; have HO_8 := n1_; have HO_9 := n2_; have HO237 := n3_; have BK210 := n4_; have HB := n5_; clear n0_ n1_ n2_ n3_ n4_ n5_; (try clear hb); (try clear hb2); (try clear hk); (try clear hi)))
                  go_meet
                  case rel => exact ⟨_, ((t233 != t222)), (by first | rfl | (simp; done) | (simp [*]; done)), H', ⟨by have := HJ11.out; first | omega | exact Nat.le_refl _⟩, ⟨by (with_reducible repeat (first | apply Kd.R_alloc | apply Kd.R_drewN | apply Kd.R_drew)); exact Kd.R_mono HO_6.out (fun _ hk => hk.2.1)⟩, ⟨by (with_reducible repeat (first | apply Kd.R_alloc | apply Kd.R_drewN | apply Kd.R_drew)); exact Kd.R_mono HO_9.out (fun _ hk => hk.1)⟩, ⟨by (with_reducible repeat (first | refine blk_drewN ?_ _ | refine blk_drew ?_ | refine blk_alloc ?_ _)); exact BK210.out⟩, ⟨by repeat (first | (with_reducible first | exact HB.out | apply below_alloc | apply pw_below_drewN | apply below_drew1 | refine below_set ?_ GE210.out) | exact HB.out)⟩⟩
                · replace c41 := Bool.eq_false_iff.mpr c41
                  subst c41
                  have H1 : (none) = some r := by rw [if_neg (show ¬ (false = true) by decide)] at H; exact H
                  clear H
                  have H := H1
                  clear H1
                  exact absurd H (by simp)
            case rest =>
              clear HC34
              try clear c1
              try clear c2
              try clear p2
              try clear c3
              try clear c4
              try clear c4b0
              try clear c5
              try clear c14
              try clear c25
              try clear c26
              try clear c28
              try clear c29
              try clear c30
              try clear c32
              try clear c35
              try clear c39
              try clear c39b0
              try clear c41
              try clear c43
              try clear hcz20_0
              try clear hcz20_1
              try clear hcz20_2
              try clear hcz20_3
              try clear hfz20_0
              try clear hfz20_1
              try clear hfz20_2
              try clear hfz20_3
              try clear p2
              obtain ⟨kq, x67_33, rfl, HA, HJ33, HO_6, HO_9, BK210, HB⟩ := hcut
              cases kq with
              | zero => exact absurd HA.out (by simp [laws_FnExactPoolAdd.j1])
              | succ kj33 =>
                have H := HA.out
                clear HA
                simp only [laws_FnExactPoolAdd.j1] at H
                by_cases c45 : x67_33 = true
                · subst c45
                  have H1 : (some false) = some r := by rw [if_pos rfl] at H; exact H
                  clear H
                  have H := H1
                  clear H1
                  exact absurd ((Option.some.inj H).trans HRT.out) (by decide)
                · replace c45 := Bool.eq_false_iff.mpr c45
                  subst c45
                  have H1 : ((laws_markTxS.f kj33 t230 1).bind fun bt242 => ((laws_heldTxS.f kj33 bt242.2 1).bind fun t244 => (if t244 < 0 then (some false) else (if t244 = bt242.1 then ((laws_toTxS.f kj33 l0).bind fun t245 => ((laws_toTx.f a1_0 a1_1 a1_2 a1_3).bind fun bt248 => ((impl_PoolAdd.f kj33 t245 bt248.1 bt248.2.1 bt248.2.2.1 bt248.2.2.2).bind fun bt252 => ((laws_eqTxS.f kj33 bt252.1 t219).bind fun t256 => (if t256 = true then (laws_FnExactPoolAdd.j2 kj33 bt242.2 bt242.1 (bt252.2 != t222)) else (none)))))) else (some false))))) = some r := by rw [if_neg (show ¬ (false = true) by decide)] at H; exact H
                  clear H
                  have H := H1
                  clear H1
                  replace H := Option.bind_eq_some_iff.mp H
                  obtain ⟨⟨t242, t243⟩, A460, H⟩ := H
                  replace H : ((laws_heldTxS.f kj33 t243 1).bind fun t244 => (if t244 < 0 then (some false) else (if t244 = t242 then ((laws_toTxS.f kj33 l0).bind fun t245 => ((laws_toTx.f a1_0 a1_1 a1_2 a1_3).bind fun bt248 => ((impl_PoolAdd.f kj33 t245 bt248.1 bt248.2.1 bt248.2.2.1 bt248.2.2.2).bind fun bt252 => ((laws_eqTxS.f kj33 bt252.1 t219).bind fun t256 => (if t256 = true then (laws_FnExactPoolAdd.j2 kj33 t243 t242 (bt252.2 != t222)) else (none)))))) else (some false)))) = some r := H
                  have A46 := Aside0.mk A460
                  clear A460
                  replace H := Option.bind_eq_some_iff.mp H
                  obtain ⟨t244, A470, H⟩ := H
                  replace H : (if t244 < 0 then (some false) else (if t244 = t242 then ((laws_toTxS.f kj33 l0).bind fun t245 => ((laws_toTx.f a1_0 a1_1 a1_2 a1_3).bind fun bt248 => ((impl_PoolAdd.f kj33 t245 bt248.1 bt248.2.1 bt248.2.2.1 bt248.2.2.2).bind fun bt252 => ((laws_eqTxS.f kj33 bt252.1 t219).bind fun t256 => (if t256 = true then (laws_FnExactPoolAdd.j2 kj33 t243 t242 (bt252.2 != t222)) else (none)))))) else (some false))) = some r := H
                  have A47 := Aside0.mk A470
                  clear A470
                  by_cases c48 : t244 < 0
                  · rw [if_pos c48] at H
                    have c48b0 : decide (t244 < 0) = true := decide_eq_true c48
                    clear c48
                    exact absurd ((Option.some.inj H).trans HRT.out) (by decide)
                  · rw [if_neg c48] at H
                    have c48b0 : decide (t244 < 0) = false := decide_eq_false c48
                    clear c48
                    by_cases c49 : t244 = t242
                    · rw [if_pos c49] at H
                      have c49b0 : (t244 == t242) = true := beq_iff_eq.mpr c49
                      have c49b1 : (t244 != t242) = false := bne_eq_false_iff_eq.mpr c49
                      clear c49
                      replace H := Option.bind_eq_some_iff.mp H
                      obtain ⟨t245, A500, H⟩ := H
                      replace H : ((laws_toTx.f a1_0 a1_1 a1_2 a1_3).bind fun bt248 => ((impl_PoolAdd.f kj33 t245 bt248.1 bt248.2.1 bt248.2.2.1 bt248.2.2.2).bind fun bt252 => ((laws_eqTxS.f kj33 bt252.1 t219).bind fun t256 => (if t256 = true then (laws_FnExactPoolAdd.j2 kj33 t243 t242 (bt252.2 != t222)) else (none))))) = some r := H
                      have A50 := Aside0.mk A500
                      clear A500
                      replace H := Option.bind_eq_some_iff.mp H
                      obtain ⟨⟨t248, t249, t250, t251⟩, A510, H⟩ := H
                      replace H : ((impl_PoolAdd.f kj33 t245 t248 t249 t250 t251).bind fun bt252 => ((laws_eqTxS.f kj33 bt252.1 t219).bind fun t256 => (if t256 = true then (laws_FnExactPoolAdd.j2 kj33 t243 t242 (bt252.2 != t222)) else (none)))) = some r := H
                      have A51 := Aside0.mk A510
                      clear A510
                      replace H := Option.bind_eq_some_iff.mp H
                      obtain ⟨⟨t252, t255⟩, A520, H⟩ := H
                      replace H : ((laws_eqTxS.f kj33 t252 t219).bind fun t256 => (if t256 = true then (laws_FnExactPoolAdd.j2 kj33 t243 t242 (t255 != t222)) else (none))) = some r := H
                      have A52 := Aside0.mk A520
                      clear A520
                      have HC53 := Aside0.mk H
                      clear H
                      obtain ⟨Ao54, co54, eo54⟩ := Kd.R_slice HO_9.out
                      subst eo54
                      try go_wp2_with (first | ((with_reducible refine gate_callee (f := 43) rfl ?_); refine goesL_ (some 70) rfl rfl Try.func43 (by kernel_rfl) rfl #[.slice Ao54 t230.length co54, .int .i64 1] rfl (by (try simp only [List.map_toArray, List.map_cons, List.map_nil]); first | done | rfl | (simp only [List.length_drop, List.length_take]; rfl)) ?_; (with_reducible refine (laws_markTxS.calls kj33 (fun k_ => some k_ = (.slice Ao54 t230.length co54 : Value).ownBlock) (.slice Ao54 t230.length co54) t230 1 t242 t243 w _ ?side1 ?side2 A46.out).mono ?_); (case side1 => repeat (first | (with_reducible first | exact HB.out | apply below_alloc | apply pw_below_drewN | apply below_drew1 | refine below_set ?_ GE210.out) | exact HB.out)); (case side2 => exact Kd.R_tight rfl HO_9.out); rintro e w55 ⟨rfl, hy0, hb, hkp⟩; refine ⟨_, rfl, ?_⟩; have n0_ := Aside0.mk (Kd.R_mono (ok' := fun k_ => some k_ ≠ (.slice Ao54 t230.length co54 : Value).ownBlock) (Kd.R_keptB (HO_6.out) hkp (fun k_ hk_ hs_ => (hk_) hs_)) (fun k_ hk_ => hk_.1)); have n1_ := Aside0.mk (Kd.R_reok rfl hy0 (fun k_ e_ => HO_9.out.1 k_ e_)); have n2_ := Aside0.mk (blk_kept (by (with_reducible repeat (first | refine blk_drewN ?_ _ | refine blk_drew ?_ | refine blk_alloc ?_ _)); exact BK210.out) hkp (fun hs_ => (fun e_ => (Kd.R_ne HO_9.out BK210.out (by decide)) e_) hs_)); have n3_ := Aside0.mk (hb); clear HO_6; clear HO_9; clear BK210; clear HB; have HO_6 := n0_; have HO_9 := n1_; have BK210 := n2_; have HB := n3_; clear n0_ n1_ n2_ n3_; (try clear hb); (try clear hkp); (try clear hy0)) | ((with_reducible refine gate_callee (f := 44) rfl ?_); refine goesL_ (some 73) rfl rfl Try.func44 (by kernel_rfl) rfl #[.slice Ao54 t243.length co54, .int .i64 1] rfl (by (try simp only [List.map_toArray, List.map_cons, List.map_nil]); first | done | (rw [show t243.length = t230.length from (Kd.R_reads' HO_9.out).1.symm] <;> rfl) | rfl | (simp only [List.length_drop, List.length_take]; rfl)) ?_; (with_reducible refine (laws_heldTxS.calls kj33 _ _ t243 1 t244 _ ?side1 ?side2 A47.out).mono ?_); (case side1 => repeat (first | exact (Kd.R_reads' HO_9.out).2.2 | (with_reducible refine Kd.C_alloc ?_ _) | (with_reducible refine Kd.C_drewN ?_ _) | (with_reducible refine Kd.C_drew ?_))); (case side2 => rw [show t243.length = t230.length from (Kd.R_reads' HO_9.out).1.symm]; exact (Kd.R_reads' HO_9.out).2.1); rintro e w' ⟨rfl, ⟨nd, rfl⟩⟩; refine ⟨_, rfl, ?_⟩))
                      (try (rw [drewN_self w55]; generalize hq_ : World.drewN w55 _ = w55; have n0_ : Aside0 (Kd.R k45 45 w55 w.heap.size (fun k_ => some k_ ≠ (.slice Ao54 t230.length co54 : Value).ownBlock) v220 t219) := ⟨by rw [← hq_]; exact (by (with_reducible repeat (first | apply Kd.R_alloc | apply Kd.R_drewN | apply Kd.R_drew)); exact HO_6.out)⟩; have n1_ : Aside0 (Kd.R k45 45 w55 w.heap.size (fun k_ => some k_ ≠ (v220 : Value).ownBlock) (.slice Ao54 t230.length co54) t243) := ⟨by rw [← hq_]; exact (by (with_reducible repeat (first | apply Kd.R_alloc | apply Kd.R_drewN | apply Kd.R_drew)); exact HO_9.out)⟩; have n2_ : Aside0 (w55.heap[gb210]? = some (.cells #[.int .i64 a1_0, .int .i64 a1_1, .int .i64 a1_2, .int .i64 a1_3] 50 (0, 0))) := ⟨by rw [← hq_]; exact (by (with_reducible repeat (first | refine blk_drewN ?_ _ | refine blk_drew ?_ | refine blk_alloc ?_ _)); exact BK210.out)⟩; have n3_ : Aside0 (Below w.heap.size w w55) := ⟨by rw [← hq_]; exact (by repeat (first | (with_reducible first | exact HB.out | apply below_alloc | apply pw_below_drewN | apply below_drew1 | refine below_set ?_ GE210.out) | exact HB.out))⟩; clear HO_6 HO_9 BK210 HB hq_; have HO_6 := n0_; have HO_9 := n1_; have BK210 := n2_; have HB := n3_; clear n0_ n1_ n2_ n3_))
                      have n0_ := Aside0.mk (Kd.R_drew HO_6.out)
                      have n1_ := Aside0.mk (Kd.R_drew HO_9.out)
                      have n2_ := Aside0.mk (blk_drew BK210.out)
                      have n3_ := Aside0.mk (below_drew1 HB.out)
                      clear HO_6
                      clear HO_9
                      clear BK210
                      clear HB
                      have HO_6 := n0_
                      have HO_9 := n1_
                      have BK210 := n2_
                      have HB := n3_
                      clear n0_ n1_ n2_ n3_
                      refine start_ (n := 10) (S := fun w' => w'.cell? ⟨gb210, 0, none⟩ = some (.int .i64 a1_0) ∧ w'.cell? ⟨gb210, 1, none⟩ = some (.int .i64 a1_1) ∧ w'.cell? ⟨gb210, 2, none⟩ = some (.int .i64 a1_2) ∧ w'.cell? ⟨gb210, 3, none⟩ = some (.int .i64 a1_3)) (ds := []) #[false, false, false, false, false, false, false, false, false, false] (by kernel_rfl) rfl rfl ⟨(blk_cell BK210.out 0).trans rfl, (blk_cell BK210.out 1).trans rfl, (blk_cell BK210.out 2).trans rfl, (blk_cell BK210.out 3).trans rfl⟩ (fun hHeld => ?_); refine with_tabW laws_FnExactPoolAdd.tab24 laws_FnExactPoolAdd.bits24 (fun HT_ HW_ => ?_)
                      generalize w55.drew = w56 at HO_6 HO_9 BK210 HB hHeld ⊢
                      refine pure_ (i := 0) (N := some 80) (v := ?_) (a' := ?_) #[true, false, false, false, false, false, false, false, false, false] rfl rfl (any_of HT_.out (by kernel_rfl)) (fun _ _ _ h => h) (Or.inl ⟨by rfl, ?_⟩) ?_ ?_
                      rotate_left
                      · intro w'
                        go_simp
                        with_reducible rfl
                      rotate_left
                      · simp only [Act.put, List.setIfInBounds_toArray, List.set_cons_zero, List.set_cons_succ, i64_w, i32_w]
                        rfl
                      refine take_ (i := 2) (N := some 82) (v := ?_) (a' := ?_) #[true, false, true, false, false, false, false, false, false, false] rfl rfl (take_ofW HT_.out HW_.out (by kernel_rfl)) (fun _ _ _ h => h) (Or.inl ⟨by rfl, ?_⟩) hHeld ?_ ?_
                      rotate_left
                      · rintro w' ⟨s0, s1, s2, s3⟩
                        go_simp
                        with_reducible rfl
                      rotate_left
                      · simp only [Act.put, List.setIfInBounds_toArray, List.set_cons_zero, List.set_cons_succ, i64_w, i32_w]
                        rfl
                      refine one_ (i := 1) (N := some 81) #[true, true, true, false, false, false, false, false, false, false] rfl rfl (one_of HT_.out (by kernel_rfl)) (by decide) (fun K hK => ?_)
                      refine goes_ Try.func28 (by kernel_rfl) rfl #[.slice A0 l0.length c0] (by rfl) rfl rfl (by (try simp only [List.map_toArray, List.map_cons, List.map_nil]); first | done | rfl | (simp only [List.length_drop, List.length_take]; rfl)) ?_
                      with_reducible refine (laws_toTxS.calls kj33 _ _ l0 t245 _ ?side1 ?side2 A50.out).mono ?_
                      (case side1 => repeat (first | exact (Kd.C_below HR0.out HB.out) | (with_reducible refine Kd.C_alloc ?_ _) | (with_reducible refine Kd.C_drewN ?_ _) | (with_reducible refine Kd.C_drew ?_)))
                      (case side2 => exact HC0.out)
                      rintro e w57 ⟨v246, rfl, ho0, hb⟩
                      refine ⟨_, rfl, ?_⟩
                      have n0_ := Aside0.mk (Kd.R_elder' (by (with_reducible repeat (first | apply Kd.R_alloc | apply Kd.R_drewN | apply Kd.R_drew)); exact HO_6.out) (Kd.R_base ho0) hb)
                      have n1_ := Aside0.mk (Kd.R_elder' (by (with_reducible repeat (first | apply Kd.R_alloc | apply Kd.R_drewN | apply Kd.R_drew)); exact HO_9.out) (Kd.R_base ho0) hb)
                      have n2_ := Aside0.mk (Kd.R_lower (Kd.R_new' (Kd.R_new' ho0 (Kd.R_lt (by (with_reducible repeat (first | apply Kd.R_alloc | apply Kd.R_drewN | apply Kd.R_drew)); exact HO_6.out))) (Kd.R_lt (by (with_reducible repeat (first | apply Kd.R_alloc | apply Kd.R_drewN | apply Kd.R_drew)); exact HO_9.out))) (below_size (by repeat (first | (with_reducible first | exact HB.out | apply below_alloc | apply pw_below_drewN | apply below_drew1 | refine below_set ?_ GE210.out) | exact HB.out))))
                      have n3_ := Aside0.mk (blk_below (g := gb210) (o := .cells #[.int .i64 a1_0, .int .i64 a1_1, .int .i64 a1_2, .int .i64 a1_3] 50 (0, 0)) (by (with_reducible repeat (first | refine blk_drewN ?_ _ | refine blk_drew ?_ | refine blk_alloc ?_ _)); exact BK210.out) hb)
                      have n4_ := Aside0.mk (below_step (by repeat (first | (with_reducible first | exact HB.out | apply below_alloc | apply pw_below_drewN | apply below_drew1 | refine below_set ?_ GE210.out) | exact HB.out)) hb)
                      clear HO_6
                      clear HO_9
                      clear BK210
                      clear HB
                      have HO_6 := n0_
                      have HO_9 := n1_
                      have HO247 := n2_
                      have BK210 := n3_
                      have HB := n4_
                      clear n0_ n1_ n2_ n3_ n4_
                      (try clear hb)
                      (try clear hb2)
                      (try clear hk)
                      (try clear hi)
                      (try clear ho0)
                      refine hK.out _ _ ⟨(blk_cell BK210.out 0).trans rfl, (blk_cell BK210.out 1).trans rfl, (blk_cell BK210.out 2).trans rfl, (blk_cell BK210.out 3).trans rfl⟩ (fun hHeld => ?_)
                      clear hK K
                      refine norm_ (a' := ?_) ?_ ?_
                      rotate_left
                      · show Act.put _ (some 81) _ = _
                        simp only [Act.put, List.setIfInBounds_toArray, List.set_cons_zero, List.set_cons_succ, i64_w, i32_w]
                        rfl
                      refine one_ (i := 3) (N := some 83) #[true, true, true, true, false, false, false, false, false, false] rfl rfl (one_of HT_.out (by kernel_rfl)) (by decide) (fun K hK => ?_)
                      refine goes_ Try.func35 (by kernel_rfl) rfl #[.agg #[.int .i64 a1_0, .int .i64 a1_1, .int .i64 a1_2, .int .i64 a1_3]] (by rfl) rfl rfl (by (try simp only [List.map_toArray, List.map_cons, List.map_nil]); first | done | rfl | (simp only [List.length_drop, List.length_take]; rfl)) ?_
                      with_reducible refine (laws_toTx.calls a1_0 a1_1 a1_2 a1_3 t248 t249 t250 t251 _ A51.out).mono ?_
                      rintro e w58 ⟨rfl, hb⟩
                      refine ⟨_, rfl, ?_⟩
                      have n0_ := Aside0.mk (Kd.R_below (by (with_reducible repeat (first | apply Kd.R_alloc | apply Kd.R_drewN | apply Kd.R_drew)); exact HO_6.out) hb)
                      have n1_ := Aside0.mk (Kd.R_below (by (with_reducible repeat (first | apply Kd.R_alloc | apply Kd.R_drewN | apply Kd.R_drew)); exact HO_9.out) hb)
                      have n2_ := Aside0.mk (Kd.R_below (by (with_reducible repeat (first | apply Kd.R_alloc | apply Kd.R_drewN | apply Kd.R_drew)); exact HO247.out) hb)
                      have n3_ := Aside0.mk (blk_below (g := gb210) (o := .cells #[.int .i64 a1_0, .int .i64 a1_1, .int .i64 a1_2, .int .i64 a1_3] 50 (0, 0)) (by (with_reducible repeat (first | refine blk_drewN ?_ _ | refine blk_drew ?_ | refine blk_alloc ?_ _)); exact BK210.out) hb)
                      have n4_ := Aside0.mk (below_step (by repeat (first | (with_reducible first | exact HB.out | apply below_alloc | apply pw_below_drewN | apply below_drew1 | refine below_set ?_ GE210.out) | exact HB.out)) hb)
                      clear HO_6
                      clear HO_9
                      clear HO247
                      clear BK210
                      clear HB
                      have HO_6 := n0_
                      have HO_9 := n1_
                      have HO247 := n2_
                      have BK210 := n3_
                      have HB := n4_
                      clear n0_ n1_ n2_ n3_ n4_
                      (try clear hb)
                      (try clear hb2)
                      (try clear hk)
                      (try clear hi)
                      obtain ⟨Ao59, co59, eo59⟩ := Kd.R_slice HO247.out
                      (first | subst eo59 | (injection eo59 with f1_ f2_ f3_; have f4_ := f1_.symm; have f5_ := f3_.symm; clear f1_ f2_ f3_; subst f4_; subst f5_))
                      refine hK.out _ _ ⟨(blk_cell BK210.out 0).trans rfl, (blk_cell BK210.out 1).trans rfl, (blk_cell BK210.out 2).trans rfl, (blk_cell BK210.out 3).trans rfl⟩ (fun hHeld => ?_)
                      clear hK K
                      refine norm_ (a' := ?_) ?_ ?_
                      rotate_left
                      · show Act.put _ (some 83) _ = _
                        simp only [Act.put, List.setIfInBounds_toArray, List.set_cons_zero, List.set_cons_succ, i64_w, i32_w]
                        rfl
                      refine one_ (i := 4) (N := some 84) #[true, true, true, true, true, false, false, false, false, false] rfl rfl (one_of HT_.out (by kernel_rfl)) (by decide) (fun K hK => ?_)
                      refine goes_ Try.func51 (by kernel_rfl) rfl #[.slice Ao59 t245.length co59, .agg #[.int .i64 t248, .int .i64 t249, .int .i64 t250, .int .i64 t251]] (by rfl) rfl rfl (by (try simp only [List.map_toArray, List.map_cons, List.map_nil]); first | done | rfl | (simp only [List.length_drop, List.length_take]; rfl)) ?_
                      with_reducible refine (impl_PoolAdd.calls kj33 _ _ t245 t248 t249 t250 t251 t252 t255 _ ?side1 ?side2 A52.out).mono ?_
                      (case side1 => repeat (first | exact (Kd.R_reads' HO247.out).2.2 | (with_reducible refine Kd.C_alloc ?_ _) | (with_reducible refine Kd.C_drewN ?_ _) | (with_reducible refine Kd.C_drew ?_)))
                      (case side2 => exact (Kd.R_reads' HO247.out).2.1)
                      rintro e w60 ⟨v253, rfl, ho0, hb⟩
                      refine ⟨_, rfl, ?_⟩
                      have n0_ := Aside0.mk (Kd.R_elder' (by (with_reducible repeat (first | apply Kd.R_alloc | apply Kd.R_drewN | apply Kd.R_drew)); exact HO_6.out) (Kd.R_base ho0) hb)
                      have n1_ := Aside0.mk (Kd.R_elder' (by (with_reducible repeat (first | apply Kd.R_alloc | apply Kd.R_drewN | apply Kd.R_drew)); exact HO_9.out) (Kd.R_base ho0) hb)
                      have n2_ := Aside0.mk (Kd.R_elder' (by (with_reducible repeat (first | apply Kd.R_alloc | apply Kd.R_drewN | apply Kd.R_drew)); exact HO247.out) (Kd.R_base ho0) hb)
                      have n3_ := Aside0.mk (Kd.R_lower (Kd.R_new' (Kd.R_new' (Kd.R_new' ho0 (Kd.R_lt (by (with_reducible repeat (first | apply Kd.R_alloc | apply Kd.R_drewN | apply Kd.R_drew)); exact HO_6.out))) (Kd.R_lt (by (with_reducible repeat (first | apply Kd.R_alloc | apply Kd.R_drewN | apply Kd.R_drew)); exact HO_9.out))) (Kd.R_lt (by (with_reducible repeat (first | apply Kd.R_alloc | apply Kd.R_drewN | apply Kd.R_drew)); exact HO247.out))) (below_size (by repeat (first | (with_reducible first | exact HB.out | apply below_alloc | apply pw_below_drewN | apply below_drew1 | refine below_set ?_ GE210.out) | exact HB.out))))
                      have n4_ := Aside0.mk (blk_below (g := gb210) (o := .cells #[.int .i64 a1_0, .int .i64 a1_1, .int .i64 a1_2, .int .i64 a1_3] 50 (0, 0)) (by (with_reducible repeat (first | refine blk_drewN ?_ _ | refine blk_drew ?_ | refine blk_alloc ?_ _)); exact BK210.out) hb)
                      have n5_ := Aside0.mk (below_step (by repeat (first | (with_reducible first | exact HB.out | apply below_alloc | apply pw_below_drewN | apply below_drew1 | refine below_set ?_ GE210.out) | exact HB.out)) hb)
                      clear HO_6
                      clear HO_9
                      clear HO247
                      clear BK210
                      clear HB
                      have HO_6 := n0_
                      have HO_9 := n1_
                      have HO247 := n2_
                      have HO254 := n3_
                      have BK210 := n4_
                      have HB := n5_
                      clear n0_ n1_ n2_ n3_ n4_ n5_
                      (try clear hb)
                      (try clear hb2)
                      (try clear hk)
                      (try clear hi)
                      (try clear ho0)
                      refine hK.out _ _ ⟨(blk_cell BK210.out 0).trans rfl, (blk_cell BK210.out 1).trans rfl, (blk_cell BK210.out 2).trans rfl, (blk_cell BK210.out 3).trans rfl⟩ (fun hHeld => ?_)
                      clear hK K
                      refine norm_ (a' := ?_) ?_ ?_
                      rotate_left
                      · show Act.put _ (some 84) _ = _
                        simp only [Act.put, List.setIfInBounds_toArray, List.set_cons_zero, List.set_cons_succ, i64_w, i32_w]
                        rfl
                      refine pure_ (i := 5) (N := some 79) (v := ?_) (a' := ?_) #[true, true, true, true, true, true, false, false, false, false] rfl rfl (any_of HT_.out (by kernel_rfl)) (fun _ _ _ h => h) (Or.inl ⟨by rfl, ?_⟩) ?_ ?_
                      rotate_left
                      · intro w'
                        go_simp
                        with_reducible rfl
                      rotate_left
                      · simp only [Act.put, List.setIfInBounds_toArray, List.set_cons_zero, List.set_cons_succ, i64_w, i32_w]
                        rfl
                      refine pure_ (i := 6) (N := some 85) (v := ?_) (a' := ?_) #[true, true, true, true, true, true, true, false, false, false] rfl rfl (any_of HT_.out (by kernel_rfl)) (fun _ _ _ h => h) (Or.inl ⟨by rfl, ?_⟩) ?_ ?_
                      rotate_left
                      · intro w'
                        go_simp
                        with_reducible rfl
                      rotate_left
                      · simp only [Act.put, List.setIfInBounds_toArray, List.set_cons_zero, List.set_cons_succ, i64_w, i32_w]
                        rfl
                      refine pure_ (i := 7) (N := some 86) (v := ?_) (a' := ?_) #[true, true, true, true, true, true, true, true, false, false] rfl rfl (any_of HT_.out (by kernel_rfl)) (fun _ _ _ h => h) (Or.inl ⟨by rfl, ?_⟩) ?_ ?_
                      rotate_left
                      · intro w'
                        go_simp
                        with_reducible rfl
                      rotate_left
                      · simp only [Act.put, List.setIfInBounds_toArray, List.set_cons_zero, List.set_cons_succ, i64_w, i32_w]
                        rfl
                      refine pure_ (i := 8) (N := some 14) (v := ?_) (a' := ?_) #[true, true, true, true, true, true, true, true, true, false] rfl rfl (any_of HT_.out (by kernel_rfl)) (fun _ _ _ h => h) (Or.inl ⟨by rfl, ?_⟩) ?_ ?_
                      rotate_left
                      · intro w'
                        go_simp
                        with_reducible rfl
                      rotate_left
                      · simp only [Act.put, List.setIfInBounds_toArray, List.set_cons_zero, List.set_cons_succ, i64_w, i32_w]
                        rfl
                      refine pure_ (i := 9) (N := some 15) (v := ?_) (a' := ?_) #[true, true, true, true, true, true, true, true, true, true] rfl rfl (any_of HT_.out (by kernel_rfl)) (fun _ _ _ h => h) (Or.inl ⟨by rfl, ?_⟩) ?_ ?_
                      rotate_left
                      · intro w'
                        go_simp
                        with_reducible rfl
                      rotate_left
                      · simp only [Act.put, List.setIfInBounds_toArray, List.set_cons_zero, List.set_cons_succ, i64_w, i32_w]
                        rfl
                      refine done_ (done_of HT_.out (by kernel_rfl)) ?_
                      go_upto_region 25 with (fail)
                      go_cut [95] (fun v95 wc => ∃ (kq : Nat) (x95_52 : Bool), v95 = .bool x95_52 ∧ Aside0 (laws_FnExactPoolAdd.j2 kq t243 t242 x95_52 = some r) ∧ Aside0 (kq ≤ kj33) ∧ Aside0 (Kd.R k45 45 wc w.heap.size (fun _ => True) (.slice Ao54 t230.length co54) t243) ∧ Aside0 (wc.heap[gb210]? = some (.cells #[.int .i64 a1_0, .int .i64 a1_1, .int .i64 a1_2, .int .i64 a1_3] 50 (0, 0))) ∧ Aside0 (Below w.heap.size w wc))
                      case first =>
                        have H := HC53.out
                        clear HC53
                        replace H := Option.bind_eq_some_iff.mp H
                        obtain ⟨t256, A610, H⟩ := H
                        replace H : (if t256 = true then (laws_FnExactPoolAdd.j2 kj33 t243 t242 (t255 != t222)) else (none)) = some r := H
                        have A61 := Aside0.mk A610
                        clear A610
                        by_cases c62 : t256 = true
                        · subst c62
                          have H1 : (laws_FnExactPoolAdd.j2 kj33 t243 t242 (t255 != t222)) = some r := by rw [if_pos rfl] at H; exact H
                          clear H
                          have H := H1
                          clear H1
                          have H' := Aside0.mk H
                          clear H
                          obtain ⟨Ao63, co63, eo63⟩ := Kd.R_slice HO254.out
                          subst eo63
                          obtain ⟨Ao64, co64, eo64⟩ := Kd.R_slice HO_6.out
                          subst eo64
                          go_wp2_with (first | ((with_reducible refine gate_callee (f := 30) rfl ?_); refine goesL_ (some 89) rfl rfl Try.func30 (by kernel_rfl) rfl #[.slice Ao63 t252.length co63, .slice Ao64 t219.length co64] rfl (by (try simp only [List.map_toArray, List.map_cons, List.map_nil]); first | done | rfl | (simp only [List.length_drop, List.length_take]; rfl)) ?_; (with_reducible refine (laws_eqTxS.calls kj33 _ _ t252 _ _ t219 true _ ?side1 ?side2 ?side3 ?side4 A61.out).mono ?_); (case side1 => repeat (first | exact (Kd.R_reads' HO254.out).2.2 | (with_reducible refine Kd.C_alloc ?_ _) | (with_reducible refine Kd.C_drewN ?_ _) | (with_reducible refine Kd.C_drew ?_))); (case side2 => exact (Kd.R_reads' HO254.out).2.1); (case side3 => repeat (first | exact (Kd.R_reads' HO_6.out).2.2 | (with_reducible refine Kd.C_alloc ?_ _) | (with_reducible refine Kd.C_drewN ?_ _) | (with_reducible refine Kd.C_drew ?_))); (case side4 => exact (Kd.R_reads' HO_6.out).2.1); rintro e w65 ⟨rfl, hb⟩; refine ⟨_, rfl, ?_⟩; have n0_ := Aside0.mk (Kd.R_below (by (with_reducible repeat (first | apply Kd.R_alloc | apply Kd.R_drewN | apply Kd.R_drew)); exact HO_6.out) hb); have n1_ := Aside0.mk (Kd.R_below (by (with_reducible repeat (first | apply Kd.R_alloc | apply Kd.R_drewN | apply Kd.R_drew)); exact HO_9.out) hb); have n2_ := Aside0.mk (Kd.R_below (by (with_reducible repeat (first | apply Kd.R_alloc | apply Kd.R_drewN | apply Kd.R_drew)); exact HO247.out) hb); have n3_ := Aside0.mk (Kd.R_below (by (with_reducible repeat (first | apply Kd.R_alloc | apply Kd.R_drewN | apply Kd.R_drew)); exact HO254.out) hb); have n4_ := Aside0.mk (blk_below (g := gb210) (o := .cells #[.int .i64 a1_0, .int .i64 a1_1, .int .i64 a1_2, .int .i64 a1_3] 50 (0, 0)) (by (with_reducible repeat (first | refine blk_drewN ?_ _ | refine blk_drew ?_ | refine blk_alloc ?_ _)); exact BK210.out) hb); have n5_ := Aside0.mk (below_step (by repeat (first | (with_reducible first | exact HB.out | apply below_alloc | apply pw_below_drewN | apply below_drew1 | refine below_set ?_ GE210.out) | exact HB.out)) hb); clear HO_6; clear HO_9; clear HO247; clear HO254; clear BK210; clear HB; have HO_6 := n0_; have HO_9 := n1_; have HO247 := n2_; have HO254 := n3_; have BK210 := n4_; have HB := n5_; clear n0_ n1_ n2_ n3_ n4_ n5_; (try clear hb); (try clear hb2); (try clear hk); (try clear hi)))
                          go_meet
                          case rel => exact ⟨_, ((t255 != t222)), (by first | rfl | (simp; done) | (simp [*]; done)), H', ⟨by have := HJ11.out; have := HJ33.out; first | omega | exact Nat.le_refl _⟩, ⟨by (with_reducible repeat (first | apply Kd.R_alloc | apply Kd.R_drewN | apply Kd.R_drew)); exact Kd.R_mono HO_9.out (fun _ hk => trivial)⟩, ⟨by (with_reducible repeat (first | refine blk_drewN ?_ _ | refine blk_drew ?_ | refine blk_alloc ?_ _)); exact BK210.out⟩, ⟨by repeat (first | (with_reducible first | exact HB.out | apply below_alloc | apply pw_below_drewN | apply below_drew1 | refine below_set ?_ GE210.out) | exact HB.out)⟩⟩
                        · replace c62 := Bool.eq_false_iff.mpr c62
                          subst c62
                          have H1 : (none) = some r := by rw [if_neg (show ¬ (false = true) by decide)] at H; exact H
                          clear H
                          have H := H1
                          clear H1
                          exact absurd H (by simp)
                      case rest =>
                        clear HC53
                        try clear c1
                        try clear c2
                        try clear p2
                        try clear c3
                        try clear c4
                        try clear c4b0
                        try clear c5
                        try clear c6
                        try clear c14
                        try clear c25
                        try clear c26
                        try clear c28
                        try clear c29
                        try clear c30
                        try clear c32
                        try clear c35
                        try clear c39
                        try clear c39b0
                        try clear c41
                        try clear c43
                        try clear c44
                        try clear c45
                        try clear c48
                        try clear c48b0
                        try clear c49
                        try clear c49b0
                        try clear c49b1
                        try clear c50
                        try clear c51
                        try clear c62
                        try clear hcz20_0
                        try clear hcz20_1
                        try clear hcz20_2
                        try clear hcz20_3
                        try clear hfz20_0
                        try clear hfz20_1
                        try clear hfz20_2
                        try clear hfz20_3
                        try clear p2
                        obtain ⟨kq, x95_52, rfl, HA, HJ52, HO_9, BK210, HB⟩ := hcut
                        have hl9_52 := (Kd.R_reads' HO_9.out).1
                        rw [hl9_52] at HO_9
                        (try simp only [hl9_52])
                        (try simp only [hl9_52] at BK210)
                        cases kq with
                        | zero => exact absurd HA.out (by simp [laws_FnExactPoolAdd.j2])
                        | succ kj52 =>
                          have H := HA.out
                          clear HA
                          simp only [laws_FnExactPoolAdd.j2] at H
                          by_cases c66 : x95_52 = true
                          · subst c66
                            have H1 : (some false) = some r := by rw [if_pos rfl] at H; exact H
                            clear H
                            have H := H1
                            clear H1
                            exact absurd ((Option.some.inj H).trans HRT.out) (by decide)
                          · replace c66 := Bool.eq_false_iff.mpr c66
                            subst c66
                            have H1 : ((laws_heldTxS.f kj52 t243 1).bind fun t257 => (if t257 < 0 then (some false) else (if t257 = t242 then (some true) else (some false)))) = some r := by rw [if_neg (show ¬ (false = true) by decide)] at H; exact H
                            clear H
                            have H := H1
                            clear H1
                            replace H := Option.bind_eq_some_iff.mp H
                            obtain ⟨t257, A670, H⟩ := H
                            replace H : (if t257 < 0 then (some false) else (if t257 = t242 then (some true) else (some false))) = some r := H
                            have A67 := Aside0.mk A670
                            clear A670
                            by_cases c68 : t257 < 0
                            · rw [if_pos c68] at H
                              have c68b0 : decide (t257 < 0) = true := decide_eq_true c68
                              clear c68
                              exact absurd ((Option.some.inj H).trans HRT.out) (by decide)
                            · rw [if_neg c68] at H
                              have c68b0 : decide (t257 < 0) = false := decide_eq_false c68
                              clear c68
                              by_cases c69 : t257 = t242
                              · rw [if_pos c69] at H
                                have c69b0 : (t257 == t242) = true := beq_iff_eq.mpr c69
                                have c69b1 : (t257 != t242) = false := bne_eq_false_iff_eq.mpr c69
                                clear c69
                                obtain rfl := Option.some.inj H
                                go_wp2_with (first | ((with_reducible refine gate_callee (f := 44) rfl ?_); refine goesL_ (some 98) rfl rfl Try.func44 (by kernel_rfl) rfl #[.slice Ao54 t243.length co54, .int .i64 1] rfl (by (try simp only [List.map_toArray, List.map_cons, List.map_nil]); first | done | rfl | (simp only [List.length_drop, List.length_take]; rfl)) ?_; (with_reducible refine (laws_heldTxS.calls kj52 _ _ t243 1 t257 _ ?side1 ?side2 A67.out).mono ?_); (case side1 => repeat (first | exact (Kd.R_reads' HO_9.out).2.2 | (with_reducible refine Kd.C_alloc ?_ _) | (with_reducible refine Kd.C_drewN ?_ _) | (with_reducible refine Kd.C_drew ?_))); (case side2 => exact (Kd.R_reads' HO_9.out).2.1); rintro e w' ⟨rfl, ⟨nd, rfl⟩⟩; refine ⟨_, rfl, ?_⟩))
                                go_ret
                                exact ⟨by first | rfl | (simp [errW_none, errW_some] <;> rfl) | (simp [*, errW_none, errW_some] <;> rfl), by repeat (first | (with_reducible first | exact HB.out | apply below_alloc | apply pw_below_drewN | apply below_drew1 | refine below_set ?_ GE210.out) | exact HB.out)⟩
                              · rw [if_neg c69] at H
                                have c69b0 : (t257 == t242) = false := beq_eq_false_iff_ne.mpr c69
                                have c69b1 : (t257 != t242) = true := bne_iff_ne.mpr c69
                                exact absurd ((Option.some.inj H).trans HRT.out) (by decide)
                    · rw [if_neg c49] at H
                      have c49b0 : (t244 == t242) = false := beq_eq_false_iff_ne.mpr c49
                      have c49b1 : (t244 != t242) = true := bne_iff_ne.mpr c49
                      exact absurd ((Option.some.inj H).trans HRT.out) (by decide)
          · replace c32 := Bool.eq_false_iff.mpr c32
            subst c32
            have H1 : (some false) = some r := by rw [if_neg (show ¬ (false = true) by decide)] at H; exact H
            clear H
            have H := H1
            clear H1
            exact absurd ((Option.some.inj H).trans HRT.out) (by decide)

end Go.Proofs.Ytajblkfgdalldaa.PFnExactPoolAdd
