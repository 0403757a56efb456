/- Walks of the functions that a law of seat YtnlakfbbbnkcpaaDoor reaches, each against a Lean function, printed by this session's wip/myprint.py; no condition of their own. -/
import Derived.Test.YtnlakfbbbnkcpaaDoorPFnPoolsx0
import Derived.Test.YtnlakfbbbnkcpaaDoorPFnPoolsx2
import Derived.Test.YtnlakfbbbnkcpaaDoorPFnPoolsx4
namespace Go.Proofs.YtnlakfbbbnkcpaaDoor.PFnPools
open Go.RowKit Go.Proofs.YtnlakfbbbnkcpaaDoorW.PrintWords Go.Proofs.YtnlakfbbbnkcpaaDoorW.PrintLast Go.Proofs.YtnlakfbbbnkcpaaDoorW.PrintMore
attribute [local go_sem] max2_int min2_int max_two min_two max_three min_three max_four min_four   -- for this text's walks alone
set_option linter.unusedVariables false
set_option linter.unusedSimpArgs false

/-! ### spec_l4DrawRight: function 38 -/
def spec_l4DrawRight.l0 : Nat → List (S26) → Int → List Int → Int → Int → Option ((List (S26)) × Int × Int)
  | 0, _, _, _, _, _ => none
  | k + 1, x3, x4, x1000, x1001, x1002 => (spec_l1Below.f x1000 x1001 x1002 9).bind fun bt247 => (if x4 < bt247.1 then ((spec_l2DrawRight.f x1000 bt247.2.1 bt247.2.2).bind fun bt250 => ((spec_PoolAdd.f k x3 bt250.1 bt250.2.1 bt250.2.2.1 bt250.2.2.2.1).bind fun bt256 => (spec_l4DrawRight.l0 k bt256.1 (wrap64 (x4 + 1)) x1000 bt250.2.2.2.2.1 bt250.2.2.2.2.2))) else (some (x3, bt247.2.1, bt247.2.2)))
def spec_l4DrawRight.f (k : Nat) (s0_0 : List Int) (s0_1 : Int) (s0_2 : Int) : Option ((List (S26)) × Int × Int) := spec_l4DrawRight.l0 k (([] : List (S26))) 0 s0_0 s0_1 s0_2
theorem spec_l4DrawRight.mono_l : ∀ k, (∀ y0 y1 y2 y3 y4, LeO (spec_l4DrawRight.l0 k y0 y1 y2 y3 y4) (spec_l4DrawRight.l0 (k + 1) y0 y1 y2 y3 y4))
  | 0 => fun _ _ _ _ _ r h => by simp [spec_l4DrawRight.l0] at h
  | k + 1 => by
    have ih0 := spec_l4DrawRight.mono_l k
    · intro y0 y1 y2 y3 y4
      unfold spec_l4DrawRight.l0
      repeat' first
      | (with_reducible exact ih0 _ _ _ _ _)
      | (with_reducible exact spec_PoolAdd.mono _ _ _ _ _ _)
      | (with_reducible exact LeO.refl _)
      | (with_reducible exact LeO.none _)
      | (with_reducible refine LeO.ite ?_ ?_)
      | (with_reducible refine LeO.bind ?_ (fun _ => ?_))
      | exact ih0 _ _ _ _ _
      | exact spec_PoolAdd.mono _ _ _ _ _ _
      | exact LeO.none _
      | refine LeO.ite ?_ ?_
      | refine LeO.bind ?_ (fun _ => ?_)
theorem spec_l4DrawRight.mono : ∀ a0 a1 a2 k, LeO (spec_l4DrawRight.f k a0 a1 a2) (spec_l4DrawRight.f (k + 1) a0 a1 a2) := by
  intro a0 a1 a2 k
  have ih0 := spec_l4DrawRight.mono_l k
  unfold spec_l4DrawRight.f
  repeat' first
      | (with_reducible exact ih0 _ _ _ _ _)
      | (with_reducible exact spec_PoolAdd.mono _ _ _ _ _ _)
      | (with_reducible exact LeO.refl _)
      | (with_reducible exact LeO.none _)
      | (with_reducible refine LeO.ite ?_ ?_)
      | (with_reducible refine LeO.bind ?_ (fun _ => ?_))
      | exact ih0 _ _ _ _ _
      | exact spec_PoolAdd.mono _ _ _ _ _ _
      | exact LeO.none _
      | refine LeO.ite ?_ ?_
      | refine LeO.bind ?_ (fun _ => ?_)
set_option maxHeartbeats 8000000 in
set_option maxRecDepth 100000 in
theorem spec_l4DrawRight.calls (k : Nat) (g : Nat) (s0_0 : List Int) (s0_1 : Int) (s0_2 : Int) (r1 : List (S26)) (r2 : Int) (r3 : Int) (w0 w : World) (hI : IsS59 w0 w g s0_0 s0_1 s0_2) (hB : Below w0.heap.size w0 w) (h : spec_l4DrawRight.f k s0_0 s0_1 s0_2 = some (r1, r2, r3)) :
    Calls Tryd.prog 38 #[.pointer (some ⟨g, 0, none⟩)] w fun e w' => ∃ v0_ : Value, e = .returned (v0_) ∧ Kd.R k26 26 w' w.heap.size (fun _ => True) v0_ r1 ∧ IsS59 w0 w' g s0_0 r2 r3 ∧ Below w0.heap.size w0 w' ∧ KeepBut w w' g none := by
  have HI0 := Aside0.mk hI
  have HK := Aside0.mk (KeepBut.refl w g none)
  have HL := Aside0.mk hB.size
  clear hI
  have HW0 := Aside0.mk hB.size
  have HB := Aside0.mk hB
  clear hB
  have H : (spec_l4DrawRight.l0 k (([] : List (S26))) 0 s0_0 s0_1 s0_2) = some (r1, r2, r3) := h
  clear h
  obtain ⟨y244, hy244⟩ : ∃ y_ : List (S26), y_ = (([] : List (S26))) := ⟨_, rfl⟩
  replace H : (spec_l4DrawRight.l0 k y244 0 s0_0 s0_1 s0_2) = some (r1, r2, r3) := by rw [hy244]; exact H
  have Ny244 := Aside0.mk hy244
  clear hy244
  have H' := Aside0.mk H
  clear H
  go_enter Tryd.func38, Tryd.ntmps38
  go_wp2_with (first | ((with_reducible refine gate_dst (N := 5) rfl ?_); refine Kd.R_lit k26 _ 26 ?hg (N := 5) ?hd (xs := ([] : List (S26))) (inner := []) (ok := fun _ => True) (okp := fun _ => True) ?hr ?hp (fun _ hk => hk) trivial (Below.refl _ _) (Nat.le_refl _) (by simp) ?_; (case hd => rfl); (case hg => rfl); (case hr => go_simp <;> rfl); (case hp => exact (Reps.none _ _)); intro v245 w2 ho3 hb hg_ hnew_; clear hg_ hnew_; rw [← Ny244.out] at ho3; have n0_ := Aside0.mk (Kd.R_lower ho3 (keep_size (w := w) (g := g) (row := none) (HK.out))); have n1_ := Aside0.mk (IsS59.below (HI0.out) hb); have n2_ := Aside0.mk (KeepBut.trans (HK.out) (KeepBut.of_below hb g none) (.inl rfl)); have n3_ := Aside0.mk (below_step (HB.out) hb); clear HI0; clear HK; clear HB; have HO246 := n0_; have HI0 := n1_; have HK := n2_; have HB := n3_; clear n0_ n1_ n2_ n3_; clear hb ho3))
  go_loopg [3, 4] k (fun kq v3 v4 w' => ∃ (x3_1 : List (S26)) (x4_1 : Int) (x1001_1 : Int) (x1002_1 : Int), v4 = .int .i64 x4_1 ∧ Aside0 (spec_l4DrawRight.l0 kq x3_1 x4_1 s0_0 x1001_1 x1002_1 = some (r1, r2, r3)) ∧ Aside0 (kq ≤ k) ∧ Aside0 (Kd.R k26 26 w' w.heap.size (fun _ => True) v3 x3_1) ∧ Aside0 (IsS59 w0 w' g s0_0 x1001_1 x1002_1) ∧ Aside0 (KeepBut w w' g none) ∧ Aside0 (Below w0.heap.size w0 w'))
  case atStart => exact ⟨(y244), (0), (s0_1), (s0_2), (by first | rfl | (simp; done) | (simp [*]; done)), H', ⟨Nat.le_refl _⟩, ⟨by exact HO246.out⟩, ⟨HI0.out⟩, ⟨HK.out⟩, ⟨HB.out⟩⟩
  case round =>
    clear H'
    try clear p2
    try clear c3
    obtain ⟨x3_1, x4_1, x1001_1, x1002_1, rfl, HA, HK1, HO_3, HI0, HK, HB⟩ := hrel
    cases gk with
    | zero => exact absurd HA.out (by simp [spec_l4DrawRight.l0])
    | succ k1 =>
      have H := HA.out
      clear HA
      simp only [spec_l4DrawRight.l0] at H
      replace H := Option.bind_eq_some_iff.mp H
      obtain ⟨⟨t247, t248, t249⟩, A40, H⟩ := H
      replace H : (if x4_1 < t247 then ((spec_l2DrawRight.f s0_0 t248 t249).bind fun bt250 => ((spec_PoolAdd.f k1 x3_1 bt250.1 bt250.2.1 bt250.2.2.1 bt250.2.2.2.1).bind fun bt256 => (spec_l4DrawRight.l0 k1 bt256.1 (wrap64 (x4_1 + 1)) s0_0 bt250.2.2.2.2.1 bt250.2.2.2.2.2))) else (some (x3_1, t248, t249))) = some (r1, r2, r3) := H
      have A4 := Aside0.mk A40
      clear A40
      by_cases c5 : x4_1 < t247
      · rw [if_pos c5] at H
        have c5b0 : decide (x4_1 < t247) = true := decide_eq_true c5
        clear c5
        replace H := Option.bind_eq_some_iff.mp H
        obtain ⟨⟨t250, t251, t252, t253, t254, t255⟩, A60, H⟩ := H
        replace H : ((spec_PoolAdd.f k1 x3_1 t250 t251 t252 t253).bind fun bt256 => (spec_l4DrawRight.l0 k1 bt256.1 (wrap64 (x4_1 + 1)) s0_0 t254 t255)) = some (r1, r2, r3) := H
        have A6 := Aside0.mk A60
        clear A60
        replace H := Option.bind_eq_some_iff.mp H
        obtain ⟨⟨t256, t259⟩, A70, H⟩ := H
        replace H : (spec_l4DrawRight.l0 k1 t256 (wrap64 (x4_1 + 1)) s0_0 t254 t255) = some (r1, r2, r3) := H
        have A7 := Aside0.mk A70
        clear A70
        have H' := Aside0.mk H
        clear H
        go_wp2_with (first | ((with_reducible refine gate_callee (f := 39) rfl ?_); refine goesL_ (some 8) rfl rfl Tryd.func39 (by kernel_rfl) rfl #[.pointer (some ⟨g, 0, none⟩), .int .i64 9] rfl (by (try simp only [mp]); first | done | rfl) ?_; (with_reducible refine (spec_l1Below.calls g s0_0 x1001_1 x1002_1 9 t247 t248 t249 w0 _ ?side1 ?side2 A4.out).mono ?_); (case side1 => exact HI0.out); (case side2 => exact HB.out); rintro e w8 ⟨rfl, hi, hb, hk⟩; refine ⟨_, rfl, ?_⟩; have n0_ := Aside0.mk (Kd.R_mono (Kd.R_keep (IsS59.apart (show IsS59 w0 _ g s0_0 x1001_1 x1002_1 from HI0.out) (by exact HO_3.out) (by decide)) hk (fun _ h => h.2)) (fun _ h => h.1)); have n1_ := Aside0.mk (KeepBut.trans (HK.out) hk (.inl rfl)); have n2_ := Aside0.mk (hb); have n3_ := Aside0.mk (hi); clear HO_3; clear HK; clear HB; clear HI0; have HO_3 := n0_; have HK := n1_; have HB := n2_; have HI0 := n3_; clear n0_ n1_ n2_ n3_; (try clear hb); (try clear hb2); (try clear hk); (try clear hi)) | ((with_reducible refine gate_callee (f := 40) rfl ?_); refine goesL_ (some 15) rfl rfl Tryd.func40 (by kernel_rfl) rfl #[.pointer (some ⟨g, 0, none⟩)] rfl (by (try simp only [mp]); first | done | rfl) ?_; (with_reducible refine (spec_l2DrawRight.calls g s0_0 t248 t249 t250 t251 t252 t253 t254 t255 w0 _ ?side1 ?side2 A6.out).mono ?_); (case side1 => exact HI0.out); (case side2 => exact HB.out); rintro e w9 ⟨rfl, hi, hb, hk⟩; refine ⟨_, rfl, ?_⟩; have n0_ := Aside0.mk (Kd.R_mono (Kd.R_keep (IsS59.apart (show IsS59 w0 _ g s0_0 t248 t249 from HI0.out) (by exact HO_3.out) (by decide)) hk (fun _ h => h.2)) (fun _ h => h.1)); have n1_ := Aside0.mk (KeepBut.trans (HK.out) hk (.inl rfl)); have n2_ := Aside0.mk (hb); have n3_ := Aside0.mk (hi); clear HO_3; clear HK; clear HB; clear HI0; have HO_3 := n0_; have HK := n1_; have HB := n2_; have HI0 := n3_; clear n0_ n1_ n2_ n3_; (try clear hb); (try clear hb2); (try clear hk); (try clear hi); obtain ⟨Ao10, co10, eo10⟩ := Kd.R_slice HO_3.out; subst eo10) | ((with_reducible refine gate_callee (f := 7) rfl ?_); refine goesL_ (some 16) rfl rfl Tryd.func7 (by kernel_rfl) rfl #[.slice Ao10 x3_1.length co10, .agg #[.int .i64 t250, .int .i64 t251, .int .i64 t252, .int .i64 t253]] rfl (by (try simp only [mp]); first | done | rfl) ?_; (with_reducible refine (spec_PoolAdd.calls k1 _ _ x3_1 t250 t251 t252 t253 t256 t259 _ ?side1 ?side2 A7.out).mono ?_); (case side1 => exact (Kd.R_reads' HO_3.out).2.2); (case side2 => exact (Kd.R_reads' HO_3.out).2.1); rintro e w11 ⟨v257, rfl, ho0, hb⟩; refine ⟨_, rfl, ?_⟩; have n0_ := Aside0.mk (Kd.R_elder' (by exact HO_3.out) (Kd.R_base ho0) hb); have n1_ := Aside0.mk (Kd.R_lower (Kd.R_new' ho0 (Kd.R_lt (by exact HO_3.out))) (keep_size (w := w) (g := g) (row := none) (HK.out))); have n2_ := Aside0.mk (IsS59.below (HI0.out) hb); have n3_ := Aside0.mk (KeepBut.trans (HK.out) (KeepBut.of_below hb g none) (.inl rfl)); have n4_ := Aside0.mk (below_step (HB.out) hb); clear HO_3; clear HI0; clear HK; clear HB; have HO_3 := n0_; have HO258 := n1_; have HI0 := n2_; have HK := n3_; have HB := n4_; clear n0_ n1_ n2_ n3_ n4_; (try clear hb); (try clear hb2); (try clear hk); (try clear hi); (try clear ho0)))
        go_roundg k1
        case measure => have := HK1.out; omega
        case rel => exact ⟨(t256), (wrap64 (x4_1 + 1)), (t254), (t255), (by first | rfl | (simp; done) | (simp [*]; done)), H', ⟨by have := HK1.out; omega⟩, ⟨by exact Kd.R_mono HO258.out (fun _ hk => trivial)⟩, ⟨HI0.out⟩, ⟨HK.out⟩, ⟨HB.out⟩⟩
      · rw [if_neg c5] at H
        have c5b0 : decide (x4_1 < t247) = false := decide_eq_false c5
        clear c5
        simp only [Option.some.injEq, Prod.mk.injEq] at H
        obtain ⟨rfl, rfl, rfl⟩ := H
        go_wp2_with (first | ((with_reducible refine gate_callee (f := 39) rfl ?_); refine goesL_ (some 8) rfl rfl Tryd.func39 (by kernel_rfl) rfl #[.pointer (some ⟨g, 0, none⟩), .int .i64 9] rfl (by (try simp only [mp]); first | done | rfl) ?_; (with_reducible refine (spec_l1Below.calls g s0_0 x1001_1 x1002_1 9 t247 t248 t249 w0 _ ?side1 ?side2 A4.out).mono ?_); (case side1 => exact HI0.out); (case side2 => exact HB.out); rintro e w12 ⟨rfl, hi, hb, hk⟩; refine ⟨_, rfl, ?_⟩; have n0_ := Aside0.mk (Kd.R_mono (Kd.R_keep (IsS59.apart (show IsS59 w0 _ g s0_0 x1001_1 x1002_1 from HI0.out) (by exact HO_3.out) (by decide)) hk (fun _ h => h.2)) (fun _ h => h.1)); have n1_ := Aside0.mk (KeepBut.trans (HK.out) hk (.inl rfl)); have n2_ := Aside0.mk (hb); have n3_ := Aside0.mk (hi); clear HO_3; clear HK; clear HB; clear HI0; have HO_3 := n0_; have HK := n1_; have HB := n2_; have HI0 := n3_; clear n0_ n1_ n2_ n3_; (try clear hb); (try clear hb2); (try clear hk); (try clear hi)))
        go_ret
        exact ⟨_, rfl, by exact HO_3.out, HI0.out, HB.out, HK.out⟩

/-! ### spec_l4Draw: function 20 -/
mutual
def spec_l4Draw.l0 : Nat → List (S26) → Int → List Int → Int → Int → Option ((List (S26)) × Int × Int)
  | 0, _, _, _, _, _ => none
  | k + 1, x3, x4, x1000, x1001, x1002 => if x4 < 4 then (spec_l4Draw.l1 k x3 x4 0 x1000 x1001 x1002) else (some (x3, x1001, x1002))
def spec_l4Draw.l1 : Nat → List (S26) → Int → Int → List Int → Int → Int → Option ((List (S26)) × Int × Int)
  | 0, _, _, _, _, _, _ => none
  | k + 1, x3, x4, x5, x1000, x1001, x1002 => if x5 < 4 then ((spec_PoolAdd.f k x3 x4 0 0 x5).bind fun bt277 => (spec_l4Draw.l1 k bt277.1 x4 (wrap64 (x5 + 1)) x1000 x1001 x1002)) else (spec_l4Draw.l0 k x3 (wrap64 (x4 + 1)) x1000 x1001 x1002)
end
def spec_l4Draw.f (k : Nat) (s0_0 : List Int) (s0_1 : Int) (s0_2 : Int) : Option ((List (S26)) × Int × Int) := (spec_l4DrawRight.f k s0_0 s0_1 s0_2).bind fun bt260 => ((spec_l1Below.f s0_0 bt260.2.1 bt260.2.2 8).bind fun bt265 => (if bt265.1 = 0 then ((spec_l2Draw.f s0_0 bt265.2.1 bt265.2.2).bind fun bt268 => (if bt260.1.length < 4398046511104 then (some ((bt260.1 ++ [(⟨bt268.1, bt268.2.1, bt268.2.2.1, bt268.2.2.2.1⟩ : S26)]), bt268.2.2.2.2.1, bt268.2.2.2.2.2)) else (none))) else (if bt265.1 = 1 then (spec_l4Draw.l0 k bt260.1 0 s0_0 bt265.2.1 bt265.2.2) else (some (bt260.1, bt265.2.1, bt265.2.2)))))
theorem spec_l4Draw.mono_l : ∀ k, (∀ y0 y1 y2 y3 y4, LeO (spec_l4Draw.l0 k y0 y1 y2 y3 y4) (spec_l4Draw.l0 (k + 1) y0 y1 y2 y3 y4)) ∧ (∀ y0 y1 y2 y3 y4 y5, LeO (spec_l4Draw.l1 k y0 y1 y2 y3 y4 y5) (spec_l4Draw.l1 (k + 1) y0 y1 y2 y3 y4 y5))
  | 0 => ⟨fun _ _ _ _ _ r h => by simp [spec_l4Draw.l0] at h, fun _ _ _ _ _ _ r h => by simp [spec_l4Draw.l1] at h⟩
  | k + 1 => by
    obtain ⟨ih0, ih1⟩ := spec_l4Draw.mono_l k
    refine ⟨?_, ?_⟩
    · intro y0 y1 y2 y3 y4
      unfold spec_l4Draw.l0
      repeat' first
      | (with_reducible exact ih0 _ _ _ _ _)
      | (with_reducible exact ih1 _ _ _ _ _ _)
      | (with_reducible exact spec_PoolAdd.mono _ _ _ _ _ _)
      | (with_reducible exact spec_l4DrawRight.mono _ _ _ _)
      | (with_reducible exact LeO.refl _)
      | (with_reducible exact LeO.none _)
      | (with_reducible refine LeO.ite ?_ ?_)
      | (with_reducible refine LeO.bind ?_ (fun _ => ?_))
      | exact ih0 _ _ _ _ _
      | exact ih1 _ _ _ _ _ _
      | exact spec_PoolAdd.mono _ _ _ _ _ _
      | exact spec_l4DrawRight.mono _ _ _ _
      | exact LeO.none _
      | refine LeO.ite ?_ ?_
      | refine LeO.bind ?_ (fun _ => ?_)
    · intro y0 y1 y2 y3 y4 y5
      unfold spec_l4Draw.l1
      repeat' first
      | (with_reducible exact ih0 _ _ _ _ _)
      | (with_reducible exact ih1 _ _ _ _ _ _)
      | (with_reducible exact spec_PoolAdd.mono _ _ _ _ _ _)
      | (with_reducible exact spec_l4DrawRight.mono _ _ _ _)
      | (with_reducible exact LeO.refl _)
      | (with_reducible exact LeO.none _)
      | (with_reducible refine LeO.ite ?_ ?_)
      | (with_reducible refine LeO.bind ?_ (fun _ => ?_))
      | exact ih0 _ _ _ _ _
      | exact ih1 _ _ _ _ _ _
      | exact spec_PoolAdd.mono _ _ _ _ _ _
      | exact spec_l4DrawRight.mono _ _ _ _
      | exact LeO.none _
      | refine LeO.ite ?_ ?_
      | refine LeO.bind ?_ (fun _ => ?_)
theorem spec_l4Draw.mono : ∀ a0 a1 a2 k, LeO (spec_l4Draw.f k a0 a1 a2) (spec_l4Draw.f (k + 1) a0 a1 a2) := by
  intro a0 a1 a2 k
  obtain ⟨ih0, ih1⟩ := spec_l4Draw.mono_l k
  unfold spec_l4Draw.f
  repeat' first
      | (with_reducible exact ih0 _ _ _ _ _)
      | (with_reducible exact ih1 _ _ _ _ _ _)
      | (with_reducible exact spec_PoolAdd.mono _ _ _ _ _ _)
      | (with_reducible exact spec_l4DrawRight.mono _ _ _ _)
      | (with_reducible exact LeO.refl _)
      | (with_reducible exact LeO.none _)
      | (with_reducible refine LeO.ite ?_ ?_)
      | (with_reducible refine LeO.bind ?_ (fun _ => ?_))
      | exact ih0 _ _ _ _ _
      | exact ih1 _ _ _ _ _ _
      | exact spec_PoolAdd.mono _ _ _ _ _ _
      | exact spec_l4DrawRight.mono _ _ _ _
      | exact LeO.none _
      | refine LeO.ite ?_ ?_
      | refine LeO.bind ?_ (fun _ => ?_)
set_option maxHeartbeats 8000000 in
set_option maxRecDepth 100000 in
theorem spec_l4Draw.calls (k : Nat) (g : Nat) (s0_0 : List Int) (s0_1 : Int) (s0_2 : Int) (r1 : List (S26)) (r2 : Int) (r3 : Int) (w0 w : World) (hI : IsS59 w0 w g s0_0 s0_1 s0_2) (hB : Below w0.heap.size w0 w) (h : spec_l4Draw.f k s0_0 s0_1 s0_2 = some (r1, r2, r3)) :
    Calls Tryd.prog 20 #[.pointer (some ⟨g, 0, none⟩)] w fun e w' => ∃ v0_ : Value, e = .returned (v0_) ∧ Kd.R k26 26 w' w.heap.size (fun _ => True) v0_ r1 ∧ IsS59 w0 w' g s0_0 r2 r3 ∧ Below w0.heap.size w0 w' ∧ KeepBut w w' g none := by
  have hu26 := Tryd.underlying26
  have HI0 := Aside0.mk hI
  have HK := Aside0.mk (KeepBut.refl w g none)
  have HL := Aside0.mk hB.size
  clear hI
  have HW0 := Aside0.mk hB.size
  have HB := Aside0.mk hB
  clear hB
  have H : ((spec_l4DrawRight.f k s0_0 s0_1 s0_2).bind fun bt260 => ((spec_l1Below.f s0_0 bt260.2.1 bt260.2.2 8).bind fun bt265 => (if bt265.1 = 0 then ((spec_l2Draw.f s0_0 bt265.2.1 bt265.2.2).bind fun bt268 => (if bt260.1.length < 4398046511104 then (some ((bt260.1 ++ [(⟨bt268.1, bt268.2.1, bt268.2.2.1, bt268.2.2.2.1⟩ : S26)]), bt268.2.2.2.2.1, bt268.2.2.2.2.2)) else (none))) else (if bt265.1 = 1 then (spec_l4Draw.l0 k bt260.1 0 s0_0 bt265.2.1 bt265.2.2) else (some (bt260.1, bt265.2.1, bt265.2.2)))))) = some (r1, r2, r3) := h
  clear h
  replace H := Option.bind_eq_some_iff.mp H
  obtain ⟨⟨t260, t263, t264⟩, A20, H⟩ := H
  replace H : ((spec_l1Below.f s0_0 t263 t264 8).bind fun bt265 => (if bt265.1 = 0 then ((spec_l2Draw.f s0_0 bt265.2.1 bt265.2.2).bind fun bt268 => (if t260.length < 4398046511104 then (some ((t260 ++ [(⟨bt268.1, bt268.2.1, bt268.2.2.1, bt268.2.2.2.1⟩ : S26)]), bt268.2.2.2.2.1, bt268.2.2.2.2.2)) else (none))) else (if bt265.1 = 1 then (spec_l4Draw.l0 k t260 0 s0_0 bt265.2.1 bt265.2.2) else (some (t260, bt265.2.1, bt265.2.2))))) = some (r1, r2, r3) := H
  have A2 := Aside0.mk A20
  clear A20
  replace H := Option.bind_eq_some_iff.mp H
  obtain ⟨⟨t265, t266, t267⟩, A30, H⟩ := H
  replace H : (if t265 = 0 then ((spec_l2Draw.f s0_0 t266 t267).bind fun bt268 => (if t260.length < 4398046511104 then (some ((t260 ++ [(⟨bt268.1, bt268.2.1, bt268.2.2.1, bt268.2.2.2.1⟩ : S26)]), bt268.2.2.2.2.1, bt268.2.2.2.2.2)) else (none))) else (if t265 = 1 then (spec_l4Draw.l0 k t260 0 s0_0 t266 t267) else (some (t260, t266, t267)))) = some (r1, r2, r3) := H
  have A3 := Aside0.mk A30
  clear A30
  by_cases c4 : t265 = 0
  · rw [if_pos c4] at H
    have c4b0 : (t265 == 0) = true := beq_iff_eq.mpr c4
    have c4b1 : (t265 != 0) = false := bne_eq_false_iff_eq.mpr c4
    clear c4
    replace H := Option.bind_eq_some_iff.mp H
    obtain ⟨⟨t268, t269, t270, t271, t272, t273⟩, A50, H⟩ := H
    replace H : (if t260.length < 4398046511104 then (some ((t260 ++ [(⟨t268, t269, t270, t271⟩ : S26)]), t272, t273)) else (none)) = some (r1, r2, r3) := H
    have A5 := Aside0.mk A50
    clear A50
    by_cases c6 : t260.length < 4398046511104
    · rw [if_pos c6] at H
      have LMc6 := Aside0.mk c6
      clear c6
      obtain ⟨y274, hy274⟩ : ∃ y_ : List (S26), y_ = (t260 ++ [(⟨t268, t269, t270, t271⟩ : S26)]) := ⟨_, rfl⟩
      replace H : (some (y274, t272, t273)) = some (r1, r2, r3) := by rw [hy274]; exact H
      have Ny274 := Aside0.mk hy274
      clear hy274
      simp only [Option.some.injEq, Prod.mk.injEq] at H
      obtain ⟨rfl, rfl, rfl⟩ := H
      go_enter Tryd.func20, Tryd.ntmps20
      go_wp2_with (first | ((with_reducible refine gate_callee (f := 38) rfl ?_); refine goesL_ (some 7) rfl rfl Tryd.func38 (by kernel_rfl) rfl #[.pointer (some ⟨g, 0, none⟩)] rfl (by (try simp only [mp]); first | done | rfl) ?_; (with_reducible refine (spec_l4DrawRight.calls k g s0_0 s0_1 s0_2 t260 t263 t264 w0 _ ?side1 ?side2 A2.out).mono ?_); (case side1 => exact HI0.out); (case side2 => exact HB.out); rintro e w7 ⟨v261, rfl, ho0, hi, hb, hk⟩; refine ⟨_, rfl, ?_⟩; have n0_ := Aside0.mk (Kd.R_lower ho0 (keep_size (w := w) (g := g) (row := none) (HK.out))); have n1_ := Aside0.mk (KeepBut.trans (HK.out) hk (.inl rfl)); have n2_ := Aside0.mk (hb); have n3_ := Aside0.mk (hi); clear HK; clear HB; clear HI0; have HO262 := n0_; have HK := n1_; have HB := n2_; have HI0 := n3_; clear n0_ n1_ n2_ n3_; (try clear hb); (try clear hb2); (try clear hk); (try clear hi); (try clear ho0)) | ((with_reducible refine gate_callee (f := 39) rfl ?_); refine goesL_ (some 9) rfl rfl Tryd.func39 (by kernel_rfl) rfl #[.pointer (some ⟨g, 0, none⟩), .int .i64 8] rfl (by (try simp only [mp]); first | done | rfl) ?_; (with_reducible refine (spec_l1Below.calls g s0_0 t263 t264 8 t265 t266 t267 w0 _ ?side1 ?side2 A3.out).mono ?_); (case side1 => exact HI0.out); (case side2 => exact HB.out); rintro e w8 ⟨rfl, hi, hb, hk⟩; refine ⟨_, rfl, ?_⟩; have n0_ := Aside0.mk (Kd.R_mono (Kd.R_keep (IsS59.apart (show IsS59 w0 _ g s0_0 t263 t264 from HI0.out) (by exact HO262.out) (by decide)) hk (fun _ h => h.2)) (fun _ h => h.1)); have n1_ := Aside0.mk (KeepBut.trans (HK.out) hk (.inl rfl)); have n2_ := Aside0.mk (hb); have n3_ := Aside0.mk (hi); clear HO262; clear HK; clear HB; clear HI0; have HO262 := n0_; have HK := n1_; have HB := n2_; have HI0 := n3_; clear n0_ n1_ n2_ n3_; (try clear hb); (try clear hb2); (try clear hk); (try clear hi)) | ((with_reducible refine gate_callee (f := 21) rfl ?_); refine goesL_ (some 14) rfl rfl Tryd.func21 (by kernel_rfl) rfl #[.pointer (some ⟨g, 0, none⟩)] rfl (by (try simp only [mp]); first | done | rfl) ?_; (with_reducible refine (spec_l2Draw.calls g s0_0 t266 t267 t268 t269 t270 t271 t272 t273 w0 _ ?side1 ?side2 A5.out).mono ?_); (case side1 => exact HI0.out); (case side2 => exact HB.out); rintro e w9 ⟨rfl, hi, hb, hk⟩; refine ⟨_, rfl, ?_⟩; have n0_ := Aside0.mk (Kd.R_mono (Kd.R_keep (IsS59.apart (show IsS59 w0 _ g s0_0 t266 t267 from HI0.out) (by exact HO262.out) (by decide)) hk (fun _ h => h.2)) (fun _ h => h.1)); have n1_ := Aside0.mk (KeepBut.trans (HK.out) hk (.inl rfl)); have n2_ := Aside0.mk (hb); have n3_ := Aside0.mk (hi); clear HO262; clear HK; clear HB; clear HI0; have HO262 := n0_; have HK := n1_; have HB := n2_; have HI0 := n3_; clear n0_ n1_ n2_ n3_; (try clear hb); (try clear hb2); (try clear hk); (try clear hi)) | ((with_reducible refine gate_builtin (b := .append) (xs := #[.tmp 12, .tmp 15]) rfl ?_); at_builtin; refine Kd.R_append k26 w.heap.size rfl (.tmp 12) (.tmp 15) 24 26 (.agg #[(.int .i64 0), (.int .i64 0), (.int .i64 0), (.int .i64 0)]) 32 rfl Tryd.underlying24 info26 rfl (by decide) (by omega) v261 t260 (⟨t268, t269, t270, t271⟩ : S26) [.int .i64 t268, .int .i64 t269, .int .i64 t270, .int .i64 t271] (fun _ => True) (fun _ => False) rfl rfl ?aP (fun _ hk => hk.elim) ?aF ?aO (Below.refl _ _) ?aS ?aL ?_; (case aP => exact k26_mkM _ _ _ (⟨t268, t269, t270, t271⟩ : S26)); (case aF => exact (fun _ _ => trivial)); (case aO => exact (by exact HO262.out)); (case aS => exact (keep_size (w := w) (g := g) (row := none) (HK.out))); (case aL => have := LMc6.out; omega); intro v275 w10 ho hb hg hat; rw [← Ny274.out] at ho; have n0_ := Aside0.mk (IsS59.grown (HI0.out) hg (IsS59.own_ne HI0.out HO262.out (by decide))); have n1_ := Aside0.mk (below_weaken (HB.out) HL.out hb); have n2_ := Aside0.mk (KeepBut.trans (HK.out) (KeepBut.of_grown hg g) (Kd.R_base2 HO262.out)); have n3_ := Aside0.mk (ho); clear HI0; clear HB; clear HK; clear HO262; have HI0 := n0_; have HB := n1_; have HK := n2_; have HO276 := n3_; clear n0_ n1_ n2_ n3_; clear ho hb hg hat))
      go_ret
      exact ⟨_, rfl, by exact HO276.out, HI0.out, HB.out, HK.out⟩
    · rw [if_neg c6] at H
      exact absurd H (by simp)
  · rw [if_neg c4] at H
    have c4b0 : (t265 == 0) = false := beq_eq_false_iff_ne.mpr c4
    have c4b1 : (t265 != 0) = true := bne_iff_ne.mpr c4
    by_cases c11 : t265 = 1
    · rw [if_pos c11] at H
      have c11b0 : (t265 == 1) = true := beq_iff_eq.mpr c11
      have c11b1 : (t265 != 1) = false := bne_eq_false_iff_eq.mpr c11
      clear c11
      have H' := Aside0.mk H
      clear H
      go_enter Tryd.func20, Tryd.ntmps20
      go_wp2_with (first | ((with_reducible refine gate_callee (f := 38) rfl ?_); refine goesL_ (some 7) rfl rfl Tryd.func38 (by kernel_rfl) rfl #[.pointer (some ⟨g, 0, none⟩)] rfl (by (try simp only [mp]); first | done | rfl) ?_; (with_reducible refine (spec_l4DrawRight.calls k g s0_0 s0_1 s0_2 t260 t263 t264 w0 _ ?side1 ?side2 A2.out).mono ?_); (case side1 => exact HI0.out); (case side2 => exact HB.out); rintro e w12 ⟨v261, rfl, ho0, hi, hb, hk⟩; refine ⟨_, rfl, ?_⟩; have n0_ := Aside0.mk (Kd.R_lower ho0 (keep_size (w := w) (g := g) (row := none) (HK.out))); have n1_ := Aside0.mk (KeepBut.trans (HK.out) hk (.inl rfl)); have n2_ := Aside0.mk (hb); have n3_ := Aside0.mk (hi); clear HK; clear HB; clear HI0; have HO262 := n0_; have HK := n1_; have HB := n2_; have HI0 := n3_; clear n0_ n1_ n2_ n3_; (try clear hb); (try clear hb2); (try clear hk); (try clear hi); (try clear ho0)) | ((with_reducible refine gate_callee (f := 39) rfl ?_); refine goesL_ (some 9) rfl rfl Tryd.func39 (by kernel_rfl) rfl #[.pointer (some ⟨g, 0, none⟩), .int .i64 8] rfl (by (try simp only [mp]); first | done | rfl) ?_; (with_reducible refine (spec_l1Below.calls g s0_0 t263 t264 8 t265 t266 t267 w0 _ ?side1 ?side2 A3.out).mono ?_); (case side1 => exact HI0.out); (case side2 => exact HB.out); rintro e w13 ⟨rfl, hi, hb, hk⟩; refine ⟨_, rfl, ?_⟩; have n0_ := Aside0.mk (Kd.R_mono (Kd.R_keep (IsS59.apart (show IsS59 w0 _ g s0_0 t263 t264 from HI0.out) (by exact HO262.out) (by decide)) hk (fun _ h => h.2)) (fun _ h => h.1)); have n1_ := Aside0.mk (KeepBut.trans (HK.out) hk (.inl rfl)); have n2_ := Aside0.mk (hb); have n3_ := Aside0.mk (hi); clear HO262; clear HK; clear HB; clear HI0; have HO262 := n0_; have HK := n1_; have HB := n2_; have HI0 := n3_; clear n0_ n1_ n2_ n3_; (try clear hb); (try clear hb2); (try clear hk); (try clear hi)))
      go_loopg [3, 4] k (fun kq v3 v4 w' => ∃ (x3_1 : List (S26)) (x4_1 : Int), v4 = .int .i64 x4_1 ∧ Aside0 (spec_l4Draw.l0 kq x3_1 x4_1 s0_0 t266 t267 = some (r1, r2, r3)) ∧ Aside0 (kq ≤ k) ∧ Aside0 (Kd.R k26 26 w' w.heap.size (fun _ => True) v3 x3_1) ∧ Aside0 (IsS59 w0 w' g s0_0 t266 t267) ∧ Aside0 (KeepBut w w' g none) ∧ Aside0 (Below w0.heap.size w0 w'))
      case atStart => exact ⟨(t260), (0), (by first | rfl | (simp; done) | (simp [*]; done)), H', ⟨Nat.le_refl _⟩, ⟨by exact HO262.out⟩, ⟨HI0.out⟩, ⟨HK.out⟩, ⟨HB.out⟩⟩
      case round =>
        clear H'
        try clear c1
        try clear c2
        try clear p2
        try clear c3
        try clear c4
        try clear c4b0
        try clear c4b1
        try clear c6
        try clear c11
        try clear c11b0
        try clear c11b1
        obtain ⟨x3_1, x4_1, rfl, HA, HK1, HO_3, HI0, HK, HB⟩ := hrel
        cases gk with
        | zero => exact absurd HA.out (by simp [spec_l4Draw.l0])
        | succ k1 =>
          have H := HA.out
          clear HA
          simp only [spec_l4Draw.l0] at H
          by_cases c14 : x4_1 < 4
          · rw [if_pos c14] at H
            have c14b0 : decide (x4_1 < 4) = true := decide_eq_true c14
            clear c14
            have H' := Aside0.mk H
            clear H
            go_wp2
            go_loopg [3, 5] k1 (fun kq v3 v5 w' => ∃ (x3_2 : List (S26)) (x5_2 : Int), v5 = .int .i64 x5_2 ∧ Aside0 (spec_l4Draw.l1 kq x3_2 x4_1 x5_2 s0_0 t266 t267 = some (r1, r2, r3)) ∧ Aside0 (kq ≤ k1) ∧ Aside0 (Kd.R k26 26 w' w.heap.size (fun _ => True) v3 x3_2) ∧ Aside0 (IsS59 w0 w' g s0_0 t266 t267) ∧ Aside0 (KeepBut w w' g none) ∧ Aside0 (Below w0.heap.size w0 w'))
            case atStart => exact ⟨(x3_1), (0), (by first | rfl | (simp; done) | (simp [*]; done)), H', ⟨Nat.le_refl _⟩, ⟨by exact HO_3.out⟩, ⟨HI0.out⟩, ⟨HK.out⟩, ⟨HB.out⟩⟩
            case round =>
              clear H'
              try clear c1
              try clear c2
              try clear p2
              try clear c3
              try clear c4
              try clear c4b0
              try clear c4b1
              try clear c6
              try clear c11
              try clear c11b0
              try clear c11b1
              try clear c14
              try clear c14b0
              try clear p2
              obtain ⟨x3_2, x5_2, rfl, HA, HK2, HO_3, HI0, HK, HB⟩ := hrel
              cases gk with
              | zero => exact absurd HA.out (by simp [spec_l4Draw.l1])
              | succ k2 =>
                have H := HA.out
                clear HA
                simp only [spec_l4Draw.l1] at H
                by_cases c15 : x5_2 < 4
                · rw [if_pos c15] at H
                  have c15b0 : decide (x5_2 < 4) = true := decide_eq_true c15
                  clear c15
                  replace H := Option.bind_eq_some_iff.mp H
                  obtain ⟨⟨t277, t280⟩, A160, H⟩ := H
                  replace H : (spec_l4Draw.l1 k2 t277 x4_1 (wrap64 (x5_2 + 1)) s0_0 t266 t267) = some (r1, r2, r3) := H
                  have A16 := Aside0.mk A160
                  clear A160
                  have H' := Aside0.mk H
                  clear H
                  obtain ⟨Ao17, co17, eo17⟩ := Kd.R_slice HO_3.out
                  subst eo17
                  go_wp2_with (first | ((with_reducible refine gate_callee (f := 7) rfl ?_); refine goesL_ (some 32) rfl rfl Tryd.func7 (by kernel_rfl) rfl #[.slice Ao17 x3_2.length co17, .agg #[.int .i64 x4_1, .int .i64 0, .int .i64 0, .int .i64 x5_2]] rfl (by (try simp only [mp]); first | done | rfl) ?_; (with_reducible refine (spec_PoolAdd.calls k2 _ _ x3_2 x4_1 0 0 x5_2 t277 t280 _ ?side1 ?side2 A16.out).mono ?_); (case side1 => exact (Kd.R_reads' HO_3.out).2.2); (case side2 => exact (Kd.R_reads' HO_3.out).2.1); rintro e w18 ⟨v278, rfl, ho0, hb⟩; refine ⟨_, rfl, ?_⟩; have n0_ := Aside0.mk (Kd.R_elder' (by exact HO_3.out) (Kd.R_base ho0) hb); have n1_ := Aside0.mk (Kd.R_lower (Kd.R_new' ho0 (Kd.R_lt (by exact HO_3.out))) (keep_size (w := w) (g := g) (row := none) (HK.out))); have n2_ := Aside0.mk (IsS59.below (HI0.out) hb); have n3_ := Aside0.mk (KeepBut.trans (HK.out) (KeepBut.of_below hb g none) (.inl rfl)); have n4_ := Aside0.mk (below_step (HB.out) hb); clear HO_3; clear HI0; clear HK; clear HB; have HO_3 := n0_; have HO279 := n1_; have HI0 := n2_; have HK := n3_; have HB := n4_; clear n0_ n1_ n2_ n3_ n4_; (try clear hb); (try clear hb2); (try clear hk); (try clear hi); (try clear ho0)))
                  go_roundg k2
                  case measure => have := HK1.out; have := HK2.out; omega
                  case rel => exact ⟨(t277), (wrap64 (x5_2 + 1)), (by first | rfl | (simp; done) | (simp [*]; done)), H', ⟨by have := HK1.out; have := HK2.out; omega⟩, ⟨by exact Kd.R_mono HO279.out (fun _ hk => trivial)⟩, ⟨HI0.out⟩, ⟨HK.out⟩, ⟨HB.out⟩⟩
                · rw [if_neg c15] at H
                  have c15b0 : decide (x5_2 < 4) = false := decide_eq_false c15
                  clear c15
                  have H' := Aside0.mk H
                  clear H
                  go_wp2
                  go_roundg k2
                  case measure => have := HK1.out; have := HK2.out; omega
                  case rel => exact ⟨(x3_2), (wrap64 (x4_1 + 1)), (by first | rfl | (simp; done) | (simp [*]; done)), H', ⟨by have := HK1.out; have := HK2.out; omega⟩, ⟨by exact HO_3.out⟩, ⟨HI0.out⟩, ⟨HK.out⟩, ⟨HB.out⟩⟩
          · rw [if_neg c14] at H
            have c14b0 : decide (x4_1 < 4) = false := decide_eq_false c14
            clear c14
            simp only [Option.some.injEq, Prod.mk.injEq] at H
            obtain ⟨rfl, rfl, rfl⟩ := H
            go_wp2
            go_ret
            exact ⟨_, rfl, by exact HO_3.out, HI0.out, HB.out, HK.out⟩
    · rw [if_neg c11] at H
      have c11b0 : (t265 == 1) = false := beq_eq_false_iff_ne.mpr c11
      have c11b1 : (t265 != 1) = true := bne_iff_ne.mpr c11
      simp only [Option.some.injEq, Prod.mk.injEq] at H
      obtain ⟨rfl, rfl, rfl⟩ := H
      go_enter Tryd.func20, Tryd.ntmps20
      go_wp2_with (first | ((with_reducible refine gate_callee (f := 38) rfl ?_); refine goesL_ (some 7) rfl rfl Tryd.func38 (by kernel_rfl) rfl #[.pointer (some ⟨g, 0, none⟩)] rfl (by (try simp only [mp]); first | done | rfl) ?_; (with_reducible refine (spec_l4DrawRight.calls k g s0_0 s0_1 s0_2 t260 t263 t264 w0 _ ?side1 ?side2 A2.out).mono ?_); (case side1 => exact HI0.out); (case side2 => exact HB.out); rintro e w19 ⟨v261, rfl, ho0, hi, hb, hk⟩; refine ⟨_, rfl, ?_⟩; have n0_ := Aside0.mk (Kd.R_lower ho0 (keep_size (w := w) (g := g) (row := none) (HK.out))); have n1_ := Aside0.mk (KeepBut.trans (HK.out) hk (.inl rfl)); have n2_ := Aside0.mk (hb); have n3_ := Aside0.mk (hi); clear HK; clear HB; clear HI0; have HO262 := n0_; have HK := n1_; have HB := n2_; have HI0 := n3_; clear n0_ n1_ n2_ n3_; (try clear hb); (try clear hb2); (try clear hk); (try clear hi); (try clear ho0)) | ((with_reducible refine gate_callee (f := 39) rfl ?_); refine goesL_ (some 9) rfl rfl Tryd.func39 (by kernel_rfl) rfl #[.pointer (some ⟨g, 0, none⟩), .int .i64 8] rfl (by (try simp only [mp]); first | done | rfl) ?_; (with_reducible refine (spec_l1Below.calls g s0_0 t263 t264 8 t265 t266 t267 w0 _ ?side1 ?side2 A3.out).mono ?_); (case side1 => exact HI0.out); (case side2 => exact HB.out); rintro e w20 ⟨rfl, hi, hb, hk⟩; refine ⟨_, rfl, ?_⟩; have n0_ := Aside0.mk (Kd.R_mono (Kd.R_keep (IsS59.apart (show IsS59 w0 _ g s0_0 t263 t264 from HI0.out) (by exact HO262.out) (by decide)) hk (fun _ h => h.2)) (fun _ h => h.1)); have n1_ := Aside0.mk (KeepBut.trans (HK.out) hk (.inl rfl)); have n2_ := Aside0.mk (hb); have n3_ := Aside0.mk (hi); clear HO262; clear HK; clear HB; clear HI0; have HO262 := n0_; have HK := n1_; have HB := n2_; have HI0 := n3_; clear n0_ n1_ n2_ n3_; (try clear hb); (try clear hb2); (try clear hk); (try clear hi)))
      go_ret
      exact ⟨_, rfl, by exact HO262.out, HI0.out, HB.out, HK.out⟩

/-! ### spec_DrawPoolAdd: function 5 -/
def spec_DrawPoolAdd.f (k : Nat) (l0 : List Int) : Option ((List (S26)) × Int × Int × Int × Int) := (spec_l1New.f k l0).bind fun bt282 => ((spec_l4Draw.f k bt282.1 bt282.2.1 bt282.2.2).bind fun bt286 => ((spec_l2Draw.f bt282.1 bt286.2.1 bt286.2.2).bind fun bt291 => (some (bt286.1, bt291.1, bt291.2.1, bt291.2.2.1, bt291.2.2.2.1))))
theorem spec_DrawPoolAdd.mono : ∀ a0 k, LeO (spec_DrawPoolAdd.f k a0) (spec_DrawPoolAdd.f (k + 1) a0) := by
  intro a0 k
  unfold spec_DrawPoolAdd.f
  repeat' first
      | (with_reducible exact spec_l1New.mono _ _)
      | (with_reducible exact spec_l4Draw.mono _ _ _ _)
      | (with_reducible exact LeO.refl _)
      | (with_reducible exact LeO.none _)
      | (with_reducible refine LeO.ite ?_ ?_)
      | (with_reducible refine LeO.bind ?_ (fun _ => ?_))
      | exact spec_l1New.mono _ _
      | exact spec_l4Draw.mono _ _ _ _
      | exact LeO.none _
      | refine LeO.ite ?_ ?_
      | refine LeO.bind ?_ (fun _ => ?_)
set_option maxHeartbeats 8000000 in
set_option maxRecDepth 100000 in
theorem spec_DrawPoolAdd.calls (k : Nat) (A0 : Option Addr) (c0 : Nat) (l0 : List Int) (r1 : List (S26)) (r2 : Int) (r3 : Int) (r4 : Int) (r5 : Int) (w : World) (hr0 : Kd.C (Kd.int .u8) w A0 l0.length l0) (hc0 : l0.length ≤ c0) (h : spec_DrawPoolAdd.f k l0 = some (r1, r2, r3, r4, r5)) :
    Calls Tryd.prog 5 #[.slice A0 l0.length c0] w fun e w' => ∃ v0_ : Value, e = .returned (.tuple #[v0_, .agg #[.int .i64 r2, .int .i64 r3, .int .i64 r4, .int .i64 r5]]) ∧ Kd.R k26 26 w' w.heap.size (fun _ => True) v0_ r1 ∧ Below w.heap.size w w' := by
  have hu26 := Tryd.underlying26
  have HR0 := Aside0.mk hr0
  have HC0 := Aside0.mk hc0
  clear hr0 hc0
  have HB := Aside0.mk (Below.refl w.heap.size w)
  have H : ((spec_l1New.f k l0).bind fun bt282 => ((spec_l4Draw.f k bt282.1 bt282.2.1 bt282.2.2).bind fun bt286 => ((spec_l2Draw.f bt282.1 bt286.2.1 bt286.2.2).bind fun bt291 => (some (bt286.1, bt291.1, bt291.2.1, bt291.2.2.1, bt291.2.2.2.1))))) = some (r1, r2, r3, r4, r5) := h
  clear h
  replace H := Option.bind_eq_some_iff.mp H
  obtain ⟨⟨t282, t283, t284⟩, A20, H⟩ := H
  replace H : ((spec_l4Draw.f k t282 t283 t284).bind fun bt286 => ((spec_l2Draw.f t282 bt286.2.1 bt286.2.2).bind fun bt291 => (some (bt286.1, bt291.1, bt291.2.1, bt291.2.2.1, bt291.2.2.2.1)))) = some (r1, r2, r3, r4, r5) := H
  have A2 := Aside0.mk A20
  clear A20
  replace H := Option.bind_eq_some_iff.mp H
  obtain ⟨⟨t286, t289, t290⟩, A30, H⟩ := H
  replace H : ((spec_l2Draw.f t282 t289 t290).bind fun bt291 => (some (t286, bt291.1, bt291.2.1, bt291.2.2.1, bt291.2.2.2.1))) = some (r1, r2, r3, r4, r5) := H
  have A3 := Aside0.mk A30
  clear A30
  replace H := Option.bind_eq_some_iff.mp H
  obtain ⟨⟨t291, t292, t293, t294, t295, t296⟩, A40, H⟩ := H
  replace H : (some (t286, t291, t292, t293, t294)) = some (r1, r2, r3, r4, r5) := H
  have A4 := Aside0.mk A40
  clear A40
  simp only [Option.some.injEq, Prod.mk.injEq] at H
  obtain ⟨rfl, rfl, rfl, rfl, rfl⟩ := H
  go_enter Tryd.func5, Tryd.ntmps5
  go_wp2_with (first | ((with_reducible refine gate_dst (N := 3) rfl ?_); refine box_event ?hg (N := 3) ?hd (cs := #[.int .i64 0, .int .i64 0, .int .i64 0, .int .i64 0]) (t := 26) ?hr ?_; (case hd => rfl); (case hg => rfl); (case hr => go_simp <;> rfl); intro gb281 hg w5 hbox hb; have n0_ := Aside0.mk (below_step (HB.out) hb); have n1_ := Aside0.mk (hbox); have n2_ := Aside0.mk ((by rw [hg]; exact (below_size (HB.out)) : w.heap.size ≤ gb281)); have n3_ := Aside0.mk ((by rw [hg]; exact (below_size (HB.out)) : w.heap.size ≤ gb281)); clear HB; have HB := n0_; have BK281 := n1_; have GW281 := n2_; have GE281 := n3_; clear n0_ n1_ n2_ n3_; clear hb hbox hg) | ((with_reducible refine gate_callee (f := 19) rfl ?_); refine goesL_ (some 7) rfl rfl Tryd.func19 (by kernel_rfl) rfl #[.slice A0 l0.length c0] rfl (by (try simp only [mp]); first | done | rfl) ?_; (with_reducible refine (spec_l1New.calls k _ _ l0 t282 t283 t284 w _ ?side1 ?side2 ?side3 A2.out).mono ?_); (case side1 => exact HB.out); (case side2 => exact HR0.out); (case side3 => exact HC0.out); rintro e w6 ⟨g285, rfl, hi, hb, hb2⟩; refine ⟨_, rfl, ?_⟩; have n0_ := Aside0.mk (blk_below (g := gb281) (o := .cells #[.int .i64 0, .int .i64 0, .int .i64 0, .int .i64 0] 26 (0, 0)) (by exact BK281.out) hb2); have n1_ := Aside0.mk (hb); have n2_ := Aside0.mk (hi); have n3_ := Aside0.mk (IsS59.ne_blk hi (blk_below (g := gb281) (o := .cells #[.int .i64 0, .int .i64 0, .int .i64 0, .int .i64 0] 26 (0, 0)) (by exact BK281.out) hb2) (by decide)); have n4_ := Aside0.mk (Ne.symm (IsS59.ne_blk hi (blk_below (g := gb281) (o := .cells #[.int .i64 0, .int .i64 0, .int .i64 0, .int .i64 0] 26 (0, 0)) (by exact BK281.out) hb2) (by decide))); clear BK281; clear HB; have BK281 := n0_; have HB := n1_; have HI285 := n2_; have NB285_281 := n3_; have NB281_285 := n4_; clear n0_ n1_ n2_ n3_ n4_; (try clear hb); (try clear hb2); (try clear hk); (try clear hi)) | ((with_reducible refine gate_callee (f := 20) rfl ?_); refine goesL_ (some 9) rfl rfl Tryd.func20 (by kernel_rfl) rfl #[.pointer (some ⟨g285, 0, none⟩)] rfl (by (try simp only [mp]); first | done | rfl) ?_; (with_reducible refine (spec_l4Draw.calls k g285 t282 t283 t284 t286 t289 t290 w _ ?side1 ?side2 A3.out).mono ?_); (case side1 => exact HI285.out); (case side2 => exact HB.out); rintro e w7 ⟨v287, rfl, ho0, hi, hb, hk⟩; refine ⟨_, rfl, ?_⟩; have n0_ := Aside0.mk (KeepBut.blk hk (g' := gb281) (o := .cells #[.int .i64 0, .int .i64 0, .int .i64 0, .int .i64 0] 26 (0, 0)) (by exact BK281.out) NB281_285.out (by simp)); have n1_ := Aside0.mk (Kd.R_lower (Kd.R_newB ho0 (g := gb281) (o := .cells #[.int .i64 0, .int .i64 0, .int .i64 0, .int .i64 0] 26 (0, 0)) (by exact BK281.out)) (below_size (HB.out))); have n2_ := Aside0.mk (hb); have n3_ := Aside0.mk (hi); clear BK281; clear HB; clear HI285; have BK281 := n0_; have HO288 := n1_; have HB := n2_; have HI285 := n3_; clear n0_ n1_ n2_ n3_; (try clear hb); (try clear hb2); (try clear hk); (try clear hi); (try clear ho0)) | ((with_reducible refine gate_callee (f := 21) rfl ?_); refine goesL_ (some 12) rfl rfl Tryd.func21 (by kernel_rfl) rfl #[.pointer (some ⟨g285, 0, none⟩)] rfl (by (try simp only [mp]); first | done | rfl) ?_; (with_reducible refine (spec_l2Draw.calls g285 t282 t289 t290 t291 t292 t293 t294 t295 t296 w _ ?side1 ?side2 A4.out).mono ?_); (case side1 => exact HI285.out); (case side2 => exact HB.out); rintro e w8 ⟨rfl, hi, hb, hk⟩; refine ⟨_, rfl, ?_⟩; have n0_ := Aside0.mk (KeepBut.blk hk (g' := gb281) (o := .cells #[.int .i64 0, .int .i64 0, .int .i64 0, .int .i64 0] 26 (0, 0)) (by exact BK281.out) NB281_285.out (by simp)); have n1_ := Aside0.mk (Kd.R_mono (Kd.R_keep (IsS59.apart (show IsS59 w _ g285 t282 t289 t290 from HI285.out) (by exact HO288.out) (by decide)) hk (fun _ h => h.2)) (fun _ h => h.1)); have n2_ := Aside0.mk (hb); have n3_ := Aside0.mk (hi); clear BK281; clear HO288; clear HB; clear HI285; have BK281 := n0_; have HO288 := n1_; have HB := n2_; have HI285 := n3_; clear n0_ n1_ n2_ n3_; (try clear hb); (try clear hb2); (try clear hk); (try clear hi); have hnb9 := NB281_285.out; have hnc9 := NB285_281.out; have hcz10_0 : w8.cell? ⟨gb281, 0, none⟩ = some (.int .i64 0) := (blk_cell BK281.out 0).trans rfl; have hcz10_1 : w8.cell? ⟨gb281, 1, none⟩ = some (.int .i64 0) := (blk_cell BK281.out 1).trans rfl; have hcz10_2 : w8.cell? ⟨gb281, 2, none⟩ = some (.int .i64 0) := (blk_cell BK281.out 2).trans rfl; have hcz10_3 : w8.cell? ⟨gb281, 3, none⟩ = some (.int .i64 0) := (blk_cell BK281.out 3).trans rfl; have hfz10_0 := blk_frozen BK281.out 0; have hfz10_1 := blk_frozen BK281.out 1; have hfz10_2 := blk_frozen BK281.out 2; have hfz10_3 := blk_frozen BK281.out 3))
  refine bodyPost_ret (results_tc rfl _ _ gb281 26 #[.int .i64 t291, .int .i64 t292, .int .i64 t293, .int .i64 t294] (0, 0) _ rfl (by refine blk_put (cs := #[.int .i64 t291, .int .i64 t292, .int .i64 t293, .int .i64 0]) ?_ 3 _ rfl; refine blk_put (cs := #[.int .i64 t291, .int .i64 t292, .int .i64 0, .int .i64 0]) ?_ 2 _ rfl; refine blk_put (cs := #[.int .i64 t291, .int .i64 0, .int .i64 0, .int .i64 0]) ?_ 1 _ rfl; refine blk_put (cs := #[.int .i64 0, .int .i64 0, .int .i64 0, .int .i64 0]) ?_ 0 _ rfl; exact BK281.out) Tryd.underlying26 rfl (by kernel_rfl)) rfl ?_
  exact ⟨_, rfl, by exact Kd.R_mono (Kd.R_far (p := ⟨gb281, 3, none⟩) (Kd.R_far (p := ⟨gb281, 2, none⟩) (Kd.R_far (p := ⟨gb281, 1, none⟩) (Kd.R_far (p := ⟨gb281, 0, none⟩) (Kd.R_mono HO288.out (fun k_ hk => (⟨hk, hk.2⟩ : _ ∧ k_ ≠ gb281))) (fun _ hk => hk.2) (.int .i64 t291)) (fun _ hk => hk.2) (.int .i64 t292)) (fun _ hk => hk.2) (.int .i64 t293)) (fun _ hk => hk.2) (.int .i64 t294)) (fun _ hk => trivial), by repeat (first | (with_reducible first | exact HB.out | apply below_alloc | apply pw_below_drewN | apply below_drew1 | refine below_set ?_ (IsS59.ge HI285.out) | refine below_set ?_ GE281.out) | exact HB.out)⟩

/-! ### impl_beforeTx: function 24 -/
def impl_beforeTx.f (a0_0 : Int) (a0_1 : Int) (a0_2 : Int) (a0_3 : Int) (a1_0 : Int) (a1_1 : Int) (a1_2 : Int) (a1_3 : Int) : Option (Bool) := if a0_0 < a1_0 then (some true) else (if a0_0 = a1_0 then (some (decide (a0_3 < a1_3))) else (some false))
set_option maxHeartbeats 8000000 in
set_option maxRecDepth 100000 in
theorem impl_beforeTx.calls (a0_0 : Int) (a0_1 : Int) (a0_2 : Int) (a0_3 : Int) (a1_0 : Int) (a1_1 : Int) (a1_2 : Int) (a1_3 : Int) (r : Bool) (w : World) (h : impl_beforeTx.f a0_0 a0_1 a0_2 a0_3 a1_0 a1_1 a1_2 a1_3 = some r) :
    Calls Tryd.prog 24 #[.agg #[.int .i64 a0_0, .int .i64 a0_1, .int .i64 a0_2, .int .i64 a0_3], .agg #[.int .i64 a1_0, .int .i64 a1_1, .int .i64 a1_2, .int .i64 a1_3]] w fun e w' => e = .returned (.bool r) ∧ Below w.heap.size w w' := by
  have hu26 := Tryd.underlying26
  have HB := Aside0.mk (Below.refl w.heap.size w)
  have H : (if a0_0 < a1_0 then (some true) else (if a0_0 = a1_0 then (some (decide (a0_3 < a1_3))) else (some false))) = some r := h
  clear h
  by_cases c3 : a0_0 < a1_0
  · rw [if_pos c3] at H
    have c3b0 : decide (a0_0 < a1_0) = true := decide_eq_true c3
    clear c3
    obtain rfl := Option.some.inj H
    go_enter Tryd.func24, Tryd.ntmps24
    go_wp2_with (first | ((with_reducible refine gate_dst (N := 2) rfl ?_); refine box_event ?hg (N := 2) ?hd (cs := #[.int .i64 a0_0, .int .i64 a0_1, .int .i64 a0_2, .int .i64 a0_3]) (t := 26) ?hr ?_; (case hd => rfl); (case hg => rfl); (case hr => go_simp <;> rfl); intro gb297 hg w4 hbox hb; have n0_ := Aside0.mk (below_step (HB.out) hb); have n1_ := Aside0.mk (hbox); have n2_ := Aside0.mk ((by rw [hg]; exact (below_size (HB.out)) : w.heap.size ≤ gb297)); have n3_ := Aside0.mk ((by rw [hg]; exact (below_size (HB.out)) : w.heap.size ≤ gb297)); clear HB; have HB := n0_; have BK297 := n1_; have GW297 := n2_; have GE297 := n3_; clear n0_ n1_ n2_ n3_; clear hb hbox hg) | ((with_reducible refine gate_dst (N := 3) rfl ?_); refine box_event ?hg (N := 3) ?hd (cs := #[.int .i64 a1_0, .int .i64 a1_1, .int .i64 a1_2, .int .i64 a1_3]) (t := 26) ?hr ?_; (case hd => rfl); (case hg => rfl); (case hr => go_simp <;> rfl); intro gb298 hg w5 hbox hb; have n0_ := Aside0.mk (blk_below (g := gb297) (o := .cells #[.int .i64 a0_0, .int .i64 a0_1, .int .i64 a0_2, .int .i64 a0_3] 26 (0, 0)) (by exact BK297.out) hb); have n1_ := Aside0.mk (below_step (HB.out) hb); have n2_ := Aside0.mk (hbox); have n3_ := Aside0.mk ((by rw [hg]; exact (below_size (HB.out)) : w.heap.size ≤ gb298)); have n4_ := Aside0.mk ((by rw [hg]; exact (below_size (HB.out)) : w.heap.size ≤ gb298)); have n5_ := Aside0.mk ((by rw [hg]; exact Nat.ne_of_lt (blk_lt (g := gb297) (o := .cells #[.int .i64 a0_0, .int .i64 a0_1, .int .i64 a0_2, .int .i64 a0_3] 26 (0, 0)) (by exact BK297.out)) : gb297 ≠ gb298)); have n6_ := Aside0.mk ((by rw [hg]; exact Nat.ne_of_gt (blk_lt (g := gb297) (o := .cells #[.int .i64 a0_0, .int .i64 a0_1, .int .i64 a0_2, .int .i64 a0_3] 26 (0, 0)) (by exact BK297.out)) : gb298 ≠ gb297)); clear BK297; clear HB; have BK297 := n0_; have HB := n1_; have BK298 := n2_; have GW298 := n3_; have GE298 := n4_; have NB297_298 := n5_; have NB298_297 := n6_; clear n0_ n1_ n2_ n3_ n4_ n5_ n6_; clear hb hbox hg; have hnb6 := NB297_298.out; have hnc6 := NB298_297.out; have hcz7_0 : w5.cell? ⟨gb297, 0, none⟩ = some (.int .i64 a0_0) := (blk_cell BK297.out 0).trans rfl; have hcz7_1 : w5.cell? ⟨gb297, 1, none⟩ = some (.int .i64 a0_1) := (blk_cell BK297.out 1).trans rfl; have hcz7_2 : w5.cell? ⟨gb297, 2, none⟩ = some (.int .i64 a0_2) := (blk_cell BK297.out 2).trans rfl; have hcz7_3 : w5.cell? ⟨gb297, 3, none⟩ = some (.int .i64 a0_3) := (blk_cell BK297.out 3).trans rfl; have hfz7_0 := blk_frozen BK297.out 0; have hfz7_1 := blk_frozen BK297.out 1; have hfz7_2 := blk_frozen BK297.out 2; have hfz7_3 := blk_frozen BK297.out 3; have hcz8_0 : w5.cell? ⟨gb298, 0, none⟩ = some (.int .i64 a1_0) := (blk_cell BK298.out 0).trans rfl; have hcz8_1 : w5.cell? ⟨gb298, 1, none⟩ = some (.int .i64 a1_1) := (blk_cell BK298.out 1).trans rfl; have hcz8_2 : w5.cell? ⟨gb298, 2, none⟩ = some (.int .i64 a1_2) := (blk_cell BK298.out 2).trans rfl; have hcz8_3 : w5.cell? ⟨gb298, 3, none⟩ = some (.int .i64 a1_3) := (blk_cell BK298.out 3).trans rfl; have hfz8_0 := blk_frozen BK298.out 0; have hfz8_1 := blk_frozen BK298.out 1; have hfz8_2 := blk_frozen BK298.out 2; have hfz8_3 := blk_frozen BK298.out 3))
    go_ret
    exact ⟨rfl, HB.out⟩
  · rw [if_neg c3] at H
    have c3b0 : decide (a0_0 < a1_0) = false := decide_eq_false c3
    clear c3
    by_cases c9 : a0_0 = a1_0
    · rw [if_pos c9] at H
      have c9b0 : (a0_0 == a1_0) = true := beq_iff_eq.mpr c9
      have c9b1 : (a0_0 != a1_0) = false := bne_eq_false_iff_eq.mpr c9
      clear c9
      obtain rfl := Option.some.inj H
      go_enter Tryd.func24, Tryd.ntmps24
      go_wp2_with (first | ((with_reducible refine gate_dst (N := 2) rfl ?_); refine box_event ?hg (N := 2) ?hd (cs := #[.int .i64 a0_0, .int .i64 a0_1, .int .i64 a0_2, .int .i64 a0_3]) (t := 26) ?hr ?_; (case hd => rfl); (case hg => rfl); (case hr => go_simp <;> rfl); intro gb297 hg w10 hbox hb; have n0_ := Aside0.mk (below_step (HB.out) hb); have n1_ := Aside0.mk (hbox); have n2_ := Aside0.mk ((by rw [hg]; exact (below_size (HB.out)) : w.heap.size ≤ gb297)); have n3_ := Aside0.mk ((by rw [hg]; exact (below_size (HB.out)) : w.heap.size ≤ gb297)); clear HB; have HB := n0_; have BK297 := n1_; have GW297 := n2_; have GE297 := n3_; clear n0_ n1_ n2_ n3_; clear hb hbox hg) | ((with_reducible refine gate_dst (N := 3) rfl ?_); refine box_event ?hg (N := 3) ?hd (cs := #[.int .i64 a1_0, .int .i64 a1_1, .int .i64 a1_2, .int .i64 a1_3]) (t := 26) ?hr ?_; (case hd => rfl); (case hg => rfl); (case hr => go_simp <;> rfl); intro gb298 hg w11 hbox hb; have n0_ := Aside0.mk (blk_below (g := gb297) (o := .cells #[.int .i64 a0_0, .int .i64 a0_1, .int .i64 a0_2, .int .i64 a0_3] 26 (0, 0)) (by exact BK297.out) hb); have n1_ := Aside0.mk (below_step (HB.out) hb); have n2_ := Aside0.mk (hbox); have n3_ := Aside0.mk ((by rw [hg]; exact (below_size (HB.out)) : w.heap.size ≤ gb298)); have n4_ := Aside0.mk ((by rw [hg]; exact (below_size (HB.out)) : w.heap.size ≤ gb298)); have n5_ := Aside0.mk ((by rw [hg]; exact Nat.ne_of_lt (blk_lt (g := gb297) (o := .cells #[.int .i64 a0_0, .int .i64 a0_1, .int .i64 a0_2, .int .i64 a0_3] 26 (0, 0)) (by exact BK297.out)) : gb297 ≠ gb298)); have n6_ := Aside0.mk ((by rw [hg]; exact Nat.ne_of_gt (blk_lt (g := gb297) (o := .cells #[.int .i64 a0_0, .int .i64 a0_1, .int .i64 a0_2, .int .i64 a0_3] 26 (0, 0)) (by exact BK297.out)) : gb298 ≠ gb297)); clear BK297; clear HB; have BK297 := n0_; have HB := n1_; have BK298 := n2_; have GW298 := n3_; have GE298 := n4_; have NB297_298 := n5_; have NB298_297 := n6_; clear n0_ n1_ n2_ n3_ n4_ n5_ n6_; clear hb hbox hg; have hnb12 := NB297_298.out; have hnc12 := NB298_297.out; have hcz13_0 : w11.cell? ⟨gb297, 0, none⟩ = some (.int .i64 a0_0) := (blk_cell BK297.out 0).trans rfl; have hcz13_1 : w11.cell? ⟨gb297, 1, none⟩ = some (.int .i64 a0_1) := (blk_cell BK297.out 1).trans rfl; have hcz13_2 : w11.cell? ⟨gb297, 2, none⟩ = some (.int .i64 a0_2) := (blk_cell BK297.out 2).trans rfl; have hcz13_3 : w11.cell? ⟨gb297, 3, none⟩ = some (.int .i64 a0_3) := (blk_cell BK297.out 3).trans rfl; have hfz13_0 := blk_frozen BK297.out 0; have hfz13_1 := blk_frozen BK297.out 1; have hfz13_2 := blk_frozen BK297.out 2; have hfz13_3 := blk_frozen BK297.out 3; have hcz14_0 : w11.cell? ⟨gb298, 0, none⟩ = some (.int .i64 a1_0) := (blk_cell BK298.out 0).trans rfl; have hcz14_1 : w11.cell? ⟨gb298, 1, none⟩ = some (.int .i64 a1_1) := (blk_cell BK298.out 1).trans rfl; have hcz14_2 : w11.cell? ⟨gb298, 2, none⟩ = some (.int .i64 a1_2) := (blk_cell BK298.out 2).trans rfl; have hcz14_3 : w11.cell? ⟨gb298, 3, none⟩ = some (.int .i64 a1_3) := (blk_cell BK298.out 3).trans rfl; have hfz14_0 := blk_frozen BK298.out 0; have hfz14_1 := blk_frozen BK298.out 1; have hfz14_2 := blk_frozen BK298.out 2; have hfz14_3 := blk_frozen BK298.out 3))
      go_ret
      exact ⟨rfl, HB.out⟩
    · rw [if_neg c9] at H
      have c9b0 : (a0_0 == a1_0) = false := beq_eq_false_iff_ne.mpr c9
      have c9b1 : (a0_0 != a1_0) = true := bne_iff_ne.mpr c9
      obtain rfl := Option.some.inj H
      go_enter Tryd.func24, Tryd.ntmps24
      go_wp2_with (first | ((with_reducible refine gate_dst (N := 2) rfl ?_); refine box_event ?hg (N := 2) ?hd (cs := #[.int .i64 a0_0, .int .i64 a0_1, .int .i64 a0_2, .int .i64 a0_3]) (t := 26) ?hr ?_; (case hd => rfl); (case hg => rfl); (case hr => go_simp <;> rfl); intro gb297 hg w15 hbox hb; have n0_ := Aside0.mk (below_step (HB.out) hb); have n1_ := Aside0.mk (hbox); have n2_ := Aside0.mk ((by rw [hg]; exact (below_size (HB.out)) : w.heap.size ≤ gb297)); have n3_ := Aside0.mk ((by rw [hg]; exact (below_size (HB.out)) : w.heap.size ≤ gb297)); clear HB; have HB := n0_; have BK297 := n1_; have GW297 := n2_; have GE297 := n3_; clear n0_ n1_ n2_ n3_; clear hb hbox hg) | ((with_reducible refine gate_dst (N := 3) rfl ?_); refine box_event ?hg (N := 3) ?hd (cs := #[.int .i64 a1_0, .int .i64 a1_1, .int .i64 a1_2, .int .i64 a1_3]) (t := 26) ?hr ?_; (case hd => rfl); (case hg => rfl); (case hr => go_simp <;> rfl); intro gb298 hg w16 hbox hb; have n0_ := Aside0.mk (blk_below (g := gb297) (o := .cells #[.int .i64 a0_0, .int .i64 a0_1, .int .i64 a0_2, .int .i64 a0_3] 26 (0, 0)) (by exact BK297.out) hb); have n1_ := Aside0.mk (below_step (HB.out) hb); have n2_ := Aside0.mk (hbox); have n3_ := Aside0.mk ((by rw [hg]; exact (below_size (HB.out)) : w.heap.size ≤ gb298)); have n4_ := Aside0.mk ((by rw [hg]; exact (below_size (HB.out)) : w.heap.size ≤ gb298)); have n5_ := Aside0.mk ((by rw [hg]; exact Nat.ne_of_lt (blk_lt (g := gb297) (o := .cells #[.int .i64 a0_0, .int .i64 a0_1, .int .i64 a0_2, .int .i64 a0_3] 26 (0, 0)) (by exact BK297.out)) : gb297 ≠ gb298)); have n6_ := Aside0.mk ((by rw [hg]; exact Nat.ne_of_gt (blk_lt (g := gb297) (o := .cells #[.int .i64 a0_0, .int .i64 a0_1, .int .i64 a0_2, .int .i64 a0_3] 26 (0, 0)) (by exact BK297.out)) : gb298 ≠ gb297)); clear BK297; clear HB; have BK297 := n0_; have HB := n1_; have BK298 := n2_; have GW298 := n3_; have GE298 := n4_; have NB297_298 := n5_; have NB298_297 := n6_; clear n0_ n1_ n2_ n3_ n4_ n5_ n6_; clear hb hbox hg; have hnb17 := NB297_298.out; have hnc17 := NB298_297.out; have hcz18_0 : w16.cell? ⟨gb297, 0, none⟩ = some (.int .i64 a0_0) := (blk_cell BK297.out 0).trans rfl; have hcz18_1 : w16.cell? ⟨gb297, 1, none⟩ = some (.int .i64 a0_1) := (blk_cell BK297.out 1).trans rfl; have hcz18_2 : w16.cell? ⟨gb297, 2, none⟩ = some (.int .i64 a0_2) := (blk_cell BK297.out 2).trans rfl; have hcz18_3 : w16.cell? ⟨gb297, 3, none⟩ = some (.int .i64 a0_3) := (blk_cell BK297.out 3).trans rfl; have hfz18_0 := blk_frozen BK297.out 0; have hfz18_1 := blk_frozen BK297.out 1; have hfz18_2 := blk_frozen BK297.out 2; have hfz18_3 := blk_frozen BK297.out 3; have hcz19_0 : w16.cell? ⟨gb298, 0, none⟩ = some (.int .i64 a1_0) := (blk_cell BK298.out 0).trans rfl; have hcz19_1 : w16.cell? ⟨gb298, 1, none⟩ = some (.int .i64 a1_1) := (blk_cell BK298.out 1).trans rfl; have hcz19_2 : w16.cell? ⟨gb298, 2, none⟩ = some (.int .i64 a1_2) := (blk_cell BK298.out 2).trans rfl; have hcz19_3 : w16.cell? ⟨gb298, 3, none⟩ = some (.int .i64 a1_3) := (blk_cell BK298.out 3).trans rfl; have hfz19_0 := blk_frozen BK298.out 0; have hfz19_1 := blk_frozen BK298.out 1; have hfz19_2 := blk_frozen BK298.out 2; have hfz19_3 := blk_frozen BK298.out 3))
      go_ret
      exact ⟨rfl, HB.out⟩

/-! ### impl_within: function 46 -/
def impl_within.f (a0 : Int) (a1 : Int) (a2 : Int) : Option (Bool) := if a0 ≥ a1 then (some (decide (a0 ≤ a2))) else (some false)
set_option maxHeartbeats 8000000 in
set_option maxRecDepth 100000 in
theorem impl_within.calls (a0 : Int) (a1 : Int) (a2 : Int) (r : Bool) (w : World) (h : impl_within.f a0 a1 a2 = some r) :
    Calls Tryd.prog 46 #[.int .i64 a0, .int .i64 a1, .int .i64 a2] w fun e w' => e = .returned (.bool r) ∧ Drawn0 w w' := by
  have H : (if a0 ≥ a1 then (some (decide (a0 ≤ a2))) else (some false)) = some r := h
  clear h
  by_cases c4 : a0 ≥ a1
  · rw [if_pos c4] at H
    have c4b0 : decide (a1 ≤ a0) = true := decide_eq_true c4
    clear c4
    obtain rfl := Option.some.inj H
    go_enter Tryd.func46, Tryd.ntmps46
    go_wp2
    go_ret
    exact ⟨by first | rfl | (simp; done) | (simp [*]; done), by repeat (first | exact Drawn0.refl _ | apply Drawn0.step)⟩
  · rw [if_neg c4] at H
    have c4b0 : decide (a1 ≤ a0) = false := decide_eq_false c4
    clear c4
    obtain rfl := Option.some.inj H
    go_enter Tryd.func46, Tryd.ntmps46
    go_wp2
    go_ret
    exact ⟨by first | rfl | (simp; done) | (simp [*]; done), by repeat (first | exact Drawn0.refl _ | apply Drawn0.step)⟩

/-! ### impl_TxOk: function 30 -/
def impl_TxOk.f (a0_0 : Int) (a0_1 : Int) (a0_2 : Int) (a0_3 : Int) : Option (Bool) := (impl_within.f a0_0 0 3).bind fun t300 => (if t300 = true then ((impl_within.f a0_1 0 3).bind fun t301 => (if t301 = true then ((impl_within.f a0_2 0 1000).bind fun t302 => (if t302 = true then ((impl_within.f a0_3 0 99).bind fun t303 => (some t303)) else (some false))) else (some false))) else (some false))
set_option maxHeartbeats 8000000 in
set_option maxRecDepth 100000 in
theorem impl_TxOk.calls (a0_0 : Int) (a0_1 : Int) (a0_2 : Int) (a0_3 : Int) (r : Bool) (w : World) (h : impl_TxOk.f a0_0 a0_1 a0_2 a0_3 = some r) :
    Calls Tryd.prog 30 #[.agg #[.int .i64 a0_0, .int .i64 a0_1, .int .i64 a0_2, .int .i64 a0_3]] w fun e w' => e = .returned (.bool r) ∧ Below w.heap.size w w' := by
  have hu26 := Tryd.underlying26
  have HB := Aside0.mk (Below.refl w.heap.size w)
  have H : ((impl_within.f a0_0 0 3).bind fun t300 => (if t300 = true then ((impl_within.f a0_1 0 3).bind fun t301 => (if t301 = true then ((impl_within.f a0_2 0 1000).bind fun t302 => (if t302 = true then ((impl_within.f a0_3 0 99).bind fun t303 => (some t303)) else (some false))) else (some false))) else (some false))) = some r := h
  clear h
  replace H := Option.bind_eq_some_iff.mp H
  obtain ⟨t300, A20, H⟩ := H
  replace H : (if t300 = true then ((impl_within.f a0_1 0 3).bind fun t301 => (if t301 = true then ((impl_within.f a0_2 0 1000).bind fun t302 => (if t302 = true then ((impl_within.f a0_3 0 99).bind fun t303 => (some t303)) else (some false))) else (some false))) else (some false)) = some r := H
  have A2 := Aside0.mk A20
  clear A20
  by_cases c3 : t300 = true
  · subst c3
    have H1 : ((impl_within.f a0_1 0 3).bind fun t301 => (if t301 = true then ((impl_within.f a0_2 0 1000).bind fun t302 => (if t302 = true then ((impl_within.f a0_3 0 99).bind fun t303 => (some t303)) else (some false))) else (some false))) = some r := by rw [if_pos rfl] at H; exact H
    clear H
    have H := H1
    clear H1
    replace H := Option.bind_eq_some_iff.mp H
    obtain ⟨t301, A40, H⟩ := H
    replace H : (if t301 = true then ((impl_within.f a0_2 0 1000).bind fun t302 => (if t302 = true then ((impl_within.f a0_3 0 99).bind fun t303 => (some t303)) else (some false))) else (some false)) = some r := H
    have A4 := Aside0.mk A40
    clear A40
    by_cases c5 : t301 = true
    · subst c5
      have H1 : ((impl_within.f a0_2 0 1000).bind fun t302 => (if t302 = true then ((impl_within.f a0_3 0 99).bind fun t303 => (some t303)) else (some false))) = some r := by rw [if_pos rfl] at H; exact H
      clear H
      have H := H1
      clear H1
      replace H := Option.bind_eq_some_iff.mp H
      obtain ⟨t302, A60, H⟩ := H
      replace H : (if t302 = true then ((impl_within.f a0_3 0 99).bind fun t303 => (some t303)) else (some false)) = some r := H
      have A6 := Aside0.mk A60
      clear A60
      by_cases c7 : t302 = true
      · subst c7
        have H1 : ((impl_within.f a0_3 0 99).bind fun t303 => (some t303)) = some r := by rw [if_pos rfl] at H; exact H
        clear H
        have H := H1
        clear H1
        replace H := Option.bind_eq_some_iff.mp H
        obtain ⟨t303, A80, H⟩ := H
        replace H : (some t303) = some r := H
        have A8 := Aside0.mk A80
        clear A80
        obtain rfl := Option.some.inj H
        go_enter Tryd.func30, Tryd.ntmps30
        go_wp2_with (first | ((with_reducible refine gate_dst (N := 1) rfl ?_); refine box_event ?hg (N := 1) ?hd (cs := #[.int .i64 a0_0, .int .i64 a0_1, .int .i64 a0_2, .int .i64 a0_3]) (t := 26) ?hr ?_; (case hd => rfl); (case hg => rfl); (case hr => go_simp <;> rfl); intro gb299 hg w9 hbox hb; have n0_ := Aside0.mk (below_step (HB.out) hb); have n1_ := Aside0.mk (hbox); have n2_ := Aside0.mk ((by rw [hg]; exact (below_size (HB.out)) : w.heap.size ≤ gb299)); have n3_ := Aside0.mk ((by rw [hg]; exact (below_size (HB.out)) : w.heap.size ≤ gb299)); clear HB; have HB := n0_; have BK299 := n1_; have GW299 := n2_; have GE299 := n3_; clear n0_ n1_ n2_ n3_; clear hb hbox hg; have hcz10_0 : w9.cell? ⟨gb299, 0, none⟩ = some (.int .i64 a0_0) := (blk_cell BK299.out 0).trans rfl; have hcz10_1 : w9.cell? ⟨gb299, 1, none⟩ = some (.int .i64 a0_1) := (blk_cell BK299.out 1).trans rfl; have hcz10_2 : w9.cell? ⟨gb299, 2, none⟩ = some (.int .i64 a0_2) := (blk_cell BK299.out 2).trans rfl; have hcz10_3 : w9.cell? ⟨gb299, 3, none⟩ = some (.int .i64 a0_3) := (blk_cell BK299.out 3).trans rfl; have hfz10_0 := blk_frozen BK299.out 0; have hfz10_1 := blk_frozen BK299.out 1; have hfz10_2 := blk_frozen BK299.out 2; have hfz10_3 := blk_frozen BK299.out 3) | ((with_reducible refine gate_callee (f := 46) rfl ?_); refine goesL_ (some 5) rfl rfl Tryd.func46 (by kernel_rfl) rfl #[.int .i64 a0_0, .int .i64 0, .int .i64 3] rfl (by (try simp only [mp]); first | done | rfl) ?_; (with_reducible refine (impl_within.calls a0_0 0 3 true _ A2.out).mono ?_); rintro e w' ⟨rfl, ⟨nd, rfl⟩⟩; refine ⟨_, rfl, ?_⟩) | (go_at_call 46; (with_reducible refine (impl_within.calls a0_1 0 3 true _ A4.out).mono ?_); rintro e w' ⟨rfl, ⟨nd, rfl⟩⟩) | (go_at_call 46; (with_reducible refine (impl_within.calls a0_2 0 1000 true _ A6.out).mono ?_); rintro e w' ⟨rfl, ⟨nd, rfl⟩⟩) | (go_at_call 46; (with_reducible refine (impl_within.calls a0_3 0 99 t303 _ A8.out).mono ?_); rintro e w' ⟨rfl, ⟨nd, rfl⟩⟩))
        go_ret
        exact ⟨rfl, by repeat (first | (with_reducible first | exact HB.out | apply below_alloc | apply pw_below_drewN | apply below_drew1 | refine below_set ?_ GE299.out) | exact HB.out)⟩
      · replace c7 := Bool.eq_false_iff.mpr c7
        subst c7
        have H1 : (some false) = some r := by rw [if_neg (show ¬ (false = true) by decide)] at H; exact H
        clear H
        have H := H1
        clear H1
        obtain rfl := Option.some.inj H
        go_enter Tryd.func30, Tryd.ntmps30
        go_wp2_with (first | ((with_reducible refine gate_dst (N := 1) rfl ?_); refine box_event ?hg (N := 1) ?hd (cs := #[.int .i64 a0_0, .int .i64 a0_1, .int .i64 a0_2, .int .i64 a0_3]) (t := 26) ?hr ?_; (case hd => rfl); (case hg => rfl); (case hr => go_simp <;> rfl); intro gb299 hg w11 hbox hb; have n0_ := Aside0.mk (below_step (HB.out) hb); have n1_ := Aside0.mk (hbox); have n2_ := Aside0.mk ((by rw [hg]; exact (below_size (HB.out)) : w.heap.size ≤ gb299)); have n3_ := Aside0.mk ((by rw [hg]; exact (below_size (HB.out)) : w.heap.size ≤ gb299)); clear HB; have HB := n0_; have BK299 := n1_; have GW299 := n2_; have GE299 := n3_; clear n0_ n1_ n2_ n3_; clear hb hbox hg; have hcz12_0 : w11.cell? ⟨gb299, 0, none⟩ = some (.int .i64 a0_0) := (blk_cell BK299.out 0).trans rfl; have hcz12_1 : w11.cell? ⟨gb299, 1, none⟩ = some (.int .i64 a0_1) := (blk_cell BK299.out 1).trans rfl; have hcz12_2 : w11.cell? ⟨gb299, 2, none⟩ = some (.int .i64 a0_2) := (blk_cell BK299.out 2).trans rfl; have hcz12_3 : w11.cell? ⟨gb299, 3, none⟩ = some (.int .i64 a0_3) := (blk_cell BK299.out 3).trans rfl; have hfz12_0 := blk_frozen BK299.out 0; have hfz12_1 := blk_frozen BK299.out 1; have hfz12_2 := blk_frozen BK299.out 2; have hfz12_3 := blk_frozen BK299.out 3) | ((with_reducible refine gate_callee (f := 46) rfl ?_); refine goesL_ (some 5) rfl rfl Tryd.func46 (by kernel_rfl) rfl #[.int .i64 a0_0, .int .i64 0, .int .i64 3] rfl (by (try simp only [mp]); first | done | rfl) ?_; (with_reducible refine (impl_within.calls a0_0 0 3 true _ A2.out).mono ?_); rintro e w' ⟨rfl, ⟨nd, rfl⟩⟩; refine ⟨_, rfl, ?_⟩) | (go_at_call 46; (with_reducible refine (impl_within.calls a0_1 0 3 true _ A4.out).mono ?_); rintro e w' ⟨rfl, ⟨nd, rfl⟩⟩) | (go_at_call 46; (with_reducible refine (impl_within.calls a0_2 0 1000 false _ A6.out).mono ?_); rintro e w' ⟨rfl, ⟨nd, rfl⟩⟩))
        go_ret
        exact ⟨rfl, by repeat (first | (with_reducible first | exact HB.out | apply below_alloc | apply pw_below_drewN | apply below_drew1 | refine below_set ?_ GE299.out) | exact HB.out)⟩
    · replace c5 := Bool.eq_false_iff.mpr c5
      subst c5
      have H1 : (some false) = some r := by rw [if_neg (show ¬ (false = true) by decide)] at H; exact H
      clear H
      have H := H1
      clear H1
      obtain rfl := Option.some.inj H
      go_enter Tryd.func30, Tryd.ntmps30
      go_wp2_with (first | ((with_reducible refine gate_dst (N := 1) rfl ?_); refine box_event ?hg (N := 1) ?hd (cs := #[.int .i64 a0_0, .int .i64 a0_1, .int .i64 a0_2, .int .i64 a0_3]) (t := 26) ?hr ?_; (case hd => rfl); (case hg => rfl); (case hr => go_simp <;> rfl); intro gb299 hg w13 hbox hb; have n0_ := Aside0.mk (below_step (HB.out) hb); have n1_ := Aside0.mk (hbox); have n2_ := Aside0.mk ((by rw [hg]; exact (below_size (HB.out)) : w.heap.size ≤ gb299)); have n3_ := Aside0.mk ((by rw [hg]; exact (below_size (HB.out)) : w.heap.size ≤ gb299)); clear HB; have HB := n0_; have BK299 := n1_; have GW299 := n2_; have GE299 := n3_; clear n0_ n1_ n2_ n3_; clear hb hbox hg; have hcz14_0 : w13.cell? ⟨gb299, 0, none⟩ = some (.int .i64 a0_0) := (blk_cell BK299.out 0).trans rfl; have hcz14_1 : w13.cell? ⟨gb299, 1, none⟩ = some (.int .i64 a0_1) := (blk_cell BK299.out 1).trans rfl; have hcz14_2 : w13.cell? ⟨gb299, 2, none⟩ = some (.int .i64 a0_2) := (blk_cell BK299.out 2).trans rfl; have hcz14_3 : w13.cell? ⟨gb299, 3, none⟩ = some (.int .i64 a0_3) := (blk_cell BK299.out 3).trans rfl; have hfz14_0 := blk_frozen BK299.out 0; have hfz14_1 := blk_frozen BK299.out 1; have hfz14_2 := blk_frozen BK299.out 2; have hfz14_3 := blk_frozen BK299.out 3) | ((with_reducible refine gate_callee (f := 46) rfl ?_); refine goesL_ (some 5) rfl rfl Tryd.func46 (by kernel_rfl) rfl #[.int .i64 a0_0, .int .i64 0, .int .i64 3] rfl (by (try simp only [mp]); first | done | rfl) ?_; (with_reducible refine (impl_within.calls a0_0 0 3 true _ A2.out).mono ?_); rintro e w' ⟨rfl, ⟨nd, rfl⟩⟩; refine ⟨_, rfl, ?_⟩) | (go_at_call 46; (with_reducible refine (impl_within.calls a0_1 0 3 false _ A4.out).mono ?_); rintro e w' ⟨rfl, ⟨nd, rfl⟩⟩))
      go_ret
      exact ⟨rfl, by repeat (first | (with_reducible first | exact HB.out | apply below_alloc | apply pw_below_drewN | apply below_drew1 | refine below_set ?_ GE299.out) | exact HB.out)⟩
  · replace c3 := Bool.eq_false_iff.mpr c3
    subst c3
    have H1 : (some false) = some r := by rw [if_neg (show ¬ (false = true) by decide)] at H; exact H
    clear H
    have H := H1
    clear H1
    obtain rfl := Option.some.inj H
    go_enter Tryd.func30, Tryd.ntmps30
    go_wp2_with (first | ((with_reducible refine gate_dst (N := 1) rfl ?_); refine box_event ?hg (N := 1) ?hd (cs := #[.int .i64 a0_0, .int .i64 a0_1, .int .i64 a0_2, .int .i64 a0_3]) (t := 26) ?hr ?_; (case hd => rfl); (case hg => rfl); (case hr => go_simp <;> rfl); intro gb299 hg w15 hbox hb; have n0_ := Aside0.mk (below_step (HB.out) hb); have n1_ := Aside0.mk (hbox); have n2_ := Aside0.mk ((by rw [hg]; exact (below_size (HB.out)) : w.heap.size ≤ gb299)); have n3_ := Aside0.mk ((by rw [hg]; exact (below_size (HB.out)) : w.heap.size ≤ gb299)); clear HB; have HB := n0_; have BK299 := n1_; have GW299 := n2_; have GE299 := n3_; clear n0_ n1_ n2_ n3_; clear hb hbox hg; have hcz16_0 : w15.cell? ⟨gb299, 0, none⟩ = some (.int .i64 a0_0) := (blk_cell BK299.out 0).trans rfl; have hcz16_1 : w15.cell? ⟨gb299, 1, none⟩ = some (.int .i64 a0_1) := (blk_cell BK299.out 1).trans rfl; have hcz16_2 : w15.cell? ⟨gb299, 2, none⟩ = some (.int .i64 a0_2) := (blk_cell BK299.out 2).trans rfl; have hcz16_3 : w15.cell? ⟨gb299, 3, none⟩ = some (.int .i64 a0_3) := (blk_cell BK299.out 3).trans rfl; have hfz16_0 := blk_frozen BK299.out 0; have hfz16_1 := blk_frozen BK299.out 1; have hfz16_2 := blk_frozen BK299.out 2; have hfz16_3 := blk_frozen BK299.out 3) | ((with_reducible refine gate_callee (f := 46) rfl ?_); refine goesL_ (some 5) rfl rfl Tryd.func46 (by kernel_rfl) rfl #[.int .i64 a0_0, .int .i64 0, .int .i64 3] rfl (by (try simp only [mp]); first | done | rfl) ?_; (with_reducible refine (impl_within.calls a0_0 0 3 false _ A2.out).mono ?_); rintro e w' ⟨rfl, ⟨nd, rfl⟩⟩; refine ⟨_, rfl, ?_⟩))
    go_ret
    exact ⟨rfl, by repeat (first | (with_reducible first | exact HB.out | apply below_alloc | apply pw_below_drewN | apply below_drew1 | refine below_set ?_ GE299.out) | exact HB.out)⟩

end Go.Proofs.YtnlakfbbbnkcpaaDoor.PFnPools
