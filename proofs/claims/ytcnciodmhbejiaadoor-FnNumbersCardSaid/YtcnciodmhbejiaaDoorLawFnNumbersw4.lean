/- Walks of a law on its true paths, printed by this session's wip/mklaw.py; no condition of their own. -/
import Derived.Test.YtcnciodmhbejiaaDoorPFnNumbersx0
import Derived.Test.YtcnciodmhbejiaaDoorPFnNumbersx1
import Derived.Test.YtcnciodmhbejiaaDoorPFnNumbersx2
import Derived.Test.YtcnciodmhbejiaaDoorPFnNumbersx3
import Derived.Test.YtcnciodmhbejiaaDoorPFnNumbersx4
import Derived.Test.YtcnciodmhbejiaaDoorH
namespace Go.Proofs.YtcnciodmhbejiaaDoor.Law
open Go.RowKit Go.Proofs.YtcnciodmhbejiaaDoorW.PrintWords Go.Proofs.YtcnciodmhbejiaaDoorW.PrintLast Go.Proofs.YtcnciodmhbejiaaDoorW.PrintMore Go.Proofs.YtcnciodmhbejiaaDoorH Go.Proofs.YtcnciodmhbejiaaDoor.PFnNumbers
set_option linter.unusedVariables false
set_option linter.unusedSimpArgs false
local instance : CellT Tryd.prog 9 := ⟨by kernel_rfl, by kernel_rfl⟩
namespace w4
set_option maxHeartbeats 8000000 in
set_option maxRecDepth 100000 in
theorem walk0 (A0 : Option Addr) (c0 : Nat) (l : List Int) (w : World) (hr0 : Aside0 (Kd.C (Kd.int .u8) w A0 l.length l)) (hc0 : Aside0 (l.length ≤ c0)) (hb : Aside0 (laws_big.f l = some true))  :
    Calls Tryd.prog 3 #[.slice A0 l.length c0] w fun e w' => e = .returned (.bool true) ∧ Below w.heap.size w w' := by
  have HS := SS.nil w
  go_enter Tryd.func3, Tryd.ntmps3
  go_wp2_with (first | ((with_reducible refine gate_dst (N := 41) rfl ?_); refine ev_call (some 41) rfl rfl Tryd.func4 (by kernel_rfl) rfl rfl (by simp only [List.map_toArray, List.map_cons, List.map_nil]; rfl) ?_; refine (HS.valD (laws_big.calls (w := _) (hr0 := Kd.C_below hr0.out HS.below) (hc0 := hc0.out) (h := hb.out))).mono ?_; clear HS; rintro e w1 ⟨rfl, HS⟩; refine ⟨_, rfl, ?_⟩))
  go_ret
  exact ⟨rfl, HS.below⟩
end w4
end Go.Proofs.YtcnciodmhbejiaaDoor.Law
