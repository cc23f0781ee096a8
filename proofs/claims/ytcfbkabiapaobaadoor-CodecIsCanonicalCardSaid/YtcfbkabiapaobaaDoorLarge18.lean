/- geofencelaw18.large: it returns. -/
import Derived.Test.YtcfbkabiapaobaaDoorEncode
namespace Go.Proofs.YtcfbkabiapaobaaDoor
open Go.RowKit

def SomeBool (w : World) (e : Ending) (w' : World) : Prop := ∃ b : Bool, e = .returned (.bool b) ∧ Below w.heap.size w w'
section
variable (op vs pts : Int) (hrs : List Rg) (HA : Option Addr) (hc : Nat) (gs : List Gr) (GA : Option Addr) (gc : Nat) (ps : List (Int × Int)) (PA : Option Addr) (pc : Nat) (qs : List ((Int × Int) × Int)) (QA : Option Addr) (qc : Nat) (w : World)
variable (hgc : Sl w w.heap.size GA (rgCells (gs.map (·.1)))) (hgn : gs.length ≤ maxLen)
include hgc hgn
set_option maxRecDepth 1000000 in
set_option maxHeartbeats 4000000 in
theorem large18 : Calls Tryd.prog 10 #[.agg #[.int .i64 op, .int .i64 vs, .slice HA hrs.length hc, .int .i64 pts, .slice GA gs.length gc, .slice PA ps.length pc, .slice QA qs.length qc]] w (SomeBool w) := by
  unfold maxLen at hgn
  have HG := hide hgc; clear hgc
  go_enter Tryd.func10, Tryd.ntmps10
  go_wp2
  go_loopw [3, 21] (fun x i wr => ∃ (k : Nat) (z : Int), k ≤ gs.length ∧ i = .int .i64 k ∧ x = .int .i64 z ∧ Below w.heap.size w wr)
    (fun _ i _ => gs.length - (intOf i).toNat)
  case atStart => exact ⟨0, _, by omega, rfl, rfl, bl_alloc (Below.refl _ _) _⟩
  case round =>
    obtain ⟨k, z, hk, rfl, rfl, hbr⟩ := hrel
    by_cases hlt : k < gs.length
    · obtain ⟨r, hr⟩ : ∃ r, gs[k]? = some r := ⟨_, List.getElem?_eq_getElem hlt⟩
      have hrm : (gs.map (·.1))[k]? = some r.1 := by rw [List.getElem?_map, hr]; rfl
      obtain ⟨gb, goff, rfl, hgb, c0, c1, c2⟩ := (HG.out.below hbr).rg hrm
      have hgl := cell_lt c0
      clear hr hrm
      go_wp2
      all_goals first
        | (go_ret
           exact ⟨true, rfl, bl_alloc hbr _⟩)
        | (go_roundw
           case rel => exact ⟨k + 1, _, by omega, by go_num, rfl, bl_alloc hbr _⟩
           case measure => simp [intOf]; omega)
    · have hk' : k = gs.length := by omega
      go_wp2
      all_goals
        go_ret
        exact ⟨_, rfl, hbr⟩
end
end Go.Proofs.YtcfbkabiapaobaaDoor
