/- slices.IndexFunc and slices.ContainsFunc over regions, for a predicate whose contract is given. -/
import Derived.Test.YtgbimniloabjkaaGreatDoorFenceSize
namespace Go.Proofs.YtgbimniloabjkaaGreatDoor
open Go.RowKit

/-- what a predicate on regions answers -/
def RgPred (K : FuncId) (p : Rg → Bool) : Prop := ∀ (r : Rg) (w : World), Calls Tryz.prog K #[.agg #[.bool r.d, .int .i64 r.v, .slice r.A r.n r.c]] w fun e w' => e = .returned (.bool (p r)) ∧ Below w.heap.size w w'

/-- K is a function with a body -/
def Enters (K : FuncId) : Prop := ∀ (a : Array Value) (w : World), (callFunc K a).run Tryz.prog w = .ok (.enter K a) w

def FoundAt (rs : List Rg) (p : Rg → Bool) (w : World) (e : Ending) (w' : World) : Prop := ∃ k : Int, e = .returned (.int .i64 k) ∧ decide (0 ≤ k) = rs.any p ∧ Below w.heap.size w w'

set_option maxHeartbeats 400000 in
theorem indexFunc_any (K : FuncId) (hK : Enters K) (p : Rg → Bool) (hp : RgPred K p) (A : Option Addr) (c : Nat) (rs : List Rg) (w : World) (hs : Sl w w.heap.size A (rgCells rs)) (hn : rs.length ≤ maxLen) :
    Calls Tryz.prog 108 #[.slice A rs.length c, .func (.func K) #[] #[]] w (FoundAt rs p w) := by
  unfold maxLen at hn
  unfold Enters at hK
  go_enter Tryz.func108, Tryz.ntmps108
  go_wp2
  go_loopw [5, 8] (fun _ i wr => ∃ k : Nat, k ≤ rs.length ∧ i = .int .i64 k ∧ Below w.heap.size w wr ∧ (rs.take k).any p = false)
    (fun _ i _ => rs.length - (intOf i).toNat)
  case atStart => exact ⟨0, by omega, rfl, Below.refl _ _, by simp⟩
  case round =>
    obtain ⟨k, hk, rfl, hb, hany⟩ := hrel
    by_cases hlt : k < rs.length
    · obtain ⟨r, hr⟩ : ∃ r, rs[k]? = some r := ⟨_, List.getElem?_eq_getElem hlt⟩
      obtain ⟨b, off, rfl, hB, c0, c1, c2⟩ := (hs.below hb).rg hr
      have HR := hide hr; clear hr
      have HA := hide hany; clear hany
      go_wp2_with fail
      refine (hp r _).mono ?_
      rintro e w1 ⟨rfl, hb1⟩
      obtain ⟨q, hq⟩ : ∃ q, q = p r := ⟨_, rfl⟩
      rw [← hq]
      have HQ := hide hq; clear hq
      cases q
      · go_wp2
        go_roundw
        case rel => exact ⟨k + 1, by omega, by go_num, hb.trans (hb1.mono hb.size), by rw [any_take_succ _ _ _ _ HR.out, HA.out, ← HQ.out]; rfl⟩
        case measure => simp [intOf]; omega
      · go_wp2
        go_ret
        exact ⟨k, rfl, by rw [any_of_get _ _ _ _ HR.out HQ.out.symm]; simp, hb.trans (hb1.mono hb.size)⟩
    · have hk' : k = rs.length := by omega
      go_wp2
      go_ret
      exact ⟨-1, rfl, by rw [hk', List.take_length] at hany; rw [hany]; rfl, hb⟩

set_option maxHeartbeats 400000 in
theorem containsFunc_any (K : FuncId) (hK : Enters K) (p : Rg → Bool) (hp : RgPred K p) (A : Option Addr) (c : Nat) (rs : List Rg) (w : World) (hs : Sl w w.heap.size A (rgCells rs)) (hn : rs.length ≤ maxLen) :
    Calls Tryz.prog 89 #[.slice A rs.length c, .func (.func K) #[] #[]] w fun e w' => e = .returned (.bool (rs.any p)) ∧ Below w.heap.size w w' := by
  have HP := hide hp; clear hp
  go_enter Tryz.func89, Tryz.ntmps89
  go_wp2_with fail
  refine (indexFunc_any K hK p HP.out A c rs w hs hn).mono ?_
  rintro e w1 ⟨k, rfl, hk, hb⟩
  have HK := hide hk; clear hk
  go_wp2
  go_ret
  exact ⟨ret_bool HK.out, hb⟩
theorem containsFunc_n (K : FuncId) (hK : Enters K) (p : Rg → Bool) (hp : RgPred K p) (A : Option Addr) (c n : Nat) (rs : List Rg) (hnl : n = rs.length) (w : World) (hs : Sl w w.heap.size A (rgCells rs)) (hn : rs.length ≤ maxLen) :
    Calls Tryz.prog 89 #[.slice A n c, .func (.func K) #[] #[]] w fun e w' => e = .returned (.bool (rs.any p)) ∧ Below w.heap.size w w' := by
  subst hnl; exact containsFunc_any K hK p hp A c rs w hs hn
end Go.Proofs.YtgbimniloabjkaaGreatDoor
