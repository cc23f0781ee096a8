/- slices.ContainsFunc over words, slices.Reverse over bytes of the call's own, strings cut and trimmed. -/
import Derived.Test.YthdpbmpdiaencaaDoorConv
import Derived.Test.YthdpbmpdiaencaaDoorLimb3
import Derived.Test.YthdpbmpdiaencaaDoorNum2
import Derived.Test.YthdpbmpdiaencaaDoorLaid
import Derived.Lib.OwnBridge
namespace Go.Proofs.YthdpbmpdiaencaaDoor
open Go.RowKit

/-- what a predicate on words answers -/
def UPred (K : FuncId) (p : Int → Bool) : Prop := ∀ (x : Int) (w : World), Calls Tryd.prog K #[.int .u64 x] w fun e w' => e = .returned (.bool (p x)) ∧ w = w'
def Enters (K : FuncId) : Prop := ∀ (a : Array Value) (w : World), (callFunc K a).run Tryd.prog w = .ok (.enter K a) w
set_option maxHeartbeats 400000 in
theorem indexU_any (K : FuncId) (hK : Enters K) (p : Int → Bool) (hp : UPred K p) (A : Option Addr) (c : Nat) (l : List Int) (w : World) (hs : Sl w w.heap.size A (uCs l)) (hn : l.length ≤ maxLen) :
    Calls Tryd.prog 46 #[.slice A l.length c, .func (.func K) #[] #[]] w fun e w' => w = w' ∧ ∃ k : Int, e = .returned (.int .i64 k) ∧ decide (0 ≤ k) = l.any p := by
  unfold maxLen at hn
  unfold Enters at hK
  have HP := hide hp; clear hp
  go_enter Tryd.func46, Tryd.ntmps46
  go_wp2
  go_loop [5, 8] (fun _ i => ∃ k : Nat, k ≤ l.length ∧ i = .int .i64 k ∧ (l.take k).any p = false)
    (fun _ i => l.length - (intOf i).toNat)
  case atStart => exact ⟨0, by omega, rfl, by simp⟩
  case round =>
    obtain ⟨k, hk, rfl, hany⟩ := hrel
    by_cases hlt : k < l.length
    · obtain ⟨x, hx⟩ : ∃ x, l[k]? = some x := ⟨_, List.getElem?_eq_getElem hlt⟩
      obtain ⟨b, off, rfl, hB, hc⟩ := hs.u (by omega)
      have c0 := hc k x hx
      have HR := hide hx; have HA := hide hany; have HC := hide hc
      clear hx hany hc
      go_wp2_with fail
      refine (HP.out x _).mono ?_
      rintro e w1 ⟨rfl, rfl⟩
      obtain ⟨q, hq⟩ : ∃ q, q = p x := ⟨_, rfl⟩
      rw [← hq]
      have HQ := hide hq; clear hq
      cases q
      · go_wp2
        go_round
        case rel => exact ⟨k + 1, by omega, by go_num, by rw [any_take_succ _ _ _ _ HR.out, HA.out, ← HQ.out]; rfl⟩
        case measure => simp [intOf]; omega
      · go_wp2
        go_ret
        exact ⟨rfl, k, rfl, by rw [any_of_get _ _ _ _ HR.out HQ.out.symm]; simp⟩
    · have hk' : k = l.length := by omega
      go_wp2
      go_ret
      exact ⟨rfl, -1, rfl, by rw [hk', List.take_length] at hany; rw [hany]; rfl⟩
set_option maxHeartbeats 400000 in
theorem containsU_any (K : FuncId) (hK : Enters K) (p : Int → Bool) (hp : UPred K p) (A : Option Addr) (c : Nat) (l : List Int) (w : World) (hs : Sl w w.heap.size A (uCs l)) (hn : l.length ≤ maxLen) :
    Calls Tryd.prog 21 #[.slice A l.length c, .func (.func K) #[] #[]] w fun e w' => e = .returned (.bool (l.any p)) ∧ w = w' := by
  have HI := hide (indexU_any K hK p hp A c l w hs hn)
  clear hp hs
  go_enter Tryd.func21, Tryd.ntmps21
  go_wp2_with fail
  refine HI.out.mono ?_
  rintro e w1 ⟨rfl, k, rfl, hk⟩
  have HK := hide hk; clear hk
  go_wp2
  go_ret
  exact ⟨ret_bool HK.out, rfl⟩
theorem nz1_any : UPred 22 (fun x => !(x == 0)) := by
  intro x w
  go_enter Tryd.func22, Tryd.ntmps22
  go_wp2
  go_ret
  exact ⟨rfl, rfl⟩
theorem nz2_any : UPred 31 (fun x => !(x == 0)) := by
  intro x w
  go_enter Tryd.func31, Tryd.ntmps31
  go_wp2
  go_ret
  exact ⟨rfl, rfl⟩
end Go.Proofs.YthdpbmpdiaencaaDoor
