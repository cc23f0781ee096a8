/- Plain facts on headers: what is parsed is well formed; the error of a request. -/
import Derived.Test.YtgbimniloabjkaaGreatDoorFormat
namespace Go.Proofs.YtgbimniloabjkaaGreatDoor
open Go.RowKit

theorem hcheck_ok {op vs pts : Int} {rs : List Rg} (h1 : 1 ≤ op ∧ op ≤ 5) (h3 : op = 3 → 3 ≤ vs ∧ vs ≤ 64) (hv : op ≠ 3 → vs = 0) (h4 : 4 ≤ op → 1 ≤ rs.length ∧ rs.length ≤ 64 ∧ rs.any wrongRg = false) (hl : op < 4 → rs = [])
    (h5 : op = 5 → 1 ≤ pts ∧ pts ≤ 4096) (hp : op ≠ 5 → pts = 0) (hf : rs.any fullRg = false) : hcheck op vs rs pts = 0 := by
  unfold hcheck hcheckB
  have hlen : op < 4 → rs.length = 0 := fun h => by rw [hl h]; rfl
  have hd : (decide (op = 4 ∨ op = 5) && rs.any wrongRg) = false := by
    by_cases h : op = 4 ∨ op = 5
    · rw [(h4 (by omega)).2.2, Bool.and_false]
    · rw [decide_eq_false h, Bool.false_and]
  rw [hd, hf, if_neg (by omega), if_neg (by omega), if_neg (by omega), cond_false, if_neg (by omega), if_neg (by omega), cond_false]
theorem rgOf_full (xs : List Int) : (xs.map rgOf).any fullRg = false := by
  rw [List.any_eq_false]
  intro r hr
  obtain ⟨x, _, rfl⟩ := List.mem_map.1 hr
  simp [rgOf, fullRg]

/-- every header that is parsed is well formed -/
def HdOk (r : PH × Int × Int) : Prop := r.2.2 = 0 → hcheck r.1.op r.1.vs r.1.rs r.1.pts = 0
theorem hdOk_err (e : Int) (he : e ≠ 0) : HdOk (phZero, 0, e) := fun h => absurd h he
theorem hparse_ok (bs : List Int) : HdOk (hparse bs) := by
  unfold hparse
  refine ite_ok (fun _ => hdOk_err 4 (by omega)) (fun h0 => ?_)
  refine ite_ok (fun h1 _ => hcheck_ok (by dsimp only; omega) (by dsimp only; omega) (by dsimp only; omega) (by dsimp only; omega) (fun _ => rfl) (by dsimp only; omega) (by dsimp only; omega) rfl) (fun h1 => ?_)
  refine ite_ok (fun _ => hdOk_err 5 (by omega)) (fun h2 => ?_)
  refine ite_ok (fun _ => hdOk_err 4 (by omega)) (fun h3 => ?_)
  refine ite_ok (fun h4 => ?_) (fun h4 => ?_)
  · exact ite_ok (fun _ => hdOk_err 6 (by omega)) (fun h5 _ => hcheck_ok (by dsimp only; omega) (by dsimp only; omega) (by dsimp only; omega) (by dsimp only; omega) (fun _ => rfl) (by dsimp only; omega) (by dsimp only; omega) rfl)
  refine ite_ok (fun _ => hdOk_err 6 (by omega)) (fun h5 => ?_)
  refine ite_ok (fun _ => hdOk_err 4 (by omega)) (fun h6 => ?_)
  refine ite_ok (fun _ => hdOk_err 7 (by omega)) (fun h7 => ?_)
  have hlen : (((bs.drop 2).take (bs.getD 1 0).toNat).map rgOf).length = (bs.getD 1 0).toNat := by
    rw [List.length_map, List.length_take, List.length_drop]; omega
  rw [Bool.not_eq_true] at h7
  refine ite_ok (fun h8 _ => hcheck_ok (by dsimp only; omega) (by dsimp only; omega) (by dsimp only; omega) (fun _ => ⟨by dsimp only; omega, by dsimp only; omega, h7⟩) (by dsimp only; omega) (by dsimp only; omega) (by dsimp only; omega) (rgOf_full _)) (fun h8 => ?_)
  refine ite_ok (fun _ => hdOk_err 4 (by omega)) (fun h9 => ?_)
  exact ite_ok (fun _ => hdOk_err 6 (by omega)) (fun h10 _ => hcheck_ok (by dsimp only; omega) (by dsimp only; omega) (by dsimp only; omega) (fun _ => ⟨by dsimp only; omega, by dsimp only; omega, h7⟩) (by dsimp only; omega) (by dsimp only; omega) (by dsimp only; omega) (rgOf_full _))
end Go.Proofs.YtgbimniloabjkaaGreatDoor
