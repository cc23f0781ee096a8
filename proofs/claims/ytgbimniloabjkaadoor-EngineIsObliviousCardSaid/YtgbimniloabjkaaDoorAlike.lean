/- Requests of one structure: Answer's error and events are the same. -/
import Derived.Test.YtgbimniloabjkaaDoorAnswerE
namespace Go.Proofs.YtgbimniloabjkaaDoor
open Go.RowKit

/-- what Answer's events hang on, of a region -/
def gKey (g : Gr) : Bool × Int × Nat × Nat := (g.1.d, g.1.v, g.1.n, g.2.length)
theorem fcheckL_alike : ∀ (gs ss : List Gr), gs.map gKey = ss.map gKey → fcheckL (gs.map (·.1)) = fcheckL (ss.map (·.1))
  | [], [], _ => rfl
  | [], _ :: _, h => by simp at h
  | _ :: _, [], h => by simp at h
  | g :: gs, s :: ss, h => by
    simp only [List.map_cons, List.cons.injEq] at h
    have ih := fcheckL_alike gs ss h.2
    have h1 := h.1
    simp only [gKey, Prod.mk.injEq] at h1
    simp only [List.map_cons, fcheckL, h1.2.1, h1.2.2.1, ih]
theorem fvEv_alike : ∀ (gs ss : List Gr) (i : Nat), gs.map gKey = ss.map gKey → fvEv i gs = fvEv i ss ∧ fmEv i gs = fmEv i ss
  | [], [], _, _ => ⟨rfl, rfl⟩
  | [], _ :: _, _, h => by simp at h
  | _ :: _, [], _, h => by simp at h
  | g :: gs, s :: ss, i, h => by
    simp only [List.map_cons, List.cons.injEq] at h
    obtain ⟨a1, a2⟩ := fvEv_alike gs ss (i + 1) h.2
    have h1 := h.1
    simp only [gKey, Prod.mk.injEq] at h1
    simp only [fvEv, fmEv, h1.2.1, h1.2.2.2, a1, a2, and_self]
theorem zip_alike : ∀ (gs ss : List Gr) (hrs : List Rg), gs.map gKey = ss.map gKey → (gs.zip hrs).any szBad = (ss.zip hrs).any szBad ∧ (gs.zip hrs).any kdBad = (ss.zip hrs).any kdBad
  | [], [], _, _ => ⟨rfl, rfl⟩
  | [], _ :: _, _, h => by simp at h
  | _ :: _, [], _, h => by simp at h
  | _ :: _, _ :: _, [], _ => ⟨rfl, rfl⟩
  | g :: gs, s :: ss, r :: hrs, h => by
    simp only [List.map_cons, List.cons.injEq] at h
    obtain ⟨a1, a2⟩ := zip_alike gs ss hrs h.2
    have h1 := h.1
    simp only [gKey, Prod.mk.injEq] at h1
    simp only [List.zip_cons_cons, List.any_cons, a1, a2, szBad, kdBad, h1.1, h1.2.1, h1.2.2.1, and_self]
theorem fence_alike {gs ss : List Gr} (h : gs.map gKey = ss.map gKey) : fenceEv gs = fenceEv ss := by
  have hl : gs.length = ss.length := by have := congrArg List.length h; simpa using this
  have hf : fcheck (gs.map (·.1)) = fcheck (ss.map (·.1)) := by
    unfold fcheck
    rw [List.length_map, List.length_map, hl, fcheckL_alike gs ss h]
  obtain ⟨a1, a2⟩ := fvEv_alike gs ss 0 h
  unfold fenceEv fenceVEv fenceMEv
  rw [hf, a1, a2]
/-- the law in plain words -/
theorem answer_alike {op vs : Int} {hrs : List Rg} {pts : Int} {gs ss : List Gr} {ps ts : List Pt} {qs : List ((Int × Int) × Int)} (h : gs.map gKey = ss.map gKey) (hp : ps.length = ts.length) :
    (ansV op vs hrs pts gs ps qs).2 = (ansV op vs hrs pts ss ts qs).2 ∧ ansEv op vs hrs pts gs ps qs = ansEv op vs hrs pts ss ts qs := by
  have hl : gs.length = ss.length := by have := congrArg List.length h; simpa using this
  obtain ⟨z1, z2⟩ := zip_alike gs ss hrs h
  have he : (hencode op vs hrs pts gs ps qs).2 = (hencode op vs hrs pts ss ts qs).2 := by
    unfold hencode
    rw [hl, hp, z1, z2]
    split
    · rfl
    · split
      · rfl
      · split
        · rfl
        · split <;> rfl
  refine ⟨?_, ?_⟩
  · unfold ansV
    rw [he]
    split
    · rfl
    · split <;> rfl
  · unfold ansEv opEv
    rw [he, hp, fence_alike h]
end Go.Proofs.YtgbimniloabjkaaDoor
