/- The reference's comparison of headers: true at headers that agree. -/
import Derived.Test.YtcfbkabiapaobaaDoorFenceSize
namespace Go.Proofs.YtcfbkabiapaobaaDoor
open Go.RowKit

def Rg.key (r : Rg) : Bool × Int × Nat := (r.d, r.v, r.n)

set_option maxRecDepth 100000 in
set_option maxHeartbeats 2000000 in
theorem same_true (op vs pts : Int) (rs ss : List Rg) (A A' : Option Addr) (c c' : Nat) (w : World) (hs : Sl w w.heap.size A (rgCells rs)) (hs' : Sl w w.heap.size A' (rgCells ss))
    (hk : rs.map Rg.key = ss.map Rg.key) (hn : rs.length ≤ maxLen) :
    Calls Tryd.prog 31 #[.agg #[.int .i64 op, .int .i64 vs, .slice A rs.length c, .int .i64 pts], .agg #[.int .i64 op, .int .i64 vs, .slice A' ss.length c', .int .i64 pts]] w
      fun e w' => e = .returned (.bool true) ∧ Below w.heap.size w w' := by
  have hl : ss.length = rs.length := by have := congrArg List.length hk; simpa using this.symm
  rw [hl]
  unfold maxLen at hn
  have HL := hide hl; clear hl
  have HK := hide hk; clear hk
  go_enter Tryd.func31, Tryd.ntmps31
  go_wp2
  have hsW := hs.below (bl_alloc (bl_alloc (Below.refl _ _) (.cells #[.int .i64 op, .int .i64 vs, .slice A rs.length c, .int .i64 pts] 26)) (.cells #[.int .i64 op, .int .i64 vs, .slice A' rs.length c', .int .i64 pts] 26))
  have hsW' := hs'.below (bl_alloc (bl_alloc (Below.refl _ _) (.cells #[.int .i64 op, .int .i64 vs, .slice A rs.length c, .int .i64 pts] 26)) (.cells #[.int .i64 op, .int .i64 vs, .slice A' rs.length c', .int .i64 pts] 26))
  go_outline
  go_loopw [5] (fun i wr => ∃ k : Nat, k ≤ rs.length ∧ i = .int .i64 k ∧ ∃ n, wr = ((w.alloc (.cells #[.int .i64 op, .int .i64 vs, .slice A rs.length c, .int .i64 pts] 26)).alloc (.cells #[.int .i64 op, .int .i64 vs, .slice A' rs.length c', .int .i64 pts] 26)).drewN n)
    (fun i _ => rs.length - (intOf i).toNat)
  case atStart => exact ⟨0, by omega, rfl, 0, rfl⟩
  case round =>
    obtain ⟨k, hk, rfl, n, rfl⟩ := hrel
    by_cases hlt : k < rs.length
    · obtain ⟨r, hr⟩ : ∃ r, rs[k]? = some r := ⟨_, List.getElem?_eq_getElem hlt⟩
      obtain ⟨d, v, m, A2, c2, hs2⟩ : ∃ d v m A2 c2, ss[k]? = some ⟨d, v, A2, m, c2⟩ ∧ r.d = d ∧ r.v = v ∧ r.n = m := by
        have h := congrArg (fun l => l[k]?) HK.out
        simp only [List.getElem?_map, hr] at h
        cases hss : ss[k]? with
        | none => rw [hss] at h; simp at h
        | some s =>
          rw [hss] at h
          simp only [Option.map_some, Option.some.injEq, Rg.key, Prod.mk.injEq] at h
          exact ⟨s.d, s.v, s.n, s.A, s.c, rfl, h.1, h.2.1, h.2.2⟩
      obtain ⟨hss, e1, e2, e3⟩ := hs2
      obtain ⟨b, off, rfl, hB, c0, c1, c2'⟩ := hsW.rg hr
      obtain ⟨b', off', rfl, hB', c0', c1', c2''⟩ := hsW'.rg hss
      rw [e1] at c0
      rw [e2] at c1
      rw [e3] at c2'
      simp only at c0' c1' c2''
      go_wp2
      go_quiet (fail)
      go_wp2
      go_roundw
      case rel => exact ⟨k + 1, by omega, by go_num, _, rfl⟩
      case measure => simp [intOf]; omega
    · have hk' : k = rs.length := by omega
      subst hk'
      go_wp2
      go_ret
      exact ⟨rfl, bl_drewN (bl_alloc (bl_alloc (Below.refl _ _) _) _) _⟩
end Go.Proofs.YtcfbkabiapaobaaDoor
