/- append(b, make([]byte, k)...) onto a row of the call's own: the translation hands the builtin the number k. -/
import Derived.Test.YtnnglpohkhjggaaDoorFormat
import Derived.Lib.AppendZerosOnto
namespace Go.Proofs.YtnnglpohkhjggaaDoor
open Go.RowKit

theorem zeroCells_u8 (k : Nat) : Builtin.zeroCells #[.int .u8 0] k = (byCells (List.replicate k 0)).toArray := by
  apply Array.ext
  · simp [Builtin.zeroCells, byCells]
  · intro i h1 h2
    simp [Builtin.zeroCells, byCells, Nat.mod_one]

theorem run_append_zeros {w : World} {base g n cap k : Nat} {ty : TypeId} {bs : List Int} (hown : w.ownsRow base 5 1 (.slice (some ⟨g, 0, none⟩) n cap) n (byCells bs)) (hk : n + k ≤ 1000000) (hbase : base ≤ w.heap.size) (hn : 0 < n) :
    ∃ v' w', (Builtin.append_ #[22, 3] ty #[.slice (some ⟨g, 0, none⟩) n cap, .int .i64 k]).run Tryd.prog w = .ok v' w' ∧ w'.ownsRow base 5 1 v' (n + k) (byCells (bs ++ List.replicate k 0)) ∧ w.grownBy w' (some g) := by
  obtain ⟨i0, hi, hz0, hz1, hz2⟩ := info_parts u8_info
  have hl := hown.1
  rcases hown.2 with ⟨h0, _⟩ | ⟨g', cap', cur, hv, hbg, hg, hnc, hcm, hcs, htake⟩
  · cases h0
  injection hv with e1 _ e3
  injection e1 with e1
  injection e1 with e1 _ _
  subst e1 e3
  have hw : IntKind.i64.wrap (k : Int) = k := by rw [IntKind.wrap_i64]; omega
  have hneg : ¬ ((k : Int) < 0) := by omega
  have h48i : ¬ (281474976710656 < (k : Int)) := by omega
  have hlb : (byCells (bs ++ List.replicate k 0)).length = (n + k) * 1 := by
    rw [byCells_append, List.length_append, hl]; simp [byCells]
  by_cases hroom : n + k ≤ cap
  · have hst := run_storeCells_at Tryd.prog g (n * 1) 5 (byCells (List.replicate k 0)) 0 cur w hg (by rw [hcs]; simp [byCells]; omega) (byCells_one _)
    refine ⟨.slice (some ⟨g, 0, none⟩) (n + k) cap, w.setRow g (cur.toList.take (n * 1) ++ byCells (List.replicate k 0) ++ cur.toList.drop (n * 1 + (byCells (List.replicate k 0)).length)).toArray, ?_, ?_, ?_⟩
    · by_cases hk0 : k = 0
      · subst hk0
        simp only [Nat.add_zero, Nat.mul_one, List.replicate_zero, byCells, List.map_nil] at hst
        have hw0 : IntKind.i64.wrap 0 = 0 := hw
        simp [Builtin.append_, run_underlying Tryd.underlying22, run_underlying Tryd.underlying3, sizeOf, typeInfo, zeroValue, hi, hz0, hz1, hz2, hw0, asInt, asIntOf, hnc, Value.cells, Addr.add_lit, hst, byCells]
      · simp only [Nat.add_zero, Nat.mul_one] at hst
        simp [Builtin.append_, run_underlying Tryd.underlying22, run_underlying Tryd.underlying3, sizeOf, typeInfo, zeroValue, hi, hz0, hz1, hz2, asInt, asIntOf, hw, hneg, h48i, hroom, hk0, Value.cells, zeroCells_u8, Addr.add_lit, hst]
    · refine ⟨hlb, .inr ⟨g, cap, _, rfl, hbg, setRow_heap w g cur _ _ _ hg, hroom, hcm, ?_, ?_⟩⟩
      · simp only [List.size_toArray, List.length_append, List.length_take, List.length_drop, Array.length_toList]
        simp [byCells]
        omega
      · rw [htake, byCells_append, ← hlb, byCells_append]
        exact List.take_left
    · exact ⟨rfl, rfl, rfl, by simp, fun j _ hj => setRow_other w g j _ (fun e => hj (by rw [e]))⟩
  · have hk0 : 0 < k := by omega
    have hold : (Builtin.firstCells i0.size n (.slice (some ⟨g, 0, none⟩) n cap)).run Tryd.prog w.drew = .ok (byCells bs).toArray w.drew :=
      run_firstCells_some w.drew i0.size n ⟨g, 0, none⟩ n cap (byCells bs) (by rw [hl, hz1]) (fun j u hu => hown.cells (g := g) rfl j u hu)
    have hr := Lib.run_append_grow_zeros (P := Tryd.prog) w 22 3 ty 5 i0 (.int .u8 0) .i64 .i64 Tryd.underlying22 Tryd.underlying3 hi hz0 (some ⟨g, 0, none⟩) n cap (byCells bs) hold k hk0 (by omega) (by omega) (by omega) (by rw [hz2]; omega) (growslice_fits (by omega) (by rw [hz2]; omega))
    have hge := grownCap_ge w (n + k) cap 5
    have hcm' : grownCap w (n + k) cap 5 ≤ maxLen := grownCap_le_maxLen w (n + k) cap 5 (by unfold maxLen; omega)
    refine ⟨_, _, hr, ⟨hlb, .inr ⟨w.heap.size, _, _, rfl, hbase, heap_alloc_new w.drew _, hge, hcm', ?_, ?_⟩⟩, ⟨rfl, rfl, rfl, by simp, fun j hj _ => heap_alloc_old w.drew _ hj⟩⟩
    · have e1 : (byCells bs).length = n := by rw [hl]; omega
      simp [size_zeroCells, Value.cells, e1]
      omega
    · rw [← hlb]
      simp only [Value.cells, zeroCells_u8, byCells_append, Array.toList_append, List.append_assoc]
      rw [← List.append_assoc]
      exact List.take_left
end Go.Proofs.YtnnglpohkhjggaaDoor
