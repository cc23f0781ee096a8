/- geofencelaw16.Large and geofencelaw19.Large: they return 0 or 1; if 0, each region has at most 250 points. -/
import Derived.Test.YtgbimniloabjkaaGreatDoorEncode
namespace Go.Proofs.YtgbimniloabjkaaGreatDoor
open Go.RowKit

def Lrg (rs : List Rg) (w : World) (e : Ending) (w' : World) : Prop := ∃ z : Int, e = .returned (.int .i64 z) ∧ (z = 0 ∨ z = 1) ∧ (z = 0 → (∀ r ∈ rs, r.n ≤ 250) ∧ rs.length ≤ 250) ∧ Below w.heap.size w w'
set_option maxRecDepth 100000 in
set_option maxHeartbeats 4000000 in
theorem large16 (rs : List Rg) (A : Option Addr) (c : Nat) (w : World) (hs : Sl w w.heap.size A (rgCells rs)) (hn : rs.length ≤ maxLen) :
    Calls Tryz.prog 17 #[.slice A rs.length c] w (Lrg rs w) := by
  unfold maxLen at hn
  have HS := hide hs; clear hs
  go_enter Tryz.func17, Tryz.ntmps17
  go_wp2
  go_loopw [3, 8] (fun x i wr => ∃ (k : Nat) (z : Int), k ≤ rs.length ∧ i = .int .i64 k ∧ x = .int .i64 z ∧ (k : Int) ≤ z ∧ z ≤ 250 ∧ Hid (∀ r ∈ rs.take k, r.n ≤ 250) ∧ Below w.heap.size w wr)
    (fun _ i _ => rs.length - (intOf i).toNat)
  case atStart => exact ⟨0, 0, by omega, rfl, rfl, by omega, by omega, hide (fun r hr => by simp at hr), Below.refl _ _⟩
  case round =>
    obtain ⟨k, z, hk, rfl, rfl, hz0, hz1, hT, hbr⟩ := hrel
    by_cases hlt : k < rs.length
    · obtain ⟨r, hr⟩ : ∃ r, rs[k]? = some r := ⟨_, List.getElem?_eq_getElem hlt⟩
      obtain ⟨b, off, rfl, hB, c0, c1, c2⟩ := (HS.out.below hbr).rg hr
      have HTS : Hid (rs.take (k + 1) = rs.take k ++ [r]) := hide (by rw [List.take_add_one, hr]; rfl)
      have hlti : ((k : Nat) : Int) < ((rs.length : Nat) : Int) := by omega
      obtain ⟨d, v, A, n, c⟩ := r
      dsimp only at *
      clear hr
      by_cases hn5 : n ≤ 500
      · have hmin : min ((n : Nat) : Int) 500 = (n : Int) := by omega
        have hw1 : IntKind.i64.wrap (1 + (n : Int)) = 1 + (n : Int) := by rw [IntKind.wrap_i64]; omega
        have hw2 : IntKind.i64.wrap (z + (1 + (n : Int))) = z + (1 + (n : Int)) := by rw [IntKind.wrap_i64]; omega
        by_cases hbig : 250 < z + (1 + (n : Int))
        · go_wp2
          go_ret
          exact ⟨1, rfl, .inr rfl, fun h => by omega, bl_alloc hbr _⟩
        · have hT2 : Hid (∀ r ∈ rs.take (k + 1), r.n ≤ 250) := hide (by
            rw [HTS.out]
            intro r hr
            rcases List.mem_append.1 hr with h | h
            · exact hT.out r h
            · obtain rfl := List.mem_singleton.1 h
              show n ≤ 250
              omega)
          go_wp2
          go_roundw
          case rel => exact ⟨k + 1, z + (1 + (n : Int)), by omega, by go_num, rfl, by omega, by omega, hT2, bl_alloc hbr _⟩
          case measure => simp [intOf]; omega
      · have hmin : min ((n : Nat) : Int) 500 = 500 := by omega
        have hw2 : IntKind.i64.wrap (z + 501) = z + 501 := by rw [IntKind.wrap_i64]; omega
        have hbig : 250 < z + 501 := by omega
        go_wp2
        go_ret
        exact ⟨1, rfl, .inr rfl, fun h => by omega, bl_alloc hbr _⟩
    · obtain rfl : k = rs.length := by omega
      rw [List.take_length] at hT
      go_wp2
      go_ret
      exact ⟨0, rfl, .inl rfl, fun _ => ⟨hT.out, by omega⟩, hbr⟩

section
variable (op vs pts : Int) (hrs : List Rg) (HA : Option Addr) (hc : Nat) (gs : List Gr) (GA : Option Addr) (gc : Nat) (ps : List (Int × Int)) (PA : Option Addr) (pc : Nat) (qs : List ((Int × Int) × Int)) (QA : Option Addr) (qc : Nat) (w : World)
variable (hgc : Sl w w.heap.size GA (rgCells (gs.map (·.1)))) (hgn : gs.length ≤ maxLen)
/-- is a request too large -/
def Lreq (gs : List Gr) (ps : List (Int × Int)) (w : World) (e : Ending) (w' : World) : Prop := ∃ z : Int, e = .returned (.int .i64 z) ∧ (z = 0 ∨ z = 1) ∧ (z = 0 → (∀ g ∈ gs, g.1.n ≤ 250) ∧ gs.length ≤ 250 ∧ ps.length ≤ 100) ∧ Below w.heap.size w w'
include hgc hgn
set_option maxRecDepth 100000 in
set_option maxHeartbeats 4000000 in
theorem large19 : Calls Tryz.prog 6 #[.agg #[.int .i64 op, .int .i64 vs, .slice HA hrs.length hc, .int .i64 pts, .slice GA gs.length gc, .slice PA ps.length pc, .slice QA qs.length qc]] w (Lreq gs ps w) := by
  obtain ⟨w0, hw0⟩ : ∃ w0, w0 = w.alloc (.cells #[.int .i64 op, .int .i64 vs, .slice HA hrs.length hc, .int .i64 pts, .slice GA gs.length gc, .slice PA ps.length pc, .slice QA qs.length qc] 28) := ⟨_, rfl⟩
  have hb0 : Below w.heap.size w w0 := by rw [hw0]; exact bl_alloc (Below.refl _ _) _
  have B0 : Blk w0 w.heap.size 28 #[.int .i64 op, .int .i64 vs, .slice HA hrs.length hc, .int .i64 pts, .slice GA gs.length gc, .slice PA ps.length pc, .slice QA qs.length qc] := by rw [hw0]; exact Blk.new _ _ _
  have L := large16 (gs.map (·.1)) GA gc w0 ((hgc.below hb0).more hb0.size) (by rw [List.length_map]; exact hgn)
  rw [List.length_map] at L
  have HL := hide L
  clear L hgc hgn
  go_enter Tryz.func6, Tryz.ntmps6
  go_wp2_with fail
  rw [← hw0]
  clear hw0
  refine HL.out.mono ?_
  rintro e w1 ⟨z, rfl, hz, hT, hb1⟩
  have B1 := B0.step hb1
  have b0 : w1.cell? ⟨w.heap.size, 2, none⟩ = some (.slice HA hrs.length hc) := B1.cell (i := 2) rfl
  have b1 : w1.cell? ⟨w.heap.size, 5, none⟩ = some (.slice PA ps.length pc) := B1.cell (i := 5) rfl
  have b2 : w1.cell? ⟨w.heap.size, 6, none⟩ = some (.slice QA qs.length qc) := B1.cell (i := 6) rfl
  have HB := hide (bl_step hb0 hb1)
  have HT := hide hT
  clear B0 B1 hb0 hb1 hT
  rcases hz with rfl | rfl
  · have HG : Hid ((∀ g ∈ gs, g.1.n ≤ 250) ∧ gs.length ≤ 250) := hide ⟨fun g hg => (HT.out rfl).1 g.1 (List.mem_map.2 ⟨g, hg, rfl⟩), by have := (HT.out rfl).2; rwa [List.length_map] at this⟩
    have h1 : (100 : Int) < ((hrs.length : Nat) : Int) ∨ ¬ (100 : Int) < ((hrs.length : Nat) : Int) := by omega
    have h2 : (100 : Int) < ((ps.length : Nat) : Int) ∨ ¬ (100 : Int) < ((ps.length : Nat) : Int) := by omega
    have h3 : (1000 : Int) < ((qs.length : Nat) : Int) ∨ ¬ (1000 : Int) < ((qs.length : Nat) : Int) := by omega
    rcases h1 with h1 | h1 <;> rcases h2 with h2 | h2 <;> rcases h3 with h3 | h3
    all_goals
      go_wp2
      go_ret
      first
        | exact ⟨1, rfl, .inr rfl, fun h => by omega, HB.out⟩
        | exact ⟨0, rfl, .inl rfl, fun _ => ⟨HG.out.1, HG.out.2, by omega⟩, HB.out⟩
  · go_wp2
    go_ret
    exact ⟨1, rfl, .inr rfl, fun h => by omega, HB.out⟩
end
end Go.Proofs.YtgbimniloabjkaaGreatDoor
