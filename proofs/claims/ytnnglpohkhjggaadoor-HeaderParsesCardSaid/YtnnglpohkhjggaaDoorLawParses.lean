/- HeaderParses: for every string of bytes, Parse returns the same header, length and error as the reference. No condition. -/

import Derived.Test.YtnnglpohkhjggaaDoorAlive17
import Derived.Test.YtnnglpohkhjggaaDoorSame
import Derived.Test.YtnnglpohkhjggaaDoorFrame
namespace Go.Proofs.YtnnglpohkhjggaaDoor
open Go.RowKit

section
variable (bs : List Int) (A : Option Addr) (c : Nat) (w : World)
variable (hs : Sl w w.heap.size A (byCells bs)) (hcap : bs.length ≤ c) (hby : ∀ (j : Nat) (x : Int), bs[j]? = some x → 0 ≤ x ∧ x ≤ 255) (hmax : bs.length ≤ maxLen)
variable (hfix : Fixed w) (hg : 0 < w.heap.size)
include hs hcap hby hmax hfix hg

set_option maxRecDepth 100000 in
set_option maxHeartbeats 1000000 in
theorem lawParses : Calls Tryd.prog 3 #[.slice A bs.length c] w fun e w' => e = .returned (.bool true) ∧ Below w.heap.size w w' := by
  have hlen := hparse_len bs
  have P := parse_any bs A c w hs hcap hby
  have R : ∀ w' : World, Below w.heap.size w w' → Calls Tryd.prog 11 #[.slice A bs.length c] w' (Parsed (hparse bs) w') := fun w' hb => rparse_any bs A c w' ((hs.below hb).more hb.size) hby
  revert P R hlen
  generalize hparse bs = r
  obtain ⟨⟨op, vs, rs, pts⟩, n, er⟩ := r
  intro hlen P R
  have HP := hide P; clear P
  have HR := hide R; clear R
  have HF := hide hfix; clear hfix
  have hrl : rs.length ≤ maxLen := Nat.le_trans hlen hmax
  have HRL := hide hrl; clear hrl hlen
  go_enter Tryd.func3, Tryd.ntmps3
  go_wp2_with fail
  refine HP.out.mono ?_
  rintro e w1 ⟨A1, c1, rfl, hsl1, hb1⟩
  dsimp only at hsl1
  go_wp2_with fail
  refine (HR.out _ (bl_alloc hb1 _)).mono ?_
  rintro e w2 ⟨A2, c2, rfl, hsl2, hb2⟩
  dsimp only at hsl2
  have B1 := (Blk.new w1 25 #[.int .i64 op, .int .i64 vs, .slice A1 rs.length c1, .int .i64 pts]).step hb2
  have hB2 := bl_step (bl_alloc hb1 _) hb2
  have hsA := (hsl1.below ((bl_alloc (Below.refl _ _) (.cells #[.int .i64 op, .int .i64 vs, .slice A1 rs.length c1, .int .i64 pts] 25)).trans (hb2.mono (by simp)))).more (B' := w2.heap.size) (by have := B1.lt; omega)
  go_wp2_with fail
  obtain ⟨g1, g2⟩ := fixed_at w HF.out hg (bl_alloc hB2 (.cells #[.int .i64 op, .int .i64 vs, .slice A2 rs.length c2, .int .i64 pts] 25))
  refine (alive_true _ g1 g2).mono ?_
  rintro e w3 ⟨rfl, hb3⟩
  have hB3 := bl_step (bl_alloc hB2 _) hb3
  have C1 := (B1.alloc (.cells #[.int .i64 op, .int .i64 vs, .slice A2 rs.length c2, .int .i64 pts] 25)).step hb3
  have C2 := (Blk.new w2 25 #[.int .i64 op, .int .i64 vs, .slice A2 rs.length c2, .int .i64 pts]).step hb3
  have f10 := C1.cell (i := 0) rfl
  have f11 := C1.cell (i := 1) rfl
  have f12 := C1.cell (i := 2) rfl
  have f13 := C1.cell (i := 3) rfl
  have f20 := C2.cell (i := 0) rfl
  have f21 := C2.cell (i := 1) rfl
  have f22 := C2.cell (i := 2) rfl
  have f23 := C2.cell (i := 3) rfl
  have hst : Below w2.heap.size w2 w3 := (bl_alloc (Below.refl _ _) _).trans (hb3.mono (by simp))
  go_wp2_with fail
  refine (same_true op vs pts rs rs A1 A2 c1 c2 w3 ((hsA.below hst).more hst.size) ((hsl2.below hst).more hst.size) rfl HRL.out).mono ?_
  rintro e w4 ⟨rfl, hb4⟩
  go_wp2
  go_ret
  exact ⟨rfl, bl_step hB3 hb4⟩
end
end Go.Proofs.YtnnglpohkhjggaaDoor
