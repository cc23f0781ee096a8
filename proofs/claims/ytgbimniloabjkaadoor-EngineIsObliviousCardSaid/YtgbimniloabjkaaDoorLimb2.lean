/- limb: Add and Sub on the limbs of numbers. -/
import Derived.Test.YtgbimniloabjkaaDoorLimb
import Derived.Laws.MakeOwn
namespace Go.Proofs.YtgbimniloabjkaaDoor
open Go.RowKit

theorem make_u64 (n : Nat) (hn : n ≤ 1000) (w : World) : (Instr.makeSlice 127 (.int .i64 (n : Int)) (.int .i64 (n : Int))).run Tryd.prog w = .ok (.slice (some ⟨w.heap.size, 0, none⟩) n n) (w.alloc (.cells (uCs (List.replicate n 0)).toArray 70)) := by
  obtain ⟨i, hi, hz0, hz1, hz2⟩ := info_parts u64_info
  have h := run_make (P := Tryd.prog) w 127 70 i _ Tryd.underlying127 hi hz0 .i64 .i64 n n (by omega) (Int.le_refl _) (by rw [hz2]; omega) (by omega)
  rw [hz1] at h
  have e : madeCells (Value.cells (.int .u64 0)) (n * 1) = (uCs (List.replicate n 0)).toArray := by
    apply Array.ext
    · simp [size_madeCells, uCs]
    · intro j h1 h2
      simp [madeCells, uCs, Value.cells, Nat.mod_one]
  rw [← e]
  simpa using h
theorem set_cells {d : List Int} {k n : Nat} (hd : d.length = k) (hk : k < n) (z : Int) :
    (uCs (d ++ List.replicate (n - k) 0)).toArray.setIfInBounds k (.int .u64 z) = (uCs ((d ++ [z]) ++ List.replicate (n - (k + 1)) 0)).toArray := by
  obtain ⟨j, hj⟩ : ∃ j, n - k = j + 1 := ⟨n - k - 1, by omega⟩
  have hj2 : n - (k + 1) = j := by omega
  rw [hj, hj2, List.replicate_succ]
  subst hd
  simp [uCs, List.setIfInBounds_toArray]
theorem get_cells {d : List Int} {k n : Nat} (hd : d.length = k) (hk : k < n) : (uCs (d ++ List.replicate (n - k) 0)).toArray[k]? = some (.int .u64 0) := by
  obtain ⟨j, hj⟩ : ∃ j, n - k = j + 1 := ⟨n - k - 1, by omega⟩
  rw [hj, List.replicate_succ]
  subst hd
  simp [uCs]

set_option maxRecDepth 100000 in
set_option maxHeartbeats 2000000 in
theorem apply_sub (n : Nat) (x y : Int) (hn : 1 ≤ n) (hn8 : n ≤ 8) (A A' : Option Addr) (c c' : Nat) (w : World) (hs : Sl w w.heap.size A (uCs (lims n x))) (hs' : Sl w w.heap.size A' (uCs (lims n y))) :
    Calls Tryd.prog 90 #[.agg #[.func (.func 93) #[] #[]], .slice A n c, .slice A' n c', .int .u64 0] w (GaveL (lims n (x - y)) w) := by
  have hll := lims_length n x
  have hll' := lims_length n y
  obtain ⟨b, off, rfl, hb, hcell⟩ := hs.u (by omega)
  obtain ⟨b', off', rfl, hb', hcell'⟩ := hs'.u (by omega)
  obtain ⟨w0, hw0⟩ : ∃ w0, w0 = w.alloc (.cells #[.func (.func 93) #[] #[]] 155) := ⟨_, rfl⟩
  have hb0 : Below w.heap.size w w0 := by rw [hw0]; exact bl_alloc (Below.refl _ _) _
  have C0 : Blk w0 w.heap.size 155 #[.func (.func 93) #[] #[]] := by rw [hw0]; exact Blk.new _ _ _
  obtain ⟨w1, hw1⟩ : ∃ w1, w1 = w0.alloc (.cells #[.slice (some ⟨b, off, none⟩) n c, .slice (some ⟨b', off', none⟩) n c'] 127) := ⟨_, rfl⟩
  have hb1 : Below w0.heap.size w0 w1 := by rw [hw1]; exact bl_alloc (Below.refl _ _) _
  have X1 : Blk w1 (w.heap.size + 1) 127 #[.slice (some ⟨b, off, none⟩) n c, .slice (some ⟨b', off', none⟩) n c'] := by rw [hw1, hw0]; exact Blk.new2 _ _ _ _
  have HB1 := bl_step hb0 hb1
  have IS := is_true [(some ⟨b, off, none⟩, n, c), (some ⟨b', off', none⟩, n, c')] (by simp; omega) (by simp) (by simp) w1.heap.size (some ⟨w.heap.size + 1, 0, none⟩) 2 w1 (Sl.mk X1.lt fun j u hu => by
    rw [Nat.zero_add]; exact X1.cell (by simpa [slCs] using hu))
  obtain ⟨w2, hw2⟩ : ∃ w2, w2 = w1.alloc (.cells (uCs (List.replicate n 0)).toArray 70) := ⟨_, rfl⟩
  have hb2 : Below w1.heap.size w1 w2 := by rw [hw2]; exact bl_alloc (Below.refl _ _) _
  have G2 : Blk w2 w1.heap.size 70 (uCs (List.replicate n 0)).toArray := by rw [hw2]; exact Blk.new _ _ _
  have C1 := C0.step hb1
  have hmk := make_u64 n (by omega)
  have HIS := hide IS
  have HC := hide hcell; have HC' := hide hcell'
  clear IS hcell hcell' hs hs'
  have hz1 : w.heap.size + 2 ≤ w1.heap.size := by have := C1.lt; have := hb1.size; have := X1.lt; have := C0.lt; omega
  go_enter Tryd.func90, Tryd.ntmps90
  go_wp2_with fail
  rw [← hw0, ← hw1]
  have HW0 := hide hw0; have HW1 := hide hw1
  clear hw0 hw1
  refine HIS.out.mono ?_
  rintro e w' ⟨rfl, rfl⟩
  go_wp2
  rw [← hw2]
  have HW2 := hide hw2
  clear hw2 hmk
  obtain ⟨g, hg⟩ : ∃ g, g = w1.heap.size := ⟨_, rfl⟩
  rw [← hg] at G2 ⊢
  have hge : w1.heap.size ≤ g ∧ g ≤ w1.heap.size := by omega
  clear hg
  go_loopw [3, 28] (fun u i wr => ∃ (k : Nat) (d : List Int) (bo : Int), k ≤ n ∧ i = .int .i64 k ∧ u = .int .u64 bo ∧ SubSt (lims n x) (lims n y) d k bo ∧ Below w1.heap.size w1 wr ∧ Blk wr g 70 (uCs (d ++ List.replicate (n - k) 0)).toArray)
    (fun _ i _ => n - (intOf i).toNat)
  case atStart => exact ⟨0, [], 0, by omega, rfl, rfl, SubSt.start _ _, hb2, by simpa using G2⟩
  case round =>
    obtain ⟨k, d, bo, hk, rfl, rfl, hst, hbr, hblk⟩ := hrel
    have HBr := bl_step HB1 hbr
    by_cases hlt : k < n
    · have hx := lims_get x hlt
      have hy := lims_get y hlt
      have hxb := lim_bd x k
      have hyb := lim_bd y k
      have c0 := (HBr.cell (p := ⟨b, off + k, none⟩) hb).trans (HC.out _ _ hx)
      have c1 := (HBr.cell (p := ⟨b', off' + k, none⟩) hb').trans (HC'.out _ _ hy)
      have hst' := hst.step hx hy hxb.1 hxb.2 hyb.1 hyb.2
      generalize hxk : lim x k = xk at *
      generalize hyk : lim y k = yk at *
      have b0 := hst.b0
      have b1 := hst.b1
      have HW : Hid (∀ wk, Calls Tryd.prog 93 #[.int .u64 xk, .int .u64 yk, .int .u64 bo] wk fun e w' => e = .returned (.tuple #[.int .u64 ((xk - yk - bo) % 18446744073709551616), .int .u64 (bor xk yk bo)]) ∧ wk = w') := hide fun wk => wsub_any xk yk bo hxb.1 hxb.2 hyb.1 hyb.2 b0 b1 wk
      have q0 := ((C1.step hbr)).cell (i := 0) rfl
      have g0 := hblk.cell (get_cells hst.len hlt)
      have f0 := hblk.frozen k
      have hgl := hblk.lt
      have HST := hide hst'
      obtain ⟨z, hz⟩ : ∃ z, z = (xk - yk - bo) % 18446744073709551616 := ⟨_, rfl⟩
      obtain ⟨q, hq⟩ : ∃ q, q = bor xk yk bo := ⟨_, rfl⟩
      rw [← hz, ← hq] at HW HST
      have HB := hide (hblk.drew.set k (.int .u64 z))
      rw [set_cells hst.len hlt] at HB
      have hkn : (k : Int) < (n : Int) := by omega
      have hk0 : (0 : Int) ≤ (k : Int) := by omega
      have hwl : w.heap.size < wr.heap.size := by have := hbr.size; omega
      clear hst hst' hx hy hz hq hxk hyk hblk b0 b1
      go_wp2
      go_region_law (first
        | (go_simp; go_at_call 93; refine (HW.out _).mono ?_; rintro e w' ⟨rfl, rfl⟩))
      all_goals
        go_wp2
        go_roundw
        case rel => exact ⟨k + 1, _, _, by omega, by go_num, rfl, HST.out, (bl_drew hbr).setCell (by simp; omega) _, HB.out⟩
        case measure => simp [intOf]; omega
    · obtain rfl : n = k := by omega
      have hd := hst.done
      subst hd
      have hsl : Sl wr wr.heap.size (some ⟨g, 0, none⟩) (uCs (lims n (x - y))) := Sl.mk hblk.lt fun j u hu => by
        rw [Nat.zero_add]; exact hblk.cell (by simpa using hu)
      have HSL := hide hsl
      clear hst hblk hsl
      go_wp2
      go_ret
      refine ⟨some ⟨g, 0, none⟩, n, ?_, HBr, HSL.out⟩
      rw [lims_length]; rfl
set_option maxRecDepth 100000 in
set_option maxHeartbeats 1000000 in
theorem lsub_any (n : Nat) (x y : Int) (hn : 1 ≤ n) (hn8 : n ≤ 8) (A A' : Option Addr) (c c' : Nat) (w : World) (hs : Sl w w.heap.size A (uCs (lims n x))) (hs' : Sl w w.heap.size A' (uCs (lims n y))) :
    Calls Tryd.prog 86 #[.slice A n c, .slice A' n c'] w (GaveL (lims n (x - y)) w) := by
  have HA := hide (apply_sub n x y hn hn8 A A' c c' w hs hs')
  clear hs hs'
  go_enter Tryd.func86, Tryd.ntmps86
  go_wp2_with fail
  refine HA.out.mono ?_
  rintro e w1 ⟨A1, c1, rfl, hb1, h1⟩
  go_wp2
  go_ret
  exact ⟨A1, c1, rfl, hb1, h1⟩

set_option maxRecDepth 100000 in
set_option maxHeartbeats 2000000 in
theorem apply_add (n : Nat) (x y : Int) (hn : 1 ≤ n) (hn8 : n ≤ 8) (A A' : Option Addr) (c c' : Nat) (w : World) (hs : Sl w w.heap.size A (uCs (lims n x))) (hs' : Sl w w.heap.size A' (uCs (lims n y))) :
    Calls Tryd.prog 90 #[.agg #[.func (.func 89) #[] #[]], .slice A n c, .slice A' n c', .int .u64 0] w (GaveL (lims n (x + y)) w) := by
  have hll := lims_length n x
  have hll' := lims_length n y
  obtain ⟨b, off, rfl, hb, hcell⟩ := hs.u (by omega)
  obtain ⟨b', off', rfl, hb', hcell'⟩ := hs'.u (by omega)
  obtain ⟨w0, hw0⟩ : ∃ w0, w0 = w.alloc (.cells #[.func (.func 89) #[] #[]] 155) := ⟨_, rfl⟩
  have hb0 : Below w.heap.size w w0 := by rw [hw0]; exact bl_alloc (Below.refl _ _) _
  have C0 : Blk w0 w.heap.size 155 #[.func (.func 89) #[] #[]] := by rw [hw0]; exact Blk.new _ _ _
  obtain ⟨w1, hw1⟩ : ∃ w1, w1 = w0.alloc (.cells #[.slice (some ⟨b, off, none⟩) n c, .slice (some ⟨b', off', none⟩) n c'] 127) := ⟨_, rfl⟩
  have hb1 : Below w0.heap.size w0 w1 := by rw [hw1]; exact bl_alloc (Below.refl _ _) _
  have X1 : Blk w1 (w.heap.size + 1) 127 #[.slice (some ⟨b, off, none⟩) n c, .slice (some ⟨b', off', none⟩) n c'] := by rw [hw1, hw0]; exact Blk.new2 _ _ _ _
  have HB1 := bl_step hb0 hb1
  have IS := is_true [(some ⟨b, off, none⟩, n, c), (some ⟨b', off', none⟩, n, c')] (by simp; omega) (by simp) (by simp) w1.heap.size (some ⟨w.heap.size + 1, 0, none⟩) 2 w1 (Sl.mk X1.lt fun j u hu => by
    rw [Nat.zero_add]; exact X1.cell (by simpa [slCs] using hu))
  obtain ⟨w2, hw2⟩ : ∃ w2, w2 = w1.alloc (.cells (uCs (List.replicate n 0)).toArray 70) := ⟨_, rfl⟩
  have hb2 : Below w1.heap.size w1 w2 := by rw [hw2]; exact bl_alloc (Below.refl _ _) _
  have G2 : Blk w2 w1.heap.size 70 (uCs (List.replicate n 0)).toArray := by rw [hw2]; exact Blk.new _ _ _
  have C1 := C0.step hb1
  have hmk := make_u64 n (by omega)
  have HIS := hide IS
  have HC := hide hcell; have HC' := hide hcell'
  clear IS hcell hcell' hs hs'
  have hz1 : w.heap.size + 2 ≤ w1.heap.size := by have := C1.lt; have := hb1.size; have := X1.lt; have := C0.lt; omega
  go_enter Tryd.func90, Tryd.ntmps90
  go_wp2_with fail
  rw [← hw0, ← hw1]
  have HW0 := hide hw0; have HW1 := hide hw1
  clear hw0 hw1
  refine HIS.out.mono ?_
  rintro e w' ⟨rfl, rfl⟩
  go_wp2
  rw [← hw2]
  have HW2 := hide hw2
  clear hw2 hmk
  obtain ⟨g, hg⟩ : ∃ g, g = w1.heap.size := ⟨_, rfl⟩
  rw [← hg] at G2 ⊢
  have hge : w1.heap.size ≤ g ∧ g ≤ w1.heap.size := by omega
  clear hg
  go_loopw [3, 28] (fun u i wr => ∃ (k : Nat) (d : List Int) (bo : Int), k ≤ n ∧ i = .int .i64 k ∧ u = .int .u64 bo ∧ AddSt (lims n x) (lims n y) d k bo ∧ Below w1.heap.size w1 wr ∧ Blk wr g 70 (uCs (d ++ List.replicate (n - k) 0)).toArray)
    (fun _ i _ => n - (intOf i).toNat)
  case atStart => exact ⟨0, [], 0, by omega, rfl, rfl, AddSt.start _ _, hb2, by simpa using G2⟩
  case round =>
    obtain ⟨k, d, bo, hk, rfl, rfl, hst, hbr, hblk⟩ := hrel
    have HBr := bl_step HB1 hbr
    by_cases hlt : k < n
    · have hx := lims_get x hlt
      have hy := lims_get y hlt
      have hxb := lim_bd x k
      have hyb := lim_bd y k
      have c0 := (HBr.cell (p := ⟨b, off + k, none⟩) hb).trans (HC.out _ _ hx)
      have c1 := (HBr.cell (p := ⟨b', off' + k, none⟩) hb').trans (HC'.out _ _ hy)
      have hst' := hst.step hx hy hxb.1 hxb.2 hyb.1 hyb.2
      generalize hxk : lim x k = xk at *
      generalize hyk : lim y k = yk at *
      have b0 := hst.b0
      have b1 := hst.b1
      have HW : Hid (∀ wk, Calls Tryd.prog 89 #[.int .u64 xk, .int .u64 yk, .int .u64 bo] wk fun e w' => e = .returned (.tuple #[.int .u64 ((xk + yk + bo) % 18446744073709551616), .int .u64 ((xk + yk + bo) / 18446744073709551616)]) ∧ wk = w') := hide fun wk => wadd_any xk yk bo hxb.1 hyb.1 b0 b1 wk
      have q0 := ((C1.step hbr)).cell (i := 0) rfl
      have g0 := hblk.cell (get_cells hst.len hlt)
      have f0 := hblk.frozen k
      have hgl := hblk.lt
      have HST := hide hst'
      obtain ⟨z, hz⟩ : ∃ z, z = (xk + yk + bo) % 18446744073709551616 := ⟨_, rfl⟩
      obtain ⟨q, hq⟩ : ∃ q, q = (xk + yk + bo) / 18446744073709551616 := ⟨_, rfl⟩
      rw [← hz, ← hq] at HW HST
      have HB := hide (hblk.drew.set k (.int .u64 z))
      rw [set_cells hst.len hlt] at HB
      have hkn : (k : Int) < (n : Int) := by omega
      have hk0 : (0 : Int) ≤ (k : Int) := by omega
      have hwl : w.heap.size < wr.heap.size := by have := hbr.size; omega
      clear hst hst' hx hy hz hq hxk hyk hblk b0 b1
      go_wp2
      go_region_law (first
        | (go_simp; go_at_call 89; refine (HW.out _).mono ?_; rintro e w' ⟨rfl, rfl⟩))
      all_goals
        go_wp2
        go_roundw
        case rel => exact ⟨k + 1, _, _, by omega, by go_num, rfl, HST.out, (bl_drew hbr).setCell (by simp; omega) _, HB.out⟩
        case measure => simp [intOf]; omega
    · obtain rfl : n = k := by omega
      have hd := hst.done
      subst hd
      have hsl : Sl wr wr.heap.size (some ⟨g, 0, none⟩) (uCs (lims n (x + y))) := Sl.mk hblk.lt fun j u hu => by
        rw [Nat.zero_add]; exact hblk.cell (by simpa using hu)
      have HSL := hide hsl
      clear hst hblk hsl
      go_wp2
      go_ret
      refine ⟨some ⟨g, 0, none⟩, n, ?_, HBr, HSL.out⟩
      rw [lims_length]; rfl
set_option maxRecDepth 100000 in
set_option maxHeartbeats 1000000 in
theorem ladd_any (n : Nat) (x y : Int) (hn : 1 ≤ n) (hn8 : n ≤ 8) (A A' : Option Addr) (c c' : Nat) (w : World) (hs : Sl w w.heap.size A (uCs (lims n x))) (hs' : Sl w w.heap.size A' (uCs (lims n y))) :
    Calls Tryd.prog 79 #[.slice A n c, .slice A' n c'] w (GaveL (lims n (x + y)) w) := by
  have HA := hide (apply_add n x y hn hn8 A A' c c' w hs hs')
  clear hs hs'
  go_enter Tryd.func79, Tryd.ntmps79
  go_wp2_with fail
  refine HA.out.mono ?_
  rintro e w1 ⟨A1, c1, rfl, hb1, h1⟩
  go_wp2
  go_ret
  exact ⟨A1, c1, rfl, hb1, h1⟩
end Go.Proofs.YtgbimniloabjkaaDoor
