/- Take -/
import Derived.Test.YtpnoofphfomjoaaGreatDoorPkE10
namespace Go.Proofs.YtpnoofphfomjoaaGreatDoor
open Go.RowKit
def eight (bs : List Int) (k : Nat) : List Int := (bs.drop k).take 8
theorem eight_len {bs : List Int} {k : Nat} (h : k + 8 ≤ bs.length) : (eight bs k).length = 8 := by unfold eight; rw [List.length_take, List.length_drop]; omega
theorem eight_by {bs : List Int} (h : By bs) (k : Nat) : By (eight bs k) := (h.drop _).take _
theorem eight_split (bs : List Int) (k : Nat) : bs.drop k = eight bs k ++ bs.drop (k + 8) := by
  unfold eight
  rw [← List.drop_drop, List.take_append_drop]
def ptRd (bs : List Int) (i : Nat) : Int × Int := (i64w (le (eight bs (16 * i))), i64w (le (eight bs (16 * i + 8))))
def quAt (bs : List Int) (i : Nat) : (Int × Int) × Int := ((i64w (le (eight bs (24 * i))), i64w (le (eight bs (24 * i + 8)))), le (eight bs (24 * i + 16)))
def ptsOf (bs : List Int) (n : Nat) : List (Int × Int) := (List.range n).map (ptRd bs)
def qusOf (bs : List Int) (n : Nat) : List ((Int × Int) × Int) := (List.range n).map (quAt bs)
theorem ptsOf_length (bs : List Int) (n : Nat) : (ptsOf bs n).length = n := by simp [ptsOf]
theorem ptsOf_get (bs : List Int) {n i : Nat} (h : i < n) : (ptsOf bs n)[i]? = some (ptRd bs i) := by simp [ptsOf, h]
theorem qusOf_length (bs : List Int) (n : Nat) : (qusOf bs n).length = n := by simp [qusOf]
theorem qusOf_get (bs : List Int) {n i : Nat} (h : i < n) : (qusOf bs n)[i]? = some (quAt bs i) := by simp [qusOf, h]
theorem pt_split (bs : List Int) (k : Nat) : bs.drop (16 * k) = eight bs (16 * k) ++ (eight bs (16 * k + 8) ++ bs.drop (16 * (k + 1))) := by
  rw [show 16 * (k + 1) = 16 * k + 8 + 8 by omega, ← eight_split, ← eight_split]
theorem qu_split (bs : List Int) (k : Nat) : bs.drop (24 * k) = eight bs (24 * k) ++ (eight bs (24 * k + 8) ++ (eight bs (24 * k + 16) ++ bs.drop (24 * (k + 1)))) := by
  rw [show 24 * (k + 1) = 24 * k + 16 + 8 by omega, ← eight_split, show 24 * k + 16 = 24 * k + 8 + 8 by omega, ← eight_split, ← eight_split]
theorem pt_info : (Tryz.prog.info? 69).map (fun i => (i.zero, i.size, i.bytes)) = some (some (.agg #[.int .i64 0, .int .i64 0]), 2, 16) := by kernel_rfl
theorem make_pts (n : Nat) (hn : n ≤ 1000000) (w : World) : (Instr.makeSlice 25 (.int .i64 (n : Int)) (.int .i64 (n : Int))).run Tryz.prog w = .ok (.slice (some ⟨w.heap.size, 0, none⟩) n n) (w.alloc (.cells (madeCells #[.int .i64 0, .int .i64 0] (n * 2)) 69)) := by
  obtain ⟨i, hi, hz0, hz1, hz2⟩ := info_parts pt_info
  have h := run_make (P := Tryz.prog) w 25 69 i _ Tryz.underlying25 hi hz0 .i64 .i64 n n (by omega) (Int.le_refl _) (by rw [hz2]; omega) (by omega)
  rw [hz1] at h
  simpa [Value.cells] using h
def TookPt (P : Nat → Prop) (B g : Nat) (bs : List Int) (n : Nat) (w : World) (e : Ending) (w' : World) : Prop :=
  ∃ A, e = .returned (.slice A n n) ∧ KeepP P w w' ∧ RS w' P B g (bs.drop (16 * n)) ∧ Sl w' w'.heap.size A (ptCs (ptsOf bs n)) ∧ ∀ x, A = some x → w.heap.size ≤ x.block ∧ x.block ≠ g
section
variable (P : Nat → Prop) (B g : Nat) (w : World) (hB : ∀ k, k < B → P k)
include hB
set_option maxRecDepth 100000 in
set_option maxHeartbeats 2000000 in
theorem takePt_any (bs : List Int) (n : Nat) (hn : 16 * n ≤ bs.length) (hbl : bs.length ≤ 700000) (hby : By bs) (hP : ∀ k, P k → k < w.heap.size) (hr : RS w P B g bs) :
    Calls Tryz.prog 108 #[.int .i64 (n : Int), .func (.func 109) #[.pointer (some ⟨g, 0, none⟩)] #[]] w (TookPt P B g bs n w) := by
  have hmk := make_pts n (by omega)
  obtain ⟨w0, hw0⟩ : ∃ w0, w0 = w.alloc (.cells (madeCells #[.int .i64 0, .int .i64 0] (n * 2)) 69) := ⟨_, rfl⟩
  have hb : Below w.heap.size w w0 := by rw [hw0]; exact bl_alloc (Below.refl _ _) _
  have hz : w0.heap.size = w.heap.size + 1 := by rw [hw0]; simp
  have B0 : Blk w0 w.heap.size 69 (madeCells #[.int .i64 0, .int .i64 0] (n * 2)) := by rw [hw0]; exact Blk.new _ _ _
  have hgs : g ≠ w.heap.size := by have := hr.lt; omega
  have hnP : ¬ P w.heap.size := fun h => by have := hP _ h; omega
  have hr0 : RS w0 P B g bs := hr.step hb hB hP
  have hP0 : ∀ k, Plus P w.heap.size k → k < w0.heap.size := fun k hk => by
    rcases hk with hk | hk
    · have := hP k hk; omega
    · omega
  have hBp : ∀ k, k < B → Plus P w.heap.size k := fun k hk => .inl (hB k hk)
  have k0 : KeepP P w w0 := KeepP.of_below hb hP
  have HP := hide hP; have HP0 := hide hP0; have HB := hide hB; have HBP := hide hBp; have HZ := hide hz; have HBY := hide hby; have HGS := hide hgs; have HNP := hide hnP
  clear hP hP0 hB hBp hz hby hgs hnP
  go_enter Tryz.func108, Tryz.ntmps108
  go_wp2
  rw [← hw0]
  have HW0 := hide hw0; clear hw0
  go_loopw [11] (fun i wr => ∃ (k : Nat) (cs : Array Value), k ≤ n ∧ i = .int .i64 k ∧ KeepP P w wr ∧ RS wr P B g (bs.drop (16 * k)) ∧ Blk wr w.heap.size 69 cs ∧ cs.size = n * 2 ∧ ∀ j, j < k → cs[j * 2]? = some (.int .i64 (ptRd bs j).1) ∧ cs[j * 2 + 1]? = some (.int .i64 (ptRd bs j).2))
    (fun i _ => n - (intOf i).toNat)
  case atStart => exact ⟨0, _, by omega, rfl, k0, by simpa using hr0, B0, size_madeCells _ _, fun j hj => by omega⟩
  case round =>
    obtain ⟨k, cs, hk, rfl, hkp, hrs, hblk, hsz, hcs⟩ := hrel
    have HCS := hide hcs; clear hcs
    by_cases hlt : k < n
    · have hsp := pt_split bs k
      rw [hsp] at hrs
      have hl0 : (eight bs (16 * k)).length = 8 := eight_len (by omega)
      have hl1 : (eight bs (16 * k + 8)).length = 8 := eight_len (by omega)
      have hPr : ∀ j, Plus P w.heap.size j → j < wr.heap.size := fun j hj => Nat.lt_of_lt_of_le (HP0.out j hj) (by have := hkp.size; have := hblk.lt; have := HZ.out; omega)
      have C := rdpoint_any (Plus P w.heap.size) B g wr HBP.out (eight bs (16 * k)) (eight bs (16 * k + 8)) (bs.drop (16 * (k + 1))) hl0 hl1 (eight_by HBY.out _) (eight_by HBY.out _) hPr (hrs.plus HGS.out) (by rw [List.length_drop]; omega)
      have C' : Calls Tryz.prog 109 #[.pointer (some ⟨g, 0, none⟩)] wr fun e w' => e = .returned (.agg #[.int .i64 (ptRd bs k).1, .int .i64 (ptRd bs k).2]) ∧ KeepP (Plus P w.heap.size) wr w' ∧ RS w' (Plus P w.heap.size) B g (bs.drop (16 * (k + 1))) := C
      have HC := hide C'
      have HSP := hide hsp
      clear C C' hl0 hl1 hPr hsp
      go_wp2_with fail
      refine HC.out.mono ?_
      rintro e w1 ⟨rfl, k1, r1⟩
      have B1 := hblk.kept k1 (.inr rfl)
      have q0 : k * 2 < cs.size := by omega
      have c0 := B1.cell (i := k * 2) (Array.getElem?_eq_getElem q0)
      have f0 := B1.frozen (k * 2)
      have q1 : k * 2 + 1 < cs.size := by omega
      have c1 := B1.cell (i := k * 2 + 1) (Array.getElem?_eq_getElem q1)
      have f1 := B1.frozen (k * 2 + 1)
      have hkn : (k : Int) < (n : Int) := by omega
      have r1' := r1.mono (R := P) (fun j hj => .inl hj)
      have r2 := ((r1'.far HGS.out HNP.out HB.out (k * 2) (.int .i64 (ptRd bs k).1)).far HGS.out HNP.out HB.out (k * 2 + 1) (.int .i64 (ptRd bs k).2))
      have B2 := ((B1.set (k * 2) (.int .i64 (ptRd bs k).1)).set (k * 2 + 1) (.int .i64 (ptRd bs k).2))
      have k2 := (((k1.mono (R := P) (fun j hj => .inl hj)).trans (KeepP.set HNP.out (k * 2) (.int .i64 (ptRd bs k).1) _)).trans (KeepP.set HNP.out (k * 2 + 1) (.int .i64 (ptRd bs k).2) _))
      have H2 := hide r2; have HK2 := hide k2; have HB2 := hide B2
      clear r1 r1' r2 k2 B2
      go_wp2
      go_roundw
      case rel =>
        refine ⟨k + 1, _, by omega, by go_num, hkp.trans HK2.out, H2.out, HB2.out, by simpa using hsz, fun j hj => ?_⟩
        simp only [Array.getElem?_setIfInBounds, Array.size_setIfInBounds]
        by_cases hjk : j = k
        · subst hjk
          refine ⟨?_, ?_⟩
          · rw [if_neg (by omega), if_pos rfl, if_pos q0]
          · rw [if_pos rfl, if_pos q1]
        · have := HCS.out j (by omega)
          refine ⟨?_, ?_⟩
          · rw [if_neg (by omega), if_neg (by omega)]; exact this.1
          · rw [if_neg (by omega), if_neg (by omega)]; exact this.2
      case measure => simp [intOf]; omega
    · have hk' : k = n := by omega
      subst hk'
      go_wp2
      go_ret
      refine ⟨_, rfl, hkp, hrs, ?_, fun x hx => by cases hx; exact ⟨Nat.le_refl _, fun h => HGS.out h.symm⟩⟩
      refine sl_of_cells hblk (pairs_get (fun p : Int × Int => [.int .i64 p.1, .int .i64 p.2]) 2 (by omega) (fun _ => rfl) _ _ fun i a ha j hj => ?_)
      have hi : i < k := by have := (List.getElem?_eq_some_iff.1 ha).1; rw [ptsOf_length] at this; exact this
      rw [ptsOf_get bs hi] at ha
      have ha' : ptRd bs i = a := by simpa using ha
      have := HCS.out i hi
      rw [ha'] at this
      match j, hj with
      | 0, _ => exact this.1
      | 1, _ => exact this.2
end
theorem qu_info : (Tryz.prog.info? 82).map (fun i => (i.zero, i.size, i.bytes)) = some (some (.agg #[.int .i64 0, .int .i64 0, .int .u64 0]), 3, 24) := by kernel_rfl
theorem make_qus (n : Nat) (hn : n ≤ 1000000) (w : World) : (Instr.makeSlice 26 (.int .i64 (n : Int)) (.int .i64 (n : Int))).run Tryz.prog w = .ok (.slice (some ⟨w.heap.size, 0, none⟩) n n) (w.alloc (.cells (madeCells #[.int .i64 0, .int .i64 0, .int .u64 0] (n * 3)) 82)) := by
  obtain ⟨i, hi, hz0, hz1, hz2⟩ := info_parts qu_info
  have h := run_make (P := Tryz.prog) w 26 82 i _ Tryz.underlying26 hi hz0 .i64 .i64 n n (by omega) (Int.le_refl _) (by rw [hz2]; omega) (by omega)
  rw [hz1] at h
  simpa [Value.cells] using h
def TookQu (P : Nat → Prop) (B g : Nat) (bs : List Int) (n : Nat) (w : World) (e : Ending) (w' : World) : Prop :=
  ∃ A, e = .returned (.slice A n n) ∧ KeepP P w w' ∧ RS w' P B g (bs.drop (24 * n)) ∧ Sl w' w'.heap.size A (quCs (qusOf bs n)) ∧ ∀ x, A = some x → w.heap.size ≤ x.block ∧ x.block ≠ g
section
variable (P : Nat → Prop) (B g : Nat) (w : World) (hB : ∀ k, k < B → P k)
include hB
set_option maxRecDepth 100000 in
set_option maxHeartbeats 2000000 in
theorem takeQu_any (bs : List Int) (n : Nat) (hn : 24 * n ≤ bs.length) (hbl : bs.length ≤ 700000) (hby : By bs) (hP : ∀ k, P k → k < w.heap.size) (hr : RS w P B g bs) :
    Calls Tryz.prog 110 #[.int .i64 (n : Int), .func (.func 111) #[.pointer (some ⟨g, 0, none⟩)] #[]] w (TookQu P B g bs n w) := by
  have hmk := make_qus n (by omega)
  obtain ⟨w0, hw0⟩ : ∃ w0, w0 = w.alloc (.cells (madeCells #[.int .i64 0, .int .i64 0, .int .u64 0] (n * 3)) 82) := ⟨_, rfl⟩
  have hb : Below w.heap.size w w0 := by rw [hw0]; exact bl_alloc (Below.refl _ _) _
  have hz : w0.heap.size = w.heap.size + 1 := by rw [hw0]; simp
  have B0 : Blk w0 w.heap.size 82 (madeCells #[.int .i64 0, .int .i64 0, .int .u64 0] (n * 3)) := by rw [hw0]; exact Blk.new _ _ _
  have hgs : g ≠ w.heap.size := by have := hr.lt; omega
  have hnP : ¬ P w.heap.size := fun h => by have := hP _ h; omega
  have hr0 : RS w0 P B g bs := hr.step hb hB hP
  have hP0 : ∀ k, Plus P w.heap.size k → k < w0.heap.size := fun k hk => by
    rcases hk with hk | hk
    · have := hP k hk; omega
    · omega
  have hBp : ∀ k, k < B → Plus P w.heap.size k := fun k hk => .inl (hB k hk)
  have k0 : KeepP P w w0 := KeepP.of_below hb hP
  have HP := hide hP; have HP0 := hide hP0; have HB := hide hB; have HBP := hide hBp; have HZ := hide hz; have HBY := hide hby; have HGS := hide hgs; have HNP := hide hnP
  clear hP hP0 hB hBp hz hby hgs hnP
  go_enter Tryz.func110, Tryz.ntmps110
  go_wp2
  rw [← hw0]
  have HW0 := hide hw0; clear hw0
  go_loopw [11] (fun i wr => ∃ (k : Nat) (cs : Array Value), k ≤ n ∧ i = .int .i64 k ∧ KeepP P w wr ∧ RS wr P B g (bs.drop (24 * k)) ∧ Blk wr w.heap.size 82 cs ∧ cs.size = n * 3 ∧ ∀ j, j < k → cs[j * 3]? = some (.int .i64 (quAt bs j).1.1) ∧ cs[j * 3 + 1]? = some (.int .i64 (quAt bs j).1.2) ∧ cs[j * 3 + 2]? = some (.int .u64 (quAt bs j).2))
    (fun i _ => n - (intOf i).toNat)
  case atStart => exact ⟨0, _, by omega, rfl, k0, by simpa using hr0, B0, size_madeCells _ _, fun j hj => by omega⟩
  case round =>
    obtain ⟨k, cs, hk, rfl, hkp, hrs, hblk, hsz, hcs⟩ := hrel
    have HCS := hide hcs; clear hcs
    by_cases hlt : k < n
    · have hsp := qu_split bs k
      rw [hsp] at hrs
      have hl0 : (eight bs (24 * k)).length = 8 := eight_len (by omega)
      have hl1 : (eight bs (24 * k + 8)).length = 8 := eight_len (by omega)
      have hl2 : (eight bs (24 * k + 16)).length = 8 := eight_len (by omega)
      have hPr : ∀ j, Plus P w.heap.size j → j < wr.heap.size := fun j hj => Nat.lt_of_lt_of_le (HP0.out j hj) (by have := hkp.size; have := hblk.lt; have := HZ.out; omega)
      have C := rdquery_any (Plus P w.heap.size) B g wr HBP.out (eight bs (24 * k)) (eight bs (24 * k + 8)) (eight bs (24 * k + 16)) (bs.drop (24 * (k + 1))) hl0 hl1 hl2 (eight_by HBY.out _) (eight_by HBY.out _) (eight_by HBY.out _) hPr (hrs.plus HGS.out) (by rw [List.length_drop]; omega)
      have C' : Calls Tryz.prog 111 #[.pointer (some ⟨g, 0, none⟩)] wr fun e w' => e = .returned (.agg #[.int .i64 (quAt bs k).1.1, .int .i64 (quAt bs k).1.2, .int .u64 (quAt bs k).2]) ∧ KeepP (Plus P w.heap.size) wr w' ∧ RS w' (Plus P w.heap.size) B g (bs.drop (24 * (k + 1))) := C
      have HC := hide C'
      have HSP := hide hsp
      clear C C' hl0 hl1 hl2 hPr hsp
      go_wp2_with fail
      refine HC.out.mono ?_
      rintro e w1 ⟨rfl, k1, r1⟩
      have B1 := hblk.kept k1 (.inr rfl)
      have q0 : k * 3 < cs.size := by omega
      have c0 := B1.cell (i := k * 3) (Array.getElem?_eq_getElem q0)
      have f0 := B1.frozen (k * 3)
      have q1 : k * 3 + 1 < cs.size := by omega
      have c1 := B1.cell (i := k * 3 + 1) (Array.getElem?_eq_getElem q1)
      have f1 := B1.frozen (k * 3 + 1)
      have q2 : k * 3 + 2 < cs.size := by omega
      have c2 := B1.cell (i := k * 3 + 2) (Array.getElem?_eq_getElem q2)
      have f2 := B1.frozen (k * 3 + 2)
      have hkn : (k : Int) < (n : Int) := by omega
      have r1' := r1.mono (R := P) (fun j hj => .inl hj)
      have r2 := (((r1'.far HGS.out HNP.out HB.out (k * 3) (.int .i64 (quAt bs k).1.1)).far HGS.out HNP.out HB.out (k * 3 + 1) (.int .i64 (quAt bs k).1.2)).far HGS.out HNP.out HB.out (k * 3 + 2) (.int .u64 (quAt bs k).2))
      have B2 := (((B1.set (k * 3) (.int .i64 (quAt bs k).1.1)).set (k * 3 + 1) (.int .i64 (quAt bs k).1.2)).set (k * 3 + 2) (.int .u64 (quAt bs k).2))
      have k2 := ((((k1.mono (R := P) (fun j hj => .inl hj)).trans (KeepP.set HNP.out (k * 3) (.int .i64 (quAt bs k).1.1) _)).trans (KeepP.set HNP.out (k * 3 + 1) (.int .i64 (quAt bs k).1.2) _)).trans (KeepP.set HNP.out (k * 3 + 2) (.int .u64 (quAt bs k).2) _))
      have H2 := hide r2; have HK2 := hide k2; have HB2 := hide B2
      clear r1 r1' r2 k2 B2
      go_wp2
      go_roundw
      case rel =>
        refine ⟨k + 1, _, by omega, by go_num, hkp.trans HK2.out, H2.out, HB2.out, by simpa using hsz, fun j hj => ?_⟩
        simp only [Array.getElem?_setIfInBounds, Array.size_setIfInBounds]
        by_cases hjk : j = k
        · subst hjk
          refine ⟨?_, ?_, ?_⟩
          · rw [if_neg (by omega), if_neg (by omega), if_pos rfl, if_pos q0]
          · rw [if_neg (by omega), if_pos rfl, if_pos q1]
          · rw [if_pos rfl, if_pos q2]
        · have := HCS.out j (by omega)
          refine ⟨?_, ?_, ?_⟩
          · rw [if_neg (by omega), if_neg (by omega), if_neg (by omega)]; exact this.1
          · rw [if_neg (by omega), if_neg (by omega), if_neg (by omega)]; exact this.2.1
          · rw [if_neg (by omega), if_neg (by omega), if_neg (by omega)]; exact this.2.2
      case measure => simp [intOf]; omega
    · have hk' : k = n := by omega
      subst hk'
      go_wp2
      go_ret
      refine ⟨_, rfl, hkp, hrs, ?_, fun x hx => by cases hx; exact ⟨Nat.le_refl _, fun h => HGS.out h.symm⟩⟩
      refine sl_of_cells hblk (pairs_get (fun p : (Int × Int) × Int => [.int .i64 p.1.1, .int .i64 p.1.2, .int .u64 p.2]) 3 (by omega) (fun _ => rfl) _ _ fun i a ha j hj => ?_)
      have hi : i < k := by have := (List.getElem?_eq_some_iff.1 ha).1; rw [qusOf_length] at this; exact this
      rw [qusOf_get bs hi] at ha
      have ha' : quAt bs i = a := by simpa using ha
      have := HCS.out i hi
      rw [ha'] at this
      match j, hj with
      | 0, _ => exact this.1
      | 1, _ => exact this.2.1
      | 2, _ => exact this.2.2
end
end Go.Proofs.YtpnoofphfomjoaaGreatDoor
