/- limb.Neg; slices.Reverse over bytes of the call's own; strings that are cut and trimmed. -/
import Derived.Test.YthdpbmpdiaencaaDoorDecLib
import Derived.Test.YthdpbmpdiaencaaDoorSign
namespace Go.Proofs.YthdpbmpdiaencaaDoor
open Go.RowKit

theorem lims_zeros (n : Nat) : lims n 0 = List.replicate n 0 := by
  induction n with
  | zero => rfl
  | succ n ih => rw [lims_succ, ih, List.replicate_succ']; simp [lim]
set_option maxRecDepth 100000 in
set_option maxHeartbeats 1000000 in
theorem lneg_any (n : Nat) (v : Int) (hn : 1 ≤ n) (hn8 : n ≤ 8) (A : Option Addr) (c : Nat) (w : World) (hs : Sl w w.heap.size A (uCs (lims n v))) :
    Calls Tryd.prog 20 #[.slice A n c] w (GaveL (lims n (-v)) w) := by
  obtain ⟨b, off, rfl, hb, hcell⟩ := hs.u (by rw [lims_length]; omega)
  obtain ⟨w0, hw0⟩ : ∃ w0, w0 = w.alloc (.cells #[.slice (some ⟨b, off, none⟩) n c] 22) := ⟨_, rfl⟩
  have hb0 : Below w.heap.size w w0 := by rw [hw0]; exact bl_alloc (Below.refl _ _) _
  have X0 : Blk w0 w.heap.size 22 #[.slice (some ⟨b, off, none⟩) n c] := by rw [hw0]; exact Blk.new _ _ _
  have IS := is_true [(some ⟨b, off, none⟩, n, c)] (by simp; omega) (by simp) (by simp) w0.heap.size (some ⟨w.heap.size, 0, none⟩) 1 w0 (Sl.mk X0.lt fun j u hu => by
    rw [Nat.zero_add]; exact X0.cell (by simpa [slCs] using hu))
  obtain ⟨w1, hw1⟩ : ∃ w1, w1 = w0.alloc (.cells (uCs (List.replicate n 0)).toArray 33) := ⟨_, rfl⟩
  have hb1 : Below w0.heap.size w0 w1 := by rw [hw1]; exact bl_alloc (Below.refl _ _) _
  have G1 : Blk w1 w0.heap.size 33 (uCs (List.replicate n 0)).toArray := by rw [hw1]; exact Blk.new _ _ _
  have hB1 := bl_step hb0 hb1
  have SB := lsub_any n 0 v hn hn8 (some ⟨w0.heap.size, 0, none⟩) (some ⟨b, off, none⟩) n c w1 (Sl.mk G1.lt fun j u hu => by
    rw [Nat.zero_add]; rw [lims_zeros] at hu; exact G1.cell (by simpa using hu)) ((hs.below hB1).more hB1.size)
  rw [Int.zero_sub] at SB
  have hmk := make_u64 n (by omega)
  have HIS := hide IS; have HSB := hide SB
  clear IS SB hcell hs X0 G1
  go_enter Tryd.func20, Tryd.ntmps20
  go_wp2_with fail
  rw [← hw0]
  have HW0 := hide hw0; clear hw0
  refine HIS.out.mono ?_
  rintro e w' ⟨rfl, rfl⟩
  go_wp2_with fail
  rw [← hw1]
  have HW1 := hide hw1; clear hw1 hmk
  refine HSB.out.mono ?_
  rintro e w2 ⟨A2, c2, rfl, hb2, h2⟩
  have HB := bl_step hB1 hb2
  go_wp2
  go_ret
  exact ⟨A2, c2, rfl, HB, h2⟩
theorem reverse_any (base : Nat) (xs : List Int) (g cap : Nat) (w : World) (hB : Below base w w) (h : w.ownsRow base 5 1 (.slice (some ⟨g, 0, none⟩) xs.length cap) xs.length (byCells xs)) :
    Calls Tryd.prog 23 #[.slice (some ⟨g, 0, none⟩) xs.length cap] w fun e w' => e = .returned (.tuple #[]) ∧ Below base w w' ∧ w'.ownsRow base 5 1 (.slice (some ⟨g, 0, none⟩) xs.length cap) xs.length (byCells xs.reverse) := by
  obtain ⟨g', cap', e, hg, hlt, hc, hm, _, hH⟩ := Lib.holds_of_ownsRow h (by simp)
  injection e with e1 _ e3
  injection e1 with e1
  injection e1 with e1
  subst e1; subst e3
  have hr := AnyE.slices_Reverse Tryd.laysE35 (Value.int .u8) (fun _ => rfl) g 0 cap xs w hH (by unfold maxLen at hm; omega)
  refine Calls.mono hr ?_
  rintro e w' ⟨rfl, q, rfl⟩
  refine ⟨rfl, Lib.below_putRow hB hg, ?_⟩
  have h1 := Lib.ownsRow_putRow (q := q) (ys := xs.reverse) h (by simp) (Nat.le_refl xs.length)
  rw [List.take_of_length_le (by simp)] at h1
  exact h1
theorem cutPrefix_any (s p : ByteArray) (w : World) :
    Calls Tryd.prog 26 #[.string s, .string p] w fun e w' => e = .returned (.tuple #[.string ⟨(Lib.trimPrefix s.data.toList p.data.toList).toArray⟩, .bool (Lib.hasPrefix s.data.toList p.data.toList)]) ∧ w' = w := Any.strings_CutPrefix Tryd.lays103 s p w
theorem trimPrefix_any (s p : ByteArray) (w : World) :
    Calls Tryd.prog 18 #[.string s, .string p] w fun e w' => e = .returned (.string ⟨(Lib.trimPrefix s.data.toList p.data.toList).toArray⟩) ∧ w' = w := Any.strings_TrimPrefix Tryd.lays101 s p w
theorem strTrim_any (s cutset : ByteArray) (w : World) (hs : s.size ≤ 9223372036854775807) (hcs : cutset.size < 4294967281) (hascii : ∀ (j : Nat) b, cutset.data.toList[j]? = some b → b.toNat < 128) :
    Calls Tryd.prog 27 #[.string s, .string cutset] w fun e w' => e = .returned (.string ⟨(Lib.trimS s.data.toList cutset.data.toList).toArray⟩) ∧ Below w.heap.size w w' :=
  Any.strings_Trim_laid Tryd.lays160 (by kernel_rfl) s cutset w hs hcs hascii
end Go.Proofs.YthdpbmpdiaencaaDoor
