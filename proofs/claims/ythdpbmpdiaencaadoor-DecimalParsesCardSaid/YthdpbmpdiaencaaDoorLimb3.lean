/- limb: integers of a fixed width: From, Extend, Add, Sub, Sign on the limbs of a number. limb: Add and Sub on the limbs of numbers. limb: Mul and Sign on the limbs of numbers. -/
import Derived.Test.YthdpbmpdiaencaaDoorLimbMath
import Derived.Test.YthdpbmpdiaencaaDoorWord
import Derived.Deep.AppendLies
import Derived.Deep.RegionLaw
import Derived.OwnWalk
import Derived.Lib.SliceRun
import Derived.Laws.MakeOwn
namespace Go.Proofs.YthdpbmpdiaencaaDoor
open Go.RowKit

def uCs (l : List Int) : List Value := l.map (Value.int .u64)
theorem uCs_length (l : List Int) : (uCs l).length = l.length := by simp [uCs]
theorem Sl.u {w : World} {B : Nat} {A : Option Addr} {l : List Int} (h : Sl w B A (uCs l)) (hn : 0 < l.length) :
    ∃ b off, A = some ⟨b, off, none⟩ ∧ b < B ∧ ∀ j x, l[j]? = some x → w.cell? ⟨b, off + j, none⟩ = some (.int .u64 x) := by
  obtain ⟨b, off, hA, hB, hc⟩ := h.open_ (by rw [uCs_length]; exact hn)
  exact ⟨b, off, hA, hB, fun j x hx => hc j _ (by simp [uCs, hx])⟩
/-- what a function gives that makes an integer -/
def GaveL (l : List Int) (w : World) (e : Ending) (w' : World) : Prop :=
  ∃ A c, e = .returned (.slice A l.length c) ∧ Below w.heap.size w w' ∧ Sl w' w'.heap.size A (uCs l)

/- limb.is: every slice has one limb to eight -/
def slCs (ls : List (Option Addr × Nat × Nat)) : List Value := ls.map fun x => .slice x.1 x.2.1 x.2.2
theorem Sl.sl {w : World} {B : Nat} {A : Option Addr} {ls : List (Option Addr × Nat × Nat)} (h : Sl w B A (slCs ls)) (hn : 0 < ls.length) :
    ∃ b off, A = some ⟨b, off, none⟩ ∧ b < B ∧ ∀ j x, ls[j]? = some x → w.cell? ⟨b, off + j, none⟩ = some (.slice x.1 x.2.1 x.2.2) := by
  obtain ⟨b, off, hA, hB, hc⟩ := h.open_ (by simpa [slCs] using hn)
  exact ⟨b, off, hA, hB, fun j x hx => hc j _ (by simp [slCs, hx])⟩
set_option maxRecDepth 100000 in
set_option maxHeartbeats 1000000 in
theorem is_true (ls : List (Option Addr × Nat × Nat)) (hl : ∀ x ∈ ls, 1 ≤ x.2.1 ∧ x.2.1 ≤ 8) (h0 : 0 < ls.length) (h10 : ls.length ≤ 10) (B : Nat) (A : Option Addr) (c : Nat) (w : World) (hs : Sl w B A (slCs ls)) :
    Calls Tryd.prog 41 #[.slice A ls.length c] w fun e w' => e = .returned (.bool true) ∧ w = w' := by
  obtain ⟨b, off, rfl, _, hcell⟩ := hs.sl h0
  have HC := hide hcell; have HL := hide hl
  clear hcell hl hs
  go_enter Tryd.func41, Tryd.ntmps41
  go_wp2
  go_loop [7] (fun i => ∃ k : Nat, k ≤ ls.length ∧ i = .int .i64 k)
    (fun i => ls.length - (intOf i).toNat)
  case atStart => exact ⟨0, by omega, rfl⟩
  case round =>
    obtain ⟨k, hk, rfl⟩ := hrel
    by_cases hlt : k < ls.length
    · obtain ⟨x, hx⟩ : ∃ x, ls[k]? = some x := ⟨_, List.getElem?_eq_getElem hlt⟩
      obtain ⟨h1, h2⟩ := HL.out x (List.mem_of_getElem? hx)
      have c0 := HC.out k x hx
      have hk0 : (0 : Int) ≤ (k : Int) := by omega
      have hkl : (k : Int) < (ls.length : Int) := by omega
      have n1 : ¬ (x.2.1 : Int) < 1 := by omega
      have n2 : ¬ (8 : Int) < (x.2.1 : Int) := by omega
      clear hx
      go_wp2
      go_round
      case rel => exact ⟨k + 1, by omega, by go_num⟩
      case measure => simp [intOf]; omega
    · obtain rfl : ls.length = k := by omega
      go_wp2
      go_ret
      exact ⟨rfl, rfl⟩

theorem u64_info : (Tryd.prog.info? 33).map (fun i => (i.zero, i.size, i.bytes)) = some (some (.int .u64 0), 1, 8) := by kernel_rfl
/-- what Clone gives: a row of the call's own -/
def Cloned (l : List Int) (w : World) (e : Ending) (w' : World) : Prop :=
  ∃ A c, e = .returned (.slice A l.length c) ∧ Below w.heap.size w w' ∧ w'.ownsRow w.heap.size 33 1 (.slice A l.length c) l.length (uCs l)
set_option maxRecDepth 100000 in
set_option maxHeartbeats 1000000 in
theorem clone_u64 (l : List Int) (h0 : 0 < l.length) (h10 : l.length ≤ 100) (B : Nat) (A : Option Addr) (c : Nat) (w : World) (hB : B ≤ w.heap.size) (hs : Sl w B A (uCs l)) :
    Calls Tryd.prog 30 #[.slice A l.length c] w (Cloned l w) := by
  obtain ⟨b, off, rfl, hb, hcell⟩ := hs.u h0
  have HC := hide hcell
  clear hcell hs
  obtain ⟨i0, hi, hz0, hz1, hz2⟩ := info_parts u64_info
  have q22 : ∀ (w : World) (a : Option Addr) (n c n' c' : Nat), (binOp .eql 22 (.slice a n c) (.slice none n' c')).run Tryd.prog w = .ok (.bool a.isNone) w := fun w a n c n' c' => Lib.run_eql_slice_nil w _ _ a n c n' c' Tryd.underlying22
  go_enter Tryd.func30, Tryd.ntmps30
  go_wp2_with (at_builtin; refine wpList_append_own _ rfl (.tmp 5) (.tmp 6) 22 rfl w.heap.size 33 i0 (.int .u64 0) 1 8 Tryd.underlying22 hi hz0 hz1 hz2 rfl (by decide) (.slice (some ⟨w.heap.size, 0, none⟩) 0 0) 0 [] rfl (own_of_blk (xs := []) (Blk.new _ _ _) (Nat.le_refl _) rfl (by unfold maxLen; omega)) ⟨b, off, none⟩ l.length c (uCs l) rfl ?c1 ?c2 ?c3 ?c4 ?c5 ?c6 ?_)
  case c1 => simp [uCs]
  case c2 =>
    intro j u hu
    rw [World.cell?_alloc_lt _ _ _ (by simp [Addr.add]; split <;> (dsimp only; omega))]
    have e : (⟨b, off, none⟩ : Addr).add j = ⟨b, off + j, none⟩ := by unfold Addr.add; split <;> simp_all
    rw [e]
    simp only [uCs, List.getElem?_map, Option.map_eq_some_iff] at hu
    obtain ⟨x, hx, rfl⟩ := hu
    exact HC.out j x hx
  case c3 => simp [uCs, Value.oneCell']
  case c4 => unfold maxLen; omega
  case c5 => omega
  case c6 => simp
  intro v3 w3 hown3 hgrow3 _
  have hb3 : Below w.heap.size w w3 := (bl_alloc (Below.refl _ _) _).grown hgrow3 (by simp) (fun k hk => by simp [Value.ownBlock] at hk; omega)
  have hown4 : w3.ownsRow w.heap.size 33 1 v3 l.length (uCs l) := by simpa using hown3
  obtain ⟨A3, c3, rfl, _⟩ := own_slice hown4
  clear hown3 hgrow3
  go_wp2
  go_ret
  exact ⟨A3, c3, rfl, hb3, hown4⟩

theorem Sl.pre {w : World} {B : Nat} {A : Option Addr} {xs : List Value} (h : Sl w B A xs) (n : Nat) : Sl w B A (xs.take n) := by
  rcases h with h | ⟨b, off, hA, hlt, hc⟩
  · left; rw [h]; simp
  · refine .inr ⟨b, off, hA, hlt, fun j u hu => hc j u ?_⟩
    rw [List.getElem?_take] at hu
    split at hu
    · exact hu
    · cases hu
def lenOf : Value → Nat
  | .slice _ n _ => n
  | _ => 0
/-- the limbs behind an extension -/
theorem ext_lims {m n k : Nat} {v : Int} (hm : 1 ≤ m) (hf : Fits m v ∨ n ≤ m) (hk : m + k ≤ max m n) (hn : n ≤ m + k) :
    (lims m v ++ List.replicate k (msk (decide (9223372036854775808 ≤ lim v (m - 1))))).take n = lims n v := by
  by_cases h : n ≤ m
  · have : k = 0 := by omega
    subst this
    simp only [List.replicate_zero, List.append_nil]
    exact lims_take v h
  · rcases hf with hf | hf
    · obtain ⟨m', rfl⟩ : ∃ m', m = m' + 1 := ⟨m - 1, by omega⟩
      have ht := lim_top hf
      have hfill : msk (decide (9223372036854775808 ≤ lim v (m' + 1 - 1))) = if v < 0 then 18446744073709551616 - 1 else 0 := by
        rw [Nat.add_sub_cancel]
        by_cases hv : v < 0
        · rw [if_pos hv, decide_eq_true (ht.2 hv)]; rfl
        · rw [if_neg hv, decide_eq_false (fun h => hv (ht.1 h))]; rfl
      have hk' : k = n - (m' + 1) := by omega
      rw [hfill, hk', ← lims_extend hf (by omega)]
      exact List.take_of_length_le (by rw [lims_length]; exact Nat.le_refl _)
    · omega
/-- limb.From: a signed word as an integer -/
theorem fitsOne {x : Int} (h0 : -9223372036854775808 ≤ x) (h1 : x < 9223372036854775808) : Fits 1 x := by
  unfold Fits; rw [Int.pow_one]; omega
theorem lims1 (x : Int) : lims 1 x = [IntKind.u64.wrap x] := by
  show [lim x 0] = _
  unfold lim
  rw [Int.pow_zero, Int.ediv_one, IntKind.wrap_u64]
end Go.Proofs.YthdpbmpdiaencaaDoor

namespace Go.Proofs.YthdpbmpdiaencaaDoor
open Go.RowKit

theorem make_u64 (n : Nat) (hn : n ≤ 1000) (w : World) : (Instr.makeSlice 22 (.int .i64 (n : Int)) (.int .i64 (n : Int))).run Tryd.prog w = .ok (.slice (some ⟨w.heap.size, 0, none⟩) n n) (w.alloc (.cells (uCs (List.replicate n 0)).toArray 33)) := by
  obtain ⟨i, hi, hz0, hz1, hz2⟩ := info_parts u64_info
  have h := run_make (P := Tryd.prog) w 22 33 i _ Tryd.underlying22 hi hz0 .i64 .i64 n n (by omega) (Int.le_refl _) (by rw [hz2]; omega) (by omega)
  rw [hz1] at h
  have e : madeCells (Value.cells (.int .u64 0)) (n * 1) = (uCs (List.replicate n 0)).toArray := by
    apply Array.ext
    · simp [size_madeCells, uCs]
    · intro j h1 h2
      simp [madeCells, uCs, Value.cells, Nat.mod_one]
  rw [← e]
  simpa using h
theorem set_cells {d : List Int} {k n : Nat} (hd : d.length = k) (hk : k < n) (z : Int) :
    (uCs (d ++ List.replicate (n - k) 0)).toArray.setIfInBounds k (.int .u64 z) = (uCs ((d ++ [z]) ++ List.replicate (n - (k + 1)) 0)).toArray := by
  obtain ⟨j, hj⟩ : ∃ j, n - k = j + 1 := ⟨n - k - 1, by omega⟩
  have hj2 : n - (k + 1) = j := by omega
  rw [hj, hj2, List.replicate_succ]
  subst hd
  simp [uCs, List.setIfInBounds_toArray]
theorem get_cells {d : List Int} {k n : Nat} (hd : d.length = k) (hk : k < n) : (uCs (d ++ List.replicate (n - k) 0)).toArray[k]? = some (.int .u64 0) := by
  obtain ⟨j, hj⟩ : ∃ j, n - k = j + 1 := ⟨n - k - 1, by omega⟩
  rw [hj, List.replicate_succ]
  subst hd
  simp [uCs]

set_option maxRecDepth 100000 in
set_option maxHeartbeats 2000000 in
theorem apply_sub (n : Nat) (x y : Int) (hn : 1 ≤ n) (hn8 : n ≤ 8) (A A' : Option Addr) (c c' : Nat) (w : World) (hs : Sl w w.heap.size A (uCs (lims n x))) (hs' : Sl w w.heap.size A' (uCs (lims n y))) :
    Calls Tryd.prog 68 #[.agg #[.func (.func 67) #[] #[]], .slice A n c, .slice A' n c', .int .u64 0] w (GaveL (lims n (x - y)) w) := by
  have hll := lims_length n x
  have hll' := lims_length n y
  obtain ⟨b, off, rfl, hb, hcell⟩ := hs.u (by omega)
  obtain ⟨b', off', rfl, hb', hcell'⟩ := hs'.u (by omega)
  obtain ⟨w0, hw0⟩ : ∃ w0, w0 = w.alloc (.cells #[.func (.func 67) #[] #[]] 87) := ⟨_, rfl⟩
  have hb0 : Below w.heap.size w w0 := by rw [hw0]; exact bl_alloc (Below.refl _ _) _
  have C0 : Blk w0 w.heap.size 87 #[.func (.func 67) #[] #[]] := by rw [hw0]; exact Blk.new _ _ _
  obtain ⟨w1, hw1⟩ : ∃ w1, w1 = w0.alloc (.cells #[.slice (some ⟨b, off, none⟩) n c, .slice (some ⟨b', off', none⟩) n c'] 22) := ⟨_, rfl⟩
  have hb1 : Below w0.heap.size w0 w1 := by rw [hw1]; exact bl_alloc (Below.refl _ _) _
  have X1 : Blk w1 (w.heap.size + 1) 22 #[.slice (some ⟨b, off, none⟩) n c, .slice (some ⟨b', off', none⟩) n c'] := by rw [hw1, hw0]; exact Blk.new2 _ _ _ _
  have HB1 := bl_step hb0 hb1
  have IS := is_true [(some ⟨b, off, none⟩, n, c), (some ⟨b', off', none⟩, n, c')] (by simp; omega) (by simp) (by simp) w1.heap.size (some ⟨w.heap.size + 1, 0, none⟩) 2 w1 (Sl.mk X1.lt fun j u hu => by
    rw [Nat.zero_add]; exact X1.cell (by simpa [slCs] using hu))
  obtain ⟨w2, hw2⟩ : ∃ w2, w2 = w1.alloc (.cells (uCs (List.replicate n 0)).toArray 33) := ⟨_, rfl⟩
  have hb2 : Below w1.heap.size w1 w2 := by rw [hw2]; exact bl_alloc (Below.refl _ _) _
  have G2 : Blk w2 w1.heap.size 33 (uCs (List.replicate n 0)).toArray := by rw [hw2]; exact Blk.new _ _ _
  have C1 := C0.step hb1
  have hmk := make_u64 n (by omega)
  have HIS := hide IS
  have HC := hide hcell; have HC' := hide hcell'
  clear IS hcell hcell' hs hs'
  have hz1 : w.heap.size + 2 ≤ w1.heap.size := by have := C1.lt; have := hb1.size; have := X1.lt; have := C0.lt; omega
  go_enter Tryd.func68, Tryd.ntmps68
  go_wp2_with fail
  rw [← hw0, ← hw1]
  have HW0 := hide hw0; have HW1 := hide hw1
  clear hw0 hw1
  refine HIS.out.mono ?_
  rintro e w' ⟨rfl, rfl⟩
  go_wp2
  rw [← hw2]
  have HW2 := hide hw2
  clear hw2 hmk
  obtain ⟨g, hg⟩ : ∃ g, g = w1.heap.size := ⟨_, rfl⟩
  rw [← hg] at G2 ⊢
  have hge : w1.heap.size ≤ g ∧ g ≤ w1.heap.size := by omega
  clear hg
  go_loopw [3, 28] (fun u i wr => ∃ (k : Nat) (d : List Int) (bo : Int), k ≤ n ∧ i = .int .i64 k ∧ u = .int .u64 bo ∧ SubSt (lims n x) (lims n y) d k bo ∧ Below w1.heap.size w1 wr ∧ Blk wr g 33 (uCs (d ++ List.replicate (n - k) 0)).toArray)
    (fun _ i _ => n - (intOf i).toNat)
  case atStart => exact ⟨0, [], 0, by omega, rfl, rfl, SubSt.start _ _, hb2, by simpa using G2⟩
  case round =>
    obtain ⟨k, d, bo, hk, rfl, rfl, hst, hbr, hblk⟩ := hrel
    have HBr := bl_step HB1 hbr
    by_cases hlt : k < n
    · have hx := lims_get x hlt
      have hy := lims_get y hlt
      have hxb := lim_bd x k
      have hyb := lim_bd y k
      have c0 := (HBr.cell (p := ⟨b, off + k, none⟩) hb).trans (HC.out _ _ hx)
      have c1 := (HBr.cell (p := ⟨b', off' + k, none⟩) hb').trans (HC'.out _ _ hy)
      have hst' := hst.step hx hy hxb.1 hxb.2 hyb.1 hyb.2
      generalize hxk : lim x k = xk at *
      generalize hyk : lim y k = yk at *
      have b0 := hst.b0
      have b1 := hst.b1
      have HW : Hid (∀ wk, Calls Tryd.prog 67 #[.int .u64 xk, .int .u64 yk, .int .u64 bo] wk fun e w' => e = .returned (.tuple #[.int .u64 ((xk - yk - bo) % 18446744073709551616), .int .u64 (bor xk yk bo)]) ∧ wk = w') := hide fun wk => wsub_any xk yk bo hxb.1 hxb.2 hyb.1 hyb.2 b0 b1 wk
      have q0 := ((C1.step hbr)).cell (i := 0) rfl
      have g0 := hblk.cell (get_cells hst.len hlt)
      have f0 := hblk.frozen k
      have hgl := hblk.lt
      have HST := hide hst'
      obtain ⟨z, hz⟩ : ∃ z, z = (xk - yk - bo) % 18446744073709551616 := ⟨_, rfl⟩
      obtain ⟨q, hq⟩ : ∃ q, q = bor xk yk bo := ⟨_, rfl⟩
      rw [← hz, ← hq] at HW HST
      have HB := hide (hblk.drew.set k (.int .u64 z))
      rw [set_cells hst.len hlt] at HB
      have hkn : (k : Int) < (n : Int) := by omega
      have hk0 : (0 : Int) ≤ (k : Int) := by omega
      have hwl : w.heap.size < wr.heap.size := by have := hbr.size; omega
      clear hst hst' hx hy hz hq hxk hyk hblk b0 b1
      go_wp2
      go_region_law (first
        | (go_simp; go_at_call 67; refine (HW.out _).mono ?_; rintro e w' ⟨rfl, rfl⟩))
      all_goals
        go_wp2
        go_roundw
        case rel => exact ⟨k + 1, _, _, by omega, by go_num, rfl, HST.out, (bl_drew hbr).setCell (by simp; omega) _, HB.out⟩
        case measure => simp [intOf]; omega
    · obtain rfl : n = k := by omega
      have hd := hst.done
      subst hd
      have hsl : Sl wr wr.heap.size (some ⟨g, 0, none⟩) (uCs (lims n (x - y))) := Sl.mk hblk.lt fun j u hu => by
        rw [Nat.zero_add]; exact hblk.cell (by simpa using hu)
      have HSL := hide hsl
      clear hst hblk hsl
      go_wp2
      go_ret
      refine ⟨some ⟨g, 0, none⟩, n, ?_, HBr, HSL.out⟩
      rw [lims_length]; rfl
set_option maxRecDepth 100000 in
set_option maxHeartbeats 1000000 in
theorem lsub_any (n : Nat) (x y : Int) (hn : 1 ≤ n) (hn8 : n ≤ 8) (A A' : Option Addr) (c c' : Nat) (w : World) (hs : Sl w w.heap.size A (uCs (lims n x))) (hs' : Sl w w.heap.size A' (uCs (lims n y))) :
    Calls Tryd.prog 45 #[.slice A n c, .slice A' n c'] w (GaveL (lims n (x - y)) w) := by
  have HA := hide (apply_sub n x y hn hn8 A A' c c' w hs hs')
  clear hs hs'
  go_enter Tryd.func45, Tryd.ntmps45
  go_wp2_with fail
  refine HA.out.mono ?_
  rintro e w1 ⟨A1, c1, rfl, hb1, h1⟩
  go_wp2
  go_ret
  exact ⟨A1, c1, rfl, hb1, h1⟩

end Go.Proofs.YthdpbmpdiaencaaDoor

namespace Go.Proofs.YthdpbmpdiaencaaDoor
open Go.RowKit

theorem set_uCs (l : List Int) (k : Nat) (z : Int) : (uCs l).toArray.setIfInBounds k (.int .u64 z) = (uCs (l.set k z)).toArray := by
  simp [uCs, List.setIfInBounds_toArray, List.map_set]
theorem get_uCs {l : List Int} {k : Nat} {x : Int} (h : l[k]? = some x) : (uCs l).toArray[k]? = some (.int .u64 x) := by simp [uCs, h]

end Go.Proofs.YthdpbmpdiaencaaDoor
