/- The reference's word and point: they append to a row of bytes. -/
import Derived.Test.YtgbimniloabjkaaDoorU64
import Derived.Test.YtgbimniloabjkaaDoorEach
import Derived.Deep.RegionHeld3
namespace Go.Proofs.YtgbimniloabjkaaDoor
open Go.RowKit

/-- v is a row of the call's own that reads bs; it does not lie in P -/
def RW (w : World) (P : Nat → Prop) (v : Value) (bs : List Int) : Prop :=
  w.ownsRow 0 5 1 v bs.length (byCells bs) ∧ ∀ k, v.ownBlock = some k → ¬ P k
theorem RW.step {w w' : World} {P : Nat → Prop} {v : Value} {bs : List Int} (h : RW w P v bs) (hb : Below w.heap.size w w') : RW w' P v bs := ⟨own_step h.1 hb, h.2⟩
theorem RW.mono {w : World} {P R : Nat → Prop} {v : Value} {bs : List Int} (h : RW w P v bs) (hR : ∀ k, R k → P k) : RW w R v bs := ⟨h.1, fun k hk hr => h.2 k hk (hR k hr)⟩
theorem RW.more {w w' : World} {P : Nat → Prop} {v : Value} {bs : List Int} (h : RW w P v bs) (hb : Below w.heap.size w w') : RW w' (More P w w') v bs := by
  refine ⟨own_step h.1 hb, fun k hk hp => ?_⟩
  have := own_lt h.1 hk
  rcases hp with hp | hp
  · exact h.2 k hk hp
  · omega
theorem rw_push {wr wa w1 : World} {P : Nat → Prop} {g' cap n : Nat} {v : Value} {bs news : List Int} {xs : List Value} (hP : ∀ k, P k → k < wr.heap.size) (h : RW wr P v bs) (hb : Below wr.heap.size wr wa)
    (hown1 : w1.ownsRow 0 5 1 (.slice (some ⟨g', 0, none⟩) n cap) n xs) (hn : n = (bs ++ news).length) (hx : xs = byCells (bs ++ news)) (hgrow : wa.grownBy w1 v.ownBlock) (hat : v.ownBlock = some g' ∨ g' = wa.heap.size) :
    RW w1 P (.slice (some ⟨g', 0, none⟩) n cap) (bs ++ news) ∧ KeepP P wr w1 := by
  subst hn hx
  have hvP' : ¬ P g' := by
    rcases hat with h1 | h1
    · exact h.2 g' h1
    · intro hp; have := hP g' hp; have := hb.size; omega
  refine ⟨⟨hown1, fun k hk => by
    have : g' = k := by simpa [Value.ownBlock] using hk
    subst this; exact hvP'⟩, hgrow.os.trans hb.os, hgrow.tape.trans hb.tape, hgrow.output.trans hb.output, Nat.le_trans hb.size hgrow.size, fun k hk => ?_⟩
  have hkl := hP k hk
  exact (hgrow.block k (Nat.lt_of_lt_of_le hkl hb.size) (fun e => h.2 k e.symm hk)).trans (hb.block k hkl)

/-- what word leaves -/
def Worded (P : Nat → Prop) (w : World) (bs : List Int) (e : Ending) (w' : World) : Prop := ∃ v', e = .returned v' ∧ KeepP P w w' ∧ RW w' P v' bs

section
variable (P : Nat → Prop) (bs : List Int) (w : World)
variable (hP : ∀ k, P k → k < w.heap.size) (hlen : bs.length ≤ 1000000)
include hP hlen
set_option maxRecDepth 100000 in
set_option maxHeartbeats 2000000 in
theorem rword_any (v : Value) (hv : RW w P v bs) (x : Int) (hx : U64 x) : Calls Tryd.prog 23 #[v, .int .u64 x] w (Worded P w (bs ++ word8 x)) := by
  have HP := hide hP; clear hP
  go_enter Tryd.func23, Tryd.ntmps23
  go_wp2
  go_loopw [0, 1, 5] (fun u y i wr => ∃ (k : Nat) (z : Int), k ≤ 8 ∧ i = .int .i64 k ∧ y = .int .u64 z ∧ z = x / 256 ^ k ∧ KeepP P w wr ∧ RW wr P u (bs ++ (word8 x).take k))
    (fun _ _ i _ => 8 - (intOf i).toNat)
  case atStart => exact ⟨0, x, by omega, rfl, rfl, by simp, KeepP.refl _ _, by simpa using hv⟩
  case round =>
    obtain ⟨k, z, hk, rfl, rfl, hz, hbr, hrw⟩ := hrel
    have hzU : U64 z := by rw [hz]; exact hx.div k
    have hz0 := hzU.nonneg
    have HZ := hide hz; clear hz
    by_cases hlt : k < 8
    · obtain ⟨i0, hi, hi0, hi1, hi2⟩ := info_parts u8_info
      have hln : (bs ++ List.take k (word8 x)).length ≤ 1000008 := by rw [List.length_append, List.length_take, word8_length]; omega
      have hsn : ∀ cs, cs = bs ++ List.take k (word8 x) → bs ++ List.take (k + 1) (word8 x) = cs ++ [z % 256] := fun cs h => by rw [h, word8_snoc x k hlt, List.append_assoc, HZ.out]
      generalize hcs : bs ++ List.take k (word8 x) = cs at hrw hln hsn
      have HS := hide (hsn cs rfl); clear hsn hcs
      have hbr' := hbr.size
      have hrwl := hrw.1
      have HBR := hide hbr; have HRW := hide hrw
      clear hbr hrw
      go_wp2_with (at_builtin; refine wpList_append_lies _ rfl (.tmp 10) (.tmp 14) 38 rfl 0 5 i0 (.int .u8 0) 1 1 Tryd.underlying38 hi hi0 hi1 hi2 rfl (by decide) _ _ _ rfl (own_step hrwl (bl_alloc (Below.refl _ _) _)) ⟨wr.heap.size, 0, none⟩ 1 1 [.int .u8 (z % 256)] rfl rfl (blk_cells (Blk.new _ _ _)) (by simp [Value.oneCell']) (by omega) (by unfold maxLen; omega) (by omega) (by omega) (wr.heap.size + 1) (by simp) ?_; intro g' cap w1 hown1 hgrow hat hlt')
      obtain ⟨p1, p2⟩ := rw_push (P := P) (fun k hk => Nat.lt_of_lt_of_le (HP.out k hk) hbr') HRW.out (bl_alloc (Below.refl _ _) _) hown1 (news := [z % 256]) (by simp) (by rw [byCells_append]; rfl) hgrow (by have hat' : u0.ownBlock = some g' ∨ g' = wr.heap.size + 1 := hat; simpa using hat')
      go_roundw
      case rel => exact ⟨k + 1, z / 256, by omega, by go_num, by rw [hzU.quo], by rw [HZ.out, div256_succ], HBR.out.trans p2, by rw [HS.out]; exact p1⟩
      case measure => simp [intOf]; omega
    · have hk' : k = 8 := by omega
      subst hk'
      go_wp2
      go_ret
      exact ⟨_, rfl, hbr, hrw⟩

end
end Go.Proofs.YtgbimniloabjkaaDoor
