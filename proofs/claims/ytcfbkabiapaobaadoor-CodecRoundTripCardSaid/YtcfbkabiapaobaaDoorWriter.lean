/- codec.writer: its methods append to a row of bytes that the writer's cell holds. -/
import Derived.Test.YtcfbkabiapaobaaDoorFormat
import Derived.Deep.RegionLaw
import Derived.Deep.AppendLies
namespace Go.Proofs.YtcfbkabiapaobaaDoor
open Go.RowKit

/-- the blocks of P are as they were -/
structure KeepP (P : Nat → Prop) (w w' : World) : Prop where
  os : w'.os = w.os
  tape : w'.tape = w.tape
  output : w'.output = w.output
  size : w.heap.size ≤ w'.heap.size
  block : ∀ k, P k → w'.heap[k]? = w.heap[k]?
section
variable {P R : Nat → Prop} {w w' w'' : World} {B : Nat}
theorem KeepP.refl (P : Nat → Prop) (w : World) : KeepP P w w := ⟨rfl, rfl, rfl, Nat.le_refl _, fun _ _ => rfl⟩
theorem KeepP.trans (h : KeepP P w w') (k : KeepP P w' w'') : KeepP P w w'' :=
  ⟨k.os.trans h.os, k.tape.trans h.tape, k.output.trans h.output, Nat.le_trans h.size k.size, fun i hi => (k.block i hi).trans (h.block i hi)⟩
theorem KeepP.of_below (h : Below B w w') (hP : ∀ k, P k → k < B) : KeepP P w w' := ⟨h.os, h.tape, h.output, h.size, fun k hk => h.block k (hP k hk)⟩
theorem KeepP.below (h : KeepP P w w') (hP : ∀ k, k < B → P k) : Below B w w' := ⟨h.os, h.tape, h.output, h.size, fun k hk => h.block k (hP k hk)⟩
theorem KeepP.mono (h : KeepP P w w') (hP : ∀ k, R k → P k) : KeepP R w w' := ⟨h.os, h.tape, h.output, h.size, fun k hk => h.block k (hP k hk)⟩
theorem KeepP.cell (h : KeepP P w w') {b : Nat} (hb : P b) (o : Nat) : w'.cell? ⟨b, o, none⟩ = w.cell? ⟨b, o, none⟩ := World.cell?_of_block (h.block b hb)
theorem KeepP.frozen (h : KeepP P w w') {b : Nat} (hb : P b) (o : Nat) : w'.frozen? ⟨b, o, none⟩ = w.frozen? ⟨b, o, none⟩ := World.frozen?_of_block (h.block b hb)
theorem Blk.kept {g : Nat} {t : TypeId} {cs : Array Value} (hb : Blk w g t cs) (h : KeepP P w w') (hP : P g) : Blk w' g t cs := (h.block g hP).trans hb
theorem Sl.kept {A : Option Addr} {xs : List Value} (hs : Sl w B A xs) (h : KeepP P w w') (hP : ∀ k, k < B → P k) : Sl w' B A xs := by
  rcases hs with hs | ⟨b, off, hA, hlt, hc⟩
  · exact .inl hs
  · exact .inr ⟨b, off, hA, hlt, fun j u hu => (h.cell (hP b hlt) _).trans (hc j u hu)⟩
end

/-- the writer in block g holds a row of the call's own, which reads bs; neither lies in P -/
def WS (w : World) (P : Nat → Prop) (g : Nat) (bs : List Int) : Prop :=
  ∃ v, Blk w g 83 #[v] ∧ ¬ P g ∧ w.ownsRow 0 5 1 v bs.length (byCells bs) ∧ v.ownBlock ≠ some g ∧ ∀ k, v.ownBlock = some k → ¬ P k
/-- the eight bytes of a word -/
def word8 (x : Int) : List Int := (List.range 8).map fun k => x / 256 ^ k % 256
theorem word8_length (x : Int) : (word8 x).length = 8 := rfl
theorem word8_snoc (x : Int) (k : Nat) (hk : k < 8) : (word8 x).take (k + 1) = (word8 x).take k ++ [x / 256 ^ k % 256] := by
  unfold word8
  rw [List.take_add_one]
  congr 1
  rw [List.getElem?_map, List.getElem?_range hk]
  rfl

theorem own_set {w : World} {base : Nat} {e : TypeId} {size n : Nat} {v : Value} {xs : List Value} (h : w.ownsRow base e size v n xs) {p : Addr} (hp : v.ownBlock ≠ some p.block) (u : Value) : (w.setCell p u).ownsRow base e size v n xs := by
  refine ⟨h.1, ?_⟩
  rcases h.2 with h0 | ⟨g', cap, cur, rfl, hb1, hh, r⟩
  · exact .inl h0
  · refine .inr ⟨g', cap, cur, rfl, hb1, (Below.heap_setCell w p u g' ?_).trans hh, r⟩
    intro e1; apply hp; rw [← e1]; rfl

/-- what a push onto the writer's row leaves -/
theorem ws_push {wr wa w1 : World} {P : Nat → Prop} {g g' cap n : Nat} {t : TypeId} {v : Value} {bs news : List Int} {xs : List Value} (hP : ∀ k, P k → k < wr.heap.size)
    (hblk : Blk wr g t #[v]) (hg : ¬ P g) (hne : v.ownBlock ≠ some g) (hvP : ∀ k, v.ownBlock = some k → ¬ P k) (hb : Below wr.heap.size wr wa)
    (hown1 : w1.ownsRow 0 5 1 (.slice (some ⟨g', 0, none⟩) n cap) n xs) (hn : n = (bs ++ news).length) (hx : xs = byCells (bs ++ news))
    (hgrow : wa.grownBy w1 v.ownBlock) (hat : v.ownBlock = some g' ∨ g' = wa.heap.size) (ht : t = 83) :
    WS (w1.setCell ⟨g, 0, none⟩ (.slice (some ⟨g', 0, none⟩) n cap)) P g (bs ++ news) ∧ KeepP P wr (w1.setCell ⟨g, 0, none⟩ (.slice (some ⟨g', 0, none⟩) n cap)) := by
  subst ht hn hx
  have hgl : g < wa.heap.size := Nat.lt_of_lt_of_le hblk.lt hb.size
  have hgg : some g' ≠ some g := by
    rcases hat with h | h
    · rw [← h]; exact hne
    · intro e; injection e with e; omega
  have hvP' : ¬ P g' := by
    rcases hat with h | h
    · exact hvP g' h
    · intro hp; have := hP g' hp; have := hb.size; omega
  refine ⟨⟨_, ?_, hg, own_set hown1 (by simpa [Value.ownBlock] using hgg) _, by simpa [Value.ownBlock] using hgg, fun k hk => by
    have : g' = k := by simpa [Value.ownBlock] using hk
    subst this; exact hvP'⟩, ?_⟩
  · have := ((hblk.step hb).grown hgrow (fun e => hne e.symm)).set 0 (.slice (some ⟨g', 0, none⟩) (bs ++ news).length cap)
    exact this
  · refine ⟨hgrow.os.trans hb.os, hgrow.tape.trans hb.tape, hgrow.output.trans hb.output, ?_, fun k hk => ?_⟩
    · have h1 := hb.size
      have h2 := hgrow.size
      rw [World.size_setCell]
      omega
    · have hkl := hP k hk
      refine (Below.heap_setCell w1 ⟨g, 0, none⟩ _ k ?_).trans ((hgrow.block k (Nat.lt_of_lt_of_le hkl hb.size) ?_).trans (hb.block k hkl))
      · rintro rfl; exact hg hk
      · intro e; exact hvP k e.symm hk
theorem cell_lt {w : World} {b o : Nat} {v : Value} (h : w.cell? ⟨b, o, none⟩ = some v) : b < w.heap.size := by
  rcases Nat.lt_or_ge b w.heap.size with h1 | h1
  · exact h1
  · simp [World.cell?, Array.getElem?_eq_none h1] at h
theorem keepW {wk w' : World} {g : Nat} {v : Value} (h : wk.cell? ⟨g, 0, none⟩ = some v ∧ wk.frozen? ⟨g, 0, none⟩ = false) (hb : Below wk.heap.size wk w') : w'.cell? ⟨g, 0, none⟩ = some v ∧ w'.frozen? ⟨g, 0, none⟩ = false :=
  have hl := cell_lt h.1
  ⟨(hb.cell (p := ⟨g, 0, none⟩) hl).trans h.1, (hb.frozen (p := ⟨g, 0, none⟩) hl).trans h.2⟩

section
variable (P : Nat → Prop) (g : Nat) (bs : List Int) (x : Int) (w : World)
variable (hP : ∀ k, P k → k < w.heap.size) (hw : WS w P g bs) (hlen : bs.length ≤ 1000000)
include hP hw hlen
set_option maxRecDepth 100000 in
set_option maxHeartbeats 2000000 in
theorem word_any : Calls Tryd.prog 50 #[.pointer (some ⟨g, 0, none⟩), .int .u64 x] w fun e w' => e = .returned (.tuple #[]) ∧ KeepP P w w' ∧ WS w' P g (bs ++ word8 x) := by
  have HP := hide hP; clear hP
  go_enter Tryd.func50, Tryd.ntmps50
  go_wp2
  go_loopw [4, 5] (fun _ i wr => ∃ k : Nat, k ≤ 8 ∧ i = .int .i64 k ∧ KeepP P w wr ∧ WS wr P g (bs ++ (word8 x).take k))
    (fun _ i _ => 8 - (intOf i).toNat)
  case atStart => exact ⟨0, by omega, rfl, KeepP.refl _ _, by simpa using hw⟩
  case round =>
    obtain ⟨k, hk, rfl, hbr, v, hblk, hg, hown, hne, hvP⟩ := hrel
    have HV := hide hvP; clear hvP
    by_cases hlt : k < 8
    · have c0 := hblk.cell (i := 0) rfl
      have f0 := hblk.frozen 0
      have hgl := hblk.lt
      obtain ⟨i0, hi, hz0, hz1, hz2⟩ := info_parts u8_info
      have hsh : Op.shift .shr .u64 x .i64 (IntKind.i64.wrap (8 * (k : Int))) = pure (.int .u64 (x / 256 ^ k)) := by
        have h8 : IntKind.i64.wrap (8 * (k : Int)) = 8 * (k : Int) := by rw [IntKind.wrap_i64]; omega
        have e : (8 * (k : Int)).toNat = 8 * k := by omega
        have e2 := shift_shr .u64 .i64 x (8 * (k : Int)) (by omega) (by simp [IntKind.bits]; omega)
        rw [h8, e2, e]
        congr 3
        exact Int.pow_mul
      have hln : (bs ++ List.take k (word8 x)).length ≤ 1000008 := by rw [List.length_append, List.length_take, word8_length]; omega
      have hbd : IntKind.u8.wrap (x / 256 ^ k) = x / 256 ^ k % 256 := by rw [IntKind.wrap_u8]
      have HB := hide hbd; clear hbd
      have hsn : ∀ cs, cs = bs ++ List.take k (word8 x) → bs ++ List.take (k + 1) (word8 x) = cs ++ [x / 256 ^ k % 256] := fun cs h => by rw [h, word8_snoc x k hlt, List.append_assoc]
      generalize hcs : bs ++ List.take k (word8 x) = cs at hown hln hsn
      have HS := hide (hsn cs rfl); clear hsn hcs
      go_wp2
      go_region_law ((refine step_append_lies _ (by rfl) (.tmp 12) (.tmp 18) 22 (by rfl) 0 5 i0 (.int .u8 0) 1 1 Tryd.underlying22 hi hz0 hz1 hz2 (by rfl) (by decide) v _ _ (by rfl) (own_step hown (bl_drew (bl_alloc (Below.refl _ _) _))) ⟨wr.heap.size, 0, none⟩ 1 1 [.int .u8 (IntKind.u8.wrap (x / 256 ^ k))] (by rfl) (by rfl) (blk_cells (Blk.new _ _ _).drew) (by simp [Value.oneCell']) (by omega) (by unfold maxLen; omega) (by omega) (by omega) (wr.heap.size + 1) (by simp) ?_; intro g' cap w1 hown1 hgrow hat hlt'; have c1 := (World.grownBy.cell_far hgrow ⟨g, 0, none⟩ (by simp; omega) (Ne.symm hne)).trans (keepW ⟨c0, f0⟩ (bl_drew (bl_alloc (Below.refl _ _) _))).1; have f1 := (World.grownBy.frozen_far hgrow ⟨g, 0, none⟩ (by simp; omega) (Ne.symm hne)).trans (keepW ⟨c0, f0⟩ (bl_drew (bl_alloc (Below.refl _ _) _))).2))
      all_goals
        obtain ⟨p1, p2⟩ := ws_push (P := P) (fun k hk => Nat.lt_of_lt_of_le (HP.out k hk) hbr.size) hblk hg hne HV.out (bl_drew (bl_alloc (Below.refl _ _) _)) hown1 (bs := cs) (news := [x / 256 ^ k % 256]) (by simp) (by rw [HB.out, byCells_append]; rfl) hgrow (by simpa using hat) rfl
        go_wp2
        go_roundw
        case rel => exact ⟨k + 1, by omega, by go_num, hbr.trans p2, by rw [HS.out]; exact p1⟩
        case measure => simp [intOf]; omega
    · have hk' : k = 8 := by omega
      subst hk'
      go_wp2
      go_end0
      exact ⟨rfl, hbr, v, hblk, hg, hown, hne, HV.out⟩
end
end Go.Proofs.YtcfbkabiapaobaaDoor
