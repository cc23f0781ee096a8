/- codec.writer: its methods append to a row of bytes that the writer's cell holds. codec.writer: point, query, record; each over points, queries and records. Numbers in 64 bits; blocks that are kept. -/
import Derived.Test.YtgbimniloabjkaaGreatDoorFormat
import Derived.Deep.RegionLaw
import Derived.Deep.AppendLies
namespace Go.Proofs.YtgbimniloabjkaaGreatDoor
open Go.RowKit

/-- the blocks of P are as they were -/
structure KeepP (P : Nat → Prop) (w w' : World) : Prop where
  os : w'.os = w.os
  tape : w'.tape = w.tape
  output : w'.output = w.output
  size : w.heap.size ≤ w'.heap.size
  block : ∀ k, P k → w'.heap[k]? = w.heap[k]?
section
variable {P R : Nat → Prop} {w w' w'' : World} {B : Nat}
theorem KeepP.refl (P : Nat → Prop) (w : World) : KeepP P w w := ⟨rfl, rfl, rfl, Nat.le_refl _, fun _ _ => rfl⟩
theorem KeepP.trans (h : KeepP P w w') (k : KeepP P w' w'') : KeepP P w w'' :=
  ⟨k.os.trans h.os, k.tape.trans h.tape, k.output.trans h.output, Nat.le_trans h.size k.size, fun i hi => (k.block i hi).trans (h.block i hi)⟩
theorem KeepP.of_below (h : Below B w w') (hP : ∀ k, P k → k < B) : KeepP P w w' := ⟨h.os, h.tape, h.output, h.size, fun k hk => h.block k (hP k hk)⟩
theorem KeepP.below (h : KeepP P w w') (hP : ∀ k, k < B → P k) : Below B w w' := ⟨h.os, h.tape, h.output, h.size, fun k hk => h.block k (hP k hk)⟩
theorem KeepP.mono (h : KeepP P w w') (hP : ∀ k, R k → P k) : KeepP R w w' := ⟨h.os, h.tape, h.output, h.size, fun k hk => h.block k (hP k hk)⟩
theorem KeepP.cell (h : KeepP P w w') {b : Nat} (hb : P b) (o : Nat) : w'.cell? ⟨b, o, none⟩ = w.cell? ⟨b, o, none⟩ := World.cell?_of_block (h.block b hb)
theorem KeepP.frozen (h : KeepP P w w') {b : Nat} (hb : P b) (o : Nat) : w'.frozen? ⟨b, o, none⟩ = w.frozen? ⟨b, o, none⟩ := World.frozen?_of_block (h.block b hb)
theorem Blk.kept {g : Nat} {t : TypeId} {cs : Array Value} (hb : Blk w g t cs) (h : KeepP P w w') (hP : P g) : Blk w' g t cs := (h.block g hP).trans hb
theorem Sl.kept {A : Option Addr} {xs : List Value} (hs : Sl w B A xs) (h : KeepP P w w') (hP : ∀ k, k < B → P k) : Sl w' B A xs := by
  rcases hs with hs | ⟨b, off, hA, hlt, hc⟩
  · exact .inl hs
  · exact .inr ⟨b, off, hA, hlt, fun j u hu => (h.cell (hP b hlt) _).trans (hc j u hu)⟩
end

/-- the writer in block g holds a row of the call's own, which reads bs; neither lies in P -/
def WS (w : World) (P : Nat → Prop) (g : Nat) (bs : List Int) : Prop :=
  ∃ v, Blk w g 96 #[v] ∧ ¬ P g ∧ w.ownsRow 0 5 1 v bs.length (byCells bs) ∧ v.ownBlock ≠ some g ∧ ∀ k, v.ownBlock = some k → ¬ P k
/-- the eight bytes of a word -/
def word8 (x : Int) : List Int := (List.range 8).map fun k => x / 256 ^ k % 256
theorem word8_length (x : Int) : (word8 x).length = 8 := rfl
theorem word8_snoc (x : Int) (k : Nat) (hk : k < 8) : (word8 x).take (k + 1) = (word8 x).take k ++ [x / 256 ^ k % 256] := by
  unfold word8
  rw [List.take_add_one]
  congr 1
  rw [List.getElem?_map, List.getElem?_range hk]
  rfl

/-- what a push onto the writer's row leaves -/
theorem ws_push {wr wa w1 : World} {P : Nat → Prop} {g g' cap n : Nat} {t : TypeId} {v : Value} {bs news : List Int} {xs : List Value} (hP : ∀ k, P k → k < wr.heap.size)
    (hblk : Blk wr g t #[v]) (hg : ¬ P g) (hne : v.ownBlock ≠ some g) (hvP : ∀ k, v.ownBlock = some k → ¬ P k) (hb : Below wr.heap.size wr wa)
    (hown1 : w1.ownsRow 0 5 1 (.slice (some ⟨g', 0, none⟩) n cap) n xs) (hn : n = (bs ++ news).length) (hx : xs = byCells (bs ++ news))
    (hgrow : wa.grownBy w1 v.ownBlock) (hat : v.ownBlock = some g' ∨ g' = wa.heap.size) (ht : t = 96) :
    WS (w1.setCell ⟨g, 0, none⟩ (.slice (some ⟨g', 0, none⟩) n cap)) P g (bs ++ news) ∧ KeepP P wr (w1.setCell ⟨g, 0, none⟩ (.slice (some ⟨g', 0, none⟩) n cap)) := by
  subst ht hn hx
  have hgl : g < wa.heap.size := Nat.lt_of_lt_of_le hblk.lt hb.size
  have hgg : some g' ≠ some g := by
    rcases hat with h | h
    · rw [← h]; exact hne
    · intro e; injection e with e; omega
  have hvP' : ¬ P g' := by
    rcases hat with h | h
    · exact hvP g' h
    · intro hp; have := hP g' hp; have := hb.size; omega
  refine ⟨⟨_, ?_, hg, own_set hown1 (by simpa [Value.ownBlock] using hgg) _, by simpa [Value.ownBlock] using hgg, fun k hk => by
    have : g' = k := by simpa [Value.ownBlock] using hk
    subst this; exact hvP'⟩, ?_⟩
  · have := ((hblk.step hb).grown hgrow (fun e => hne e.symm)).set 0 (.slice (some ⟨g', 0, none⟩) (bs ++ news).length cap)
    exact this
  · refine ⟨hgrow.os.trans hb.os, hgrow.tape.trans hb.tape, hgrow.output.trans hb.output, ?_, fun k hk => ?_⟩
    · have h1 := hb.size
      have h2 := hgrow.size
      rw [World.size_setCell]
      omega
    · have hkl := hP k hk
      refine (Below.heap_setCell w1 ⟨g, 0, none⟩ _ k ?_).trans ((hgrow.block k (Nat.lt_of_lt_of_le hkl hb.size) ?_).trans (hb.block k hkl))
      · rintro rfl; exact hg hk
      · intro e; exact hvP k e.symm hk
theorem keepW {wk w' : World} {g : Nat} {v : Value} (h : wk.cell? ⟨g, 0, none⟩ = some v ∧ wk.frozen? ⟨g, 0, none⟩ = false) (hb : Below wk.heap.size wk w') : w'.cell? ⟨g, 0, none⟩ = some v ∧ w'.frozen? ⟨g, 0, none⟩ = false :=
  have hl := cell_lt h.1
  ⟨(hb.cell (p := ⟨g, 0, none⟩) hl).trans h.1, (hb.frozen (p := ⟨g, 0, none⟩) hl).trans h.2⟩

section
variable (P : Nat → Prop) (g : Nat) (bs : List Int) (x : Int) (w : World)
variable (hP : ∀ k, P k → k < w.heap.size) (hw : WS w P g bs) (hlen : bs.length ≤ 1000000)
include hP hw hlen
set_option maxRecDepth 100000 in
set_option maxHeartbeats 2000000 in
theorem word_any : Calls Tryz.prog 77 #[.pointer (some ⟨g, 0, none⟩), .int .u64 x] w fun e w' => e = .returned (.tuple #[]) ∧ KeepP P w w' ∧ WS w' P g (bs ++ word8 x) := by
  have HP := hide hP; clear hP
  go_enter Tryz.func77, Tryz.ntmps77
  go_wp2
  go_loopw [4, 5] (fun _ i wr => ∃ k : Nat, k ≤ 8 ∧ i = .int .i64 k ∧ KeepP P w wr ∧ WS wr P g (bs ++ (word8 x).take k))
    (fun _ i _ => 8 - (intOf i).toNat)
  case atStart => exact ⟨0, by omega, rfl, KeepP.refl _ _, by simpa using hw⟩
  case round =>
    obtain ⟨k, hk, rfl, hbr, v, hblk, hg, hown, hne, hvP⟩ := hrel
    have HV := hide hvP; clear hvP
    by_cases hlt : k < 8
    · have c0 := hblk.cell (i := 0) rfl
      have f0 := hblk.frozen 0
      have hgl := hblk.lt
      obtain ⟨i0, hi, hz0, hz1, hz2⟩ := info_parts u8_info
      have hsh : Op.shift .shr .u64 x .i64 (IntKind.i64.wrap (8 * (k : Int))) = pure (.int .u64 (x / 256 ^ k)) := by
        have h8 : IntKind.i64.wrap (8 * (k : Int)) = 8 * (k : Int) := by rw [IntKind.wrap_i64]; omega
        have e : (8 * (k : Int)).toNat = 8 * k := by omega
        have e2 := shift_shr .u64 .i64 x (8 * (k : Int)) (by omega) (by simp [IntKind.bits]; omega)
        rw [h8, e2, e]
        congr 3
        exact Int.pow_mul
      have hln : (bs ++ List.take k (word8 x)).length ≤ 1000008 := by rw [List.length_append, List.length_take, word8_length]; omega
      have hbd : IntKind.u8.wrap (x / 256 ^ k) = x / 256 ^ k % 256 := by rw [IntKind.wrap_u8]
      have HB := hide hbd; clear hbd
      have hsn : ∀ cs, cs = bs ++ List.take k (word8 x) → bs ++ List.take (k + 1) (word8 x) = cs ++ [x / 256 ^ k % 256] := fun cs h => by rw [h, word8_snoc x k hlt, List.append_assoc]
      generalize hcs : bs ++ List.take k (word8 x) = cs at hown hln hsn
      have HS := hide (hsn cs rfl); clear hsn hcs
      go_wp2
      go_region_law ((refine step_append_lies _ (by rfl) (.tmp 12) (.tmp 18) 59 (by rfl) 0 5 i0 (.int .u8 0) 1 1 Tryz.underlying59 hi hz0 hz1 hz2 (by rfl) (by decide) v _ _ (by rfl) (own_step hown (bl_drew (bl_alloc (Below.refl _ _) _))) ⟨wr.heap.size, 0, none⟩ 1 1 [.int .u8 (IntKind.u8.wrap (x / 256 ^ k))] (by rfl) (by rfl) (blk_cells (Blk.new _ _ _).drew) (by simp [Value.oneCell']) (by omega) (by unfold maxLen; omega) (by omega) (by omega) (wr.heap.size + 1) (by simp) ?_; intro g' cap w1 hown1 hgrow hat hlt'; have c1 := (World.grownBy.cell_far hgrow ⟨g, 0, none⟩ (by simp; omega) (Ne.symm hne)).trans (keepW ⟨c0, f0⟩ (bl_drew (bl_alloc (Below.refl _ _) _))).1; have f1 := (World.grownBy.frozen_far hgrow ⟨g, 0, none⟩ (by simp; omega) (Ne.symm hne)).trans (keepW ⟨c0, f0⟩ (bl_drew (bl_alloc (Below.refl _ _) _))).2))
      all_goals
        obtain ⟨p1, p2⟩ := ws_push (P := P) (fun k hk => Nat.lt_of_lt_of_le (HP.out k hk) hbr.size) hblk hg hne HV.out (bl_drew (bl_alloc (Below.refl _ _) _)) hown1 (bs := cs) (news := [x / 256 ^ k % 256]) (by simp) (by rw [HB.out, byCells_append]; rfl) hgrow (by simpa using hat) rfl
        go_wp2
        go_roundw
        case rel => exact ⟨k + 1, by omega, by go_num, hbr.trans p2, by rw [HS.out]; exact p1⟩
        case measure => simp [intOf]; omega
    · have hk' : k = 8 := by omega
      subst hk'
      go_wp2
      go_end0
      exact ⟨rfl, hbr, v, hblk, hg, hown, hne, HV.out⟩
end
end Go.Proofs.YtgbimniloabjkaaGreatDoor

namespace Go.Proofs.YtgbimniloabjkaaGreatDoor
open Go.RowKit

section
variable {w w' : World} {P R : Nat → Prop} {g : Nat} {bs : List Int}
theorem WS.lt (h : WS w P g bs) : g < w.heap.size := by
  obtain ⟨v, hb, _⟩ := h; exact hb.lt
theorem WS.step (h : WS w P g bs) (hb : Below w.heap.size w w') : WS w' P g bs := by
  obtain ⟨v, h1, h2, h3, h4, h5⟩ := h
  exact ⟨v, h1.step hb, h2, own_step h3 hb, h4, h5⟩
theorem WS.mono (h : WS w P g bs) (hR : ∀ k, R k → P k) : WS w R g bs := by
  obtain ⟨v, h1, h2, h3, h4, h5⟩ := h
  exact ⟨v, h1, fun hr => h2 (hR _ hr), h3, h4, fun k hk hr => h5 k hk (hR _ hr)⟩
/-- blocks made since are kept besides -/
def More (P : Nat → Prop) (w w' : World) (k : Nat) : Prop := P k ∨ w.heap.size ≤ k ∧ k < w'.heap.size
theorem WS.more (h : WS w P g bs) (hb : Below w.heap.size w w') : WS w' (More P w w') g bs := by
  obtain ⟨v, h1, h2, h3, h4, h5⟩ := h
  have := h1.lt
  refine ⟨v, h1.step hb, fun h => ?_, own_step h3 hb, h4, fun k hk h => ?_⟩
  · rcases h with h | h
    · exact h2 h
    · omega
  · have := own_lt h3 hk
    rcases h with h | h
    · exact h5 k hk h
    · omega
theorem KeepP.more {w1 : World} {P : Nat → Prop} (hb : Below w.heap.size w w') (hP : ∀ k, P k → k < w.heap.size) (h : KeepP (More P w w') w' w1) : KeepP P w w1 :=
  (KeepP.of_below hb hP).trans (h.mono fun _ hk => .inl hk)
theorem more_lt {P : Nat → Prop} (hP : ∀ k, P k → k < w.heap.size) (hb : Below w.heap.size w w') : ∀ k, More P w w' k → k < w'.heap.size := by
  intro k hk
  rcases hk with hk | hk
  · exact Nat.lt_of_lt_of_le (hP k hk) hb.size
  · exact hk.2
end

def u64w (x : Int) : Int := IntKind.u64.wrap x
def pt16 (p : Int × Int) : List Int := word8 (u64w p.1) ++ word8 (u64w p.2)
theorem pt16_length (p : Int × Int) : (pt16 p).length = 16 := rfl
def q24 (q : (Int × Int) × Int) : List Int := pt16 q.1 ++ word8 q.2
theorem q24_length (q : (Int × Int) × Int) : (q24 q).length = 24 := rfl
def rec9 (r : Int × Int) : List Int := [r.1 % 256] ++ word8 r.2
theorem rec9_length (r : Int × Int) : (rec9 r).length = 9 := rfl

section
variable (P : Nat → Prop) (g : Nat) (bs : List Int) (w : World)
variable (hP : ∀ k, P k → k < w.heap.size) (hw : WS w P g bs) (hlen : bs.length ≤ 900000)
include hP hw hlen
set_option maxRecDepth 100000 in
set_option maxHeartbeats 2000000 in
theorem point_any (x y : Int) : Calls Tryz.prog 45 #[.pointer (some ⟨g, 0, none⟩), .agg #[.int .i64 x, .int .i64 y]] w fun e w' => e = .returned (.tuple #[]) ∧ KeepP P w w' ∧ WS w' P g (bs ++ pt16 (x, y)) := by
  obtain ⟨w0, hw0⟩ : ∃ w0, w0 = w.alloc (.cells #[.int .i64 x, .int .i64 y] 44) := ⟨_, rfl⟩
  have hb : Below w.heap.size w w0 := by rw [hw0]; exact bl_alloc (Below.refl _ _) _
  have hz : w0.heap.size = w.heap.size + 1 := by rw [hw0]; simp
  have B0 : Blk w0 w.heap.size 44 #[.int .i64 x, .int .i64 y] := by rw [hw0]; exact Blk.new _ _ _
  have hP1 := more_lt hP hb
  have h0 := hw.more hb
  have hm : ∀ w1, KeepP (More P w w0) w0 w1 → KeepP P w w1 := fun w1 => KeepP.more hb hP
  have hRk : More P w w0 w.heap.size := .inr ⟨Nat.le_refl _, by omega⟩
  have HM := hide hm
  have HZ := hide hz
  clear hm hz hP
  have HP1 := hide hP1
  clear hP1
  go_enter Tryz.func45, Tryz.ntmps45
  go_wp2_with fail
  rw [← hw0]
  have HW0 := hide hw0
  clear hw0
  refine (word_any (More P w w0) g bs _ _ HP1.out h0 (by omega)).mono ?_
  rintro e w1 ⟨rfl, k1, s1⟩
  have B1 := B0.kept k1 hRk
  have c1 := B1.cell (i := 1) rfl
  go_wp2_with fail
  refine (word_any (More P w w0) g _ _ _ (fun k hk => Nat.lt_of_lt_of_le (HP1.out k hk) k1.size) s1 (by rw [List.length_append, word8_length]; omega)).mono ?_
  rintro e w2 ⟨rfl, k2, s2⟩
  go_wp2
  go_end0
  refine ⟨rfl, HM.out _ (k1.trans k2), ?_⟩
  have s3 := s2.mono (R := P) (fun k hk => .inl hk)
  rw [List.append_assoc] at s3
  exact s3

set_option maxRecDepth 100000 in
set_option maxHeartbeats 2000000 in
theorem query_any (x y d : Int) : Calls Tryz.prog 47 #[.pointer (some ⟨g, 0, none⟩), .agg #[.int .i64 x, .int .i64 y, .int .u64 d]] w fun e w' => e = .returned (.tuple #[]) ∧ KeepP P w w' ∧ WS w' P g (bs ++ q24 ((x, y), d)) := by
  obtain ⟨w0, hw0⟩ : ∃ w0, w0 = w.alloc (.cells #[.int .i64 x, .int .i64 y, .int .u64 d] 101) := ⟨_, rfl⟩
  have hb : Below w.heap.size w w0 := by rw [hw0]; exact bl_alloc (Below.refl _ _) _
  have hz : w0.heap.size = w.heap.size + 1 := by rw [hw0]; simp
  have B0 : Blk w0 w.heap.size 101 #[.int .i64 x, .int .i64 y, .int .u64 d] := by rw [hw0]; exact Blk.new _ _ _
  have hP1 := more_lt hP hb
  have h0 := hw.more hb
  have hm : ∀ w1, KeepP (More P w w0) w0 w1 → KeepP P w w1 := fun w1 => KeepP.more hb hP
  have hRk : More P w w0 w.heap.size := .inr ⟨Nat.le_refl _, by omega⟩
  have HM := hide hm
  have HZ := hide hz
  clear hm hz hP
  have HP1 := hide hP1
  clear hP1
  go_enter Tryz.func47, Tryz.ntmps47
  go_wp2_with fail
  rw [← hw0]
  have HW0 := hide hw0
  clear hw0
  refine (point_any (More P w w0) g bs _ HP1.out h0 (by omega) x y).mono ?_
  rintro e w1 ⟨rfl, k1, s1⟩
  have B1 := B0.kept k1 hRk
  have c2 := B1.cell (i := 2) rfl
  go_wp2_with fail
  refine (word_any (More P w w0) g _ _ _ (fun k hk => Nat.lt_of_lt_of_le (HP1.out k hk) k1.size) s1 (by rw [List.length_append, pt16_length]; omega)).mono ?_
  rintro e w2 ⟨rfl, k2, s2⟩
  go_wp2
  go_end0
  refine ⟨rfl, HM.out _ (k1.trans k2), ?_⟩
  have s3 := s2.mono (R := P) (fun k hk => .inl hk)
  rw [List.append_assoc] at s3
  exact s3


end
end Go.Proofs.YtgbimniloabjkaaGreatDoor

namespace Go.Proofs.YtgbimniloabjkaaGreatDoor
open Go.RowKit

/-- a number in 64 bits without a sign -/
def U64 (x : Int) : Prop := 0 ≤ x ∧ x < 18446744073709551616
theorem U64.nonneg {x : Int} (h : U64 x) : 0 ≤ x := h.1
theorem u64w_u64 (x : Int) : U64 (IntKind.u64.wrap x) := by unfold U64; rw [IntKind.wrap_u64]; omega
theorem U64.div {x : Int} (h : U64 x) (k : Nat) : U64 (x / 256 ^ k) := by
  refine ⟨Int.ediv_nonneg h.1 (Int.pow_nonneg (by omega)), Int.lt_of_le_of_lt (Int.ediv_le_self _ h.1) h.2⟩
theorem U64.quo {z : Int} (h : U64 z) : IntKind.u64.wrap (z.tdiv 256) = z / 256 := by
  rw [Int.tdiv_eq_ediv_of_nonneg h.1, IntKind.wrap_u64, Int.emod_eq_of_lt (Int.ediv_nonneg h.1 (by omega)) (Int.lt_of_le_of_lt (Int.ediv_le_self _ h.1) h.2)]
theorem keepPt {R : Nat → Prop} {w0 wk w' : World} {b : Nat} {u v : Value} (hR : R b) (hk : KeepP R wk w') (h : KeepP R w0 wk ∧ wk.cell? ⟨b, 0, none⟩ = some u ∧ wk.cell? ⟨b, 1, none⟩ = some v) :
    KeepP R w0 w' ∧ w'.cell? ⟨b, 0, none⟩ = some u ∧ w'.cell? ⟨b, 1, none⟩ = some v :=
  ⟨h.1.trans hk, (hk.cell hR _).trans h.2.1, (hk.cell hR _).trans h.2.2⟩
theorem KeepP.drew (P : Nat → Prop) (w : World) : KeepP P w w.drew := ⟨rfl, rfl, rfl, Nat.le_refl _, fun _ _ => rfl⟩
theorem div256_succ (x : Int) (k : Nat) : x / 256 ^ k / 256 = x / 256 ^ (k + 1) := by
  rw [Int.pow_succ, Int.ediv_ediv_of_nonneg (Int.pow_nonneg (by omega))]
end Go.Proofs.YtgbimniloabjkaaGreatDoor
