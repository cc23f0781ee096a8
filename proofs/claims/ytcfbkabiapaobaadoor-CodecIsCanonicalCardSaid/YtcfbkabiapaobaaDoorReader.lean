/- codec.reader: its methods take bytes from the front of a slice that the reader's cell holds. -/
import Derived.Test.YtcfbkabiapaobaaDoorU64
import Derived.Test.YtcfbkabiapaobaaDoorEach
import Derived.Laws.BitsAllLaws
namespace Go.Proofs.YtcfbkabiapaobaaDoor
open Go.RowKit

/-- bytes, least first, as a number -/
def le : List Int → Int
  | [] => 0
  | b :: t => b + 256 * le t
theorem le_snoc (l : List Int) (b : Int) : le (l ++ [b]) = le l + b * 256 ^ l.length := by
  induction l with
  | nil => simp [le]
  | cons a l ih =>
    simp only [List.cons_append, le, ih, List.length_cons]
    rw [Int.pow_succ, Int.mul_add, Int.add_assoc]
    congr 2
    rw [Int.mul_comm, Int.mul_assoc]
def By (bs : List Int) : Prop := ∀ x ∈ bs, 0 ≤ x ∧ x ≤ 255
theorem By.tail {b : Int} {t : List Int} (h : By (b :: t)) : By t := fun x hx => h x (by simp [hx])
theorem By.head {b : Int} {t : List Int} (h : By (b :: t)) : 0 ≤ b ∧ b ≤ 255 := h b (by simp)
theorem By.take {l : List Int} (h : By l) (k : Nat) : By (l.take k) := fun x hx => h x (List.mem_of_mem_take hx)
theorem By.drop {l : List Int} (h : By l) (k : Nat) : By (l.drop k) := fun x hx => h x (List.mem_of_mem_drop hx)
theorem le_bd : ∀ (l : List Int), By l → 0 ≤ le l ∧ le l < 256 ^ l.length
  | [], _ => by simp [le]
  | b :: t, h => by
    have h1 := le_bd t h.tail
    have h2 := h.head
    simp only [le, List.length_cons]
    rw [Int.pow_succ]
    have : le t + 1 ≤ 256 ^ t.length := h1.2
    omega
theorem le_step {x b : Int} {k : Nat} (hk : k < 8) (h0 : 0 ≤ x) (h1 : x < 256 ^ k) (b0 : 0 ≤ b) (b1 : b ≤ 255) : bits .or .u64 x (IntKind.u64.wrap (b * 2 ^ (8 * k))) = x + b * 256 ^ k := by
  have e : (2 : Int) ^ (8 * k) = 256 ^ k := Int.pow_mul
  have hp : (256 : Int) ^ (k + 1) ≤ 18446744073709551616 := by
    exact (by decide : ∀ k, k < 8 → (256 : Int) ^ (k + 1) ≤ 18446744073709551616) k hk
  have hpos : (0 : Int) < 256 ^ k := Int.pow_pos (by omega)
  rw [Int.pow_succ] at hp
  have hb : b * 256 ^ k ≤ 255 * 256 ^ k := Int.mul_le_mul_of_nonneg_right b1 (Int.le_of_lt hpos)
  have hb0 : 0 ≤ b * 256 ^ k := Int.mul_nonneg b0 (Int.le_of_lt hpos)
  have hw : IntKind.u64.wrap (b * 2 ^ (8 * k)) = b * 256 ^ k := by rw [e, IntKind.wrap_u64, Int.emod_eq_of_lt hb0 (by omega)]
  rw [hw, u64_or x _ h0 (by omega) hb0 (by omega)]
  have ex : ((x.toNat : Nat) : Int) = x := by omega
  have eb : (b * 256 ^ k).toNat = 2 ^ (8 * k) * b.toNat := by
    have : b * 256 ^ k = ((2 ^ (8 * k) * b.toNat : Nat) : Int) := by
      rw [Int.natCast_mul, Int.natCast_pow]
      have : ((b.toNat : Nat) : Int) = b := by omega
      rw [this, Int.mul_comm, ← e]
      rfl
    omega
  have hlt : x.toNat < 2 ^ (8 * k) := by
    have : ((x.toNat : Nat) : Int) < ((2 ^ (8 * k) : Nat) : Int) := by rw [ex, Int.natCast_pow]; rw [← e] at h1; exact h1
    omega
  rw [eb, Nat.or_comm, ← Nat.two_pow_add_eq_or_of_lt hlt]
  have : b * 256 ^ k = ((2 ^ (8 * k) * b.toNat : Nat) : Int) := by omega
  omega

/-- the reader in block g is at the bytes bs, which lie below block B -/
def RS (w : World) (P : Nat → Prop) (B g : Nat) (bs : List Int) : Prop :=
  ∃ A c, Blk w g 60 #[.slice A bs.length c] ∧ ¬ P g ∧ bs.length ≤ c ∧ Sl w B A (byCells bs)

theorem get_append_cons {l t : List Int} {k : Nat} (h : k < l.length) : l.drop k ++ t = l[k] :: (l.drop (k + 1) ++ t) := by
  rw [List.drop_eq_getElem_cons h]; rfl
theorem le_take_succ {l : List Int} {k : Nat} (h : k < l.length) : le (l.take (k + 1)) = le (l.take k) + l[k] * 256 ^ k := by
  rw [List.take_succ_eq_append_getElem h, le_snoc, List.length_take, Nat.min_eq_left (by omega)]

section
variable {w w' : World} {P R : Nat → Prop} {B g : Nat} {bs : List Int}
theorem RS.lt (h : RS w P B g bs) : g < w.heap.size := by obtain ⟨A, c, h1, _⟩ := h; exact h1.lt
theorem RS.step (h : RS w P B g bs) (hb : Below w.heap.size w w') (hB : ∀ k, k < B → P k) (hP : ∀ k, P k → k < w.heap.size) : RS w' P B g bs := by
  obtain ⟨A, c, h1, h2, h3, h4⟩ := h
  exact ⟨A, c, h1.step hb, h2, h3, h4.kept (KeepP.of_below hb hP) hB⟩
theorem RS.mono (h : RS w P B g bs) (hR : ∀ k, R k → P k) : RS w R B g bs := by
  obtain ⟨A, c, h1, h2, h3, h4⟩ := h
  exact ⟨A, c, h1, fun hr => h2 (hR _ hr), h3, h4⟩
theorem KeepP.set {b : Nat} (hb : ¬ P b) (o : Nat) (u : Value) (w : World) : KeepP P w (w.setCell ⟨b, o, none⟩ u) :=
  ⟨rfl, rfl, rfl, by rw [World.size_setCell]; exact Nat.le_refl _, fun k hk => Below.heap_setCell w _ u k (by rintro rfl; exact hb hk)⟩
theorem RS.far (h : RS w P B g bs) {b : Nat} (hg : g ≠ b) (hb : ¬ P b) (hB : ∀ k, k < B → P k) (o : Nat) (u : Value) : RS (w.setCell ⟨b, o, none⟩ u) P B g bs := by
  obtain ⟨A, c, h1, h2, h3, h4⟩ := h
  exact ⟨A, c, h1.far (p := ⟨b, o, none⟩) hg u, h2, h3, h4.kept (KeepP.set hb o u w) hB⟩
theorem RS.more (h : RS w P B g bs) (hb : Below w.heap.size w w') (hB : ∀ k, k < B → P k) (hP : ∀ k, P k → k < w.heap.size) : RS w' (More P w w') B g bs := by
  have hl := h.lt
  obtain ⟨A, c, h1, h2, h3, h4⟩ := h.step hb hB hP
  exact ⟨A, c, h1, fun hm => by rcases hm with hm | hm; exact h2 hm; omega, h3, h4⟩
end

section
variable (P : Nat → Prop) (B g : Nat) (w : World) (hB : ∀ k, k < B → P k)
include hB
set_option maxRecDepth 100000 in
set_option maxHeartbeats 2000000 in
theorem byte_any (x : Int) (t : List Int) (hr : RS w P B g (x :: t)) (hl : t.length ≤ 1000000) :
    Calls Tryd.prog 40 #[.pointer (some ⟨g, 0, none⟩)] w fun e w' => e = .returned (.int .u8 x) ∧ KeepP P w w' ∧ RS w' P B g t := by
  obtain ⟨A, c, hblk, hg, hc, hs⟩ := hr
  obtain ⟨b, off, rfl, hb, hcell⟩ := hs.by_ (by simp)
  have c0 := hcell 0 x rfl
  rw [Nat.add_zero] at c0
  have hcl : t.length + 1 ≤ c := by simpa using hc
  have g0 := hblk.cell (i := 0) rfl
  have f0 := hblk.frozen 0
  have hgl := hblk.lt
  have hbl := cell_lt c0
  have HB := hide hB
  have HC := hide hcell
  have HS := hide hs
  clear hs hcell hB hc
  simp only [List.length_cons] at g0
  have hkeep : ∀ u, KeepP P w (w.setCell ⟨g, 0, none⟩ u) := fun u => ⟨rfl, rfl, rfl, by rw [World.size_setCell]; exact Nat.le_refl _, fun k hk => Below.heap_setCell w _ u k (by rintro rfl; exact hg hk)⟩
  have HK := hide hkeep
  clear hkeep
  by_cases hc1 : c = 1
  · subst hc1
    have ht : t = [] := List.eq_nil_of_length_eq_zero (by omega)
    subst ht
    go_enter Tryd.func40, Tryd.ntmps40
    go_wp2
    go_ret
    exact ⟨rfl, HK.out _, _, _, hblk.set 0 _, hg, Nat.le_refl _, Sl.nil _ _ _⟩
  · have hc2 : 1 < c := by omega
    go_enter Tryd.func40, Tryd.ntmps40
    go_wp2
    go_ret
    refine ⟨rfl, HK.out _, _, _, hblk.set 0 _, hg, by omega, ?_⟩
    refine Sl.kept (P := P) ?_ (HK.out _) HB.out
    exact Sl.mk hb fun j u hu => by
      have := HC.out (j + 1)
      rw [show off + 1 + j = off + (j + 1) by omega]
      simp only [byCells, List.getElem?_map, Option.map_eq_some_iff] at hu
      obtain ⟨y, hy, rfl⟩ := hu
      exact this y (by simpa using hy)

set_option maxRecDepth 100000 in
set_option maxHeartbeats 2000000 in
theorem rdword_any (l t : List Int) (hl8 : l.length = 8) (hby : By l) (hr : RS w P B g (l ++ t)) (hl : t.length ≤ 900000) :
    Calls Tryd.prog 48 #[.pointer (some ⟨g, 0, none⟩)] w fun e w' => e = .returned (.int .u64 (le l)) ∧ KeepP P w w' ∧ RS w' P B g t := by
  have HB := hide hB; clear hB
  have HBY := hide hby; clear hby
  have HL := hide hl8; clear hl8
  go_enter Tryd.func48, Tryd.ntmps48
  go_wp2
  go_loopw [3, 5] (fun x i wr => ∃ (k : Nat) (y : Int), k ≤ 8 ∧ i = .int .i64 k ∧ x = .int .u64 y ∧ y = le (l.take k) ∧ KeepP P w wr ∧ RS wr P B g (l.drop k ++ t))
    (fun _ i _ => 8 - (intOf i).toNat)
  case atStart => exact ⟨0, 0, by omega, rfl, rfl, rfl, KeepP.refl _ _, by simpa using hr⟩
  case round =>
    obtain ⟨k, y, hk, rfl, rfl, hy, hkp, hrs⟩ := hrel
    have HY := hide hy; clear hy
    by_cases hlt : k < 8
    · have hkl : k < l.length := by rw [HL.out]; exact hlt
      obtain ⟨b, hb⟩ : ∃ b, b = l[k] := ⟨_, rfl⟩
      have hb01 := HBY.out l[k] (List.getElem_mem hkl)
      rw [← hb] at hb01
      obtain ⟨hb0, hb1⟩ := hb01
      have hyb := le_bd (l.take k) (HBY.out.take k)
      rw [List.length_take, Nat.min_eq_left (by omega), ← HY.out] at hyb
      have HST := hide (le_step hlt hyb.1 hyb.2 hb0 hb1)
      have HTS : Hid (le (l.take (k + 1)) = y + b * 256 ^ k) := by apply hide; rw [le_take_succ hkl, HY.out, hb]
      rw [get_append_cons hkl, ← hb] at hrs
      have hsh : Op.shift .shl .u64 b .i64 (IntKind.i64.wrap (8 * (k : Int))) = pure (.int .u64 (IntKind.u64.wrap (b * 2 ^ (8 * k)))) := by
        have h8 : IntKind.i64.wrap (8 * (k : Int)) = 8 * (k : Int) := by rw [IntKind.wrap_i64]; omega
        have e : (8 * (k : Int)).toNat = 8 * k := by omega
        have e2 := shift_shl .u64 .i64 b (8 * (k : Int)) (by omega) (by simp [IntKind.bits]; omega)
        rw [h8, e2, e]
      have HBE := hide hb
      clear hb hyb
      have hln : (l.drop (k + 1) ++ t).length ≤ 1000000 := by rw [List.length_append, List.length_drop, HL.out]; omega
      go_wp2_with fail
      refine (byte_any P B g wr HB.out b _ hrs hln).mono ?_
      rintro e w1 ⟨rfl, k1, r1⟩
      go_wp2
      go_roundw
      case rel => exact ⟨k + 1, _, by omega, by go_num, rfl, by rw [HTS.out]; exact HST.out, hkp.trans k1, r1⟩
      case measure => simp [intOf]; omega
    · have hk' : k = 8 := by omega
      subst hk'
      have h8 : l.drop 8 = [] := List.drop_of_length_le (by rw [HL.out]; omega)
      have t8 : l.take 8 = l := List.take_of_length_le (by rw [HL.out]; omega)
      rw [h8, List.nil_append] at hrs
      have HYY : Hid (y = le l) := by apply hide; rw [HY.out, t8]
      clear h8 t8
      go_wp2
      go_ret
      exact ⟨ret_int HYY.out, hkp, hrs⟩

/-- a record out of nine bytes -/
def recOf (l : List Int) : Int × Int := (l.getD 0 0, le (l.drop 1))
set_option maxRecDepth 100000 in
set_option maxHeartbeats 2000000 in
theorem rdrecord_any (x : Int) (l t : List Int) (hl8 : l.length = 8) (hx : 0 ≤ x ∧ x ≤ 255) (hby : By l) (hP : ∀ k, P k → k < w.heap.size) (hr : RS w P B g (x :: (l ++ t))) (hl : t.length ≤ 900000) :
    Calls Tryd.prog 42 #[.pointer (some ⟨g, 0, none⟩)] w fun e w' => e = .returned (.agg #[.int .u64 x, .int .u64 (le l)]) ∧ KeepP P w w' ∧ RS w' P B g t := by
  obtain ⟨hx0, hx1⟩ := hx
  obtain ⟨w0, hw0⟩ : ∃ w0, w0 = w.alloc (.cells #[.int .u64 0, .int .u64 0] 92) := ⟨_, rfl⟩
  have hb : Below w.heap.size w w0 := by rw [hw0]; exact bl_alloc (Below.refl _ _) _
  have hz : w0.heap.size = w.heap.size + 1 := by rw [hw0]; simp
  have B0 : Blk w0 w.heap.size 92 #[.int .u64 0, .int .u64 0] := by rw [hw0]; exact Blk.new _ _ _
  have hP1 := more_lt hP hb
  have h0 := hr.more hb hB hP
  have hm : ∀ w1, KeepP (More P w w0) w0 w1 → KeepP P w w1 := fun w1 => KeepP.more hb hP
  have hRk : More P w w0 w.heap.size := .inr ⟨Nat.le_refl _, by omega⟩
  have hBm : ∀ k, k < B → More P w w0 k := fun k hk => .inl (hB k hk)
  have HM := hide hm
  have HZ := hide hz
  have HPP := hide hP
  clear hm hz hP
  have HP1 := hide hP1
  clear hP1
  have hB0 := hide hB
  have HB := hide hBm; clear hB hBm
  have HBY := hide hby; clear hby
  have HL := hide hl8; clear hl8
  have hln : (l ++ t).length ≤ 1000000 := by rw [List.length_append, HL.out]; omega
  go_enter Tryd.func42, Tryd.ntmps42
  go_wp2_with fail
  rw [← hw0]
  have HW0 := hide hw0; clear hw0
  refine (byte_any (More P w w0) B g w0 HB.out x _ h0 hln).mono ?_
  rintro e w1 ⟨rfl, k1, r1⟩
  go_wp2_with fail
  refine (rdword_any (More P w w0) B g w1 HB.out l t HL.out HBY.out r1 hl).mono ?_
  rintro e w2 ⟨rfl, k2, r2⟩
  have B2 := (B0.kept k1 hRk).kept k2 hRk
  have b0 := B2.cell (i := 0) rfl
  have b1 := B2.cell (i := 1) rfl
  have f0 := B2.frozen 0
  have f1 := B2.frozen 1
  have hBl := B2.lt
  have B3 := (B2.set 0 (.int .u64 x)).set 1 (.int .u64 (le l))
  have e0 : (w2.setCell ⟨w.heap.size, 0, none⟩ (.int .u64 x)).cell? ⟨w.heap.size, 0, none⟩ = some (.int .u64 x) := (B2.set 0 (.int .u64 x)).cell (i := 0) rfl
  have e1 : ((w2.setCell ⟨w.heap.size, 0, none⟩ (.int .u64 x)).setCell ⟨w.heap.size, 1, none⟩ (.int .u64 (le l))).cell? ⟨w.heap.size, 1, none⟩ = some (.int .u64 (le l)) := B3.cell (i := 1) rfl
  have hnP : ¬ P w.heap.size := fun h => by have := HPP.out _ h; omega
  have hgne : g ≠ w.heap.size := by have := hr.lt; omega
  clear b0 b1
  have b0 := B2.cell (i := 0) rfl
  have b1 := B2.cell (i := 1) rfl
  go_wp2
  refine bodyPost_ret (v := .agg #[.int .u64 x, .int .u64 (le l)]) (by simp [results, Tryd.results42, go_sem, e0, e1]) rfl ⟨rfl, ?_, ?_⟩
  · exact ((HM.out _ (k1.trans k2)).trans (KeepP.set hnP _ _ _)).trans (KeepP.set hnP _ _ _)
  · exact ((r2.mono (R := P) (fun k hk => .inl hk)).far hgne hnP hB0.out _ _).far hgne hnP hB0.out _ _
end
end Go.Proofs.YtcfbkabiapaobaaDoor
