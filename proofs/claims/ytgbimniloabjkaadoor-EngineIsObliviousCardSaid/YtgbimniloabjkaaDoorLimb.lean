/- limb: integers of a fixed width: From, Extend, Add, Sub, Sign on the limbs of a number. -/
import Derived.Test.YtgbimniloabjkaaDoorLimbMath
import Derived.Test.YtgbimniloabjkaaDoorWord
import Derived.Deep.AppendLies
import Derived.Deep.RegionLaw
import Derived.OwnWalk
import Derived.Lib.SliceRun
namespace Go.Proofs.YtgbimniloabjkaaDoor
open Go.RowKit

def uCs (l : List Int) : List Value := l.map (Value.int .u64)
theorem uCs_length (l : List Int) : (uCs l).length = l.length := by simp [uCs]
theorem Sl.u {w : World} {B : Nat} {A : Option Addr} {l : List Int} (h : Sl w B A (uCs l)) (hn : 0 < l.length) :
    ∃ b off, A = some ⟨b, off, none⟩ ∧ b < B ∧ ∀ j x, l[j]? = some x → w.cell? ⟨b, off + j, none⟩ = some (.int .u64 x) := by
  obtain ⟨b, off, hA, hB, hc⟩ := h.open_ (by rw [uCs_length]; exact hn)
  exact ⟨b, off, hA, hB, fun j x hx => hc j _ (by simp [uCs, hx])⟩
/-- what a function gives that makes an integer -/
def GaveL (l : List Int) (w : World) (e : Ending) (w' : World) : Prop :=
  ∃ A c, e = .returned (.slice A l.length c) ∧ Below w.heap.size w w' ∧ Sl w' w'.heap.size A (uCs l)

/- limb.is: every slice has one limb to eight -/
def slCs (ls : List (Option Addr × Nat × Nat)) : List Value := ls.map fun x => .slice x.1 x.2.1 x.2.2
theorem Sl.sl {w : World} {B : Nat} {A : Option Addr} {ls : List (Option Addr × Nat × Nat)} (h : Sl w B A (slCs ls)) (hn : 0 < ls.length) :
    ∃ b off, A = some ⟨b, off, none⟩ ∧ b < B ∧ ∀ j x, ls[j]? = some x → w.cell? ⟨b, off + j, none⟩ = some (.slice x.1 x.2.1 x.2.2) := by
  obtain ⟨b, off, hA, hB, hc⟩ := h.open_ (by simpa [slCs] using hn)
  exact ⟨b, off, hA, hB, fun j x hx => hc j _ (by simp [slCs, hx])⟩
set_option maxRecDepth 100000 in
set_option maxHeartbeats 1000000 in
theorem is_true (ls : List (Option Addr × Nat × Nat)) (hl : ∀ x ∈ ls, 1 ≤ x.2.1 ∧ x.2.1 ≤ 8) (h0 : 0 < ls.length) (h10 : ls.length ≤ 10) (B : Nat) (A : Option Addr) (c : Nat) (w : World) (hs : Sl w B A (slCs ls)) :
    Calls Tryd.prog 72 #[.slice A ls.length c] w fun e w' => e = .returned (.bool true) ∧ w = w' := by
  obtain ⟨b, off, rfl, _, hcell⟩ := hs.sl h0
  have HC := hide hcell; have HL := hide hl
  clear hcell hl hs
  go_enter Tryd.func72, Tryd.ntmps72
  go_wp2
  go_loop [7] (fun i => ∃ k : Nat, k ≤ ls.length ∧ i = .int .i64 k)
    (fun i => ls.length - (intOf i).toNat)
  case atStart => exact ⟨0, by omega, rfl⟩
  case round =>
    obtain ⟨k, hk, rfl⟩ := hrel
    by_cases hlt : k < ls.length
    · obtain ⟨x, hx⟩ : ∃ x, ls[k]? = some x := ⟨_, List.getElem?_eq_getElem hlt⟩
      obtain ⟨h1, h2⟩ := HL.out x (List.mem_of_getElem? hx)
      have c0 := HC.out k x hx
      have hk0 : (0 : Int) ≤ (k : Int) := by omega
      have hkl : (k : Int) < (ls.length : Int) := by omega
      have n1 : ¬ (x.2.1 : Int) < 1 := by omega
      have n2 : ¬ (8 : Int) < (x.2.1 : Int) := by omega
      clear hx
      go_wp2
      go_round
      case rel => exact ⟨k + 1, by omega, by go_num⟩
      case measure => simp [intOf]; omega
    · obtain rfl : ls.length = k := by omega
      go_wp2
      go_ret
      exact ⟨rfl, rfl⟩

theorem u64_info : (Tryd.prog.info? 70).map (fun i => (i.zero, i.size, i.bytes)) = some (some (.int .u64 0), 1, 8) := by kernel_rfl
/-- what Clone gives: a row of the call's own -/
def Cloned (l : List Int) (w : World) (e : Ending) (w' : World) : Prop :=
  ∃ A c, e = .returned (.slice A l.length c) ∧ Below w.heap.size w w' ∧ w'.ownsRow w.heap.size 70 1 (.slice A l.length c) l.length (uCs l)
set_option maxRecDepth 100000 in
set_option maxHeartbeats 1000000 in
theorem clone_u64 (l : List Int) (h0 : 0 < l.length) (h10 : l.length ≤ 100) (B : Nat) (A : Option Addr) (c : Nat) (w : World) (hB : B ≤ w.heap.size) (hs : Sl w B A (uCs l)) :
    Calls Tryd.prog 82 #[.slice A l.length c] w (Cloned l w) := by
  obtain ⟨b, off, rfl, hb, hcell⟩ := hs.u h0
  have HC := hide hcell
  clear hcell hs
  obtain ⟨i0, hi, hz0, hz1, hz2⟩ := info_parts u64_info
  have q22 : ∀ (w : World) (a : Option Addr) (n c n' c' : Nat), (binOp .eql 127 (.slice a n c) (.slice none n' c')).run Tryd.prog w = .ok (.bool a.isNone) w := fun w a n c n' c' => Lib.run_eql_slice_nil w _ _ a n c n' c' Tryd.underlying127
  go_enter Tryd.func82, Tryd.ntmps82
  go_wp2_with (at_builtin; refine wpList_append_own _ rfl (.tmp 5) (.tmp 6) 127 rfl w.heap.size 70 i0 (.int .u64 0) 1 8 Tryd.underlying127 hi hz0 hz1 hz2 rfl (by decide) (.slice (some ⟨w.heap.size, 0, none⟩) 0 0) 0 [] rfl (own_of_blk (xs := []) (Blk.new _ _ _) (Nat.le_refl _) rfl (by unfold maxLen; omega)) ⟨b, off, none⟩ l.length c (uCs l) rfl ?c1 ?c2 ?c3 ?c4 ?c5 ?c6 ?_)
  case c1 => simp [uCs]
  case c2 =>
    intro j u hu
    rw [World.cell?_alloc_lt _ _ _ (by simp [Addr.add]; split <;> (dsimp only; omega))]
    have e : (⟨b, off, none⟩ : Addr).add j = ⟨b, off + j, none⟩ := by unfold Addr.add; split <;> simp_all
    rw [e]
    simp only [uCs, List.getElem?_map, Option.map_eq_some_iff] at hu
    obtain ⟨x, hx, rfl⟩ := hu
    exact HC.out j x hx
  case c3 => simp [uCs, Value.oneCell']
  case c4 => unfold maxLen; omega
  case c5 => omega
  case c6 => simp
  intro v3 w3 hown3 hgrow3 _
  have hb3 : Below w.heap.size w w3 := (bl_alloc (Below.refl _ _) _).grown hgrow3 (by simp) (fun k hk => by simp [Value.ownBlock] at hk; omega)
  have hown4 : w3.ownsRow w.heap.size 70 1 v3 l.length (uCs l) := by simpa using hown3
  obtain ⟨A3, c3, rfl, _⟩ := own_slice hown4
  clear hown3 hgrow3
  go_wp2
  go_ret
  exact ⟨A3, c3, rfl, hb3, hown4⟩

theorem Sl.pre {w : World} {B : Nat} {A : Option Addr} {xs : List Value} (h : Sl w B A xs) (n : Nat) : Sl w B A (xs.take n) := by
  rcases h with h | ⟨b, off, hA, hlt, hc⟩
  · left; rw [h]; simp
  · refine .inr ⟨b, off, hA, hlt, fun j u hu => hc j u ?_⟩
    rw [List.getElem?_take] at hu
    split at hu
    · exact hu
    · cases hu
def lenOf : Value → Nat
  | .slice _ n _ => n
  | _ => 0
/-- the limbs behind an extension -/
theorem ext_lims {m n k : Nat} {v : Int} (hm : 1 ≤ m) (hf : Fits m v ∨ n ≤ m) (hk : m + k ≤ max m n) (hn : n ≤ m + k) :
    (lims m v ++ List.replicate k (msk (decide (9223372036854775808 ≤ lim v (m - 1))))).take n = lims n v := by
  by_cases h : n ≤ m
  · have : k = 0 := by omega
    subst this
    simp only [List.replicate_zero, List.append_nil]
    exact lims_take v h
  · rcases hf with hf | hf
    · obtain ⟨m', rfl⟩ : ∃ m', m = m' + 1 := ⟨m - 1, by omega⟩
      have ht := lim_top hf
      have hfill : msk (decide (9223372036854775808 ≤ lim v (m' + 1 - 1))) = if v < 0 then 18446744073709551616 - 1 else 0 := by
        rw [Nat.add_sub_cancel]
        by_cases hv : v < 0
        · rw [if_pos hv, decide_eq_true (ht.2 hv)]; rfl
        · rw [if_neg hv, decide_eq_false (fun h => hv (ht.1 h))]; rfl
      have hk' : k = n - (m' + 1) := by omega
      rw [hfill, hk', ← lims_extend hf (by omega)]
      exact List.take_of_length_le (by rw [lims_length]; exact Nat.le_refl _)
    · omega
set_option maxRecDepth 100000 in
set_option maxHeartbeats 2000000 in
/-- limb.Extend on the limbs of a number that fits: its limbs, more or fewer -/
theorem extend_any (m n : Nat) (v : Int) (hf : Fits m v ∨ n ≤ m) (hm : 1 ≤ m) (hm8 : m ≤ 8) (hn : 1 ≤ n) (hn8 : n ≤ 8) (A : Option Addr) (c : Nat) (w : World) (hs : Sl w w.heap.size A (uCs (lims m v))) :
    Calls Tryd.prog 74 #[.slice A m c, .int .i64 (n : Int)] w (GaveL (lims n v) w) := by
  have hll := lims_length m v
  obtain ⟨b, off, rfl, hb, hcell⟩ := hs.u (by omega)
  obtain ⟨w0, hw0⟩ : ∃ w0, w0 = w.alloc (.cells #[.slice (some ⟨b, off, none⟩) m c] 127) := ⟨_, rfl⟩
  have hb0 : Below w.heap.size w w0 := by rw [hw0]; exact bl_alloc (Below.refl _ _) _
  have X0 : Blk w0 w.heap.size 127 #[.slice (some ⟨b, off, none⟩) m c] := by rw [hw0]; exact Blk.new _ _ _
  have IS := is_true [(some ⟨b, off, none⟩, m, c)] (by simp; omega) (by simp) (by simp) w0.heap.size (some ⟨w.heap.size, 0, none⟩) 1 w0 (Sl.mk X0.lt fun j u hu => by
    rw [Nat.zero_add]; exact X0.cell (by simpa [slCs] using hu))
  have hbw0 : b < w0.heap.size := Nat.lt_of_lt_of_le hb hb0.size
  have CL := clone_u64 (lims m v) (by omega) (by omega) w0.heap.size (some ⟨b, off, none⟩) c w0 (Nat.le_refl _) ((hs.below hb0).more hb0.size)
  rw [hll] at CL
  have htop : (lims m v)[m - 1]? = some (lim v (m - 1)) := lims_get v (by omega)
  have hct := hcell _ _ htop
  have hlb := lim_bd v (m - 1)
  have HIS := hide IS; have HCL := hide CL
  obtain ⟨top, hto⟩ : ∃ top, top = lim v (m - 1) := ⟨_, rfl⟩
  rw [← hto] at hct hlb
  have HTO := hide hto
  have HF := hide hf
  clear IS CL hcell hto htop hf hs
  have hm1 : ((m : Int) - 1).toNat = m - 1 := by omega
  have hmi : (0 : Int) ≤ (m : Int) - 1 := by omega
  have hmw : IntKind.i64.wrap ((m : Int) - 1) = (m : Int) - 1 := by rw [IntKind.wrap_i64]; omega
  have hml : (m : Int) - 1 < (m : Int) := by omega
  have n1 : ¬ (n : Int) < 1 := by omega
  have n8 : ¬ (8 : Int) < (n : Int) := by omega
  go_enter Tryd.func74, Tryd.ntmps74
  go_wp2_with fail
  rw [← hw0]
  have HW0 := hide hw0; clear hw0
  refine HIS.out.mono ?_
  rintro e w' ⟨rfl, rfl⟩
  go_wp2_with fail
  refine HCL.out.mono ?_
  rintro e w1 ⟨A1, c1, rfl, hb1, hown1⟩
  rw [hll]
  rw [hll] at hown1
  have HB1 := bl_step hb0 hb1
  have ct := (HB1.cell (p := ⟨b, off + (m - 1), none⟩) hb).trans hct
  clear hct
  go_wp2_with fail
  refine (fill_any top hlb.1 hlb.2 w1).mono ?_
  rintro e w' ⟨rfl, rfl⟩
  obtain ⟨F, hF⟩ : ∃ F, F = msk (decide (9223372036854775808 ≤ top)) := ⟨_, rfl⟩
  rw [← hF]
  have HFF : Hid (F = msk (decide (9223372036854775808 ≤ lim v (m - 1)))) := by apply hide; rw [hF, HTO.out]
  clear hF
  have h0z := hb0.size
  go_wp2
  go_loopw [5] (fun u wr => ∃ (k c' : Nat) (A' : Option Addr), m + k ≤ max m n ∧ u = .slice A' (m + k) c' ∧ Below w0.heap.size w0 wr ∧ wr.ownsRow w0.heap.size 70 1 (.slice A' (m + k) c') (m + k) (uCs (lims m v ++ List.replicate k F)))
    (fun u _ => n - lenOf u)
  case atStart => exact ⟨0, c1, A1, by omega, rfl, hb1, by simpa using hown1⟩
  case round =>
    obtain ⟨k, c', A', hk, rfl, hbr, hown⟩ := hrel
    have hwz := hbr.size
    by_cases hlt : m + k < n
    · obtain ⟨i0, hi, hz0, hz1, hz2⟩ := info_parts u64_info
      have hmk : (m : Int) + (k : Int) < (n : Int) := by omega
      go_wp2_with (at_builtin; refine wpList_append_own _ rfl (.tmp 32) (.tmp 34) 127 rfl w0.heap.size 70 i0 (.int .u64 0) 1 8 Tryd.underlying127 hi hz0 hz1 hz2 rfl (by decide) _ (m + k) (uCs (lims m v ++ List.replicate k F)) rfl (hown.alloc _) ⟨wr.heap.size, 0, none⟩ 1 1 [.int .u64 F] rfl rfl ?d1 ?d2 ?d3 ?d4 ?d5 ?_)
      case d1 => first | exact fun _ _ h => h | exact blk_cells (Blk.new _ _ _)
      case d2 => simp [Value.oneCell']
      case d3 => unfold maxLen; omega
      case d4 => omega
      case d5 => first | omega | (simp; omega)
      intro v3 w3 hown3 hgrow3 _
      have hb3 : Below w0.heap.size w0 w3 := (hbr.alloc (by omega) _).grown hgrow3 (by simp; omega) (fun k hk => own_base hown hk)
      have hown4 : w3.ownsRow w0.heap.size 70 1 v3 (m + (k + 1)) (uCs (lims m v ++ List.replicate (k + 1) F)) := by
        have e : uCs (lims m v ++ List.replicate (k + 1) F) = uCs (lims m v ++ List.replicate k F) ++ [.int .u64 F] := by
          simp [uCs, List.replicate_succ']
        rw [e, ← Nat.add_assoc]; exact hown3
      obtain ⟨A3, c3, rfl, _⟩ := own_slice hown4
      have HO := hide hown4
      clear hown3 hown4 hgrow3
      go_wp2
      go_roundw
      case rel => exact ⟨k + 1, c3, A3, by omega, rfl, hb3, HO.out⟩
      case measure => simp [lenOf]; omega
    · obtain ⟨g, cap, hv, hg1, hg2, hg3⟩ := own_form hown (by omega)
      injection hv with hA _ hcap
      subst hA hcap
      have hsl : Sl wr wr.heap.size (some ⟨g, 0, none⟩) (uCs (lims n v)) := by
        have h1 := (Sl.of_own hown).pre n
        have e : (uCs (lims m v ++ List.replicate k F)).take n = uCs (lims n v) := by
          unfold uCs
          rw [← List.map_take, HFF.out, ext_lims hm HF.out hk (by omega)]
        rw [e] at h1; exact h1
      have HSL := hide hsl
      have hnc : n ≤ c' := by omega
      have hmk : ¬ ((m : Int) + (k : Int) < (n : Int)) := by omega
      have HB := bl_step hb0 hbr
      clear hsl hown
      go_wp2
      go_ret
      refine ⟨some ⟨g, 0, none⟩, n, ?_, HB, HSL.out⟩
      rw [lims_length]; rfl
/-- limb.From: a signed word as an integer -/
theorem fits1 {x : Int} (h0 : -9223372036854775808 ≤ x) (h1 : x < 9223372036854775808) : Fits 1 x := by
  unfold Fits; rw [Int.pow_one]; omega
theorem lims1 (x : Int) : lims 1 x = [IntKind.u64.wrap x] := by
  show [lim x 0] = _
  unfold lim
  rw [Int.pow_zero, Int.ediv_one, IntKind.wrap_u64]
set_option maxRecDepth 100000 in
set_option maxHeartbeats 1000000 in
theorem from_any (x : Int) (h0 : -9223372036854775808 ≤ x) (h1 : x < 9223372036854775808) (n : Nat) (hn : 1 ≤ n) (hn8 : n ≤ 8) (w : World) :
    Calls Tryd.prog 77 #[.int .i64 x, .int .i64 (n : Int)] w (GaveL (lims n x) w) := by
  obtain ⟨w0, hw0⟩ : ∃ w0, w0 = w.alloc (.cells #[.int .u64 (IntKind.u64.wrap x)] 70) := ⟨_, rfl⟩
  have hb0 : Below w.heap.size w w0 := by rw [hw0]; exact bl_alloc (Below.refl _ _) _
  have X0 : Blk w0 w.heap.size 70 #[.int .u64 (IntKind.u64.wrap x)] := by rw [hw0]; exact Blk.new _ _ _
  have EX := extend_any 1 n x (.inl (fits1 h0 h1)) (by omega) (by omega) hn hn8 (some ⟨w.heap.size, 0, none⟩) 1 w0 (Sl.mk X0.lt fun j u hu => by
    rw [Nat.zero_add, lims1] at *; exact X0.cell (by simpa [uCs] using hu))
  have HE := hide EX
  clear EX
  go_enter Tryd.func77, Tryd.ntmps77
  go_wp2_with fail
  rw [← hw0]
  have HW0 := hide hw0; clear hw0
  refine HE.out.mono ?_
  rintro e w1 ⟨A, c, rfl, hb1, hs⟩
  go_wp2
  go_ret
  exact ⟨A, c, rfl, bl_step hb0 hb1, hs⟩
end Go.Proofs.YtgbimniloabjkaaDoor
