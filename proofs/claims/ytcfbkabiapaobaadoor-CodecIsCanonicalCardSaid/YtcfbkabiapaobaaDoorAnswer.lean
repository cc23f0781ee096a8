/- codec.isAnswer and the reference's is. -/
import Derived.Test.YtcfbkabiapaobaaDoorTakeRec
namespace Go.Proofs.YtcfbkabiapaobaaDoor
open Go.RowKit

def recOk (cnt : Int) (i : Nat) (r : Int × Int) : Bool := if (i : Int) < cnt then r.1 == 1 else (r.1 == 0 && r.2 == 0)
def okFrom (cnt : Int) : Nat → List (Int × Int) → Bool
  | _, [] => true
  | i, r :: t => recOk cnt i r && okFrom cnt (i + 1) t
def most (op : Int) : Int := if op = 3 then 3 else if op = 5 then 1 else 2
def lim (val pts : Int) : Int := if val = 0 then 0 else pts
/-- is it an answer to a request with a header -/
def isAns (op pts val cnt : Int) (recs : List (Int × Int)) : Bool :=
  if val < 0 then false else if most op < val then false else if (recs.length : Int) ≠ pts then false else if cnt < 0 then false else if lim val pts < cnt then false else okFrom cnt 0 recs
theorem okFrom_drop (cnt : Int) (recs : List (Int × Int)) (k : Nat) (r : Int × Int) (h : recs[k]? = some r) : okFrom cnt k (recs.drop k) = (recOk cnt k r && okFrom cnt (k + 1) (recs.drop (k + 1))) := by
  have hk : k < recs.length := (List.getElem?_eq_some_iff.1 h).1
  rw [List.drop_eq_getElem_cons hk]
  have : recs[k] = r := by rw [List.getElem?_eq_getElem hk] at h; simpa using h
  rw [this]; rfl

section
variable (op vs pts val cnt : Int) (HA RA : Option Addr) (hn hc rc : Nat) (recs : List (Int × Int)) (w : World)
variable (hs : Sl w w.heap.size RA (recCs recs)) (hrn : recs.length ≤ maxLen) (hp0 : 0 ≤ pts) (hp1 : pts ≤ 4096)
include hs hrn hp0 hp1
set_option maxRecDepth 100000 in
set_option maxHeartbeats 4000000 in
theorem isAnswer_at (M : Int) (hM : op = 3 ∧ M = 3 ∨ op = 5 ∧ M = 1 ∨ (op == 3) = false ∧ (op == 5) = false ∧ M = 2) (hm : most op = M) :
    Calls Tryd.prog 43 #[.agg #[.int .i64 op, .int .i64 vs, .slice HA hn hc, .int .i64 pts], .agg #[.int .i64 val, .int .i64 cnt, .slice RA recs.length rc]] w fun e w' => e = .returned (.bool (isAns op pts val cnt recs)) ∧ Below w.heap.size w w' := by
  unfold maxLen at hrn
  have HS := hide hs; clear hs
  obtain ⟨w0, hw0⟩ : ∃ w0, w0 = (w.alloc (.cells #[.int .i64 op, .int .i64 vs, .slice HA hn hc, .int .i64 pts] 26)).alloc (.cells #[.int .i64 val, .int .i64 cnt, .slice RA recs.length rc] 52) := ⟨_, rfl⟩
  have hb0 : Below w.heap.size w w0 := by rw [hw0]; exact bl_alloc (bl_alloc (Below.refl _ _) _) _
  have BA : Blk w0 w.heap.size 26 #[.int .i64 op, .int .i64 vs, .slice HA hn hc, .int .i64 pts] := by rw [hw0]; exact (Blk.new _ _ _).alloc _
  have BR : Blk w0 (w.heap.size + 1) 52 #[.int .i64 val, .int .i64 cnt, .slice RA recs.length rc] := by rw [hw0]; exact Blk.new2 _ _ _ _
  have HW0 := hide hw0; clear hw0
  have HI : Hid (isAns op pts val cnt recs = if val < 0 then false else if M < val then false else if (recs.length : Int) ≠ pts then false else if cnt < 0 then false else if lim val pts < cnt then false else okFrom cnt 0 recs) := by
    apply hide; unfold isAns; rw [hm]
  clear hm
  by_cases c1 : val < 0
  · rcases hM with ⟨rfl, rfl⟩ | ⟨rfl, rfl⟩ | ⟨h3, h5, rfl⟩
    all_goals
      go_enter Tryd.func43, Tryd.ntmps43
      go_wp2
      go_ret
      exact ⟨ret_bool (by rw [HI.out, if_pos (by omega)]), bl_alloc (bl_alloc (Below.refl _ _) _) _⟩
  by_cases c2 : M < val
  · rcases hM with ⟨rfl, rfl⟩ | ⟨rfl, rfl⟩ | ⟨h3, h5, rfl⟩
    all_goals
      go_enter Tryd.func43, Tryd.ntmps43
      go_wp2
      go_ret
      exact ⟨ret_bool (by rw [HI.out, if_neg (by omega), if_pos (by omega)]), bl_alloc (bl_alloc (Below.refl _ _) _) _⟩
  by_cases c3 : (recs.length : Int) ≠ pts
  · rcases hM with ⟨rfl, rfl⟩ | ⟨rfl, rfl⟩ | ⟨h3, h5, rfl⟩
    all_goals
      have c3' : ((recs.length : Int) != pts) = true := by simpa using c3
      go_enter Tryd.func43, Tryd.ntmps43
      go_wp2
      go_ret
      exact ⟨ret_bool (by rw [HI.out, if_neg (by omega), if_neg (by omega), if_pos (by omega)]), bl_alloc (bl_alloc (Below.refl _ _) _) _⟩
  obtain rfl : pts = (recs.length : Int) := by omega
  by_cases c4 : cnt < 0
  · rcases hM with ⟨rfl, rfl⟩ | ⟨rfl, rfl⟩ | ⟨h3, h5, rfl⟩
    all_goals
      go_enter Tryd.func43, Tryd.ntmps43
      go_wp2
      go_ret
      exact ⟨ret_bool (by rw [HI.out, if_neg (by omega), if_neg (by omega), if_neg (by omega), if_pos (by omega)]), bl_alloc (bl_alloc (Below.refl _ _) _) _⟩
  have hl : lim val (recs.length : Int) = if val = 0 then 0 else (recs.length : Int) := rfl
  obtain ⟨L, hL⟩ : ∃ L, lim val (recs.length : Int) = L := ⟨_, rfl⟩
  rw [hL] at hl
  have HLL := hide hL; clear hL
  have hv3 : val = 0 ∧ L = 0 ∨ val = 1 ∧ L = recs.length ∨ 1 < val ∧ L = recs.length := by
    by_cases h0 : val = 0
    · rw [if_pos h0] at hl; omega
    · rw [if_neg h0] at hl; omega
  clear hl
  by_cases c5 : L < cnt
  · rcases hv3 with ⟨rfl, rfl⟩ | ⟨rfl, rfl⟩ | ⟨hv1, rfl⟩
    all_goals rcases hM with ⟨rfl, rfl⟩ | ⟨rfl, rfl⟩ | ⟨h3, h5, rfl⟩
    all_goals first | (exfalso; omega) | (
        go_enter Tryd.func43, Tryd.ntmps43
        go_wp2
        go_ret
        exact ⟨ret_bool (by rw [HI.out, if_neg (by omega), if_neg (by omega), if_neg (by omega), if_neg (by omega), HLL.out, if_pos (by omega)]), bl_alloc (bl_alloc (Below.refl _ _) _) _⟩)
  have HI2 : Hid (isAns op recs.length val cnt recs = okFrom cnt 0 recs) := by
    apply hide; rw [HI.out, if_neg (by omega), if_neg (by omega), if_neg (by omega), if_neg (by omega), HLL.out, if_neg (by omega)]
  clear HI HLL c3
  have b11 := BR.cell (i := 1) rfl
  have b12 := BR.cell (i := 2) rfl
  rcases hv3 with ⟨rfl, rfl⟩ | ⟨rfl, rfl⟩ | ⟨hv1, rfl⟩
  all_goals rcases hM with ⟨rfl, rfl⟩ | ⟨rfl, rfl⟩ | ⟨h3, h5, rfl⟩
  all_goals first | (exfalso; omega) | (
        go_enter Tryd.func43, Tryd.ntmps43
        go_wp2
        rw [← HW0.out]
        go_loopw [51] (fun i wr => ∃ k : Nat, k ≤ recs.length ∧ i = .int .i64 k ∧ Below w0.heap.size w0 wr ∧ okFrom cnt k (recs.drop k) = okFrom cnt 0 recs)
          (fun i _ => recs.length - (intOf i).toNat)
        case atStart => exact ⟨0, by omega, rfl, Below.refl _ _, by simp⟩
        case round =>
          obtain ⟨k, hk, rfl, hbr, hok⟩ := hrel
          have HOK := hide hok; clear hok
          have r1 := (BR.step hbr).cell (i := 1) rfl
          have hBl := (BR.step hbr).lt
          by_cases hlt : k < recs.length
          · obtain ⟨r, hr⟩ : ∃ r, recs[k]? = some r := ⟨_, List.getElem?_eq_getElem hlt⟩
            obtain ⟨b, off, rfl, hb, q0, q1⟩ := (HS.out.below (bl_step hb0 hbr)).rec_ hr
            have hbl := cell_lt q0
            have HD := hide (okFrom_drop cnt recs k r hr)
            clear hr b11 b12
            by_cases hlive : (k : Int) < cnt
            · first
                | (exfalso; omega)
                | (by_cases h1 : r.1 = 1
                   · have h1' : (r.1 != 1) = false := by simpa using h1
                     have HO : Hid (recOk cnt k r = true) := by apply hide; unfold recOk; rw [if_pos hlive, h1]; rfl
                     have H1 := hide h1; clear h1
                     go_wp2
                     go_roundw
                     case rel => exact ⟨k + 1, by omega, by go_num, bl_alloc hbr _, by rw [← HOK.out, HD.out, HO.out, Bool.true_and]⟩
                     case measure => simp [intOf]; omega
                   · have h1' : (r.1 != 1) = true := by simpa using h1
                     have HO : Hid (recOk cnt k r = false) := by apply hide; unfold recOk; rw [if_pos hlive]; simpa using h1
                     have H1 := hide h1; clear h1
                     go_wp2
                     go_ret
                     exact ⟨ret_bool (by rw [HI2.out, ← HOK.out, HD.out, HO.out, Bool.false_and]), bl_step hb0 (bl_alloc hbr _)⟩)
            · by_cases h1 : r.1 = 0
              · by_cases h2 : r.2 = 0
                · have HO : Hid (recOk cnt k r = true) := by apply hide; unfold recOk; rw [if_neg hlive, h1, h2]; rfl
                  go_wp2
                  go_roundw
                  case rel => exact ⟨k + 1, by omega, by go_num, bl_alloc hbr _, by rw [← HOK.out, HD.out, HO.out, Bool.true_and]⟩
                  case measure => simp [intOf]; omega
                · have HO : Hid (recOk cnt k r = false) := by apply hide; unfold recOk; rw [if_neg hlive]; simp [h2]
                  go_wp2
                  go_ret
                  exact ⟨ret_bool (by rw [HI2.out, ← HOK.out, HD.out, HO.out, Bool.false_and]), bl_step hb0 (bl_alloc hbr _)⟩
              · have HO : Hid (recOk cnt k r = false) := by apply hide; unfold recOk; rw [if_neg hlive]; simp [h1]
                go_wp2
                go_ret
                exact ⟨ret_bool (by rw [HI2.out, ← HOK.out, HD.out, HO.out, Bool.false_and]), bl_step hb0 (bl_alloc hbr _)⟩
          · have hk' : k = recs.length := by omega
            subst hk'
            go_wp2
            go_ret
            exact ⟨ret_bool (by rw [HI2.out, ← HOK.out, List.drop_length]; rfl), bl_step hb0 hbr⟩)
end
end Go.Proofs.YtcfbkabiapaobaaDoor
