/- IndexFunc Check -/
import Derived.Test.YtpnoofphfomjoaaGreatDoorPkE32
namespace Go.Proofs.YtpnoofphfomjoaaGreatDoor
open Go.RowKit
/-- what a predicate on regions answers -/
def RgPred (K : FuncId) (p : Rg → Bool) : Prop := ∀ (r : Rg) (w : World), Calls Tryz.prog K #[.agg #[.bool r.d, .int .i64 r.v, .slice r.A r.n r.c]] w fun e w' => e = .returned (.bool (p r)) ∧ Below w.heap.size w w'
/-- K is a function with a body -/
def Enters (K : FuncId) : Prop := ∀ (a : Array Value) (w : World), (callFunc K a).run Tryz.prog w = .ok (.enter K a) w
def FoundAt (rs : List Rg) (p : Rg → Bool) (w : World) (e : Ending) (w' : World) : Prop := ∃ k : Int, e = .returned (.int .i64 k) ∧ decide (0 ≤ k) = rs.any p ∧ Below w.heap.size w w'
set_option maxHeartbeats 400000 in
theorem indexFunc_any (K : FuncId) (hK : Enters K) (p : Rg → Bool) (hp : RgPred K p) (A : Option Addr) (c : Nat) (rs : List Rg) (w : World) (hs : Sl w w.heap.size A (rgCells rs)) (hn : rs.length ≤ maxLen) :
    Calls Tryz.prog 172 #[.slice A rs.length c, .func (.func K) #[] #[]] w (FoundAt rs p w) := by
  unfold maxLen at hn
  unfold Enters at hK
  go_enter Tryz.func172, Tryz.ntmps172
  go_wp2
  go_loopw [5, 8] (fun _ i wr => ∃ k : Nat, k ≤ rs.length ∧ i = .int .i64 k ∧ Below w.heap.size w wr ∧ (rs.take k).any p = false)
    (fun _ i _ => rs.length - (intOf i).toNat)
  case atStart => exact ⟨0, by omega, rfl, Below.refl _ _, by simp⟩
  case round =>
    obtain ⟨k, hk, rfl, hb, hany⟩ := hrel
    by_cases hlt : k < rs.length
    · obtain ⟨r, hr⟩ : ∃ r, rs[k]? = some r := ⟨_, List.getElem?_eq_getElem hlt⟩
      obtain ⟨b, off, rfl, hB, c0, c1, c2⟩ := (hs.below hb).rg hr
      have HR := hide hr; clear hr
      have HA := hide hany; clear hany
      go_wp2_with fail
      refine (hp r _).mono ?_
      rintro e w1 ⟨rfl, hb1⟩
      obtain ⟨q, hq⟩ : ∃ q, q = p r := ⟨_, rfl⟩
      rw [← hq]
      have HQ := hide hq; clear hq
      cases q
      · go_wp2
        go_roundw
        case rel => exact ⟨k + 1, by omega, by go_num, hb.trans (hb1.mono hb.size), by rw [any_take_succ _ _ _ _ HR.out, HA.out, ← HQ.out]; rfl⟩
        case measure => simp [intOf]; omega
      · go_wp2
        go_ret
        exact ⟨k, rfl, by rw [any_of_get _ _ _ _ HR.out HQ.out.symm]; simp, hb.trans (hb1.mono hb.size)⟩
    · have hk' : k = rs.length := by omega
      go_wp2
      go_ret
      exact ⟨-1, rfl, by rw [hk', List.take_length] at hany; rw [hany]; rfl, hb⟩
set_option maxHeartbeats 400000 in
theorem containsFunc_any (K : FuncId) (hK : Enters K) (p : Rg → Bool) (hp : RgPred K p) (A : Option Addr) (c : Nat) (rs : List Rg) (w : World) (hs : Sl w w.heap.size A (rgCells rs)) (hn : rs.length ≤ maxLen) :
    Calls Tryz.prog 142 #[.slice A rs.length c, .func (.func K) #[] #[]] w fun e w' => e = .returned (.bool (rs.any p)) ∧ Below w.heap.size w w' := by
  have HP := hide hp; clear hp
  go_enter Tryz.func142, Tryz.ntmps142
  go_wp2_with fail
  refine (indexFunc_any K hK p HP.out A c rs w hs hn).mono ?_
  rintro e w1 ⟨k, rfl, hk, hb⟩
  have HK := hide hk; clear hk
  go_wp2
  go_ret
  exact ⟨ret_bool HK.out, hb⟩
theorem containsFunc_n (K : FuncId) (hK : Enters K) (p : Rg → Bool) (hp : RgPred K p) (A : Option Addr) (c n : Nat) (rs : List Rg) (hnl : n = rs.length) (w : World) (hs : Sl w w.heap.size A (rgCells rs)) (hn : rs.length ≤ maxLen) :
    Calls Tryz.prog 142 #[.slice A n c, .func (.func K) #[] #[]] w fun e w' => e = .returned (.bool (rs.any p)) ∧ Below w.heap.size w w' := by
  subst hnl; exact containsFunc_any K hK p hp A c rs w hs hn
end Go.Proofs.YtpnoofphfomjoaaGreatDoor
namespace Go.Proofs.YtpnoofphfomjoaaGreatDoor
open Go.RowKit
def wrongRg (r : Rg) : Bool := sizeOfReg r.v == 0
def fullRg (r : Rg) : Bool := decide (0 < r.n)
theorem check1_pred : RgPred 141 wrongRg := by
  intro r w
  go_enter Tryz.func141, Tryz.ntmps141
  go_wp2_with fail
  refine (size_any _ _ _ _ _ _).mono ?_
  rintro e w1 ⟨rfl, hb⟩
  go_wp2
  go_ret
  exact ⟨rfl, ((Below.refl _ _).alloc (Nat.le_refl _) _).trans (hb.mono (by simp))⟩
theorem check2_pred : RgPred 143 fullRg := by
  intro r w
  go_enter Tryz.func143, Tryz.ntmps143
  go_wp2
  go_ret
  exact ⟨rfl, ((Below.refl _ _).alloc (Nat.le_refl _) _)⟩
theorem check1_enters : Enters 141 := fun _ _ => by kernel_rfl
theorem check2_enters : Enters 143 := fun _ _ => by kernel_rfl
def hcheckB (op vs n pts : Int) (q1 q2 : Bool) : Int :=
  if op < 1 ∨ 5 < op then 5
  else if op = 3 ∧ (vs < 3 ∨ 64 < vs) then 6
  else if (op = 4 ∨ op = 5) ∧ (n < 1 ∨ 64 < n) then 6
  else bif decide (op = 4 ∨ op = 5) && q1 then 7
  else if op = 5 ∧ (pts < 1 ∨ 4096 < pts) then 6
  else if (op ≠ 3 ∧ vs ≠ 0) ∨ (op < 4 ∧ 0 < n) ∨ (op ≠ 5 ∧ pts ≠ 0) then 2
  else bif q2 then 2 else 0
/-- the error of a header -/
def hcheck (op vs : Int) (rs : List Rg) (pts : Int) : Int := hcheckB op vs rs.length pts (rs.any wrongRg) (rs.any fullRg)
theorem hcheckB_zero {op vs n pts : Int} {q1 q2 : Bool} (h : hcheckB op vs n pts q1 q2 = 0) (h0 : 0 ≤ n) :
    1 ≤ op ∧ op ≤ 5 ∧ (op = 3 → 3 ≤ vs ∧ vs ≤ 64) ∧ (op ≠ 3 → vs = 0) ∧ (4 ≤ op → 1 ≤ n ∧ n ≤ 64 ∧ q1 = false) ∧ (op < 4 → n = 0) ∧ (op = 5 → 1 ≤ pts ∧ pts ≤ 4096) ∧ (op ≠ 5 → pts = 0) ∧ q2 = false := by
  unfold hcheckB at h
  by_cases h1 : op < 1 ∨ 5 < op
  · rw [if_pos h1] at h; omega
  rw [if_neg h1] at h
  by_cases h2 : op = 3 ∧ (vs < 3 ∨ 64 < vs)
  · rw [if_pos h2] at h; omega
  rw [if_neg h2] at h
  by_cases h3 : (op = 4 ∨ op = 5) ∧ (n < 1 ∨ 64 < n)
  · rw [if_pos h3] at h; omega
  rw [if_neg h3] at h
  by_cases h4 : (decide (op = 4 ∨ op = 5) && q1) = true
  · rw [h4, cond_true] at h; omega
  rw [Bool.not_eq_true] at h4
  rw [h4, cond_false] at h
  by_cases h5 : op = 5 ∧ (pts < 1 ∨ 4096 < pts)
  · rw [if_pos h5] at h; omega
  rw [if_neg h5] at h
  by_cases h6 : (op ≠ 3 ∧ vs ≠ 0) ∨ (op < 4 ∧ 0 < n) ∨ (op ≠ 5 ∧ pts ≠ 0)
  · rw [if_pos h6] at h; omega
  rw [if_neg h6] at h
  cases q2
  · refine ⟨by omega, by omega, by omega, by omega, fun h7 => ⟨by omega, by omega, ?_⟩, by omega, by omega, by omega, rfl⟩
    have : decide (op = 4 ∨ op = 5) = true := by rw [decide_eq_true_eq]; omega
    rw [this] at h4; simpa using h4
  · rw [cond_true] at h; omega
section
variable (vs : Int) (rs : List Rg) (A : Option Addr) (c : Nat) (pts : Int) (w : World)
set_option maxHeartbeats 800000 in
theorem check_bad (op : Int) (hop : op < 1 ∨ 5 < op) :
    Calls Tryz.prog 100 #[.agg #[.int .i64 op, .int .i64 vs, .slice A rs.length c, .int .i64 pts]] w fun e w' => e = .returned (.int .i64 (hcheck op vs rs pts)) ∧ Below w.heap.size w w' := by
  have h3 : (op == 3) = false := by simp; omega
  have h4 : (op == 4) = false := by simp; omega
  have h5 : (op == 5) = false := by simp; omega
  have hsp : hcheck op vs rs pts = 5 := by unfold hcheck hcheckB; rw [if_pos hop]
  rw [hsp]
  rcases hop with hop | hop
  all_goals
    go_enter Tryz.func100, Tryz.ntmps100
    go_wp2
    go_quiet (fail)
    go_wp2
    go_ret
    exact ⟨rfl, bl_drewN (bl_alloc (Below.refl _ _) _) _⟩
variable (hs : Sl w w.heap.size A (rgCells rs)) (hn : rs.length ≤ maxLen)
include hs hn
theorem contains1 (w1 : World) (hb : Below w.heap.size w w1) : Calls Tryz.prog 142 #[.slice A rs.length c, .func (.func 141) #[] #[]] w1 fun e w' => e = .returned (.bool (rs.any wrongRg)) ∧ Below w1.heap.size w1 w' :=
  containsFunc_any _ check1_enters _ check1_pred A c rs w1 ((hs.below hb).more hb.size) hn
theorem contains2 (w1 : World) (hb : Below w.heap.size w w1) : Calls Tryz.prog 142 #[.slice A rs.length c, .func (.func 143) #[] #[]] w1 fun e w' => e = .returned (.bool (rs.any fullRg)) ∧ Below w1.heap.size w1 w' :=
  containsFunc_any _ check2_enters _ check2_pred A c rs w1 ((hs.below hb).more hb.size) hn
set_option maxHeartbeats 1000000 in
theorem check_12 (op : Int) (hop : op = 1 ∨ op = 2) :
    Calls Tryz.prog 100 #[.agg #[.int .i64 op, .int .i64 vs, .slice A rs.length c, .int .i64 pts]] w fun e w' => e = .returned (.int .i64 (hcheck op vs rs pts)) ∧ Below w.heap.size w w' := by
  rcases hop with rfl | rfl
  all_goals
    go_enter Tryz.func100, Tryz.ntmps100
    go_wp2
    go_quiet (fail)
    go_wp2_with fail
    all_goals first
      | done
      | (refine (contains2 rs A c w hs hn _ (bl_drewN (bl_alloc (Below.refl _ _) _) _)).mono ?_
         rintro e w1 ⟨rfl, hb1⟩
         generalize hq : rs.any fullRg = q
         have HQ := hide hq; clear hq
         cases q <;> go_wp2)
      | skip
    all_goals
      go_ret
      first | (have h : (vs != 0) = true := by assumption
               have hv : vs ≠ 0 := by simpa using h) | (have h : (vs != 0) = false := by assumption
                                                        have hv : vs = 0 := by simpa using h) | skip
      first | (have h : (pts != 0) = true := by assumption
               have hpt : pts ≠ 0 := by simpa using h) | (have h : (pts != 0) = false := by assumption
                                                          have hpt : pts = 0 := by simpa using h) | skip
      refine ⟨ret_int ?_, ?_⟩
      · unfold hcheck hcheckB
        try rw [HQ1.out]
        try rw [HQ.out]
        repeat first | rw [if_neg (by omega)] | rw [if_pos (by omega)] | rw [cond_true] | rw [cond_false] | rw [decide_eq_true (by omega), Bool.true_and] | rw [decide_eq_false (by omega), Bool.false_and]
      · repeat first | exact Below.refl _ _ | exact bl_step (bl_drewN (bl_alloc (Below.refl _ _) _) _) hb1 | refine bl_drewN ?_ _ | refine bl_alloc ?_ _
set_option maxHeartbeats 2000000 in
theorem check_3 :
    Calls Tryz.prog 100 #[.agg #[.int .i64 3, .int .i64 vs, .slice A rs.length c, .int .i64 pts]] w fun e w' => e = .returned (.int .i64 (hcheck 3 vs rs pts)) ∧ Below w.heap.size w w' := by
  go_enter Tryz.func100, Tryz.ntmps100
  go_wp2
  go_quiet (fail)
  all_goals
    go_wp2_with fail
    all_goals first
      | done
      | (refine (contains2 rs A c w hs hn _ (bl_drewN (bl_alloc (Below.refl _ _) _) _)).mono ?_
         rintro e w1 ⟨rfl, hb1⟩
         generalize hq : rs.any fullRg = q
         have HQ := hide hq; clear hq
         cases q <;> go_wp2)
      | skip
    all_goals
      go_ret
      first | (have h : (vs != 0) = true := by assumption
               have hv : vs ≠ 0 := by simpa using h) | (have h : (vs != 0) = false := by assumption
                                                        have hv : vs = 0 := by simpa using h) | skip
      first | (have h : (pts != 0) = true := by assumption
               have hpt : pts ≠ 0 := by simpa using h) | (have h : (pts != 0) = false := by assumption
                                                          have hpt : pts = 0 := by simpa using h) | skip
      refine ⟨ret_int ?_, ?_⟩
      · unfold hcheck hcheckB
        try rw [HQ1.out]
        try rw [HQ.out]
        repeat first | rw [if_neg (by omega)] | rw [if_pos (by omega)] | rw [cond_true] | rw [cond_false] | rw [decide_eq_true (by omega), Bool.true_and] | rw [decide_eq_false (by omega), Bool.false_and]
      · repeat first | exact Below.refl _ _ | exact bl_step (bl_drewN (bl_alloc (Below.refl _ _) _) _) hb1 | refine bl_drewN ?_ _ | refine bl_alloc ?_ _
set_option maxHeartbeats 2000000 in
theorem check_45 (op : Int) (hop : op = 4 ∨ op = 5) :
    Calls Tryz.prog 100 #[.agg #[.int .i64 op, .int .i64 vs, .slice A rs.length c, .int .i64 pts]] w fun e w' => e = .returned (.int .i64 (hcheck op vs rs pts)) ∧ Below w.heap.size w w' := by
  rcases hop with rfl | rfl
  all_goals
    go_enter Tryz.func100, Tryz.ntmps100
    go_wp2
    go_quiet (fail)
  all_goals
    go_wp2_with fail
    all_goals first
      | done
      | (refine (contains1 rs A c w hs hn _ (bl_drewN (bl_alloc (Below.refl _ _) _) _)).mono ?_
         rintro e w1 ⟨rfl, hb1⟩
         obtain ⟨hcl, hfr⟩ := bcell hb1
         generalize hq1 : rs.any wrongRg = q1
         have HQ1 := hide hq1; clear hq1
         cases q1 <;> go_wp2_with fail)
      | skip
    all_goals first
      | done
      | (refine (contains2 rs A c w hs hn _ (bl_step (bl_drewN (bl_alloc (Below.refl _ _) _) _) hb1)).mono ?_
         rintro e w2 ⟨rfl, hb2⟩
         generalize hq : rs.any fullRg = q
         have HQ := hide hq; clear hq
         cases q <;> go_wp2)
      | skip
    all_goals
      go_ret
      first | (have h : (vs != 0) = true := by assumption
               have hv : vs ≠ 0 := by simpa using h) | (have h : (vs != 0) = false := by assumption
                                                        have hv : vs = 0 := by simpa using h) | skip
      first | (have h : (pts != 0) = true := by assumption
               have hpt : pts ≠ 0 := by simpa using h) | (have h : (pts != 0) = false := by assumption
                                                          have hpt : pts = 0 := by simpa using h) | skip
      refine ⟨ret_int ?_, ?_⟩
      · unfold hcheck hcheckB
        try rw [HQ1.out]
        try rw [HQ.out]
        repeat first | rw [if_neg (by omega)] | rw [if_pos (by omega)] | rw [cond_true] | rw [cond_false] | rw [decide_eq_true (by omega), Bool.true_and] | rw [decide_eq_false (by omega), Bool.false_and]
      · repeat first | exact Below.refl _ _ | exact bl_step (bl_step (bl_drewN (bl_alloc (Below.refl _ _) _) _) hb1) hb2 | exact bl_step (bl_drewN (bl_alloc (Below.refl _ _) _) _) hb1 | refine bl_drewN ?_ _ | refine bl_alloc ?_ _
theorem check_any (op : Int) :
    Calls Tryz.prog 100 #[.agg #[.int .i64 op, .int .i64 vs, .slice A rs.length c, .int .i64 pts]] w fun e w' => e = .returned (.int .i64 (hcheck op vs rs pts)) ∧ Below w.heap.size w w' := by
  by_cases h0 : op < 1 ∨ 5 < op
  · exact check_bad vs rs A c pts w op h0
  by_cases h1 : op = 1 ∨ op = 2
  · exact check_12 vs rs A c pts w hs hn op h1
  by_cases h3 : op = 3
  · subst h3; exact check_3 vs rs A c pts w hs hn
  · exact check_45 vs rs A c pts w hs hn op (by omega)
end
theorem hcheck_zero {op vs : Int} {rs : List Rg} {pts : Int} (h : hcheck op vs rs pts = 0) :
    1 ≤ op ∧ op ≤ 5 ∧ (op = 3 → 3 ≤ vs ∧ vs ≤ 64) ∧ (op ≠ 3 → vs = 0) ∧ (4 ≤ op → 1 ≤ rs.length ∧ rs.length ≤ 64 ∧ rs.any wrongRg = false) ∧ (op < 4 → rs = []) ∧ (op = 5 → 1 ≤ pts ∧ pts ≤ 4096) ∧ (op ≠ 5 → pts = 0) ∧ rs.any fullRg = false := by
  obtain ⟨a, b, c, d, e, f, g, i, j⟩ := hcheckB_zero h (by omega)
  exact ⟨a, b, c, d, fun h => ⟨by have := e h; omega, by have := e h; omega, (e h).2.2⟩, fun h => List.eq_nil_of_length_eq_zero (by have := f h; omega), g, i, j⟩
end Go.Proofs.YtpnoofphfomjoaaGreatDoor
