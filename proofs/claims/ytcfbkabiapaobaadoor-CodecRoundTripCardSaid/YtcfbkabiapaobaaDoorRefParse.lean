/- The reference's Parse: the same function of the bytes; the cases without regions. -/
import Derived.Test.YtcfbkabiapaobaaDoorParse2
namespace Go.Proofs.YtcfbkabiapaobaaDoor
open Go.RowKit

section
variable (bs : List Int) (A : Option Addr) (c : Nat) (w : World)

set_option maxRecDepth 100000 in
set_option maxHeartbeats 400000 in
theorem rparse_short (h0 : bs.length < 1) :
    Calls Tryd.prog 26 #[.slice A bs.length c] w (Parsed (hparse bs) w) := by
  have hr : hparse bs = (phZero, 0, 4) := by unfold hparse; rw [if_pos h0]
  rw [hr]
  have HR := hide hr; clear hr
  have h0' : bs.length = 0 := by omega
  go_enter Tryd.func26, Tryd.ntmps26
  go_wp2
  exact bodyPost_ret (v := .tuple #[.agg #[.int .i64 0, .int .i64 0, .slice none 0 0, .int .i64 0], .int .i64 0, .int .i64 4]) (by simp [results, Tryd.results26, go_sem]) rfl ⟨none, 0, rfl, Sl.nil _ _ _, by repeat first | exact Below.refl _ _ | refine bl_alloc ?_ _⟩

variable (hs : Sl w w.heap.size A (byCells bs)) (hby : ∀ (j : Nat) (x : Int), bs[j]? = some x → 0 ≤ x ∧ x ≤ 255)
include hs hby

set_option maxRecDepth 100000 in
set_option maxHeartbeats 400000 in
theorem rparse_12 (h0 : 0 < bs.length) (hop : bs.getD 0 0 = 1 ∨ bs.getD 0 0 = 2) :
    Calls Tryd.prog 26 #[.slice A bs.length c] w (Parsed (hparse bs) w) := by
  obtain ⟨o, ho⟩ : ∃ o, bs[0]? = some o := ⟨_, List.getElem?_eq_getElem (by omega)⟩
  have hod : bs.getD 0 0 = o := by rw [List.getD_eq_getElem?_getD, ho]; rfl
  rw [hod] at hop
  obtain ⟨b, off, rfl, hB, hc⟩ := hs.by_ (by omega)
  obtain ⟨hob1, hob2⟩ := hby 0 o ho
  have c0 := hc 0 o ho
  rw [Nat.add_zero] at c0
  have hr : hparse bs = (⟨o, 0, [], 0⟩, 1, 0) := by unfold hparse; rw [if_neg (by omega), hod, if_pos hop]
  rw [hr]
  have HR := hide hr; clear hr hod ho
  have HC := hide hc; clear hc
  have hz : ((bs.length : Int) == 0) = false := by rw [beq_eq_false_iff_ne]; omega
  rcases hop with rfl | rfl
  all_goals
    go_enter Tryd.func26, Tryd.ntmps26
    go_wp2
    exact bodyPost_ret (v := .tuple #[.agg #[.int .i64 _, .int .i64 0, .slice none 0 0, .int .i64 0], .int .i64 1, .int .i64 0]) (by simp [results, Tryd.results26, go_sem]) rfl ⟨none, 0, rfl, Sl.nil _ _ _, by repeat first | exact Below.refl _ _ | refine bl_alloc ?_ _⟩

set_option maxRecDepth 100000 in
set_option maxHeartbeats 400000 in
theorem rparse_bad (h0 : 0 < bs.length) (hop : bs.getD 0 0 < 1 ∨ 5 < bs.getD 0 0) :
    Calls Tryd.prog 26 #[.slice A bs.length c] w (Parsed (hparse bs) w) := by
  obtain ⟨o, ho⟩ : ∃ o, bs[0]? = some o := ⟨_, List.getElem?_eq_getElem (by omega)⟩
  have hod : bs.getD 0 0 = o := by rw [List.getD_eq_getElem?_getD, ho]; rfl
  rw [hod] at hop
  obtain ⟨b, off, rfl, hB, hc⟩ := hs.by_ (by omega)
  obtain ⟨hob1, hob2⟩ := hby 0 o ho
  have c0 := hc 0 o ho
  rw [Nat.add_zero] at c0
  have hr : hparse bs = (phZero, 0, 5) := by unfold hparse; rw [if_neg (by omega), hod, if_neg (by omega), if_pos (by omega)]
  rw [hr]
  have HR := hide hr; clear hr hod ho
  have HC := hide hc; clear hc
  have hz : ((bs.length : Int) == 0) = false := by rw [beq_eq_false_iff_ne]; omega
  rcases hop with hop | hop
  all_goals
    go_enter Tryd.func26, Tryd.ntmps26
    go_wp2
    exact bodyPost_ret (v := .tuple #[.agg #[.int .i64 0, .int .i64 0, .slice none 0 0, .int .i64 0], .int .i64 0, .int .i64 5]) (by simp [results, Tryd.results26, go_sem]) rfl ⟨none, 0, rfl, Sl.nil _ _ _, by repeat first | exact Below.refl _ _ | refine bl_alloc ?_ _⟩

set_option maxRecDepth 100000 in
set_option maxHeartbeats 400000 in
theorem rparse_one (h0 : bs.length = 1) (hop : bs.getD 0 0 = 3 ∨ bs.getD 0 0 = 4 ∨ bs.getD 0 0 = 5) :
    Calls Tryd.prog 26 #[.slice A bs.length c] w (Parsed (hparse bs) w) := by
  obtain ⟨o, ho⟩ : ∃ o, bs[0]? = some o := ⟨_, List.getElem?_eq_getElem (by omega)⟩
  have hod : bs.getD 0 0 = o := by rw [List.getD_eq_getElem?_getD, ho]; rfl
  rw [hod] at hop
  obtain ⟨b, off, rfl, hB, hc⟩ := hs.by_ (by omega)
  obtain ⟨hob1, hob2⟩ := hby 0 o ho
  have c0 := hc 0 o ho
  rw [Nat.add_zero] at c0
  have hr : hparse bs = (phZero, 0, 4) := by unfold hparse; rw [if_neg (by omega), hod, if_neg (by omega), if_neg (by omega), if_pos (by omega)]
  rw [hr]
  have HR := hide hr; clear hr hod ho
  have HC := hide hc; clear hc
  have hz : ((bs.length : Int) == 0) = false := by rw [beq_eq_false_iff_ne]; omega
  have h0' : bs.length < 2 := by omega
  have h1' : 1 ≤ bs.length := by omega
  clear h0
  rcases hop with rfl | rfl | rfl
  all_goals
    go_enter Tryd.func26, Tryd.ntmps26
    go_wp2
    exact bodyPost_ret (v := .tuple #[.agg #[.int .i64 0, .int .i64 0, .slice none 0 0, .int .i64 0], .int .i64 0, .int .i64 4]) (by simp [results, Tryd.results26, go_sem]) rfl ⟨none, 0, rfl, Sl.nil _ _ _, by repeat first | exact Below.refl _ _ | refine bl_alloc ?_ _⟩

set_option maxRecDepth 100000 in
set_option maxHeartbeats 400000 in
theorem rparse_3bad (h0 : 2 ≤ bs.length) (hop : bs.getD 0 0 = 3) (hkk : bs.getD 1 0 < 3 ∨ 64 < bs.getD 1 0) :
    Calls Tryd.prog 26 #[.slice A bs.length c] w (Parsed (hparse bs) w) := by
  obtain ⟨o, ho⟩ : ∃ o, bs[0]? = some o := ⟨_, List.getElem?_eq_getElem (by omega)⟩
  have hod : bs.getD 0 0 = o := by rw [List.getD_eq_getElem?_getD, ho]; rfl
  rw [hod] at hop
  obtain ⟨b, off, rfl, hB, hc⟩ := hs.by_ (by omega)
  obtain ⟨hob1, hob2⟩ := hby 0 o ho
  have c0 := hc 0 o ho
  rw [Nat.add_zero] at c0
  obtain ⟨k, hk⟩ : ∃ k, bs[1]? = some k := ⟨_, List.getElem?_eq_getElem (by omega)⟩
  have hkd : bs.getD 1 0 = k := by rw [List.getD_eq_getElem?_getD, hk]; rfl
  rw [hkd] at hkk
  obtain ⟨hkb1, hkb2⟩ := hby 1 k hk
  have c1 := hc 1 k hk
  subst hop
  have hr : hparse bs = (phZero, 0, 6) := by unfold hparse; rw [if_neg (by omega), hod, if_neg (by omega), if_neg (by omega), if_neg (by omega), if_pos rfl, hkd, if_pos hkk]
  rw [hr]
  have HR := hide hr; clear hr hod ho hkd hk
  have HC := hide hc; clear hc
  have hz : ((bs.length : Int) == 0) = false := by rw [beq_eq_false_iff_ne]; omega
  rcases hkk with hkk | hkk
  all_goals
    go_enter Tryd.func26, Tryd.ntmps26
    go_wp2
    exact bodyPost_ret (v := .tuple #[.agg #[.int .i64 0, .int .i64 0, .slice none 0 0, .int .i64 0], .int .i64 0, .int .i64 6]) (by simp [results, Tryd.results26, go_sem]) rfl ⟨none, 0, rfl, Sl.nil _ _ _, by repeat first | exact Below.refl _ _ | refine bl_alloc ?_ _⟩

set_option maxRecDepth 100000 in
set_option maxHeartbeats 400000 in
theorem rparse_3ok (h0 : 2 ≤ bs.length) (hop : bs.getD 0 0 = 3) (hkk : 3 ≤ bs.getD 1 0 ∧ bs.getD 1 0 ≤ 64) :
    Calls Tryd.prog 26 #[.slice A bs.length c] w (Parsed (hparse bs) w) := by
  obtain ⟨o, ho⟩ : ∃ o, bs[0]? = some o := ⟨_, List.getElem?_eq_getElem (by omega)⟩
  have hod : bs.getD 0 0 = o := by rw [List.getD_eq_getElem?_getD, ho]; rfl
  rw [hod] at hop
  obtain ⟨b, off, rfl, hB, hc⟩ := hs.by_ (by omega)
  obtain ⟨hob1, hob2⟩ := hby 0 o ho
  have c0 := hc 0 o ho
  rw [Nat.add_zero] at c0
  obtain ⟨k, hk⟩ : ∃ k, bs[1]? = some k := ⟨_, List.getElem?_eq_getElem (by omega)⟩
  have hkd : bs.getD 1 0 = k := by rw [List.getD_eq_getElem?_getD, hk]; rfl
  rw [hkd] at hkk
  obtain ⟨hkb1, hkb2⟩ := hby 1 k hk
  have c1 := hc 1 k hk
  subst hop
  have hr : hparse bs = (⟨3, k, [], 0⟩, 2, 0) := by unfold hparse; rw [if_neg (by omega), hod, if_neg (by omega), if_neg (by omega), if_neg (by omega), if_pos rfl, hkd, if_neg (by omega)]
  rw [hr]
  have HR := hide hr; clear hr hod ho hkd hk
  have HC := hide hc; clear hc
  have hz : ((bs.length : Int) == 0) = false := by rw [beq_eq_false_iff_ne]; omega
  obtain ⟨hk1, hk2⟩ := hkk
  go_enter Tryd.func26, Tryd.ntmps26
  go_wp2
  exact bodyPost_ret (v := .tuple #[.agg #[.int .i64 3, .int .i64 k, .slice none 0 0, .int .i64 0], .int .i64 2, .int .i64 0]) (by simp [results, Tryd.results26, go_sem]) rfl ⟨none, 0, rfl, Sl.nil _ _ _, by repeat first | exact Below.refl _ _ | refine bl_alloc ?_ _⟩

set_option maxRecDepth 100000 in
set_option maxHeartbeats 800000 in
theorem rparse_kbad (h0 : 2 ≤ bs.length) (hop : bs.getD 0 0 = 4 ∨ bs.getD 0 0 = 5) (hkk : bs.getD 1 0 < 1 ∨ 64 < bs.getD 1 0) :
    Calls Tryd.prog 26 #[.slice A bs.length c] w (Parsed (hparse bs) w) := by
  obtain ⟨o, ho⟩ : ∃ o, bs[0]? = some o := ⟨_, List.getElem?_eq_getElem (by omega)⟩
  have hod : bs.getD 0 0 = o := by rw [List.getD_eq_getElem?_getD, ho]; rfl
  rw [hod] at hop
  obtain ⟨b, off, rfl, hB, hc⟩ := hs.by_ (by omega)
  obtain ⟨hob1, hob2⟩ := hby 0 o ho
  have c0 := hc 0 o ho
  rw [Nat.add_zero] at c0
  obtain ⟨k, hk⟩ : ∃ k, bs[1]? = some k := ⟨_, List.getElem?_eq_getElem (by omega)⟩
  have hkd : bs.getD 1 0 = k := by rw [List.getD_eq_getElem?_getD, hk]; rfl
  rw [hkd] at hkk
  obtain ⟨hkb1, hkb2⟩ := hby 1 k hk
  have c1 := hc 1 k hk
  have hr : hparse bs = (phZero, 0, 6) := by unfold hparse; rw [if_neg (by omega), hod, if_neg (by omega), if_neg (by omega), if_neg (by omega), if_neg (by omega), hkd, if_pos hkk]
  rw [hr]
  have HR := hide hr; clear hr hod ho hkd hk
  have HC := hide hc; clear hc
  have hz : ((bs.length : Int) == 0) = false := by rw [beq_eq_false_iff_ne]; omega
  rcases hop with rfl | rfl <;> rcases hkk with hkk | hkk
  all_goals
    go_enter Tryd.func26, Tryd.ntmps26
    go_wp2
    exact bodyPost_ret (v := .tuple #[.agg #[.int .i64 0, .int .i64 0, .slice none 0 0, .int .i64 0], .int .i64 0, .int .i64 6]) (by simp [results, Tryd.results26, go_sem]) rfl ⟨none, 0, rfl, Sl.nil _ _ _, by repeat first | exact Below.refl _ _ | refine bl_alloc ?_ _⟩

set_option maxRecDepth 100000 in
set_option maxHeartbeats 800000 in
theorem rparse_kshort (h0 : 2 ≤ bs.length) (hop : bs.getD 0 0 = 4 ∨ bs.getD 0 0 = 5) (hkk : 1 ≤ bs.getD 1 0 ∧ bs.getD 1 0 ≤ 64) (hl : (bs.length : Int) < 2 + bs.getD 1 0) :
    Calls Tryd.prog 26 #[.slice A bs.length c] w (Parsed (hparse bs) w) := by
  obtain ⟨o, ho⟩ : ∃ o, bs[0]? = some o := ⟨_, List.getElem?_eq_getElem (by omega)⟩
  have hod : bs.getD 0 0 = o := by rw [List.getD_eq_getElem?_getD, ho]; rfl
  rw [hod] at hop
  obtain ⟨b, off, rfl, hB, hc⟩ := hs.by_ (by omega)
  obtain ⟨hob1, hob2⟩ := hby 0 o ho
  have c0 := hc 0 o ho
  rw [Nat.add_zero] at c0
  obtain ⟨k, hk⟩ : ∃ k, bs[1]? = some k := ⟨_, List.getElem?_eq_getElem (by omega)⟩
  have hkd : bs.getD 1 0 = k := by rw [List.getD_eq_getElem?_getD, hk]; rfl
  rw [hkd] at hkk
  obtain ⟨hkb1, hkb2⟩ := hby 1 k hk
  have c1 := hc 1 k hk
  rw [hkd] at hl
  have hr : hparse bs = (phZero, 0, 4) := by unfold hparse; rw [if_neg (by omega), hod, if_neg (by omega), if_neg (by omega), if_neg (by omega), if_neg (by omega), hkd, if_neg (by omega), if_pos hl]
  rw [hr]
  have HR := hide hr; clear hr hod ho hkd hk
  have HC := hide hc; clear hc
  have hz : ((bs.length : Int) == 0) = false := by rw [beq_eq_false_iff_ne]; omega
  obtain ⟨hk1, hk2⟩ := hkk
  rcases hop with rfl | rfl
  all_goals
    go_enter Tryd.func26, Tryd.ntmps26
    go_wp2
    exact bodyPost_ret (v := .tuple #[.agg #[.int .i64 0, .int .i64 0, .slice none 0 0, .int .i64 0], .int .i64 0, .int .i64 4]) (by simp [results, Tryd.results26, go_sem]) rfl ⟨none, 0, rfl, Sl.nil _ _ _, by repeat first | exact Below.refl _ _ | refine bl_alloc ?_ _⟩

end
end Go.Proofs.YtcfbkabiapaobaaDoor
