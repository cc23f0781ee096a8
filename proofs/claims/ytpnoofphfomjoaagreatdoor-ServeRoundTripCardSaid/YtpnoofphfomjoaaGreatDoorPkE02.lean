/- Parse -/
import Derived.ChangeAlike
import Derived.Test.YtpnoofphfomjoaaGreatDoorPkE06
namespace Go.Proofs.YtpnoofphfomjoaaGreatDoor
open Go.RowKit
def Parsed (r : PH × Int × Int) (w : World) (e : Ending) (w' : World) : Prop :=
  ∃ A c, e = .returned (.tuple #[.agg #[.int .i64 r.1.op, .int .i64 r.1.vs, .slice A r.1.rs.length c, .int .i64 r.1.pts], .int .i64 r.2.1, .int .i64 r.2.2]) ∧ Sl w' w'.heap.size A (rgCells r.1.rs) ∧ Below w.heap.size w w'
/-- three results, the first a header in a block -/
theorem results_hdr {fn : Func} {tmps : Array Value} {w : World} {g : Nat} {v0 v1 v2 v3 : Value} (h : fn.results = #[.cell 2 24, .tmp 3, .tmp 4])
    (hp : tmps.getD 2 undef = .pointer (some ⟨g, 0, none⟩)) (hb : Blk w g 24 #[v0, v1, v2, v3]) :
    (results fn tmps).run Tryz.prog w = .ok (.tuple #[.agg #[v0, v1, v2, v3], tmps.getD 3 undef, tmps.getD 4 undef]) w := by
  have c0 := hb.cell (i := 0) rfl
  have c1 := hb.cell (i := 1) rfl
  have c2 := hb.cell (i := 2) rfl
  have c3 := hb.cell (i := 3) rfl
  have hp' : tmps[2]?.getD undef = .pointer (some ⟨g, 0, none⟩) := by rw [← hp]; simp
  simp [results, h, hp', go_sem, c0, c1, c2, c3]
section
variable (bs : List Int) (A : Option Addr) (c : Nat) (w : World)
set_option maxRecDepth 100000 in
set_option maxHeartbeats 400000 in
theorem parse_short (h0 : bs.length < 1) :
    Calls Tryz.prog 107 #[.slice A bs.length c] w (Parsed (hparse bs) w) := by
  have hr : hparse bs = (phZero, 0, 4) := by unfold hparse; rw [if_pos h0]
  rw [hr]
  have HR := hide hr; clear hr
  go_enter Tryz.func107, Tryz.ntmps107
  go_wp2
  refine wp_scope_fwd 0 rfl ?_
  go_wp2
  go_step3
  go_wp2
  refine jump_goto ?_
  unfold AtLabel
  go_wp2
  rw [Exit.noGoto_ret]
  exact bodyPost_ret (v := .tuple #[.agg #[.int .i64 0, .int .i64 0, .slice none 0 0, .int .i64 0], .int .i64 0, .int .i64 4]) (by simp [results, Tryz.results107, go_sem]) rfl ⟨none, 0, rfl, Sl.nil _ _ _, bl_alloc (bl_alloc (Below.refl _ _) _) _⟩
variable (hs : Sl w w.heap.size A (byCells bs)) (hcap : bs.length ≤ c) (hmax : c ≤ maxLen) (hby : ∀ (j : Nat) (x : Int), bs[j]? = some x → 0 ≤ x ∧ x ≤ 255)
include hs in
set_option maxRecDepth 100000 in
set_option maxHeartbeats 400000 in
theorem parse_12 (h0 : 0 < bs.length) (hop : bs.getD 0 0 = 1 ∨ bs.getD 0 0 = 2) :
    Calls Tryz.prog 107 #[.slice A bs.length c] w (Parsed (hparse bs) w) := by
  obtain ⟨o, ho⟩ : ∃ o, bs[0]? = some o := ⟨_, List.getElem?_eq_getElem (by omega)⟩
  have hod : bs.getD 0 0 = o := by rw [List.getD_eq_getElem?_getD, ho]; rfl
  rw [hod] at hop
  obtain ⟨b, off, rfl, hB, hc⟩ := hs.by_ (by omega)
  have c0 := hc 0 o ho
  rw [Nat.add_zero] at c0
  have HC := hide hc; clear hc
  have hr : hparse bs = (⟨o, 0, [], 0⟩, 1, 0) := by unfold hparse; rw [if_neg (by omega), hod, if_pos hop]
  rw [hr]
  have HR := hide hr; clear hr hod ho
  rcases hop with rfl | rfl
  all_goals
    go_enter Tryz.func107, Tryz.ntmps107
    go_wp2
    refine wp_scope_fwd 0 rfl ?_
    go_wp2
    refine bodyPost_ret (v := .tuple #[.agg #[.int .i64 _, .int .i64 0, .slice none 0 0, .int .i64 0], .int .i64 1, .int .i64 0]) (by simp [results, Tryz.results107, go_sem]) rfl ⟨none, 0, rfl, Sl.nil _ _ _, ?_⟩
    exact (bl_alloc (bl_alloc (Below.refl _ _) _) _)
include hs hby in
set_option maxRecDepth 100000 in
set_option maxHeartbeats 400000 in
theorem parse_bad (h0 : 0 < bs.length) (hop : bs.getD 0 0 < 1 ∨ 5 < bs.getD 0 0) :
    Calls Tryz.prog 107 #[.slice A bs.length c] w (Parsed (hparse bs) w) := by
  obtain ⟨o, ho⟩ : ∃ o, bs[0]? = some o := ⟨_, List.getElem?_eq_getElem (by omega)⟩
  have hod : bs.getD 0 0 = o := by rw [List.getD_eq_getElem?_getD, ho]; rfl
  rw [hod] at hop
  obtain ⟨b, off, rfl, hB, hc⟩ := hs.by_ (by omega)
  have hob := hby 0 o ho
  obtain ⟨hob1, hob2⟩ := hob
  have c0 := hc 0 o ho
  rw [Nat.add_zero] at c0
  have HC := hide hc; clear hc
  have hr : hparse bs = (phZero, 0, 5) := by unfold hparse; rw [if_neg (by omega), hod, if_neg (by omega), if_pos (by omega)]
  rw [hr]
  have HR := hide hr; clear hr hod ho
  have e1 : (o == 1) = false := by simp; omega
  have e2 : (o == 2) = false := by simp; omega
  have e3 : (o == 3) = false := by simp; omega
  have e4 : (o == 4) = false := by simp; omega
  have e5 : (o == 5) = false := by simp; omega
  go_enter Tryz.func107, Tryz.ntmps107
  go_wp2
  refine wp_scope_fwd 0 rfl ?_
  go_wp2
  go_step3
  go_wp2
  refine jump_goto ?_
  unfold AtLabel
  go_wp2
  rw [Exit.noGoto_ret]
  exact bodyPost_ret (v := .tuple #[.agg #[.int .i64 0, .int .i64 0, .slice none 0 0, .int .i64 0], .int .i64 0, .int .i64 5]) (by simp [results, Tryz.results107, go_sem]) rfl ⟨none, 0, rfl, Sl.nil _ _ _, bl_alloc (bl_alloc (Below.refl _ _) _) _⟩
include hs in
set_option maxRecDepth 100000 in
set_option maxHeartbeats 400000 in
theorem parse_one (h0 : bs.length = 1) (hop : bs.getD 0 0 = 3 ∨ bs.getD 0 0 = 4 ∨ bs.getD 0 0 = 5) :
    Calls Tryz.prog 107 #[.slice A bs.length c] w (Parsed (hparse bs) w) := by
  obtain ⟨o, ho⟩ : ∃ o, bs[0]? = some o := ⟨_, List.getElem?_eq_getElem (by omega)⟩
  have hod : bs.getD 0 0 = o := by rw [List.getD_eq_getElem?_getD, ho]; rfl
  rw [hod] at hop
  obtain ⟨b, off, rfl, hB, hc⟩ := hs.by_ (by omega)
  have c0 := hc 0 o ho
  rw [Nat.add_zero] at c0
  have hr : hparse bs = (phZero, 0, 4) := by unfold hparse; rw [if_neg (by omega), hod, if_neg (by omega), if_neg (by omega), if_pos (by omega)]
  rw [hr]
  have HR := hide hr; clear hr hod ho
  have HC := hide hc; clear hc
  have h0' : bs.length < 2 := by omega
  have h1' : 1 ≤ bs.length := by omega
  clear h0
  rcases hop with rfl | rfl | rfl
  all_goals
    go_enter Tryz.func107, Tryz.ntmps107
    go_wp2
    refine wp_scope_fwd 0 rfl ?_
    go_wp2
    go_step3
    go_wp2
    refine jump_goto ?_
    unfold AtLabel
    go_wp2
    rw [Exit.noGoto_ret]
    exact bodyPost_ret (v := .tuple #[.agg #[.int .i64 0, .int .i64 0, .slice none 0 0, .int .i64 0], .int .i64 0, .int .i64 4]) (by simp [results, Tryz.results107, go_sem]) rfl ⟨none, 0, rfl, Sl.nil _ _ _, bl_alloc (bl_alloc (Below.refl _ _) _) _⟩
include hs hby in
set_option maxRecDepth 100000 in
set_option maxHeartbeats 400000 in
theorem parse_3bad (h0 : 2 ≤ bs.length) (hop : bs.getD 0 0 = 3) (hkk : bs.getD 1 0 < 3 ∨ 64 < bs.getD 1 0) :
    Calls Tryz.prog 107 #[.slice A bs.length c] w (Parsed (hparse bs) w) := by
  obtain ⟨o, ho⟩ : ∃ o, bs[0]? = some o := ⟨_, List.getElem?_eq_getElem (by omega)⟩
  have hod : bs.getD 0 0 = o := by rw [List.getD_eq_getElem?_getD, ho]; rfl
  rw [hod] at hop
  obtain ⟨b, off, rfl, hB, hc⟩ := hs.by_ (by omega)
  have c0 := hc 0 o ho
  rw [Nat.add_zero] at c0
  obtain ⟨k, hk⟩ : ∃ k, bs[1]? = some k := ⟨_, List.getElem?_eq_getElem (by omega)⟩
  have hkd : bs.getD 1 0 = k := by rw [List.getD_eq_getElem?_getD, hk]; rfl
  rw [hkd] at hkk
  obtain ⟨hkb1, hkb2⟩ := hby 1 k hk
  have c1 := hc 1 k hk
  subst hop
  have hr : hparse bs = (phZero, 0, 6) := by unfold hparse; rw [if_neg (by omega), hod, if_neg (by omega), if_neg (by omega), if_neg (by omega), if_pos rfl, hkd, if_pos hkk]
  rw [hr]
  have HR := hide hr; clear hr hod ho hkd hk
  have HC := hide hc; clear hc
  rcases hkk with hkk | hkk
  all_goals
    go_enter Tryz.func107, Tryz.ntmps107
    go_wp2
    refine wp_scope_fwd 0 rfl ?_
    go_wp2
    go_step3
    go_wp2
    refine jump_goto ?_
    unfold AtLabel
    go_wp2
    rw [Exit.noGoto_ret]
    exact bodyPost_ret (v := .tuple #[.agg #[.int .i64 0, .int .i64 0, .slice none 0 0, .int .i64 0], .int .i64 0, .int .i64 6]) (by simp [results, Tryz.results107, go_sem]) rfl ⟨none, 0, rfl, Sl.nil _ _ _, bl_alloc (bl_alloc (Below.refl _ _) _) _⟩
include hs in
set_option maxRecDepth 100000 in
set_option maxHeartbeats 400000 in
theorem parse_3ok (h0 : 2 ≤ bs.length) (hop : bs.getD 0 0 = 3) (hkk : 3 ≤ bs.getD 1 0 ∧ bs.getD 1 0 ≤ 64) :
    Calls Tryz.prog 107 #[.slice A bs.length c] w (Parsed (hparse bs) w) := by
  obtain ⟨o, ho⟩ : ∃ o, bs[0]? = some o := ⟨_, List.getElem?_eq_getElem (by omega)⟩
  have hod : bs.getD 0 0 = o := by rw [List.getD_eq_getElem?_getD, ho]; rfl
  rw [hod] at hop
  obtain ⟨b, off, rfl, hB, hc⟩ := hs.by_ (by omega)
  have c0 := hc 0 o ho
  rw [Nat.add_zero] at c0
  obtain ⟨k, hk⟩ : ∃ k, bs[1]? = some k := ⟨_, List.getElem?_eq_getElem (by omega)⟩
  have hkd : bs.getD 1 0 = k := by rw [List.getD_eq_getElem?_getD, hk]; rfl
  rw [hkd] at hkk
  have c1 := hc 1 k hk
  subst hop
  have hr : hparse bs = (⟨3, k, [], 0⟩, 2, 0) := by unfold hparse; rw [if_neg (by omega), hod, if_neg (by omega), if_neg (by omega), if_neg (by omega), if_pos rfl, hkd, if_neg (by omega)]
  rw [hr]
  have HR := hide hr; clear hr hod ho hkd hk
  have HC := hide hc; clear hc
  obtain ⟨hk1, hk2⟩ := hkk
  go_enter Tryz.func107, Tryz.ntmps107
  go_wp2
  refine wp_scope_fwd 0 rfl ?_
  go_wp2
  exact bodyPost_ret (v := .tuple #[.agg #[.int .i64 3, .int .i64 k, .slice none 0 0, .int .i64 0], .int .i64 2, .int .i64 0]) (by simp [results, Tryz.results107, go_sem]) rfl ⟨none, 0, rfl, Sl.nil _ _ _, bl_alloc (bl_alloc (Below.refl _ _) _) _⟩
include hs hby in
set_option maxRecDepth 100000 in
set_option maxHeartbeats 800000 in
theorem parse_kbad (h0 : 2 ≤ bs.length) (hop : bs.getD 0 0 = 4 ∨ bs.getD 0 0 = 5) (hkk : bs.getD 1 0 < 1 ∨ 64 < bs.getD 1 0) :
    Calls Tryz.prog 107 #[.slice A bs.length c] w (Parsed (hparse bs) w) := by
  obtain ⟨o, ho⟩ : ∃ o, bs[0]? = some o := ⟨_, List.getElem?_eq_getElem (by omega)⟩
  have hod : bs.getD 0 0 = o := by rw [List.getD_eq_getElem?_getD, ho]; rfl
  rw [hod] at hop
  obtain ⟨b, off, rfl, hB, hc⟩ := hs.by_ (by omega)
  have c0 := hc 0 o ho
  rw [Nat.add_zero] at c0
  obtain ⟨k, hk⟩ : ∃ k, bs[1]? = some k := ⟨_, List.getElem?_eq_getElem (by omega)⟩
  have hkd : bs.getD 1 0 = k := by rw [List.getD_eq_getElem?_getD, hk]; rfl
  rw [hkd] at hkk
  obtain ⟨hkb1, hkb2⟩ := hby 1 k hk
  have c1 := hc 1 k hk
  have hr : hparse bs = (phZero, 0, 6) := by unfold hparse; rw [if_neg (by omega), hod, if_neg (by omega), if_neg (by omega), if_neg (by omega), if_neg (by omega), hkd, if_pos hkk]
  rw [hr]
  have HR := hide hr; clear hr hod ho hkd hk
  have HC := hide hc; clear hc
  rcases hop with rfl | rfl <;> rcases hkk with hkk | hkk
  all_goals
    go_enter Tryz.func107, Tryz.ntmps107
    go_wp2
    refine wp_scope_fwd 0 rfl ?_
    go_wp2
    go_step3
    go_wp2
    refine jump_goto ?_
    unfold AtLabel
    go_wp2
    rw [Exit.noGoto_ret]
    exact bodyPost_ret (v := .tuple #[.agg #[.int .i64 0, .int .i64 0, .slice none 0 0, .int .i64 0], .int .i64 0, .int .i64 6]) (by simp [results, Tryz.results107, go_sem]) rfl ⟨none, 0, rfl, Sl.nil _ _ _, bl_alloc (bl_alloc (Below.refl _ _) _) _⟩
include hs in
set_option maxRecDepth 100000 in
set_option maxHeartbeats 800000 in
theorem parse_kshort (h0 : 2 ≤ bs.length) (hop : bs.getD 0 0 = 4 ∨ bs.getD 0 0 = 5) (hkk : 1 ≤ bs.getD 1 0 ∧ bs.getD 1 0 ≤ 64) (hl : (bs.length : Int) < 2 + bs.getD 1 0) :
    Calls Tryz.prog 107 #[.slice A bs.length c] w (Parsed (hparse bs) w) := by
  obtain ⟨o, ho⟩ : ∃ o, bs[0]? = some o := ⟨_, List.getElem?_eq_getElem (by omega)⟩
  have hod : bs.getD 0 0 = o := by rw [List.getD_eq_getElem?_getD, ho]; rfl
  rw [hod] at hop
  obtain ⟨b, off, rfl, hB, hc⟩ := hs.by_ (by omega)
  have c0 := hc 0 o ho
  rw [Nat.add_zero] at c0
  obtain ⟨k, hk⟩ : ∃ k, bs[1]? = some k := ⟨_, List.getElem?_eq_getElem (by omega)⟩
  have hkd : bs.getD 1 0 = k := by rw [List.getD_eq_getElem?_getD, hk]; rfl
  rw [hkd] at hkk
  have c1 := hc 1 k hk
  rw [hkd] at hl
  have hr : hparse bs = (phZero, 0, 4) := by unfold hparse; rw [if_neg (by omega), hod, if_neg (by omega), if_neg (by omega), if_neg (by omega), if_neg (by omega), hkd, if_neg (by omega), if_pos hl]
  rw [hr]
  have HR := hide hr; clear hr hod ho hkd hk
  have HC := hide hc; clear hc
  obtain ⟨hk1, hk2⟩ := hkk
  rcases hop with rfl | rfl
  all_goals
    go_enter Tryz.func107, Tryz.ntmps107
    go_wp2
    refine wp_scope_fwd 0 rfl ?_
    go_wp2
    go_step3
    go_wp2
    refine jump_goto ?_
    unfold AtLabel
    go_wp2
    rw [Exit.noGoto_ret]
    exact bodyPost_ret (v := .tuple #[.agg #[.int .i64 0, .int .i64 0, .slice none 0 0, .int .i64 0], .int .i64 0, .int .i64 4]) (by simp [results, Tryz.results107, go_sem]) rfl ⟨none, 0, rfl, Sl.nil _ _ _, bl_alloc (bl_alloc (Below.refl _ _) _) _⟩
end
end Go.Proofs.YtpnoofphfomjoaaGreatDoor
