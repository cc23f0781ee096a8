/- The reference's SamePoints and Same (of requests): true where both read as the same data. -/
import Derived.Test.YtcfbkabiapaobaaDoorSame
import Derived.Test.YtcfbkabiapaobaaDoorDecFacts
import Derived.Deep.QuietTactic
import Derived.BigQuiet
namespace Go.Proofs.YtcfbkabiapaobaaDoor
open Go.RowKit

set_option maxRecDepth 100000 in
set_option maxHeartbeats 4000000 in
theorem samePoints_true (ps : List (Int × Int)) (A A' : Option Addr) (c c' : Nat) (w : World) (hs : Sl w w.heap.size A (ptCs ps)) (hs' : Sl w w.heap.size A' (ptCs ps)) (hn : ps.length ≤ maxLen) :
    Calls Tryd.prog 32 #[.slice A ps.length c, .slice A' ps.length c'] w fun e w' => e = .returned (.bool true) ∧ ∃ n, w' = w.drewN n := by
  unfold maxLen at hn
  have HS := hide hs; have HS' := hide hs'
  clear hs hs'
  go_enter Tryd.func32, Tryd.ntmps32
  go_wp2
  go_loopw [5] (fun i wr => ∃ k : Nat, k ≤ ps.length ∧ i = .int .i64 k ∧ ∃ n, wr = w.drewN n)
    (fun i _ => ps.length - (intOf i).toNat)
  case atStart => exact ⟨0, by omega, rfl, 0, rfl⟩
  case round =>
    obtain ⟨k, hk, rfl, n, rfl⟩ := hrel
    by_cases hlt : k < ps.length
    · obtain ⟨r, hr⟩ : ∃ r, ps[k]? = some r := ⟨_, List.getElem?_eq_getElem hlt⟩
      obtain ⟨b, off, rfl, hb, q0, q1⟩ := HS.out.pt hr
      obtain ⟨b', off', rfl, hb', p0, p1⟩ := HS'.out.pt hr
      have hk0 : (0 : Int) ≤ (k : Int) := by omega
      have hkl : (k : Int) < (ps.length : Int) := by omega
      clear hr
      go_wp2
      go_quiet (fail)
      go_wp2
      go_roundw
      case rel => exact ⟨k + 1, by omega, by go_num, _, rfl⟩
      case measure => simp [intOf]; omega
    · have hk' : k = ps.length := by omega
      subst hk'
      go_wp2
      go_ret
      exact ⟨rfl, _, rfl⟩

theorem map_get {α β : Type} {f : α → β} {l : List α} {m : List β} (h : l.map f = m) {k : Nat} {y : β} (hy : m[k]? = some y) : ∃ x, l[k]? = some x ∧ f x = y := by
  subst h
  rw [List.getElem?_map, Option.map_eq_some_iff] at hy
  exact hy
section
variable (q : Rq) (hrs hrs' : List Rg) (HA HA' : Option Addr) (hc hc' : Nat) (gs gs' : List Gr) (GA GA' : Option Addr) (gc gc' : Nat) (PA PA' : Option Addr) (pc pc' : Nat) (QA QA' : Option Addr) (qc qc' : Nat) (w : World)
variable (h1 : ReadsRq w w.heap.size q hrs HA gs GA PA QA) (h2 : ReadsRq w w.heap.size q hrs' HA' gs' GA' PA' QA') (n1 : q.h.rs.length ≤ maxLen) (n2 : q.gs.length ≤ maxLen) (n3 : q.ps.length ≤ maxLen) (n4 : q.qs.length ≤ maxLen) (n5 : ∀ g ∈ q.gs, g.2.2.length ≤ maxLen)
include h1 h2 n1 n2 n3 n4 n5
set_option maxRecDepth 1000000 in
set_option maxHeartbeats 4000000 in
theorem sameRq_true : Calls Tryd.prog 9 #[rqVal q hrs HA hc gs GA gc PA pc QA qc, rqVal q hrs' HA' hc' gs' GA' gc' PA' pc' QA' qc'] w fun e w' => e = .returned (.bool true) ∧ Below w.heap.size w w' := by
  obtain ⟨⟨op, vs, rs, pts⟩, gd, ps, qs⟩ := q
  obtain ⟨hh, hk, hg, gk, hgd, hp, hq⟩ := h1
  obtain ⟨hh', hk', hg', gk', hgd', hp', hq'⟩ := h2
  simp only at hk hgd hk' hgd' hp hq hp' hq' n1 n2 n3 n4 n5
  unfold rqVal
  dsimp only
  have hrl : hrs.length = rs.length := by have := congrArg List.length hk; simpa using this
  have hrl' : hrs'.length = rs.length := by have := congrArg List.length hk'; simpa using this
  have hgl : gs.length = gd.length := by have := congrArg List.length hgd; simpa using this
  have hgl' : gs'.length = gd.length := by have := congrArg List.length hgd'; simpa using this
  rw [hgl, hgl']
  obtain ⟨w0, hw0⟩ : ∃ w0, w0 = (w.alloc (.cells #[.int .i64 op, .int .i64 vs, .slice HA hrs.length hc, .int .i64 pts, .slice GA gd.length gc, .slice PA ps.length pc, .slice QA qs.length qc] 34)).alloc (.cells #[.int .i64 op, .int .i64 vs, .slice HA' hrs'.length hc', .int .i64 pts, .slice GA' gd.length gc', .slice PA' ps.length pc', .slice QA' qs.length qc'] 34) := ⟨_, rfl⟩
  have hb0 : Below w.heap.size w w0 := by rw [hw0]; exact bl_alloc (bl_alloc (Below.refl _ _) _) _
  have BA : Blk w0 w.heap.size 34 #[.int .i64 op, .int .i64 vs, .slice HA hrs.length hc, .int .i64 pts, .slice GA gd.length gc, .slice PA ps.length pc, .slice QA qs.length qc] := by rw [hw0]; exact (Blk.new _ _ _).alloc _
  have BB : Blk w0 (w.heap.size + 1) 34 #[.int .i64 op, .int .i64 vs, .slice HA' hrs'.length hc', .int .i64 pts, .slice GA' gd.length gc', .slice PA' ps.length pc', .slice QA' qs.length qc'] := by rw [hw0]; exact Blk.new2 _ _ _ _
  have SM := same_true op vs pts hrs hrs' HA HA' hc hc' w0 ((hh.below hb0).more hb0.size) ((hh'.below hb0).more hb0.size) (hk.trans hk'.symm) (by omega)
  have HSM := hide SM
  have HG := hide hg; have HG' := hide hg'; have HGK := hide gk; have HGK' := hide gk'; have HGD := hide hgd; have HGD' := hide hgd'; have HP := hide hp; have HP' := hide hp'; have HQ := hide hq; have HQ' := hide hq'
  have HRL := hide hrl; have HRL' := hide hrl'; have HGL := hide hgl; have HGL' := hide hgl'; have HN5 := hide n5
  clear SM hh hh' hk hk' hg hg' gk gk' hgd hgd' hp hp' hq hq' hrl hrl' hgl hgl' n5
  have a0 := BA.cell (i := 0) rfl
  have a1 := BA.cell (i := 1) rfl
  have a2 := BA.cell (i := 2) rfl
  have a3 := BA.cell (i := 3) rfl
  have b0 := BB.cell (i := 0) rfl
  have b1 := BB.cell (i := 1) rfl
  have b2 := BB.cell (i := 2) rfl
  have b3 := BB.cell (i := 3) rfl
  go_enter Tryd.func9, Tryd.ntmps9
  go_wp2_with fail
  rw [← hw0]
  have HW0 := hide hw0; clear hw0
  refine HSM.out.mono ?_
  rintro e w1 ⟨rfl, hb1⟩
  have BA1 := BA.step hb1
  have BB1 := BB.step hb1
  clear a0 a1 a2 a3 b0 b1 b2 b3
  have a4 := BA1.cell (i := 4) rfl
  have a5 := BA1.cell (i := 5) rfl
  have a6 := BA1.cell (i := 6) rfl
  have b4 := BB1.cell (i := 4) rfl
  have b5 := BB1.cell (i := 5) rfl
  have b6 := BB1.cell (i := 6) rfl
  have HB1 := bl_step hb0 hb1
  unfold maxLen at n1 n2 n3 n4
  go_wp2_with fail
  refine (samePoints_true ps PA PA' pc pc' w1 ((HP.out.below HB1).more HB1.size) ((HP'.out.below HB1).more HB1.size) (by unfold maxLen; omega)).mono ?_
  rintro e w2 ⟨rfl, m, rfl⟩
  have HBm : ∀ n, Below w.heap.size w (w1.drewN n) := fun n => bl_drewN HB1 n
  have hwl : w.heap.size < w1.heap.size := BA1.lt
  have hwl1 : w.heap.size + 1 < w1.heap.size := BB1.lt
  have HBM := hide HBm; clear HBm
  go_wp2
  go_loopw [5] (fun i wr => ∃ k : Nat, k ≤ gd.length ∧ i = .int .i64 k ∧ ∃ n, wr = w1.drewN n)
    (fun i _ => gd.length - (intOf i).toNat)
  case atStart => exact ⟨0, by omega, rfl, m, rfl⟩
  case round =>
    obtain ⟨k, hk, rfl, n, rfl⟩ := hrel
    by_cases hlt : k < gd.length
    · obtain ⟨D, hD⟩ : ∃ D, gd[k]? = some D := ⟨_, List.getElem?_eq_getElem hlt⟩
      obtain ⟨r, hr, er⟩ := map_get HGD.out hD
      obtain ⟨r', hr', er'⟩ := map_get HGD'.out hD
      obtain ⟨d, v, P⟩ := D
      simp only [gdOf, Prod.mk.injEq] at er er'
      obtain ⟨gb, goff, rfl, hgb, c0, c1, c2⟩ := (HG.out.below HB1).rg (k := k) (r := r.1) (by rw [List.getElem?_map, hr]; rfl)
      obtain ⟨gb', goff', rfl, hgb', c0', c1', c2'⟩ := (HG'.out.below HB1).rg (k := k) (r := r'.1) (by rw [List.getElem?_map, hr']; rfl)
      have g1 := HGK.out r (List.mem_of_getElem? hr)
      have g2 := HGK'.out r' (List.mem_of_getElem? hr')
      have hpl := HN5.out _ (List.mem_of_getElem? hD)
      simp only at hpl
      rw [er.2.2] at g1
      rw [er'.2.2] at g2
      rw [er.1] at c0; rw [er.2.1] at c1; rw [g1.1] at c2
      rw [er'.1] at c0'; rw [er'.2.1] at c1'; rw [g2.1] at c2'
      have S1 := ((g1.2.below HB1).more HB1.size)
      have S2 := ((g2.2.below HB1).more HB1.size)
      have HSP : Hid (∀ i j, Calls Tryd.prog 32 #[.slice r.1.A P.length r.1.c, .slice r'.1.A P.length r'.1.c] (w1.drewN (i + j)) fun e w' => e = .returned (.bool true) ∧ ∃ m, w' = w1.drewN (i + m)) :=
        hide fun i j => (samePoints_true P r.1.A r'.1.A r.1.c r'.1.c (w1.drewN (i + j)) (S1.drewN _) (S2.drewN _) hpl).mono fun _ _ ⟨a, m, b⟩ => ⟨a, j + m, by rw [b, World.drewN_drewN, Nat.add_assoc]⟩
      have hk0 : (0 : Int) ≤ (k : Int) := by omega
      have hkl : (k : Int) < (gd.length : Int) := by omega
      clear g1 g2 S1 S2 hpl er er' hr hr' hD
      go_wp2
      go_quiet ((go_at_call 32; exact HSP.out _ _))
      go_wp2
      go_roundw
      case rel => exact ⟨k + 1, by omega, by go_num, _, rfl⟩
      case measure => simp [intOf]; omega
    · obtain rfl : gd.length = k := by omega
      go_wp2
      go_loopw [6] (fun i wr => ∃ k : Nat, k ≤ qs.length ∧ i = .int .i64 k ∧ ∃ n, wr = w1.drewN n)
        (fun i _ => qs.length - (intOf i).toNat)
      case atStart => exact ⟨0, by omega, rfl, n, rfl⟩
      case round =>
        clear hlt hk n
        obtain ⟨k, hk, rfl, n, rfl⟩ := hrel
        by_cases hlt : k < qs.length
        · obtain ⟨D, hD⟩ : ∃ D, qs[k]? = some D := ⟨_, List.getElem?_eq_getElem hlt⟩
          obtain ⟨qb, qoff, rfl, hqb, c0, c1, c2⟩ := (HQ.out.below HB1).qu hD
          obtain ⟨qb', qoff', rfl, hqb', c0', c1', c2'⟩ := (HQ'.out.below HB1).qu hD
          have hk0 : (0 : Int) ≤ (k : Int) := by omega
          have hkl : (k : Int) < (qs.length : Int) := by omega
          clear hD
          go_wp2
          go_quiet (fail)
          go_wp2
          go_roundw
          case rel => exact ⟨k + 1, by omega, by go_num, _, rfl⟩
          case measure => simp [intOf]; omega
        · obtain rfl : qs.length = k := by omega
          go_wp2
          go_ret
          exact ⟨rfl, HBM.out _⟩
end
end Go.Proofs.YtcfbkabiapaobaaDoor
