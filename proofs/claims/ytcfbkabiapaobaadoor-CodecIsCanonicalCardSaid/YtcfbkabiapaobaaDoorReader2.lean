/- codec.reader: point and query. -/
import Derived.Test.YtcfbkabiapaobaaDoorReader
import Derived.Deep.RegionLaw
namespace Go.Proofs.YtcfbkabiapaobaaDoor
open Go.RowKit

def i64w (x : Int) : Int := wrap64 x
section
variable (P : Nat → Prop) (B g : Nat) (w : World) (hB : ∀ k, k < B → P k)
include hB
set_option maxRecDepth 100000 in
set_option maxHeartbeats 2000000 in
theorem rdpoint_any (l1 l2 t : List Int) (h1 : l1.length = 8) (h2 : l2.length = 8) (hb1 : By l1) (hb2 : By l2) (hP : ∀ k, P k → k < w.heap.size) (hr : RS w P B g (l1 ++ (l2 ++ t))) (hl : t.length ≤ 800000) :
    Calls Tryd.prog 21 #[.pointer (some ⟨g, 0, none⟩)] w fun e w' => e = .returned (.agg #[.int .i64 (i64w (le l1)), .int .i64 (i64w (le l2))]) ∧ KeepP P w w' ∧ RS w' P B g t := by
  obtain ⟨w0, hw0⟩ : ∃ w0, w0 = w.alloc (.cells #[.int .i64 0, .int .i64 0] 49) := ⟨_, rfl⟩
  have hb : Below w.heap.size w w0 := by rw [hw0]; exact bl_alloc (Below.refl _ _) _
  have hz : w0.heap.size = w.heap.size + 1 := by rw [hw0]; simp
  have B0 : Blk w0 w.heap.size 49 #[.int .i64 0, .int .i64 0] := by rw [hw0]; exact Blk.new _ _ _
  have hP1 := more_lt hP hb
  have h0 := hr.more hb hB hP
  have hm : ∀ w1, KeepP (More P w w0) w0 w1 → KeepP P w w1 := fun w1 => KeepP.more hb hP
  have hRk : More P w w0 w.heap.size := .inr ⟨Nat.le_refl _, by omega⟩
  have hBm : ∀ k, k < B → More P w w0 k := fun k hk => .inl (hB k hk)
  have HM := hide hm
  have HZ := hide hz
  have HPP := hide hP
  clear hm hz hP
  have HP1 := hide hP1
  clear hP1
  have hB0 := hide hB
  have HB := hide hBm; clear hB hBm
  have HB1 := hide hb1; have HB2 := hide hb2; have HL1 := hide h1; have HL2 := hide h2
  clear hb1 hb2 h1 h2
  have hln : (l2 ++ t).length ≤ 900000 := by rw [List.length_append, HL2.out]; omega
  go_enter Tryd.func21, Tryd.ntmps21
  go_wp2_with fail
  rw [← hw0]
  have HW0 := hide hw0; clear hw0
  refine (rdword_any (More P w w0) B g w0 HB.out l1 (l2 ++ t) HL1.out HB1.out h0 hln).mono ?_
  rintro e w1 ⟨rfl, k1, r1⟩
  go_wp2_with fail
  refine (rdword_any (More P w w0) B g w1 HB.out l2 t HL2.out HB2.out r1 (by omega)).mono ?_
  rintro e w2 ⟨rfl, k2, r2⟩
  have B2 := (B0.kept k1 hRk).kept k2 hRk
  have b0 := B2.cell (i := 0) rfl
  have b1 := B2.cell (i := 1) rfl
  have f0 := B2.frozen 0
  have f1 := B2.frozen 1
  have hBl := B2.lt
  have B3 := (B2.set 0 (.int .i64 (wrap64 (le l1)))).set 1 (.int .i64 (wrap64 (le l2)))
  have e0 : (w2.setCell ⟨w.heap.size, 0, none⟩ (.int .i64 (wrap64 (le l1)))).cell? ⟨w.heap.size, 0, none⟩ = some (.int .i64 (wrap64 (le l1))) := (B2.set 0 _).cell (i := 0) rfl
  have e1 : ((w2.setCell ⟨w.heap.size, 0, none⟩ (.int .i64 (wrap64 (le l1)))).setCell ⟨w.heap.size, 1, none⟩ (.int .i64 (wrap64 (le l2)))).cell? ⟨w.heap.size, 1, none⟩ = some (.int .i64 (wrap64 (le l2))) := B3.cell (i := 1) rfl
  have hnP : ¬ P w.heap.size := fun h => by have := HPP.out _ h; omega
  have hgne : g ≠ w.heap.size := by have := hr.lt; omega
  clear B3
  go_wp2
  refine bodyPost_ret (v := .agg #[.int .i64 (wrap64 (le l1)), .int .i64 (wrap64 (le l2))]) (by simp [results, Tryd.results21, go_sem, e0, e1]) rfl ⟨rfl, ?_, ?_⟩
  · exact ((HM.out _ (k1.trans k2)).trans (KeepP.set hnP _ _ _)).trans (KeepP.set hnP _ _ _)
  · exact ((r2.mono (R := P) (fun k hk => .inl hk)).far hgne hnP hB0.out _ _).far hgne hnP hB0.out _ _

set_option maxRecDepth 100000 in
set_option maxHeartbeats 2000000 in
theorem rdquery_any (l1 l2 l3 t : List Int) (h1 : l1.length = 8) (h2 : l2.length = 8) (h3 : l3.length = 8) (hb1 : By l1) (hb2 : By l2) (hb3 : By l3) (hP : ∀ k, P k → k < w.heap.size) (hr : RS w P B g (l1 ++ (l2 ++ (l3 ++ t)))) (hl : t.length ≤ 700000) :
    Calls Tryd.prog 24 #[.pointer (some ⟨g, 0, none⟩)] w fun e w' => e = .returned (.agg #[.int .i64 (i64w (le l1)), .int .i64 (i64w (le l2)), .int .u64 (le l3)]) ∧ KeepP P w w' ∧ RS w' P B g t := by
  obtain ⟨w0, hw0⟩ : ∃ w0, w0 = w.alloc (.cells #[.int .i64 0, .int .i64 0, .int .u64 0] 71) := ⟨_, rfl⟩
  have hb : Below w.heap.size w w0 := by rw [hw0]; exact bl_alloc (Below.refl _ _) _
  have hz : w0.heap.size = w.heap.size + 1 := by rw [hw0]; simp
  have B0 : Blk w0 w.heap.size 71 #[.int .i64 0, .int .i64 0, .int .u64 0] := by rw [hw0]; exact Blk.new _ _ _
  have hP1 := more_lt hP hb
  have h0 := hr.more hb hB hP
  have hm : ∀ w1, KeepP (More P w w0) w0 w1 → KeepP P w w1 := fun w1 => KeepP.more hb hP
  have hRk : More P w w0 w.heap.size := .inr ⟨Nat.le_refl _, by omega⟩
  have hBm : ∀ k, k < B → More P w w0 k := fun k hk => .inl (hB k hk)
  have HM := hide hm
  have HZ := hide hz
  have HPP := hide hP
  clear hm hz hP
  have HP1 := hide hP1
  clear hP1
  have hB0 := hide hB
  have HB := hide hBm; clear hB hBm
  have HB3 := hide hb3; have HL3 := hide h3
  have hln : (l3 ++ t).length ≤ 800000 := by rw [List.length_append, h3]; omega
  have PT := rdpoint_any (More P w w0) B g w0 HB.out l1 l2 (l3 ++ t) h1 h2 hb1 hb2 HP1.out h0 hln
  have HPT := hide PT
  clear hb1 hb2 hb3 h1 h2 h3 PT
  go_enter Tryd.func24, Tryd.ntmps24
  go_wp2_with fail
  rw [← hw0]
  have HW0 := hide hw0; clear hw0
  refine HPT.out.mono ?_
  rintro e w1 ⟨rfl, k1, r1⟩
  go_wp2
  obtain ⟨w2, hw2⟩ : ∃ w2, w2 = w1.alloc (.cells #[.int .i64 (i64w (le l1)), .int .i64 (i64w (le l2))] 49) := ⟨_, rfl⟩
  rw [← hw2]
  have hbx : Below w1.heap.size w1 w2 := by rw [hw2]; exact bl_alloc (Below.refl _ _) _
  have Q2 : Blk w2 w1.heap.size 49 #[.int .i64 (i64w (le l1)), .int .i64 (i64w (le l2))] := by rw [hw2]; exact Blk.new _ _ _
  have hz2 : w2.heap.size = w1.heap.size + 1 := by rw [hw2]; simp
  have HW2 := hide hw2; clear hw2
  have hPx : ∀ k, More P w w0 k → k < w1.heap.size := fun k hk => Nat.lt_of_lt_of_le (HP1.out k hk) k1.size
  have r2 := r1.more hbx HB.out hPx
  have B2 := (B0.kept k1 hRk).step hbx
  have c0 := Q2.cell (i := 0) rfl
  have c1 := Q2.cell (i := 1) rfl
  have hR2a : More (More P w w0) w1 w2 w.heap.size := .inl hRk
  have hR2b : More (More P w w0) w1 w2 w1.heap.size := .inr ⟨Nat.le_refl _, by omega⟩
  have WD := rdword_any (More (More P w w0) w1 w2) B g w2.drew (fun k hk => .inl (HB.out k hk)) l3 t HL3.out HB3.out r2 (by omega)
  have HWD := hide WD
  have HPX := hide hPx
  clear WD hPx hz2
  have hnP : ¬ P w.heap.size := fun h => by have := HPP.out _ h; omega
  have hgne : g ≠ w.heap.size := by have := hr.lt; omega
  go_region_law (first
    | (go_simp; go_at_call 48; refine HWD.out.mono ?_; rintro e w3 ⟨rfl, k3, r3⟩; have x0 := (Q2.drew.kept k3 hR2b).cell (i := 0) rfl; have x1 := (Q2.drew.kept k3 hR2b).cell (i := 1) rfl; have y0 := (B2.drew.kept k3 hR2a).cell (i := 0) rfl; have y1 := (B2.drew.kept k3 hR2a).cell (i := 1) rfl; have y2 := (B2.drew.kept k3 hR2a).cell (i := 2) rfl; have f0 := (B2.drew.kept k3 hR2a).frozen 0; have f1 := (B2.drew.kept k3 hR2a).frozen 1; have f2 := (B2.drew.kept k3 hR2a).frozen 2))
  all_goals
    have B3 := B2.drew.kept k3 hR2a
    go_wp2
    have e0 := (B3.set 0 (.int .i64 (i64w (le l1)))).cell (i := 0) rfl
    have e1 := ((B3.set 0 (.int .i64 (i64w (le l1)))).set 1 (.int .i64 (i64w (le l2)))).cell (i := 1) rfl
    have e2 := (((B3.set 0 (.int .i64 (i64w (le l1)))).set 1 (.int .i64 (i64w (le l2)))).set 2 (.int .u64 (le l3))).cell (i := 2) rfl
    have kk : KeepP P w w3 := HM.out _ ((k1.trans (KeepP.of_below hbx HPX.out)).trans ((KeepP.drew _ _).trans (k3.mono (fun k hk => .inl hk))))
    refine bodyPost_ret (v := .agg #[.int .i64 (i64w (le l1)), .int .i64 (i64w (le l2)), .int .u64 (le l3)]) (by simp [results, Tryd.results24, go_sem, e0, e1, e2]) rfl ⟨rfl, ?_, ?_⟩
    · exact ((kk.trans (KeepP.set hnP _ _ _)).trans (KeepP.set hnP _ _ _)).trans (KeepP.set hnP _ _ _)
    · exact (((r3.mono (R := P) (fun k hk => .inl (.inl hk))).far hgne hnP hB0.out _ _).far hgne hnP hB0.out _ _).far hgne hnP hB0.out _ _
end
end Go.Proofs.YtcfbkabiapaobaaDoor
