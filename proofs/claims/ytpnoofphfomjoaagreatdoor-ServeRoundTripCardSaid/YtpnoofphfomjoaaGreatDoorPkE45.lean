/- Serve -/
import Derived.Defers
import Derived.Test.YtpnoofphfomjoaaGreatDoorPkE14
import Derived.Test.YtpnoofphfomjoaaGreatDoorPkE43
import Derived.Test.YtpnoofphfomjoaaGreatDoorPkE44
namespace Go.Proofs.YtpnoofphfomjoaaGreatDoor
open Go.RowKit Go.Shelf Go.Maps
/-- a tape that was just made, or none -/
def FreshT (w : World) : Option (Nat × Nat) → Prop
  | none => True
  | some u => Blk w u.1 119 #[.slice none 0 0, .map (some u.2)] ∧ w.ownsMap (H := Unit) Tryz.prog 3 (plainElem Tryz.prog 3) u.2 0 (.map [])
/-- what lies there, but for the tape -/
def NT (t : Option (Nat × Nat)) (n : Nat) (k : Nat) : Prop := k < n ∧ ∀ u, t = some u → k ≠ u.1 ∧ k ≠ u.2
theorem FreshT.tp {w : World} {t : Option (Nat × Nat)} {P : Nat → Prop} (h : FreshT w t) (hP : ∀ k, P k → ∀ u, t = some u → k ≠ u.1 ∧ k ≠ u.2) : Tp w P t [] := by
  cases t with
  | none => trivial
  | some u => exact ⟨.slice none 0 0, 0, .map [], h.1, fun hp => (hP _ hp u rfl).1 rfl, fun hp => (hP _ hp u rfl).2 rfl, World.ownsRow_nil _ _ _ _, by simp [Value.ownBlock], by simp [Value.ownBlock], Nat.le_refl _, h.2⟩
theorem FreshT.step {w w' : World} {t : Option (Nat × Nat)} (h : FreshT w t) (hb : Below w.heap.size w w') : FreshT w' t := by
  cases t with
  | none => trivial
  | some u => exact ⟨h.1.step hb, h.2.kept (below_grown hb) (by simp)⟩
theorem FreshT.off {w : World} {t : Option (Nat × Nat)} (h : FreshT w t) {b o : Nat} {v : Value} (hc : w.cell? ⟨b, o, none⟩ = some v) (hv : (∀ A n c, v ≠ .slice A n c) ∧ ∀ m, v ≠ .map m) : NT t w.heap.size b := by
  refine ⟨cell_lt hc, ?_⟩
  rintro u rfl
  refine ⟨fun e => ?_, fun e => ?_⟩
  · have hb := h.1
    rw [← e] at hb
    rw [cell_of_row w b o _ _ (0, 0) hb] at hc
    rcases o with _ | _ | o
    · simp at hc; exact hv.1 _ _ _ hc.symm
    · simp at hc; exact hv.2 _ hc.symm
    · simp at hc
  · have hm := h.2
    rw [← e] at hm
    obtain ⟨es, clock, hh, _⟩ := hm
    simp [World.cell?, hh] at hc
theorem FreshT.slP {w : World} {t : Option (Nat × Nat)} (h : FreshT w t) {B : Nat} {A : Option Addr} {xs : List Value} (hs : Sl w B A xs) (hx : ∀ v, xs[0]? = some v → (∀ A n c, v ≠ .slice A n c) ∧ ∀ m, v ≠ .map m) : SlP w (NT t w.heap.size) A xs := by
  rcases hs with h0 | ⟨b, off, hA, hb, hc⟩
  · exact .inl h0
  · cases xs with
    | nil => exact .inl rfl
    | cons x xs => exact .inr ⟨b, off, hA, h.off (hc 0 x rfl) (hx x rfl), hc⟩
theorem rg_head (rs : List Rg) : ∀ v, (rgCells rs)[0]? = some v → (∀ A n c, v ≠ .slice A n c) ∧ ∀ m, v ≠ .map m := by
  intro v hv
  cases rs with
  | nil => simp [rgCells] at hv
  | cons r rs => simp [rgCells, Rg.cells] at hv; subst hv; exact ⟨fun _ _ _ h => (by cases h), fun _ h => (by cases h)⟩
theorem pt_head (ps : List (Int × Int)) : ∀ v, (ptCs ps)[0]? = some v → (∀ A n c, v ≠ .slice A n c) ∧ ∀ m, v ≠ .map m := by
  intro v hv
  cases ps with
  | nil => simp [ptCs] at hv
  | cons r rs => simp [ptCs] at hv; subst hv; exact ⟨fun _ _ _ h => (by cases h), fun _ h => (by cases h)⟩
theorem qu_head (ps : List ((Int × Int) × Int)) : ∀ v, (quCs ps)[0]? = some v → (∀ A n c, v ≠ .slice A n c) ∧ ∀ m, v ≠ .map m := by
  intro v hv
  cases ps with
  | nil => simp [quCs] at hv
  | cons r rs => simp [quCs] at hv; subst hv; exact ⟨fun _ _ _ h => (by cases h), fun _ h => (by cases h)⟩
theorem ptsOf_psJ (bs : List Int) (n : Nat) : PsJ (ptsOf bs n) := by
  intro p hp
  obtain ⟨i, _, rfl⟩ := List.mem_map.1 hp
  unfold ptRd i64w wrap64
  exact ⟨⟨by dsimp only; omega, by dsimp only; omega⟩, by dsimp only; omega, by dsimp only; omega⟩
theorem regsOf_psJ : ∀ (rs : List Rg) (bs : List Int), ∀ g ∈ regsOf rs bs, PsJ g.2.2 ∧ g.2.2.length ≤ 10000
  | [], _, g, hg => by cases hg
  | r :: rs, bs, g, hg => by
    unfold regsOf at hg
    rcases List.mem_cons.1 hg with rfl | hg
    · exact ⟨ptsOf_psJ _ _, by rw [ptsOf_length]; exact Nat.le_trans (sizeN_le _) (by decide)⟩
    · exact regsOf_psJ rs _ g hg
theorem le8 {l : List Int} (hb : By l) (hl : l.length ≤ 8) : U64 (le l) := by
  obtain ⟨b0, b1⟩ := le_bd l hb
  generalize le l = L at b0 b1
  generalize l.length = k at hl b1
  have hk : k = 0 ∨ k = 1 ∨ k = 2 ∨ k = 3 ∨ k = 4 ∨ k = 5 ∨ k = 6 ∨ k = 7 ∨ k = 8 := by omega
  exact ⟨b0, by rcases hk with rfl | rfl | rfl | rfl | rfl | rfl | rfl | rfl | rfl <;> simp at b1 <;> omega⟩
/-- what is decoded has numbers in their ranges, and few of them -/
theorem dec_small {bs : List Int} {q : Rq} (hby : By bs) (hd : hdecode bs = (q, 0)) : PsJ q.ps ∧ (∀ x ∈ q.qs, PJ x.1 ∧ U64 x.2) ∧ (∀ g ∈ q.gs, PsJ g.2.2 ∧ g.2.2.length ≤ 10000) ∧ hcheck q.h.op q.h.vs q.h.rs q.h.pts = 0 := by
  unfold hdecode at hd
  by_cases hc : hclass bs = 0
  · rw [if_pos hc] at hd
    have hq : rqOf (hparse bs).1 (bs.drop (hparse bs).2.1.toNat) = q := congrArg Prod.fst hd
    obtain ⟨⟨h, n, er⟩, hp⟩ : ∃ r, r = hparse bs := ⟨_, rfl⟩
    obtain ⟨_, z2, _⟩ := dec_facts hp.symm hc
    rw [← hp] at hq
    subst hq
    refine ⟨ptsOf_psJ _ _, fun x hx => ?_, regsOf_psJ _ _, z2⟩
    obtain ⟨i, _, rfl⟩ := List.mem_map.1 hx
    refine ⟨?_, ?_⟩
    · unfold quAt i64w wrap64
      exact ⟨⟨by dsimp only; omega, by dsimp only; omega⟩, by dsimp only; omega, by dsimp only; omega⟩
    · unfold quAt
      dsimp only
      exact le8 (((hby.drop _).drop _).drop _ |>.take _) (by unfold eight; rw [List.length_take]; omega)
  · rw [if_neg hc] at hd
    exact absurd (congrArg Prod.snd hd) hc
set_option maxRecDepth 100000 in
set_option maxHeartbeats 1000000 in
/-- the deferred function: an error other than zero becomes the response -/
theorem deferred_any (eb ob : Nat) (er : Int) (v : Value) (w : World) (hE : Blk w eb 34 #[.int .i64 er]) (hO : Blk w ob 44 #[v]) (h0 : 0 ≤ er) (h1 : er ≤ 255) (u : FrameMode) :
    CallsD Tryz.prog 67 #[.pointer (some ⟨eb, 0, none⟩), .pointer (some ⟨ob, 0, none⟩)] u w fun e u' w' => u' = u ∧ e = .returned (.tuple #[]) ∧
      (er = 0 ∧ w' = w ∨ er ≠ 0 ∧ w' = (w.alloc (.cells #[.int .u8 er] 5)).setCell ⟨ob, 0, none⟩ (.slice (some ⟨w.heap.size, 0, none⟩) 1 1)) := by
  have e0 := hE.cell (i := 0) rfl
  have o0 := (hO.alloc (.cells #[.int .u8 er] 5)).cell (i := 0) rfl
  have f0 := (hO.alloc (.cells #[.int .u8 er] 5)).frozen 0
  have hw8 : IntKind.u8.wrap er = er := by rw [IntKind.wrap_u8]; omega
  by_cases he : er = 0
  · subst he
    refine (callsD_of_wp (R := fun e w' => e = .returned (.tuple #[]) ∧ w' = w) Tryz.func67 rfl ?_).mono ?_
    · simp only [Tryz.ntmps67, List.size_toArray, List.length_cons, List.length_nil, Nat.reduceAdd, Nat.reduceSub, Array.replicate_succ, Array.replicate_zero, List.push_toArray, List.append_toArray, List.nil_append, List.cons_append]
      go_wp2
      go_end0
      exact ⟨rfl, rfl⟩
    · rintro e u' w' ⟨rfl, rfl, rfl⟩
      exact ⟨rfl, rfl, .inl ⟨rfl, rfl⟩⟩
  · refine (callsD_of_wp (R := fun e w' => e = .returned (.tuple #[]) ∧ w' = (w.alloc (.cells #[.int .u8 er] 5)).setCell ⟨ob, 0, none⟩ (.slice (some ⟨w.heap.size, 0, none⟩) 1 1)) Tryz.func67 rfl ?_).mono ?_
    · simp only [Tryz.ntmps67, List.size_toArray, List.length_cons, List.length_nil, Nat.reduceAdd, Nat.reduceSub, Array.replicate_succ, Array.replicate_zero, List.push_toArray, List.append_toArray, List.nil_append, List.cons_append]
      have e1 := (hE.alloc (.cells #[.int .u8 er] 5)).cell (i := 0) rfl
      go_wp2
      go_end0
      exact ⟨rfl, rfl⟩
    · rintro e u' w' ⟨rfl, rfl, rfl⟩
      exact ⟨rfl, rfl, .inr ⟨he, rfl⟩⟩
def ErOk (r : PH × Int × Int) : Prop := 0 ≤ r.2.2 ∧ r.2.2 ≤ 8
theorem hclass_bd (bs : List Int) : 0 ≤ hclass bs ∧ hclass bs ≤ 8 := by
  have h : ErOk (hparse bs) := by
    unfold hparse
    repeat' (refine ite_ok (fun _ => ?_) (fun _ => ?_))
    all_goals exact ⟨by dsimp only; omega, by dsimp only; omega⟩
  unfold hclass
  unfold ErOk at h
  split
  · split <;> omega
  · exact h
/-- the response, and what is left as it was -/
def Served (t : Option (Nat × Nat)) (bs : List Int) (w : World) (e : Ending) (w' : World) : Prop :=
  ∃ A c, e = .returned (.slice A (hserve bs).length c) ∧ (hserve bs).length ≤ c ∧ KeepP (NT t w.heap.size) w w' ∧ Tp w' (NT t w.heap.size) t (serveEv bs) ∧ Sl w' w'.heap.size A (byCells (hserve bs))
set_option maxRecDepth 100000 in
set_option maxHeartbeats 4000000 in
theorem traced_any (t : Option (Nat × Nat)) (bs : List Int) (A : Option Addr) (c : Nat) (w : World) (hs : Sl w w.heap.size A (byCells bs)) (hcap : bs.length ≤ c) (hby : By bs) (hmax : bs.length ≤ 300000) (hfix : Fixed w) (hg : 0 < w.heap.size) (hw : MW w) (hf : FreshT w t)
    (hl : t = none ∨ 4161 * (hdecode bs).1.qs.length + (netw (lg (hdecode bs).1.qs.length)).length ≤ 600000) :
    Calls Tryz.prog 23 #[.pointer (tapeA t), .slice A bs.length c] w (Served t bs w) := by
  obtain ⟨ob, hob⟩ : ∃ ob, ob = w.heap.size := ⟨_, rfl⟩
  obtain ⟨w0, hw0⟩ : ∃ w0, w0 = (w.alloc (.cells #[.slice none 0 0] 44)).alloc (.cells #[.int .i64 0] 34) := ⟨_, rfl⟩
  have hb0 : Below w.heap.size w w0 := by rw [hw0]; exact bl_alloc (bl_alloc (Below.refl _ _) _) _
  have O0 : Blk w0 ob 44 #[.slice none 0 0] := by rw [hw0, hob]; exact (Blk.new _ _ _).alloc _
  have E0 : Blk w0 (ob + 1) 34 #[.int .i64 0] := by rw [hw0, hob]; exact Blk.new2 _ _ _ _
  have HD := hide (decode_any bs A c w0 ((hs.below hb0).more hb0.size) hcap hby hmax (hfix.below hb0 hg) (Nat.lt_of_lt_of_le hg hb0.size))
  have hmf : ∀ (fn : Fn) (first cap : Array Value) (w : World), (Instr.makeFunc fn first cap).run Tryz.prog w = .ok (.func fn first cap) w := fun _ _ _ _ => rfl
  have HNOB : Hid (∀ n, ob + 1 < n → NT t n ob ∧ NT t n (ob + 1)) := fun n hn => by
    refine ⟨⟨by omega, ?_⟩, by omega, ?_⟩
    · rintro u rfl
      have h1 := hf.1.lt
      have h2 := hf.2.lt
      exact ⟨by omega, by omega⟩
    · rintro u rfl
      have h1 := hf.1.lt
      have h2 := hf.2.lt
      exact ⟨by omega, by omega⟩
  have HNN : Hid (¬ NT t w.heap.size ob ∧ ¬ NT t w.heap.size (ob + 1)) := ⟨fun h => by have := h.1; omega, fun h => by have := h.1; omega⟩
  have HF := hide hf; have HW := hide hw; have HB0 := hide hb0; have HO0 := hide O0; have HE0 := hide E0; have HL := hide hl
  have hcb := hclass_bd bs
  have HFG := hide hg; have HFX := hide hfix
  clear hfix hg hf hw hb0 O0 E0 hl hs hcap
  by_cases hc : hclass bs = 0
  · obtain ⟨q, hq⟩ : ∃ q, hdecode bs = (q, 0) := ⟨_, by unfold hdecode; rw [if_pos hc]⟩
    obtain ⟨dj1, dj2, dj3, dj4⟩ := dec_small hby hq
    obtain ⟨z1, z2, z3, z4, z5, z6, z7, z8, _⟩ := hcheck_zero dj4
    have hqrl : q.h.rs.length ≤ 64 := by
      by_cases h4 : 4 ≤ q.h.op
      · exact (z5 h4).2.1
      · rw [z6 (by omega)]; simp
    have hsv : hserve bs = ansBytes q.h.op (qAns q).val (qAns q).cnt (qAns q).recs := by unfold hserve; rw [hq, if_neg (by simp)]
    have hse : serveEv bs = qEv q := by unfold serveEv; rw [hq, if_neg (by simp)]
    have HSD : Hid (∀ e w', (∃ A c, e = .returned (.slice A (ansBytes q.h.op (qAns q).val (qAns q).cnt (qAns q).recs).length c) ∧ (ansBytes q.h.op (qAns q).val (qAns q).cnt (qAns q).recs).length ≤ c ∧ KeepP (NT t w.heap.size) w w' ∧ Tp w' (NT t w.heap.size) t (qEv q) ∧ Sl w' w'.heap.size A (byCells (ansBytes q.h.op (qAns q).val (qAns q).cnt (qAns q).recs))) → Served t bs w e w') := fun e w' h => by
      unfold Served
      rw [hsv, hse]
      exact h
    have HOK : Hid (∀ hrs gs, hrs.map Rg.key = q.h.rs.map Rg.key → gs.map gdOf = q.gs → (∀ g ∈ gs, g.1.n = g.2.length) → hhandle q.h.op q.h.vs hrs q.h.pts gs q.ps q.qs = (qAns q, 0) ∧ handleEv q.h.op q.h.vs hrs q.h.pts gs q.ps q.qs = qEv q ∧ isAns q.h.op q.h.pts (qAns q).val (qAns q).cnt (qAns q).recs = true ∧ hcheck q.h.op q.h.vs hrs q.h.pts = 0) :=
      fun hrs gs hk hgd hn => handle_ok (by rw [dec_enc hby hq hk hgd hn]) hn (fun x hx => (dj2 x hx).2) rfl hgd.symm rfl rfl
    rw [hq] at HD HL
    have HDJ := hide (And.intro dj1 (And.intro dj2 dj3))
    have HQL := hide hqrl
    have HPT := hide (And.intro z7 z8)
    clear hq hsv hse hby hmax hc hcb dj1 dj2 dj3 dj4 z1 z2 z3 z4 z5 z6 z7 z8 hqrl
    obtain ⟨⟨op, vs, rs0, pts⟩, gds, ps, qs⟩ := q
    dsimp only at *
    go_enter_defers Tryz.func23, Tryz.ntmps23
    go_wp2_with fail
    rw [← hw0, ← hob]
    have HW0 := hide hw0; have HOB := hide hob
    clear hw0 hob
    refine HD.out.mono ?_
    rintro e w1 ⟨hrs, HA, hc2, gs, GA, gc, PA, pc, QA, qc, rfl, hb1, hr1, hcap1⟩
    unfold rqVal
    dsimp only
    obtain ⟨hh, hkey, hgg, hgk, hgd, hpp, hqq⟩ := hr1
    dsimp only at hkey hgd hpp hqq hcap1
    have hn : ∀ g ∈ gs, g.1.n = g.2.length := fun g hg => (hgk g hg).1
    obtain ⟨k1, k2, k3, k4⟩ := HOK.out hrs gs hkey hgd hn
    have hhl : hrs.length ≤ 64 := by have := congrArg List.length hkey; simp at this; have := HQL.out; omega
    have E1 := HE0.out.step hb1
    have O1 := HO0.out.step hb1
    have hB1 := bl_step HB0.out hb1
    have hf1 := HF.out.step hB1
    obtain ⟨rb, hrb⟩ : ∃ rb, rb = w1.heap.size := ⟨_, rfl⟩
    obtain ⟨W3, hW3⟩ : ∃ W3, W3 = (w1.setCell ⟨ob + 1, 0, none⟩ (.int .i64 0)).alloc (.cells #[.int .i64 op, .int .i64 vs, .slice HA hrs.length hc2, .int .i64 pts, .slice GA gs.length gc, .slice PA ps.length pc, .slice QA qs.length qc] 37) := ⟨_, rfl⟩
    have e1 : w1.cell? ⟨ob + 1, 0, none⟩ = some (.int .i64 0) := E1.cell (i := 0) rfl
    have fe1 := E1.frozen 0
    have hl1 : ob + 1 < w1.heap.size := E1.lt
    have hl0 : ob < w1.heap.size := O1.lt
    have hro : w.heap.size ≤ ob := by rw [HOB.out]; exact Nat.le_refl _
    have hB3 : Below w.heap.size w W3 := by rw [hW3]; exact bl_alloc (hB1.setCell (p := ⟨ob + 1, 0, none⟩) (by dsimp only; omega) _) _
    have hz3 : W3.heap.size = rb + 1 := by rw [hW3, hrb]; simp
    have hsame : ∀ b o, b < w1.heap.size → W3.cell? ⟨b, o, none⟩ = w1.cell? ⟨b, o, none⟩ := fun b o hb => by
      rw [hW3, World.cell?_alloc_lt _ _ _ (by simpa using hb), cell_same e1]
    have hslS : ∀ {A : Option Addr} {xs : List Value}, Sl w1 w1.heap.size A xs → Sl W3 w1.heap.size A xs := fun {A xs} h => by
      rcases h with h | ⟨b, off, hA, hb, hcc⟩
      · exact .inl h
      · exact .inr ⟨b, off, hA, hb, fun j u hu => (hsame b _ hb).trans (hcc j u hu)⟩
    have hf3 := HF.out.step hB3
    have Q3 : Blk W3 rb 37 #[.int .i64 op, .int .i64 vs, .slice HA hrs.length hc2, .int .i64 pts, .slice GA gs.length gc, .slice PA ps.length pc, .slice QA qs.length qc] := by
      have h := Blk.new (w1.setCell ⟨ob + 1, 0, none⟩ (.int .i64 0)) 37 #[.int .i64 op, .int .i64 vs, .slice HA hrs.length hc2, .int .i64 pts, .slice GA gs.length gc, .slice PA ps.length pc, .slice QA qs.length qc]
      rw [World.size_setCell, ← hrb, ← hW3] at h
      exact h
    have E3 : Blk W3 (ob + 1) 34 #[.int .i64 0] := by rw [hW3]; exact (E1.set 0 (.int .i64 0)).alloc _
    have O3 : Blk W3 ob 44 #[.slice none 0 0] := by rw [hW3]; exact (O1.far (p := ⟨ob + 1, 0, none⟩) (by dsimp only; omega) _).alloc _
    have hntw : ∀ k, NT t w.heap.size k → NT t W3.heap.size k := fun k hk => ⟨Nat.lt_of_lt_of_le hk.1 hB3.size, hk.2⟩
    have hnt3 : ∀ k, NT t W3.heap.size k → k < W3.heap.size := fun k hk => hk.1
    have hmem := HNOB.out W3.heap.size (by rw [hz3]; omega)
    have hrbm : NT t W3.heap.size rb := ⟨by omega, by
      rintro u rfl
      have h1 := HF.out.1.lt
      have h2 := HF.out.2.lt
      exact ⟨by omega, by omega⟩⟩
    have hw3 := HW.out.step hB3
    have hwm : NT t W3.heap.size 1 := hf3.off hw3.1.1 ⟨fun _ _ _ h => (by cases h), fun _ h => (by cases h)⟩
    have hreq : ReqP W3 (NT t W3.heap.size) hrs HA gs GA ps PA pc qs QA :=
      ⟨hf3.slP (hslS hh) (rg_head _), by unfold maxLen; omega, hf3.slP (hslS hgg) (rg_head _), fun g hg => ⟨hn g hg, hf3.slP (hslS (hgk g hg).2) (pt_head _), HDJ.out.2.2 (gdOf g) (by rw [← hgd]; exact List.mem_map_of_mem hg)⟩, hf3.slP (hslS hpp) (pt_head _), HDJ.out.1, hcap1, hf3.slP (hslS hqq) (qu_head _), fun x hx => (HDJ.out.2.1 x hx).1, fun x hx => (HDJ.out.2.1 x hx).2⟩
    have HHD0 := handle_any (NT t W3.heap.size) t [] op vs pts hrs HA hc2 gs GA gc ps PA pc qs QA qc W3 hnt3 hwm hw3 (hf3.tp fun k hk => hk.2) (by rcases HL.out with h | h; exact .inl h; exact .inr (by simp only [List.length_nil]; omega)) hreq
    rw [k1, k2, List.nil_append] at HHD0
    have HHD := hide HHD0
    have HHS : Hid (SlP W3 (NT t W3.heap.size) HA (rgCells hrs)) := hreq.hh
    obtain ⟨⟨val, cnt, recs⟩, hqa⟩ : ∃ a, a = qAns ⟨⟨op, vs, rs0, pts⟩, gds, ps, qs⟩ := ⟨_, rfl⟩
    rw [← hqa] at k3 HHD HSD
    dsimp only at k3
    have hp0 : 0 ≤ pts := by
      by_cases h5 : op = 5
      · have := HPT.out.1 h5; omega
      · have := HPT.out.2 h5; omega
    have hp1 : pts ≤ 4096 := by
      by_cases h5 : op = 5
      · have := HPT.out.1 h5; omega
      · have := HPT.out.2 h5; omega
    have hia := isAns_true k3 hp0
    have hresp : hrespond op vs hrs pts val cnt recs = (ansBytes op val cnt recs, 0) := by unfold hrespond; rw [if_neg (by simpa using k4), if_neg (by simp [k3])]
    have HRL : Hid (recs.length ≤ maxLen) := by unfold maxLen; exact (by omega : recs.length ≤ 9223372036854775807)
    have HRSP := hide hresp
    obtain ⟨EV, hEV⟩ : ∃ EV, EV = qEv ⟨⟨op, vs, rs0, pts⟩, gds, ps, qs⟩ := ⟨_, rfl⟩
    rw [← hEV] at HHD HSD
    obtain ⟨RB, hRB⟩ : ∃ RB, RB = ansBytes op val cnt recs := ⟨_, rfl⟩
    rw [← hRB] at HSD HRSP
    have c0 := Q3.cell (i := 0) rfl
    have HW3 := hide hW3; have HRB := hide hrb; have HQ3 := hide Q3; have HE3 := hide E3; have HO3 := hide O3; have HB3 := hide hB3; have HNTW := hide hntw; have HMEM := hide hmem; have HRBM := hide hrbm; have HNT3 := hide hnt3; have HHL := hide hhl; have HZ3 := hide hz3
    clear hqa hEV hRB hresp hia k1 k2 k3 k4 HHD0 hreq hwm hw3 hrbm hmem hnt3 hntw hf3 hslS hsame hB1 hf1 hb1 hh hkey hgg hgk hgd hpp hqq hn E1 O1 E3 O3 hB3 hz3 hcap1 HOK HD HDJ
    go_wp2_with fail
    have hrbs := HRB.out
    subst hrbs
    rw [← HW3.out]
    refine HHD.out.mono ?_
    rintro e w4 ⟨RA, rc, rfl, hk4, ht4, hs4⟩
    dsimp only at hs4
    have E4 := HE3.out.kept hk4 HMEM.out.2
    have O4 := HO3.out.kept hk4 HMEM.out.1
    have Q4 := HQ3.out.kept hk4 HRBM.out
    have e4 : w4.cell? ⟨ob + 1, 0, none⟩ = some (.int .i64 0) := E4.cell (i := 0) rfl
    have fe4 := E4.frozen 0
    have q0 := Q4.cell (i := 0) rfl
    have q1 := Q4.cell (i := 1) rfl
    have q2 := Q4.cell (i := 2) rfl
    have q3 := Q4.cell (i := 3) rfl
    have hl4 : ob + 1 < w4.heap.size := E4.lt
    have hl4o : ob < w4.heap.size := O4.lt
    have hl4r : w1.heap.size < w4.heap.size := Q4.lt
    obtain ⟨W5, hW5⟩ : ∃ W5, W5 = (w4.setCell ⟨ob + 1, 0, none⟩ (.int .i64 0)).alloc (.cells #[.int .i64 val, .int .i64 cnt, .slice RA recs.length rc] 33) := ⟨_, rfl⟩
    have hsame4 : ∀ b o, b < w4.heap.size → W5.cell? ⟨b, o, none⟩ = w4.cell? ⟨b, o, none⟩ := fun b o hb => by
      rw [hW5, World.cell?_alloc_lt _ _ _ (by simpa using hb), cell_same e4]
    have hz5 : W5.heap.size = w4.heap.size + 1 := by rw [hW5]; simp
    have hslR : Sl W5 W5.heap.size RA (recCs recs) := by
      rcases hs4 with h | ⟨b, off, hA, hb, hcc⟩
      · exact .inl h
      · exact .inr ⟨b, off, hA, by omega, fun j u hu => (hsame4 b _ hb).trans (hcc j u hu)⟩
    have hslH : Sl W5 W5.heap.size HA (rgCells hrs) := by
      have h4 := (HHS.out.kept hk4).sl (fun k hk => Nat.lt_of_lt_of_le (HNT3.out k hk) hk4.size)
      rcases h4 with h | ⟨b, off, hA, hb, hcc⟩
      · exact .inl h
      · exact .inr ⟨b, off, hA, by omega, fun j u hu => (hsame4 b _ hb).trans (hcc j u hu)⟩
    have E5 : Blk W5 (ob + 1) 34 #[.int .i64 0] := by rw [hW5]; exact (E4.set 0 (.int .i64 0)).alloc _
    have O5 : Blk W5 ob 44 #[.slice none 0 0] := by rw [hW5]; exact (O4.far (p := ⟨ob + 1, 0, none⟩) (by dsimp only; omega) _).alloc _
    have hnE : ¬ NT t w.heap.size (ob + 1) := HNN.out.2
    have hnO : ¬ NT t w.heap.size ob := HNN.out.1
    have hP4 : ∀ k, NT t w.heap.size k → k < w4.heap.size := fun k hk => Nat.lt_of_lt_of_le (HNT3.out k (HNTW.out k hk)) hk4.size
    have hk5 : KeepP (NT t w.heap.size) w W5 := by
      rw [hW5]
      refine ((KeepP.of_below HB3.out fun k hk => hk.1).trans ((hk4.mono HNTW.out).trans (KeepP.setCell hnE _ _ _))).trans (KeepP.of_below (bl_alloc (Below.refl _ _) _) fun k hk => by simpa using hP4 k hk)
    have ht5 : Tp W5 (NT t W3.heap.size) t EV := by rw [hW5]; exact (ht4.set HMEM.out.2 _ _).step (bl_alloc (Below.refl _ _) _)
    have HRS0 := respond_any op vs pts hrs HA hc2 val cnt recs RA rc W5 hslH (by unfold maxLen; have := HHL.out; omega) hslR HRL.out
    rw [HRSP.out] at HRS0
    have HRS := hide HRS0
    have HW5 := hide hW5; have HE5 := hide E5; have HO5 := hide O5; have HK5 := hide hk5; have HT5 := hide ht5; have HZ5 := hide hz5
    clear E4 O4 Q4 hk4 ht4 hs4 hsame4 hslR hslH E5 O5 hnE hnO hP4 hk5 ht5 HRS0 hz5 e1 fe1 c0 HHD
    go_wp2_with fail
    rw [← HW5.out]
    refine HRS.out.mono ?_
    rintro e w6 ⟨v, rfl, hv6, hb6⟩
    obtain ⟨VA, vcap, rfl, hvc⟩ := own_slice hv6
    dsimp only at hvc
    have E6 := HE5.out.step hb6
    have O6 := HO5.out.step hb6
    have e6 : w6.cell? ⟨ob + 1, 0, none⟩ = some (.int .i64 0) := E6.cell (i := 0) rfl
    have fe6 := E6.frozen 0
    have o6 := O6.cell (i := 0) rfl
    have fo6 := O6.frozen 0
    have hsl6 := Sl.of_own hv6
    have hvob : byCells RB ≠ [] → ∀ x, VA = some x → x.block ≠ ob ∧ x.block ≠ ob + 1 := fun _ x hx => by
      subst hx
      have h := own_base hv6 (k := x.block) (by rcases hv6.2 with ⟨h, _⟩ | ⟨g', cap, cur, h, _⟩ <;> cases h; rfl)
      have := HZ5.out
      exact ⟨by omega, by omega⟩
    have HE6 := hide E6; have HO6 := hide O6; have HB6 := hide hb6; have HSL6 := hide hsl6; have HVC := hide hvc; have HVOB := hide hvob
    clear E6 O6 hb6 hsl6 hv6 hvc hvob q0 q1 q2 q3 e4 fe4 HRS
    go_wp2
    obtain ⟨W7, hW7⟩ : ∃ W7, W7 = (((w6.setCell ⟨ob, 0, none⟩ (.slice VA RB.length vcap)).setCell ⟨ob + 1, 0, none⟩ (.int .i64 0)).setCell ⟨ob, 0, none⟩ (.slice VA RB.length vcap)) := ⟨_, rfl⟩
    rw [← hW7]
    have E7 : Blk W7 (ob + 1) 34 #[.int .i64 0] := by
      rw [hW7]
      exact (((HE6.out.far (p := ⟨ob, 0, none⟩) (by dsimp only; omega) _).set 0 (.int .i64 0)).far (p := ⟨ob, 0, none⟩) (by dsimp only; omega) _)
    have O7 : Blk W7 ob 44 #[.slice VA RB.length vcap] := by
      rw [hW7]
      exact ((HO6.out.set 0 (.slice VA RB.length vcap)).far (p := ⟨ob + 1, 0, none⟩) (by dsimp only; omega) _).set 0 (.slice VA RB.length vcap)
    refine leaves_cons (f := 67) (args := #[.pointer (some ⟨ob + 1, 0, none⟩), .pointer (some ⟨ob, 0, none⟩)]) (by simp) (by simp [go_sem, invoke]) ?_
    refine (deferred_any (ob + 1) ob 0 _ W7 E7 O7 (by omega) (by omega) .returning).mono ?_
    rintro e u' w' ⟨rfl, rfl, h⟩
    rcases h with ⟨_, rfl⟩ | ⟨h, _⟩
    · have o7 := O7.cell (i := 0) rfl
      have hk6 : ∀ k, NT t w.heap.size k → k < W5.heap.size := fun k hk => Nat.lt_of_lt_of_le hk.1 HK5.out.size
      refine ⟨.slice VA RB.length vcap, by simp [results, Tryz.results23, go_sem, o7], ?_⟩
      refine HSD.out _ _ ⟨VA, vcap, rfl, HVC.out, ?_, ?_, ?_⟩
      · rw [hW7]
        exact (HK5.out.trans (KeepP.of_below HB6.out hk6)).trans ((KeepP.setCell HNN.out.1 _ _ _).trans ((KeepP.setCell HNN.out.2 _ _ _).trans (KeepP.setCell HNN.out.1 _ _ _)))
      · rw [hW7]
        exact ((((HT5.out.step HB6.out).set HMEM.out.1 _ _).set HMEM.out.2 _ _).set HMEM.out.1 _ _).mono HNTW.out
      · rw [hW7]
        exact (((HSL6.out.set_farP (fun h x hx => (HVOB.out h x hx).1) _).set_farP (fun h x hx => (HVOB.out h x hx).2) _).set_farP (fun h x hx => (HVOB.out h x hx).1) _)
    · exact absurd rfl h
  · have hd : hdecode bs = (rqZero, hclass bs) := by unfold hdecode; rw [if_neg hc]
    have hsv : hserve bs = [hclass bs] := by unfold hserve; rw [hd, if_pos hc]
    have hse : serveEv bs = [] := by unfold serveEv; rw [hd, if_pos hc]
    have HSD : Hid (∀ e w', (∃ A c, e = .returned (.slice A 1 c) ∧ 1 ≤ c ∧ KeepP (NT t w.heap.size) w w' ∧ Tp w' (NT t w.heap.size) t [] ∧ Sl w' w'.heap.size A (byCells [hclass bs])) → Served t bs w e w') := fun e w' h => by
      unfold Served
      rw [hsv, hse]
      exact h
    rw [hd] at HD
    obtain ⟨er, her⟩ : ∃ er, er = hclass bs := ⟨_, rfl⟩
    rw [← her] at hc hcb HSD HD
    clear hd hsv hse her hby hmax
    go_enter_defers Tryz.func23, Tryz.ntmps23
    go_wp2_with fail
    rw [← hw0, ← hob]
    have HW0 := hide hw0; have HOB := hide hob
    clear hw0 hob
    refine HD.out.mono ?_
    rintro e w1 ⟨hrs, HA, hc2, gs, GA, gc, PA, pc, QA, qc, rfl, hb1, hr1, _⟩
    unfold rqVal
    dsimp only
    have E1 := HE0.out.step hb1
    have O1 := HO0.out.step hb1
    have e1 := E1.cell (i := 0) rfl
    have fe1 := E1.frozen 0
    have o1 := O1.cell (i := 0) rfl
    have fo1 := O1.frozen 0
    have hB1 := hide (bl_step HB0.out hb1)
    have HE1 := hide E1; have HO1 := hide O1
    have hl1 : ob + 1 < w1.heap.size := E1.lt
    have hl0 : ob < w1.heap.size := O1.lt
    clear hb1 hr1 E1 O1 HD
    go_wp2
    obtain ⟨W5, hW5⟩ : ∃ W5, W5 = (((w1.setCell ⟨ob + 1, 0, none⟩ (.int .i64 er)).setCell ⟨ob, 0, none⟩ (.slice none 0 0)).alloc (.cells #[.int .i64 rqZero.h.op, .int .i64 rqZero.h.vs, .slice HA hrs.length hc2, .int .i64 rqZero.h.pts, .slice GA gs.length gc, .slice PA rqZero.ps.length pc, .slice QA rqZero.qs.length qc] 37)) := ⟨_, rfl⟩
    rw [← hW5]
    have E5 : Blk W5 (ob + 1) 34 #[.int .i64 er] := by
      rw [hW5]
      exact ((HE1.out.set 0 (.int .i64 er)).far (p := ⟨ob, 0, none⟩) (by dsimp only; omega) _).alloc _
    have O5 : Blk W5 ob 44 #[.slice none 0 0] := by
      rw [hW5]
      exact ((HO1.out.far (p := ⟨ob + 1, 0, none⟩) (by dsimp only; omega) _).set 0 (.slice none 0 0)).alloc _
    have hB5 : Below w.heap.size w W5 := by
      rw [hW5]
      have hr : w.heap.size ≤ ob := by rw [HOB.out]; exact Nat.le_refl _
      exact bl_alloc ((hB1.out.setCell (p := ⟨ob + 1, 0, none⟩) (by dsimp only; omega) _).setCell (p := ⟨ob, 0, none⟩) hr _) _
    refine leaves_cons (f := 67) (args := #[.pointer (some ⟨ob + 1, 0, none⟩), .pointer (some ⟨ob, 0, none⟩)]) (by simp) (by simp [go_sem, invoke]) ?_
    refine (deferred_any (ob + 1) ob er _ W5 E5 O5 hcb.1 (by omega) .returning).mono ?_
    rintro e u' w' ⟨rfl, rfl, h⟩
    rcases h with ⟨h, _⟩ | ⟨_, rfl⟩
    · exact absurd h hc
    have O6 := (O5.alloc (.cells #[.int .u8 er] 5)).set 0 (.slice (some ⟨W5.heap.size, 0, none⟩) 1 1)
    have o6 := O6.cell (i := 0) rfl
    have hob5 := O5.lt
    have hr : w.heap.size ≤ ob := by rw [HOB.out]; exact Nat.le_refl _
    have hB6 := (bl_alloc hB5 (.cells #[.int .u8 er] 5)).setCell (p := ⟨ob, 0, none⟩) hr (.slice (some ⟨W5.heap.size, 0, none⟩) 1 1)
    refine ⟨.slice (some ⟨W5.heap.size, 0, none⟩) 1 1, by simp [results, Tryz.results23, go_sem, o6], ?_⟩
    have hnt : ∀ k, NT t w.heap.size k → k < w.heap.size := fun k hk => hk.1
    refine HSD.out _ _ ⟨some ⟨W5.heap.size, 0, none⟩, 1, rfl, Nat.le_refl _, KeepP.of_below hB6 hnt, (HF.out.tp fun k hk => hk.2).step hB6, ?_⟩
    refine (Sl.set_far (sl_of_cells (Blk.new W5 5 #[.int .u8 er]) fun j u hu => ?_) (by omega) _)
    rw [← hu]
    show ([.int .u8 er] : List Value).toArray[j]? = _
    rw [List.getElem?_toArray]
    rfl
/-- Serve is Traced without a tape -/
theorem serve_any (bs : List Int) (A : Option Addr) (c : Nat) (w : World) (hs : Sl w w.heap.size A (byCells bs)) (hcap : bs.length ≤ c) (hby : By bs) (hmax : bs.length ≤ 300000) (hfix : Fixed w) (hg : 0 < w.heap.size) (hw : MW w) :
    Calls Tryz.prog 20 #[.slice A bs.length c] w fun e w' => ∃ A' c', e = .returned (.slice A' (hserve bs).length c') ∧ (hserve bs).length ≤ c' ∧ Below w.heap.size w w' ∧ Sl w' w'.heap.size A' (byCells (hserve bs)) := by
  have H := hide (traced_any none bs A c w hs hcap hby hmax hfix hg hw trivial (.inl rfl))
  clear hs hcap hby hmax hfix hg hw
  go_enter Tryz.func20, Tryz.ntmps20
  go_wp2_with fail
  refine H.out.mono ?_
  rintro e w1 ⟨A', c', rfl, hc, hk, _, hs1⟩
  go_wp2
  go_ret
  exact ⟨A', c', rfl, hc, ⟨hk.os, hk.tape, hk.output, hk.size, fun k hb => hk.block k ⟨hb, fun u hu => by cases hu⟩⟩, hs1⟩
end Go.Proofs.YtpnoofphfomjoaaGreatDoor
