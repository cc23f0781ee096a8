/- DecFacts -/
import Derived.Test.YtpnoofphfomjoaaGreatDoorPkE11
import Derived.Test.YtpnoofphfomjoaaGreatDoorPkE15
import Derived.Test.YtpnoofphfomjoaaGreatDoorPkE32
import Derived.Test.YtpnoofphfomjoaaGreatDoorPkE47
namespace Go.Proofs.YtpnoofphfomjoaaGreatDoor
open Go.RowKit
/-- a region as data -/
abbrev Gd := Bool × Int × List (Int × Int)
def sizeN (v : Int) : Nat := (sizeOfReg v).toNat
def nSum (rs : List Rg) : Nat := (rs.map fun r => sizeN r.v).sum
theorem sizeN_le (v : Int) : sizeN v ≤ 64 := by have := sizeOfReg_bd v; unfold sizeN; omega
theorem sizeN_cast (v : Int) : ((sizeN v : Nat) : Int) = sizeOfReg v := by have := sizeOfReg_bd v; unfold sizeN; omega
theorem nSum_cast (rs : List Rg) : ((nSum rs : Nat) : Int) = sumSize rs := by
  induction rs with
  | nil => rfl
  | cons r rs ih =>
    have := sizeN_cast r.v
    simp only [nSum, sumSize, List.map_cons, List.sum_cons] at *
    omega
theorem nSum_snoc (rs : List Rg) (k : Nat) (r : Rg) (h : rs[k]? = some r) : nSum (rs.take (k + 1)) = nSum (rs.take k) + sizeN r.v := by
  rw [List.take_add_one, h]; simp [nSum]
theorem nSum_take_le (rs : List Rg) (k : Nat) : nSum (rs.take k) ≤ nSum rs := by
  have h : nSum rs = nSum (rs.take k) + nSum (rs.drop k) := by
    conv => lhs; rw [← List.take_append_drop k rs]
    simp only [nSum, List.map_append, List.sum_append]
  omega
/-- the regions of a request, out of the header's regions and the payload -/
def regsOf : List Rg → List Int → List Gd
  | [], _ => []
  | r :: rs, bs => (r.d, r.v, ptsOf bs (sizeN r.v)) :: regsOf rs (bs.drop (16 * sizeN r.v))
theorem regsOf_snoc : ∀ (rs : List Rg) (bs : List Int) (k : Nat) (r : Rg), rs[k]? = some r →
    regsOf (rs.take (k + 1)) bs = regsOf (rs.take k) bs ++ [(r.d, r.v, ptsOf (bs.drop (16 * nSum (rs.take k))) (sizeN r.v))]
  | [], _, _, _, h => by simp at h
  | q :: rs, bs, 0, r, h => by
    have : q = r := by simpa using h
    subst this
    simp [regsOf, nSum]
  | q :: rs, bs, k + 1, r, h => by
    have ih := regsOf_snoc rs (bs.drop (16 * sizeN q.v)) k r (by simpa using h)
    rw [List.take_succ_cons, List.take_succ_cons, regsOf, regsOf, ih, List.drop_drop]
    have : 16 * sizeN q.v + 16 * nSum (rs.take k) = 16 * nSum (q :: rs.take k) := by simp [nSum]; omega
    rw [this]; rfl
/-- a request as data -/
structure Rq where
  h : PH
  gs : List Gd
  ps : List (Int × Int)
  qs : List ((Int × Int) × Int)
def rqZero : Rq := ⟨phZero, [], [], []⟩
def rqOf (h : PH) (pl : List Int) : Rq :=
  ⟨h, regsOf h.rs pl, ptsOf (pl.drop (16 * nSum h.rs)) (cntP h.op h.vs).toNat, qusOf (pl.drop (16 * nSum h.rs)) (cntQ h.op h.pts).toNat⟩
def hdecode (bs : List Int) : Rq × Int :=
  if hclass bs = 0 then (rqOf (hparse bs).1 (bs.drop (hparse bs).2.1.toNat), 0) else (rqZero, hclass bs)
def gdOf (g : Gr) : Gd := (g.1.d, g.1.v, g.2)
/-- values that read as a request -/
structure ReadsRq (w : World) (B : Nat) (q : Rq) (hrs : List Rg) (HA : Option Addr) (gs : List Gr) (GA PA QA : Option Addr) : Prop where
  hh : Sl w B HA (rgCells hrs)
  hk : hrs.map Rg.key = q.h.rs.map Rg.key
  hg : Sl w B GA (rgCells (gs.map (·.1)))
  gk : GsOk w B gs
  gd : gs.map gdOf = q.gs
  hp : Sl w B PA (ptCs q.ps)
  hq : Sl w B QA (quCs q.qs)
def rqVal (q : Rq) (hrs : List Rg) (HA : Option Addr) (hc : Nat) (gs : List Gr) (GA : Option Addr) (gc : Nat) (PA : Option Addr) (pc : Nat) (QA : Option Addr) (qc : Nat) : Value :=
  .agg #[.int .i64 q.h.op, .int .i64 q.h.vs, .slice HA hrs.length hc, .int .i64 q.h.pts, .slice GA gs.length gc, .slice PA q.ps.length pc, .slice QA q.qs.length qc]
def Decoded (r : Rq × Int) (w : World) (e : Ending) (w' : World) : Prop :=
  ∃ hrs HA hc gs GA gc PA pc QA qc, e = .returned (.tuple #[rqVal r.1 hrs HA hc gs GA gc PA pc QA qc, .int .i64 r.2]) ∧ Below w.heap.size w w' ∧ ReadsRq w' w'.heap.size r.1 hrs HA gs GA PA QA ∧ r.1.ps.length ≤ pc
theorem ReadsRq.zero (w : World) (B : Nat) : ReadsRq w B rqZero [] none [] none none none :=
  ⟨.nil _ _ _, rfl, .nil _ _ _, fun g hg => by simp at hg, rfl, .nil _ _ _, .nil _ _ _⟩
theorem decoded_zero {w w' : World} {c : Int} (hb : Below w.heap.size w w') : Decoded (rqZero, c) w (.returned (.tuple #[.agg #[.int .i64 0, .int .i64 0, .slice none 0 0, .int .i64 0, .slice none 0 0, .slice none 0 0, .slice none 0 0], .int .i64 c])) w' :=
  ⟨[], none, 0, [], none, 0, none, 0, none, 0, rfl, hb, ReadsRq.zero _ _, Nat.le_refl _⟩
theorem ReadsRq.below {w w' : World} {B : Nat} {q : Rq} {hrs : List Rg} {HA : Option Addr} {gs : List Gr} {GA PA QA : Option Addr} (h : ReadsRq w B q hrs HA gs GA PA QA) (hb : Below B w w') : ReadsRq w' B q hrs HA gs GA PA QA :=
  ⟨h.hh.below hb, h.hk, h.hg.below hb, fun g hg => ⟨(h.gk g hg).1, (h.gk g hg).2.below hb⟩, h.gd, h.hp.below hb, h.hq.below hb⟩
theorem ReadsRq.more {w : World} {B B' : Nat} {q : Rq} {hrs : List Rg} {HA : Option Addr} {gs : List Gr} {GA PA QA : Option Addr} (h : ReadsRq w B q hrs HA gs GA PA QA) (hB : B ≤ B') : ReadsRq w B' q hrs HA gs GA PA QA :=
  ⟨h.hh.more hB, h.hk, h.hg.more hB, fun g hg => ⟨(h.gk g hg).1, (h.gk g hg).2.more hB⟩, h.gd, h.hp.more hB, h.hq.more hB⟩
end Go.Proofs.YtpnoofphfomjoaaGreatDoor
namespace Go.Proofs.YtpnoofphfomjoaaGreatDoor
open Go.RowKit
theorem dec_facts {bs : List Int} {h : PH} {n er : Int} (hp : hparse bs = (h, n, er)) (hc : hclass bs = 0) :
    er = 0 ∧ hcheck h.op h.vs h.rs h.pts = 0 ∧ 0 ≤ n ∧ n ≤ 68 ∧ 0 ≤ cntP h.op h.vs ∧ 0 ≤ cntQ h.op h.pts ∧ (cntP h.op h.vs = 0 ∨ cntQ h.op h.pts = 0) ∧ (1 ≤ cntP h.op h.vs ∨ 1 ≤ cntQ h.op h.pts) ∧ (bs.length : Int) = n + 16 * (nSum h.rs : Int) + 16 * cntP h.op h.vs + 24 * cntQ h.op h.pts := by
  have hn := hparse_n bs
  have ho := hparse_ok bs
  unfold hclass at hc
  rw [hp] at hc hn ho
  dsimp only at hc hn
  by_cases he : er = 0
  · rw [if_pos he] at hc
    have hk : hcheck h.op h.vs h.rs h.pts = 0 := ho he
    have hl : (bs.length : Int) = n + hpay h.op h.vs h.rs h.pts := by
      by_cases h1 : (bs.length : Int) = n + hpay h.op h.vs h.rs h.pts
      · exact h1
      · rw [if_neg h1] at hc; cases hc
    obtain ⟨h1, h2, h3, h4, h5, h6, h7, h8, _⟩ := hcheck_zero hk
    unfold hpay at hl
    rw [if_pos hk, ← nSum_cast] at hl
    refine ⟨he, hk, hn.1, hn.2, ?_, ?_, ?_, ?_, ?_⟩
    · unfold cntP; split <;> (try split) <;> (try split) <;> (try split) <;> omega
    · unfold cntQ; split
      · omega
      · have := h7 (by omega); omega
    · unfold cntP cntQ
      by_cases e5 : h.op = 5
      · left; rw [if_neg (by omega), if_neg (by omega), if_neg (by omega), if_neg (by omega)]
      · right; rw [if_pos (by omega)]
    · unfold cntP cntQ
      by_cases e5 : h.op = 5
      · right; rw [if_neg (by omega)]; have := h7 e5; omega
      · left; split <;> (try split) <;> (try split) <;> (try split) <;> omega
    · have e1 : cntP h.op h.vs = fixedOf h.op + h.vs := by
        unfold cntP fixedOf
        by_cases a1 : h.op = 1
        · have := h4 (by omega); rw [if_pos a1, if_pos a1]; omega
        · by_cases a2 : h.op = 2
          · have := h4 (by omega); rw [if_neg a1, if_pos a2, if_neg a1, if_pos a2]; omega
          · by_cases a3 : h.op = 3
            · rw [if_neg a1, if_neg a2, if_pos a3, if_neg a1, if_neg a2, if_neg (by omega)]; omega
            · have := h4 a3
              by_cases a4 : h.op = 4
              · rw [if_neg a1, if_neg a2, if_neg a3, if_pos a4, if_neg a1, if_neg a2, if_neg (by omega)]; omega
              · rw [if_neg a1, if_neg a2, if_neg a3, if_neg a4, if_neg a1, if_neg a2, if_pos (by omega)]; omega
      have e2 : cntQ h.op h.pts = h.pts := by
        unfold cntQ
        by_cases a : h.op = 1 ∨ h.op = 2 ∨ h.op = 3 ∨ h.op = 4
        · rw [if_pos a]; have := h8 (by omega); omega
        · rw [if_neg a]
      rw [e1, e2]; omega
  · rw [if_neg he] at hc; omega
/- moving facts along from world to world, by what is equal -/
section
variable {w w' wa : World} {B C g : Nat} {A : Option Addr} {xs : List Value} {P : Nat → Prop} {bs : List Int}
theorem RS.move (h : RS w P B g bs) (hb : ∀ b, b < B ∨ b = g → w'.heap[b]? = w.heap[b]?) : RS w' P B g bs := by
  obtain ⟨A, c, h1, h2, h3, h4⟩ := h
  exact ⟨A, c, (hb g (.inr rfl)).trans h1, h2, h3, h4.at_ fun b hlt _ _ _ _ => hb b (.inl hlt)⟩
theorem RS.chg {R : Nat → Prop} (h : RS w P B g bs) (hg : ¬ R g) : RS w R B g bs := by
  obtain ⟨A, c, h1, h2, h3, h4⟩ := h
  exact ⟨A, c, h1, hg, h3, h4⟩
/-- the regions that have been read so far: a row of the call's own, and rows of points -/
def QI (w : World) (C : Nat) (gs : List Gr) (v : Value) : Prop :=
  w.ownsRow C 87 3 v gs.length (rgCells (gs.map (·.1))) ∧ ∀ g ∈ gs, g.1.n = g.2.length ∧ Sl w w.heap.size g.1.A (ptCs g.2) ∧ (ptCs g.2 ≠ [] → ∀ x, g.1.A = some x → C ≤ x.block ∧ v.ownBlock ≠ some x.block)
theorem QI.nil (w : World) (C : Nat) : QI w C [] (.slice none 0 0) := ⟨World.ownsRow_nil _ _ _ _, fun g hg => by simp at hg⟩
theorem QI.move {gs : List Gr} {v : Value} (h : QI w C gs v) (hz : w.heap.size ≤ w'.heap.size) (hb : ∀ b, C ≤ b → b < w.heap.size → w'.heap[b]? = w.heap[b]?) : QI w' C gs v := by
  refine ⟨own_blk h.1 fun k hk => hb k (own_base h.1 hk) (own_lt h.1 hk), fun g hg => ?_⟩
  obtain ⟨h1, h2, h3⟩ := h.2 g hg
  refine ⟨h1, (h2.at_ fun b hlt hx x hA hxb => ?_).more hz, h3⟩
  subst hxb
  exact hb _ (h3 hx x hA).1 hlt
theorem QI.gsOk {gs : List Gr} {v : Value} (h : QI w C gs v) : GsOk w w.heap.size gs := fun g hg => ⟨(h.2 g hg).1, (h.2 g hg).2.1⟩
theorem qi_push {w7 wa w8 : World} {C g' cap n : Nat} {gs : List Gr} {gr : Gr} {v : Value} {xs : List Value} (hq : QI w7 C gs v) (hb : Below w7.heap.size w7 wa)
    (hown1 : w8.ownsRow C 87 3 (.slice (some ⟨g', 0, none⟩) n cap) n xs) (hn : n = (gs ++ [gr]).length) (hx : xs = rgCells ((gs ++ [gr]).map (·.1)))
    (hgrow : wa.grownBy w8 v.ownBlock) (hat : v.ownBlock = some g' ∨ g' = wa.heap.size)
    (hnew : gr.1.n = gr.2.length ∧ Sl w7 w7.heap.size gr.1.A (ptCs gr.2) ∧ (ptCs gr.2 ≠ [] → ∀ x, gr.1.A = some x → C ≤ x.block ∧ v.ownBlock ≠ some x.block)) :
    QI w8 C (gs ++ [gr]) (.slice (some ⟨g', 0, none⟩) n cap) := by
  subst hn hx
  refine ⟨hown1, fun g hg => ?_⟩
  have hg' : g.1.n = g.2.length ∧ Sl w7 w7.heap.size g.1.A (ptCs g.2) ∧ (ptCs g.2 ≠ [] → ∀ x, g.1.A = some x → C ≤ x.block ∧ v.ownBlock ≠ some x.block) := by
    rcases List.mem_append.1 hg with h | h
    · exact hq.2 g h
    · rw [List.mem_singleton.1 h]; exact hnew
  obtain ⟨h1, h2, h3⟩ := hg'
  refine ⟨h1, (h2.at_ fun b hlt hx x hA hxb => ?_).more (Nat.le_trans hb.size hgrow.size), fun hx x hA => ⟨(h3 hx x hA).1, ?_⟩⟩
  · subst hxb
    exact (hgrow.block _ (Nat.lt_of_lt_of_le hlt hb.size) (fun e => (h3 hx x hA).2 e.symm)).trans (hb.block _ hlt)
  · have := h2.blk_lt hx hA
    have := hb.size
    rcases hat with h | h
    · rw [show (Value.slice (some ⟨g', 0, none⟩) (gs ++ [gr]).length cap).ownBlock = some g' from rfl, ← h]; exact (h3 hx x hA).2
    · intro e
      have : g' = x.block := by simpa [Value.ownBlock] using e
      omega
/-- the blocks below C, but for two -/
def PD (C q g b : Nat) : Prop := b < C ∧ b ≠ q ∧ b ≠ g
end
/-- the struct of seven cells laid into its block -/
def set7 (w : World) (b : Nat) (u0 u1 u2 u3 u4 u5 u6 : Value) : World :=
  ((((((w.setCell ⟨b, 0, none⟩ u0).setCell ⟨b, 1, none⟩ u1).setCell ⟨b, 2, none⟩ u2).setCell ⟨b, 3, none⟩ u3).setCell ⟨b, 4, none⟩ u4).setCell ⟨b, 5, none⟩ u5).setCell ⟨b, 6, none⟩ u6
/-- the seven cells read back, each where it was written -/
theorem set7_cells {w : World} {b : Nat} {t : TypeId} {v0 v1 v2 v3 v4 v5 v6 : Value} (B : Blk w b t #[v0, v1, v2, v3, v4, v5, v6]) (u0 u1 u2 u3 u4 u5 u6 : Value) :
    (w.setCell ⟨b, 0, none⟩ u0).cell? ⟨b, 0, none⟩ = some u0 ∧ ((w.setCell ⟨b, 0, none⟩ u0).setCell ⟨b, 1, none⟩ u1).cell? ⟨b, 1, none⟩ = some u1 ∧
    (((w.setCell ⟨b, 0, none⟩ u0).setCell ⟨b, 1, none⟩ u1).setCell ⟨b, 2, none⟩ u2).cell? ⟨b, 2, none⟩ = some u2 ∧
    ((((w.setCell ⟨b, 0, none⟩ u0).setCell ⟨b, 1, none⟩ u1).setCell ⟨b, 2, none⟩ u2).setCell ⟨b, 3, none⟩ u3).cell? ⟨b, 3, none⟩ = some u3 ∧
    (((((w.setCell ⟨b, 0, none⟩ u0).setCell ⟨b, 1, none⟩ u1).setCell ⟨b, 2, none⟩ u2).setCell ⟨b, 3, none⟩ u3).setCell ⟨b, 4, none⟩ u4).cell? ⟨b, 4, none⟩ = some u4 ∧
    ((((((w.setCell ⟨b, 0, none⟩ u0).setCell ⟨b, 1, none⟩ u1).setCell ⟨b, 2, none⟩ u2).setCell ⟨b, 3, none⟩ u3).setCell ⟨b, 4, none⟩ u4).setCell ⟨b, 5, none⟩ u5).cell? ⟨b, 5, none⟩ = some u5 ∧
    (((((((w.setCell ⟨b, 0, none⟩ u0).setCell ⟨b, 1, none⟩ u1).setCell ⟨b, 2, none⟩ u2).setCell ⟨b, 3, none⟩ u3).setCell ⟨b, 4, none⟩ u4).setCell ⟨b, 5, none⟩ u5).setCell ⟨b, 6, none⟩ u6).cell? ⟨b, 6, none⟩ = some u6 := by
  have s0 : Blk _ b t #[u0, v1, v2, v3, v4, v5, v6] := B.set 0 u0
  have s1 : Blk _ b t #[u0, u1, v2, v3, v4, v5, v6] := s0.set 1 u1
  have s2 : Blk _ b t #[u0, u1, u2, v3, v4, v5, v6] := s1.set 2 u2
  have s3 : Blk _ b t #[u0, u1, u2, u3, v4, v5, v6] := s2.set 3 u3
  have s4 : Blk _ b t #[u0, u1, u2, u3, u4, v5, v6] := s3.set 4 u4
  have s5 : Blk _ b t #[u0, u1, u2, u3, u4, u5, v6] := s4.set 5 u5
  have s6 : Blk _ b t #[u0, u1, u2, u3, u4, u5, u6] := s5.set 6 u6
  exact ⟨s0.cell (i := 0) rfl, s1.cell (i := 1) rfl, s2.cell (i := 2) rfl, s3.cell (i := 3) rfl, s4.cell (i := 4) rfl, s5.cell (i := 5) rfl, s6.cell (i := 6) rfl⟩
theorem set7_size (w : World) (b : Nat) (u0 u1 u2 u3 u4 u5 u6 : Value) : (set7 w b u0 u1 u2 u3 u4 u5 u6).heap.size = w.heap.size := by simp [set7, World.size_setCell]
theorem set7_far (w : World) (b : Nat) (u0 u1 u2 u3 u4 u5 u6 : Value) (k : Nat) (hk : k ≠ b) : (set7 w b u0 u1 u2 u3 u4 u5 u6).heap[k]? = w.heap[k]? := by
  unfold set7
  iterate 7 rw [Below.heap_setCell _ _ _ k hk]
theorem set7_below {w0 w : World} {b : Nat} (h : Below w0.heap.size w0 w) (hb : w0.heap.size ≤ b) (u0 u1 u2 u3 u4 u5 u6 : Value) : Below w0.heap.size w0 (set7 w b u0 u1 u2 u3 u4 u5 u6) := by
  unfold set7
  have st : ∀ (w1 : World) (o : Nat) (u : Value), Below w0.heap.size w0 w1 → Below w0.heap.size w0 (w1.setCell ⟨b, o, none⟩ u) := fun w1 o u h1 => h1.setCell hb u
  exact st _ _ _ (st _ _ _ (st _ _ _ (st _ _ _ (st _ _ _ (st _ _ _ (st _ _ _ h))))))
end Go.Proofs.YtpnoofphfomjoaaGreatDoor
