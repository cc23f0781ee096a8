/- A request as data: what Decode returns, as a function of the bytes. -/
import Derived.Test.YtcfbkabiapaobaaDoorTake
import Derived.Test.YtcfbkabiapaobaaDoorEncode
import Derived.Test.YtcfbkabiapaobaaDoorSame
namespace Go.Proofs.YtcfbkabiapaobaaDoor
open Go.RowKit

/-- a region as data -/
abbrev Gd := Bool × Int × List (Int × Int)
def sizeN (v : Int) : Nat := (sizeOfReg v).toNat
def nSum (rs : List Rg) : Nat := (rs.map fun r => sizeN r.v).sum
theorem sizeN_le (v : Int) : sizeN v ≤ 64 := by have := sizeOfReg_bd v; unfold sizeN; omega
theorem sizeN_cast (v : Int) : ((sizeN v : Nat) : Int) = sizeOfReg v := by have := sizeOfReg_bd v; unfold sizeN; omega
theorem nSum_cast (rs : List Rg) : ((nSum rs : Nat) : Int) = sumSize rs := by
  induction rs with
  | nil => rfl
  | cons r rs ih =>
    have := sizeN_cast r.v
    simp only [nSum, sumSize, List.map_cons, List.sum_cons] at *
    omega
theorem nSum_snoc (rs : List Rg) (k : Nat) (r : Rg) (h : rs[k]? = some r) : nSum (rs.take (k + 1)) = nSum (rs.take k) + sizeN r.v := by
  rw [List.take_add_one, h]; simp [nSum]
theorem nSum_take_le (rs : List Rg) (k : Nat) : nSum (rs.take k) ≤ nSum rs := by
  have h : nSum rs = nSum (rs.take k) + nSum (rs.drop k) := by
    conv => lhs; rw [← List.take_append_drop k rs]
    simp only [nSum, List.map_append, List.sum_append]
  omega
/-- the regions of a request, out of the header's regions and the payload -/
def regsOf : List Rg → List Int → List Gd
  | [], _ => []
  | r :: rs, bs => (r.d, r.v, ptsOf bs (sizeN r.v)) :: regsOf rs (bs.drop (16 * sizeN r.v))
theorem regsOf_snoc : ∀ (rs : List Rg) (bs : List Int) (k : Nat) (r : Rg), rs[k]? = some r →
    regsOf (rs.take (k + 1)) bs = regsOf (rs.take k) bs ++ [(r.d, r.v, ptsOf (bs.drop (16 * nSum (rs.take k))) (sizeN r.v))]
  | [], _, _, _, h => by simp at h
  | q :: rs, bs, 0, r, h => by
    have : q = r := by simpa using h
    subst this
    simp [regsOf, nSum]
  | q :: rs, bs, k + 1, r, h => by
    have ih := regsOf_snoc rs (bs.drop (16 * sizeN q.v)) k r (by simpa using h)
    rw [List.take_succ_cons, List.take_succ_cons, regsOf, regsOf, ih, List.drop_drop]
    have : 16 * sizeN q.v + 16 * nSum (rs.take k) = 16 * nSum (q :: rs.take k) := by simp [nSum]; omega
    rw [this]; rfl
/-- a request as data -/
structure Rq where
  h : PH
  gs : List Gd
  ps : List (Int × Int)
  qs : List ((Int × Int) × Int)
def rqZero : Rq := ⟨phZero, [], [], []⟩
def rqOf (h : PH) (pl : List Int) : Rq :=
  ⟨h, regsOf h.rs pl, ptsOf (pl.drop (16 * nSum h.rs)) (cntP h.op h.vs).toNat, qusOf (pl.drop (16 * nSum h.rs)) (cntQ h.op h.pts).toNat⟩
def hdecode (bs : List Int) : Rq × Int :=
  if hclass bs = 0 then (rqOf (hparse bs).1 (bs.drop (hparse bs).2.1.toNat), 0) else (rqZero, hclass bs)
def gdOf (g : Gr) : Gd := (g.1.d, g.1.v, g.2)
/-- values that read as a request -/
structure ReadsRq (w : World) (B : Nat) (q : Rq) (hrs : List Rg) (HA : Option Addr) (gs : List Gr) (GA PA QA : Option Addr) : Prop where
  hh : Sl w B HA (rgCells hrs)
  hk : hrs.map Rg.key = q.h.rs.map Rg.key
  hg : Sl w B GA (rgCells (gs.map (·.1)))
  gk : GsOk w B gs
  gd : gs.map gdOf = q.gs
  hp : Sl w B PA (ptCs q.ps)
  hq : Sl w B QA (quCs q.qs)
def rqVal (q : Rq) (hrs : List Rg) (HA : Option Addr) (hc : Nat) (gs : List Gr) (GA : Option Addr) (gc : Nat) (PA : Option Addr) (pc : Nat) (QA : Option Addr) (qc : Nat) : Value :=
  .agg #[.int .i64 q.h.op, .int .i64 q.h.vs, .slice HA hrs.length hc, .int .i64 q.h.pts, .slice GA gs.length gc, .slice PA q.ps.length pc, .slice QA q.qs.length qc]
def Decoded (r : Rq × Int) (w : World) (e : Ending) (w' : World) : Prop :=
  ∃ hrs HA hc gs GA gc PA pc QA qc, e = .returned (.tuple #[rqVal r.1 hrs HA hc gs GA gc PA pc QA qc, .int .i64 r.2]) ∧ Below w.heap.size w w' ∧ ReadsRq w' w'.heap.size r.1 hrs HA gs GA PA QA
theorem ReadsRq.zero (w : World) (B : Nat) : ReadsRq w B rqZero [] none [] none none none :=
  ⟨.nil _ _ _, rfl, .nil _ _ _, fun g hg => by simp at hg, rfl, .nil _ _ _, .nil _ _ _⟩
theorem decoded_zero {w w' : World} {c : Int} (hb : Below w.heap.size w w') : Decoded (rqZero, c) w (.returned (.tuple #[.agg #[.int .i64 0, .int .i64 0, .slice none 0 0, .int .i64 0, .slice none 0 0, .slice none 0 0, .slice none 0 0], .int .i64 c])) w' :=
  ⟨[], none, 0, [], none, 0, none, 0, none, 0, rfl, hb, ReadsRq.zero _ _⟩
theorem ReadsRq.below {w w' : World} {B : Nat} {q : Rq} {hrs : List Rg} {HA : Option Addr} {gs : List Gr} {GA PA QA : Option Addr} (h : ReadsRq w B q hrs HA gs GA PA QA) (hb : Below B w w') : ReadsRq w' B q hrs HA gs GA PA QA :=
  ⟨h.hh.below hb, h.hk, h.hg.below hb, fun g hg => ⟨(h.gk g hg).1, (h.gk g hg).2.below hb⟩, h.gd, h.hp.below hb, h.hq.below hb⟩
theorem ReadsRq.more {w : World} {B B' : Nat} {q : Rq} {hrs : List Rg} {HA : Option Addr} {gs : List Gr} {GA PA QA : Option Addr} (h : ReadsRq w B q hrs HA gs GA PA QA) (hB : B ≤ B') : ReadsRq w B' q hrs HA gs GA PA QA :=
  ⟨h.hh.more hB, h.hk, h.hg.more hB, fun g hg => ⟨(h.gk g hg).1, (h.gk g hg).2.more hB⟩, h.gd, h.hp.more hB, h.hq.more hB⟩
end Go.Proofs.YtcfbkabiapaobaaDoor
