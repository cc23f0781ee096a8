/- ServeMath -/
import Derived.Test.YtpnoofphfomjoaaGreatDoorPkE09
import Derived.Test.YtpnoofphfomjoaaGreatDoorPkE13
import Derived.Test.YtpnoofphfomjoaaGreatDoorPkE42
import Derived.Test.YtpnoofphfomjoaaGreatDoorPkE46
namespace Go.Proofs.YtpnoofphfomjoaaGreatDoor
open Go.RowKit
/- what is computed of regions hangs on their kinds and points -/
def canG (g : Gr) : Gr := (⟨g.1.d, g.1.v, none, g.2.length, 0⟩, g.2)
def cg (x : Gd) : Gr := (⟨x.1, x.2.1, none, x.2.2.length, 0⟩, x.2.2)
theorem cg_gd (gs : List Gr) : (gs.map gdOf).map cg = gs.map canG := by rw [List.map_map]; rfl
theorem can_fcheckL : ∀ (gs : List Gr), (∀ g ∈ gs, g.1.n = g.2.length) → fcheckL ((gs.map canG).map (·.1)) = fcheckL (gs.map (·.1))
  | [], _ => rfl
  | g :: gs, h => by
    have ih := can_fcheckL gs fun x hx => h x (List.mem_cons_of_mem _ hx)
    have hn := h g (List.mem_cons_self ..)
    rw [List.map_cons, List.map_cons, List.map_cons, fcheckL, fcheckL, ih]
    show (if sizeOfReg g.1.v = 0 then _ else if sizeOfReg g.1.v = (g.2.length : Int) then _ else _) = _
    rw [← hn]
theorem can_fcheck {gs : List Gr} (h : ∀ g ∈ gs, g.1.n = g.2.length) : fcheck ((gs.map canG).map (·.1)) = fcheck (gs.map (·.1)) := by
  unfold fcheck
  rw [can_fcheckL gs h, List.length_map, List.length_map, List.length_map]
theorem can_fenceOk {gs : List Gr} (h : ∀ g ∈ gs, g.1.n = g.2.length) : fenceOk (gs.map canG) = fenceOk gs := by
  unfold fenceOk fvOk
  rw [can_fcheck h, List.foldl_map]
  rfl
theorem can_memOk {gs : List Gr} (h : ∀ g ∈ gs, g.1.n = g.2.length) (p : Pt) : memOk (gs.map canG) p = memOk gs p := by
  unfold memOk memF
  rw [can_fcheck h, List.foldl_map]
  rfl
theorem can_fvEv : ∀ (i : Nat) (gs : List Gr), fvEv i (gs.map canG) = fvEv i gs
  | _, [] => rfl
  | i, g :: gs => by rw [List.map_cons, fvEv, fvEv, can_fvEv (i + 1) gs]; rfl
theorem can_fmEv : ∀ (i : Nat) (gs : List Gr), fmEv i (gs.map canG) = fmEv i gs
  | _, [] => rfl
  | i, g :: gs => by rw [List.map_cons, fmEv, fmEv, can_fmEv (i + 1) gs]; rfl
theorem can_vEv {gs : List Gr} (h : ∀ g ∈ gs, g.1.n = g.2.length) : fenceVEv (gs.map canG) = fenceVEv gs := by unfold fenceVEv; rw [can_fcheck h, can_fvEv]
theorem can_mEv {gs : List Gr} (h : ∀ g ∈ gs, g.1.n = g.2.length) : fenceMEv (gs.map canG) = fenceMEv gs := by unfold fenceMEv; rw [can_fcheck h, can_fmEv]
theorem can_hrecs {gs : List Gr} (h : ∀ g ∈ gs, g.1.n = g.2.length) (qs : List ((Int × Int) × Int)) : hrecs (gs.map canG) qs = hrecs gs qs := by
  unfold hrecs
  refine List.map_congr_left fun q _ => ?_
  unfold hrec
  rw [can_fenceOk h, can_memOk h]
theorem can_bcheck {gs : List Gr} (h : ∀ g ∈ gs, g.1.n = g.2.length) (n : Nat) : bcheck (gs.map canG) n = bcheck gs n := by unfold bcheck; rw [can_fcheck h]
theorem can_hbatch {gs : List Gr} (h : ∀ g ∈ gs, g.1.n = g.2.length) (qs : List ((Int × Int) × Int)) : hbatch (gs.map canG) qs = hbatch gs qs := by unfold hbatch; rw [can_bcheck h, can_fenceOk h, can_hrecs h]
theorem can_batchEv {gs : List Gr} (h : ∀ g ∈ gs, g.1.n = g.2.length) (n : Nat) : batchEv (gs.map canG) n = batchEv gs n := by unfold batchEv itemEv; rw [can_bcheck h, can_vEv h, can_mEv h]
theorem can_ansOp {gs : List Gr} (h : ∀ g ∈ gs, g.1.n = g.2.length) (op : Int) (ps : List Pt) : ansOp op (gs.map canG) ps = ansOp op gs ps := by unfold ansOp fenceA; rw [can_fenceOk h, can_memOk h]
theorem can_opEv {gs : List Gr} (h : ∀ g ∈ gs, g.1.n = g.2.length) (op : Int) (ps : List Pt) : opEv op (gs.map canG) ps = opEv op gs ps := by unfold opEv fenceEv; rw [can_vEv h, can_mEv h]
/- the answer to a request as data -/
def qAns (q : Rq) : Ans := if q.h.op = 5 then (hbatch (q.gs.map cg) q.qs).1 else ⟨ansOp q.h.op (q.gs.map cg) q.ps, 0, []⟩
def qEv (q : Rq) : List Ev := if q.h.op = 5 then batchEv (q.gs.map cg) q.qs.length else opEv q.h.op (q.gs.map cg) q.ps
/-- the response to bytes -/
def hserve (bs : List Int) : List Int := if (hdecode bs).2 ≠ 0 then [(hdecode bs).2] else ansBytes (hdecode bs).1.h.op (qAns (hdecode bs).1).val (qAns (hdecode bs).1).cnt (qAns (hdecode bs).1).recs
def serveEv (bs : List Int) : List Ev := if (hdecode bs).2 ≠ 0 then [] else qEv (hdecode bs).1
/-- the structure of the request's regions is the header's -/
theorem fcheck_zip : ∀ (gs : List Gr) (hrs : List Rg), gs.length = hrs.length → (gs.zip hrs).any szBad = false → (gs.zip hrs).any kdBad = false → hrs.any wrongRg = false → fcheckL (gs.map (·.1)) = 0
  | [], [], _, _, _, _ => rfl
  | [], _ :: _, h, _, _, _ => by simp at h
  | _ :: _, [], h, _, _, _ => by simp at h
  | g :: gs, r :: hrs, hl, hs, hk, hw => by
    rw [List.zip_cons_cons, List.any_cons, Bool.or_eq_false_iff] at hs hk
    rw [List.any_cons, Bool.or_eq_false_iff] at hw
    have a3 := fcheck_zip gs hrs (by simpa using hl) hs.2 hk.2 hw.2
    have h1 : (g.1.n : Int) = sizeOfReg r.v := by have := hs.1; unfold szBad at this; simpa using this
    have h2 : g.1.v = r.v := by
      have := hk.1
      unfold kdBad at this
      rw [Bool.or_eq_false_iff] at this
      simpa using this.2
    have h3 : sizeOfReg r.v ≠ 0 := by have := hw.1; unfold wrongRg at this; simpa using this
    show fcheckL (g.1 :: gs.map (·.1)) = 0
    unfold fcheckL
    rw [h2, if_neg h3, if_pos h1.symm]
    exact a3
theorem sign3' (x : Int) : 0 ≤ x.sign + 1 ∧ x.sign + 1 ≤ 2 := by rcases sign_bd x with h | h | h <;> rw [h] <;> decide
theorem ansOp_bd (op : Int) (gs : List Gr) (ps : List Pt) : 0 ≤ ansOp op gs ps ∧ (op ≠ 5 → ansOp op gs ps ≤ most op) := by
  have hc : ∀ ps p, 0 ≤ convexA ps p ∧ convexA ps p ≤ 3 := fun ps p => by
    have h := sgnM_bd (locF (orientV ps) ps p (List.range (edgeN ps.length))).1 (locF (orientV ps) ps p (List.range (edgeN ps.length))).2
    have e : locV ps p = sgnM (locF (orientV ps) ps p (List.range (edgeN ps.length))).1 (locF (orientV ps) ps p (List.range (edgeN ps.length))).2 := rfl
    rw [← e] at h
    unfold convexA
    cases validV ps <;> simp <;> omega
  have hf : ∀ p, 0 ≤ fenceA gs p ∧ fenceA gs p ≤ 2 := fun p => by
    unfold fenceA
    cases fenceOk gs <;> cases memOk gs p <;> decide
  unfold ansOp most
  by_cases o1 : op = 1
  · rw [if_pos o1, if_neg (by omega), if_neg (by omega)]
    have := sign3' (orientD (ptAt ps 0) (ptAt ps 1) (ptAt ps 2))
    exact ⟨this.1, fun _ => this.2⟩
  rw [if_neg o1]
  by_cases o2 : op = 2
  · rw [if_pos o2, if_neg (by omega), if_neg (by omega)]
    have := sign3' (circleD (ptAt ps 0) (ptAt ps 1) (ptAt ps 2) (ptAt ps 3))
    exact ⟨this.1, fun _ => this.2⟩
  rw [if_neg o2]
  by_cases o3 : op = 3
  · rw [if_pos o3, if_pos o3]
    have := hc (ps.take (ps.length - 1)) (ptAt ps (ps.length - 1))
    exact ⟨this.1, fun _ => this.2⟩
  rw [if_neg o3, if_neg o3]
  have := hf (ptAt ps 0)
  exact ⟨this.1, fun h5 => by rw [if_neg h5]; exact this.2⟩
/-- an accepted request: its answer, its events, and that it is an answer to its header -/
theorem handle_ok {op vs pts : Int} {hrs : List Rg} {gs : List Gr} {ps : List Pt} {qs : List ((Int × Int) × Int)} (h : (hencode op vs hrs pts gs ps qs).2 = 0) (hn : ∀ g ∈ gs, g.1.n = g.2.length) (hq : ∀ q ∈ qs, U64 q.2) {q : Rq} (e1 : q.h.op = op) (e3 : q.gs = gs.map gdOf) (e4 : q.ps = ps) (e5 : q.qs = qs) :
    hhandle op vs hrs pts gs ps qs = (qAns q, 0) ∧ handleEv op vs hrs pts gs ps qs = qEv q ∧ isAns op pts (qAns q).val (qAns q).cnt (qAns q).recs = true ∧ hcheck op vs hrs pts = 0 := by
  obtain ⟨hc, hgl, hpl, hql, hsz, hkd⟩ := hencode_ok h
  obtain ⟨o1, o5, c3, c4, c5, c6, c7, c8, _⟩ := hcheck_zero hc
  have hh : hhandle op vs hrs pts gs ps qs = if op = 5 then hbatch gs qs else (⟨ansOp op gs ps, 0, []⟩, 0) := if_neg (by simpa using h)
  have he : handleEv op vs hrs pts gs ps qs = if op = 5 then batchEv gs qs.length else opEv op gs ps := if_neg (by simpa using h)
  rw [hh, he]
  unfold qAns qEv
  rw [e1, e3, e4, e5, cg_gd, can_hbatch hn, can_batchEv hn, can_ansOp hn, can_opEv hn]
  by_cases h5 : op = 5
  · subst h5
    rw [if_pos rfl, if_pos rfl, if_pos rfl]
    have hpt := c7 rfl
    have hqp : (qs.length : Int) = pts := by rw [hql]; unfold cntQ; rw [if_neg (by omega)]
    obtain ⟨l1, l2, l3⟩ := c5 (by omega)
    have hf : fcheck (gs.map (·.1)) = 0 := by
      unfold fcheck
      rw [if_neg (by rw [List.length_map]; omega)]
      exact fcheck_zip gs hrs hgl hsz hkd l3
    have hb : bcheck gs qs.length = 0 := by
      unfold bcheck
      rw [if_neg (by simpa using hf), if_neg (by omega)]
    have hr : hbatch gs qs = ((hbatch gs qs).1, 0) := by unfold hbatch; rw [if_neg (by simpa using hb)]
    refine ⟨hr, rfl, ?_, hc⟩
    rw [← hqp]
    exact batch_isAns hq hb
  · rw [if_neg h5, if_neg h5, if_neg h5]
    refine ⟨rfl, rfl, ?_, hc⟩
    have hp := c8 h5
    have hb := ansOp_bd op gs ps
    have hb2 := hb.2 h5
    unfold isAns
    dsimp only
    rw [if_neg (by omega), if_neg (by omega), if_neg (by simp [hp]), if_neg (by omega), if_neg (by unfold aLim; split <;> omega)]
    rfl
/-- what is decoded is encoded to the same bytes -/
theorem dec_enc {bs : List Int} {q : Rq} (hby : By bs) (hd : hdecode bs = (q, 0)) {hrs : List Rg} {gs : List Gr} (hk : hrs.map Rg.key = q.h.rs.map Rg.key) (hg : gs.map gdOf = q.gs) (hn : ∀ g ∈ gs, g.1.n = g.2.length) :
    hencode q.h.op q.h.vs hrs q.h.pts gs q.ps q.qs = (bs, 0) := by
  unfold hdecode at hd
  by_cases hc : hclass bs = 0
  · rw [if_pos hc] at hd
    obtain ⟨⟨h, n, er⟩, hp⟩ : ∃ r, r = hparse bs := ⟨_, rfl⟩
    rw [← hp] at hd
    obtain ⟨z1, z2, z3, z4, z5, z6, _, _, z7⟩ := dec_facts hp.symm hc
    have hcan := hparse_canonical bs (fun j x hj => hby x (List.mem_of_getElem? hj))
    rw [← hp] at hcan
    obtain ⟨f1, f2, f3⟩ := hcan z1
    dsimp only at f1 f2 f3 hd
    have hspl : bs = fbytes h.op h.vs h.rs h.pts ++ bs.drop n.toNat := by rw [f1, List.take_append_drop]
    have hfmt := hparse_format z2 (bs.drop n.toNat)
    rw [← hspl, ← hp] at hfmt
    have hrs2 : h.rs = h.rs.map rgBack := by
      have := congrArg (fun r : PH × Int × Int => r.1.rs) hfmt
      exact this
    have hh : h = ⟨h.op, h.vs, h.rs.map rgBack, h.pts⟩ := by
      have := congrArg (fun r : PH × Int × Int => r.1) hfmt
      exact this
    have hq : rqOf h (bs.drop n.toNat) = q := by
      have := congrArg Prod.fst hd
      exact this
    subst hq
    have hl : ((bs.drop n.toNat).length : Int) = 16 * (nSum h.rs : Int) + 16 * cntP h.op h.vs + 24 * cntQ h.op h.pts := by rw [List.length_drop]; omega
    have key := hencode_canon (hrs := hrs) (gs := gs) z2 hl (hby.drop _) (by rw [← hrs2]; exact hk) (by rw [← hrs2]; exact hg) hn
    rw [← hrs2] at key
    have e : (rqOf ⟨h.op, h.vs, h.rs, h.pts⟩ (bs.drop n.toNat)) = rqOf h (bs.drop n.toNat) := rfl
    rw [e] at key
    rw [← hspl] at key
    exact key
  · rw [if_neg hc] at hd
    have := congrArg Prod.snd hd
    exact absurd this hc
end Go.Proofs.YtpnoofphfomjoaaGreatDoor
