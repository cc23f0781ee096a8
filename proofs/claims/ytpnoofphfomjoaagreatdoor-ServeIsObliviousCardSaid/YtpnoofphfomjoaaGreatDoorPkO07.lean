/- Serve EvMath21 RefEv20C RefEv21 LawEvents21 -/
import Derived.Defers
import Derived.Test.YtpnoofphfomjoaaGreatDoorPkM43
import Derived.Test.YtpnoofphfomjoaaGreatDoorPkO05
set_option maxRecDepth 1000000
set_option maxHeartbeats 8000000
namespace Go.Proofs.YtpnoofphfomjoaaGreatDoor
section
open Go.RowKit Go.Shelf Go.Maps
theorem new_fresh (w:World):Calls Tryz.prog 24 #[] w fun e w'=>e=.returned (.pointer (tapeA (newT w)))∧Below w.heap.size w w'∧FreshT w' (newT w):=by
 have hmm:=@run_makeMap Tryz.prog
 go_enter Tryz.func24,Tryz.ntmps24
 go_wp2
 go_ret
 refine ⟨rfl,bl_alloc (bA) _,?_,(World.ownsMap_made w Tryz.prog 3 (plainElem Tryz.prog 3)).alloc _⟩
 have h:=Blk.new (w.alloc (.map #[] 0)) 119 #[.slice none 0 0,.map (some w.heap.size)]
 rw [World.size_alloc] at h
 exact h
end
section
open Go.RowKit
theorem ev_zip21:∀ (gs:List Gr) (hrs:List Rg) (i:Nat),gs.length=hrs.length→(∀ g∈gs,g.1.n=g.2.length)→(gs.zip hrs).any szBad=false→(gs.zip hrs).any kdBad=false→hrs.any wrongRg=false →
 fvEv i gs=hvEv i hrs∧fmEv i gs=hmEv i hrs∧fcheckL (gs.map (·.1))=0
 | [],[],_,_,_,_,_,_=>⟨rfl,rfl,rfl⟩
 | [],_::_,_,h,_,_,_,_=>by simp at h
 | _::_,[],_,h,_,_,_,_=>by simp at h
 | g::gs,r::hrs,i,hl,hn,hs,hk,hw=>by
   rw [List.zip_cons_cons,List.any_cons,Bool.or_eq_false_iff] at hs hk
   rw [List.any_cons,Bool.or_eq_false_iff] at hw
   obtain ⟨a1,a2,a3⟩:=ev_zip21 gs hrs (i+1) (by simpa using hl) (fun g' h=>hn g' (List.mem_cons_of_mem _ h)) hs.2 hk.2 hw.2
   have hgn:=hn g (List.mem_cons_self ..)
   have h1:(g.1.n:Int)=sizeOfReg r.v:=by have:=hs.1;unfold szBad at this;simpa using this
   have h2:g.1.v=r.v:=by
    have:=hk.1
    unfold kdBad at this
    rw [Bool.or_eq_false_iff] at this
    simpa using this.2
   have h3:sizeOfReg r.v≠0:=by have:=hw.1;unfold wrongRg at this;simpa using this
   have h4:rgVEv g.1.v g.2.length=hvEv1 r.v∧rgLEv g.1.v g.2.length=hmEv1 r.v:=by
    rw [h2,← hgn]
    unfold rgVEv hvEv1 rgLEv hmEv1
    by_cases h0:r.v=0
    · rw [if_pos h0,if_pos h0,if_pos h0,if_pos h0]
      have:g.1.n=3:=by rw [h0] at h1;have e:sizeOfReg 0=3:=rfl;omega
      rw [this]
      exact ⟨rfl,rfl⟩
    · rw [if_neg h0,if_neg h0,if_neg h0,if_neg h0]
      have hsz:3≤r.v∧r.v≤64∧sizeOfReg r.v=r.v:=by
       unfold sizeOfReg at h3 ⊢
       rw [if_neg h0] at h3 ⊢
       by_cases hb:3≤r.v∧r.v≤64
       · rw [if_pos hb];exact ⟨hb.1,hb.2,rfl⟩
       · rw [if_neg hb] at h3;exact absurd rfl h3
      have:g.1.n=r.v.toNat:=by omega
      rw [this]
      exact ⟨rfl,rfl⟩
   refine ⟨?_,?_,?_⟩
   · rw [fvEv,hvEv,a1,h4.1]
   · rw [fmEv,hmEv,a2,h4.2]
   · show fcheckL (g.1::gs.map (·.1))=0
     unfold fcheckL
     rw [h2,if_neg h3,if_pos h1.symm]
     exact a3
def hitemEv (rs:List Rg) (n:Nat):List Ev:=(List.range n).flatMap fun (i:Nat)=>(8,(i:Int),0)::hmEv 0 rs
def evB (rs:List Rg) (n:Nat):List Ev:=hvEv 0 rs++hitemEv rs n++cntEv n++pairEv (netw (lg n))
def evH21 (op vs:Int) (rs:List Rg) (pts:Int):List Ev:=if op=5 then evB rs pts.toNat else evH op vs rs
theorem handleEv_head {op vs pts:Int} {hrs:List Rg} {gs:List Gr} {ps:List Pt} {qs:List ((Int × Int) × Int)} (hn:∀ g∈gs,g.1.n=g.2.length) (h:(hencode op vs hrs pts gs ps qs).2=0) :
 handleEv op vs hrs pts gs ps qs=evH21 op vs hrs pts:=by
 obtain ⟨hc,hgl,hpl,hql,hsz,hkd⟩:=hencode_ok h
 obtain ⟨o1,o5,c3,c4,c5,c6,c7,_⟩:=hcheck_zero hc
 unfold handleEv evH21
 rw [if_neg (by simpa using h)]
 by_cases h5:op=5
 · rw [if_pos h5,if_pos h5]
   obtain ⟨hl1,hl64,hwr⟩:=c5 (by omega)
   obtain ⟨a1,a2,a3⟩:=ev_zip21 gs hrs 0 hgl hn hsz hkd hwr
   have hf:fcheck (gs.map (·.1))=0:=by
    unfold fcheck
    rw [if_neg (by rw [List.length_map];omega)]
    exact a3
   have hp:=c7 h5
   have hq:(qs.length:Int)=pts:=by rw [hql];unfold cntQ;rw [if_neg (by omega)]
   have hq2:pts.toNat=qs.length:=by omega
   have hb:bcheck gs qs.length=0:=by
    unfold bcheck
    rw [if_neg (by simpa using hf),if_neg (by omega)]
   unfold batchEv evB itemEv hitemEv fenceVEv fenceMEv
   rw [if_neg (by simpa using hb),if_pos hf,if_pos hf,a1,a2,hq2]
 · rw [if_neg h5,if_neg h5]
   unfold opEv evH
   by_cases h3:op=3
   · rw [if_pos h3,if_pos h3]
     have hv:=c3 h3
     have hl:(ps.length:Int)=vs+1:=by rw [h3] at hpl;exact hpl
     have e:ps.length - 1=vs.toNat:=by omega
     rw [e]
     rfl
   · rw [if_neg h3,if_neg h3]
     by_cases h4:op=4
     · rw [if_pos h4,if_pos h4]
       obtain ⟨hl1,hl64,hwr⟩:=c5 (by omega)
       obtain ⟨a1,a2,a3⟩:=ev_zip21 gs hrs 0 hgl hn hsz hkd hwr
       have hf:fcheck (gs.map (·.1))=0:=by
        unfold fcheck
        rw [if_neg (by rw [List.length_map];omega)]
        exact a3
       unfold fenceEv fenceVEv fenceMEv
       rw [if_pos hf,if_pos hf,a1,a2]
     · rw [if_neg h4,if_neg h4]
theorem serveEv_head {bs:List Int} (hby:By bs) (hc:hclass bs=0) :
 serveEv bs=evH21 (hparse bs).1.op (hparse bs).1.vs (hparse bs).1.rs (hparse bs).1.pts∧hcheck (hparse bs).1.op (hparse bs).1.vs (hparse bs).1.rs (hparse bs).1.pts=0∧((hdecode bs).1.qs.length:Int)=cntQ (hparse bs).1.op (hparse bs).1.pts:=by
 have hd:hdecode bs=(rqOf (hparse bs).1 (bs.drop (hparse bs).2.1.toNat),0):=by unfold hdecode;rw [if_pos hc]
 obtain ⟨q,hq⟩:∃ q,q=rqOf (hparse bs).1 (bs.drop (hparse bs).2.1.toNat):=⟨_,rfl⟩
 have hh:q.h=(hparse bs).1:=by rw [hq];rfl
 rw [← hq] at hd
 rw [← hh]
 obtain ⟨_,dj2,_,z⟩:=dec_small hby hd
 have hn:∀ g∈q.gs.map cg,g.1.n=g.2.length:=fun g hg=>by
  obtain ⟨x,_,rfl⟩:=List.mem_map.1 hg
  rfl
 have he:=dec_enc hby hd (hrs:=q.h.rs) (gs:=q.gs.map cg) rfl (gds_cg _) hn
 obtain ⟨_,k2,k3,k4⟩:=handle_ok (q:=q) (by rw [he]) hn (fun x hx=>(dj2 x hx).2) rfl (gds_cg _).symm rfl rfl
 have hk:=handleEv_head hn (by rw [he]:(hencode q.h.op q.h.vs q.h.rs q.h.pts (q.gs.map cg) q.ps q.qs).2=0)
 refine ⟨?_,z,?_⟩
 · unfold serveEv
   rw [hd,if_neg (by simp),← k2,hk]
 · rw [hd]
   exact (hencode_ok (by rw [he]:(hencode q.h.op q.h.vs q.h.rs q.h.pts (q.gs.map cg) q.ps q.qs).2=0)).2.2.2.1
theorem serveEv_bad {bs:List Int} (hc:hclass bs≠0):serveEv bs=[]:=by
 have hd:hdecode bs=(rqZero,hclass bs):=by unfold hdecode;rw [if_neg hc]
 unfold serveEv;rw [hd,if_pos hc]
end
section
open Go.RowKit Go.Shelf
theorem hitemEv_snoc (rs:List Rg) (k:Nat):hitemEv rs (k+1)=hitemEv rs k++[(8,(k:Int),0)]++hmEv 0 rs:=by
 unfold hitemEv
 rw [List.range_succ,List.flatMap_append]
 simp
theorem hmEv1_64 (v:Int):(hmEv1 v).length≤64:=by
 unfold hmEv1
 split
 · simp
 · rw [locEv_length,List.length_range];unfold edgeN;split <;> omega
theorem hmEv_65:∀ (i:Nat) (l:List Rg),(hmEv i l).length≤65*l.length
 | i,[]=>by simp [hmEv]
 | i,x::l=>by
   have h:=hmEv_65 (i+1) l
   have h2:=hmEv1_64 x.v
   simp only [hmEv,List.length_cons,List.length_append]
   omega
theorem hitemEv_len {rs:List Rg} (h:rs.length≤64):∀ k,(hitemEv rs k).length≤4161*k
 | 0=>by simp [hitemEv]
 | k+1=>by
   have h1:=hitemEv_len h k
   have h2:=hmEv_65 0 rs
   rw [hitemEv_snoc,List.length_append,List.length_append,List.length_singleton]
   omega
theorem netw_100 {n:Nat} (h:n≤100):(netw (lg n)).length≤20000:=by
 have h1:∀ m:Fin 101,(netw (lg m.val)).length≤20000:=by decide +kernel
 exact h1 ⟨n,by omega⟩
end
section
open Go.RowKit Go.Shelf
section
variable (bs:List Int) (A:Option Addr) (c:Nat) (w:World)
variable (hs:Sl w w.heap.size A (byCells bs)) (hby:By bs) (h100:(hdecode bs).1.qs.length≤100)
include hby h100
theorem ev_pts (hc:hclass bs=0):(hparse bs).1.op=5→(hparse bs).1.pts≤100:=fun h5=>by
 have h:=(serveEv_head hby hc).2.2
 unfold cntQ at h
 rw [if_neg (by omega)] at h
 omega
theorem serveEv_len:(serveEv bs).length≤1000000:=by
 by_cases hc:hclass bs=0
 · obtain ⟨he,hz,_⟩:=serveEv_head hby hc
   have hp:=ev_pts bs hby h100 hc
   obtain ⟨_,_,c3,_,c5,_,c7,_⟩:=hcheck_zero hz
   rw [he]
   obtain ⟨⟨op,vs,rs,pts⟩,hP⟩:∃ r,r=(hparse bs).1:=⟨_,rfl⟩
   rw [← hP] at hp c3 c5 c7 ⊢
   dsimp only at hp c3 c5 c7 ⊢
   unfold evH21
   by_cases h5:op=5
   · rw [if_pos h5]
     have h1:=hp h5
     have h2:=c7 h5
     obtain ⟨_,l64,_⟩:=c5 (by omega)
     have a1:=hvEv_length 0 rs
     have a2:=hitemEv_len l64 pts.toNat
     have a3:=cntEv_len pts.toNat
     have a4:=pairEv_len (netw (lg pts.toNat))
     have a5:=netw_100 (n:=pts.toNat) (by omega)
     unfold evB
     rw [List.length_append,List.length_append,List.length_append]
     omega
   · rw [if_neg h5]
     unfold evH
     split
     · have a1:=rgVEv_len vs.toNat
       have a2:=locEv_length (List.range (edgeN vs.toNat))
       have a3:=(edgeN_le vs.toNat).2
       rw [List.length_range] at a2
       rw [List.length_append]
       omega
     · split
       · obtain ⟨_,l64,_⟩:=c5 (by omega)
         have a1:=hvEv_length 0 rs
         have a2:=hmEv_65 0 rs
         rw [List.length_append]
         omega
       · simp
 · rw [serveEv_bad hc];simp
include hs
end
end
section
open Go.RowKit Go.Shelf
theorem lg_100e {n:Nat} (h:n≤100):4161*n+(netw (lg n)).length≤600000:=by
 have:=netw_100 h
 omega
section
variable (bs:List Int) (A:Option Addr) (c:Nat) (w:World)
variable (hs:Sl w w.heap.size A (byCells bs)) (hcap:bs.length≤c) (hby:By bs) (hfix:Fixed w) (hg:0<w.heap.size) (hw:MW w)
include hs hcap hby hfix hg hw
end
end
end Go.Proofs.YtpnoofphfomjoaaGreatDoor
