/- ServeFacts EvMath21 RefEv20C RefEv21 LawEvents21 -/
import Derived.Deep.AppendLies
import Derived.Deep.RegionLaw
import Derived.Test.YtfljlmleiggmjaaGreatDoorPkA11
import Derived.Test.YtfljlmleiggmjaaGreatDoorPkA40
import Derived.Test.YtfljlmleiggmjaaGreatDoorPkA44
set_option maxRecDepth 1000000
set_option maxHeartbeats 8000000
namespace Go.Proofs.YtfljlmleiggmjaaGreatDoor
section
open Go.RowKit Go.Shelf
theorem gd_cg (x:Gd):gdOf (cg x)=x:=rfl
theorem gds_cg (l:List Gd):(l.map cg).map gdOf=l:=by
 rw [List.map_map]
 exact (List.map_congr_left fun x _=>gd_cg x).trans (List.map_id l)
theorem qAns_u64 {q:Rq} (h:∀ x∈q.qs,U64 x.2):∀ r∈(qAns q).recs,U64 r.2:=by
 intro r hr
 unfold qAns at hr
 split at hr
 · unfold hbatch at hr
   split at hr
   · simp [ansZero] at hr
   · dsimp only at hr
     have:=hrecs_cln (q.gs.map cg) h r ((isort_perm rkey _).mem_iff.1 hr)
     rcases this with ⟨_,h1,h2⟩ | h1
     · exact ⟨h1,h2⟩
     · rw [h1];exact ⟨by decide,by decide⟩
 · simp at hr
theorem serve_ok {bs:List Int} (hby:By bs) (hc:hclass bs=0) :
 ∃ val cnt recs t,hserve bs=0::val::t∧0≤val∧val≤3∧hread (hparse bs).1.op (hparse bs).1.vs (hparse bs).1.rs (hparse bs).1.pts (hserve bs)=(⟨val,cnt,recs⟩,0)∧((hserve bs).length:Int)=hresp (hparse bs).1.op (hparse bs).1.vs (hparse bs).1.rs (hparse bs).1.pts∧hcheck (hparse bs).1.op (hparse bs).1.vs (hparse bs).1.rs (hparse bs).1.pts=0∧(hserve bs).length≤100000∧By (hserve bs)∧(hparse bs).1.rs.length≤maxLen:=by
 have hd:hdecode bs=(rqOf (hparse bs).1 (bs.drop (hparse bs).2.1.toNat),0):=by unfold hdecode;rw [if_pos hc]
 obtain ⟨q,hq⟩:∃ q,q=rqOf (hparse bs).1 (bs.drop (hparse bs).2.1.toNat):=⟨_,rfl⟩
 have hh:q.h=(hparse bs).1:=by rw [hq];rfl
 rw [← hq] at hd
 rw [← hh]
 obtain ⟨_,dj2,_,z⟩:=dec_small hby hd
 have hn:∀ g∈q.gs.map cg,g.1.n=g.2.length:=fun g hg=>by
  obtain ⟨x,_,rfl⟩:=List.mem_map.1 hg
  rfl
 have he:=dec_enc hby hd (hrs:=q.h.rs) (gs:=q.gs.map cg) rfl (gds_cg _) hn
 obtain ⟨_,_,k3,k4⟩:=handle_ok (q:=q) (by rw [he]) hn (fun x hx=>(dj2 x hx).2) rfl (gds_cg _).symm rfl rfl
 obtain ⟨_,_,_,_,z5,z6,hp5,hpn,_⟩:=hcheck_zero z
 have hp0:0≤q.h.pts∧q.h.pts≤4096∧(q.h.op≠5→q.h.pts=0):=by
  by_cases h5:q.h.op=5
  · have:=hp5 h5;omega
  · have:=hpn h5;omega
 have hrl:q.h.rs.length≤64:=by
  by_cases h4:4≤q.h.op
  · exact (z5 h4).2.1
  · rw [z6 (by omega)];simp
 obtain ⟨v0,v3,hl,c0,c1,_⟩:=isAns_true k3 hp0.1
 have hs:hserve bs=ansBytes q.h.op (qAns q).val (qAns q).cnt (qAns q).recs:=by unfold hserve;rw [hd,if_neg (by simp)]
 have hlen:=ansBytes_len q.h.op (qAns q).val (qAns q).cnt (qAns q).recs
 have hrd:=read_respond z k3 (qAns_u64 fun x hx=>(dj2 x hx).2)
 obtain ⟨t,ht⟩:∃ t,ansBytes q.h.op (qAns q).val (qAns q).cnt (qAns q).recs=0::(qAns q).val::t:=⟨_,rfl⟩
 rw [hs]
 refine ⟨(qAns q).val,(qAns q).cnt,(qAns q).recs,t,ht,v0,v3,hrd,?_,z,?_,ansBytes_by v0 v3 c0 (by omega),by unfold maxLen;omega⟩
 · rw [hlen]
   unfold hresp
   rw [if_pos z]
   by_cases h5:q.h.op=5
   · rw [if_pos h5,if_pos h5];push_cast;omega
   · rw [if_neg h5,if_neg h5];have:=hp0.2.2 h5;push_cast;omega
 · rw [hlen];split <;> omega
end
section
open Go.RowKit
theorem ev_zip21:∀ (gs:List Gr) (hrs:List Rg) (i:Nat),gs.length=hrs.length→(∀ g∈gs,g.1.n=g.2.length)→(gs.zip hrs).any szBad=false→(gs.zip hrs).any kdBad=false→hrs.any wrongRg=false →
 fvEv i gs=hvEv i hrs∧fmEv i gs=hmEv i hrs∧fcheckL (gs.map (·.1))=0
 | [],[],_,_,_,_,_,_=>⟨rfl,rfl,rfl⟩
 | [],_::_,_,h,_,_,_,_=>by simp at h
 | _::_,[],_,h,_,_,_,_=>by simp at h
 | g::gs,r::hrs,i,hl,hn,hs,hk,hw=>by
   rw [List.zip_cons_cons,List.any_cons,Bool.or_eq_false_iff] at hs hk
   rw [List.any_cons,Bool.or_eq_false_iff] at hw
   obtain ⟨a1,a2,a3⟩:=ev_zip21 gs hrs (i+1) (by simpa using hl) (fun g' h=>hn g' (List.mem_cons_of_mem _ h)) hs.2 hk.2 hw.2
   have hgn:=hn g (List.mem_cons_self ..)
   have h1:(g.1.n:Int)=sizeOfReg r.v:=by have:=hs.1;unfold szBad at this;simpa using this
   have h2:g.1.v=r.v:=by
    have:=hk.1
    unfold kdBad at this
    rw [Bool.or_eq_false_iff] at this
    simpa using this.2
   have h3:sizeOfReg r.v≠0:=by have:=hw.1;unfold wrongRg at this;simpa using this
   have h4:rgVEv g.1.v g.2.length=hvEv1 r.v∧rgLEv g.1.v g.2.length=hmEv1 r.v:=by
    rw [h2,← hgn]
    unfold rgVEv hvEv1 rgLEv hmEv1
    by_cases h0:r.v=0
    · rw [if_pos h0,if_pos h0,if_pos h0,if_pos h0]
      have:g.1.n=3:=by rw [h0] at h1;have e:sizeOfReg 0=3:=rfl;omega
      rw [this]
      exact ⟨rfl,rfl⟩
    · rw [if_neg h0,if_neg h0,if_neg h0,if_neg h0]
      have hsz:3≤r.v∧r.v≤64∧sizeOfReg r.v=r.v:=by
       unfold sizeOfReg at h3 ⊢
       rw [if_neg h0] at h3 ⊢
       by_cases hb:3≤r.v∧r.v≤64
       · rw [if_pos hb];exact ⟨hb.1,hb.2,rfl⟩
       · rw [if_neg hb] at h3;exact absurd rfl h3
      have:g.1.n=r.v.toNat:=by omega
      rw [this]
      exact ⟨rfl,rfl⟩
   refine ⟨?_,?_,?_⟩
   · rw [fvEv,hvEv,a1,h4.1]
   · rw [fmEv,hmEv,a2,h4.2]
   · show fcheckL (g.1::gs.map (·.1))=0
     unfold fcheckL
     rw [h2,if_neg h3,if_pos h1.symm]
     exact a3
def hitemEv (rs:List Rg) (n:Nat):List Ev:=(List.range n).flatMap fun (i:Nat)=>(8,(i:Int),0)::hmEv 0 rs
def evB (rs:List Rg) (n:Nat):List Ev:=hvEv 0 rs++hitemEv rs n++cntEv n++pairEv (netw (lg n))
def evH21 (op vs:Int) (rs:List Rg) (pts:Int):List Ev:=if op=5 then evB rs pts.toNat else evH op vs rs
theorem rg_sizes {rs:List Rg} (h:rs.any wrongRg=false):∀ r∈rs,r.v=0∨3≤r.v∧r.v≤64:=fun r hr=>by
 have hw:wrongRg r=false:=by
  rw [List.any_eq_false] at h
  simpa using h r hr
 unfold wrongRg at hw
 have hs0:sizeOfReg r.v≠0:=by simpa using hw
 unfold sizeOfReg at hs0
 by_cases h0:r.v=0
 · exact .inl h0
 · rw [if_neg h0] at hs0
   by_cases hb:3≤r.v∧r.v≤64
   · exact .inr hb
   · rw [if_neg hb] at hs0;exact absurd rfl hs0
theorem handleEv_head {op vs pts:Int} {hrs:List Rg} {gs:List Gr} {ps:List Pt} {qs:List ((Int × Int) × Int)} (hn:∀ g∈gs,g.1.n=g.2.length) (h:(hencode op vs hrs pts gs ps qs).2=0) :
 handleEv op vs hrs pts gs ps qs=evH21 op vs hrs pts:=by
 obtain ⟨hc,hgl,hpl,hql,hsz,hkd⟩:=hencode_ok h
 obtain ⟨o1,o5,c3,c4,c5,c6,c7,_⟩:=hcheck_zero hc
 unfold handleEv evH21
 rw [if_neg (by simpa using h)]
 by_cases h5:op=5
 · rw [if_pos h5,if_pos h5]
   obtain ⟨hl1,hl64,hwr⟩:=c5 (by omega)
   obtain ⟨a1,a2,a3⟩:=ev_zip21 gs hrs 0 hgl hn hsz hkd hwr
   have hf:fcheck (gs.map (·.1))=0:=by
    unfold fcheck
    rw [if_neg (by rw [List.length_map];omega)]
    exact a3
   have hp:=c7 h5
   have hq:(qs.length:Int)=pts:=by rw [hql];unfold cntQ;rw [if_neg (by omega)]
   have hq2:pts.toNat=qs.length:=by omega
   have hb:bcheck gs qs.length=0:=by
    unfold bcheck
    rw [if_neg (by simpa using hf),if_neg (by omega)]
   unfold batchEv evB itemEv hitemEv fenceVEv fenceMEv
   rw [if_neg (by simpa using hb),if_pos hf,if_pos hf,a1,a2,hq2]
 · rw [if_neg h5,if_neg h5]
   unfold opEv evH
   by_cases h3:op=3
   · rw [if_pos h3,if_pos h3]
     have hv:=c3 h3
     have hl:(ps.length:Int)=vs+1:=by rw [h3] at hpl;exact hpl
     have e:ps.length - 1=vs.toNat:=by omega
     rw [e]
     rfl
   · rw [if_neg h3,if_neg h3]
     by_cases h4:op=4
     · rw [if_pos h4,if_pos h4]
       obtain ⟨hl1,hl64,hwr⟩:=c5 (by omega)
       obtain ⟨a1,a2,a3⟩:=ev_zip21 gs hrs 0 hgl hn hsz hkd hwr
       have hf:fcheck (gs.map (·.1))=0:=by
        unfold fcheck
        rw [if_neg (by rw [List.length_map];omega)]
        exact a3
       unfold fenceEv fenceVEv fenceMEv
       rw [if_pos hf,if_pos hf,a1,a2]
     · rw [if_neg h4,if_neg h4]
theorem serveEv_head {bs:List Int} (hby:By bs) (hc:hclass bs=0) :
 serveEv bs=evH21 (hparse bs).1.op (hparse bs).1.vs (hparse bs).1.rs (hparse bs).1.pts∧hcheck (hparse bs).1.op (hparse bs).1.vs (hparse bs).1.rs (hparse bs).1.pts=0∧((hdecode bs).1.qs.length:Int)=cntQ (hparse bs).1.op (hparse bs).1.pts:=by
 have hd:hdecode bs=(rqOf (hparse bs).1 (bs.drop (hparse bs).2.1.toNat),0):=by unfold hdecode;rw [if_pos hc]
 obtain ⟨q,hq⟩:∃ q,q=rqOf (hparse bs).1 (bs.drop (hparse bs).2.1.toNat):=⟨_,rfl⟩
 have hh:q.h=(hparse bs).1:=by rw [hq];rfl
 rw [← hq] at hd
 rw [← hh]
 obtain ⟨_,dj2,_,z⟩:=dec_small hby hd
 have hn:∀ g∈q.gs.map cg,g.1.n=g.2.length:=fun g hg=>by
  obtain ⟨x,_,rfl⟩:=List.mem_map.1 hg
  rfl
 have he:=dec_enc hby hd (hrs:=q.h.rs) (gs:=q.gs.map cg) rfl (gds_cg _) hn
 obtain ⟨_,k2,k3,k4⟩:=handle_ok (q:=q) (by rw [he]) hn (fun x hx=>(dj2 x hx).2) rfl (gds_cg _).symm rfl rfl
 have hk:=handleEv_head hn (by rw [he]:(hencode q.h.op q.h.vs q.h.rs q.h.pts (q.gs.map cg) q.ps q.qs).2=0)
 refine ⟨?_,z,?_⟩
 · unfold serveEv
   rw [hd,if_neg (by simp),← k2,hk]
 · rw [hd]
   exact (hencode_ok (by rw [he]:(hencode q.h.op q.h.vs q.h.rs q.h.pts (q.gs.map cg) q.ps q.qs).2=0)).2.2.2.1
theorem serveEv_bad {bs:List Int} (hc:hclass bs≠0):serveEv bs=[]:=by
 have hd:hdecode bs=(rqZero,hclass bs):=by unfold hdecode;rw [if_neg hc]
 unfold serveEv;rw [hd,if_pos hc]
end
section
open Go.RowKit Go.Shelf
theorem hitemEv_snoc (rs:List Rg) (k:Nat):hitemEv rs (k+1)=hitemEv rs k++[(8,(k:Int),0)]++hmEv 0 rs:=by
 unfold hitemEv
 rw [List.range_succ,List.flatMap_append]
 simp
theorem hmEv1_64 (v:Int):(hmEv1 v).length≤64:=by
 unfold hmEv1
 split
 · simp
 · rw [locEv_length,List.length_range];unfold edgeN;split <;> omega
theorem hmEv_65:∀ (i:Nat) (l:List Rg),(hmEv i l).length≤65*l.length
 | i,[]=>by simp [hmEv]
 | i,x::l=>by
   have h:=hmEv_65 (i+1) l
   have h2:=hmEv1_64 x.v
   simp only [hmEv,List.length_cons,List.length_append]
   omega
theorem hitemEv_len {rs:List Rg} (h:rs.length≤64):∀ k,(hitemEv rs k).length≤4161*k
 | 0=>by simp [hitemEv]
 | k+1=>by
   have h1:=hitemEv_len h k
   have h2:=hmEv_65 0 rs
   rw [hitemEv_snoc,List.length_append,List.length_append,List.length_singleton]
   omega
theorem rrecEv (rs:List Rg) (A:Option Addr) (c n:Nat) (w:World) (hs:Sl w w.heap.size A (rgCells rs)) (hrl:rs.length≤64) (hv:∀ r∈rs,r.v=0∨3≤r.v∧r.v≤64) (hn:n≤100) :
 Calls Tryz.prog 109 #[.slice A rs.length c,.int .i64 (n:Int)] w (Evo (hvEv 0 rs++hitemEv rs n) w):=by
 obtain ⟨i0,hi,hz0,hz1,hz2⟩:=info_parts ev_info
 have HV:=hide (fun (w':World) (hb:Below w.heap.size w w')=>rhvEv_any rs A c w' ((hs.below hb).more hb.size) hrl hv)
 have HM:=hide (fun (w':World) (hb:Below w.heap.size w w')=>rhmEv_any rs A c w' ((hs.below hb).more hb.size) hrl hv)
 have HIS:=hide (hitemEv_snoc rs)
 have HIL:=hide (fun k=>hitemEv_len hrl k)
 have hvl:=hvEv_length 0 rs
 have hml:=hmEv_65 0 rs
 have hi0:hitemEv rs 0=[]:=rfl
 obtain ⟨E0,hE0⟩:∃ E,E=hvEv 0 rs:=⟨_,rfl⟩
 obtain ⟨E1,hE1⟩:∃ E,E=hmEv 0 rs:=⟨_,rfl⟩
 obtain ⟨it,hit⟩:∃ f,f=hitemEv rs:=⟨_,rfl⟩
 rw [← hE0] at HV hvl ⊢
 rw [← hE1] at HM HIS hml
 rw [← hit] at HIS HIL hi0 ⊢
 have HML:Hid (E1.length≤300000):=hide (by omega)
 obtain ⟨F,hF⟩:∃ F:Nat→List Ev,F=fun k=>E0++it k:=⟨_,rfl⟩
 have HF0:Hid (F 0=E0):=hide (by rw [hF];dsimp only;rw [hi0,List.append_nil])
 have HFS:Hid (∀ k,F (k+1)=F k++[(8,(k:Int),0)]++E1):=hide (fun k=>by rw [hF];dsimp only;rw [HIS.out,List.append_assoc,List.append_assoc,List.append_assoc])
 have HFL:Hid (∀ k,k≤n→(F k).length≤900000):=hide (fun k hk=>by have:=HIL.out k;rw [hF];dsimp only;rw [List.length_append];omega)
 have hFn:E0++it n=F n:=by rw [hF]
 rw [hFn]
 clear hFn hF HIS HIL hi0 hE0 hE1 hit hvl hml hs hv
 go_enter Tryz.func109,Tryz.ntmps109
 go_wp2_with fail
 refine (HV.out w (Below.refl _ _)).mono ?_
 rintro e w1 ⟨v1,rfl,hown1,hb1⟩
 clear HV
 go_wp2
 go_loopw [5,6] (fun o i wr=>∃ k:Nat,k≤n∧i=.int .i64 (k:Int)∧wr.ownsRow w.heap.size 66 3 o (F k).length (evCs (F k))∧Below w.heap.size w wr)
  (fun _ i _=>n - (intOf i).toNat)
 case atStart=>exact ⟨0,Nat.zero_le _,rfl,by rw [HF0.out];exact hown1,hb1⟩
 case round =>
  clear hown1 hb1
  obtain ⟨k,hk,rfl,hown,hbr⟩:=hrel
  obtain ⟨OA,oc,rfl,hoc⟩:=own_slice hown
  by_cases hkn:k<n
  · have hki:(k:Int)<(n:Int):=by omega
    have hlk:=HFL.out k hk
    have HSN:=hide (HFS.out k)
    obtain ⟨X,hX⟩:∃ X,X=F k:=⟨_,rfl⟩
    rw [← hX] at hown hlk HSN
    rw [← hX]
    clear hX
    have hbz:=bl_alloc (Below.refl wr.heap.size wr) (.cells #[.int .i64 8,.int .i64 (k:Int),.int .i64 0] 66)
    have N6:=Blk.new wr 66 #[.int .i64 8,.int .i64 (k:Int),.int .i64 0]
    have hownx:=own_step hown hbz
    have hwx:=bl_step hbr hbz
    obtain ⟨g7,cap7,w7,hrun,hown7,hgrow7,_,_⟩:=run_append_lies (P:=Tryz.prog) (wr.alloc (.cells #[.int .i64 8,.int .i64 (k:Int),.int .i64 0] 66)) 27 27 w.heap.size 66 i0 (.agg #[.int .i64 0,.int .i64 0,.int .i64 0]) 3 24 Tryz.underlying27 hi hz0 hz1 hz2 rfl (by decide) _ X.length (evCs X) hownx ⟨wr.heap.size,0,none⟩ 1 1 [.int .i64 8,.int .i64 (k:Int),.int .i64 0] rfl (fun j u hu=>by rw [add_zero_off];exact N6.cell (by simpa using hu)) (by simp [Value.oneCell']) (by omega) (by unfold maxLen;omega) (by omega) hwx.size _ rfl
    have hw7:Below w.heap.size w w7:=hwx.grown hgrow7 hwx.size (fun j hj=>own_base hownx hj)
    have HO7:Hid (w7.ownsRow w.heap.size 66 3 (.slice (some ⟨g7,0,none⟩) (X.length+1) cap7) (X++[(8,(k:Int),0)]).length (evCs (X++[(8,(k:Int),0)]))):=hide (by rw [evCs_snoc,List.length_append];exact hown7)
    clear hown7 hgrow7 N6 hownx hwx hbz hown hbr
    go_wp2_with (at_builtin;refine wpList_append_run (.tmp 14) (.tmp 17) 27 rfl rfl _ _ rfl rfl hrun ?_)
    clear hrun
    go_wp2_with fail
    refine (HM.out w7 hw7).mono ?_
    rintro e w8 ⟨v8,rfl,hown8,hb8⟩
    have HB8:=bl_step hw7 hb8
    obtain ⟨v9,w9,hrun9,hown9,hbl9⟩:=ev_app_own (X++[(8,(k:Int),0)]) E1 _ v8 w.heap.size w7.heap.size w8 (own_step HO7.out hb8) hown8 (by rw [List.length_append,List.length_singleton];omega) (by have:=HML.out;omega) HB8.size
    have HB9:=hbl9 w HB8 (Nat.le_refl _)
    have HO9:Hid (w9.ownsRow w.heap.size 66 3 v9 (F (k+1)).length (evCs (F (k+1)))):=hide (by rw [HSN.out];exact hown9)
    clear hown9 hbl9 hown8 hb8 HO7
    go_wp2_with (at_builtin;refine wpList_append_run (.tmp 19) (.tmp 21) 27 rfl rfl _ _ rfl rfl hrun9 ?_)
    clear hrun9
    go_wp2
    go_roundw
    case rel=>exact ⟨k+1,by omega,by go_num,HO9.out,HB9⟩
    case measure=>simp [intOf];omega
  · obtain rfl:k=n:=by omega
    have hki:¬ (k:Int)<(k:Int):=by omega
    go_wp2
    go_ret
    exact ⟨_,rfl,hown,hbr⟩
theorem netw_100 {n:Nat} (h:n≤100):(netw (lg n)).length≤20000:=by
 have h1:∀ m:Fin 101,(netw (lg m.val)).length≤20000:=by decide +kernel
 exact h1 ⟨n,by omega⟩
theorem rev20 (rs:List Rg) (A:Option Addr) (c n:Nat) (w:World) (hs:Sl w w.heap.size A (rgCells rs)) (hrl:rs.length≤64) (hv:∀ r∈rs,r.v=0∨3≤r.v∧r.v≤64) (h1:1≤n) (hn:n≤100) :
 Calls Tryz.prog 65 #[.slice A rs.length c,.int .i64 (n:Int)] w (Evo (evB rs n) w):=by
 have HR:=hide (rrecEv rs A c n w hs hrl hv hn)
 have HC:=hide (fun w'=>rcntEv11 n (by omega) w')
 have HS:=hide (fun w'=>rsortEv n h1 hn w')
 have hlv:=hvEv_length 0 rs
 have hli:=hitemEv_len hrl n
 have hl3:=cntEv_len n
 have hl4:=pairEv_len (netw (lg n))
 have hl5:=netw_100 hn
 have he:evB rs n=(hvEv 0 rs++hitemEv rs n)++cntEv n++pairEv (netw (lg n)):=rfl
 rw [he]
 obtain ⟨X,hX⟩:∃ X,X=hvEv 0 rs++hitemEv rs n:=⟨_,rfl⟩
 have hlx:X.length≤1000000:=by rw [hX,List.length_append];omega
 obtain ⟨Y,hY⟩:∃ Y,Y=cntEv n:=⟨_,rfl⟩
 obtain ⟨Z,hZ⟩:∃ Z,Z=pairEv (netw (lg n)):=⟨_,rfl⟩
 rw [← hX] at HR ⊢
 rw [← hY] at HC hl3 ⊢
 rw [← hZ] at HS hl4 ⊢
 have HLX:=hide hlx
 have HLY:Hid (Y.length≤1000):=hide (by omega)
 have HLZ:Hid (Z.length≤20000):=hide (by omega)
 clear he hX hY hZ hlx hlv hli hl3 hl4 hl5 hs hv
 go_enter Tryz.func65,Tryz.ntmps65
 go_wp2_with fail
 refine HR.out.mono ?_
 rintro e w1 ⟨v1,rfl,hown1,hb1⟩
 clear HR
 have HO1:=hide hown1
 clear hown1
 go_wp2_with fail
 refine (HC.out w1).mono ?_
 rintro e w2 ⟨v2,rfl,hown2,hb2⟩
 have HB2:=bl_step hb1 hb2
 obtain ⟨v3,w3,hrun3,hown3,hbl3⟩:=ev_app_own X Y v1 v2 w.heap.size w1.heap.size w2 (own_step HO1.out hb2) hown2 (by have:=HLX.out;omega) (by have:=HLY.out;omega) HB2.size
 have HB3:=hbl3 w HB2 (Nat.le_refl _)
 have HO3:=hide hown3
 clear hown3 hown2 hbl3 hb2 hb1 HO1 HC
 go_wp2_with (at_builtin;refine wpList_append_run (.tmp 8) (.tmp 10) 27 rfl rfl _ _ rfl rfl hrun3 ?_)
 clear hrun3
 go_wp2_with fail
 refine (HS.out w3).mono ?_
 rintro e w4 ⟨v4,rfl,hown4,hb4⟩
 have HB4:=bl_step HB3 hb4
 obtain ⟨v5,w5,hrun5,hown5,hbl5⟩:=ev_app_own (X++Y) Z v3 v4 w.heap.size w3.heap.size w4 (own_step HO3.out hb4) hown4 (by have h1:=HLX.out;have h2:=HLY.out;rw [List.length_append];omega) (by have:=HLZ.out;omega) HB4.size
 have HB5:=hbl5 w HB4 (Nat.le_refl _)
 have HO5:=hide hown5
 clear hown5 hown4 hbl5 hb4 HO3 HS
 go_wp2_with (at_builtin;refine wpList_append_run (.tmp 12) (.tmp 14) 27 rfl rfl _ _ rfl rfl hrun5 ?_)
 clear hrun5
 go_wp2
 go_ret
 exact ⟨_,rfl,HO5.out,HB5⟩
end
section
open Go.RowKit Go.Shelf
theorem rev21 (op vs pts:Int) (rs:List Rg) (HA:Option Addr) (hc:Nat) (w:World) (hh:Sl w w.heap.size HA (rgCells rs)) (hz:hcheck op vs rs pts=0) (h100:op=5→pts≤100) :
 Calls Tryz.prog 34 #[.agg #[.int .i64 op,.int .i64 vs,.slice HA rs.length hc,.int .i64 pts]] w (Evs (evH21 op vs rs pts) w):=by
 obtain ⟨-,-,c3,-,c5,-,c7,-⟩:=hcheck_zero hz
 have N0:=Blk.new w 24 #[.int .i64 op,.int .i64 vs,.slice HA rs.length hc,.int .i64 pts]
 have hb0:=bl_alloc (Below.refl w.heap.size w) (.cells #[.int .i64 op,.int .i64 vs,.slice HA rs.length hc,.int .i64 pts] 24)
 have b0:=N0.cell (i:=0) rfl
 have b1:=N0.cell (i:=1) rfl
 have b2:=N0.cell (i:=2) rfl
 have b3:=N0.cell (i:=3) rfl
 by_cases h5:op=5
 · subst h5
   obtain ⟨l1,l64,hwr⟩:=c5 (by omega)
   obtain ⟨p1,-⟩:=c7 rfl
   have p100:=h100 rfl
   obtain ⟨n,rfl⟩:∃ n:Nat,pts=(n:Int):=⟨pts.toNat,by omega⟩
   have H:=hide (rev20 rs HA hc n _ ((hh.below hb0).more hb0.size) l64 (rg_sizes hwr) (by omega) (by omega))
   have he:evH21 5 vs rs (n:Int)=evB rs n:=rfl
   rw [he]
   clear c3 c5 c7 hwr hz h100 hh he N0 p1 p100 l1 l64
   go_enter Tryz.func34,Tryz.ntmps34
   go_wp2_with fail
   refine H.out.mono ?_
   rintro e w1 ⟨v,rfl,hown,hb1⟩
   obtain ⟨A,c,rfl,_⟩:=own_slice hown
   go_wp2
   go_ret
   exact ⟨A,c,rfl,Sl.of_own hown,bl_step hb0 hb1⟩
 · have H:=hide (revents_any op vs pts rs HA hc _ ((hh.below hb0).more hb0.size) c3 (fun h=>⟨(c5 (by omega)).1,(c5 (by omega)).2.1,rg_sizes (c5 (by omega)).2.2⟩))
   have he:evH21 op vs rs pts=evH op vs rs:=if_neg h5
   rw [he]
   clear c3 c5 c7 hz h100 hh he N0
   go_enter Tryz.func34,Tryz.ntmps34
   go_wp2_with fail
   refine H.out.mono ?_
   rintro e w1 ⟨A,c,rfl,hs,hb1⟩
   go_wp2
   go_ret
   exact ⟨A,c,rfl,hs,bl_step hb0 hb1⟩
section
variable (bs:List Int) (A:Option Addr) (c:Nat) (w:World)
variable (hs:Sl w w.heap.size A (byCells bs)) (hby:By bs) (h100:(hdecode bs).1.qs.length≤100)
include hby h100
theorem ev_pts (hc:hclass bs=0):(hparse bs).1.op=5→(hparse bs).1.pts≤100:=fun h5=>by
 have h:=(serveEv_head hby hc).2.2
 unfold cntQ at h
 rw [if_neg (by omega)] at h
 omega
theorem serveEv_len:(serveEv bs).length≤1000000:=by
 by_cases hc:hclass bs=0
 · obtain ⟨he,hz,_⟩:=serveEv_head hby hc
   have hp:=ev_pts bs hby h100 hc
   obtain ⟨_,_,c3,_,c5,_,c7,_⟩:=hcheck_zero hz
   rw [he]
   obtain ⟨⟨op,vs,rs,pts⟩,hP⟩:∃ r,r=(hparse bs).1:=⟨_,rfl⟩
   rw [← hP] at hp c3 c5 c7 ⊢
   dsimp only at hp c3 c5 c7 ⊢
   unfold evH21
   by_cases h5:op=5
   · rw [if_pos h5]
     have h1:=hp h5
     have h2:=c7 h5
     obtain ⟨_,l64,_⟩:=c5 (by omega)
     have a1:=hvEv_length 0 rs
     have a2:=hitemEv_len l64 pts.toNat
     have a3:=cntEv_len pts.toNat
     have a4:=pairEv_len (netw (lg pts.toNat))
     have a5:=netw_100 (n:=pts.toNat) (by omega)
     unfold evB
     rw [List.length_append,List.length_append,List.length_append]
     omega
   · rw [if_neg h5]
     unfold evH
     split
     · have a1:=rgVEv_len vs.toNat
       have a2:=locEv_length (List.range (edgeN vs.toNat))
       have a3:=(edgeN_le vs.toNat).2
       rw [List.length_range] at a2
       rw [List.length_append]
       omega
     · split
       · obtain ⟨_,l64,_⟩:=c5 (by omega)
         have a1:=hvEv_length 0 rs
         have a2:=hmEv_65 0 rs
         rw [List.length_append]
         omega
       · simp
 · rw [serveEv_bad hc];simp
include hs
end
end
section
open Go.RowKit Go.Shelf
theorem lg_100e {n:Nat} (h:n≤100):4161*n+(netw (lg n)).length≤600000:=by
 have:=netw_100 h
 omega
section
variable (bs:List Int) (A:Option Addr) (c:Nat) (w:World)
variable (hs:Sl w w.heap.size A (byCells bs)) (hcap:bs.length≤c) (hby:By bs) (hfix:Fixed w) (hg:1<w.heap.size) (hw:MW w)
include hs hcap hby hfix hg hw
end
end
end Go.Proofs.YtfljlmleiggmjaaGreatDoor
