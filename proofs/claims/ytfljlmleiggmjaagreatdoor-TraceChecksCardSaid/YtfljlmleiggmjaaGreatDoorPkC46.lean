/- Req21 SkipB21 RefEv21 LawEvents21 -/
import Derived.Laws.BytesArg
import Derived.Test.YtfljlmleiggmjaaGreatDoorPkC14
import Derived.Test.YtfljlmleiggmjaaGreatDoorPkC40
set_option maxRecDepth 1000000
set_option maxHeartbeats 8000000
namespace Go.Proofs.YtfljlmleiggmjaaGreatDoor
section
open Go.RowKit Go.Shelf
structure ReqW (w:World) (hrs:List Rg) (HA:Option Addr) (gs:List Gr) (GA:Option Addr) (ps:List Pt) (PA:Option Addr) (pc:Nat) (qs:List ((Int × Int) × Int)) (QA:Option Addr):Prop where
 hh:Sl w w.heap.size HA (rgCells hrs)
 hn:hrs.length≤maxLen
 hg:Sl w w.heap.size GA (rgCells (gs.map (·.1)))
 gn:gs.length≤maxLen
 gk:GsOk w w.heap.size gs
 gj:∀ g∈gs,PsJ g.2
 hp:Sl w w.heap.size PA (ptCs ps)
 pj:PsJ ps
 cap:ps.length≤pc
 hq:Sl w w.heap.size QA (quCs qs)
 qj:∀ q∈qs,PJ q.1
 qu:∀ q∈qs,U64 q.2
section
variable {w:World} {hrs:List Rg} {HA:Option Addr} {gs:List Gr} {GA:Option Addr} {ps:List Pt} {PA:Option Addr} {pc:Nat} {qs:List ((Int × Int) × Int)} {QA:Option Addr}
theorem ReqW.below {w':World} (h:ReqW w hrs HA gs GA ps PA pc qs QA) (hb:Below w.heap.size w w'):ReqW w' hrs HA gs GA ps PA pc qs QA :=
 ⟨(h.hh.below hb).more hb.size,h.hn,(h.hg.below hb).more hb.size,h.gn,fun g hg=>⟨(h.gk g hg).1,((h.gk g hg).2.below hb).more hb.size⟩,h.gj,(h.hp.below hb).more hb.size,h.pj,h.cap,(h.hq.below hb).more hb.size,h.qj,h.qu⟩
theorem ReqW.len (h:ReqW w hrs HA gs GA ps PA pc qs QA):∀ g∈gs,g.1.n=g.2.length:=fun g hg=>(h.gk g hg).1
end
theorem By.append {a b:List Int} (ha:By a) (hb:By b):By (a++b):=fun x hx=>by
 rcases List.mem_append.1 hx with h | h
 · exact ha x h
 · exact hb x h
end
section
open Go.RowKit Go.Shelf
theorem regsOf_length:∀ (rs:List Rg) (bs:List Int),(regsOf rs bs).length=rs.length
 | [],_=>rfl
 | r::rs,bs=>by simp [regsOf,regsOf_length rs]
theorem regsOf_pts:∀ (rs:List Rg) (bs:List Int),∀ g∈regsOf rs bs,g.2.2.length≤64
 | [],_,g,h=>by simp [regsOf] at h
 | r::rs,bs,g,h=>by
   simp only [regsOf,List.mem_cons] at h
   rcases h with rfl | h
   · dsimp only;rw [ptsOf_length];exact sizeN_le _
   · exact regsOf_pts rs _ g h
structure SmallRq (q:Rq):Prop where
 n1:q.h.rs.length≤64
 n2:q.gs.length≤64
 n3:q.ps.length≤65
 n4:q.qs.length≤4096
 n5:∀ g∈q.gs,g.2.2.length≤64
theorem hdecode_small (bs:List Int):SmallRq (hdecode bs).1:=by
 unfold hdecode
 by_cases hc:hclass bs=0
 · rw [if_pos hc]
   obtain ⟨h,n,er,hp⟩:∃ h n er,hparse bs=(h,n,er):=⟨_,_,_,rfl⟩
   obtain ⟨_,hk,_⟩:=dec_facts hp hc
   obtain ⟨_,_,h3,h4,h5⟩:=cnt_bd hk
   rw [hp]
   refine ⟨h3,?_,?_,?_,?_⟩
   · simp only [rqOf];rw [regsOf_length];exact h3
   · simp only [rqOf];rw [ptsOf_length];omega
   · simp only [rqOf];rw [qusOf_length];omega
   · exact fun g hg=>regsOf_pts _ _ g hg
 · rw [if_neg hc]
   exact ⟨by simp [rqZero,phZero],by simp [rqZero],by simp [rqZero],by simp [rqZero],fun g hg=>by simp [rqZero] at hg⟩
def SkB (bs:List Int) (w:World) (e:Ending) (w':World):Prop:=∃ z:Int,e=.returned (.int .i64 z)∧(z=0∨z=1)∧(z=0→bs.length≤6000∧(hdecode bs).1.qs.length≤100)∧Below w.heap.size w w'
section
variable (bs:List Int) (A:Option Addr) (c:Nat) (w:World)
variable (hs:Sl w w.heap.size A (byCells bs)) (hby:By bs)
include hs hby
theorem skipB21:Calls Tryz.prog 16 #[.slice A bs.length c] w (SkB bs w):=by
 by_cases hl:bs.length≤6000
 · have hD:=rdecode_any bs A c w hs hby (by omega)
   have hqz:(hdecode bs).2≠0→(hdecode bs).1.qs.length≤100:=fun h=>by
    unfold hdecode at h ⊢
    by_cases hc:hclass bs=0
    · rw [if_pos hc] at h;exact absurd rfl h
    · rw [if_neg hc];simp [rqZero]
   have hsm:=hdecode_small bs
   obtain ⟨⟨q,er⟩,hr⟩:∃ r,hdecode bs=r:=⟨_,rfl⟩
   have HP:Hid (∀ e w',(∃ z:Int,e=.returned (.int .i64 z)∧(z=0∨z=1)∧(z=0→q.qs.length≤100)∧Below w.heap.size w w')→SkB bs w e w'):=hide fun e w' ⟨z,h1,h2,h3,h4⟩=>⟨z,h1,h2,fun h=>⟨hl,by rw [hr];exact h3 h⟩,h4⟩
   rw [hr] at hD hqz hsm
   dsimp only at hqz hsm
   have HD:=hide hD
   have HSM:=hide hsm
   have hl':¬ (6000:Int)<((bs.length:Nat):Int):=by omega
   clear hs hby hr hD hsm hl
   go_enter Tryz.func16,Tryz.ntmps16
   go_wp2_with fail
   refine HD.out.mono ?_
   rintro e w1 ⟨hrs,HA,hc,gs,GA,gc,PA,pc,QA,qc,rfl,hb1,hr1,_⟩
   clear HD
   unfold rqVal
   dsimp only
   obtain ⟨rb,hrb⟩:∃ rb,rb=w1.heap.size:=⟨_,rfl⟩
   obtain ⟨w2,hw2⟩:∃ w2,w2=w1.alloc (.cells #[.int .i64 q.h.op,.int .i64 q.h.vs,.slice HA hrs.length hc,.int .i64 q.h.pts,.slice GA gs.length gc,.slice PA q.ps.length pc,.slice QA q.qs.length qc] 73):=⟨_,rfl⟩
   have hb2:Below w1.heap.size w1 w2:=by rw [hw2];exact bA
   have HB2:=bl_step hb1 hb2
   have B2:Blk w2 rb 73 #[.int .i64 q.h.op,.int .i64 q.h.vs,.slice HA hrs.length hc,.int .i64 q.h.pts,.slice GA gs.length gc,.slice PA q.ps.length pc,.slice QA q.qs.length qc]:=by rw [hw2,hrb];exact Blk.new _ _ _
   have hgl:gs.length≤maxLen:=by
    have:=congrArg List.length hr1.gd
    rw [List.length_map] at this
    dsimp only at this
    have:=HSM.out.n2
    unfold maxLen
    omega
   have HS:=hide (skip21 q.h.op q.h.vs q.h.pts hrs HA hc gs GA gc q.ps PA pc q.qs QA qc w2 ((hr1.hg.below hb2).more hb2.size) hgl)
   by_cases he:er=0
   · subst he
     have b0:w2.cell? ⟨rb,0,none⟩=some (.int .i64 q.h.op):=B2.cell (i:=0) rfl
     have b1:w2.cell? ⟨rb,1,none⟩=some (.int .i64 q.h.vs):=B2.cell (i:=1) rfl
     have b2:w2.cell? ⟨rb,2,none⟩=some (.slice HA hrs.length hc):=B2.cell (i:=2) rfl
     have b3:w2.cell? ⟨rb,3,none⟩=some (.int .i64 q.h.pts):=B2.cell (i:=3) rfl
     have b4:w2.cell? ⟨rb,4,none⟩=some (.slice GA gs.length gc):=B2.cell (i:=4) rfl
     have b5:w2.cell? ⟨rb,5,none⟩=some (.slice PA q.ps.length pc):=B2.cell (i:=5) rfl
     have b6:w2.cell? ⟨rb,6,none⟩=some (.slice QA q.qs.length qc):=B2.cell (i:=6) rfl
     rw [hw2,hrb] at b0 b1 b2 b3 b4 b5 b6
     clear B2 hb1 hb2 hr1 hgl hqz
     go_wp2_with fail
     rw [← hw2]
     clear b0 b1 b2 b3 b4 b5 b6 hw2 hrb
     refine HS.out.mono ?_
     rintro e w3 ⟨z,rfl,hz,hT,hb3⟩
     have HB3:=bl_step HB2 hb3
     have HT:=hide hT
     clear hT hb3 HS
     go_wp2
     go_ret
     exact HP.out _ _ ⟨z,rfl,hz,fun h=>(HT.out h).2.2.2.1,HB3⟩
   · have hne:(er != 0)=true:=by simpa using he
     have hq:=hqz he
     rw [hw2] at HB2
     clear HS B2 hr1 he hqz hw2
     go_wp2
     go_ret
     exact HP.out _ _ ⟨0,rfl,.inl rfl,fun _=>hq,HB2⟩
 · have hl':(6000:Int)<((bs.length:Nat):Int):=by omega
   go_enter Tryz.func16,Tryz.ntmps16
   go_wp2
   go_ret
   exact ⟨1,rfl,.inr rfl,fun h=>by omega,Below.refl _ _⟩
end
end
section
open Go.RowKit Go.Shelf
section
variable (bs:List Int) (A:Option Addr) (c:Nat) (w:World)
variable (hs:Sl w w.heap.size A (byCells bs)) (hby:By bs) (h100:(hdecode bs).1.qs.length≤100)
include hby h100
theorem ev_pts (hc:hclass bs=0):(hparse bs).1.op=5→(hparse bs).1.pts≤100:=fun h5=>by
 have h:=(serveEv_head hby hc).2.2
 unfold cntQ at h
 rw [if_neg (by omega)] at h
 omega
theorem serveEv_len:(serveEv bs).length≤1000000:=by
 by_cases hc:hclass bs=0
 · obtain ⟨he,hz,_⟩:=serveEv_head hby hc
   have hp:=ev_pts bs hby h100 hc
   obtain ⟨_,_,c3,_,c5,_,c7,_⟩:=hcheck_zero hz
   rw [he]
   obtain ⟨⟨op,vs,rs,pts⟩,hP⟩:∃ r,r=(hparse bs).1:=⟨_,rfl⟩
   rw [← hP] at hp c3 c5 c7 ⊢
   dsimp only at hp c3 c5 c7 ⊢
   unfold evH21
   by_cases h5:op=5
   · rw [if_pos h5]
     have h1:=hp h5
     have h2:=c7 h5
     obtain ⟨_,l64,_⟩:=c5 (by omega)
     have a1:=hvEv_length 0 rs
     have a2:=hitemEv_len l64 pts.toNat
     have a3:=cntEv_len pts.toNat
     have a4:=pairEv_len (netw (lg pts.toNat))
     have a5:=netw_100 (n:=pts.toNat) (by omega)
     unfold evB
     rw [List.length_append,List.length_append,List.length_append]
     omega
   · rw [if_neg h5]
     unfold evH
     split
     · have a1:=rgVEv_len vs.toNat
       have a2:=locEv_length (List.range (edgeN vs.toNat))
       have a3:=(edgeN_le vs.toNat).2
       rw [List.length_range] at a2
       rw [List.length_append]
       omega
     · split
       · obtain ⟨_,l64,_⟩:=c5 (by omega)
         have a1:=hvEv_length 0 rs
         have a2:=hmEv_65 0 rs
         rw [List.length_append]
         omega
       · simp
 · rw [serveEv_bad hc];simp
include hs
end
end
section
open Go.RowKit Go.Shelf
theorem lg_100e {n:Nat} (h:n≤100):4161*n+(netw (lg n)).length≤600000:=by
 have:=netw_100 h
 omega
section
variable (bs:List Int) (A:Option Addr) (c:Nat) (w:World)
variable (hs:Sl w w.heap.size A (byCells bs)) (hcap:bs.length≤c) (hby:By bs) (hfix:Fixed w) (hg:1<w.heap.size) (hw:MW w)
include hs hcap hby hfix hg hw
end
end
end Go.Proofs.YtfljlmleiggmjaaGreatDoor
