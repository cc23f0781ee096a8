/- Serve RefServe21 LawResponds21 -/
import Derived.Defers
import Derived.Test.YtpnoofphfomjoaaGreatDoorPkM17
import Derived.Test.YtpnoofphfomjoaaGreatDoorPkM39
import Derived.Test.YtpnoofphfomjoaaGreatDoorPkM41
import Derived.Test.YtpnoofphfomjoaaGreatDoorPkM42
import Derived.Test.YtpnoofphfomjoaaGreatDoorPkM56
set_option maxRecDepth 1000000
set_option maxHeartbeats 8000000
namespace Go.Proofs.YtpnoofphfomjoaaGreatDoor
section
open Go.RowKit Go.Shelf Go.Maps
theorem new_fresh (w:World):Calls Tryz.prog 24 #[] w fun e w'=>e=.returned (.pointer (tapeA (newT w)))∧Below w.heap.size w w'∧FreshT w' (newT w):=by
 have hmm:=@run_makeMap Tryz.prog
 go_enter Tryz.func24,Tryz.ntmps24
 go_wp2
 go_ret
 refine ⟨rfl,bl_alloc (bA) _,?_,(World.ownsMap_made w Tryz.prog 3 (plainElem Tryz.prog 3)).alloc _⟩
 have h:=Blk.new (w.alloc (.map #[] 0)) 119 #[.slice none 0 0,.map (some w.heap.size)]
 rw [World.size_alloc] at h
 exact h
end
section
open Go.RowKit Go.Shelf
theorem req_dec {w:World} {q:Rq} {bs:List Int} {hrs:List Rg} {HA:Option Addr} {gs:List Gr} {GA PA QA:Option Addr} {pc:Nat} (hby:By bs) (hd:hdecode bs=(q,0)) (h:ReadsRq w w.heap.size q hrs HA gs GA PA QA) (hcap:q.ps.length≤pc):ReqW w hrs HA gs GA q.ps PA pc q.qs QA:=by
 obtain ⟨dj1,dj2,dj3,_⟩:=dec_small hby hd
 have hsm:=hdecode_small bs
 rw [hd] at hsm
 dsimp only at hsm
 have hl1:hrs.length≤64:=by
  have:=congrArg List.length h.hk
  rw [List.length_map,List.length_map] at this
  have:=hsm.n1
  omega
 have hl2:gs.length≤64:=by
  have:=congrArg List.length h.gd
  rw [List.length_map] at this
  have:=hsm.n2
  omega
 refine ⟨h.hh,by unfold maxLen;omega,h.hg,by unfold maxLen;omega,h.gk,fun g hg=>?_,h.hp,dj1,hcap,h.hq,fun x hx=>(dj2 x hx).1,fun x hx=>(dj2 x hx).2⟩
 have:gdOf g∈q.gs:=by rw [← h.gd];exact List.mem_map.2 ⟨g,hg,rfl⟩
 exact (dj3 _ this).1
section
variable (bs:List Int) (A:Option Addr) (c:Nat) (w:World)
variable (hs:Sl w w.heap.size A (byCells bs)) (hby:By bs) (hmax:bs.length≤300000)
include hs hby hmax
theorem rserve:Calls Tryz.prog 22 #[.slice A bs.length c] w (Gives (hserve bs) (hserve bs).length w):=by
 have HD:=hide (rdecode_any bs A c w hs hby hmax)
 have hcb:=hclass_bd bs
 by_cases hc:hclass bs=0
 · obtain ⟨q,hd⟩:∃ q,hdecode bs=(q,0):=⟨_,by unfold hdecode;rw [if_pos hc]⟩
   have hsv:hserve bs=ansBytes q.h.op (qAns q).val (qAns q).cnt (qAns q).recs:=by unfold hserve;rw [hd,if_neg (by simp)]
   have HREQ:=hide (fun (w':World) (hrs:List Rg) (HA:Option Addr) (gs:List Gr) (GA PA QA:Option Addr) (pc:Nat) (h:ReadsRq w' w'.heap.size q hrs HA gs GA PA QA) (hcap:q.ps.length≤pc)=>req_dec hby hd h hcap)
   have HOK:Hid (∀ hrs gs,hrs.map Rg.key=q.h.rs.map Rg.key→gs.map gdOf=q.gs→(∀ g∈gs,g.1.n=g.2.length)→hhandle q.h.op q.h.vs hrs q.h.pts gs q.ps q.qs=(qAns q,0)∧hrespond q.h.op q.h.vs hrs q.h.pts (qAns q).val (qAns q).cnt (qAns q).recs=(hserve bs,0)):=hide (fun hrs gs hk hgd hn=>by
    obtain ⟨_,dj2,_,_⟩:=dec_small hby hd
    obtain ⟨k1,_,k3,k4⟩:=handle_ok (q:=q) (by rw [dec_enc hby hd hk hgd hn]) hn (fun x hx=>(dj2 x hx).2) rfl hgd.symm rfl rfl
    refine ⟨k1,?_⟩
    unfold hrespond
    rw [if_neg (by simpa using k4),if_neg (by simp [k3]),hsv])
   have HU:Hid ((∀ r∈(qAns q).recs,U64 r.1∧U64 r.2)∧(qAns q).recs.length≤maxLen):=hide (by
    obtain ⟨_,dj2,_,z⟩:=dec_small hby hd
    constructor
    · intro r hr
      unfold qAns at hr
      split at hr
      · unfold hbatch at hr
        split at hr
        · simp [ansZero] at hr
        · exact cln_u64 (hrecs_cln (q.gs.map cg) (fun x hx=>(dj2 x hx).2) r ((isort_perm rkey _).mem_iff.1 hr))
      · simp at hr
    · have hn:∀ g∈q.gs.map cg,g.1.n=g.2.length:=fun g hg=>by
       obtain ⟨x,_,rfl⟩:=List.mem_map.1 hg
       rfl
      obtain ⟨_,_,k3,_⟩:=handle_ok (q:=q) (by rw [dec_enc hby hd (hrs:=q.h.rs) (gs:=q.gs.map cg) rfl (gds_cg _) hn]) hn (fun x hx=>(dj2 x hx).2) rfl (gds_cg _).symm rfl rfl
      obtain ⟨_,_,_,_,z5,z6,hp5,hpn,_⟩:=hcheck_zero z
      have hp0:0≤q.h.pts∧q.h.pts≤4096:=by
       by_cases h5:q.h.op=5
       · have:=hp5 h5;omega
       · have:=hpn h5;omega
      have hia:=isAns_true k3 hp0.1
      unfold maxLen
      omega)
   rw [hd] at HD
   obtain ⟨SB,hSB⟩:∃ SB,SB=hserve bs:=⟨_,rfl⟩
   rw [← hSB] at HOK ⊢
   obtain ⟨⟨val,cnt,recs⟩,hqa⟩:∃ a,a=qAns q:=⟨_,rfl⟩
   rw [← hqa] at HOK HU
   clear hs hby hmax hcb hc hd hsv hSB hqa
   obtain ⟨⟨op,vs,rs0,pts⟩,gds,ps,qs⟩:=q
   try dsimp only at *
   go_enter Tryz.func22,Tryz.ntmps22
   go_wp2_with fail
   refine HD.out.mono ?_
   rintro e w1 ⟨hrs,HA,hc,gs,GA,gc,PA,pc,QA,qc,rfl,hb1,hr1,hcap⟩
   clear HD
   unfold rqVal
   try dsimp only at hcap
   try dsimp only
   obtain ⟨k1,k2⟩:=HOK.out hrs gs hr1.hk hr1.gd (fun g hg=>(hr1.gk g hg).1)
   have hreq:=HREQ.out w1 hrs HA gs GA PA QA pc hr1 hcap
   try dsimp only at hreq
   obtain ⟨rb,hrb⟩:∃ rb,rb=w1.heap.size:=⟨_,rfl⟩
   obtain ⟨w2,hw2⟩:∃ w2,w2=w1.alloc (.cells #[.int .i64 op,.int .i64 vs,.slice HA hrs.length hc,.int .i64 pts,.slice GA gs.length gc,.slice PA ps.length pc,.slice QA qs.length qc] 41):=⟨_,rfl⟩
   have hb2:Below w1.heap.size w1 w2:=by rw [hw2];exact bA
   have HB2:=bl_step hb1 hb2
   have B2:Blk w2 rb 41 #[.int .i64 op,.int .i64 vs,.slice HA hrs.length hc,.int .i64 pts,.slice GA gs.length gc,.slice PA ps.length pc,.slice QA qs.length qc]:=by rw [hw2,hrb];exact Blk.new _ _ _
   have h2:=hreq.below hb2
   have HRH:=rhandle op vs pts hrs HA hc gs GA gc ps PA pc qs QA qc w2 h2
   rw [k1] at HRH
   have HH:=hide HRH
   have HRS:=hide k2
   have HHS:=hide h2.hh
   have b0:w2.cell? ⟨rb,0,none⟩=some (.int .i64 op):=B2.cell (i:=0) rfl
   have b1:w2.cell? ⟨rb,1,none⟩=some (.int .i64 vs):=B2.cell (i:=1) rfl
   have b2:w2.cell? ⟨rb,2,none⟩=some (.slice HA hrs.length hc):=B2.cell (i:=2) rfl
   have b3:w2.cell? ⟨rb,3,none⟩=some (.int .i64 pts):=B2.cell (i:=3) rfl
   have b4:w2.cell? ⟨rb,4,none⟩=some (.slice GA gs.length gc):=B2.cell (i:=4) rfl
   have b5:w2.cell? ⟨rb,5,none⟩=some (.slice PA ps.length pc):=B2.cell (i:=5) rfl
   have b6:w2.cell? ⟨rb,6,none⟩=some (.slice QA qs.length qc):=B2.cell (i:=6) rfl
   rw [hw2,hrb] at b0 b1 b2 b3 b4 b5 b6
   clear hb1 hr1 hcap k1 k2 hreq hb2 h2 HRH HREQ HOK
   go_wp2_with fail
   rw [← hw2,← hrb]
   clear hw2 hrb b0 b1 b2 b3 b4 b5 b6
   refine HH.out.mono ?_
   rintro e w3 ⟨RA,rc,rfl,hb3,hs3⟩
   dsimp only at hs3 ⊢
   have HB3:=bl_step HB2 hb3
   have B3:=B2.step hb3
   obtain ⟨ab,hab⟩:∃ ab,ab=w3.heap.size:=⟨_,rfl⟩
   obtain ⟨w4,hw4⟩:∃ w4,w4=w3.alloc (.cells #[.int .i64 val,.int .i64 cnt,.slice RA recs.length rc] 38):=⟨_,rfl⟩
   have hb4:Below w3.heap.size w3 w4:=by rw [hw4];exact bA
   have HB4:=bl_step HB3 hb4
   have B4:=B3.step hb4
   have A4:Blk w4 ab 38 #[.int .i64 val,.int .i64 cnt,.slice RA recs.length rc]:=by rw [hw4,hab];exact Blk.new _ _ _
   have b0:w4.cell? ⟨rb,0,none⟩=some (.int .i64 op):=B4.cell (i:=0) rfl
   have b1:w4.cell? ⟨rb,1,none⟩=some (.int .i64 vs):=B4.cell (i:=1) rfl
   have b2:w4.cell? ⟨rb,2,none⟩=some (.slice HA hrs.length hc):=B4.cell (i:=2) rfl
   have b3:w4.cell? ⟨rb,3,none⟩=some (.int .i64 pts):=B4.cell (i:=3) rfl
   have a0:w4.cell? ⟨ab,0,none⟩=some (.int .i64 val):=A4.cell (i:=0) rfl
   have a1:w4.cell? ⟨ab,1,none⟩=some (.int .i64 cnt):=A4.cell (i:=1) rfl
   have a2:w4.cell? ⟨ab,2,none⟩=some (.slice RA recs.length rc):=A4.cell (i:=2) rfl
   rw [hw4] at b0 b1 b2 b3 a0 a1 a2
   rw [hab] at a0 a1 a2
   have RS:=rrespond_any op vs pts hrs HA hc val cnt recs RA rc w4 (((HHS.out.below hb3).more hb3.size).below hb4 |>.more hb4.size) ((hs3.below hb4).more hb4.size) HU.out.2 HU.out.1
   rw [HRS.out] at RS
   have HR4:=hide RS
   clear RS hs3 hb3 hb4 B2 B3 B4 A4 HH HHS HRS HU hab
   go_wp2_with fail
   rw [← hw4]
   clear hw4 b0 b1 b2 b3 a0 a1 a2
   refine HR4.out.mono ?_
   rintro e w5 ⟨v,rfl,hv,hb5⟩
   dsimp only at hv ⊢
   obtain ⟨UA,uc,rfl,huc⟩:=own_slice hv
   have hsu:=Sl.of_own hv
   have HB5:=bl_step HB4 hb5
   clear hv HR4
   go_wp2
   go_ret
   exact ⟨UA,uc,rfl,HB5,hsu⟩
 · have hd:hdecode bs=(rqZero,hclass bs):=by unfold hdecode;rw [if_neg hc]
   rw [serve_bad hc]
   rw [hd] at HD
   obtain ⟨E,hE⟩:∃ E,E=hclass bs:=⟨_,rfl⟩
   rw [← hE] at HD hc hcb ⊢
   have hne:(E != 0)=true:=by simpa using hc
   have hwv:IntKind.u8.wrap E=E:=by rw [IntKind.wrap_u8];omega
   clear hs hby hmax hd hE
   go_enter Tryz.func22,Tryz.ntmps22
   go_wp2_with fail
   refine HD.out.mono ?_
   rintro e w1 ⟨hrs,HA,hc2,gs,GA,gc,PA,pc,QA,qc,rfl,hb1,hr1,hcap⟩
   unfold rqVal
   dsimp only
   clear HD hr1 hcap
   go_wp2
   go_ret
   refine ⟨_,_,rfl,bl_alloc (bl_alloc hb1 _) _,?_⟩
   have h:=slb (xs:=byCells [E]) (Blk.new (w1.alloc (.cells #[.int .i64 rqZero.h.op,.int .i64 rqZero.h.vs,.slice HA hrs.length hc2,.int .i64 rqZero.h.pts,.slice GA gs.length gc,.slice PA rqZero.ps.length pc,.slice QA rqZero.qs.length qc] 41)) 5 _)
   simp only [World.size_alloc] at h ⊢
   exact h
end
end
section
open Go.RowKit Go.Shelf
theorem lg_100 {n:Nat} (h:n≤100):4161*n+(netw (lg n)).length≤600000:=by
 have h1:∀ m:Fin 101,(netw (lg m.val)).length≤20000:=by decide +kernel
 have:=h1 ⟨n,by omega⟩
 dsimp only at this
 omega
section
variable (bs:List Int) (A:Option Addr) (c:Nat) (w:World)
variable (hs:Sl w w.heap.size A (byCells bs)) (hcap:bs.length≤c) (hby:By bs) (hfix:Fixed w) (hg:0<w.heap.size) (hw:MW w)
include hs hcap hby hfix hg hw
theorem lawResponds21:Calls Tryz.prog 5 #[.slice A bs.length c] w fun e w'=>e=.returned (.bool true)∧Below w.heap.size w w':=by
 have HK:=hide (skipB21 bs A c w hs hby)
 have HAL:=hide (fun (w':World) (hb:Below w.heap.size w w')=>alive21 w' (hfix.below hb hg) (Nat.lt_of_lt_of_le hg hb.size) (hw.step hb))
 have HSV:=hide (fun (w':World) (hb:Below w.heap.size w w') (hmax:bs.length≤300000)=>serve_any bs A c w' ((hs.below hb).more hb.size) hcap hby hmax (hfix.below hb hg) (Nat.lt_of_lt_of_le hg hb.size) (hw.step hb))
 have HTR:=hide (fun (w':World) (hb:Below w.heap.size w w') (hmax:bs.length≤300000) (t:Option (Nat × Nat)) (hf:FreshT w' t) (hl:4161*(hdecode bs).1.qs.length+(netw (lg (hdecode bs).1.qs.length)).length≤600000)=>traced_any t bs A c w' ((hs.below hb).more hb.size) hcap hby hmax (hfix.below hb hg) (Nat.lt_of_lt_of_le hg hb.size) (hw.step hb) hf (.inr hl))
 have HRF:=hide (fun (w':World) (hb:Below w.heap.size w w') (hmax:bs.length≤300000)=>rserve bs A c w' ((hs.below hb).more hb.size) hby hmax)
 obtain ⟨SB,hSB⟩:∃ SB,SB=hserve bs:=⟨_,rfl⟩
 have HSB:Hid (∀ t w' e w2,Served t bs w' e w2→∃ A c,e=.returned (.slice A SB.length c)∧KeepP (NT t w'.heap.size) w' w2∧Sl w2 w2.heap.size A (byCells SB)):=hide fun t w' e w2 h=>by
  obtain ⟨A,c,he,_,hk,_,hs⟩:=h
  rw [hSB]
  exact ⟨A,c,he,hk,hs⟩
 rw [← hSB] at HSV HRF
 clear hs hcap hby hfix hg hw hSB
 go_enter Tryz.func5,Tryz.ntmps5
 go_wp2_with fail
 refine HK.out.mono ?_
 rintro e w1 ⟨z,rfl,hz,hT,HB1⟩
 rcases hz with rfl | rfl
 · obtain ⟨h6,hq100⟩:=hT rfl
   have HQ:=hide (lg_100 hq100)
   have H6:Hid (bs.length≤300000):=hide (by omega)
   have R1:=hide (HRF.out w1 HB1 H6.out)
   clear hT h6 hq100 HRF HK
   go_wp2_with fail
   refine R1.out.mono ?_
   rintro e w2 ⟨WA,wc,rfl,hb2,hs2⟩
   have HB2:=bl_step HB1 hb2
   have HS2:=hide hs2
   clear hs2 hb2 R1
   go_wp2_with fail
   refine (HAL.out w2 HB2).mono ?_
   rintro e w3 ⟨rfl,hb3⟩
   have HB3:=bl_step HB2 hb3
   have HS3:=hide ((HS2.out.below hb3).more hb3.size)
   have V3:=hide (HSV.out w3 HB3 H6.out)
   clear hb3 HS2 HAL HSV
   go_wp2_with fail
   refine V3.out.mono ?_
   rintro e w4 ⟨VA,vc,rfl,_,hb4,hs4⟩
   have HB4:=bl_step HB3 hb4
   have HS4:=hide ((HS3.out.below hb4).more hb4.size)
   have E4:=hide (equal_true SB VA WA vc wc w4 hs4 HS4.out)
   clear hb4 hs4 HS3 V3
   go_wp2_with fail
   refine E4.out.mono ?_
   rintro e w5 ⟨rfl,rfl⟩
   clear E4
   go_wp2_with fail
   refine (new_fresh w4).mono ?_
   rintro e w5 ⟨rfl,hb5,hf5⟩
   have HB5:=bl_step HB4 hb5
   have HS5:=hide ((HS4.out.below hb5).more hb5.size)
   have HNT:Hid (∀ k,k<w.heap.size→NT (newT w4) w5.heap.size k):=hide fun k hk=>by
    refine ⟨Nat.lt_of_lt_of_le hk HB5.size,fun u hu=>?_⟩
    unfold newT at hu
    injection hu with hu
    subst hu
    have:=HB4.size
    dsimp only
    omega
   have HNS:Hid (SB≠[]→∀ x,WA=some x→NT (newT w4) w5.heap.size x.block):=hide fun hx x hA=>by
    have h:=HS4.out.blk_lt (fun e=>hx (by cases SB with | nil=>rfl | cons a l=>simp [byCells] at e)) hA
    refine ⟨Nat.lt_of_lt_of_le h hb5.size,fun u hu=>?_⟩
    unfold newT at hu
    injection hu with hu
    subst hu
    dsimp only
    omega
   have T5:=hide (HTR.out w5 HB5 H6.out (newT w4) hf5 HQ.out)
   clear hb5 hf5 HTR HS4 HQ
   go_wp2_with fail
   refine T5.out.mono ?_
   intro e w6 hT6
   obtain ⟨TA,tc,rfl,hk6,hs6⟩:=HSB.out _ _ _ _ hT6
   have HB6:Below w.heap.size w w6:=⟨hk6.os.trans HB5.os,hk6.tape.trans HB5.tape,hk6.output.trans HB5.output,Nat.le_trans HB5.size hk6.size,fun k hk=>(hk6.block k (HNT.out k hk)).trans (HB5.block k hk)⟩
   have hs6':Sl w6 w6.heap.size WA (byCells SB):=by
    refine (HS5.out.at_ fun b hlt hx x hA hxb=>?_).more hk6.size
    subst hxb
    exact hk6.block _ (HNS.out (fun e=>hx (by rw [e];rfl)) x hA)
   have E6:=hide (equal_true SB TA WA tc wc w6 hs6 hs6')
   clear hT6 hk6 hs6 hs6' HS5 T5 HNT HNS
   go_wp2_with fail
   refine E6.out.mono ?_
   rintro e w7 ⟨rfl,rfl⟩
   go_wp2
   go_ret
   exact ⟨rfl,HB6⟩
 · clear HSV HTR HRF
   go_wp2_with fail
   refine (HAL.out w1 HB1).mono ?_
   rintro e w5 ⟨rfl,hb5⟩
   go_wp2
   go_ret
   exact ⟨rfl,bl_step HB1 hb5⟩
end
end
end Go.Proofs.YtpnoofphfomjoaaGreatDoor
