/- LawSingles -/
import Derived.Test.YtpnoofphfomjoaaGreatDoorPkM13
import Derived.Test.YtpnoofphfomjoaaGreatDoorPkM16
import Derived.Test.YtpnoofphfomjoaaGreatDoorPkM40
import Derived.Test.YtpnoofphfomjoaaGreatDoorPkM53
import Derived.Test.YtpnoofphfomjoaaGreatDoorPkT06
set_option maxRecDepth 1000000
set_option maxHeartbeats 8000000
namespace Go.Proofs.YtpnoofphfomjoaaGreatDoor
open List (getElem_toArray getElem_cons_succ getElem_cons_zero setIfInBounds_toArray set_cons_zero set_cons_succ)
section
open Go.RowKit Go.Shelf
theorem fence_cases (gs:List Gr) (p:Pt):(fenceA gs p=2∧(bif fenceOk gs then (1:Int) else 0)=0)∨(fenceA gs p=1∧(bif fenceOk gs then (1:Int) else 0)=1)∨(fenceA gs p=0∧(bif fenceOk gs then (1:Int) else 0)=1):=by
 unfold fenceA
 cases fenceOk gs <;> cases memOk gs p <;> simp
section
variable {F:Fence} {n:Nat} {P:Program} {ops:Array Oper} {Q:Exit→Act→World→Prop} {S:World→Prop}
theorem cutR (sk:Nat) (R:Act→Act→World→Prop) {id:Nat} {a:Act} {w:World} (hm:P.follows .mixedOrders=true)
 (h:wpAnyHIn F n P .any ops (OnlyN (R a)) S sk ops.size (Array.replicate ops.size false) a w.drew) (hR:∀ a' w',R a a' w'→Q .normal a' w'):(Code.region id ops true).wpIn F n P Q a w:=by
 refine wpIn_mono (startH sk (Q:=OnlyN (R a)) hm h) ?_
 intro e a' w' he
 cases e with
 | normal=>exact hR a' w' he
 | _=>exact he.elim
end
section
variable (gs:List Gr) (GA:Option Addr) (gc:Nat) (qs:List ((Int × Int) × Int)) (QA:Option Addr) (qc:Nat) (w:World)
variable (h:BatW w gs GA qs QA) (hgn:gs.length≤maxLen) (hfix:Fixed w) (hg:0<w.heap.size) (hw:MW w)
include h hgn hfix hg hw
theorem lawSingles:Calls Tryz.prog 10 #[.slice GA gs.length gc,.slice QA qs.length qc] w fun e w'=>e=.returned (.bool true)∧Below w.heap.size w w':=by
 have hmix:Tryz.prog.follows .mixedOrders=true:=by kernel_rfl
 have HSK:=skip20 (gs.map (·.1)) GA gc qs.length QA qc w h.hg (by rw [List.length_map];exact hgn)
 rw [List.length_map] at HSK
 have HFC:∀ w':World,Below w.heap.size w w'→Calls Tryz.prog 43 #[.slice GA gs.length gc] w' fun e w2=>e=.returned (.int .i64 (fcheck (gs.map (·.1))))∧w2=w':=fun w' hb=>by
  have:=rfcheck_any (gs.map (·.1)) GA gc w' (h.below hb).hg
  rwa [List.length_map] at this
 have HAL:=hide (fun (w':World) (hb:Below w.heap.size w w')=>serves_any w' (hfix.below hb hg) (Nat.lt_of_lt_of_le hg hb.size) (hw.step hb))
 have HPU:∀ w':World,Below w.heap.size w w'→gs.length≤1000→Calls Tryz.prog 44 #[.slice GA gs.length gc] w' fun e w2=>∃ PA pc,e=.returned (.slice PA gs.length pc)∧Sl w2 w2.heap.size PA (rgCells (gs.map pubR))∧Below w'.heap.size w' w2:=fun w' hb hn=>by
  have:=public_any (gs.map (·.1)) GA gc w' (h.below hb).hg (by rw [List.length_map];exact hn)
  rw [List.length_map,← pubR_map] at this
  exact this
 have HBA:=hide (fun (w':World) (hb:Below w.heap.size w w') (hn:gs.length≤1000)=>batch_any gs GA gc qs QA qc w' (h.below hb) hn)
 have HME:=hide (fun (w':World) (hb:Below w.heap.size w w') (hn:gs.length≤1000) (x y:Int)=>member_any gs GA gc (x,y) w' (h.below hb).hg (h.below hb).gk hn)
 have HSV:=hide (fun (w':World) (hb:Below w.heap.size w w') (bs:List Int) (A:Option Addr) (c:Nat) (hs:Sl w' w'.heap.size A (byCells bs)) (hcap:bs.length≤c) (hby:By bs) (hmax:bs.length≤300000)=>serve_any bs A c w' hs hcap hby hmax (hfix.below hb hg) (Nat.lt_of_lt_of_le hg hb.size) (hw.step hb))
 have HEB:=hide (fun (hf:fcheck (gs.map (·.1))=0) (h1:1≤qs.length) (h4:qs.length≤4096)=>enc_batch gs qs h.len h.gj hf h1 h4 h.qj h.qu)
 have HEM:=hide (fun (hf:fcheck (gs.map (·.1))=0) (p:Pt) (hj:PJ p)=>enc_member gs p h.len h.gj hf hj)
 have HLEN:=hide h.len
 have HQJ:=hide h.qj
 have HQS:=hide (fun (w':World) (hb:Below w.heap.size w w')=>(h.below hb).hq)
 have HCM:=hide (cnt_members gs)
 have HS:=hide HSK;have HF:=hide HFC;have HP:=hide HPU
 clear HSK HFC HPU h hgn hfix hg hw
 refine (callsIn_wide (n:=6)).1 ?_
 refine callsIn_of_wp Tryz.func10 rfl trivial ?_ rfl
 simp only [Tryz.ntmps10,List.size_toArray,List.length_cons,List.length_nil,Nat.reduceAdd,Nat.reduceSub,Array.replicate_succ,Array.replicate_zero,List.push_toArray,List.append_toArray,List.nil_append,List.cons_append]
 gi_wp2_with fail
 refine ⟨trivial,?_⟩
 refine (callsIn_wide.2 HS.out).mono ?_
 rintro e w1 ⟨z,rfl,hz,hT,HB1⟩
 rcases hz with rfl | rfl
 · obtain ⟨-,-,hq100,-⟩:=hT rfl
   clear hT HS
   gi_wp2_with fail
   refine ⟨trivial,?_⟩
   refine (callsIn_wide.2 (HF.out w1 HB1)).mono ?_
   rintro e wz ⟨rfl,rfl⟩
   clear HF
   by_cases hf:fcheck (gs.map (·.1))=0
   · rw [hf]
     by_cases hq1:1≤qs.length
     · have hqi:¬ ((qs.length:Nat):Int)=0:=by omega
       obtain ⟨l1,l64,-⟩:=pub_ok HLEN.out hf
       have hn:gs.length≤1000:=by omega
       obtain ⟨he0,hrd,hbyX,hlX⟩:=HEB.out hf hq1 (by omega)
       have hbd:=hencode_bd (Prod.ext rfl he0:hencode 5 0 (gs.map pubR) qs.length gs [] qs=((hencode 5 0 (gs.map pubR) qs.length gs [] qs).1,0)) HLEN.out
       have HBA1:=hide (fun w' hb=>HBA.out w' hb hn)
       have HME1:=hide (fun w' hb x y=>HME.out w' hb hn x y)
       have HEM1:=hide (fun p hj=>HEM.out hf p hj)
       obtain ⟨E,hE⟩:∃ E,E=(hencode 5 0 (gs.map pubR) qs.length gs [] qs).1:=⟨_,rfl⟩
       rw [← hE] at HBA1 hrd hbyX hlX hbd
       obtain ⟨hE2,hEby⟩:=hbd.2 rfl
       obtain ⟨X,hX⟩:∃ X,X=hserve E:=⟨_,rfl⟩
       have HXE:=hide hX.symm
       rw [← hX] at hrd hbyX hlX
       have HRD:=hide (fun (w':World) (PA:Option Addr) (pc:Nat) (hp:Sl w' w'.heap.size PA (rgCells (gs.map pubR))) (SA:Option Addr) (sc:Nat) (hs:Sl w' w'.heap.size SA (byCells X)) (hc:X.length≤sc)=>read_any 5 0 qs.length (gs.map pubR) PA pc X SA sc w' hp (by rw [List.length_map];unfold maxLen;omega) hs hc (by omega) hbyX)
       rw [List.length_map,hrd] at HRD
       obtain ⟨val,hval⟩:∃ v,v=(bif fenceOk gs then (1:Int) else 0):=⟨_,rfl⟩
       obtain ⟨cnt,hcnt⟩:∃ c,c=cntL (hrecs gs qs):=⟨_,rfl⟩
       obtain ⟨rcs,hrcs⟩:∃ r,r=isort rkey (hrecs gs qs):=⟨_,rfl⟩
       have hbA:batA gs qs=⟨val,(cnt:Int),rcs⟩:=by unfold batA;rw [hval,hcnt,hrcs]
       rw [hbA] at HRD
       have HVC:=hide (fun p=>by have:=fence_cases gs p;rw [← hval] at this;exact this)
       have HCN:Hid ((qs.filter fun q=>decide (fenceA gs q.1=1)).length=cnt):=hide (by rw [HCM.out qs,hcnt])
       have HE2:=hide hE2;have HEBY:=hide hEby
       have P2:=hide (HP.out _ HB1 hn)
       clear hE hX hval hcnt hrcs hbA hrd hbyX hlX hbd hE2 hEby he0 HBA HME HEM HEB HCM HP l1 l64
       gi_wp2_with fail
       refine ⟨trivial,?_⟩
       refine (callsIn_wide.2 P2.out).mono ?_
       rintro e w2 ⟨PA,pc,rfl,hs2,hb2⟩
       have HB2:=bl_step HB1 hb2
       obtain ⟨hd,hhd⟩:∃ hd,hd=w2.heap.size:=⟨_,rfl⟩
       obtain ⟨w3,hw3⟩:∃ w3,w3=w2.alloc (.cells #[.int .i64 5,.int .i64 0,.slice PA gs.length pc,.int .i64 (qs.length:Int)] 24):=⟨_,rfl⟩
       have hb3:Below w2.heap.size w2 w3:=by rw [hw3];exact bA
       have B3:Blk w3 hd 24 #[.int .i64 5,.int .i64 0,.slice PA gs.length pc,.int .i64 (qs.length:Int)]:=by rw [hw3,hhd];exact Blk.new _ _ _
       have HB3:=bl_step HB2 hb3
       have HPS3:=hide ((hs2.below hb3).more hb3.size)
       clear hs2 hb2 hb3 HB2 P2
       gi_wp2_with fail
       rw [← hw3,← hhd]
       clear hw3 hhd
       have hS:Blk w3.drew hd 24 #[.int .i64 5,.int .i64 0,.slice PA gs.length pc,.int .i64 (qs.length:Int)]:=B3.drew
       have HB3d:=bl_drew HB3
       have HPS:Hid (Sl w3.drew w3.drew.heap.size PA (rgCells (gs.map pubR))):=hide ((HPS3.out.below (bl_drew (Below.refl w3.heap.size w3))).more (Nat.le_refl _))
       refine cutR 1000 (S:=fun w'=>Blk w' hd 24 #[.int .i64 5,.int .i64 0,.slice PA gs.length pc,.int .i64 (qs.length:Int)]) (fun a a' w'=>∃ (v32 v33 v34 v35 v36 v37 v38 v39:Value) (ab:Nat) (RA:Option Addr) (rc:Nat),a'=(((((((((((a.put (some 33) v33).put (some 34) v34).put (some 35) v35).put (some 36) v36).put (some 37) v37).put (some 38) v38).put (some 32) v32).put (some 39) v39).put (some 40) (.int .i64 0)).put (some 6) (.pointer (some ⟨ab,0,none⟩))).put (some 7) (.int .i64 0))∧Blk w' ab 33 #[.int .i64 val,.int .i64 (cnt:Int),.slice RA rcs.length rc]∧Below w.heap.size w w'∧w.heap.size≤ab) hmix ?_ ?_
       · have HD0:=Below.refl w3.drew.heap.size w3.drew
         have HLW:Hid (w.heap.size≤w3.drew.heap.size):=hide HB3d.size
         have PS0:=HPS
         have hS0:=hS
         have HB0:=HB3d
         clear HPS hS HB3d HPS3 HB3 B3
         generalize w3.drew=u0 at *
         refine' takeH (i:=0) (v:=_) (noDefer_of (by kernel_rfl)) rfl (by kernel_rfl) (by kernel_rfl) (by kernel_rfl) (fun _ _ _ h=>h) (by kernel_rfl) ⟨Or.inl ⟨by rfl,?hy0k1⟩,fun _=>rfl⟩ hS0 ?rest0k1
         case hy0k1 =>
          intro w' hSw
          have z0:=hSw.cell (i:=0) rfl
          have z1:=hSw.cell (i:=1) rfl
          have z2:=hSw.cell (i:=2) rfl
          have z3:=hSw.cell (i:=3) rfl
          go_simp
          rfl
         simp only [Act.put,getElem_toArray,getElem_cons_zero,setIfInBounds_toArray,set_cons_zero,set_cons_succ]
         refine' takeH (i:=1) (v:=_) (noDefer_of (by kernel_rfl)) rfl (by kernel_rfl) (by kernel_rfl) (by kernel_rfl) (fun _ _ _ h=>h) (by kernel_rfl) ⟨Or.inl ⟨by rfl,?hy1k2⟩,fun _=>rfl⟩ hS0 ?rest1k2
         case hy1k2 =>
          intro w' hSw
          go_simp
          rfl
         simp only [Act.put,getElem_toArray,getElem_cons_succ,getElem_cons_zero,setIfInBounds_toArray,set_cons_zero,set_cons_succ]
         refine' takeH (i:=2) (v:=_) (noDefer_of (by kernel_rfl)) rfl (by kernel_rfl) (by kernel_rfl) (by kernel_rfl) (fun _ _ _ h=>h) (by kernel_rfl) ⟨Or.inl ⟨by rfl,?hy2k3⟩,fun _=>rfl⟩ hS0 ?rest2k3
         case hy2k3 =>
          intro w' hSw
          go_simp
          rfl
         simp only [Act.put,getElem_toArray,getElem_cons_succ,getElem_cons_zero,setIfInBounds_toArray,set_cons_zero,set_cons_succ]
         refine twoH (i:=3) (j:=9) (by kernel_rfl) rfl rfl ?_ ?_
         · intro K hK
           rw [if_pos (by rfl)]
           go_simp
           refine ⟨trivial,?_⟩
           refine (callsIn_wide.2 (HBA1.out u0 HB0)).mono ?_
           rintro e u1 ⟨EA,ec,rfl,hce,hs,hb⟩
           have hS1:=hS0.step hb
           have HB1:=bl_step HB0 hb
           have HD1:=bl_step HD0 hb
           have PS1:=hide ((PS0.out.below hb).more hb.size)
           have ES1:=hide hs
           have HCE:=hide hce
           clear hce
           refine hK.out _ _ (fun _=>hS1) ?_
           clear hK K hs hb
           (try simp only [Act.put,getElem_toArray,getElem_cons_succ,getElem_cons_zero,setIfInBounds_toArray,set_cons_zero,set_cons_succ])
           refine twoH (i:=4) (j:=9) (by kernel_rfl) rfl rfl ?_ ?_
           · intro K hK
             rw [if_pos (by rfl)]
             go_simp
             refine ⟨trivial,?_⟩
             have V:=(HSV.out u1 HB1 E EA ec ES1.out HCE.out HEBY.out (by have:=HE2.out;omega))
             rw [HXE.out] at V
             refine (callsIn_wide.2 V).mono ?_
             rintro e u2 ⟨SA,sc,rfl,hcs,hb,hs⟩
             have hS2:=hS1.step hb
             have HB2:=bl_step HB1 hb
             have HD2:=bl_step HD1 hb
             have PS2:=hide ((PS1.out.below hb).more hb.size)
             have SS2:=hide hs
             have HCS:=hide hcs
             clear hcs V
             refine hK.out _ _ (fun _=>hS2) ?_
             clear hK K hs hb
             (try simp only [Act.put,getElem_toArray,getElem_cons_succ,getElem_cons_zero,setIfInBounds_toArray,set_cons_zero,set_cons_succ])
             refine twoH (i:=5) (j:=9) (by kernel_rfl) rfl rfl ?_ ?_
             · intro K hK
               rw [if_pos (by rfl)]
               go_simp
               refine ⟨trivial,?_⟩
               refine (callsIn_wide.2 (HRD.out u2 PA pc PS2.out SA sc SS2.out HCS.out)).mono ?_
               rintro e u3 ⟨RA,rc,rfl,hb,hs⟩
               dsimp only
               have hS3:=hS2.step hb
               have HB3:=bl_step HB2 hb
               have HD3:=bl_step HD2 hb
               refine hK.out _ _ (fun _=>hS3) ?_
               clear hK K hs hb
               (try simp only [Act.put,getElem_toArray,getElem_cons_succ,getElem_cons_zero,setIfInBounds_toArray,set_cons_zero,set_cons_succ])
               refine' takeH (i:=6) (v:=_) (noDefer_of (by kernel_rfl)) rfl (by kernel_rfl) (by kernel_rfl) (by kernel_rfl) (fun _ _ _ h=>h) (by kernel_rfl) ⟨Or.inl ⟨by rfl,?hy6k4⟩,fun _=>rfl⟩ hS3 ?rest6k4
               case hy6k4 =>
                intro w' hSw
                go_simp
                rfl
               simp only [Act.put,getElem_toArray,getElem_cons_succ,getElem_cons_zero,setIfInBounds_toArray,set_cons_zero,set_cons_succ]
               refine' takeH (i:=7) (v:=_) (noDefer_of (by kernel_rfl)) rfl (by kernel_rfl) (by kernel_rfl) (by kernel_rfl) (fun _ _ _ h=>h) (by kernel_rfl) ⟨Or.inl ⟨by rfl,?hy7k5⟩,fun _=>rfl⟩ hS3 ?rest7k5
               case hy7k5 =>
                intro w' hSw
                go_simp
                rfl
               simp only [Act.put,getElem_toArray,getElem_cons_succ,getElem_cons_zero,setIfInBounds_toArray,set_cons_zero,set_cons_succ]
               refine' takeH (i:=8) (v:=_) (noDefer_of (by kernel_rfl)) rfl (by kernel_rfl) (by kernel_rfl) (by kernel_rfl) (fun _ _ _ h=>h) (by kernel_rfl) ⟨Or.inl ⟨by rfl,?hy8k6⟩,fun _=>rfl⟩ hS3 ?rest8k6
               case hy8k6 =>
                intro w' hSw
                go_simp
                rfl
               simp only [Act.put,getElem_toArray,getElem_cons_succ,getElem_cons_zero,setIfInBounds_toArray,set_cons_zero,set_cons_succ]
               refine oneH (i:=9) (by kernel_rfl) rfl ?_
               intro K hK
               rw [if_pos (by rfl)]
               go_simp
               obtain ⟨ab,hab⟩:∃ ab,ab=u3.heap.size:=⟨_,rfl⟩
               obtain ⟨u4,hu4⟩:∃ w',w'=u3.alloc (.cells #[.int .i64 0,.int .i64 0,.slice none 0 0] 33):=⟨_,rfl⟩
               have hb:Below u3.heap.size u3 u4:=by rw [hu4];exact bA
               have N4:Blk u4 ab 33 #[.int .i64 0,.int .i64 0,.slice none 0 0]:=by rw [hu4,hab];exact Blk.new _ _ _
               have HAB:Hid (u0.heap.size≤ab):=hide (by rw [hab];exact HD3.size)
               have hS4:=hS3.step hb
               have HB4:=bl_step HB3 hb
               have HD4:=bl_step HD3 hb
               rw [← hu4,← hab]
               refine hK.out _ _ (fun _=>hS4) ?_
               clear hK K hb hu4 hab
               (try simp only [Act.put,getElem_toArray,getElem_cons_succ,getElem_cons_zero,setIfInBounds_toArray,set_cons_zero,set_cons_succ])
               have n0:=N4.cell (i:=0) rfl
               have n1:=N4.cell (i:=1) rfl
               have n2:=N4.cell (i:=2) rfl
               have f0:=N4.frozen 0
               have f1:=N4.frozen 1
               have f2:=N4.frozen 2
               refine oneH (i:=10) (by kernel_rfl) rfl ?_
               intro K hK
               rw [if_pos (by rfl)]
               go_simp
               have hbs:=((HD4.setCell (p:=⟨ab,0,none⟩) HAB.out (.int .i64 val)).setCell (p:=⟨ab,1,none⟩) HAB.out (.int .i64 (cnt:Int))).setCell (p:=⟨ab,2,none⟩) HAB.out (.slice RA rcs.length rc)
               have hLA:=Nat.le_trans HLW.out HAB.out
               have HBs:=((HB4.setCell (p:=⟨ab,0,none⟩) hLA (.int .i64 val)).setCell (p:=⟨ab,1,none⟩) hLA (.int .i64 (cnt:Int))).setCell (p:=⟨ab,2,none⟩) hLA (.slice RA rcs.length rc)
               have hS5:=hS0.step hbs
               have BA:=((N4.set 0 (.int .i64 val)).set 1 (.int .i64 (cnt:Int))).set 2 (.slice RA rcs.length rc)
               simp only [setIfInBounds_toArray,set_cons_zero,set_cons_succ] at BA
               refine hK.out _ _ (fun _=>hS5) ?_
               clear hK K n0 n1 n2 f0 f1 f2
               refine' takeH (i:=11) (v:=_) (noDefer_of (by kernel_rfl)) rfl (by kernel_rfl) (by kernel_rfl) (by kernel_rfl) (fun _ _ _ h=>h) (by kernel_rfl) ⟨Or.inl ⟨by rfl,?hy11k7⟩,fun _=>rfl⟩ hS5 ?rest11k7
               case hy11k7 =>
                intro w' hSw
                go_simp
                rfl
               simp only [Act.put,getElem_toArray,getElem_cons_succ,getElem_cons_zero,setIfInBounds_toArray,set_cons_zero,set_cons_succ]
               refine doneH (by kernel_rfl) ?_ _
               refine OnlyN.intro ?_
               refine ⟨.tuple #[.agg #[.int .i64 val,.int .i64 (cnt:Int),.slice RA rcs.length rc],.int .i64 0],.agg #[.int .i64 5,.int .i64 0,.slice PA gs.length pc,.int .i64 (qs.length:Int)],.slice GA gs.length gc,.slice QA qs.length qc,.slice EA E.length ec,.slice SA X.length sc,.tuple #[.agg #[.int .i64 val,.int .i64 (cnt:Int),.slice RA rcs.length rc],.int .i64 0],.agg #[.int .i64 val,.int .i64 (cnt:Int),.slice RA rcs.length rc],ab,RA,rc,rfl,BA,HBs,hLA⟩
             · intro K hK
               rw [if_pos (by rfl)]
               go_simp
               obtain ⟨ab,hab⟩:∃ ab,ab=u2.heap.size:=⟨_,rfl⟩
               obtain ⟨u3,hu3⟩:∃ w',w'=u2.alloc (.cells #[.int .i64 0,.int .i64 0,.slice none 0 0] 33):=⟨_,rfl⟩
               have hb:Below u2.heap.size u2 u3:=by rw [hu3];exact bA
               have N3:Blk u3 ab 33 #[.int .i64 0,.int .i64 0,.slice none 0 0]:=by rw [hu3,hab];exact Blk.new _ _ _
               have HAB:Hid (u0.heap.size≤ab):=hide (by rw [hab];exact HD2.size)
               have hS3:=hS2.step hb
               have HB3:=bl_step HB2 hb
               have HD3:=bl_step HD2 hb
               have PS3:=hide ((PS2.out.below hb).more hb.size)
               have SS3:=hide ((SS2.out.below hb).more hb.size)
               rw [← hu3,← hab]
               refine hK.out _ _ (fun _=>hS3) ?_
               clear hK K hb hu3 hab
               (try simp only [Act.put,getElem_toArray,getElem_cons_succ,getElem_cons_zero,setIfInBounds_toArray,set_cons_zero,set_cons_succ])
               refine oneH (i:=5) (by kernel_rfl) rfl ?_
               intro K hK
               rw [if_pos (by rfl)]
               go_simp
               refine ⟨trivial,?_⟩
               refine (callsIn_wide.2 (HRD.out u3 PA pc PS3.out SA sc SS3.out HCS.out)).mono ?_
               rintro e u4 ⟨RA,rc,rfl,hb,hs⟩
               dsimp only
               have hS4:=hS3.step hb
               have HB4:=bl_step HB3 hb
               have HD4:=bl_step HD3 hb
               have N4:=N3.step hb
               refine hK.out _ _ (fun _=>hS4) ?_
               clear hK K hs hb
               (try simp only [Act.put,getElem_toArray,getElem_cons_succ,getElem_cons_zero,setIfInBounds_toArray,set_cons_zero,set_cons_succ])
               refine' takeH (i:=6) (v:=_) (noDefer_of (by kernel_rfl)) rfl (by kernel_rfl) (by kernel_rfl) (by kernel_rfl) (fun _ _ _ h=>h) (by kernel_rfl) ⟨Or.inl ⟨by rfl,?hy6k8⟩,fun _=>rfl⟩ hS4 ?rest6k8
               case hy6k8 =>
                intro w' hSw
                go_simp
                rfl
               simp only [Act.put,getElem_toArray,getElem_cons_succ,getElem_cons_zero,setIfInBounds_toArray,set_cons_zero,set_cons_succ]
               refine' takeH (i:=7) (v:=_) (noDefer_of (by kernel_rfl)) rfl (by kernel_rfl) (by kernel_rfl) (by kernel_rfl) (fun _ _ _ h=>h) (by kernel_rfl) ⟨Or.inl ⟨by rfl,?hy7k9⟩,fun _=>rfl⟩ hS4 ?rest7k9
               case hy7k9 =>
                intro w' hSw
                go_simp
                rfl
               simp only [Act.put,getElem_toArray,getElem_cons_succ,getElem_cons_zero,setIfInBounds_toArray,set_cons_zero,set_cons_succ]
               refine' takeH (i:=8) (v:=_) (noDefer_of (by kernel_rfl)) rfl (by kernel_rfl) (by kernel_rfl) (by kernel_rfl) (fun _ _ _ h=>h) (by kernel_rfl) ⟨Or.inl ⟨by rfl,?hy8k10⟩,fun _=>rfl⟩ hS4 ?rest8k10
               case hy8k10 =>
                intro w' hSw
                go_simp
                rfl
               simp only [Act.put,getElem_toArray,getElem_cons_succ,getElem_cons_zero,setIfInBounds_toArray,set_cons_zero,set_cons_succ]
               have n0:=N4.cell (i:=0) rfl
               have n1:=N4.cell (i:=1) rfl
               have n2:=N4.cell (i:=2) rfl
               have f0:=N4.frozen 0
               have f1:=N4.frozen 1
               have f2:=N4.frozen 2
               refine oneH (i:=10) (by kernel_rfl) rfl ?_
               intro K hK
               rw [if_pos (by rfl)]
               go_simp
               have hbs:=((HD4.setCell (p:=⟨ab,0,none⟩) HAB.out (.int .i64 val)).setCell (p:=⟨ab,1,none⟩) HAB.out (.int .i64 (cnt:Int))).setCell (p:=⟨ab,2,none⟩) HAB.out (.slice RA rcs.length rc)
               have hLA:=Nat.le_trans HLW.out HAB.out
               have HBs:=((HB4.setCell (p:=⟨ab,0,none⟩) hLA (.int .i64 val)).setCell (p:=⟨ab,1,none⟩) hLA (.int .i64 (cnt:Int))).setCell (p:=⟨ab,2,none⟩) hLA (.slice RA rcs.length rc)
               have hS5:=hS0.step hbs
               have BA:=((N4.set 0 (.int .i64 val)).set 1 (.int .i64 (cnt:Int))).set 2 (.slice RA rcs.length rc)
               simp only [setIfInBounds_toArray,set_cons_zero,set_cons_succ] at BA
               refine hK.out _ _ (fun _=>hS5) ?_
               clear hK K n0 n1 n2 f0 f1 f2
               refine' takeH (i:=11) (v:=_) (noDefer_of (by kernel_rfl)) rfl (by kernel_rfl) (by kernel_rfl) (by kernel_rfl) (fun _ _ _ h=>h) (by kernel_rfl) ⟨Or.inl ⟨by rfl,?hy11k11⟩,fun _=>rfl⟩ hS5 ?rest11k11
               case hy11k11 =>
                intro w' hSw
                go_simp
                rfl
               simp only [Act.put,getElem_toArray,getElem_cons_succ,getElem_cons_zero,setIfInBounds_toArray,set_cons_zero,set_cons_succ]
               refine doneH (by kernel_rfl) ?_ _
               refine OnlyN.intro ?_
               refine ⟨.tuple #[.agg #[.int .i64 val,.int .i64 (cnt:Int),.slice RA rcs.length rc],.int .i64 0],.agg #[.int .i64 5,.int .i64 0,.slice PA gs.length pc,.int .i64 (qs.length:Int)],.slice GA gs.length gc,.slice QA qs.length qc,.slice EA E.length ec,.slice SA X.length sc,.tuple #[.agg #[.int .i64 val,.int .i64 (cnt:Int),.slice RA rcs.length rc],.int .i64 0],.agg #[.int .i64 val,.int .i64 (cnt:Int),.slice RA rcs.length rc],ab,RA,rc,rfl,BA,HBs,hLA⟩
           · intro K hK
             rw [if_pos (by rfl)]
             go_simp
             obtain ⟨ab,hab⟩:∃ ab,ab=u1.heap.size:=⟨_,rfl⟩
             obtain ⟨u2,hu2⟩:∃ w',w'=u1.alloc (.cells #[.int .i64 0,.int .i64 0,.slice none 0 0] 33):=⟨_,rfl⟩
             have hb:Below u1.heap.size u1 u2:=by rw [hu2];exact bA
             have N2:Blk u2 ab 33 #[.int .i64 0,.int .i64 0,.slice none 0 0]:=by rw [hu2,hab];exact Blk.new _ _ _
             have HAB:Hid (u0.heap.size≤ab):=hide (by rw [hab];exact HD1.size)
             have hS2:=hS1.step hb
             have HB2:=bl_step HB1 hb
             have HD2:=bl_step HD1 hb
             have PS2:=hide ((PS1.out.below hb).more hb.size)
             have ES2:=hide ((ES1.out.below hb).more hb.size)
             rw [← hu2,← hab]
             refine hK.out _ _ (fun _=>hS2) ?_
             clear hK K hb hu2 hab
             (try simp only [Act.put,getElem_toArray,getElem_cons_succ,getElem_cons_zero,setIfInBounds_toArray,set_cons_zero,set_cons_succ])
             refine oneH (i:=4) (by kernel_rfl) rfl ?_
             intro K hK
             rw [if_pos (by rfl)]
             go_simp
             refine ⟨trivial,?_⟩
             have V:=(HSV.out u2 HB2 E EA ec ES2.out HCE.out HEBY.out (by have:=HE2.out;omega))
             rw [HXE.out] at V
             refine (callsIn_wide.2 V).mono ?_
             rintro e u3 ⟨SA,sc,rfl,hcs,hb,hs⟩
             have hS3:=hS2.step hb
             have HB3:=bl_step HB2 hb
             have HD3:=bl_step HD2 hb
             have N3:=N2.step hb
             have PS3:=hide ((PS2.out.below hb).more hb.size)
             have SS3:=hide hs
             have HCS:=hide hcs
             clear hcs V
             refine hK.out _ _ (fun _=>hS3) ?_
             clear hK K hs hb
             (try simp only [Act.put,getElem_toArray,getElem_cons_succ,getElem_cons_zero,setIfInBounds_toArray,set_cons_zero,set_cons_succ])
             refine oneH (i:=5) (by kernel_rfl) rfl ?_
             intro K hK
             rw [if_pos (by rfl)]
             go_simp
             refine ⟨trivial,?_⟩
             refine (callsIn_wide.2 (HRD.out u3 PA pc PS3.out SA sc SS3.out HCS.out)).mono ?_
             rintro e u4 ⟨RA,rc,rfl,hb,hs⟩
             dsimp only
             have hS4:=hS3.step hb
             have HB4:=bl_step HB3 hb
             have HD4:=bl_step HD3 hb
             have N4:=N3.step hb
             refine hK.out _ _ (fun _=>hS4) ?_
             clear hK K hs hb
             (try simp only [Act.put,getElem_toArray,getElem_cons_succ,getElem_cons_zero,setIfInBounds_toArray,set_cons_zero,set_cons_succ])
             refine' takeH (i:=6) (v:=_) (noDefer_of (by kernel_rfl)) rfl (by kernel_rfl) (by kernel_rfl) (by kernel_rfl) (fun _ _ _ h=>h) (by kernel_rfl) ⟨Or.inl ⟨by rfl,?hy6k12⟩,fun _=>rfl⟩ hS4 ?rest6k12
             case hy6k12 =>
              intro w' hSw
              go_simp
              rfl
             simp only [Act.put,getElem_toArray,getElem_cons_succ,getElem_cons_zero,setIfInBounds_toArray,set_cons_zero,set_cons_succ]
             refine' takeH (i:=7) (v:=_) (noDefer_of (by kernel_rfl)) rfl (by kernel_rfl) (by kernel_rfl) (by kernel_rfl) (fun _ _ _ h=>h) (by kernel_rfl) ⟨Or.inl ⟨by rfl,?hy7k13⟩,fun _=>rfl⟩ hS4 ?rest7k13
             case hy7k13 =>
              intro w' hSw
              go_simp
              rfl
             simp only [Act.put,getElem_toArray,getElem_cons_succ,getElem_cons_zero,setIfInBounds_toArray,set_cons_zero,set_cons_succ]
             refine' takeH (i:=8) (v:=_) (noDefer_of (by kernel_rfl)) rfl (by kernel_rfl) (by kernel_rfl) (by kernel_rfl) (fun _ _ _ h=>h) (by kernel_rfl) ⟨Or.inl ⟨by rfl,?hy8k14⟩,fun _=>rfl⟩ hS4 ?rest8k14
             case hy8k14 =>
              intro w' hSw
              go_simp
              rfl
             simp only [Act.put,getElem_toArray,getElem_cons_succ,getElem_cons_zero,setIfInBounds_toArray,set_cons_zero,set_cons_succ]
             have n0:=N4.cell (i:=0) rfl
             have n1:=N4.cell (i:=1) rfl
             have n2:=N4.cell (i:=2) rfl
             have f0:=N4.frozen 0
             have f1:=N4.frozen 1
             have f2:=N4.frozen 2
             refine oneH (i:=10) (by kernel_rfl) rfl ?_
             intro K hK
             rw [if_pos (by rfl)]
             go_simp
             have hbs:=((HD4.setCell (p:=⟨ab,0,none⟩) HAB.out (.int .i64 val)).setCell (p:=⟨ab,1,none⟩) HAB.out (.int .i64 (cnt:Int))).setCell (p:=⟨ab,2,none⟩) HAB.out (.slice RA rcs.length rc)
             have hLA:=Nat.le_trans HLW.out HAB.out
             have HBs:=((HB4.setCell (p:=⟨ab,0,none⟩) hLA (.int .i64 val)).setCell (p:=⟨ab,1,none⟩) hLA (.int .i64 (cnt:Int))).setCell (p:=⟨ab,2,none⟩) hLA (.slice RA rcs.length rc)
             have hS5:=hS0.step hbs
             have BA:=((N4.set 0 (.int .i64 val)).set 1 (.int .i64 (cnt:Int))).set 2 (.slice RA rcs.length rc)
             simp only [setIfInBounds_toArray,set_cons_zero,set_cons_succ] at BA
             refine hK.out _ _ (fun _=>hS5) ?_
             clear hK K n0 n1 n2 f0 f1 f2
             refine' takeH (i:=11) (v:=_) (noDefer_of (by kernel_rfl)) rfl (by kernel_rfl) (by kernel_rfl) (by kernel_rfl) (fun _ _ _ h=>h) (by kernel_rfl) ⟨Or.inl ⟨by rfl,?hy11k15⟩,fun _=>rfl⟩ hS5 ?rest11k15
             case hy11k15 =>
              intro w' hSw
              go_simp
              rfl
             simp only [Act.put,getElem_toArray,getElem_cons_succ,getElem_cons_zero,setIfInBounds_toArray,set_cons_zero,set_cons_succ]
             refine doneH (by kernel_rfl) ?_ _
             refine OnlyN.intro ?_
             refine ⟨.tuple #[.agg #[.int .i64 val,.int .i64 (cnt:Int),.slice RA rcs.length rc],.int .i64 0],.agg #[.int .i64 5,.int .i64 0,.slice PA gs.length pc,.int .i64 (qs.length:Int)],.slice GA gs.length gc,.slice QA qs.length qc,.slice EA E.length ec,.slice SA X.length sc,.tuple #[.agg #[.int .i64 val,.int .i64 (cnt:Int),.slice RA rcs.length rc],.int .i64 0],.agg #[.int .i64 val,.int .i64 (cnt:Int),.slice RA rcs.length rc],ab,RA,rc,rfl,BA,HBs,hLA⟩
         · intro K hK
           rw [if_pos (by rfl)]
           go_simp
           obtain ⟨ab,hab⟩:∃ ab,ab=u0.heap.size:=⟨_,rfl⟩
           obtain ⟨u1,hu1⟩:∃ w',w'=u0.alloc (.cells #[.int .i64 0,.int .i64 0,.slice none 0 0] 33):=⟨_,rfl⟩
           have hb:Below u0.heap.size u0 u1:=by rw [hu1];exact bA
           have N1:Blk u1 ab 33 #[.int .i64 0,.int .i64 0,.slice none 0 0]:=by rw [hu1,hab];exact Blk.new _ _ _
           have HAB:Hid (u0.heap.size≤ab):=hide (by rw [hab];exact HD0.size)
           have hS1:=hS0.step hb
           have HB1:=bl_step HB0 hb
           have HD1:=bl_step HD0 hb
           have PS1:=hide ((PS0.out.below hb).more hb.size)
           rw [← hu1,← hab]
           refine hK.out _ _ (fun _=>hS1) ?_
           clear hK K hb hu1 hab
           (try simp only [Act.put,getElem_toArray,getElem_cons_succ,getElem_cons_zero,setIfInBounds_toArray,set_cons_zero,set_cons_succ])
           refine oneH (i:=3) (by kernel_rfl) rfl ?_
           intro K hK
           rw [if_pos (by rfl)]
           go_simp
           refine ⟨trivial,?_⟩
           refine (callsIn_wide.2 (HBA1.out u1 HB1)).mono ?_
           rintro e u2 ⟨EA,ec,rfl,hce,hs,hb⟩
           have hS2:=hS1.step hb
           have HB2:=bl_step HB1 hb
           have HD2:=bl_step HD1 hb
           have N2:=N1.step hb
           have PS2:=hide ((PS1.out.below hb).more hb.size)
           have ES2:=hide hs
           have HCE:=hide hce
           clear hce
           refine hK.out _ _ (fun _=>hS2) ?_
           clear hK K hs hb
           (try simp only [Act.put,getElem_toArray,getElem_cons_succ,getElem_cons_zero,setIfInBounds_toArray,set_cons_zero,set_cons_succ])
           refine oneH (i:=4) (by kernel_rfl) rfl ?_
           intro K hK
           rw [if_pos (by rfl)]
           go_simp
           refine ⟨trivial,?_⟩
           have V:=(HSV.out u2 HB2 E EA ec ES2.out HCE.out HEBY.out (by have:=HE2.out;omega))
           rw [HXE.out] at V
           refine (callsIn_wide.2 V).mono ?_
           rintro e u3 ⟨SA,sc,rfl,hcs,hb,hs⟩
           have hS3:=hS2.step hb
           have HB3:=bl_step HB2 hb
           have HD3:=bl_step HD2 hb
           have N3:=N2.step hb
           have PS3:=hide ((PS2.out.below hb).more hb.size)
           have SS3:=hide hs
           have HCS:=hide hcs
           clear hcs V
           refine hK.out _ _ (fun _=>hS3) ?_
           clear hK K hs hb
           (try simp only [Act.put,getElem_toArray,getElem_cons_succ,getElem_cons_zero,setIfInBounds_toArray,set_cons_zero,set_cons_succ])
           refine oneH (i:=5) (by kernel_rfl) rfl ?_
           intro K hK
           rw [if_pos (by rfl)]
           go_simp
           refine ⟨trivial,?_⟩
           refine (callsIn_wide.2 (HRD.out u3 PA pc PS3.out SA sc SS3.out HCS.out)).mono ?_
           rintro e u4 ⟨RA,rc,rfl,hb,hs⟩
           dsimp only
           have hS4:=hS3.step hb
           have HB4:=bl_step HB3 hb
           have HD4:=bl_step HD3 hb
           have N4:=N3.step hb
           refine hK.out _ _ (fun _=>hS4) ?_
           clear hK K hs hb
           (try simp only [Act.put,getElem_toArray,getElem_cons_succ,getElem_cons_zero,setIfInBounds_toArray,set_cons_zero,set_cons_succ])
           refine' takeH (i:=6) (v:=_) (noDefer_of (by kernel_rfl)) rfl (by kernel_rfl) (by kernel_rfl) (by kernel_rfl) (fun _ _ _ h=>h) (by kernel_rfl) ⟨Or.inl ⟨by rfl,?hy6k16⟩,fun _=>rfl⟩ hS4 ?rest6k16
           case hy6k16 =>
            intro w' hSw
            go_simp
            rfl
           simp only [Act.put,getElem_toArray,getElem_cons_succ,getElem_cons_zero,setIfInBounds_toArray,set_cons_zero,set_cons_succ]
           refine' takeH (i:=7) (v:=_) (noDefer_of (by kernel_rfl)) rfl (by kernel_rfl) (by kernel_rfl) (by kernel_rfl) (fun _ _ _ h=>h) (by kernel_rfl) ⟨Or.inl ⟨by rfl,?hy7k17⟩,fun _=>rfl⟩ hS4 ?rest7k17
           case hy7k17 =>
            intro w' hSw
            go_simp
            rfl
           simp only [Act.put,getElem_toArray,getElem_cons_succ,getElem_cons_zero,setIfInBounds_toArray,set_cons_zero,set_cons_succ]
           refine' takeH (i:=8) (v:=_) (noDefer_of (by kernel_rfl)) rfl (by kernel_rfl) (by kernel_rfl) (by kernel_rfl) (fun _ _ _ h=>h) (by kernel_rfl) ⟨Or.inl ⟨by rfl,?hy8k18⟩,fun _=>rfl⟩ hS4 ?rest8k18
           case hy8k18 =>
            intro w' hSw
            go_simp
            rfl
           simp only [Act.put,getElem_toArray,getElem_cons_succ,getElem_cons_zero,setIfInBounds_toArray,set_cons_zero,set_cons_succ]
           have n0:=N4.cell (i:=0) rfl
           have n1:=N4.cell (i:=1) rfl
           have n2:=N4.cell (i:=2) rfl
           have f0:=N4.frozen 0
           have f1:=N4.frozen 1
           have f2:=N4.frozen 2
           refine oneH (i:=10) (by kernel_rfl) rfl ?_
           intro K hK
           rw [if_pos (by rfl)]
           go_simp
           have hbs:=((HD4.setCell (p:=⟨ab,0,none⟩) HAB.out (.int .i64 val)).setCell (p:=⟨ab,1,none⟩) HAB.out (.int .i64 (cnt:Int))).setCell (p:=⟨ab,2,none⟩) HAB.out (.slice RA rcs.length rc)
           have hLA:=Nat.le_trans HLW.out HAB.out
           have HBs:=((HB4.setCell (p:=⟨ab,0,none⟩) hLA (.int .i64 val)).setCell (p:=⟨ab,1,none⟩) hLA (.int .i64 (cnt:Int))).setCell (p:=⟨ab,2,none⟩) hLA (.slice RA rcs.length rc)
           have hS5:=hS0.step hbs
           have BA:=((N4.set 0 (.int .i64 val)).set 1 (.int .i64 (cnt:Int))).set 2 (.slice RA rcs.length rc)
           simp only [setIfInBounds_toArray,set_cons_zero,set_cons_succ] at BA
           refine hK.out _ _ (fun _=>hS5) ?_
           clear hK K n0 n1 n2 f0 f1 f2
           refine' takeH (i:=11) (v:=_) (noDefer_of (by kernel_rfl)) rfl (by kernel_rfl) (by kernel_rfl) (by kernel_rfl) (fun _ _ _ h=>h) (by kernel_rfl) ⟨Or.inl ⟨by rfl,?hy11k19⟩,fun _=>rfl⟩ hS5 ?rest11k19
           case hy11k19 =>
            intro w' hSw
            go_simp
            rfl
           simp only [Act.put,getElem_toArray,getElem_cons_succ,getElem_cons_zero,setIfInBounds_toArray,set_cons_zero,set_cons_succ]
           refine doneH (by kernel_rfl) ?_ _
           refine OnlyN.intro ?_
           refine ⟨.tuple #[.agg #[.int .i64 val,.int .i64 (cnt:Int),.slice RA rcs.length rc],.int .i64 0],.agg #[.int .i64 5,.int .i64 0,.slice PA gs.length pc,.int .i64 (qs.length:Int)],.slice GA gs.length gc,.slice QA qs.length qc,.slice EA E.length ec,.slice SA X.length sc,.tuple #[.agg #[.int .i64 val,.int .i64 (cnt:Int),.slice RA rcs.length rc],.int .i64 0],.agg #[.int .i64 val,.int .i64 (cnt:Int),.slice RA rcs.length rc],ab,RA,rc,rfl,BA,HBs,hLA⟩
       · rintro a' w8 ⟨v32,v33,v34,v35,v36,v37,v38,v39,ab,RA,rc,rfl,A8,HB8,hab⟩
         clear HRD HBA1 HPS HPS3 HB3d HB3 B3 hS HEBY HE2
         simp only [Act.put,setIfInBounds_toArray,set_cons_zero,set_cons_succ]
         obtain ⟨F,hF⟩:∃ F:Nat→Nat,F=fun k=>((qs.take k).filter fun q=>decide (fenceA gs q.1=1)).length:=⟨_,rfl⟩
         have HF0:Hid (F 0=0):=hide (by rw [hF];rfl)
         have HFN:Hid (F qs.length=cnt):=hide (by rw [hF];dsimp only;rw [List.take_length];exact HCN.out)
         have HFS:Hid (∀ (k:Nat) (q:(Int × Int) × Int),qs[k]?=some q→F (k+1)=F k+if fenceA gs q.1=1 then 1 else 0):=hide (fun k q hq=>by
          rw [hF];dsimp only
          rw [List.take_add_one,hq,Option.toList_some,List.filter_append,List.length_append,List.filter_cons]
          by_cases h:fenceA gs q.1=1
          · rw [if_pos h,if_pos (by simpa using h)];rfl
          · rw [if_neg h,if_neg (by simpa using h)];rfl)
         have HFL:Hid (∀ k,F k≤qs.length):=hide (fun k=>by
          rw [hF];dsimp only
          exact Nat.le_trans (List.length_filter_le _ _) (by rw [List.length_take];omega))
         clear hF HCN
         gi_wp2_with fail
         gi_loopw [8,45] (fun nn i wr=>∃ k:Nat,k≤qs.length∧i=.int .i64 (k:Int)∧nn=.int .i64 (F k:Int)∧Blk wr ab 33 #[.int .i64 val,.int .i64 (cnt:Int),.slice RA rcs.length rc]∧Below w.heap.size w wr)
          (fun _ i _=>qs.length - (intOf i).toNat)
         case atStart=>exact ⟨0,Nat.zero_le _,rfl,by rw [HF0.out];rfl,A8,HB8⟩
         case round =>
          clear A8 HB8
          obtain ⟨k,hk,rfl,rfl,Ar,HBr⟩:=hrel
          by_cases hkn:k<qs.length
          · have hki:(k:Int)<(qs.length:Int):=by omega
            obtain ⟨q,hq⟩:∃ q,qs[k]?=some q:=⟨_,List.getElem?_eq_getElem hkn⟩
            have HFK:=hide (HFS.out k q hq)
            have HFB:=hide (HFL.out k)
            have hpj:=HQJ.out q (List.mem_of_getElem? hq)
            obtain ⟨b,off,hQA,hB,q0,q1,q2⟩:=(HQS.out wr HBr).qu hq
            subst hQA
            obtain ⟨⟨x,y⟩,id⟩:=q
            dsimp only at q0 q1 q2 hpj HFK
            obtain ⟨hem0,hem⟩:=HEM1.out (x,y) hpj
            have hcase:=HVC.out (x,y)
            obtain ⟨v,hv⟩:∃ v,v=fenceA gs (x,y):=⟨_,rfl⟩
            rw [← hv] at hem hcase HFK
            obtain ⟨E2,hE2⟩:∃ E2,E2=(hencode 4 0 (gs.map pubR) 0 gs [(x,y)] []).1:=⟨_,rfl⟩
            have hbd2:=(hencode_bd (Prod.ext rfl hem0:hencode 4 0 (gs.map pubR) 0 gs [(x,y)] []=((hencode 4 0 (gs.map pubR) 0 gs [(x,y)] []).1,0)) HLEN.out).2 rfl
            rw [← hE2] at hem hbd2
            have HEM2:=hide hem
            have HBD2:=hide hbd2
            have hbz:=bl_alloc (Below.refl wr.heap.size wr) (.cells #[.int .i64 x,.int .i64 y,.int .u64 id] 82)
            have NQ:=Blk.new wr 82 #[.int .i64 x,.int .i64 y,.int .u64 id]
            have y0:=NQ.cell (i:=0) rfl
            have y1:=NQ.cell (i:=1) rfl
            have HBz:=bl_step HBr hbz
            have M1:=hide (HME1.out _ HBz x y)
            rw [← hE2] at M1
            have Az:=Ar.step hbz
            clear hE2 hem hbd2 hem0 hpj hq hbz NQ hv Ar
            gi_wp2_with fail
            refine ⟨trivial,?_⟩
            refine (callsIn_wide.2 M1.out).mono ?_
            rintro e w9 ⟨MA,mc,rfl,hmc,hs9,hb9⟩
            have HB9:=bl_step HBz hb9
            have A9:=Az.step hb9
            have S9:=hide (HSV.out w9 HB9 E2 MA mc hs9 hmc HBD2.out.2 (by have:=HBD2.out.1;omega))
            clear hs9 hb9 M1 q0 q1 q2 y0 y1 Az HBz
            gi_wp2_with fail
            refine ⟨trivial,?_⟩
            refine (callsIn_wide.2 S9.out).mono ?_
            rw [HEM2.out]
            rintro e w10 ⟨SA,sc,rfl,hsc,hb10,hs10⟩
            have HB10:=bl_step HB9 hb10
            have A10:=A9.step hb10
            rcases hs10 with h0 | ⟨b2,off2,rfl,hbb,hcc⟩
            · simp [byCells] at h0
            have d0:w10.cell? ⟨b2,off2,none⟩=some (.int .u8 0):=hcc 0 _ rfl
            have d1:w10.cell? ⟨b2,off2+1,none⟩=some (.int .u8 v):=hcc 1 _ rfl
            have hsc2:2≤sc:=hsc
            clear hcc A9 hb10 S9 hsc
            dsimp only [List.length_cons,List.length_nil]
            gi_wp2_with fail
            rcases hcase with ⟨rfl,rfl⟩ | ⟨rfl,rfl⟩ | ⟨rfl,rfl⟩
            · have HFB1:=HFB.out
              have hfk:F (k+1)=F k+0:=HFK.out.trans rfl
              have hS:w10.drew.cell? ⟨b2,off2,none⟩=some (.int .u8 0)∧w10.drew.cell? ⟨b2,off2+1,none⟩=some (.int .u8 2)∧Blk w10.drew ab 33 #[.int .i64 0,.int .i64 (cnt:Int),.slice RA rcs.length rc]:=⟨d0,d1,A10.drew⟩
              refine startN 1000 (S:=fun w'=>w'.cell? ⟨b2,off2,none⟩=some (.int .u8 0)∧w'.cell? ⟨b2,off2+1,none⟩=some (.int .u8 2)∧Blk w' ab 33 #[.int .i64 0,.int .i64 (cnt:Int),.slice RA rcs.length rc]) hmix ?_
              refine' takeH (i:=0) (v:=_) (noDefer_of (by kernel_rfl)) rfl (by kernel_rfl) (by kernel_rfl) (by kernel_rfl) (fun _ _ _ h=>h) (by kernel_rfl) ⟨Or.inl ⟨by rfl,?hy0k20⟩,fun _=>rfl⟩ hS ?rest0k20
              case hy0k20 =>
               intro w' hSw
               go_simp
               rfl
              simp only [Act.put,getElem_toArray,getElem_cons_zero,setIfInBounds_toArray,set_cons_zero,set_cons_succ]
              refine' takeH (i:=1) (v:=_) (noDefer_of (by kernel_rfl)) rfl (by kernel_rfl) (by kernel_rfl) (by kernel_rfl) (fun _ _ _ h=>h) (by kernel_rfl) ⟨Or.inl ⟨by rfl,?hy1k21⟩,fun _=>rfl⟩ hS ?rest1k21
              case hy1k21 =>
               intro w' hSw
               go_simp
               rfl
              simp only [Act.put,getElem_toArray,getElem_cons_succ,getElem_cons_zero,setIfInBounds_toArray,set_cons_zero,set_cons_succ]
              refine' takeH (i:=2) (v:=_) (noDefer_of (by kernel_rfl)) rfl (by kernel_rfl) (by kernel_rfl) (by kernel_rfl) (fun _ _ _ h=>h) (by kernel_rfl) ⟨Or.inl ⟨by rfl,?hy2k22⟩,fun _=>rfl⟩ hS ?rest2k22
              case hy2k22 =>
               intro w' hSw
               go_simp
               rfl
              simp only [Act.put,getElem_toArray,getElem_cons_succ,getElem_cons_zero,setIfInBounds_toArray,set_cons_zero,set_cons_succ]
              refine' takeH (i:=3) (v:=_) (noDefer_of (by kernel_rfl)) rfl (by kernel_rfl) (by kernel_rfl) (by kernel_rfl) (fun _ _ _ h=>h) (by kernel_rfl) ⟨Or.inl ⟨by rfl,?hy3k23⟩,fun _=>rfl⟩ hS ?rest3k23
              case hy3k23 =>
               intro w' hSw
               go_simp
               rfl
              simp only [Act.put,getElem_toArray,getElem_cons_succ,getElem_cons_zero,setIfInBounds_toArray,set_cons_zero,set_cons_succ]
              refine' takeH (i:=4) (v:=_) (noDefer_of (by kernel_rfl)) rfl (by kernel_rfl) (by kernel_rfl) (by kernel_rfl) (fun _ _ _ h=>h) (by kernel_rfl) ⟨Or.inl ⟨by rfl,?hy4k24⟩,fun _=>rfl⟩ hS ?rest4k24
              case hy4k24 =>
               intro w' hSw
               go_simp
               rfl
              simp only [Act.put,getElem_toArray,getElem_cons_succ,getElem_cons_zero,setIfInBounds_toArray,set_cons_zero,set_cons_succ]
              refine' takeH (i:=5) (v:=_) (noDefer_of (by kernel_rfl)) rfl (by kernel_rfl) (by kernel_rfl) (by kernel_rfl) (fun _ _ _ h=>h) (by kernel_rfl) ⟨Or.inl ⟨by rfl,?hy5k25⟩,fun _=>rfl⟩ hS ?rest5k25
              case hy5k25 =>
               intro w' hSw
               obtain ⟨s0,s1,s2⟩:=hSw
               have s3:=s2.cell (i:=0) rfl
               go_simp
               rfl
              simp only [Act.put,getElem_toArray,getElem_cons_succ,getElem_cons_zero,setIfInBounds_toArray,set_cons_zero,set_cons_succ]
              refine' takeH (i:=6) (v:=_) (noDefer_of (by kernel_rfl)) rfl (by kernel_rfl) (by kernel_rfl) (by kernel_rfl) (fun _ _ _ h=>h) (by kernel_rfl) ⟨Or.inl ⟨by rfl,?hy6k26⟩,fun _=>rfl⟩ hS ?rest6k26
              case hy6k26 =>
               intro w' hSw
               obtain ⟨s0,s1,s2⟩:=hSw
               have s3:=s2.cell (i:=0) rfl
               go_simp
               rfl
              simp only [Act.put,getElem_toArray,getElem_cons_succ,getElem_cons_zero,setIfInBounds_toArray,set_cons_zero,set_cons_succ]
              refine' takeH (i:=7) (v:=_) (noDefer_of (by kernel_rfl)) rfl (by kernel_rfl) (by kernel_rfl) (by kernel_rfl) (fun _ _ _ h=>h) (by kernel_rfl) ⟨Or.inl ⟨by rfl,?hy7k27⟩,fun _=>rfl⟩ hS ?rest7k27
              case hy7k27 =>
               intro w' hSw
               go_simp
               rfl
              simp only [Act.put,getElem_toArray,getElem_cons_succ,getElem_cons_zero,setIfInBounds_toArray,set_cons_zero,set_cons_succ]
              refine' takeH (i:=8) (v:=_) (noDefer_of (by kernel_rfl)) rfl (by kernel_rfl) (by kernel_rfl) (by kernel_rfl) (fun _ _ _ h=>h) (by kernel_rfl) ⟨Or.inl ⟨by rfl,?hy8k28⟩,fun _=>rfl⟩ hS ?rest8k28
              case hy8k28 =>
               intro w' hSw
               go_simp
               rfl
              simp only [Act.put,getElem_toArray,getElem_cons_succ,getElem_cons_zero,setIfInBounds_toArray,set_cons_zero,set_cons_succ]
              refine' takeH (i:=9) (v:=_) (noDefer_of (by kernel_rfl)) rfl (by kernel_rfl) (by kernel_rfl) (by kernel_rfl) (fun _ _ _ h=>h) (by kernel_rfl) ⟨Or.inl ⟨by rfl,?hy9k29⟩,fun _=>rfl⟩ hS ?rest9k29
              case hy9k29 =>
               intro w' hSw
               go_simp
               rfl
              simp only [Act.put,getElem_toArray,getElem_cons_succ,getElem_cons_zero,setIfInBounds_toArray,set_cons_zero,set_cons_succ]
              refine' takeH (i:=10) (v:=_) (noDefer_of (by kernel_rfl)) rfl (by kernel_rfl) (by kernel_rfl) (by kernel_rfl) (fun _ _ _ h=>h) (by kernel_rfl) ⟨Or.inl ⟨by rfl,?hy10k30⟩,fun _=>rfl⟩ hS ?rest10k30
              case hy10k30 =>
               intro w' hSw
               go_simp
               rfl
              simp only [Act.put,getElem_toArray,getElem_cons_succ,getElem_cons_zero,setIfInBounds_toArray,set_cons_zero,set_cons_succ]
              refine' takeH (i:=11) (v:=_) (noDefer_of (by kernel_rfl)) rfl (by kernel_rfl) (by kernel_rfl) (by kernel_rfl) (fun _ _ _ h=>h) (by kernel_rfl) ⟨Or.inl ⟨by rfl,?hy11k31⟩,fun _=>rfl⟩ hS ?rest11k31
              case hy11k31 =>
               intro w' hSw
               obtain ⟨s0,s1,s2⟩:=hSw
               have s3:=s2.cell (i:=0) rfl
               go_simp
               rfl
              simp only [Act.put,getElem_toArray,getElem_cons_succ,getElem_cons_zero,setIfInBounds_toArray,set_cons_zero,set_cons_succ]
              refine' takeH (i:=12) (v:=_) (noDefer_of (by kernel_rfl)) rfl (by kernel_rfl) (by kernel_rfl) (by kernel_rfl) (fun _ _ _ h=>h) (by kernel_rfl) ⟨Or.inl ⟨by rfl,?hy12k32⟩,fun _=>rfl⟩ hS ?rest12k32
              case hy12k32 =>
               intro w' hSw
               obtain ⟨s0,s1,s2⟩:=hSw
               have s3:=s2.cell (i:=0) rfl
               go_simp
               rfl
              simp only [Act.put,getElem_toArray,getElem_cons_succ,getElem_cons_zero,setIfInBounds_toArray,set_cons_zero,set_cons_succ]
              refine' takeH (i:=13) (v:=_) (noDefer_of (by kernel_rfl)) rfl (by kernel_rfl) (by kernel_rfl) (by kernel_rfl) (fun _ _ _ h=>h) (by kernel_rfl) ⟨Or.inl ⟨by rfl,?hy13k33⟩,fun _=>rfl⟩ hS ?rest13k33
              case hy13k33 =>
               intro w' hSw
               go_simp
               rfl
              simp only [Act.put,getElem_toArray,getElem_cons_succ,getElem_cons_zero,setIfInBounds_toArray,set_cons_zero,set_cons_succ]
              refine' takeH (i:=14) (v:=_) (noDefer_of (by kernel_rfl)) rfl (by kernel_rfl) (by kernel_rfl) (by kernel_rfl) (fun _ _ _ h=>h) (by kernel_rfl) ⟨Or.inl ⟨by rfl,?hy14k34⟩,fun _=>rfl⟩ hS ?rest14k34
              case hy14k34 =>
               intro w' hSw
               obtain ⟨s0,s1,s2⟩:=hSw
               have s3:=s2.cell (i:=0) rfl
               go_simp
               rfl
              simp only [Act.put,getElem_toArray,getElem_cons_succ,getElem_cons_zero,setIfInBounds_toArray,set_cons_zero,set_cons_succ]
              refine' takeH (i:=15) (v:=_) (noDefer_of (by kernel_rfl)) rfl (by kernel_rfl) (by kernel_rfl) (by kernel_rfl) (fun _ _ _ h=>h) (by kernel_rfl) ⟨Or.inl ⟨by rfl,?hy15k35⟩,fun _=>rfl⟩ hS ?rest15k35
              case hy15k35 =>
               intro w' hSw
               obtain ⟨s0,s1,s2⟩:=hSw
               have s3:=s2.cell (i:=0) rfl
               go_simp
               rfl
              simp only [Act.put,getElem_toArray,getElem_cons_succ,getElem_cons_zero,setIfInBounds_toArray,set_cons_zero,set_cons_succ]
              refine' takeH (i:=16) (v:=_) (noDefer_of (by kernel_rfl)) rfl (by kernel_rfl) (by kernel_rfl) (by kernel_rfl) (fun _ _ _ h=>h) (by kernel_rfl) ⟨Or.inl ⟨by rfl,?hy16k36⟩,fun _=>rfl⟩ hS ?rest16k36
              case hy16k36 =>
               intro w' hSw
               go_simp
               rfl
              simp only [Act.put,getElem_toArray,getElem_cons_succ,getElem_cons_zero,setIfInBounds_toArray,set_cons_zero,set_cons_succ]
              refine' takeH (i:=17) (v:=_) (noDefer_of (by kernel_rfl)) rfl (by kernel_rfl) (by kernel_rfl) (by kernel_rfl) (fun _ _ _ h=>h) (by kernel_rfl) ⟨Or.inl ⟨by rfl,?hy17k37⟩,fun _=>rfl⟩ hS ?rest17k37
              case hy17k37 =>
               intro w' hSw
               go_simp
               rfl
              simp only [Act.put,getElem_toArray,getElem_cons_succ,getElem_cons_zero,setIfInBounds_toArray,set_cons_zero,set_cons_succ]
              refine' takeH (i:=18) (v:=_) (noDefer_of (by kernel_rfl)) rfl (by kernel_rfl) (by kernel_rfl) (by kernel_rfl) (fun _ _ _ h=>h) (by kernel_rfl) ⟨Or.inl ⟨by rfl,?hy18k38⟩,fun _=>rfl⟩ hS ?rest18k38
              case hy18k38 =>
               intro w' hSw
               go_simp
               rfl
              simp only [Act.put,getElem_toArray,getElem_cons_succ,getElem_cons_zero,setIfInBounds_toArray,set_cons_zero,set_cons_succ]
              refine doneH (by kernel_rfl) ?_ _
              refine OnlyN.intro ?_
              obtain ⟨d0',d1',A11⟩:=hS
              have HB11:=bl_drew HB10
              gi_wp2
              go_roundw
              case rel=>exact ⟨k+1,by omega,by go_num,by rw [hfk];go_num,A11,HB11⟩
              case measure=>simp [intOf];omega
            · have HFB1:=HFB.out
              have hfk:F (k+1)=F k+1:=HFK.out.trans rfl
              have hS:w10.drew.cell? ⟨b2,off2,none⟩=some (.int .u8 0)∧w10.drew.cell? ⟨b2,off2+1,none⟩=some (.int .u8 1)∧Blk w10.drew ab 33 #[.int .i64 1,.int .i64 (cnt:Int),.slice RA rcs.length rc]:=⟨d0,d1,A10.drew⟩
              refine startN 1000 (S:=fun w'=>w'.cell? ⟨b2,off2,none⟩=some (.int .u8 0)∧w'.cell? ⟨b2,off2+1,none⟩=some (.int .u8 1)∧Blk w' ab 33 #[.int .i64 1,.int .i64 (cnt:Int),.slice RA rcs.length rc]) hmix ?_
              refine' takeH (i:=0) (v:=_) (noDefer_of (by kernel_rfl)) rfl (by kernel_rfl) (by kernel_rfl) (by kernel_rfl) (fun _ _ _ h=>h) (by kernel_rfl) ⟨Or.inl ⟨by rfl,?hy0k39⟩,fun _=>rfl⟩ hS ?rest0k39
              case hy0k39 =>
               intro w' hSw
               go_simp
               rfl
              simp only [Act.put,getElem_toArray,getElem_cons_zero,setIfInBounds_toArray,set_cons_zero,set_cons_succ]
              refine' takeH (i:=1) (v:=_) (noDefer_of (by kernel_rfl)) rfl (by kernel_rfl) (by kernel_rfl) (by kernel_rfl) (fun _ _ _ h=>h) (by kernel_rfl) ⟨Or.inl ⟨by rfl,?hy1k40⟩,fun _=>rfl⟩ hS ?rest1k40
              case hy1k40 =>
               intro w' hSw
               go_simp
               rfl
              simp only [Act.put,getElem_toArray,getElem_cons_succ,getElem_cons_zero,setIfInBounds_toArray,set_cons_zero,set_cons_succ]
              refine' takeH (i:=2) (v:=_) (noDefer_of (by kernel_rfl)) rfl (by kernel_rfl) (by kernel_rfl) (by kernel_rfl) (fun _ _ _ h=>h) (by kernel_rfl) ⟨Or.inl ⟨by rfl,?hy2k41⟩,fun _=>rfl⟩ hS ?rest2k41
              case hy2k41 =>
               intro w' hSw
               go_simp
               rfl
              simp only [Act.put,getElem_toArray,getElem_cons_succ,getElem_cons_zero,setIfInBounds_toArray,set_cons_zero,set_cons_succ]
              refine' takeH (i:=3) (v:=_) (noDefer_of (by kernel_rfl)) rfl (by kernel_rfl) (by kernel_rfl) (by kernel_rfl) (fun _ _ _ h=>h) (by kernel_rfl) ⟨Or.inl ⟨by rfl,?hy3k42⟩,fun _=>rfl⟩ hS ?rest3k42
              case hy3k42 =>
               intro w' hSw
               go_simp
               rfl
              simp only [Act.put,getElem_toArray,getElem_cons_succ,getElem_cons_zero,setIfInBounds_toArray,set_cons_zero,set_cons_succ]
              refine' takeH (i:=4) (v:=_) (noDefer_of (by kernel_rfl)) rfl (by kernel_rfl) (by kernel_rfl) (by kernel_rfl) (fun _ _ _ h=>h) (by kernel_rfl) ⟨Or.inl ⟨by rfl,?hy4k43⟩,fun _=>rfl⟩ hS ?rest4k43
              case hy4k43 =>
               intro w' hSw
               go_simp
               rfl
              simp only [Act.put,getElem_toArray,getElem_cons_succ,getElem_cons_zero,setIfInBounds_toArray,set_cons_zero,set_cons_succ]
              refine' takeH (i:=5) (v:=_) (noDefer_of (by kernel_rfl)) rfl (by kernel_rfl) (by kernel_rfl) (by kernel_rfl) (fun _ _ _ h=>h) (by kernel_rfl) ⟨Or.inl ⟨by rfl,?hy5k44⟩,fun _=>rfl⟩ hS ?rest5k44
              case hy5k44 =>
               intro w' hSw
               obtain ⟨s0,s1,s2⟩:=hSw
               have s3:=s2.cell (i:=0) rfl
               go_simp
               rfl
              simp only [Act.put,getElem_toArray,getElem_cons_succ,getElem_cons_zero,setIfInBounds_toArray,set_cons_zero,set_cons_succ]
              refine' takeH (i:=6) (v:=_) (noDefer_of (by kernel_rfl)) rfl (by kernel_rfl) (by kernel_rfl) (by kernel_rfl) (fun _ _ _ h=>h) (by kernel_rfl) ⟨Or.inl ⟨by rfl,?hy6k45⟩,fun _=>rfl⟩ hS ?rest6k45
              case hy6k45 =>
               intro w' hSw
               obtain ⟨s0,s1,s2⟩:=hSw
               have s3:=s2.cell (i:=0) rfl
               go_simp
               rfl
              simp only [Act.put,getElem_toArray,getElem_cons_succ,getElem_cons_zero,setIfInBounds_toArray,set_cons_zero,set_cons_succ]
              refine' takeH (i:=7) (v:=_) (noDefer_of (by kernel_rfl)) rfl (by kernel_rfl) (by kernel_rfl) (by kernel_rfl) (fun _ _ _ h=>h) (by kernel_rfl) ⟨Or.inl ⟨by rfl,?hy7k46⟩,fun _=>rfl⟩ hS ?rest7k46
              case hy7k46 =>
               intro w' hSw
               go_simp
               rfl
              simp only [Act.put,getElem_toArray,getElem_cons_succ,getElem_cons_zero,setIfInBounds_toArray,set_cons_zero,set_cons_succ]
              refine' takeH (i:=8) (v:=_) (noDefer_of (by kernel_rfl)) rfl (by kernel_rfl) (by kernel_rfl) (by kernel_rfl) (fun _ _ _ h=>h) (by kernel_rfl) ⟨Or.inl ⟨by rfl,?hy8k47⟩,fun _=>rfl⟩ hS ?rest8k47
              case hy8k47 =>
               intro w' hSw
               go_simp
               rfl
              simp only [Act.put,getElem_toArray,getElem_cons_succ,getElem_cons_zero,setIfInBounds_toArray,set_cons_zero,set_cons_succ]
              refine' takeH (i:=9) (v:=_) (noDefer_of (by kernel_rfl)) rfl (by kernel_rfl) (by kernel_rfl) (by kernel_rfl) (fun _ _ _ h=>h) (by kernel_rfl) ⟨Or.inl ⟨by rfl,?hy9k48⟩,fun _=>rfl⟩ hS ?rest9k48
              case hy9k48 =>
               intro w' hSw
               go_simp
               rfl
              simp only [Act.put,getElem_toArray,getElem_cons_succ,getElem_cons_zero,setIfInBounds_toArray,set_cons_zero,set_cons_succ]
              refine' takeH (i:=10) (v:=_) (noDefer_of (by kernel_rfl)) rfl (by kernel_rfl) (by kernel_rfl) (by kernel_rfl) (fun _ _ _ h=>h) (by kernel_rfl) ⟨Or.inl ⟨by rfl,?hy10k49⟩,fun _=>rfl⟩ hS ?rest10k49
              case hy10k49 =>
               intro w' hSw
               go_simp
               rfl
              simp only [Act.put,getElem_toArray,getElem_cons_succ,getElem_cons_zero,setIfInBounds_toArray,set_cons_zero,set_cons_succ]
              refine' takeH (i:=11) (v:=_) (noDefer_of (by kernel_rfl)) rfl (by kernel_rfl) (by kernel_rfl) (by kernel_rfl) (fun _ _ _ h=>h) (by kernel_rfl) ⟨Or.inl ⟨by rfl,?hy11k50⟩,fun _=>rfl⟩ hS ?rest11k50
              case hy11k50 =>
               intro w' hSw
               obtain ⟨s0,s1,s2⟩:=hSw
               have s3:=s2.cell (i:=0) rfl
               go_simp
               rfl
              simp only [Act.put,getElem_toArray,getElem_cons_succ,getElem_cons_zero,setIfInBounds_toArray,set_cons_zero,set_cons_succ]
              refine' takeH (i:=12) (v:=_) (noDefer_of (by kernel_rfl)) rfl (by kernel_rfl) (by kernel_rfl) (by kernel_rfl) (fun _ _ _ h=>h) (by kernel_rfl) ⟨Or.inl ⟨by rfl,?hy12k51⟩,fun _=>rfl⟩ hS ?rest12k51
              case hy12k51 =>
               intro w' hSw
               obtain ⟨s0,s1,s2⟩:=hSw
               have s3:=s2.cell (i:=0) rfl
               go_simp
               rfl
              simp only [Act.put,getElem_toArray,getElem_cons_succ,getElem_cons_zero,setIfInBounds_toArray,set_cons_zero,set_cons_succ]
              refine' takeH (i:=13) (v:=_) (noDefer_of (by kernel_rfl)) rfl (by kernel_rfl) (by kernel_rfl) (by kernel_rfl) (fun _ _ _ h=>h) (by kernel_rfl) ⟨Or.inl ⟨by rfl,?hy13k52⟩,fun _=>rfl⟩ hS ?rest13k52
              case hy13k52 =>
               intro w' hSw
               go_simp
               rfl
              simp only [Act.put,getElem_toArray,getElem_cons_succ,getElem_cons_zero,setIfInBounds_toArray,set_cons_zero,set_cons_succ]
              refine' takeH (i:=14) (v:=_) (noDefer_of (by kernel_rfl)) rfl (by kernel_rfl) (by kernel_rfl) (by kernel_rfl) (fun _ _ _ h=>h) (by kernel_rfl) ⟨Or.inl ⟨by rfl,?hy14k53⟩,fun _=>rfl⟩ hS ?rest14k53
              case hy14k53 =>
               intro w' hSw
               obtain ⟨s0,s1,s2⟩:=hSw
               have s3:=s2.cell (i:=0) rfl
               go_simp
               rfl
              simp only [Act.put,getElem_toArray,getElem_cons_succ,getElem_cons_zero,setIfInBounds_toArray,set_cons_zero,set_cons_succ]
              refine' takeH (i:=15) (v:=_) (noDefer_of (by kernel_rfl)) rfl (by kernel_rfl) (by kernel_rfl) (by kernel_rfl) (fun _ _ _ h=>h) (by kernel_rfl) ⟨Or.inl ⟨by rfl,?hy15k54⟩,fun _=>rfl⟩ hS ?rest15k54
              case hy15k54 =>
               intro w' hSw
               obtain ⟨s0,s1,s2⟩:=hSw
               have s3:=s2.cell (i:=0) rfl
               go_simp
               rfl
              simp only [Act.put,getElem_toArray,getElem_cons_succ,getElem_cons_zero,setIfInBounds_toArray,set_cons_zero,set_cons_succ]
              refine' takeH (i:=16) (v:=_) (noDefer_of (by kernel_rfl)) rfl (by kernel_rfl) (by kernel_rfl) (by kernel_rfl) (fun _ _ _ h=>h) (by kernel_rfl) ⟨Or.inl ⟨by rfl,?hy16k55⟩,fun _=>rfl⟩ hS ?rest16k55
              case hy16k55 =>
               intro w' hSw
               go_simp
               rfl
              simp only [Act.put,getElem_toArray,getElem_cons_succ,getElem_cons_zero,setIfInBounds_toArray,set_cons_zero,set_cons_succ]
              refine' takeH (i:=17) (v:=_) (noDefer_of (by kernel_rfl)) rfl (by kernel_rfl) (by kernel_rfl) (by kernel_rfl) (fun _ _ _ h=>h) (by kernel_rfl) ⟨Or.inl ⟨by rfl,?hy17k56⟩,fun _=>rfl⟩ hS ?rest17k56
              case hy17k56 =>
               intro w' hSw
               go_simp
               rfl
              simp only [Act.put,getElem_toArray,getElem_cons_succ,getElem_cons_zero,setIfInBounds_toArray,set_cons_zero,set_cons_succ]
              refine' takeH (i:=18) (v:=_) (noDefer_of (by kernel_rfl)) rfl (by kernel_rfl) (by kernel_rfl) (by kernel_rfl) (fun _ _ _ h=>h) (by kernel_rfl) ⟨Or.inl ⟨by rfl,?hy18k57⟩,fun _=>rfl⟩ hS ?rest18k57
              case hy18k57 =>
               intro w' hSw
               go_simp
               rfl
              simp only [Act.put,getElem_toArray,getElem_cons_succ,getElem_cons_zero,setIfInBounds_toArray,set_cons_zero,set_cons_succ]
              refine doneH (by kernel_rfl) ?_ _
              refine OnlyN.intro ?_
              obtain ⟨d0',d1',A11⟩:=hS
              have HB11:=bl_drew HB10
              gi_wp2
              go_roundw
              case rel=>exact ⟨k+1,by omega,by go_num,by rw [hfk];go_num,A11,HB11⟩
              case measure=>simp [intOf];omega
            · have HFB1:=HFB.out
              have hfk:F (k+1)=F k+0:=HFK.out.trans rfl
              have hS:w10.drew.cell? ⟨b2,off2,none⟩=some (.int .u8 0)∧w10.drew.cell? ⟨b2,off2+1,none⟩=some (.int .u8 0)∧Blk w10.drew ab 33 #[.int .i64 1,.int .i64 (cnt:Int),.slice RA rcs.length rc]:=⟨d0,d1,A10.drew⟩
              refine startN 1000 (S:=fun w'=>w'.cell? ⟨b2,off2,none⟩=some (.int .u8 0)∧w'.cell? ⟨b2,off2+1,none⟩=some (.int .u8 0)∧Blk w' ab 33 #[.int .i64 1,.int .i64 (cnt:Int),.slice RA rcs.length rc]) hmix ?_
              refine' takeH (i:=0) (v:=_) (noDefer_of (by kernel_rfl)) rfl (by kernel_rfl) (by kernel_rfl) (by kernel_rfl) (fun _ _ _ h=>h) (by kernel_rfl) ⟨Or.inl ⟨by rfl,?hy0k58⟩,fun _=>rfl⟩ hS ?rest0k58
              case hy0k58 =>
               intro w' hSw
               go_simp
               rfl
              simp only [Act.put,getElem_toArray,getElem_cons_zero,setIfInBounds_toArray,set_cons_zero,set_cons_succ]
              refine' takeH (i:=1) (v:=_) (noDefer_of (by kernel_rfl)) rfl (by kernel_rfl) (by kernel_rfl) (by kernel_rfl) (fun _ _ _ h=>h) (by kernel_rfl) ⟨Or.inl ⟨by rfl,?hy1k59⟩,fun _=>rfl⟩ hS ?rest1k59
              case hy1k59 =>
               intro w' hSw
               go_simp
               rfl
              simp only [Act.put,getElem_toArray,getElem_cons_succ,getElem_cons_zero,setIfInBounds_toArray,set_cons_zero,set_cons_succ]
              refine' takeH (i:=2) (v:=_) (noDefer_of (by kernel_rfl)) rfl (by kernel_rfl) (by kernel_rfl) (by kernel_rfl) (fun _ _ _ h=>h) (by kernel_rfl) ⟨Or.inl ⟨by rfl,?hy2k60⟩,fun _=>rfl⟩ hS ?rest2k60
              case hy2k60 =>
               intro w' hSw
               go_simp
               rfl
              simp only [Act.put,getElem_toArray,getElem_cons_succ,getElem_cons_zero,setIfInBounds_toArray,set_cons_zero,set_cons_succ]
              refine' takeH (i:=3) (v:=_) (noDefer_of (by kernel_rfl)) rfl (by kernel_rfl) (by kernel_rfl) (by kernel_rfl) (fun _ _ _ h=>h) (by kernel_rfl) ⟨Or.inl ⟨by rfl,?hy3k61⟩,fun _=>rfl⟩ hS ?rest3k61
              case hy3k61 =>
               intro w' hSw
               go_simp
               rfl
              simp only [Act.put,getElem_toArray,getElem_cons_succ,getElem_cons_zero,setIfInBounds_toArray,set_cons_zero,set_cons_succ]
              refine' takeH (i:=4) (v:=_) (noDefer_of (by kernel_rfl)) rfl (by kernel_rfl) (by kernel_rfl) (by kernel_rfl) (fun _ _ _ h=>h) (by kernel_rfl) ⟨Or.inl ⟨by rfl,?hy4k62⟩,fun _=>rfl⟩ hS ?rest4k62
              case hy4k62 =>
               intro w' hSw
               go_simp
               rfl
              simp only [Act.put,getElem_toArray,getElem_cons_succ,getElem_cons_zero,setIfInBounds_toArray,set_cons_zero,set_cons_succ]
              refine' takeH (i:=5) (v:=_) (noDefer_of (by kernel_rfl)) rfl (by kernel_rfl) (by kernel_rfl) (by kernel_rfl) (fun _ _ _ h=>h) (by kernel_rfl) ⟨Or.inl ⟨by rfl,?hy5k63⟩,fun _=>rfl⟩ hS ?rest5k63
              case hy5k63 =>
               intro w' hSw
               obtain ⟨s0,s1,s2⟩:=hSw
               have s3:=s2.cell (i:=0) rfl
               go_simp
               rfl
              simp only [Act.put,getElem_toArray,getElem_cons_succ,getElem_cons_zero,setIfInBounds_toArray,set_cons_zero,set_cons_succ]
              refine' takeH (i:=6) (v:=_) (noDefer_of (by kernel_rfl)) rfl (by kernel_rfl) (by kernel_rfl) (by kernel_rfl) (fun _ _ _ h=>h) (by kernel_rfl) ⟨Or.inl ⟨by rfl,?hy6k64⟩,fun _=>rfl⟩ hS ?rest6k64
              case hy6k64 =>
               intro w' hSw
               obtain ⟨s0,s1,s2⟩:=hSw
               have s3:=s2.cell (i:=0) rfl
               go_simp
               rfl
              simp only [Act.put,getElem_toArray,getElem_cons_succ,getElem_cons_zero,setIfInBounds_toArray,set_cons_zero,set_cons_succ]
              refine' takeH (i:=7) (v:=_) (noDefer_of (by kernel_rfl)) rfl (by kernel_rfl) (by kernel_rfl) (by kernel_rfl) (fun _ _ _ h=>h) (by kernel_rfl) ⟨Or.inl ⟨by rfl,?hy7k65⟩,fun _=>rfl⟩ hS ?rest7k65
              case hy7k65 =>
               intro w' hSw
               go_simp
               rfl
              simp only [Act.put,getElem_toArray,getElem_cons_succ,getElem_cons_zero,setIfInBounds_toArray,set_cons_zero,set_cons_succ]
              refine' takeH (i:=8) (v:=_) (noDefer_of (by kernel_rfl)) rfl (by kernel_rfl) (by kernel_rfl) (by kernel_rfl) (fun _ _ _ h=>h) (by kernel_rfl) ⟨Or.inl ⟨by rfl,?hy8k66⟩,fun _=>rfl⟩ hS ?rest8k66
              case hy8k66 =>
               intro w' hSw
               go_simp
               rfl
              simp only [Act.put,getElem_toArray,getElem_cons_succ,getElem_cons_zero,setIfInBounds_toArray,set_cons_zero,set_cons_succ]
              refine' takeH (i:=9) (v:=_) (noDefer_of (by kernel_rfl)) rfl (by kernel_rfl) (by kernel_rfl) (by kernel_rfl) (fun _ _ _ h=>h) (by kernel_rfl) ⟨Or.inl ⟨by rfl,?hy9k67⟩,fun _=>rfl⟩ hS ?rest9k67
              case hy9k67 =>
               intro w' hSw
               go_simp
               rfl
              simp only [Act.put,getElem_toArray,getElem_cons_succ,getElem_cons_zero,setIfInBounds_toArray,set_cons_zero,set_cons_succ]
              refine' takeH (i:=10) (v:=_) (noDefer_of (by kernel_rfl)) rfl (by kernel_rfl) (by kernel_rfl) (by kernel_rfl) (fun _ _ _ h=>h) (by kernel_rfl) ⟨Or.inl ⟨by rfl,?hy10k68⟩,fun _=>rfl⟩ hS ?rest10k68
              case hy10k68 =>
               intro w' hSw
               go_simp
               rfl
              simp only [Act.put,getElem_toArray,getElem_cons_succ,getElem_cons_zero,setIfInBounds_toArray,set_cons_zero,set_cons_succ]
              refine' takeH (i:=11) (v:=_) (noDefer_of (by kernel_rfl)) rfl (by kernel_rfl) (by kernel_rfl) (by kernel_rfl) (fun _ _ _ h=>h) (by kernel_rfl) ⟨Or.inl ⟨by rfl,?hy11k69⟩,fun _=>rfl⟩ hS ?rest11k69
              case hy11k69 =>
               intro w' hSw
               obtain ⟨s0,s1,s2⟩:=hSw
               have s3:=s2.cell (i:=0) rfl
               go_simp
               rfl
              simp only [Act.put,getElem_toArray,getElem_cons_succ,getElem_cons_zero,setIfInBounds_toArray,set_cons_zero,set_cons_succ]
              refine' takeH (i:=12) (v:=_) (noDefer_of (by kernel_rfl)) rfl (by kernel_rfl) (by kernel_rfl) (by kernel_rfl) (fun _ _ _ h=>h) (by kernel_rfl) ⟨Or.inl ⟨by rfl,?hy12k70⟩,fun _=>rfl⟩ hS ?rest12k70
              case hy12k70 =>
               intro w' hSw
               obtain ⟨s0,s1,s2⟩:=hSw
               have s3:=s2.cell (i:=0) rfl
               go_simp
               rfl
              simp only [Act.put,getElem_toArray,getElem_cons_succ,getElem_cons_zero,setIfInBounds_toArray,set_cons_zero,set_cons_succ]
              refine' takeH (i:=13) (v:=_) (noDefer_of (by kernel_rfl)) rfl (by kernel_rfl) (by kernel_rfl) (by kernel_rfl) (fun _ _ _ h=>h) (by kernel_rfl) ⟨Or.inl ⟨by rfl,?hy13k71⟩,fun _=>rfl⟩ hS ?rest13k71
              case hy13k71 =>
               intro w' hSw
               go_simp
               rfl
              simp only [Act.put,getElem_toArray,getElem_cons_succ,getElem_cons_zero,setIfInBounds_toArray,set_cons_zero,set_cons_succ]
              refine' takeH (i:=14) (v:=_) (noDefer_of (by kernel_rfl)) rfl (by kernel_rfl) (by kernel_rfl) (by kernel_rfl) (fun _ _ _ h=>h) (by kernel_rfl) ⟨Or.inl ⟨by rfl,?hy14k72⟩,fun _=>rfl⟩ hS ?rest14k72
              case hy14k72 =>
               intro w' hSw
               obtain ⟨s0,s1,s2⟩:=hSw
               have s3:=s2.cell (i:=0) rfl
               go_simp
               rfl
              simp only [Act.put,getElem_toArray,getElem_cons_succ,getElem_cons_zero,setIfInBounds_toArray,set_cons_zero,set_cons_succ]
              refine' takeH (i:=15) (v:=_) (noDefer_of (by kernel_rfl)) rfl (by kernel_rfl) (by kernel_rfl) (by kernel_rfl) (fun _ _ _ h=>h) (by kernel_rfl) ⟨Or.inl ⟨by rfl,?hy15k73⟩,fun _=>rfl⟩ hS ?rest15k73
              case hy15k73 =>
               intro w' hSw
               obtain ⟨s0,s1,s2⟩:=hSw
               have s3:=s2.cell (i:=0) rfl
               go_simp
               rfl
              simp only [Act.put,getElem_toArray,getElem_cons_succ,getElem_cons_zero,setIfInBounds_toArray,set_cons_zero,set_cons_succ]
              refine' takeH (i:=16) (v:=_) (noDefer_of (by kernel_rfl)) rfl (by kernel_rfl) (by kernel_rfl) (by kernel_rfl) (fun _ _ _ h=>h) (by kernel_rfl) ⟨Or.inl ⟨by rfl,?hy16k74⟩,fun _=>rfl⟩ hS ?rest16k74
              case hy16k74 =>
               intro w' hSw
               go_simp
               rfl
              simp only [Act.put,getElem_toArray,getElem_cons_succ,getElem_cons_zero,setIfInBounds_toArray,set_cons_zero,set_cons_succ]
              refine' takeH (i:=17) (v:=_) (noDefer_of (by kernel_rfl)) rfl (by kernel_rfl) (by kernel_rfl) (by kernel_rfl) (fun _ _ _ h=>h) (by kernel_rfl) ⟨Or.inl ⟨by rfl,?hy17k75⟩,fun _=>rfl⟩ hS ?rest17k75
              case hy17k75 =>
               intro w' hSw
               go_simp
               rfl
              simp only [Act.put,getElem_toArray,getElem_cons_succ,getElem_cons_zero,setIfInBounds_toArray,set_cons_zero,set_cons_succ]
              refine' takeH (i:=18) (v:=_) (noDefer_of (by kernel_rfl)) rfl (by kernel_rfl) (by kernel_rfl) (by kernel_rfl) (fun _ _ _ h=>h) (by kernel_rfl) ⟨Or.inl ⟨by rfl,?hy18k76⟩,fun _=>rfl⟩ hS ?rest18k76
              case hy18k76 =>
               intro w' hSw
               go_simp
               rfl
              simp only [Act.put,getElem_toArray,getElem_cons_succ,getElem_cons_zero,setIfInBounds_toArray,set_cons_zero,set_cons_succ]
              refine doneH (by kernel_rfl) ?_ _
              refine OnlyN.intro ?_
              obtain ⟨d0',d1',A11⟩:=hS
              have HB11:=bl_drew HB10
              gi_wp2
              go_roundw
              case rel=>exact ⟨k+1,by omega,by go_num,by rw [hfk];go_num,A11,HB11⟩
              case measure=>simp [intOf];omega
          · obtain rfl:k=qs.length:=by omega
            have hki:¬ (qs.length:Int)<(qs.length:Int):=by omega
            have hfn:((F qs.length:Nat):Int)=(cnt:Int):=by rw [HFN.out]
            rw [hfn]
            clear HME1 HEM1
            gi_wp2_with fail
            refine ⟨trivial,?_⟩
            refine (callsIn_wide.2 (HAL.out wr HBr)).mono ?_
            rintro e w9 ⟨rfl,hb9⟩
            have A9:=Ar.step hb9
            have a1:=A9.cell (i:=1) rfl
            gi_wp2
            go_ret
            exact ⟨rfl,bl_step HBr hb9⟩
     · obtain h0:qs.length=0:=by omega
       have hqi:((qs.length:Nat):Int)=0:=by omega
       clear HBA HME HEM HEB HSV HP
       gi_wp2_with fail
       refine ⟨trivial,?_⟩
       refine (callsIn_wide.2 (HAL.out _ HB1)).mono ?_
       rintro e w2 ⟨rfl,hb2⟩
       gi_wp2
       go_ret
       exact ⟨rfl,bl_step HB1 hb2⟩
   · obtain ⟨fc,hfc⟩:∃ fc,fc=fcheck (gs.map (·.1)):=⟨_,rfl⟩
     rw [← hfc] at hf ⊢
     have hne:(fc != 0)=true:=by simpa using hf
     clear HBA HME HEM HEB HSV HP hfc
     gi_wp2_with fail
     refine ⟨trivial,?_⟩
     refine (callsIn_wide.2 (HAL.out _ HB1)).mono ?_
     rintro e w2 ⟨rfl,hb2⟩
     gi_wp2
     go_ret
     exact ⟨rfl,bl_step HB1 hb2⟩
 · clear HBA HME HEM HEB HSV HP HF
   gi_wp2_with fail
   refine ⟨trivial,?_⟩
   rename_i hK
   first | refine hK.out _ _ ?_ | refine hK _ _ ?_
   gi_wp2_with fail
   refine ⟨trivial,?_⟩
   refine (callsIn_wide.2 (HAL.out w1 HB1)).mono ?_
   rintro e w2 ⟨rfl,hb2⟩
   gi_wp2
   go_ret
   exact ⟨rfl,bl_step HB1 hb2⟩
end
end
end Go.Proofs.YtpnoofphfomjoaaGreatDoor
