/- LawSingles LawDenies -/
import Derived.Laws.StructEq
import Derived.Test.YtpnoofphfomjoaaGreatDoorPkM07
import Derived.Test.YtpnoofphfomjoaaGreatDoorPkM13
import Derived.Test.YtpnoofphfomjoaaGreatDoorPkM40
import Derived.Test.YtpnoofphfomjoaaGreatDoorPkD07
import Derived.Test.YtpnoofphfomjoaaGreatDoorPkD08
import Derived.Test.YtpnoofphfomjoaaGreatDoorPkD12
set_option maxRecDepth 1000000
set_option maxHeartbeats 8000000
namespace Go.Proofs.YtpnoofphfomjoaaGreatDoor
open List (getElem_toArray getElem_cons_succ getElem_cons_zero setIfInBounds_toArray set_cons_zero set_cons_succ)
section
open Go.RowKit Go.Shelf
section
variable {F:Fence} {n:Nat} {P:Program} {ops:Array Oper} {Q:Exit→Act→World→Prop} {S:World→Prop}
theorem cutR (sk:Nat) (R:Act→Act→World→Prop) {id:Nat} {a:Act} {w:World} (hm:P.follows .mixedOrders=true)
 (h:wpAnyHIn F n P .any ops (OnlyN (R a)) S sk ops.size (Array.replicate ops.size false) a w.drew) (hR:∀ a' w',R a a' w'→Q .normal a' w'):(Code.region id ops true).wpIn F n P Q a w:=by
 refine wpIn_mono (startH sk (Q:=OnlyN (R a)) hm h) ?_
 intro e a' w' he
 cases e with
 | normal=>exact hR a' w' he
 | _=>exact he.elim
end
section
variable (gs:List Gr) (GA:Option Addr) (gc:Nat) (qs:List ((Int × Int) × Int)) (QA:Option Addr) (qc:Nat) (w:World)
variable (h:BatW w gs GA qs QA) (hgn:gs.length≤maxLen) (hfix:Fixed w) (hg:0<w.heap.size) (hw:MW w)
include h hgn hfix hg hw
end
end
section
open Go.RowKit Go.Shelf
structure BatQ (G:List Gr) (n:Nat) (A:Option Addr) (gc:Nat) (qs:List ((Int × Int) × Int)) (QA:Option Addr) (qc:Nat) (E X:List Int) (val:Int) (cnt:Nat) (recs:List (Int × Int)):Prop where
 pub:∀ w':World,BatW w' G A qs QA→Calls Tryz.prog 44 #[.slice A n gc] w' fun e w2=>∃ PA pc,e=.returned (.slice PA n pc)∧Sl w2 w2.heap.size PA (rgCells (G.map pubR))∧Below w'.heap.size w' w2
 bat:∀ w':World,BatW w' G A qs QA→Calls Tryz.prog 45 #[.slice A n gc,.slice QA qs.length qc] w' (Enc E w')
 hE:hserve E=X
 eb:By E
 el:E.length≤300000
 rd:∀ (w':World) (PA:Option Addr) (pc:Nat),Sl w' w'.heap.size PA (rgCells (G.map pubR))→∀ (SA:Option Addr) (sc:Nat),Sl w' w'.heap.size SA (byCells X)→X.length≤sc→Calls Tryz.prog 30 #[.agg #[.int .i64 5,.int .i64 0,.slice PA n pc,.int .i64 qs.length],.slice SA X.length sc] w' (ReadOutC (⟨val,(cnt:Int),recs⟩,0) w')
theorem batQ_of (G:List Gr) (n:Nat) (A:Option Addr) (gc:Nat) (qs:List ((Int × Int) × Int)) (QA:Option Addr) (qc:Nat) (hl:∀ g∈G,g.1.n=g.2.length) (hj:∀ g∈G,PsJ g.2) (hqj:∀ q∈qs,PJ q.1) (hqu:∀ q∈qs,U64 q.2) (hn:G.length=n) (hf:fcheck (G.map (·.1))=0) (h1:1≤qs.length) (h4:qs.length≤4096) :
 BatQ G n A gc qs QA qc (hencode 5 0 (G.map pubR) qs.length G [] qs).1 (hserve (hencode 5 0 (G.map pubR) qs.length G [] qs).1) (batA G qs).val (cntL (hrecs G qs)) (batA G qs).recs:=by
 subst hn
 obtain ⟨l1,l64,-⟩:=pub_ok hl hf
 obtain ⟨he0,hrd,hbyX,hlX⟩:=enc_batch G qs hl hj hf h1 h4 hqj hqu
 have hbd:=(hencode_bd (Prod.ext rfl he0:hencode 5 0 (G.map pubR) qs.length G [] qs=((hencode 5 0 (G.map pubR) qs.length G [] qs).1,0)) hl).2 rfl
 refine ⟨fun w' h=>?_,fun w' h=>batch_any G A gc qs QA qc w' h (by omega),rfl,hbd.2,by omega,fun w' PA pc hp SA sc hs hc=>?_⟩
 · have:=public_any (G.map (·.1)) A gc w' h.hg (by rw [List.length_map];omega)
   rw [List.length_map,← pubR_map] at this
   exact this
 · have:=read_cap 5 0 qs.length (G.map pubR) PA pc _ SA sc w' hp (by rw [List.length_map];unfold maxLen;omega) hs hc (by omega) hbyX
   rw [List.length_map,hrd] at this
   exact this
theorem own_leD {w:World} {base base':Nat} {e:TypeId} {size n:Nat} {v:Value} {xs:List Value} (h:w.ownsRow base e size v n xs) (hb:base'≤base):w.ownsRow base' e size v n xs :=
 ⟨h.1,h.2.imp id fun ⟨g,cap,cur,a,b,r⟩=>⟨g,cap,cur,a,Nat.le_trans hb b,r⟩⟩
section
variable (gs:List Gr) (GA:Option Addr) (gc:Nat) (qs:List ((Int × Int) × Int)) (QA:Option Addr) (qc:Nat) (x0 y0 x1 y1 x2 y2:Int) (w:World)
variable (h:BatW w gs GA qs QA) (hgn:gs.length≤maxLen) (hv:PsJ [(x0,y0),(x1,y1),(x2,y2)]) (hfix:Fixed w) (hg:0<w.heap.size) (hw:MW w)
include h hgn hv hfix hg hw
theorem lawDenies:Calls Tryz.prog 11 #[.slice GA gs.length gc,.slice QA qs.length qc,.agg #[.int .i64 x0,.int .i64 y0,.int .i64 x1,.int .i64 y1,.int .i64 x2,.int .i64 y2]] w fun e w'=>e=.returned (.bool true)∧Below w.heap.size w w':=by
 have hmix:Tryz.prog.follows .mixedOrders=true:=by kernel_rfl
 obtain ⟨w0,hw0⟩:∃ w0,w0=w.alloc (.cells #[.int .i64 x0,.int .i64 y0,.int .i64 x1,.int .i64 y1,.int .i64 x2,.int .i64 y2] 85):=⟨_,rfl⟩
 have HB0:Below w.heap.size w w0:=by rw [hw0];exact bA
 obtain ⟨vb,hvb⟩:∃ vb,vb=w.heap.size:=⟨_,rfl⟩
 have V0:Blk w0 vb 85 #[.int .i64 x0,.int .i64 y0,.int .i64 x1,.int .i64 y1,.int .i64 x2,.int .i64 y2]:=by rw [hw0,hvb];exact Blk.new _ _ _
 have HSK:=skip20 (gs.map (·.1)) GA gc qs.length QA qc w0 (h.below HB0).hg (by rw [List.length_map];exact hgn)
 rw [List.length_map] at HSK
 have HS:=hide HSK
 have HFC:∀ w':World,Below w.heap.size w w'→Calls Tryz.prog 43 #[.slice GA gs.length gc] w' fun e w2=>e=.returned (.int .i64 (fcheck (gs.map (·.1))))∧w2=w':=fun w' hb=>by
  have:=rfcheck_any (gs.map (·.1)) GA gc w' (h.below hb).hg
  rwa [List.length_map] at this
 have HF:=hide HFC
 have HAL:=hide (fun (w':World) (hb:Below w.heap.size w w')=>serves_any w' (hfix.below hb hg) (Nat.lt_of_lt_of_le hg hb.size) (hw.step hb))
 have HSV:=hide (fun (w':World) (hb:Below w.heap.size w w') (bs:List Int) (A:Option Addr) (c:Nat) (hs:Sl w' w'.heap.size A (byCells bs)) (hcap:bs.length≤c) (hby:By bs) (hmax:bs.length≤300000)=>serve_any bs A c w' hs hcap hby hmax (hfix.below hb hg) (Nat.lt_of_lt_of_le hg hb.size) (hw.step hb))
 have HBW:=hide (fun (w':World) (hb:Below w.heap.size w w')=>h.below hb)
 have HLEN:=hide h.len
 have HGJ:=hide h.gj;have HQJ:=hide h.qj;have HQU:=hide h.qu
 have HVJ:=hide hv
 clear HSK HFC h hgn hfix hg hw hv
 refine (callsIn_wide (n:=6)).1 ?_
 refine callsIn_of_wp Tryz.func11 rfl trivial ?_ rfl
 simp only [Tryz.ntmps11,List.size_toArray,List.length_cons,List.length_nil,Nat.reduceAdd,Nat.reduceSub,Array.replicate_succ,Array.replicate_zero,List.push_toArray,List.append_toArray,List.nil_append,List.cons_append]
 gi_wp2_with fail
 rw [← hw0,← hvb]
 have HVB:=hide hvb
 clear hw0 hvb
 refine ⟨trivial,?_⟩
 refine (callsIn_wide.2 HS.out).mono ?_
 rintro e w1 ⟨z,rfl,hz,hT,hb1⟩
 have HB1:=bl_step HB0 hb1
 have V1:=V0.step hb1
 clear HS V0 hb1
 rcases hz with rfl | rfl
 · obtain ⟨-,-,hq100,-⟩:=hT rfl
   clear hT
   gi_wp2_with fail
   refine ⟨trivial,?_⟩
   refine (callsIn_wide.2 (HF.out w1 HB1)).mono ?_
   rintro e wz ⟨rfl,hwz⟩
   have hwz2:=hwz.symm
   clear hwz HF
   subst hwz2
   by_cases hf:fcheck (gs.map (·.1))=0
   · rw [hf]
     by_cases hq1:1≤qs.length
     · have hqi:¬ ((qs.length:Nat):Int)=0:=by omega
       have hqb:(((qs.length:Nat):Int) == 0)=false:=by simpa using hqi
       by_cases h60:60≤gs.length
       · have h60i:(60:Int)≤((gs.length:Nat):Int):=by omega
         clear HSV HBW HLEN HGJ HQJ HQU HVJ
         gi_wp2_with fail
         refine ⟨trivial,?_⟩
         refine (callsIn_wide.2 (HAL.out w1 HB1)).mono ?_
         rintro e w2 ⟨rfl,hb2⟩
         gi_wp2
         go_ret
         exact ⟨rfl,bl_step HB1 hb2⟩
       · have h60i:¬ (60:Int)≤((gs.length:Nat):Int):=by omega
         obtain ⟨l1,l64,-⟩:=pub_ok HLEN.out hf
         have HSUB:=den_sub gs (denG vb [(x0,y0),(x1,y1),(x2,y2)]) qs rfl hf HQU.out
         have QL:=hide (batQ_of gs gs.length GA gc qs QA qc HLEN.out HGJ.out HQJ.out HQU.out rfl hf hq1 (by omega))
         have QM:=hide (fun (MA:Option Addr) (mc:Nat)=>batQ_of (gs++[denG vb [(x0,y0),(x1,y1),(x2,y2)]]) (gs.length+1) MA mc qs QA qc (fun g hg=>by rcases List.mem_append.1 hg with h | h;exact HLEN.out g h;rw [List.mem_singleton.1 h];rfl) (fun g hg=>by rcases List.mem_append.1 hg with h | h;exact HGJ.out g h;rw [List.mem_singleton.1 h];exact HVJ.out) HQJ.out HQU.out (by simp) (den_fcheck _ hf (by omega) rfl rfl) hq1 (by omega))
         obtain ⟨dg,hdg⟩:∃ dg,dg=denG vb [(x0,y0),(x1,y1),(x2,y2)]:=⟨_,rfl⟩
         rw [← hdg] at HSUB QM
         have hclA:∀ r∈(batA (gs++[dg]) qs).recs,Cln r:=fun r hr=>hrecs_cln (gs++[dg]) HQU.out r ((isort_perm rkey _).mem_iff.1 hr)
         have hlA:(batA gs qs).recs.length=qs.length∧(batA (gs++[dg]) qs).recs.length=qs.length∧cntL (batA (gs++[dg]) qs).recs=cntL (hrecs (gs++[dg]) qs)∧cntL (hrecs gs qs)≤qs.length:=by
          have h1:=cntL_le _ (hrecs_cln gs HQU.out)
          have h2:(hrecs gs qs).length=qs.length:=by unfold hrecs;rw [List.length_map]
          have h3:(hrecs (gs++[dg]) qs).length=qs.length:=by unfold hrecs;rw [List.length_map]
          refine ⟨?_,?_,cntL_sort _,by omega⟩
          · show (isort rkey (hrecs gs qs)).length=_
            rw [isort_length,h2]
          · show (isort rkey (hrecs (gs++[dg]) qs)).length=_
            rw [isort_length,h3]
         obtain ⟨ra,hra⟩:∃ ra,ra=(batA gs qs).recs:=⟨_,rfl⟩
         obtain ⟨rb,hrb⟩:∃ rb,rb=(batA (gs++[dg]) qs).recs:=⟨_,rfl⟩
         obtain ⟨na,hna⟩:∃ na,na=cntL (hrecs gs qs):=⟨_,rfl⟩
         obtain ⟨nb,hnb⟩:∃ nb,nb=cntL (hrecs (gs++[dg]) qs):=⟨_,rfl⟩
         obtain ⟨va,hva⟩:∃ va,va=(batA gs qs).val:=⟨_,rfl⟩
         obtain ⟨vv,hvv⟩:∃ vv,vv=(batA (gs++[dg]) qs).val:=⟨_,rfl⟩
         rw [← hra,← hna,← hva] at QL
         rw [← hrb,← hnb,← hvv] at QM
         rw [← hra,← hrb,← hna,← hnb] at HSUB
         rw [← hra,← hrb,← hna,← hnb] at hlA
         rw [← hrb] at hclA
         obtain ⟨EA,hEA⟩:∃ E,E=(hencode 5 0 (gs.map pubR) qs.length gs [] qs).1:=⟨_,rfl⟩
         obtain ⟨EB,hEB⟩:∃ E,E=(hencode 5 0 ((gs++[dg]).map pubR) qs.length (gs++[dg]) [] qs).1:=⟨_,rfl⟩
         rw [← hEA] at QL
         rw [← hEB] at QM
         obtain ⟨XA,hXA⟩:∃ X,X=hserve EA:=⟨_,rfl⟩
         obtain ⟨XB,hXB⟩:∃ X,X=hserve EB:=⟨_,rfl⟩
         rw [← hXA] at QL
         rw [← hXB] at QM
         obtain ⟨hsb,hle⟩:=HSUB
         obtain ⟨hra1,hrb1,hnb1,hna1⟩:=hlA
         have HSB:=hide hsb;have HCL:=hide hclA;have HNB:=hide hnb1;have HDG:=hide hdg
         have HRA:=hide hra1;have HRBL:=hide hrb1
         have hnab:nb≤na:=hle
         clear hra1 hrb1 hsb hclA hnb1 hdg hra hrb hna hnb hva hvv hEA hEB hXA hXB hle
         have HCN:=hide (fun (w':World) (hb:Below w.heap.size w w')=>cloneR (gs.map (·.1)) GA gc w' (HBW.out w' hb).hg (by rw [List.length_map];omega) (by rw [List.length_map];omega))
         rw [List.length_map] at HCN
         obtain ⟨n,hn⟩:∃ n,n=gs.length:=⟨_,rfl⟩
         have HN:=hide hn
         rw [← hn] at QL QM HCN h60 h60i l1 l64 ⊢
         clear hn
         gi_wp2_with fail
         refine cutR 1000 (S:=fun _=>True) (fun a a' w'=>∃ (v35 v36 v37 v38 v39:Value) (MA:Option Addr) (mc:Nat),a'=((((((a.put (some 35) v35).put (some 36) v36).put (some 37) v37).put (some 38) v38).put (some 39) v39).put (some 40) (.slice MA (n+1) mc)).put (some 7) (.slice MA (n+1) mc)∧Sl w' w'.heap.size MA (rgCells ((gs++[dg]).map (·.1)))∧Below w1.heap.size w1 w') hmix ?_ ?_
         · have HD0:=bl_drew (Below.refl w1.heap.size w1)
           have hRG:rgCells ((gs++[dg]).map (·.1))=rgCells (gs.map (·.1))++[.bool true,.int .i64 0,.slice (some ⟨vb,0,none⟩) 3 3]:=by rw [List.map_append,rgCells_app,HDG.out];rfl
           have HRG:=hide hRG
           have hrl:(rgCells (gs.map (·.1))).length=n*3:=by rw [rgCells_length,List.length_map,HN.out];omega
           have HRL:=hide hrl
           clear hRG hrl
           refine' takeH (i:=0) (v:=_) (noDefer_of (by kernel_rfl)) rfl (by kernel_rfl) (by kernel_rfl) (by kernel_rfl) (fun _ _ _ h=>h) (by kernel_rfl) ⟨Or.inl ⟨by rfl,?hy0k1⟩,fun _=>rfl⟩ trivial ?rest0k1
           case hy0k1 =>
            intro w' hSw
            go_simp
            rfl
           simp only [Act.put,getElem_toArray,getElem_cons_zero,setIfInBounds_toArray,set_cons_zero,set_cons_succ]
           refine' takeH (i:=2) (v:=_) (noDefer_of (by kernel_rfl)) rfl (by kernel_rfl) (by kernel_rfl) (by kernel_rfl) (fun _ _ _ h=>h) (by kernel_rfl) ⟨Or.inl ⟨by rfl,?hy2k2⟩,fun _=>rfl⟩ trivial ?rest2k2
           case hy2k2 =>
            intro w' hSw
            go_simp
            rfl
           simp only [Act.put,getElem_toArray,getElem_cons_succ,getElem_cons_zero,setIfInBounds_toArray,set_cons_zero,set_cons_succ]
           refine' takeH (i:=3) (v:=_) (noDefer_of (by kernel_rfl)) rfl (by kernel_rfl) (by kernel_rfl) (by kernel_rfl) (fun _ _ _ h=>h) (by kernel_rfl) ⟨Or.inl ⟨by rfl,?hy3k3⟩,fun _=>rfl⟩ trivial ?rest3k3
           case hy3k3 =>
            intro w' hSw
            go_simp
            rfl
           simp only [Act.put,getElem_toArray,getElem_cons_succ,getElem_cons_zero,setIfInBounds_toArray,set_cons_zero,set_cons_succ]
           refine twoH (i:=1) (j:=4) (by kernel_rfl) rfl rfl ?first ?second
           case first =>
            intro K hK
            rw [if_pos (by rfl)]
            go_simp
            refine ⟨trivial,?_⟩
            refine (callsIn_wide.2 (HCN.out w1.drew (bl_drew HB1))).mono ?_
            rintro e u1 ⟨v,rfl,hown1,hb1⟩
            have hb2:=bl_alloc (Below.refl u1.heap.size u1) (.cells #[.bool true,.int .i64 0,.slice (some ⟨vb,0,none⟩) 3 3] 87)
            have HO1:=own_step hown1 hb2
            have HD2:=bl_step (bl_step HD0 hb1) hb2
            refine hK.out _ _ (fun _=>trivial) ?_
            clear hK K
            (try simp only [Act.put,getElem_toArray,getElem_cons_succ,getElem_cons_zero,setIfInBounds_toArray,set_cons_zero,set_cons_succ])
            refine oneH (i:=4) (by kernel_rfl) rfl ?_
            intro K hK
            rw [if_pos (by rfl)]
            go_simp
            refine hK.out _ _ (fun _=>trivial) ?_
            clear hK K
            (try simp only [Act.put,getElem_toArray,getElem_cons_succ,getElem_cons_zero,setIfInBounds_toArray,set_cons_zero,set_cons_succ])
            have src:=slb (Blk.new u1 87 #[.bool true,.int .i64 0,.slice (some ⟨vb,0,none⟩) 3 3])
            obtain ⟨sA,hsA⟩:∃ sA:Option Addr,sA=some ⟨u1.heap.size,0,none⟩:=⟨_,rfl⟩
            obtain ⟨u2,hu2⟩:∃ u2,u2=u1.alloc (.cells #[.bool true,.int .i64 0,.slice (some ⟨vb,0,none⟩) 3 3] 87):=⟨_,rfl⟩
            rw [← hsA] at src
            rw [← hu2] at src HD2 HO1
            rw [← hsA,← hu2]
            have HO:u2.ownsRow w1.heap.size 87 3 v n (rgCells (gs.map (·.1))):=HO1
            clear hu2 hsA hown1 hb1 hb2
            obtain ⟨v5,w5,hrun,hown5,hbl5⟩:=appSlR v n 1 (rgCells (gs.map (·.1))) [.bool true,.int .i64 0,.slice (some ⟨vb,0,none⟩) 3 3] sA 1 w1.heap.size u2 HO src rfl (by simp [Value.oneCell']) (by omega) HD2.size
            have hd5:=hbl5 w1 HD2 (Nat.le_refl _)
            rw [← HRG.out] at hown5
            obtain ⟨CA,cc,rfl,hcc⟩:=own_slice hown5
            have S5:=Sl.of_own hown5
            clear hown5 hbl5
            refine oneH (i:=5) (by kernel_rfl) rfl ?_
            intro K hK
            rw [if_pos (by rfl)]
            refine wpIn_append_of (.tmp 36) (.tmp 39) 22 rfl _ _ rfl rfl hrun ?_
            refine hK.out _ _ (fun _=>trivial) ?_
            clear hK K hrun
            (try simp only [Act.put,getElem_toArray,getElem_cons_succ,getElem_cons_zero,setIfInBounds_toArray,set_cons_zero,set_cons_succ])
            refine' takeH (i:=6) (v:=_) (noDefer_of (by kernel_rfl)) rfl (by kernel_rfl) (by kernel_rfl) (by kernel_rfl) (fun _ _ _ h=>h) (by kernel_rfl) ⟨Or.inl ⟨by rfl,?hy6k4⟩,fun _=>rfl⟩ trivial ?rest6k4
            case hy6k4 =>
             intro w' hSw
             go_simp
             rfl
            simp only [Act.put,getElem_toArray,getElem_cons_succ,getElem_cons_zero,setIfInBounds_toArray,set_cons_zero,set_cons_succ]
            refine doneH (by kernel_rfl) ?_ _
            refine OnlyN.intro ?_
            exact ⟨_,_,_,_,_,CA,cc,rfl,S5,hd5⟩
           case second =>
            intro K hK
            rw [if_pos (by rfl)]
            go_simp
            have hb1:=bl_alloc (Below.refl w1.drew.heap.size w1.drew) (.cells #[.bool true,.int .i64 0,.slice (some ⟨vb,0,none⟩) 3 3] 87)
            have N1:=Blk.new w1.drew 87 #[.bool true,.int .i64 0,.slice (some ⟨vb,0,none⟩) 3 3]
            refine hK.out _ _ (fun _=>trivial) ?_
            clear hK K
            (try simp only [Act.put,getElem_toArray,getElem_cons_succ,getElem_cons_zero,setIfInBounds_toArray,set_cons_zero,set_cons_succ])
            refine oneH (i:=1) (by kernel_rfl) rfl ?_
            intro K hK
            rw [if_pos (by rfl)]
            go_simp
            refine ⟨trivial,?_⟩
            refine (callsIn_wide.2 (HCN.out _ (bl_step (bl_drew HB1) hb1))).mono ?_
            rintro e u2 ⟨v,rfl,hown2,hb2⟩
            have HD2:=bl_step (bl_step HD0 hb1) hb2
            have HO:u2.ownsRow w1.heap.size 87 3 v n (rgCells (gs.map (·.1))):=own_leD hown2 hb1.size
            refine hK.out _ _ (fun _=>trivial) ?_
            clear hK K hown2
            (try simp only [Act.put,getElem_toArray,getElem_cons_succ,getElem_cons_zero,setIfInBounds_toArray,set_cons_zero,set_cons_succ])
            obtain ⟨sA,hsA⟩:∃ sA:Option Addr,sA=some ⟨w1.heap.size,0,none⟩:=⟨_,rfl⟩
            have src:Sl u2 u2.heap.size sA [.bool true,.int .i64 0,.slice (some ⟨vb,0,none⟩) 3 3]:=by rw [hsA];exact slb (N1.step hb2)
            rw [← hsA]
            obtain ⟨v5,w5,hrun,hown5,hbl5⟩:=appSlR v n 1 (rgCells (gs.map (·.1))) [.bool true,.int .i64 0,.slice (some ⟨vb,0,none⟩) 3 3] sA 1 w1.heap.size u2 HO src rfl (by simp [Value.oneCell']) (by omega) HD2.size
            have hd5:=hbl5 w1 HD2 (Nat.le_refl _)
            rw [← HRG.out] at hown5
            obtain ⟨CA,cc,rfl,hcc⟩:=own_slice hown5
            have S5:=Sl.of_own hown5
            clear hown5 hbl5
            refine oneH (i:=5) (by kernel_rfl) rfl ?_
            intro K hK
            rw [if_pos (by rfl)]
            refine wpIn_append_of (.tmp 36) (.tmp 39) 22 rfl _ _ rfl rfl hrun ?_
            refine hK.out _ _ (fun _=>trivial) ?_
            clear hK K hrun
            (try simp only [Act.put,getElem_toArray,getElem_cons_succ,getElem_cons_zero,setIfInBounds_toArray,set_cons_zero,set_cons_succ])
            refine' takeH (i:=6) (v:=_) (noDefer_of (by kernel_rfl)) rfl (by kernel_rfl) (by kernel_rfl) (by kernel_rfl) (fun _ _ _ h=>h) (by kernel_rfl) ⟨Or.inl ⟨by rfl,?hy6k5⟩,fun _=>rfl⟩ trivial ?rest6k5
            case hy6k5 =>
             intro w' hSw
             go_simp
             rfl
            simp only [Act.put,getElem_toArray,getElem_cons_succ,getElem_cons_zero,setIfInBounds_toArray,set_cons_zero,set_cons_succ]
            refine doneH (by kernel_rfl) ?_ _
            refine OnlyN.intro ?_
            exact ⟨_,_,_,_,_,CA,cc,rfl,S5,hd5⟩
         · rintro a' w2 ⟨v35,v36,v37,v38,v39,MA,mc,rfl,SM,hb2⟩
           simp only [Act.put,setIfInBounds_toArray,set_cons_zero,set_cons_succ]
           have HB2:=bl_step HB1 hb2
           have V2:=V1.step hb2
           have BM:BatW w2 (gs++[dg]) MA qs QA:=by
            have hb:=HBW.out w2 HB2
            refine ⟨SM,fun g hg=>?_,fun g hg=>?_,hb.hq,hb.qj,hb.qu⟩
            · rcases List.mem_append.1 hg with h | h
              · exact hb.gk g h
              · rw [List.mem_singleton.1 h,HDG.out]
                exact ⟨rfl,slb V2⟩
            · rcases List.mem_append.1 hg with h | h
              · exact hb.gj g h
              · rw [List.mem_singleton.1 h,HDG.out]
                exact HVJ.out
           have QMM:=hide (QM.out MA mc)
           have HBM:=hide (fun (w':World) (hb:Below w2.heap.size w2 w')=>BM.below hb)
           clear QM SM V1 V2 BM HCN HDG HVJ HQJ HQU HGJ HLEN hb2
           have HD2:=Below.refl w2.heap.size w2
           have P2:=hide (QL.out.pub w2 (HBW.out w2 HB2))
           gi_wp2_with fail
           refine ⟨trivial,?_⟩
           refine (callsIn_wide.2 P2.out).mono ?_
           rintro e w3 ⟨PA,pc,rfl,hs,hb⟩
           have HB3:=bl_step HB2 hb
           have HD3:=bl_step HD2 hb
           have PS3:=hide hs
           have P3:=hide (QL.out.bat w3 (HBW.out w3 HB3))
           clear hs P2 hb
           gi_wp2_with fail
           refine ⟨trivial,?_⟩
           refine (callsIn_wide.2 P3.out).mono ?_
           rintro e w4 ⟨EAA,ec,rfl,hec,hse,hb⟩
           have HB4:=bl_step HB3 hb
           have HD4:=bl_step HD3 hb
           have PS4:=hide ((PS3.out.below hb).more hb.size)
           have VV:=HSV.out w4 HB4 EA EAA ec hse hec QL.out.eb QL.out.el
           rw [QL.out.hE] at VV
           have P4:=hide VV
           clear hse hec VV P3 PS3 hb
           gi_wp2_with fail
           refine ⟨trivial,?_⟩
           refine (callsIn_wide.2 P4.out).mono ?_
           rintro e w5 ⟨SA,sc,rfl,hsc,hb,hss⟩
           have HB5:=bl_step HB4 hb
           have HD5:=bl_step HD4 hb
           have P5:=hide (QL.out.rd w5 PA pc ((PS4.out.below hb).more hb.size) SA sc hss hsc)
           clear hss hsc P4 PS4 hb
           gi_wp2_with fail
           refine ⟨trivial,?_⟩
           refine (callsIn_wide.2 P5.out).mono ?_
           rintro e w6 ⟨Ra,ca,rfl,hb,hsr,hca⟩
           dsimp only at hsr hca ⊢
           have HB6:=bl_step HB5 hb
           have HD6:=bl_step HD5 hb
           clear hb
           have HCa:=hide hca
           obtain ⟨ba,hza⟩:∃ z,z=w6.heap.size:=⟨_,rfl⟩
           obtain ⟨w7,hw7⟩:∃ z,z=w6.alloc (.cells #[.int .i64 va,.int .i64 (na:Int),.slice Ra ra.length ca] 33):=⟨_,rfl⟩
           have hb:Below w6.heap.size w6 w7:=by rw [hw7];exact bA
           have Ba7:Blk w7 ba 33 #[.int .i64 va,.int .i64 (na:Int),.slice Ra ra.length ca]:=by rw [hw7,hza];exact Blk.new _ _ _
           have Sa7:=hide ((hsr.below hb).more hb.size)
           have HB7:=bl_step HB6 hb
           have HD7:=bl_step HD6 hb
           clear hsr P5 hb hca
           have P7:=hide (QMM.out.pub w7 (HBM.out w7 HD7))
           gi_wp2_with fail
           rw [← hw7,← hza]
           clear hw7 hza
           refine ⟨trivial,?_⟩
           refine (callsIn_wide.2 P7.out).mono ?_
           rintro e w8 ⟨PA,pc,rfl,hs,hb⟩
           have HB8:=bl_step HB7 hb
           have HD8:=bl_step HD7 hb
           have PS8:=hide hs
           have P8:=hide (QMM.out.bat w8 (HBM.out w8 HD8))
           have Ba8:=Ba7.step hb
           have Sa8:=hide ((Sa7.out.below hb).more hb.size)
           clear Ba7 Sa7
           clear hs P7 hb
           gi_wp2_with fail
           refine ⟨trivial,?_⟩
           refine (callsIn_wide.2 P8.out).mono ?_
           rintro e w9 ⟨EAA,ec,rfl,hec,hse,hb⟩
           have HB9:=bl_step HB8 hb
           have HD9:=bl_step HD8 hb
           have PS9:=hide ((PS8.out.below hb).more hb.size)
           have VV:=HSV.out w9 HB9 EB EAA ec hse hec QMM.out.eb QMM.out.el
           rw [QMM.out.hE] at VV
           have P9:=hide VV
           have Ba9:=Ba8.step hb
           have Sa9:=hide ((Sa8.out.below hb).more hb.size)
           clear Ba8 Sa8
           clear hse hec VV P8 PS8 hb
           gi_wp2_with fail
           refine ⟨trivial,?_⟩
           refine (callsIn_wide.2 P9.out).mono ?_
           rintro e w10 ⟨SA,sc,rfl,hsc,hb,hss⟩
           have HB10:=bl_step HB9 hb
           have HD10:=bl_step HD9 hb
           have P10:=hide (QMM.out.rd w10 PA pc ((PS9.out.below hb).more hb.size) SA sc hss hsc)
           have Ba10:=Ba9.step hb
           have Sa10:=hide ((Sa9.out.below hb).more hb.size)
           clear Ba9 Sa9
           clear hss hsc P9 PS9 hb
           gi_wp2_with fail
           refine ⟨trivial,?_⟩
           refine (callsIn_wide.2 P10.out).mono ?_
           rintro e w11 ⟨Rb,cb,rfl,hb,hsr,hcb⟩
           dsimp only at hsr hcb ⊢
           have HB11:=bl_step HB10 hb
           have HD11:=bl_step HD10 hb
           have Ba11:=Ba10.step hb
           have Sa11:=hide ((Sa10.out.below hb).more hb.size)
           clear Ba10 Sa10
           clear hb
           have HCb:=hide hcb
           obtain ⟨bb,hzb⟩:∃ z,z=w11.heap.size:=⟨_,rfl⟩
           obtain ⟨w12,hw12⟩:∃ z,z=w11.alloc (.cells #[.int .i64 vv,.int .i64 (nb:Int),.slice Rb rb.length cb] 33):=⟨_,rfl⟩
           have hb:Below w11.heap.size w11 w12:=by rw [hw12];exact bA
           have Bb12:Blk w12 bb 33 #[.int .i64 vv,.int .i64 (nb:Int),.slice Rb rb.length cb]:=by rw [hw12,hzb];exact Blk.new _ _ _
           have Sb12:=hide ((hsr.below hb).more hb.size)
           have HB12:=bl_step HB11 hb
           have HD12:=bl_step HD11 hb
           have Ba12:=Ba11.step hb
           have Sa12:=hide ((Sa11.out.below hb).more hb.size)
           clear Ba11 Sa11
           clear hsr P10 hb hcb
           clear QL QMM HBM HBW HSV
           have hwn:IntKind.u64.wrap ((nb:Nat):Int)=(nb:Int):=by rw [IntKind.wrap_u64];omega
           have hnlt:decide (((na:Nat):Int)<(nb:Int))=false:=decide_eq_false (by omega)
           gi_wp2_with fail
           rw [← hw12,← hzb]
           clear hw12 hzb
           have hS:(fun w'=>Blk w' ba 33 #[.int .i64 va,.int .i64 (na:Int),.slice Ra ra.length ca]∧Blk w' bb 33 #[.int .i64 vv,.int .i64 (nb:Int),.slice Rb rb.length cb]) w12.drew:=⟨Ba12.drew,Bb12.drew⟩
           have HB12d:=bl_drew HB12
           have Sa12d:=hide ((Sa12.out.below (bl_drew (Below.refl w12.heap.size w12))).more (Nat.le_refl _))
           have Sb12d:=hide ((Sb12.out.below (bl_drew (Below.refl w12.heap.size w12))).more (Nat.le_refl _))
           refine startH 1000 (S:=fun w'=>Blk w' ba 33 #[.int .i64 va,.int .i64 (na:Int),.slice Ra ra.length ca]∧Blk w' bb 33 #[.int .i64 vv,.int .i64 (nb:Int),.slice Rb rb.length cb]) hmix ?_
           refine' takeH (i:=0) (v:=_) (noDefer_of (by kernel_rfl)) rfl (by kernel_rfl) (by kernel_rfl) (by kernel_rfl) (fun _ _ _ h=>h) (by kernel_rfl) ⟨Or.inl ⟨by rfl,?hy0k6⟩,fun _=>rfl⟩ hS ?rest0k6
           case hy0k6 =>
            intro w' hSw
            go_simp
            rfl
           simp only [Act.put,getElem_toArray,getElem_cons_zero,setIfInBounds_toArray,set_cons_zero,set_cons_succ]
           refine' takeH (i:=1) (v:=_) (noDefer_of (by kernel_rfl)) rfl (by kernel_rfl) (by kernel_rfl) (by kernel_rfl) (fun _ _ _ h=>h) (by kernel_rfl) ⟨Or.inl ⟨by rfl,?hy1k7⟩,fun _=>rfl⟩ hS ?rest1k7
           case hy1k7 =>
            intro w' hSw
            go_simp
            rfl
           simp only [Act.put,getElem_toArray,getElem_cons_succ,getElem_cons_zero,setIfInBounds_toArray,set_cons_zero,set_cons_succ]
           refine' takeH (i:=2) (v:=_) (noDefer_of (by kernel_rfl)) rfl (by kernel_rfl) (by kernel_rfl) (by kernel_rfl) (fun _ _ _ h=>h) (by kernel_rfl) ⟨Or.inl ⟨by rfl,?hy2k8⟩,fun _=>rfl⟩ hS ?rest2k8
           case hy2k8 =>
            intro w' hSw
            go_simp
            rfl
           simp only [Act.put,getElem_toArray,getElem_cons_succ,getElem_cons_zero,setIfInBounds_toArray,set_cons_zero,set_cons_succ]
           refine' takeH (i:=3) (v:=_) (noDefer_of (by kernel_rfl)) rfl (by kernel_rfl) (by kernel_rfl) (by kernel_rfl) (fun _ _ _ h=>h) (by kernel_rfl) ⟨Or.inl ⟨by rfl,?hy3k9⟩,fun _=>rfl⟩ hS ?rest3k9
           case hy3k9 =>
            intro w' hSw
            go_simp
            rfl
           simp only [Act.put,getElem_toArray,getElem_cons_succ,getElem_cons_zero,setIfInBounds_toArray,set_cons_zero,set_cons_succ]
           refine' takeH (i:=4) (v:=_) (noDefer_of (by kernel_rfl)) rfl (by kernel_rfl) (by kernel_rfl) (by kernel_rfl) (fun _ _ _ h=>h) (by kernel_rfl) ⟨Or.inl ⟨by rfl,?hy4k10⟩,fun _=>rfl⟩ hS ?rest4k10
           case hy4k10 =>
            intro w' hSw
            go_simp
            rfl
           simp only [Act.put,getElem_toArray,getElem_cons_succ,getElem_cons_zero,setIfInBounds_toArray,set_cons_zero,set_cons_succ]
           refine' takeH (i:=5) (v:=_) (noDefer_of (by kernel_rfl)) rfl (by kernel_rfl) (by kernel_rfl) (by kernel_rfl) (fun _ _ _ h=>h) (by kernel_rfl) ⟨Or.inl ⟨by rfl,?hy5k11⟩,fun _=>rfl⟩ hS ?rest5k11
           case hy5k11 =>
            intro w' hSw
            go_simp
            rfl
           simp only [Act.put,getElem_toArray,getElem_cons_succ,getElem_cons_zero,setIfInBounds_toArray,set_cons_zero,set_cons_succ]
           refine' takeH (i:=6) (v:=_) (noDefer_of (by kernel_rfl)) rfl (by kernel_rfl) (by kernel_rfl) (by kernel_rfl) (fun _ _ _ h=>h) (by kernel_rfl) ⟨Or.inl ⟨by rfl,?hy6k12⟩,fun _=>rfl⟩ hS ?rest6k12
           case hy6k12 =>
            intro w' hSw
            go_simp
            rfl
           simp only [Act.put,getElem_toArray,getElem_cons_succ,getElem_cons_zero,setIfInBounds_toArray,set_cons_zero,set_cons_succ]
           refine' takeH (i:=7) (v:=_) (noDefer_of (by kernel_rfl)) rfl (by kernel_rfl) (by kernel_rfl) (by kernel_rfl) (fun _ _ _ h=>h) (by kernel_rfl) ⟨Or.inl ⟨by rfl,?hy7k13⟩,fun _=>rfl⟩ hS ?rest7k13
           case hy7k13 =>
            intro w' hSw
            go_simp
            rfl
           simp only [Act.put,getElem_toArray,getElem_cons_succ,getElem_cons_zero,setIfInBounds_toArray,set_cons_zero,set_cons_succ]
           refine' takeH (i:=8) (v:=_) (noDefer_of (by kernel_rfl)) rfl (by kernel_rfl) (by kernel_rfl) (by kernel_rfl) (fun _ _ _ h=>h) (by kernel_rfl) ⟨Or.inl ⟨by rfl,?hy8k14⟩,fun _=>rfl⟩ hS ?rest8k14
           case hy8k14 =>
            intro w' hSw
            obtain ⟨s1,s2⟩:=hSw
            have z1:=s1.cell (i:=1) rfl
            have z2:=s2.cell (i:=1) rfl
            have z3:=s2.cell (i:=2) rfl
            go_simp
            rfl
           simp only [Act.put,getElem_toArray,getElem_cons_succ,getElem_cons_zero,setIfInBounds_toArray,set_cons_zero,set_cons_succ]
           refine' takeH (i:=9) (v:=_) (noDefer_of (by kernel_rfl)) rfl (by kernel_rfl) (by kernel_rfl) (by kernel_rfl) (fun _ _ _ h=>h) (by kernel_rfl) ⟨Or.inl ⟨by rfl,?hy9k15⟩,fun _=>rfl⟩ hS ?rest9k15
           case hy9k15 =>
            intro w' hSw
            go_simp
            rfl
           simp only [Act.put,getElem_toArray,getElem_cons_succ,getElem_cons_zero,setIfInBounds_toArray,set_cons_zero,set_cons_succ]
           refine' takeH (i:=10) (v:=_) (noDefer_of (by kernel_rfl)) rfl (by kernel_rfl) (by kernel_rfl) (by kernel_rfl) (fun _ _ _ h=>h) (by kernel_rfl) ⟨Or.inl ⟨by rfl,?hy10k16⟩,fun _=>rfl⟩ hS ?rest10k16
           case hy10k16 =>
            intro w' hSw
            obtain ⟨s1,s2⟩:=hSw
            have z1:=s1.cell (i:=1) rfl
            have z2:=s2.cell (i:=1) rfl
            have z3:=s2.cell (i:=2) rfl
            go_simp
            rfl
           simp only [Act.put,getElem_toArray,getElem_cons_succ,getElem_cons_zero,setIfInBounds_toArray,set_cons_zero,set_cons_succ]
           refine' takeH (i:=11) (v:=.bool false) (noDefer_of (by kernel_rfl)) rfl (by kernel_rfl) (by kernel_rfl) (by kernel_rfl) (fun _ _ _ h=>h) (by kernel_rfl) ⟨Or.inl ⟨by rfl,?hy11k17⟩,fun _=>rfl⟩ hS ?rest11k17
           case hy11k17 =>
            intro w' hSw
            go_simp
            all_goals (first | rfl | rw [hnlt] | simp [hnlt])
           simp only [Act.put,getElem_toArray,getElem_cons_succ,getElem_cons_zero,setIfInBounds_toArray,set_cons_zero,set_cons_succ]
           refine' takeH (i:=12) (v:=_) (noDefer_of (by kernel_rfl)) rfl (by kernel_rfl) (by kernel_rfl) (by kernel_rfl) (fun _ _ _ h=>h) (by kernel_rfl) ⟨Or.inl ⟨by rfl,?hy12k18⟩,fun _=>rfl⟩ hS ?rest12k18
           case hy12k18 =>
            intro w' hSw
            go_simp
            rfl
           simp only [Act.put,getElem_toArray,getElem_cons_succ,getElem_cons_zero,setIfInBounds_toArray,set_cons_zero,set_cons_succ]
           refine' takeH (i:=13) (v:=_) (noDefer_of (by kernel_rfl)) rfl (by kernel_rfl) (by kernel_rfl) (by kernel_rfl) (fun _ _ _ h=>h) (by kernel_rfl) ⟨Or.inl ⟨by rfl,?hy13k19⟩,fun _=>rfl⟩ hS ?rest13k19
           case hy13k19 =>
            intro w' hSw
            go_simp
            rfl
           simp only [Act.put,getElem_toArray,getElem_cons_succ,getElem_cons_zero,setIfInBounds_toArray,set_cons_zero,set_cons_succ]
           refine' takeH (i:=14) (v:=_) (noDefer_of (by kernel_rfl)) rfl (by kernel_rfl) (by kernel_rfl) (by kernel_rfl) (fun _ _ _ h=>h) (by kernel_rfl) ⟨Or.inl ⟨by rfl,?hy14k20⟩,fun _=>rfl⟩ hS ?rest14k20
           case hy14k20 =>
            intro w' hSw
            go_simp
            rfl
           simp only [Act.put,getElem_toArray,getElem_cons_succ,getElem_cons_zero,setIfInBounds_toArray,set_cons_zero,set_cons_succ]
           refine' takeH (i:=15) (v:=_) (noDefer_of (by kernel_rfl)) rfl (by kernel_rfl) (by kernel_rfl) (by kernel_rfl) (fun _ _ _ h=>h) (by kernel_rfl) ⟨Or.inl ⟨by rfl,?hy15k21⟩,fun _=>rfl⟩ hS ?rest15k21
           case hy15k21 =>
            intro w' hSw
            obtain ⟨s1,s2⟩:=hSw
            have z1:=s1.cell (i:=1) rfl
            have z2:=s2.cell (i:=1) rfl
            have z3:=s2.cell (i:=2) rfl
            go_simp
            rfl
           simp only [Act.put,getElem_toArray,getElem_cons_succ,getElem_cons_zero,setIfInBounds_toArray,set_cons_zero,set_cons_succ]
           refine' takeH (i:=17) (v:=_) (noDefer_of (by kernel_rfl)) rfl (by kernel_rfl) (by kernel_rfl) (by kernel_rfl) (fun _ _ _ h=>h) (by kernel_rfl) ⟨Or.inl ⟨by rfl,?hy17k22⟩,fun _=>rfl⟩ hS ?rest17k22
           case hy17k22 =>
            intro w' hSw
            go_simp
            rfl
           simp only [Act.put,getElem_toArray,getElem_cons_succ,getElem_cons_zero,setIfInBounds_toArray,set_cons_zero,set_cons_succ]
           refine' takeH (i:=18) (v:=_) (noDefer_of (by kernel_rfl)) rfl (by kernel_rfl) (by kernel_rfl) (by kernel_rfl) (fun _ _ _ h=>h) (by kernel_rfl) ⟨Or.inl ⟨by rfl,?hy18k23⟩,fun _=>rfl⟩ hS ?rest18k23
           case hy18k23 =>
            intro w' hSw
            obtain ⟨s1,s2⟩:=hSw
            have z1:=s1.cell (i:=1) rfl
            have z2:=s2.cell (i:=1) rfl
            have z3:=s2.cell (i:=2) rfl
            go_simp
            rfl
           simp only [Act.put,getElem_toArray,getElem_cons_succ,getElem_cons_zero,setIfInBounds_toArray,set_cons_zero,set_cons_succ]
           refine' takeH (i:=19) (v:=_) (noDefer_of (by kernel_rfl)) rfl (by kernel_rfl) (by kernel_rfl) (by kernel_rfl) (fun _ _ _ h=>h) (by kernel_rfl) ⟨Or.inl ⟨by rfl,?hy19k24⟩,fun _=>rfl⟩ hS ?rest19k24
           case hy19k24 =>
            intro w' hSw
            go_simp
            rfl
           simp only [Act.put,getElem_toArray,getElem_cons_succ,getElem_cons_zero,setIfInBounds_toArray,set_cons_zero,set_cons_succ]
           refine oneH (i:=16) (by kernel_rfl) rfl ?_
           intro K hK
           rw [if_pos (by rfl)]
           go_simp
           have HCC:=rcount3 rb HCL.out (by rw [HRBL.out];omega) Rb cb w12.drew Sb12d.out
           rw [HNB.out] at HCC
           refine ⟨trivial,?_⟩
           refine (callsIn_wide.2 HCC).mono ?_
           rintro e w13 ⟨rfl,hb⟩
           have hS13:(fun w'=>Blk w' ba 33 #[.int .i64 va,.int .i64 (na:Int),.slice Ra ra.length ca]∧Blk w' bb 33 #[.int .i64 vv,.int .i64 (nb:Int),.slice Rb rb.length cb]) w13:=⟨hS.1.step hb,hS.2.step hb⟩
           have HB13:=bl_step HB12d hb
           have Sa13:=hide ((Sa12d.out.below hb).more hb.size)
           have Sb13:=hide ((Sb12d.out.below hb).more hb.size)
           refine hK.out _ _ (fun _=>hS13) ?_
           clear hK K HCC hb Sa12d Sb12d
           (try simp only [Act.put,getElem_toArray,getElem_cons_succ,getElem_cons_zero,setIfInBounds_toArray,set_cons_zero,set_cons_succ])
           refine' takeH (i:=20) (v:=_) (noDefer_of (by kernel_rfl)) rfl (by kernel_rfl) (by kernel_rfl) (by kernel_rfl) (fun _ _ _ h=>h) (by kernel_rfl) ⟨Or.inl ⟨by rfl,?hy20k25⟩,fun _=>rfl⟩ hS13 ?rest20k25
           case hy20k25 =>
            intro w' hSw
            go_simp
            rfl
           simp only [Act.put,getElem_toArray,getElem_cons_succ,getElem_cons_zero,setIfInBounds_toArray,set_cons_zero,set_cons_succ]
           refine' takeH (i:=21) (v:=_) (noDefer_of (by kernel_rfl)) rfl (by kernel_rfl) (by kernel_rfl) (by kernel_rfl) (fun _ _ _ h=>h) (by kernel_rfl) ⟨Or.inl ⟨by rfl,?hy21k26⟩,fun _=>rfl⟩ hS13 ?rest21k26
           case hy21k26 =>
            intro w' hSw
            go_simp
            rfl
           simp only [Act.put,getElem_toArray,getElem_cons_succ,getElem_cons_zero,setIfInBounds_toArray,set_cons_zero,set_cons_succ]
           refine doneH (by kernel_rfl) ?_ _
           obtain ⟨Ba13,Bb13⟩:=hS13
           have y1:=Bb13.cell (i:=1) rfl
           have y2:=Bb13.cell (i:=2) rfl
           have hmax:max ((nb:Nat):Int) 0=(nb:Int):=by omega
           have hnbc:nb≤cb:=by have h1:=HCb.out;have h2:=HRBL.out;omega
           have hnbi:((nb:Nat):Int)≤(cb:Int):=by omega
           have hnb0:(0:Int)≤(nb:Int):=by omega
           clear hS HB12d Ba12 Bb12 Sa12 Sb12
           gi_wp2_with fail
           have HLA:=hide Ba13.lt;have HLB:=hide Bb13.lt
           clear y1 y2 hmax hnbi
           gi_loopw [12,96] (fun ii kk wr=>∃ k i:Nat,k≤nb∧i≤na∧kk=.int .i64 (k:Int)∧ii=.int .i64 (i:Int)∧Hid (((rb.take nb).drop k).Sublist ((ra.take na).drop i))∧Blk wr ba 33 #[.int .i64 va,.int .i64 (na:Int),.slice Ra ra.length ca]∧Blk wr bb 33 #[.int .i64 vv,.int .i64 (nb:Int),.slice Rb rb.length cb]∧Below w13.heap.size w13 wr)
            (fun _ kk _=>nb - (intOf kk).toNat)
           case atStart=>exact ⟨0,0,Nat.zero_le _,Nat.zero_le _,rfl,rfl,hide HSB.out,Ba13,Bb13,Below.refl _ _⟩
           case round =>
            clear Ba13 Bb13
            obtain ⟨k,i,hk,hi,rfl,rfl,hsub,Bar,Bbr,hbr⟩:=hrel
            by_cases hkn:k<nb
            · have hki:(k:Int)<(nb:Int):=by omega
              have hX:k<(rb.take nb).length:=by rw [List.length_take];have:=HRBL.out;omega
              obtain ⟨x,hx⟩:∃ x,(rb.take nb)[k]?=some x:=⟨_,List.getElem?_eq_getElem hX⟩
              have hxb:rb[k]?=some x:=by rw [List.getElem?_take,if_pos hkn] at hx;exact hx
              obtain ⟨b,off,hRb,hbl,p0,p1⟩:=(Sb13.out.below hbr).rec_ hxb
              have HDX:Hid ((rb.take nb).drop k=x::(rb.take nb).drop (k+1)):=hide (by rw [List.drop_eq_getElem_cons hX];rw [List.getElem?_eq_getElem hX] at hx;rw [Option.some.inj hx])
              have HSUB:=hide hsub.out
              rw [HDX.out] at HSUB
              obtain ⟨XT,hXT⟩:∃ XT,XT=(rb.take nb).drop (k+1):=⟨_,rfl⟩
              rw [← hXT] at HSUB
              have HXT:=hide hXT
              obtain ⟨x1,x2⟩:=x
              dsimp only at p0 p1
              subst hRb
              have hkb:k<rb.length:=by have:=HRBL.out;omega
              have hkbi:(k:Int)<(rb.length:Int):=by omega
              obtain ⟨xb,hxbk⟩:∃ z,z=wr.heap.size:=⟨_,rfl⟩
              obtain ⟨wq,hwq⟩:∃ z,z=wr.alloc (.cells #[.int .u64 x1,.int .u64 x2] 90):=⟨_,rfl⟩
              have hbq:Below wr.heap.size wr wq:=by rw [hwq];exact bA
              have Xq:Blk wq xb 90 #[.int .u64 x1,.int .u64 x2]:=by rw [hwq,hxbk];exact Blk.new _ _ _
              have Baq:=Bar.step hbq
              have Bbq:=Bbr.step hbq
              have HBq:=bl_step hbr hbq
              clear hX hx hxb hXT hsub HDX Bar Bbr hbr hbq
              gi_wp2_with fail
              rw [← hwq,← hxbk]
              clear hwq hxbk p0 p1
              gi_loopw [12] (fun ii wr=>∃ i:Nat,i≤na∧ii=.int .i64 (i:Int)∧Hid (((x1,x2)::XT).Sublist ((ra.take na).drop i))∧Blk wr xb 90 #[.int .u64 x1,.int .u64 x2]∧Blk wr ba 33 #[.int .i64 va,.int .i64 (na:Int),.slice Ra ra.length ca]∧Blk wr bb 33 #[.int .i64 vv,.int .i64 (nb:Int),.slice (some ⟨b,off,none⟩) rb.length cb]∧Below w13.heap.size w13 wr)
               (fun ii _=>na - (intOf ii).toNat)
              case atStart=>exact ⟨i,hi,rfl,HSUB,Xq,Baq,Bbq,HBq⟩
              case round =>
               clear Xq Baq Bbq HBq HSUB
               obtain ⟨i,hi,rfl,hsub,Xi,Bai,Bbi,hbi⟩:=hrel
               have hin:i<na:=by
                rcases Nat.lt_or_ge i na with h | h
                · exact h
                · have h1:=hsub.out.length_le
                  rw [List.length_drop,List.length_take] at h1
                  simp at h1
                  omega
               have hini:(i:Int)<(na:Int):=by omega
               have hY:i<(ra.take na).length:=by rw [List.length_take];have:=HRA.out;omega
               obtain ⟨y,hy⟩:∃ y,(ra.take na)[i]?=some y:=⟨_,List.getElem?_eq_getElem hY⟩
               have hya:ra[i]?=some y:=by rw [List.getElem?_take,if_pos hin] at hy;exact hy
               obtain ⟨b2,off2,hRa,hbl2,p0,p1⟩:=(Sa13.out.below hbi).rec_ hya
               have HDY:Hid ((ra.take na).drop i=y::(ra.take na).drop (i+1)):=hide (by rw [List.drop_eq_getElem_cons hY];rw [List.getElem?_eq_getElem hY] at hy;rw [Option.some.inj hy])
               have HSUB:=hide hsub.out
               rw [HDY.out] at HSUB
               obtain ⟨y1,y2⟩:=y
               dsimp only at p0 p1
               subst hRa
               have hia:i<ra.length:=by have:=HRA.out;omega
               have hiai:(i:Int)<(ra.length:Int):=by omega
               clear hY hy hya hsub
               gi_wp2_with fail
               have hS:Blk wr.drew ba 33 #[.int .i64 va,.int .i64 (na:Int),.slice (some ⟨b2,off2,none⟩) ra.length ca]∧Blk wr.drew xb 90 #[.int .u64 x1,.int .u64 x2]∧wr.drew.cell? ⟨b2,off2+i*2,none⟩=some (.int .u64 y1)∧wr.drew.cell? ⟨b2,off2+i*2+1,none⟩=some (.int .u64 y2):=⟨Bai.drew,Xi.drew,p0,p1⟩
               have Bbd:=Bbi.drew
               have hbd:=bl_drew hbi
               by_cases hyx:(y1,y2)=(x1,x2)
               · have e1:x1=y1:=((Prod.mk.inj hyx).1).symm
                 have e2:x2=y2:=((Prod.mk.inj hyx).2).symm
                 subst e1 e2
                 refine startN 1000 (S:=fun w'=>Blk w' ba 33 #[.int .i64 va,.int .i64 (na:Int),.slice (some ⟨b2,off2,none⟩) ra.length ca]∧Blk w' xb 90 #[.int .u64 x1,.int .u64 x2]∧w'.cell? ⟨b2,off2+i*2,none⟩=some (.int .u64 x1)∧w'.cell? ⟨b2,off2+i*2+1,none⟩=some (.int .u64 x2)) hmix ?_
                 refine' takeH (i:=0) (v:=_) (noDefer_of (by kernel_rfl)) rfl (by kernel_rfl) (by kernel_rfl) (by kernel_rfl) (fun _ _ _ h=>h) (by kernel_rfl) ⟨Or.inl ⟨by rfl,?hy0k27⟩,fun _=>rfl⟩ hS ?rest0k27
                 case hy0k27 =>
                  intro w' hSw
                  go_simp
                  rfl
                 simp only [Act.put,getElem_toArray,getElem_cons_zero,setIfInBounds_toArray,set_cons_zero,set_cons_succ]
                 refine' takeH (i:=1) (v:=_) (noDefer_of (by kernel_rfl)) rfl (by kernel_rfl) (by kernel_rfl) (by kernel_rfl) (fun _ _ _ h=>h) (by kernel_rfl) ⟨Or.inl ⟨by rfl,?hy1k28⟩,fun _=>rfl⟩ hS ?rest1k28
                 case hy1k28 =>
                  intro w' hSw
                  go_simp
                  rfl
                 simp only [Act.put,getElem_toArray,getElem_cons_succ,getElem_cons_zero,setIfInBounds_toArray,set_cons_zero,set_cons_succ]
                 refine' takeH (i:=2) (v:=_) (noDefer_of (by kernel_rfl)) rfl (by kernel_rfl) (by kernel_rfl) (by kernel_rfl) (fun _ _ _ h=>h) (by kernel_rfl) ⟨Or.inl ⟨by rfl,?hy2k29⟩,fun _=>rfl⟩ hS ?rest2k29
                 case hy2k29 =>
                  intro w' hSw
                  obtain ⟨s1,s2,s3,s4⟩:=hSw
                  have z1:=s1.cell (i:=1) rfl
                  have z2:=s1.cell (i:=2) rfl
                  have z3:=s2.cell (i:=0) rfl
                  have z4:=s2.cell (i:=1) rfl
                  go_simp
                  rfl
                 simp only [Act.put,getElem_toArray,getElem_cons_succ,getElem_cons_zero,setIfInBounds_toArray,set_cons_zero,set_cons_succ]
                 refine' takeH (i:=3) (v:=_) (noDefer_of (by kernel_rfl)) rfl (by kernel_rfl) (by kernel_rfl) (by kernel_rfl) (fun _ _ _ h=>h) (by kernel_rfl) ⟨Or.inl ⟨by rfl,?hy3k30⟩,fun _=>rfl⟩ hS ?rest3k30
                 case hy3k30 =>
                  intro w' hSw
                  go_simp
                  rfl
                 simp only [Act.put,getElem_toArray,getElem_cons_succ,getElem_cons_zero,setIfInBounds_toArray,set_cons_zero,set_cons_succ]
                 refine' takeH (i:=4) (v:=_) (noDefer_of (by kernel_rfl)) rfl (by kernel_rfl) (by kernel_rfl) (by kernel_rfl) (fun _ _ _ h=>h) (by kernel_rfl) ⟨Or.inl ⟨by rfl,?hy4k31⟩,fun _=>rfl⟩ hS ?rest4k31
                 case hy4k31 =>
                  intro w' hSw
                  go_simp
                  rfl
                 simp only [Act.put,getElem_toArray,getElem_cons_succ,getElem_cons_zero,setIfInBounds_toArray,set_cons_zero,set_cons_succ]
                 refine' takeH (i:=5) (v:=_) (noDefer_of (by kernel_rfl)) rfl (by kernel_rfl) (by kernel_rfl) (by kernel_rfl) (fun _ _ _ h=>h) (by kernel_rfl) ⟨Or.inl ⟨by rfl,?hy5k32⟩,fun _=>rfl⟩ hS ?rest5k32
                 case hy5k32 =>
                  intro w' hSw
                  go_simp
                  rfl
                 simp only [Act.put,getElem_toArray,getElem_cons_succ,getElem_cons_zero,setIfInBounds_toArray,set_cons_zero,set_cons_succ]
                 refine' takeH (i:=6) (v:=_) (noDefer_of (by kernel_rfl)) rfl (by kernel_rfl) (by kernel_rfl) (by kernel_rfl) (fun _ _ _ h=>h) (by kernel_rfl) ⟨Or.inl ⟨by rfl,?hy6k33⟩,fun _=>rfl⟩ hS ?rest6k33
                 case hy6k33 =>
                  intro w' hSw
                  obtain ⟨s1,s2,s3,s4⟩:=hSw
                  have z1:=s1.cell (i:=1) rfl
                  have z2:=s1.cell (i:=2) rfl
                  have z3:=s2.cell (i:=0) rfl
                  have z4:=s2.cell (i:=1) rfl
                  go_simp
                  rfl
                 simp only [Act.put,getElem_toArray,getElem_cons_succ,getElem_cons_zero,setIfInBounds_toArray,set_cons_zero,set_cons_succ]
                 refine' takeH (i:=7) (v:=_) (noDefer_of (by kernel_rfl)) rfl (by kernel_rfl) (by kernel_rfl) (by kernel_rfl) (fun _ _ _ h=>h) (by kernel_rfl) ⟨Or.inl ⟨by rfl,?hy7k34⟩,fun _=>rfl⟩ hS ?rest7k34
                 case hy7k34 =>
                  intro w' hSw
                  go_simp
                  rfl
                 simp only [Act.put,getElem_toArray,getElem_cons_succ,getElem_cons_zero,setIfInBounds_toArray,set_cons_zero,set_cons_succ]
                 refine' takeH (i:=8) (v:=_) (noDefer_of (by kernel_rfl)) rfl (by kernel_rfl) (by kernel_rfl) (by kernel_rfl) (fun _ _ _ h=>h) (by kernel_rfl) ⟨Or.inl ⟨by rfl,?hy8k35⟩,fun _=>rfl⟩ hS ?rest8k35
                 case hy8k35 =>
                  intro w' hSw
                  obtain ⟨s1,s2,s3,s4⟩:=hSw
                  have z1:=s1.cell (i:=1) rfl
                  have z2:=s1.cell (i:=2) rfl
                  have z3:=s2.cell (i:=0) rfl
                  have z4:=s2.cell (i:=1) rfl
                  go_simp
                  rfl
                 simp only [Act.put,getElem_toArray,getElem_cons_succ,getElem_cons_zero,setIfInBounds_toArray,set_cons_zero,set_cons_succ]
                 refine' takeH (i:=9) (v:=_) (noDefer_of (by kernel_rfl)) rfl (by kernel_rfl) (by kernel_rfl) (by kernel_rfl) (fun _ _ _ h=>h) (by kernel_rfl) ⟨Or.inl ⟨by rfl,?hy9k36⟩,fun _=>rfl⟩ hS ?rest9k36
                 case hy9k36 =>
                  intro w' hSw
                  obtain ⟨s1,s2,s3,s4⟩:=hSw
                  have z1:=s1.cell (i:=1) rfl
                  have z2:=s1.cell (i:=2) rfl
                  have z3:=s2.cell (i:=0) rfl
                  have z4:=s2.cell (i:=1) rfl
                  go_simp
                  rfl
                 simp only [Act.put,getElem_toArray,getElem_cons_succ,getElem_cons_zero,setIfInBounds_toArray,set_cons_zero,set_cons_succ]
                 refine' takeH (i:=10) (v:=_) (noDefer_of (by kernel_rfl)) rfl (by kernel_rfl) (by kernel_rfl) (by kernel_rfl) (fun _ _ _ h=>h) (by kernel_rfl) ⟨Or.inl ⟨by rfl,?hy10k37⟩,fun _=>rfl⟩ hS ?rest10k37
                 case hy10k37 =>
                  intro w' hSw
                  obtain ⟨s1,s2,s3,s4⟩:=hSw
                  have z1:=s1.cell (i:=1) rfl
                  have z2:=s1.cell (i:=2) rfl
                  have z3:=s2.cell (i:=0) rfl
                  have z4:=s2.cell (i:=1) rfl
                  go_simp
                  rfl
                 simp only [Act.put,getElem_toArray,getElem_cons_succ,getElem_cons_zero,setIfInBounds_toArray,set_cons_zero,set_cons_succ]
                 refine' takeH (i:=11) (v:=.bool false) (noDefer_of (by kernel_rfl)) rfl (by kernel_rfl) (by kernel_rfl) (by kernel_rfl) (fun _ _ _ h=>h) (by kernel_rfl) ⟨Or.inl ⟨by rfl,?hy11k38⟩,fun _=>rfl⟩ hS ?rest11k38
                 case hy11k38 =>
                  intro w' hSw
                  go_simp
                  all_goals (first | rfl | simp)
                 simp only [Act.put,getElem_toArray,getElem_cons_succ,getElem_cons_zero,setIfInBounds_toArray,set_cons_zero,set_cons_succ]
                 refine' takeH (i:=12) (v:=_) (noDefer_of (by kernel_rfl)) rfl (by kernel_rfl) (by kernel_rfl) (by kernel_rfl) (fun _ _ _ h=>h) (by kernel_rfl) ⟨Or.inl ⟨by rfl,?hy12k39⟩,fun _=>rfl⟩ hS ?rest12k39
                 case hy12k39 =>
                  intro w' hSw
                  go_simp
                  rfl
                 simp only [Act.put,getElem_toArray,getElem_cons_succ,getElem_cons_zero,setIfInBounds_toArray,set_cons_zero,set_cons_succ]
                 refine doneH (by kernel_rfl) ?_ _
                 refine OnlyN.intro ?_
                 obtain ⟨Bad,Xd,-,-⟩:=hS
                 have HNEW:Hid (((rb.take nb).drop (k+1)).Sublist ((ra.take na).drop (i+1))):=hide (by rw [← HXT.out];exact List.cons_sublist_cons.1 HSUB.out)
                 have z1:=Bad.cell (i:=1) rfl
                 gi_wp2
                 go_roundw
                 case rel=>exact ⟨k+1,i+1,by omega,by omega,by go_num,by go_num,HNEW,Bad,Bbd,hbd⟩
                 case measure=>simp [intOf];omega
               · have hne:(y1 == x1 && y2 == x2)=false:=by
                  rw [Bool.and_eq_false_iff]
                  by_cases h1:y1=x1
                  · right
                    simpa using fun h2=>hyx (by rw [h1,h2])
                  · left
                    simpa using h1
                 refine startN 1000 (S:=fun w'=>Blk w' ba 33 #[.int .i64 va,.int .i64 (na:Int),.slice (some ⟨b2,off2,none⟩) ra.length ca]∧Blk w' xb 90 #[.int .u64 x1,.int .u64 x2]∧w'.cell? ⟨b2,off2+i*2,none⟩=some (.int .u64 y1)∧w'.cell? ⟨b2,off2+i*2+1,none⟩=some (.int .u64 y2)) hmix ?_
                 refine' takeH (i:=0) (v:=_) (noDefer_of (by kernel_rfl)) rfl (by kernel_rfl) (by kernel_rfl) (by kernel_rfl) (fun _ _ _ h=>h) (by kernel_rfl) ⟨Or.inl ⟨by rfl,?hy0k40⟩,fun _=>rfl⟩ hS ?rest0k40
                 case hy0k40 =>
                  intro w' hSw
                  go_simp
                  rfl
                 simp only [Act.put,getElem_toArray,getElem_cons_zero,setIfInBounds_toArray,set_cons_zero,set_cons_succ]
                 refine' takeH (i:=1) (v:=_) (noDefer_of (by kernel_rfl)) rfl (by kernel_rfl) (by kernel_rfl) (by kernel_rfl) (fun _ _ _ h=>h) (by kernel_rfl) ⟨Or.inl ⟨by rfl,?hy1k41⟩,fun _=>rfl⟩ hS ?rest1k41
                 case hy1k41 =>
                  intro w' hSw
                  go_simp
                  rfl
                 simp only [Act.put,getElem_toArray,getElem_cons_succ,getElem_cons_zero,setIfInBounds_toArray,set_cons_zero,set_cons_succ]
                 refine' takeH (i:=2) (v:=_) (noDefer_of (by kernel_rfl)) rfl (by kernel_rfl) (by kernel_rfl) (by kernel_rfl) (fun _ _ _ h=>h) (by kernel_rfl) ⟨Or.inl ⟨by rfl,?hy2k42⟩,fun _=>rfl⟩ hS ?rest2k42
                 case hy2k42 =>
                  intro w' hSw
                  obtain ⟨s1,s2,s3,s4⟩:=hSw
                  have z1:=s1.cell (i:=1) rfl
                  have z2:=s1.cell (i:=2) rfl
                  have z3:=s2.cell (i:=0) rfl
                  have z4:=s2.cell (i:=1) rfl
                  go_simp
                  rfl
                 simp only [Act.put,getElem_toArray,getElem_cons_succ,getElem_cons_zero,setIfInBounds_toArray,set_cons_zero,set_cons_succ]
                 refine' takeH (i:=3) (v:=_) (noDefer_of (by kernel_rfl)) rfl (by kernel_rfl) (by kernel_rfl) (by kernel_rfl) (fun _ _ _ h=>h) (by kernel_rfl) ⟨Or.inl ⟨by rfl,?hy3k43⟩,fun _=>rfl⟩ hS ?rest3k43
                 case hy3k43 =>
                  intro w' hSw
                  go_simp
                  rfl
                 simp only [Act.put,getElem_toArray,getElem_cons_succ,getElem_cons_zero,setIfInBounds_toArray,set_cons_zero,set_cons_succ]
                 refine' takeH (i:=4) (v:=_) (noDefer_of (by kernel_rfl)) rfl (by kernel_rfl) (by kernel_rfl) (by kernel_rfl) (fun _ _ _ h=>h) (by kernel_rfl) ⟨Or.inl ⟨by rfl,?hy4k44⟩,fun _=>rfl⟩ hS ?rest4k44
                 case hy4k44 =>
                  intro w' hSw
                  go_simp
                  rfl
                 simp only [Act.put,getElem_toArray,getElem_cons_succ,getElem_cons_zero,setIfInBounds_toArray,set_cons_zero,set_cons_succ]
                 refine' takeH (i:=5) (v:=_) (noDefer_of (by kernel_rfl)) rfl (by kernel_rfl) (by kernel_rfl) (by kernel_rfl) (fun _ _ _ h=>h) (by kernel_rfl) ⟨Or.inl ⟨by rfl,?hy5k45⟩,fun _=>rfl⟩ hS ?rest5k45
                 case hy5k45 =>
                  intro w' hSw
                  go_simp
                  rfl
                 simp only [Act.put,getElem_toArray,getElem_cons_succ,getElem_cons_zero,setIfInBounds_toArray,set_cons_zero,set_cons_succ]
                 refine' takeH (i:=6) (v:=_) (noDefer_of (by kernel_rfl)) rfl (by kernel_rfl) (by kernel_rfl) (by kernel_rfl) (fun _ _ _ h=>h) (by kernel_rfl) ⟨Or.inl ⟨by rfl,?hy6k46⟩,fun _=>rfl⟩ hS ?rest6k46
                 case hy6k46 =>
                  intro w' hSw
                  obtain ⟨s1,s2,s3,s4⟩:=hSw
                  have z1:=s1.cell (i:=1) rfl
                  have z2:=s1.cell (i:=2) rfl
                  have z3:=s2.cell (i:=0) rfl
                  have z4:=s2.cell (i:=1) rfl
                  go_simp
                  rfl
                 simp only [Act.put,getElem_toArray,getElem_cons_succ,getElem_cons_zero,setIfInBounds_toArray,set_cons_zero,set_cons_succ]
                 refine' takeH (i:=7) (v:=_) (noDefer_of (by kernel_rfl)) rfl (by kernel_rfl) (by kernel_rfl) (by kernel_rfl) (fun _ _ _ h=>h) (by kernel_rfl) ⟨Or.inl ⟨by rfl,?hy7k47⟩,fun _=>rfl⟩ hS ?rest7k47
                 case hy7k47 =>
                  intro w' hSw
                  go_simp
                  rfl
                 simp only [Act.put,getElem_toArray,getElem_cons_succ,getElem_cons_zero,setIfInBounds_toArray,set_cons_zero,set_cons_succ]
                 refine' takeH (i:=8) (v:=_) (noDefer_of (by kernel_rfl)) rfl (by kernel_rfl) (by kernel_rfl) (by kernel_rfl) (fun _ _ _ h=>h) (by kernel_rfl) ⟨Or.inl ⟨by rfl,?hy8k48⟩,fun _=>rfl⟩ hS ?rest8k48
                 case hy8k48 =>
                  intro w' hSw
                  obtain ⟨s1,s2,s3,s4⟩:=hSw
                  have z1:=s1.cell (i:=1) rfl
                  have z2:=s1.cell (i:=2) rfl
                  have z3:=s2.cell (i:=0) rfl
                  have z4:=s2.cell (i:=1) rfl
                  go_simp
                  rfl
                 simp only [Act.put,getElem_toArray,getElem_cons_succ,getElem_cons_zero,setIfInBounds_toArray,set_cons_zero,set_cons_succ]
                 refine' takeH (i:=9) (v:=_) (noDefer_of (by kernel_rfl)) rfl (by kernel_rfl) (by kernel_rfl) (by kernel_rfl) (fun _ _ _ h=>h) (by kernel_rfl) ⟨Or.inl ⟨by rfl,?hy9k49⟩,fun _=>rfl⟩ hS ?rest9k49
                 case hy9k49 =>
                  intro w' hSw
                  obtain ⟨s1,s2,s3,s4⟩:=hSw
                  have z1:=s1.cell (i:=1) rfl
                  have z2:=s1.cell (i:=2) rfl
                  have z3:=s2.cell (i:=0) rfl
                  have z4:=s2.cell (i:=1) rfl
                  go_simp
                  rfl
                 simp only [Act.put,getElem_toArray,getElem_cons_succ,getElem_cons_zero,setIfInBounds_toArray,set_cons_zero,set_cons_succ]
                 refine' takeH (i:=10) (v:=_) (noDefer_of (by kernel_rfl)) rfl (by kernel_rfl) (by kernel_rfl) (by kernel_rfl) (fun _ _ _ h=>h) (by kernel_rfl) ⟨Or.inl ⟨by rfl,?hy10k50⟩,fun _=>rfl⟩ hS ?rest10k50
                 case hy10k50 =>
                  intro w' hSw
                  obtain ⟨s1,s2,s3,s4⟩:=hSw
                  have z1:=s1.cell (i:=1) rfl
                  have z2:=s1.cell (i:=2) rfl
                  have z3:=s2.cell (i:=0) rfl
                  have z4:=s2.cell (i:=1) rfl
                  go_simp
                  rfl
                 simp only [Act.put,getElem_toArray,getElem_cons_succ,getElem_cons_zero,setIfInBounds_toArray,set_cons_zero,set_cons_succ]
                 refine' takeH (i:=11) (v:=.bool true) (noDefer_of (by kernel_rfl)) rfl (by kernel_rfl) (by kernel_rfl) (by kernel_rfl) (fun _ _ _ h=>h) (by kernel_rfl) ⟨Or.inl ⟨by rfl,?hy11k51⟩,fun _=>rfl⟩ hS ?rest11k51
                 case hy11k51 =>
                  intro w' hSw
                  go_simp
                  all_goals (first | rfl | rw [hne] | simp [hne] | exact fun e1 e2=>hyx (by rw [e1,e2]))
                 simp only [Act.put,getElem_toArray,getElem_cons_succ,getElem_cons_zero,setIfInBounds_toArray,set_cons_zero,set_cons_succ]
                 refine' takeH (i:=12) (v:=_) (noDefer_of (by kernel_rfl)) rfl (by kernel_rfl) (by kernel_rfl) (by kernel_rfl) (fun _ _ _ h=>h) (by kernel_rfl) ⟨Or.inl ⟨by rfl,?hy12k52⟩,fun _=>rfl⟩ hS ?rest12k52
                 case hy12k52 =>
                  intro w' hSw
                  go_simp
                  rfl
                 simp only [Act.put,getElem_toArray,getElem_cons_succ,getElem_cons_zero,setIfInBounds_toArray,set_cons_zero,set_cons_succ]
                 refine doneH (by kernel_rfl) ?_ _
                 refine OnlyN.intro ?_
                 obtain ⟨Bad,Xd,-,-⟩:=hS
                 have HNEW:Hid (((x1,x2)::XT).Sublist ((ra.take na).drop (i+1))):=hide (by have h:=HSUB.out;cases h with | cons _ h=>exact h | cons_cons _ h=>exact absurd rfl hyx)
                 gi_wp2
                 go_roundw
                 case rel=>exact ⟨i+1,by omega,by go_num,HNEW,Xd,Bad,Bbd,hbd⟩
                 case measure=>simp [intOf];omega
            · obtain rfl:k=nb:=by omega
              have hki:¬ (k:Int)<(k:Int):=by omega
              have HBr:=bl_step HB13 hbr
              clear hsub Bar Bbr
              gi_wp2_with fail
              refine ⟨trivial,?_⟩
              refine (callsIn_wide.2 (HAL.out wr HBr)).mono ?_
              rintro e w9 ⟨rfl,hb9⟩
              gi_wp2
              go_ret
              exact ⟨rfl,bl_step HBr hb9⟩
     · obtain h0:qs.length=0:=by omega
       have hqi:((qs.length:Nat):Int)=0:=by omega
       have hqb:(((qs.length:Nat):Int) == 0)=true:=by simpa using hqi
       clear HSV HBW HLEN HGJ HQJ HQU HVJ
       gi_wp2_with fail
       refine ⟨trivial,?_⟩
       refine (callsIn_wide.2 (HAL.out w1 HB1)).mono ?_
       rintro e w2 ⟨rfl,hb2⟩
       gi_wp2
       go_ret
       exact ⟨rfl,bl_step HB1 hb2⟩
   · obtain ⟨fc,hfc⟩:∃ fc,fc=fcheck (gs.map (·.1)):=⟨_,rfl⟩
     rw [← hfc] at hf ⊢
     have hne:(fc != 0)=true:=by simpa using hf
     clear HSV HBW HLEN HGJ HQJ HQU HVJ hfc
     gi_wp2_with fail
     refine ⟨trivial,?_⟩
     refine (callsIn_wide.2 (HAL.out w1 HB1)).mono ?_
     rintro e w2 ⟨rfl,hb2⟩
     gi_wp2
     go_ret
     exact ⟨rfl,bl_step HB1 hb2⟩
 · clear HSV HBW HLEN HGJ HQJ HQU HVJ HF
   gi_wp2_with fail
   refine ⟨trivial,?_⟩
   rename_i hK
   first | refine hK.out _ _ ?_ | refine hK _ _ ?_
   gi_wp2_with fail
   refine ⟨trivial,?_⟩
   refine (callsIn_wide.2 (HAL.out w1 HB1)).mono ?_
   rintro e w2 ⟨rfl,hb2⟩
   gi_wp2
   go_ret
   exact ⟨rfl,bl_step HB1 hb2⟩
end
end
end Go.Proofs.YtpnoofphfomjoaaGreatDoor
