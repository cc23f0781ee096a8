/- ScrRun ScrRunC -/
import Derived.BigQuiet
import Derived.ChangeAlike
import Derived.Deep.AppendLies
import Derived.Deep.QuietTactic
import Derived.Deep.RegionLaw
import Derived.Laws.BytesArg
import Derived.Lib.SliceRun
import Derived.Test.YthnenedoblncjaaGreatDoorPkN41
import Derived.Test.YthnenedoblncjaaGreatDoorPkN42
set_option maxRecDepth 1000000
set_option maxHeartbeats 8000000
namespace Go.Proofs.YthnenedoblncjaaGreatDoor
open Go.Proofs.Tryz
section
open Go.RowKit Go.Shelf
section
variable {σ:St}{sb:Nat}{gs:List Gr}{vR vQ:Value}{Wr Rd:Nat->Prop}{w:World}(h:TY σ sb gs vR vQ Wr Rd w){B:Nat}(he:Env B w)(bx:Nat)(hbx:Z6 w bx 24 #[.pointer (some ⟨sb,0,none⟩)])
include h he hbx
theorem I8:Calls prog 146 #[.pointer (some ⟨bx,0,none⟩)] w fun e w'=>e=.returned (.string (strOf (runT σ)))/\Below w.heap.size w w':=by
 obtain ⟨RA,rc,rfl,_⟩:=ZM h.rows;obtain ⟨QA,qc,rfl,_⟩:=ZM h.VD;have c0:=h.blk.cell (i:=0) (v:=.slice RA gs.length rc) rfl;have c1:=h.blk.cell (i:=1) (v:=.slice QA σ.2.length qc) rfl;have cb:=hbx.cell (i:=0) (v:=.pointer (some ⟨sb,0,none⟩)) rfl;obtain ⟨n,hn⟩:=eE gs.length;obtain ⟨m,hm⟩:=eE σ.2.length
 have HR:Hid (∀ X,Below w.heap.size w X->Calls prog 147 #[.pointer none,.slice RA n rc,.slice QA m qc] X fun e w'=>∃ A c er,(Yb σ).recs.length<=c/\e=.returned (.tuple #[.agg #[.int .i64 (Yb σ).val,.int .i64 (Yb σ).cnt,.slice A (Yb σ).recs.length c],.int .i64 er])/\Below X.heap.size X w'/\Sl w' w'.heap.size A (ZE (Yb σ).recs)):=hide fun X hX=>by
  rw [hn,hm];exact Fx (h.below hX) rfl rfl (he.new hX).tabs.mw
 have FV:=hide he;rw [<- hn] at c0;rw [<- hm] at c1;obtain ⟨a,ha⟩:=eE (Yb σ);have HT:Hid (runT σ=if a.val=0 then [105,110,118,97,108,105,100] else Lib.join (txt a.cnt::(a.recs.take a.cnt.toNat).map fun r=>Un r.2.toNat) [32]):=hide (by rw [ha];rfl);have Oc:=hide (Fw σ fun q hq=>(h.small.2.1 q hq).2);have jR:=hide h.small.2.2.2;rw [<- ha] at HR Oc;have hbl:=hbx.lt;have hsb:=h.blk.lt;clear h he hbx hn hm ha;go_enter func146,ntmps146
 go_upto_region 2 with fail
 go_cut [2] from 3 to 18 (fun p wc=>∃ g A c,p=.pointer (some ⟨g,0,none⟩)/\a.recs.length<=c/\Below w.heap.size w wc/\w.heap.size<=g/\Z6 wc g 175 #[.int .i64 a.val,.int .i64 a.cnt,.slice A a.recs.length c]/\Sl wc wc.heap.size A (ZE a.recs))
 · have FU:=hide hbl;go_wp2
   go_region_law (first|(go_simp;go_at_call 147;refine (HR.out _ (ZV (bA))).mono ?_;rintro e w5 ⟨A,c,er,tQ,rfl,hb5,hs5⟩;have BN:Z6 w5 w.heap.size 175 #[.int .i64 0,.int .i64 0,.slice none 0 0]:=(Z6.new _ _ _).drew.step hb5;have z0:=BN.q0 rfl;have z1:=BN.q1 rfl;have z2:=BN.q2 rfl;have f0:=BN.frozen 0;have f1:=BN.frozen 1;have f2:=BN.frozen 2)|(go_simp;go_at_call 147;refine (HR.out _ (ZV (Below.refl _ _))).mono ?_;rintro e w5 ⟨A,c,er,tQ,rfl,hb5,hs5⟩))
   all_goals
    go_wp2
    go_meet
    first
     | exact ⟨w.heap.size,A,c,rfl,tQ,(((Z8 (ZV (bA)) hb5).setCell (Nat.le_refl _) _).setCell (Nat.le_refl _) _).setCell (Nat.le_refl _) _,Nat.le_refl _,((BN.set 0 _).set 1 _).set 2 _,KS BN hs5 _ _ _⟩
     | exact ⟨w5.heap.size,A,c,rfl,tQ,ZY (Z8 (ZV (Below.refl _ _)) hb5) _,hb5.size,Z6.new _ _ _,(hs5.below (bA)).more (by simp)⟩
 · obtain ⟨g,A,c,rfl,hcc,hb,hg,hB,hs⟩:=hcut;have z0:=hB.cell (i:=0) (v:=.int .i64 a.val) rfl;have z1:=hB.cell (i:=1) (v:=.int .i64 a.cnt) rfl;have z2:=hB.cell (i:=2) (v:=.slice A a.recs.length c) rfl
   by_cases hv:a.val=0
   · have HE:Hid (runT σ=[105,110,118,97,108,105,100]):=hide (by rw [HT.out,if_pos hv]);have HB:=hide hb;rw [hv] at z0;clear hb hs hB HT HR;go_wp2;go_ret;rw [HE.out];exact ⟨rfl,HB.out⟩
   · obtain ⟨⟨m,hm,hml⟩,hu,hrl,hne⟩:=Oc.out;have HE:Hid (runT σ=Lib.join (txt m::(a.recs.take m).map fun r=>Un r.2.toNat) [32]):=hide (by rw [HT.out,if_neg hv,hm,Int.toNat_natCast]);have kY:m<=4096:=by have:=jR.out;omega
     obtain ⟨b,off,rfl,hbs,hcs⟩:=hs.open_ (by
      cases hr:a.recs with
      | nil=>exact absurd hr (hne hv)
      | cons r l=>simp [ZE])
     obtain ⟨i0,hi,hz0,hz1,hz2⟩:=info_parts TA;have HS:Hid (Sl wc wc.heap.size (some ⟨b,off,none⟩) (ZE a.recs)):=hide hs;have HU:=hide hu;have HB:=hide hb;have lY:=hide hB;have HIT:=hide (U9 m (by unfold Zj;omega));have xU:=hide (FV.out.new hb).pt;obtain ⟨N,hN⟩:=eE a.recs.length;rw [hm] at z1;rw [<- hN] at z2 hml hcc;have HN:=hide hN;have HM:=hide hm;have hvb:(a.val == 0)=false:=beq_eq_false_iff_ne.2 hv;have hmc:(m:Int)<=(c:Int):=(by omega);have hm0:(0:Int)<=(m:Int):=(by omega);clear hu hrl hne hs hbs hcs hb hB Oc jR HR HT hN hm;go_wp2_with fail;refine (HIT.out _ xU.out).mono ?_;rintro e w2 ⟨rfl,hb2⟩;obtain ⟨w3,hw3⟩:=eE (w2.alloc (.cells #[.string (strOf (txt m))] 9));obtain ⟨g3,hg3⟩:=eE w2.heap.size;have hb3:=bE hw3;have zQ:=Z8 hb2 hb3;have N3:Z6 w3 g3 9 #[.string (strOf (txt m))]:=(by rw [hw3,hg3];exact Z6.new _ _ _);have A3:=lY.out.step zQ;rw [<- HN.out,HM.out] at A3;have y1:=A3.cell (i:=1) (v:=.int .i64 (m:Int)) rfl;have y2:=A3.cell (i:=2) (v:=.slice (some ⟨b,off,none⟩) N c) rfl;have fC:=hide N3;have HB3:=hide zQ;have mE:Hid (wc.heap.size<=g3):=hide (by rw [hg3];exact hb2.size);clear hb2 hb3 zQ N3 A3 HIT z0 z1 z2;rw [hw3] at y1 y2;go_wp2;rw [<- hw3,<- hg3];clear hw3 hg3 y1 y2
     go_loopw [4,32] (fun v i wr=>∃ k:Nat,k<=m/\i=.int .i64 (k:Int)/\wr.ownsRow wc.heap.size 9 1 v (k+1) (ZN (txt m::(a.recs.take k).map fun r=>Un r.2.toNat))/\Below wc.heap.size wc wr)
      (fun _ i _=>m - (intOf i).toNat)
     case atStart=>exact ⟨0,Nat.zero_le _,rfl,⟨rfl,.inr ⟨g3,1,_,rfl,mE.out,fC.out,by decide,by decide,rfl,rfl⟩⟩,HB3.out⟩
     case round =>
      obtain ⟨k,hk,rfl,ZO,hbr⟩:=hrel
      by_cases hkm:k<m
      · have hki:(k:Int)<(m:Int):=(by omega);obtain ⟨r,hr⟩:∃ r,a.recs[k]?=some r:=⟨_,List.getElem?_eq_getElem (by rw [<- HN.out];omega)⟩;obtain ⟨b',off',hA,hbb,q0,q1⟩:=(HS.out.below hbr).vI hr;cases hA;obtain ⟨u,hu,hu64⟩:∃ u:Nat,r.2=(u:Int)/\u<18446744073709551616:=⟨r.2.toNat,by have:=HU.out r (List.mem_of_getElem? hr);unfold Uk at this;omega,by have:=HU.out r (List.mem_of_getElem? hr);unfold Uk at this;omega⟩
        have jW:Hid (ZN (txt m::(a.recs.take (k+1)).map fun r=>Un r.2.toNat)=ZN (txt m::(a.recs.take k).map fun r=>Un r.2.toNat)++[.string (strOf (Un u))]):=hide (by
         rw [List.take_add_one,hr,List.map_append]
         simp [ZN,hu])
        obtain ⟨l1,hl1⟩:=eE r.1;rw [<- hl1] at q0;rw [hu] at q1;obtain ⟨w4,hw4⟩:=eE (wr.alloc (.cells #[.int .u64 l1,.int .u64 (u:Int)] 148));have hb4:=bE hw4;have N4:Z6 w4 wr.heap.size 148 #[.int .u64 l1,.int .u64 (u:Int)]:=(by rw [hw4];exact Z6.new _ _ _);have n0:=N4.q0 rfl;have n1:=N4.q1 rfl;have Ju:=hide (Z8 hbr hb4);have HOW:=hide (Zn ZO hb4);have jI:=hide (OO u hu64 w4 (xU.out.step Ju.out));clear hr ZO hbr hb4 N4 hu hu64 hl1;rw [hw4] at n0 n1;go_wp2_with fail;rw [<- hw4];refine jI.out.mono ?_;rintro e w5 ⟨rfl,hb5⟩;have N6:=Z6.new w5 9 #[.string (strOf (Un u))];have hb6:=ZY (Below.refl w5.heap.size w5) (.cells #[.string (strOf (Un u))] 9);have WE:=Zn (Zn HOW.out hb5) hb6;have M4:=Z8 (Z8 Ju.out hb5) hb6;obtain ⟨g7,c7,w7,jg,WG,yt,-,-⟩:=run_append_lies (P:=prog) (w5.alloc (.cells #[.string (strOf (Un u))] 9)) 28 28 wc.heap.size 9 i0 (.string ⟨#[]⟩) 1 16 underlying28 hi hz0 hz1 hz2 rfl (by decide) _ (k+1) _ WE ⟨w5.heap.size,0,none⟩ 1 1 [.string (strOf (Un u))] rfl (YW N6) (by simp [Value.oneCell']) (by omega) (by unfold maxLen;omega) (by omega) M4.size _ rfl;rw [<- jW.out] at WG;have fH:=hide WG;have qY:=hide (M4.grown yt M4.size (fun j hj=>ZH WE hj));clear WG yt WE M4 N6 hb6 hb5 jI HOW Ju hw4 n0 n1 q0 q1 jW;go_wp2_with (at_builtin;refine GH (.tmp 36) (.tmp 40) 28 rfl rfl _ _ rfl rfl jg ?_);go_wp2;go_roundw
        case rel=>exact ⟨k+1,by omega,by go_num,fH.out,qY.out⟩
        case measure=>simp [intOf];omega
      · obtain rfl:k=m:=(by omega);have hki:¬ (k:Int)<(k:Int):=(by omega);obtain ⟨PA,pc,rfl,hpc⟩:=ZM ZO;have hsl:=Sl.XO ZO;obtain ⟨xs,hxs⟩:=eE (txt (k:Int)::(a.recs.take k).map fun r=>Un r.2.toNat);have hxl:xs.length=k+1:=(by rw [hxs,List.length_cons,List.length_map,List.length_take,<- HN.out];omega);rw [<- hxs] at hsl HE
        have J:=Kv xs [32] PA pc wr hsl (by rw [hxl];exact hpc) (by rw [hxl];omega) (by
         have:=vD (n:=30) [32] rfl (xs:=xs) (fun x hx=>by
          rw [hxs] at hx;rcases List.mem_cons.1 hx with rfl|hx
          · exact L9 (by unfold Zj;omega)
          · obtain ⟨r,hr,rfl⟩:=List.mem_map.1 hx;have:=HU.out r (List.mem_of_mem_take hr);unfold Uk at this
            exact DZ (by omega))
         rw [hxl] at this
         omega)
        rw [hxl] at J;have HJ:=hide J;have Ju:=hide (Z8 HB.out hbr);clear ZO hsl J hbr hxs hxl;go_wp2_with fail;refine HJ.out.mono ?_;rintro e w' ⟨rfl,hb'⟩;have dO:=hide (Z8 Ju.out hb');clear hb';go_wp2;go_ret;rw [HE.out];exact ⟨rfl,dO.out⟩
end
end
section
open Go.RowKit Go.Shelf
def ND(l:List (List UInt8))(σ:St):List UInt8 × St:=if l≠[] then (Zr 11,σ) else if σ.1=[]\/σ.2=[] then (Zr 6,σ) else (runT σ,σ)
theorem OG:∀ args w,(callFunc 146 args).run prog w=.ok (.enter 146 args) w:=enters_of func146 (by kernel_rfl) rfl
section
variable {σ:St}{sb:Nat}{gs:List Gr}{vR vQ:Value}{Wr Rd:Nat->Prop}{w:World}
theorem KX(l:List (List UInt8))(A:Option Addr)(c:Nat)(h:TY σ sb gs vR vQ Wr Rd w){B:Nat}(he:Env B w)(w1:World)(hw1:w1=w.alloc (.cells #[.pointer (some ⟨sb,0,none⟩)] 24)):
 Calls prog 145 #[.pointer (some ⟨sb,0,none⟩),.slice A l.length c,.func (.func 146) #[] #[.pointer (some ⟨w.heap.size,0,none⟩)]] w1 fun e w'=>∃ t,e=.returned (.string t)/\t=strOf (ND l σ).1/\Step (ND l σ).2 sb Wr Rd w w':=by
 have hb1:=bE hw1;have hbx:Z6 w1 w.heap.size 24 #[.pointer (some ⟨sb,0,none⟩)]:=by rw [hw1];exact Z6.new _ _ _
 have h1:=h.below hb1;have he1:=he.new hb1;have hst:∀ Y,Below w1.heap.size w1 Y->Step σ sb Wr Rd w Y:=fun Y hY=>Step.before hb1 (Step.same ⟨gs,vR,vQ,h1⟩ hY);unfold ND
 by_cases hl:l=[]
 · subst hl
   by_cases hs:σ.1=[]\/σ.2=[]
   · rw [if_neg (by simp),if_pos hs];exact Mq A c h1 he1 _ _ (fun t w'=>t=strOf (Zr 6)/\Step σ sb Wr Rd w w') hs fun Y hY=>⟨rfl,hst Y hY⟩
   · rw [if_neg (by simp),if_neg hs];refine Ml A c h1 _ _ (fun t w'=>t=strOf (runT σ)/\Step σ sb Wr Rd w w') ⟨fun e=>hs (.inl e),fun e=>hs (.inr e)⟩ OG ((I8 h1 he1 w.heap.size hbx).mono ?_);rintro e Y ⟨rfl,hY⟩;exact ⟨_,rfl,rfl,hst Y hY⟩
 · rw [if_pos hl];exact JX l A c he1 _ _ (fun t w'=>t=strOf (Zr 11)/\Step σ sb Wr Rd w w') hl fun Y hY=>⟨rfl,hst Y hY⟩
theorem Ji(l:List (List UInt8))(A:Option Addr)(c:Nat)(h:TY σ sb gs vR vQ Wr Rd w){B:Nat}(he:Env B w):
 Calls prog 98 #[.pointer (some ⟨sb,0,none⟩),.slice A l.length c] w (XE (ND l σ) sb Wr Rd w):=by
 obtain ⟨w1,hw1⟩:=eE (w.alloc (.cells #[.pointer (some ⟨sb,0,none⟩)] 24));have HC:=hide (KX l A c h he w1 hw1);obtain ⟨q,hq⟩:=eE l.length;rw [<- hq] at HC ⊢;clear h he hq;go_enter func98,ntmps98;go_wp2_with fail;rw [<- hw1];refine HC.out.mono ?_;rintro e Y ⟨t,rfl,rfl,hst⟩;go_wp2;go_ret;exact ⟨rfl,hst⟩
end
end
end Go.Proofs.YthnenedoblncjaaGreatDoor