/- RoundMath2 -/
import Derived.Test.YtpnoofphfomjoaaGreatDoorPkM07
import Derived.Test.YtpnoofphfomjoaaGreatDoorPkM11
import Derived.Test.YtpnoofphfomjoaaGreatDoorPkM14
import Derived.Test.YtpnoofphfomjoaaGreatDoorPkD00
set_option maxRecDepth 1000000
set_option maxHeartbeats 8000000
namespace Go.Proofs.YtpnoofphfomjoaaGreatDoor
section
open Go.RowKit
theorem i64_u64 {x:Int} (h0:-9223372036854775808≤x) (h1:x<9223372036854775808):i64w (IntKind.u64.wrap x)=x:=by
 unfold i64w wrap64
 rw [IntKind.wrap_u64]
 omega
theorem eight_left {l r:List Int} (h:l.length=8):eight (l++r) 0=l:=by
 unfold eight;rw [List.drop_zero,List.take_left' h]
theorem eight_right {l r:List Int} {k:Nat} (h:l.length=k) (j:Nat):eight (l++r) (k+j)=eight r j:=by
 rw [eight_dropR,List.drop_left' h]
def P64 (p:Int × Int):Prop:=(-9223372036854775808≤p.1∧p.1≤9223372036854775807)∧(-9223372036854775808≤p.2∧p.2≤9223372036854775807)
theorem ptRd_pt16 {p:Int × Int} (h:P64 p) (X:List Int):ptRd (pt16 p++X) 0=p:=by
 unfold ptRd pt16
 rw [List.append_assoc,Nat.mul_zero,eight_left (word8_length _),show 0+8=8+0 by omega,eight_right (word8_length _),eight_left (word8_length _)]
 unfold u64w
 rw [le_word8 (u64w_u64 _),le_word8 (u64w_u64 _),i64_u64 h.1.1 (by have:=h.1.2;omega),i64_u64 h.2.1 (by have:=h.2.2;omega)]
theorem quAt_q24 {q:(Int × Int) × Int} (h:P64 q.1) (hu:U64 q.2) (X:List Int):quAt (q24 q++X) 0=q:=by
 have h1:=ptRd_pt16 h (word8 q.2++X)
 unfold ptRd at h1
 unfold quAt q24
 rw [List.append_assoc,Nat.mul_zero,show 0+16=16+0 by omega,eight_right (pt16_length _),eight_left (word8_length _),le_word8 hu]
 rw [Nat.mul_zero] at h1
 rw [h1]
theorem ptsOf_flat:∀ (ps:List (Int × Int)) (X:List Int),(∀ p∈ps,P64 p)→ptsOf (ps.flatMap pt16++X) ps.length=ps
 | [],_,_=>rfl
 | p::ps,X,h=>by
   rw [List.flatMap_cons,List.append_assoc,List.length_cons,ptsOf_succ,ptRd_pt16 (h p (by simp)),List.drop_left' (pt16_length p),ptsOf_flat ps X fun q hq=>h q (by simp [hq])]
theorem qusOf_flat:∀ (qs:List ((Int × Int) × Int)) (X:List Int),(∀ q∈qs,P64 q.1∧U64 q.2)→qusOf (qs.flatMap q24++X) qs.length=qs
 | [],_,_=>rfl
 | q::qs,X,h=>by
   rw [List.flatMap_cons,List.append_assoc,List.length_cons,qusOf_succ',quAt_q24 (h q (by simp)).1 (h q (by simp)).2,List.drop_left' (q24_length q),qusOf_flat qs X fun r hr=>h r (by simp [hr])]
end
section
open Go.RowKit
theorem hdecode_of {op vs pts:Int} {rs:List Rg} (h:hcheck op vs rs pts=0) {pl:List Int} (hl:(pl.length:Int)=16*(nSum rs:Int)+16*cntP op vs+24*cntQ op pts) :
 hdecode (fbytes op vs rs pts++pl)=(rqOf ⟨op,vs,rs.map rgBack,pts⟩ pl,0):=by
 obtain ⟨h1,h2,h3,h4,h5,h6,h7,h8,hfl⟩:=hcheck_zero h
 have hkb:=rb_key rs hfl
 have hb:hcheck op vs (rs.map rgBack) pts=0:=by rw [hcheck_key hkb];exact h
 have hp:=hparse_format h pl
 have hc:hclass (fbytes op vs rs pts++pl)=0:=by
  unfold hclass
  rw [hp]
  dsimp only
  rw [if_pos rfl]
  refine if_pos ?_
  rw [List.length_append]
  unfold hpay
  rw [if_pos hb,← nSum_cast,nSum_key hkb]
  have e1:cntP op vs=fixedOf op+vs:=by
   unfold cntP fixedOf
   by_cases a1:op=1
   · have:=h4 (by omega);rw [if_pos a1,if_pos a1];omega
   · by_cases a2:op=2
     · have:=h4 (by omega);rw [if_neg a1,if_pos a2,if_neg a1,if_pos a2];omega
     · by_cases a3:op=3
       · rw [if_neg a1,if_neg a2,if_pos a3,if_neg a1,if_neg a2,if_neg (by omega)];omega
       · have:=h4 a3
         by_cases a4:op=4
         · rw [if_neg a1,if_neg a2,if_neg a3,if_pos a4,if_neg a1,if_neg a2,if_neg (by omega)];omega
         · rw [if_neg a1,if_neg a2,if_neg a3,if_neg a4,if_neg a1,if_neg a2,if_pos (by omega)];omega
  have e2:cntQ op pts=pts:=by
   unfold cntQ
   by_cases a:op=1∨op=2∨op=3∨op=4
   · rw [if_pos a];have:=h8 (by omega);omega
   · rw [if_neg a]
  rw [e1,e2] at hl
  push_cast
  omega
 unfold hdecode
 rw [if_pos hc,hp]
 dsimp only
 rw [Int.toNat_natCast,List.drop_left' rfl]
theorem regsOf_flat:∀ (gs:List Gr) (hrs:List Rg) (X:List Int),gs.length=hrs.length→(gs.zip hrs).any szBad=false→(gs.zip hrs).any kdBad=false→(∀ g∈gs,g.1.n=g.2.length)→(∀ g∈gs,∀ p∈g.2,P64 p) →
 regsOf (hrs.map rgBack) (gBytes gs++X)=gs.map gdOf∧(gBytes gs).length=16*nSum hrs
 | [],[],_,_,_,_,_,_=>⟨rfl,rfl⟩
 | [],_::_,_,h,_,_,_,_=>by simp at h
 | _::_,[],_,h,_,_,_,_=>by simp at h
 | g::gs,r::hrs,X,hl,hs,hk,hn,hp=>by
   rw [List.zip_cons_cons,List.any_cons,Bool.or_eq_false_iff] at hs hk
   obtain ⟨i1,i2⟩:=regsOf_flat gs hrs X (by simpa using hl) hs.2 hk.2 (fun x hx=>hn x (by simp [hx])) (fun x hx=>hp x (by simp [hx]))
   have s0:(g.1.n:Int)=sizeOfReg r.v:=by have:=hs.1;unfold szBad at this;simpa using this
   have k0:=hk.1
   unfold kdBad at k0
   rw [Bool.or_eq_false_iff] at k0
   have d0:g.1.d=r.d:=by simpa using k0.1
   have v0:g.1.v=r.v:=by simpa using k0.2
   have hgl:g.2.length=sizeN r.v:=by have:=hn g (by simp);have:=sizeN_cast r.v;omega
   have hfl:(g.2.flatMap pt16).length=16*sizeN r.v:=by rw [flat_len pt16 16 pt16_length,hgl];omega
   constructor
   · rw [List.map_cons,regsOf,gBytes_cons,List.append_assoc]
     have e1:ptsOf (g.2.flatMap pt16++(gBytes gs++X)) (sizeN (rgBack r).v)=g.2:=by
      show ptsOf _ (sizeN r.v)=_
      rw [← hgl];exact ptsOf_flat _ _ (hp g (by simp))
     have e2:(g.2.flatMap pt16++(gBytes gs++X)).drop (16*sizeN (rgBack r).v)=gBytes gs++X:=List.drop_left' hfl
     rw [e1,e2,i1,List.map_cons]
     show (r.d,r.v,g.2)::_=(g.1.d,g.1.v,g.2)::_
     rw [d0,v0]
   · rw [gBytes_cons,List.length_append,hfl,i2]
     simp only [nSum,List.map_cons,List.sum_cons]
     omega
theorem hdecode_encode {op vs pts:Int} {hrs:List Rg} {gs:List Gr} {ps:List (Int × Int)} {qs:List ((Int × Int) × Int)} {b:List Int} (h:hencode op vs hrs pts gs ps qs=(b,0))
 (hn:∀ g∈gs,g.1.n=g.2.length) (h1:∀ g∈gs,∀ p∈g.2,P64 p) (h2:∀ p∈ps,P64 p) (h3:∀ q∈qs,P64 q.1∧U64 q.2) :
 hdecode b=(⟨⟨op,vs,hrs.map rgBack,pts⟩,gs.map gdOf,ps,qs⟩,0)∧(hrs.map rgBack).map Rg.key=hrs.map Rg.key:=by
 unfold hencode at h
 by_cases hc:hcheck op vs hrs pts=0
 · rw [if_neg (by simpa using hc)] at h
   by_cases ha:gs.length≠hrs.length∨(ps.length:Int)≠cntP op vs∨(qs.length:Int)≠cntQ op pts
   · rw [if_pos ha] at h;simp at h
   · rw [if_neg ha] at h
     cases hs:(gs.zip hrs).any szBad with
     | true=>rw [hs,if_pos rfl] at h;simp at h
     | false =>
       rw [hs,if_neg (by simp)] at h
       cases hk:(gs.zip hrs).any kdBad with
       | true=>rw [hk,if_pos rfl] at h;simp at h
       | false =>
         rw [hk,if_neg (by simp)] at h
         simp only [Prod.mk.injEq,and_true] at h
         have hl1:gs.length=hrs.length:=by omega
         obtain ⟨e1,e2⟩:=regsOf_flat gs hrs (ps.flatMap pt16++qs.flatMap q24) hl1 hs hk hn h1
         have hfull:=(hcheck_zero hc).2.2.2.2.2.2.2.2
         have hkey:=rb_key hrs hfull
         refine ⟨?_,hkey⟩
         have hb:b=fbytes op vs hrs pts++(gBytes gs++(ps.flatMap pt16++qs.flatMap q24)):=by rw [← h];simp [List.append_assoc]
         have hlen:((gBytes gs++(ps.flatMap pt16++qs.flatMap q24)).length:Int)=16*(nSum hrs:Int)+16*cntP op vs+24*cntQ op pts:=by
          rw [List.length_append,List.length_append,e2,flat_len pt16 16 pt16_length,flat_len q24 24 q24_length];push_cast;omega
         rw [hb,hdecode_of hc hlen]
         have hd:(gBytes gs++(ps.flatMap pt16++qs.flatMap q24)).drop (16*nSum (hrs.map rgBack))=ps.flatMap pt16++qs.flatMap q24:=by
          rw [nSum_key hkey];exact List.drop_left' e2
         have hp:(cntP op vs).toNat=ps.length:=by omega
         have hq:(cntQ op pts).toNat=qs.length:=by omega
         unfold rqOf
         dsimp only
         rw [e1,hd,hp,hq,ptsOf_flat ps _ h2]
         have hqs:qusOf (ps.flatMap pt16++qs.flatMap q24) qs.length=qs:=by
          by_cases h5:op=5
          · have:ps=[]:=List.eq_nil_of_length_eq_zero (by have:cntP op vs=0:=by unfold cntP;rw [if_neg (by omega),if_neg (by omega),if_neg (by omega),if_neg (by omega)]
                                                          omega)
            subst this
            have:=qusOf_flat qs [] h3
            simpa using this
          · have hz:=hcheck_zero hc
            have:qs=[]:=List.eq_nil_of_length_eq_zero (by have:cntQ op pts=0:=by unfold cntQ;rw [if_pos (by omega)]
                                                          omega)
            subst this
            rfl
         rw [hqs]
 · rw [if_pos hc] at h
   simp only [Prod.mk.injEq] at h
   exact absurd h.2 hc
end
end Go.Proofs.YtpnoofphfomjoaaGreatDoor
