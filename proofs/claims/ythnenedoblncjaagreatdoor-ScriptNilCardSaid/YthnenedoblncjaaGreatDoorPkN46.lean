/- AlvMath ScrAlive LawScrNil -/
import Derived.BigQuiet
import Derived.ChangeAlike
import Derived.Deep.AppendLies
import Derived.Deep.QuietTactic
import Derived.Deep.RegionLaw
import Derived.Deep.RegionWith
import Derived.Laws.BytesArg
import Derived.Lib.OthersKept
import Derived.Lib.SlTrimSet
import Derived.Lib.SliceRun
import Derived.Shelf.Strings.Builder1
import Derived.Shelf.Strings.SlTrimAscii
import Derived.Test.YthnenedoblncjaaGreatDoorProg
import Derived.Test.YthnenedoblncjaaGreatDoorPkN39
import Derived.Test.YthnenedoblncjaaGreatDoorPkN43
import Derived.Test.YthnenedoblncjaaGreatDoorPkN44
import Derived.Test.YthnenedoblncjaaGreatDoorPkN45
set_option maxRecDepth 1000000
set_option maxHeartbeats 8000000
namespace Go.Proofs.YthnenedoblncjaaGreatDoor
open Go.Proofs.Tryz
section
open Go.RowKit Go.Shelf
def Cz:List UInt8:=[97,108,108,111,119,32,100,105,115,99,32,53,32,48,32,48,32,53,32,45,53,32,48]
def CB:List UInt8:=[97,100,100,32,55,32,51,32,52]
def CF:List UInt8:=[97,100,100,32,56,32,52,32,52]
def CG:List UInt8:=[114,117,110]
def DJ:List UInt8:=[109,101,109,98,101,114,32,49]
def zA:List UInt8:=[99,108,101,97,114]
def Oo:List UInt8:=[97,108,108,111,119,32,100,105,115,99,32,53,32,48,32,48,32,53,32,45,53,32,48,10,97,100,100,32,55,32,51,32,52,10,97,100,100,32,56,32,52,32,52,10,114,117,110]
theorem VL:Ug Oo=[Cz,CB,CF,CG]:=by decide +kernel
theorem zq:sp 32 Cz=[97,108,108,111,119]::[[100,105,115,99],[53],[48],[48],[53],[45,53],[48]]:=by decide +kernel
theorem zu:sp 32 CB=[97,100,100]::[[55],[51],[52]]:=by decide +kernel
theorem zw:sp 32 CF=[97,100,100]::[[56],[52],[52]]:=by decide +kernel
theorem zx:sp 32 CG=[114,117,110]::[]:=by decide +kernel
theorem zy:sp 32 DJ=[109,101,109,98,101,114]::[[49]]:=by decide +kernel
theorem zB:sp 32 zA=[99,108,101,97,114]::[]:=by decide +kernel
def QW(σ:St)(l:List UInt8):List UInt8 × St :=
 if l=Cz then GD false [[100,105,115,99],[53],[48],[48],[53],[45,53],[48]] σ else if l=CB then UM [[55],[51],[52]] σ else if l=CF then UM [[56],[52],[52]] σ else if l=CG then ND [] σ else if l=DJ then XY [[49]] σ else Sv [] σ
theorem nK(σ:St):QW σ Cz=GD false [[100,105,115,99],[53],[48],[48],[53],[45,53],[48]] σ:=rfl
theorem nL(σ:St):QW σ CB=UM [[55],[51],[52]] σ:=rfl
theorem nM(σ:St):QW σ CF=UM [[56],[52],[52]] σ:=rfl
theorem sD(σ:St):QW σ CG=ND [] σ:=rfl
theorem nN(σ:St):QW σ DJ=XY [[49]] σ:=rfl
theorem nO(σ:St):QW σ zA=Sv [] σ:=rfl
def kC:St:=([(false,0,[(5,0),(0,5),(-5,0)])],[])
def kD:St:=([(false,0,[(5,0),(0,5),(-5,0)])],[((3,4),7)])
def CJ:St:=([(false,0,[(5,0),(0,5),(-5,0)])],[((3,4),7),((4,4),8)])
theorem a1:QW ([],[]) Cz=(txt 1,kC):=by kernel_rfl
theorem a2:QW kC CB=(txt 1,kD):=by kernel_rfl
theorem a3:QW kD CF=(txt 2,CJ):=by kernel_rfl
theorem gX:Yb CJ=⟨1,1,[(1,7),(0,0)]⟩:=by kernel_rfl
theorem NW{n:Nat}(h:n<10):txt (n:Int)=[UInt8.ofNat (48+n)]:=by
 unfold txt Un;rw [if_neg (by omega),Int.natAbs_natCast,XI h];rfl
theorem a4:QW CJ CG=([49,32,55],CJ):=by
 rw [sD];unfold ND;rw [if_neg (by decide),if_neg (by decide)];unfold runT;rw [gX,if_neg (by decide)];have e1:txt 1=[49]:=NW (n:=1) (by decide);have e2:Un 7=[55]:=by unfold Un;rw [XI (by decide)];rfl
 show (Lib.join (txt 1::[Un 7]) [32],CJ)=_;rw [e1,e2];rfl
theorem a5:QW CJ DJ=(Zr 11,CJ):=by kernel_rfl
theorem a6(σ:St):QW σ zA=([111,107],([],[])):=by kernel_rfl
def Mj(s:List (List UInt8))(l:List UInt8):List UInt8:=(QW (Cj QW ([],[]) s) l).1
theorem nQ:Cj QW ([],[]) [Cz,CB,CF,CG]=CJ:=by
 unfold Cj;simp only [List.foldl_cons,List.foldl_nil,a1,a2,a3,a4]
theorem DK:UW Mj [] (Ug Oo)=[[49],[49],[50],[49,32,55]]:=by
 rw [VL];simp only [UW,Mj,Cj,List.nil_append,List.cons_append,List.foldl_cons,List.foldl_nil,a1,a2,a3,a4];rw [show txt 1=[49] from NW (n:=1) (by decide),show txt 2=[50] from NW (n:=2) (by decide)]
theorem sH:Mj (Ug Oo) DJ=Zr 11:=by
 unfold Mj;rw [VL,nQ,a5]
theorem sF:Mj (Ug Oo++[DJ]) zA=[111,107]:=by
 unfold Mj;rw [a6]
def aT(l:List UInt8):Prop:=l=Cz\/l=CB\/l=CF\/l=CG\/l=DJ\/l=zA
theorem gY:XG [97,108,108,111,119]=94:=by decide +kernel
theorem gZ:XG [97,100,100]=97:=by decide +kernel
theorem ig:XG [97,100,100]=97:=by decide +kernel
theorem iq:XG [114,117,110]=98:=by decide +kernel
theorem iw:XG [109,101,109,98,101,114]=96:=by decide +kernel
theorem iy:XG [99,108,101,97,114]=102:=by decide +kernel
theorem Gw:∀ args w,(callFunc 94 args).run prog w=.ok (.enter 94 args) w:=enters_of func94 (by kernel_rfl) rfl
theorem Gx:∀ args w,(callFunc 102 args).run prog w=.ok (.enter 102 args) w:=enters_of func102 (by kernel_rfl) rfl
theorem JO:∀ args w,(callFunc 96 args).run prog w=.ok (.enter 96 args) w:=enters_of func96 (by kernel_rfl) rfl
theorem Om:∀ args w,(callFunc 97 args).run prog w=.ok (.enter 97 args) w:=enters_of func97 (by kernel_rfl) rfl
theorem zo:∀ args w,(callFunc 98 args).run prog w=.ok (.enter 98 args) w:=enters_of func98 (by kernel_rfl) rfl
theorem nS(B sb:Nat)(line:List UInt8)(ht:aT line)(σ:St)(Wr Rd:Nat->Prop)(X:World)(hs:V6 σ sb Wr Rd X)(he:Env B X)(Qv:∀ k,Wr k->B<=k):
 Calls prog 21 #[.pointer (some ⟨sb,0,none⟩),.string (strOf line)] X (XE (QW σ line) sb Wr Rd X):=by
 rcases ht with rfl|rfl|rfl|rfl|rfl|rfl
 · rw [nK];exact UF Cz _ _ (by decide) zq _ gY (by decide) Gw _ X hs he fun w1 bb ob c gs vR vQ h hE hsl hc=>JR ([[100,105,115,99],[53],[48],[48],[53],[45,53],[48]]) bb ob c hc (by decide) (by decide) w1 h hsl hE Qv
 · rw [nL];exact UF CB _ _ (by decide) zu _ gZ (by decide) Om _ X hs he fun w1 bb ob c gs vR vQ h hE hsl hc=>Tx ([[55],[51],[52]]) bb ob c hc (by decide) w1 h hsl hE Qv
 · rw [nM];exact UF CF _ _ (by decide) zw _ ig (by decide) Om _ X hs he fun w1 bb ob c gs vR vQ h hE hsl hc=>Tx ([[56],[52],[52]]) bb ob c hc (by decide) w1 h hsl hE Qv
 · rw [sD];exact UF CG _ _ (by decide) zx _ iq (by decide) zo _ X hs he fun w1 bb ob c gs vR vQ h hE hsl hc=>Ji ([]) (some ⟨bb,ob,none⟩) c h hE
 · rw [nN];exact UF DJ _ _ (by decide) zy _ iw (by decide) JO _ X hs he fun w1 bb ob c gs vR vQ h hE hsl hc=>PS ([[49]]) bb ob c hc (by decide) (by decide) w1 h hsl hE
 · rw [nO];exact UF zA _ _ (by decide) zB _ iy (by decide) Gx _ X hs he fun w1 bb ob c gs vR vQ h hE hsl hc=>J4 ([]) (some ⟨bb,ob,none⟩) c h hE
theorem sG(B sb:Nat):Oe B aT (.pointer (some ⟨sb,0,none⟩)) Mj (Qi B QW ([],[]) sb):=FC B aT QW ([],[]) sb (nS B sb)
end
section
open Go.RowKit Go.Shelf
theorem FD(w:World):V6 ([],[]) w.heap.size (fun k=>k=w.heap.size) (fun _=>False) (w.alloc (.cells #[.slice none 0 0,.slice none 0 0] 70)) :=
 ⟨[],_,_,rfl,Z6.new _ _ _,World.ownsRow_nil _ _ _ _,World.ownsRow_nil _ _ _ _,rfl,fun k e=>(by cases e),fun k e=>(by cases e),fun k e=>(by cases e),fun g hg=>(by cases hg),fun k h=>h.elim,fun k hk=>by rw [hk];simp,fun k h=>h.elim,fun g hg=>(by cases hg),fun q hq=>(by cases hq),by decide,by decide⟩
theorem EP{B:Nat}{w:World}(he:Env B w)(f:St->List UInt8->List UInt8 × St):Qi B f ([],[]) w.heap.size (fun k=>k=w.heap.size) (fun _=>False) [] (w.alloc (.cells #[.slice none 0 0,.slice none 0 0] 70)) :=
 ⟨FD w,he.new (bA),fun k hk=>by rw [hk];exact he.1,fun k hk=>by
   rcases hk with rfl|hk
   · exact ⟨_,Z6.new _ _ _,rfl⟩
   · exact hk.elim⟩
theorem OH(xs:List (List UInt8))(A A':Option Addr)(c c':Nat)(w:World)(hn:xs.length<=1000000)(hs:Sl w w.heap.size A (ZN xs))(hs':Sl w w.heap.size A' (ZN xs)):
 Calls prog 16 #[.slice A xs.length c,.slice A' xs.length c'] w fun e w'=>e=.returned (.bool true)/\Below w.heap.size w w':=by
 have xH:∀ (b off:Nat),(∀ j u,(ZN xs)[j]?=some u->w.cell? ⟨b,off+j,none⟩=some u)->∀ j,j<(xs.map strOf).length->w.cell? ⟨b,off+j,none⟩=some (.string ((xs.map strOf).getD j ByteArray.empty)):=fun b off hc j hj=>by
  rw [List.length_map] at hj;have h2:xs[j]?=some xs[j]:=List.getElem?_eq_getElem hj;rw [hc j _ (Vh h2),List.getD_eq_getElem?_getD,List.getElem?_map,h2];rfl
 by_cases h0:xs=[]
 · subst h0;refine (Any.slices_Equal_string_empty Tryz.lays193 A A' c 0 c' w (by omega)).mono ?_;rintro e w' ⟨rfl,rfl⟩;exact ⟨rfl,Below.refl _ _⟩
 · obtain ⟨b,off,rfl,hb,hc⟩:=hs.open_ (by unfold ZN;rw [List.length_map];exact List.length_pos_iff.2 h0);obtain ⟨b',off',rfl,hb',hc'⟩:=hs'.open_ (by unfold ZN;rw [List.length_map];exact List.length_pos_iff.2 h0);refine (Any.slices_Equal_string Tryz.lays193 b off xs.length c b' off' xs.length c' (xs.map strOf) (xs.map strOf) w (by simp) (by simp) (by omega) (by omega) (xH b off hc) (xH b' off' hc')).mono ?_;rintro e w' ⟨rfl,q,rfl⟩;refine ⟨?_,U2 (Below.refl _ _) q⟩;rw [decide_eq_true rfl]
theorem zJ:strOf (Zr 11)={ data:=#[101,114,114,111,114,32,49,49] }:=by
 unfold Zr txt Un;rw [if_neg (by decide),show (11:Int).natAbs=11 from rfl,MI (by decide),XI (by decide)];rfl
theorem CS:strOf (Zr 1)={ data:=#[101,114,114,111,114,32,49] }:=by
 unfold Zr txt Un;rw [if_neg (by decide),show (1:Int).natAbs=1 from rfl,XI (by decide)];rfl
theorem BX:strOf [111,107]={ data:=#[111,107] }:=rfl
def Gy:List (List UInt8):=[[49],[49],[50],[49,32,55]]
section
variable (w:World){B:Nat}(he:Env B w)
include he
theorem DL:Calls prog 11 #[] w fun e w'=>e=.returned (.bool true)/\Below w.heap.size w w':=by
 obtain ⟨w1,hw1⟩:=eE (w.alloc (.cells #[.slice none 0 0,.slice none 0 0] 70));have hb1:=bE hw1;obtain ⟨sb,hsb⟩:=eE w.heap.size;have D:=sG sb sb;have h1:Qi sb QW ([],[]) sb (fun k=>k=sb) (fun _=>False) [] w1:=by
  rw [hw1,hsb];exact EP (B:=w.heap.size) ⟨Nat.le_refl _,fun w' hb=>he.2 w' (Qk hb he.1)⟩ QW
 have HR:=hide (PK D Oo (by decide) (fun l hl=>by
  rw [VL] at hl;simp only [List.mem_cons,List.not_mem_nil,or_false] at hl;rcases hl with h|h|h|h
  · exact .inl h
  · exact .inr (.inl h)
  · exact .inr (.inr (.inl h))
  · exact .inr (.inr (.inr (.inl h)))) w1 _ _ [] h1)
 have HD:=hide D;have HB1:Hid (Below sb w w1):=hide (by rw [hsb];exact hb1);have xV:Hid (sb<w1.heap.size):=hide (by rw [hw1,hsb];simp);have HN:=hide (Jf w);rw [<- hw1,<- hsb] at HN;rw [<- hsb];clear he D h1 hb1 hw1 hsb;go_enter func11,ntmps11;go_wp2_with fail;refine HN.out.mono ?_;rintro e w' ⟨rfl,hw'⟩;subst hw';go_wp2_with fail;refine HR.out.mono ?_;rintro e w2 ⟨W,R,v,rfl,hi2,hvd,hW,ZO,hk2⟩;rw [DK,VL] at ZO;have ZO:w2.ownsRow w'.heap.size 9 1 v 4 (ZN Gy):=ZO;obtain ⟨VA,vc,rfl,-⟩:=ZM ZO;obtain ⟨w3,hw3⟩:=eE (w2.alloc (.cells #[.string { data:=#[49] },.string { data:=#[49] },.string { data:=#[50] },.string { data:=#[49,32,55] }] 9));obtain ⟨g3,hg3⟩:=eE w2.heap.size;have hb3:=bE hw3;have N3:Z6 w3 g3 9 (ZN Gy).toArray:=by rw [hw3,hg3];exact Z6.new _ _ _
 have hs3:Sl w3 w3.heap.size VA (ZN Gy):=((Sl.XO ZO).below hb3).more hb3.size;have ht3:Sl w3 w3.heap.size (some ⟨g3,0,none⟩) (ZN Gy):=Sl.mk N3.lt fun j u hu=>by rw [Nat.zero_add];exact N3.cell (by simpa using hu)
 have yR:=hide (OH Gy VA (some ⟨g3,0,none⟩) vc 4 w3 (by decide) hs3 ht3);have HI2:=hide hi2;have HW:=hide hW;have rD:=hide hk2;have HB3:=hide hb3;clear hi2 hvd hW ZO hk2 hb3 N3 hs3 ht3 HR;go_wp2_with fail;rw [<- hw3,<- hg3];clear hw3 hg3;refine yR.out.mono ?_;rintro e w4 ⟨rfl,hb4⟩
 have hi4:=HD.out.keep HI2.out (Z9.of_below (Z8 HB3.out hb4) fun k hk=>by
  have h2:=rD.out.size;have h3:=xV.out;rcases hk with hk|hk
  · omega
  · exact Xd (HD.out.cell HI2.out k hk))
 have xP:=hide (HD.out.step DJ (.inr (.inr (.inr (.inr (.inl rfl))))) hi4);rw [List.nil_append,sH,zJ] at xP;have Du:=hide (Z8 HB3.out hb4);clear hi4 hb4 yR;go_wp2_with fail;refine xP.out.mono ?_;rintro e w5 ⟨rfl,W5,R5,hi5,tq,-,hk5⟩;have HD6:=hide (HD.out.step zA (.inr (.inr (.inr (.inr (.inr rfl))))) hi5);rw [sF,BX] at HD6;have gH:=hide tq;have jK:=hide hk5;clear hi5 tq hk5 xP;go_wp2_with fail;refine HD6.out.mono ?_;rintro e w6 ⟨rfl,-,-,-,-,-,Xe⟩;have eX:=hide Xe;clear Xe HD6;go_wp2;go_ret;refine ⟨rfl,?_⟩;have h2:=rD.out.size;have h4:=Du.out.size;have h5:=jK.out.size;have h3:=xV.out;have hWs:∀ k,W k->sb<=k:=fun k hk=>by rcases HW.out k hk with h|h <;> omega
 refine V7 HB1.out (V7 (rD.out.below fun k hk=>⟨by omega,by omega⟩) (V7 (Qk Du.out (by omega)) (V7 (jK.out.below fun k hk=>⟨by omega,fun h=>by have:=hWs k h;omega⟩) (eX.out.below fun k hk=>⟨by omega,fun h=>?_⟩))));rcases gH.out k h with h|h
 · have:=hWs k h;omega
 · omega
end
end
section
open Go.RowKit Go.Shelf
theorem QX(a:List UInt8):∀ (r s:List (List UInt8)),UW (fun _ _=>a) s r=List.replicate r.length a
 | [],s=>rfl
 | x::r,s=>by rw [UW,QX a r,List.length_cons,List.replicate_succ]
theorem NR(s:ByteArray):strOf s.data.toList=s:=by
 apply ByteArray.ext;simp [strOf]
section
variable (s:ByteArray)(w:World){B:Nat}(he:Env B w)
include he
theorem Ky:Calls prog 8 #[.string s] w fun e w'=>e=.returned (.bool true)/\Below w.heap.size w w':=by
 have Cn:=hide (fun (X:World) (hb:Below w.heap.size w X)=>DL X (he.new hb))
 by_cases h5:(s.size:Int) > 5000
 · clear he;go_enter func8,ntmps8;go_wp2_with fail;refine (Cn.out w (Below.refl _ _)).mono ?_;rintro e w1 ⟨rfl,hb1⟩;go_wp2;go_ret;exact ⟨rfl,hb1⟩
 · obtain ⟨t,ht⟩:=eE s.data.toList;have hst:strOf t=s:=(by rw [ht];exact NR s);have htl:t.length<=5000:=(by rw [<- ZQ,hst];omega);have ng:=hide (PK (ER B) t (by omega) (fun _ _=>trivial) w (fun _=>False) (fun _=>False) [] ⟨fun k h=>h.elim id id,he⟩);have rF:=hide (NA t (by omega));have mq:=hide (fun (X:World) (hb:Below w.heap.size w X)=>GZ s X (he.new hb).pt);rw [hst] at ng rF;rw [CS] at mq;have hll:(Ug t).length<=5001:=(by have h3:(Ug t).length<=t.length+1:=XW t [];omega);obtain ⟨N,hN⟩:=eE ((Ug t).length);rw [<- hN] at hll;have HN:=hide hN;clear he ht hst htl hN;go_enter func8,ntmps8;go_wp2_with fail;refine ng.out.mono ?_;rintro e w1 ⟨W,R,v,rfl,-,-,-,ZO,hk⟩;rw [QX,<- HN.out] at ZO;have hb1:Below w.heap.size w w1:=hk.below fun k hk=>⟨hk,fun h=>h⟩;obtain ⟨VA,vc,rfl,-⟩:=ZM ZO;have HS:Hid (Sl w1 w1.heap.size VA (ZN (List.replicate N (Zr 1)))):=hide (Sl.XO ZO);have HB1:=hide hb1;clear ZO hk hb1 ng;go_wp2
   go_loopw [16] (fun i wr=>∃ k:Nat,k<=N/\i=.int .i64 (k:Int)/\wr=w1) (fun i _=>N - (intOf i).toNat)
   case atStart=>exact ⟨0,Nat.zero_le _,rfl,rfl⟩
   case round =>
    obtain ⟨k,hk,rfl,rfl⟩:=hrel
    by_cases hkn:k<N
    · have hki:(k:Int)<(N:Int):=by omega
      obtain ⟨b,off,rfl,hbb,hc⟩:=HS.out.open_ (by
       cases N with
       | zero=>omega
       | succ n=>simp [ZN,List.replicate_succ])
      have c0:=hc k (.string (strOf (Zr 1))) (Vh (by rw [List.getElem?_replicate,if_pos hkn]));rw [CS] at c0;clear hc;go_wp2;go_roundw
      case rel=>exact ⟨k+1,by omega,by go_num,trivial⟩
      case measure=>simp [intOf];omega
    · obtain rfl:k=N:=(by omega);have hki:¬ (k:Int)<(k:Int):=(by omega);go_wp2_with fail;refine (Cn.out _ HB1.out).mono ?_;rintro e w2 ⟨rfl,hb2⟩;have HB2:=hide (Z8 HB1.out hb2);have D2:=hide (mq.out w2 HB2.out);clear hb2 mq Cn;go_wp2_with fail;refine D2.out.mono ?_;rintro e w3 ⟨rfl,hb3⟩;have HB3:=hide (Z8 HB2.out hb3);clear hb3 D2;go_wp2_with fail;refine (J5 w3).mono ?_;rintro e w4 ⟨rfl,hw4⟩;subst hw4;have L4:=hide (rF.out w4);clear rF;go_wp2_with fail;refine L4.out.mono ?_;rintro e w5 ⟨v5,rfl,Yz,hb5⟩;rw [<- HN.out] at Yz;obtain ⟨bT,dJ,rfl,-⟩:=ZM Yz;have Dv:=hide (Z8 HB3.out hb5);clear Yz hb5 L4;go_wp2;go_ret;exact ⟨rfl,Dv.out⟩
end
end
end Go.Proofs.YthnenedoblncjaaGreatDoor