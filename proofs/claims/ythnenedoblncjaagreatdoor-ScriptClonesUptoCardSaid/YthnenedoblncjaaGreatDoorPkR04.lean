/- Encode Large19 Skip21 -/
import Derived.Deep.RegionHeld3
import Derived.Test.YthnenedoblncjaaGreatDoorPkR03
set_option maxRecDepth 1000000
set_option maxHeartbeats 8000000
namespace Go.Proofs.YthnenedoblncjaaGreatDoor
open Go.Proofs.Tryz
section
open Go.RowKit
abbrev Gr:=Rg × List (Int × Int)
def Vs(x:Gr × Rg):Bool:=(x.1.1.n:Int) != ZJ x.2.v
def TM(x:Gr × Rg):Bool:=(x.1.1.d != x.2.d) || (x.1.1.v != x.2.v)
def dL(w:World)(B:Nat)(gs:List Gr):Prop:=∀ g∈gs,g.1.n=g.2.length/\Sl w B g.1.A (Zl g.2)
def Yu(gs:List Gr):List Int:=gs.flatMap fun g=>g.2.flatMap Vo
def ZE(op vs:Int)(hrs:List Rg)(ZY:Int)(gs:List Gr)(ps:List (Int × Int))(qs:List ((Int × Int) × Int)):List Int × Int :=
 if ZM op vs hrs ZY≠0 then ([],ZM op vs hrs ZY)
 else if gs.length≠hrs.length\/(ps.length:Int)≠XI op vs\/(qs.length:Int)≠Xm op ZY then ([],8)
 else if (gs.zip hrs).any Vs=true then ([],8)
 else if (gs.zip hrs).any TM=true then ([],2)
 else (Zo op vs hrs ZY++Yu gs++ps.flatMap Vo++qs.flatMap q24,0)
theorem JM{op vs:Int}{hrs:List Rg}{ZY:Int}(h:ZM op vs hrs ZY=0):-1000<=vs/\vs<=1000/\hrs.length<=64/\XI op vs<=65/\Xm op ZY<=4096:=by
 obtain ⟨h1,h2,h3,h4,h5,h6,h7,h8,_⟩:=ZA h;refine ⟨?_,?_,?_,?_,?_⟩
 · by_cases e:op=3
   · have:=h3 e;omega
   · have:=h4 e;omega
 · by_cases e:op=3
   · have:=h3 e;omega
   · have:=h4 e;omega
 · by_cases e:4<=op
   · exact (h5 e).2.1
   · have:=h6 (by omega);rw [this];simp
 · unfold XI;split
   · omega
   · split
     · omega
     · split
       · rename_i e;have:=h3 e;omega
       · split <;> omega
 · unfold Xm;split
   · omega
   · have:=h7 (by omega);omega
theorem jL {w0 wk w':World} {b1 o1 b2 o2 b3 o3 b4 o4:Nat} {v1 v2 v3 v4:Value} (hb:Below wk.heap.size wk w')
 (h:Below w0.heap.size w0 wk/\wk.cell? ⟨b1,o1,none⟩=some v1/\wk.cell? ⟨b2,o2,none⟩=some v2/\wk.cell? ⟨b3,o3,none⟩=some v3/\wk.cell? ⟨b4,o4,none⟩=some v4) :
 Below w0.heap.size w0 w'/\w'.cell? ⟨b1,o1,none⟩=some v1/\w'.cell? ⟨b2,o2,none⟩=some v2/\w'.cell? ⟨b3,o3,none⟩=some v3/\w'.cell? ⟨b4,o4,none⟩=some v4 :=
 have on:∀ {b o:Nat} {v:Value},wk.cell? ⟨b,o,none⟩=some v->w'.cell? ⟨b,o,none⟩=some v:=fun h=>(hb.cell (p:=⟨_,_,none⟩) (Zz h)).trans h
 ⟨Z8 h.1 hb,on h.2.1,on h.2.2.1,on h.2.2.2.1,on h.2.2.2.2⟩
theorem gM (P:Nat->Prop) (g:Nat) (bs:List Int) (w:World) (B:Nat) (A:Option Addr) (c n:Nat)
 (hP:∀ k,P k->k<w.heap.size) (hw:WS w P g bs) (hlen:bs.length<=400000) (hB:∀ k,k<B->P k) (ps:List (Int × Int)) (hnl:n=ps.length) (hs:Sl w B A (Zl ps)) (hn:ps.length<=10000) :
 Calls prog 216 #[.slice A n c,.func (.func 217) #[.pointer (some ⟨g,0,none⟩)] #[]] w fun e w'=>e=.returned (.tuple #[])/\Z9 P w w'/\WS w' P g (bs++ps.flatMap Vo):=by
 subst hnl;exact JU P g bs w B A c hP hw hlen hB ps hs hn
def Qb(n k:Nat):Prop:=k<n
theorem qG{w:World}{base:Nat}{e:TypeId}{size n:Nat}{v:Value}{xs:List Value}(h:w.ownsRow 0 e size v n xs)(hb:∀ k,v.ownBlock=some k->base<=k):w.ownsRow base e size v n xs:=by
 refine ⟨h.1,?_⟩;rcases h.2 with h0|⟨g',cap,cur,rfl,_,r⟩
 · exact .inl h0
 · exact .inr ⟨g',cap,cur,rfl,hb g' rfl,r⟩
theorem mK{w:World}{base:Nat}{bs:List Int}{v:Value}(h:w.ownsRow base 5 1 v bs.length (ZU bs))(hb:base<=w.heap.size):WS (w.alloc (.cells #[v] 250)) (Qb base) w.heap.size bs:=by
 refine ⟨v,Z7.new _ _ _,by unfold Qb;omega,ZI (VT h (Nat.zero_le _)) (bA),fun e=>?_,fun k hk hp=>?_⟩
 · have:=KF h e;omega
 · have:=ZN h hk;unfold Qb at hp;omega
theorem F6{w:World}{base base' g:Nat}{bs:List Int}(h:WS w (Qb base) g bs)(hb:base'<=base):∃ v,w.cell? ⟨g,0,none⟩=some v/\w.ownsRow base' 5 1 v bs.length (ZU bs):=by
 obtain ⟨v,h1,h2,h3,h4,h5⟩:=h;refine ⟨v,h1.q0 rfl,qG h3 fun k hk=>?_⟩;have:=h5 k hk;unfold Qb at this;omega
theorem Bz{gs:List Gr}{hrs:List Rg}(h:(gs.zip hrs).any Vs=false)(hl:gs.length=hrs.length):∀ g∈gs,(g.1.n:Int)<=64:=by
 intro g hg;obtain ⟨k,hk,rfl⟩:=List.mem_iff_getElem.1 hg;have h1:(gs.zip hrs)[k]?=some (gs[k],hrs[k]'(by omega)):=by
  rw [List.getElem?_zip_eq_some];exact ⟨List.getElem?_eq_getElem hk,List.getElem?_eq_getElem (by omega)⟩
 have h2:=List.any_eq_false.1 h _ (List.mem_of_getElem? h1);have h3:=Xv (hrs[k]'(by omega)).v;simp only [Vs,bne_iff_ne,ne_eq,Decidable.not_not] at h2;omega
theorem PL(gs:List Gr)(h:∀ g∈gs,(g.2.length:Int)<=64):(Yu gs).length<=1024*gs.length:=by
 induction gs with
 | nil=>simp [Yu]
 | cons g gs ih =>
   have h1:=h g (by simp);have h2:=ih fun x hx=>h x (by simp [hx]);have h3:=VG Vo 16 VU g.2;simp only [Yu,List.flatMap_cons,List.length_append,List.length_cons] at *;omega
theorem Bt(gs:List Gr)(k:Nat)(g:Gr)(h:gs[k]?=some g):Yu (gs.take (k+1))=Yu (gs.take k)++g.2.flatMap Vo:=by
 unfold Yu;rw [List.take_add_one,h];simp
theorem F8{gs:List Gr}{hrs:List Rg}:(gs.zip hrs).take gs.length=gs.zip hrs:=List.take_of_length_le (by rw [List.length_zip];omega)
theorem GH(op vs:Int)(rs:List Rg)(ZY:Int):(Zo op vs rs ZY).length<=rs.length+4:=by
 unfold Zo;simp only [List.length_append,List.length_map,List.length_cons,List.length_nil];split <;> split <;> (try split) <;> simp <;> omega
section
variable (op vs ZY:Int)(hrs:List Rg)(HA:Option Addr)(hc:Nat)(gs:List Gr)(GA:Option Addr)(gc:Nat)(ps:List (Int × Int))(PA:Option Addr)(pc:Nat)(qs:List ((Int × Int) × Int))(QA:Option Addr)(qc:Nat)(w:World)
variable (hh:Sl w w.heap.size HA (rgCells hrs))(hgc:Sl w w.heap.size GA (rgCells (gs.map (·.1))))(hgs:dL w w.heap.size gs)(hps:Sl w w.heap.size PA (Zl ps))(MF:Sl w w.heap.size QA (XC qs))
variable (hn:hrs.length<=maxLen)
include hh hgc hgs hps MF hn
theorem Py:Calls prog 151 #[.agg #[.int .i64 op,.int .i64 vs,.slice HA hrs.length hc,.int .i64 ZY,.slice GA gs.length gc,.slice PA ps.length pc,.slice QA qs.length qc]] w (Xj (ZE op vs hrs ZY gs ps qs) w):=by
 have HH:=hide hh;clear hh;have HG:=hide hgc;clear hgc;have NU:=hide hgs;clear hgs;have Lg:=hide hps;clear hps;have HQS:=hide MF;clear MF;obtain ⟨w0,hw0⟩:=eE (w.alloc (.cells #[.int .i64 op,.int .i64 vs,.slice HA hrs.length hc,.int .i64 ZY,.slice GA gs.length gc,.slice PA ps.length pc,.slice QA qs.length qc] 182));have hb0:=bE hw0;have hz0:w0.heap.size=w.heap.size+1:=by rw [hw0];simp
 have B0:Z7 w0 w.heap.size 182 #[.int .i64 op,.int .i64 vs,.slice HA hrs.length hc,.int .i64 ZY,.slice GA gs.length gc,.slice PA ps.length pc,.slice QA qs.length qc]:=by rw [hw0];exact Z7.new _ _ _
 have HZ0:=hide hz0;clear hz0;have b00:=B0.q0 rfl;have b01:=B0.q1 rfl;have b02:=B0.q2 rfl;have b03:=B0.q3 rfl
 by_cases he:ZM op vs hrs ZY=0
 · obtain ⟨hv0,hv1,hrl,hcp,hcq⟩:=JM he;have hf2:Ze op vs hrs ZY=(Zo op vs hrs ZY,0):=(by unfold Ze;rw [if_pos he]);have HF2:=hide hf2;clear hf2;have HE:=hide he;clear he;have zhe:∃ b1 b2 b3:Bool,((gs.length:Int) != (hrs.length:Int))=b1/\((ps.length:Int) != XI op vs)=b2/\((qs.length:Int) != Xm op ZY)=b3:=⟨_,_,_,rfl,rfl,rfl⟩;obtain ⟨b1,b2,b3,g1,g2,g3⟩:=zhe;have hmf:∀ (fn:Fn) (first cap:Array Value) (w:World),(Instr.makeFunc fn first cap).run prog w=.ok (.func fn first cap) w:=fun _ _ _ _=>rfl;go_enter func151,ntmps151;go_wp2_with fail;rw [<- hw0];have HW0:=hide hw0;clear hw0;have F:=SX vs hrs HA hc ZY w0 ((HH.out.below hb0).more hb0.size) hn op;rw [HF2.out] at F;refine F.mono ?_;clear F;rintro e w1 ⟨v,rfl,TL,hb1⟩;have B1:=B0.step hb1;have b10:=B1.q0 rfl;have b11:=B1.q1 rfl;have b12:=B1.q2 rfl;have b13:=B1.q3 rfl;dsimp only at TL;have hfl:=GH op vs hrs ZY;generalize zgq:Zo op vs hrs ZY=bs0 at TL hfl;have Jm:=hide zgq;clear zgq;obtain ⟨VA,UG,rfl,_⟩:=ZP TL;go_wp2_with fail;refine (JQ op vs ZY w1 hv0 hv1 HA hrs.length hc).mono ?_;rintro e w2 ⟨rfl,hb2⟩;have B2:=B1.step hb2;have b20:=B2.q0 rfl;have b21:=B2.q1 rfl;have b22:=B2.q2 rfl;have b23:=B2.q3 rfl;have b24:=B2.q4 rfl;have b25:=B2.q5 rfl;have b26:=B2.q6 rfl;have HB2:=Z8 (Z8 hb0 hb1) hb2;cases b1
   case true =>
    have hf:ZE op vs hrs ZY gs ps qs=([],8):=(by unfold ZE;rw [if_neg (by simpa using HE.out),if_pos (.inl (by simp at g1;omega))]);have HF:=hide hf;clear hf g2 g3;go_wp2;go_ret2;rw [HF.out];exact ⟨_,rfl,World.ownsRow_nil _ _ _ _,HB2⟩
   case false =>
    have g1':gs.length=hrs.length:=(by simp at g1;omega);cases b2
    case true =>
     have hf:ZE op vs hrs ZY gs ps qs=([],8):=(by unfold ZE;rw [if_neg (by simpa using HE.out),if_pos (.inr (.inl (by simpa using g2)))]);have HF:=hide hf;clear hf g3 g1';go_wp2;go_ret2;rw [HF.out];exact ⟨_,rfl,World.ownsRow_nil _ _ _ _,HB2⟩
    case false =>
     cases b3
     case true =>
      have hf:ZE op vs hrs ZY gs ps qs=([],8):=(by unfold ZE;rw [if_neg (by simpa using HE.out),if_pos (.inr (.inr (by simpa using g3)))]);have HF:=hide hf;clear hf g1';go_wp2;go_ret2;rw [HF.out];exact ⟨_,rfl,World.ownsRow_nil _ _ _ _,HB2⟩
     case false =>
      have hf:ZE op vs hrs ZY gs ps qs=if (gs.zip hrs).any Vs=true then ([],8) else if (gs.zip hrs).any TM=true then ([],2)
       else (Zo op vs hrs ZY++Yu gs++ps.flatMap Vo++qs.flatMap q24,0):=by
       unfold ZE;rw [if_neg (by simpa using HE.out),if_neg (by simp at g2 g3;omega)]
      have G1:=hide g1';clear g1';have HF:=hide hf;clear hf;go_wp2
      go_loopw [5,54] (fun x i wr=>∃ (k:Nat) (b:Bool),k<=gs.length/\i=.int .i64 k/\x=.int .i64 (bif b then 2 else 0)/\((gs.zip hrs).take k).any TM=b/\((gs.zip hrs).take k).any Vs=false/\Below w2.heap.size w2 wr)
       (fun _ i _=>gs.length - (intOf i).toNat)
      case atStart=>exact ⟨0,false,by omega,rfl,rfl,by simp,by simp,Below.refl _ _⟩
      case round =>
       obtain ⟨k,b,hk,rfl,rfl,hany,hsz,hbr⟩:=hrel;have Jl:=hide hany;clear hany;have Qx:=hide hsz;clear hsz
       by_cases hlt:k<gs.length
       · obtain ⟨r,hr⟩:∃ r,gs[k]?=some r:=⟨_,List.getElem?_eq_getElem hlt⟩;obtain ⟨h,hh⟩:∃ h,hrs[k]?=some h:=⟨_,List.getElem?_eq_getElem (by have:=G1.out;omega)⟩;have zzj:(gs.zip hrs)[k]?=some (r,h):=(by rw [List.getElem?_zip_eq_some];exact ⟨hr,hh⟩);have LQ:=Z8 HB2 hbr;have hrm:(gs.map (·.1))[k]?=some r.1:=(by rw [List.getElem?_map,hr];rfl);obtain ⟨gb,zcf,rfl,hgb,c0,c1,c2⟩:=(HG.out.below LQ).rg hrm;obtain ⟨zT,hoff,rfl,hhb,d0,d1,d2⟩:=(HH.out.below LQ).rg hh;have Br:=B2.step hbr;have r2:=Br.q2 rfl;have hwl:w.heap.size<wr.heap.size:=Br.lt;have hlt':(k:Int)<(hrs.length:Int):=(by have:=G1.out;omega);have hsz1:=hbr.size;have hgb':gb<wr.heap.size:=Zz c0;have yzk:zT<wr.heap.size:=Zz d0;have ts:=any_take_succ (gs.zip hrs) Vs k (r,h) zzj;have tk:=any_take_succ (gs.zip hrs) TM k (r,h) zzj;have Mj:=hide ts;have Lh:=hide tk;have zbs:=hide zzj;clear hr hh hrm zzj ts tk r2 b24 b20 b21 b22 b23 b25 b26 b10 b11 b12 b13 b00 b01 b02 b03;have r2:=Br.q2 rfl;go_wp2;obtain ⟨wx,hwx⟩:=eE ((wr.alloc (.cells #[.bool r.1.d,.int .i64 r.1.v,.slice r.1.A r.1.n r.1.c] 38)).alloc (.cells #[.bool h.d,.int .i64 h.v,.slice h.A h.n h.c] 38));rw [<- hwx];have hbx:=bF hwx;have BX:Z7 wx wr.heap.size 38 #[.bool r.1.d,.int .i64 r.1.v,.slice r.1.A r.1.n r.1.c]:=(by rw [hwx];exact (Z7.new _ _ _).alloc _);have BY:Z7 wx (wr.heap.size+1) 38 #[.bool h.d,.int .i64 h.v,.slice h.A h.n h.c]:=(by rw [hwx];exact Z7.new2 _ _ _ _);have x2:=BX.q2 rfl;have y0:=BY.q0 rfl;have y1:=BY.q1 rfl;have y2:=BY.q2 rfl;have HWX:=hide hwx;clear hwx c0 c1 c2 d0 d1 d2 r2;obtain ⟨sb,hsb⟩:∃ sb,((r.1.n:Int) != ZJ h.v)=sb:=⟨_,rfl⟩
         go_region_held3 (fun w'=>Below wx.heap.size wx w'/\w'.cell? ⟨wr.heap.size,2,none⟩=some (.slice r.1.A r.1.n r.1.c)/\w'.cell? ⟨wr.heap.size+1,0,none⟩=some (.bool h.d)/\w'.cell? ⟨wr.heap.size+1,1,none⟩=some (.int .i64 h.v)/\w'.cell? ⟨wr.heap.size+1,2,none⟩=some (.slice h.A h.n h.c))
          (first|exact ⟨Below.refl _ _,x2,y0,y1,y2⟩|exact jL (by assumption) (by assumption)|exact jL (ZV (Below.refl _ _)) (by assumption)|exact jL (ZV (Below.refl _ _)) ⟨Below.refl _ _,x2,y0,y1,y2⟩)
          (first|(go_at_call 215;refine (TT _ _ _ _ _ _).mono ?_;rintro e w' ⟨rfl,hb'⟩))
         have hbw:Below wx.heap.size wx w':=Z8 (ZV (Below.refl _ _)) hb';have hbn:Below w2.heap.size w2 w':=Z8 (Z8 hbr hbx) hbw;have BX1:=BX.step hbw;have BY1:=BY.step hbw;clear x2 y0 y1 y2;have x0:=BX1.q0 rfl;have x1:=BX1.q1 rfl;have y0:=BY1.q0 rfl;have y1:=BY1.q1 rfl;cases sb
         case true =>
          go_wp2;go_ret2;rw [HF.out,if_pos (UK _ _ k _ zbs.out hsb)];exact ⟨_,rfl,World.ownsRow_nil _ _ _ _,Z8 HB2 hbn⟩
         case false =>
          obtain ⟨q1,hq1⟩:∃ q,(r.1.d != h.d)=q:=⟨_,rfl⟩;obtain ⟨q2,hq2⟩:∃ q,(r.1.v != h.v)=q:=⟨_,rfl⟩;have hb2':((gs.zip hrs).take (k+1)).any Vs=false:=(by rw [Mj.out,Qx.out];exact hsb);have iI:((gs.zip hrs).take (k+1)).any TM=(b || (q1 || q2)):=(by rw [Lh.out,Jl.out,<- hq1,<- hq2];rfl);have zoj:=hide hb2';have zok:=hide iI;clear hb2' iI;cases q1
          case true =>
           have hd:¬ r.1.d=h.d:=(by simpa using hq1);go_wp2;go_roundw
           case rel=>exact ⟨k+1,true,by omega,by go_num,rfl,by rw [zok.out];simp,zoj.out,hbn⟩
           case measure=>simp [intOf];omega
          case false =>
           have hd:r.1.d=h.d:=(by simpa using hq1);cases q2
           case true =>
            go_wp2;go_roundw
            case rel=>exact ⟨k+1,true,by omega,by go_num,rfl,by rw [zok.out];simp,zoj.out,hbn⟩
            case measure=>simp [intOf];omega
           case false =>
            go_wp2;go_roundw
            case rel=>exact ⟨k+1,b,by omega,by go_num,rfl,by rw [zok.out];simp,zoj.out,hbn⟩
            case measure=>simp [intOf];omega
       · have hk':k=gs.length:=(by omega);subst hk';have iG:=Jl.out;have hsz':=Qx.out;rw [F8] at iG hsz';have HA':=hide iG;have HS':=hide hsz';clear iG hsz' Jl Qx b24 b20 b21 b22 b23 b25 b26 b10 b11 b12 b13 b00 b01 b02 b03;have LQ:=Z8 HB2 hbr;have Br:=B2.step hbr;cases b
         case true =>
          go_wp2;go_ret2;rw [HF.out,if_neg (by rw [HS'.out];simp),if_pos HA'.out];exact ⟨_,rfl,World.ownsRow_nil _ _ _ _,LQ⟩
         case false =>
          rw [show (bif false then (2:Int) else 0)=0 from rfl];have r4:=Br.q4 rfl;have hwl:w.heap.size<wr.heap.size:=Br.lt;have dR:Hid (ZE op vs hrs ZY gs ps qs=(Zo op vs hrs ZY++Yu gs++ps.flatMap Vo++qs.flatMap q24,0)):=by
           apply hide;rw [HF.out,if_neg (by rw [HS'.out];simp),if_neg (by rw [HA'.out];simp)]
          have hsm:=Bz HS'.out G1.out;have HSM:=hide hsm;clear hsm;have zad:gs.length<=64:=(by have:=G1.out;omega);have hpl:ps.length<=65:=(by simp at g2;omega);have cZ:qs.length<=4096:=(by simp at g3;omega);have ZT:=ZI (ZI TL hb2) hbr;have zdj:w0.heap.size<=wr.heap.size:=(by have:=hb1.size;have:=hb2.size;have:=hbr.size;omega);have hws:=mK ZT zdj;have MB:Below w.heap.size w (wr.alloc (.cells #[.slice VA bs0.length UG] 250)):=Z5 LQ _;have BA:=Br.alloc (.cells #[.slice VA bs0.length UG] 250);have hsA:(wr.alloc (.cells #[.slice VA bs0.length UG] 250)).heap.size=wr.heap.size+1:=(by simp);have hLT:∀ k,k<w.heap.size->Qb w0.heap.size k:=fun k hk=>by have:=HZ0.out;unfold Qb;omega
          have zgb:Qb w0.heap.size w.heap.size:=(by have:=HZ0.out;unfold Qb;omega);have F9:=hide hLT;clear hLT;have HG1:=hide g1;have HG2:=hide g2;have HG3:=hide g3;clear g1 g2 g3 ZT;go_wp2;generalize hwA:wr.alloc (.cells #[.slice VA bs0.length UG] 250)=wA at *;have HWA:=hide hwA;clear hwA;have hPA:∀ k,Qb w0.heap.size k->k<wA.heap.size:=fun k hk=>by unfold Qb at hk;omega
          have Gb:=hide hPA;clear hPA;have HSA:=hide hsA;clear hsA;obtain ⟨gw,hgw⟩:=eE wr.heap.size;rw [<- hgw] at hws ⊢;have HGW:=hide hgw;clear hgw
          go_loopw [95] (fun i wr=>∃ k:Nat,k<=gs.length/\i=.int .i64 k/\Z9 (Qb w0.heap.size) wA wr/\WS wr (Qb w0.heap.size) gw (bs0++Yu (gs.take k)))
           (fun i _=>gs.length - (intOf i).toNat)
          case atStart=>exact ⟨0,by omega,rfl,Z9.refl _ _,by simpa [Yu] using hws⟩
          case round =>
           obtain ⟨k,hk,rfl,hkp,hwr⟩:=hrel
           by_cases hlt:k<gs.length
           · obtain ⟨r,hr⟩:∃ r,gs[k]?=some r:=⟨_,List.getElem?_eq_getElem hlt⟩;have hrm:(gs.map (·.1))[k]?=some r.1:=(by rw [List.getElem?_map,hr];rfl);obtain ⟨gb,zcf,rfl,hgb,c0,c1,c2⟩:=((HG.out.below MB).kept hkp F9.out).rg hrm;have hrg:=NU.out r (List.mem_of_getElem? hr);have yzy:=HSM.out r (List.mem_of_getElem? hr);have HRG:=hide hrg;clear hrg;have hgl:=PL (gs.take k) (fun x hx=>by have h1:=NU.out x (List.mem_of_mem_take hx);have h2:=HSM.out x (List.mem_of_mem_take hx);have:=h1.1;omega);have hln:(bs0++Yu (gs.take k)).length<=400000:=(by rw [List.length_append];rw [List.length_take] at hgl;omega);have HGB:=hide (Bt gs k r hr);clear hr hrm hgl r4;have hgb':gb<wr.heap.size:=Zz c0;go_wp2_with fail;obtain ⟨wx,hwx⟩:=eE (wr.alloc (.cells #[.bool r.1.d,.int .i64 r.1.v,.slice r.1.A r.1.n r.1.c] 38));rw [<- hwx];have hbx:=bE hwx;have HWX:=hide hwx;clear hwx;have hPq:∀ k,Qb w0.heap.size k->k<wr.heap.size:=fun k hk=>Nat.lt_of_lt_of_le (Gb.out k hk) hkp.size;have kx:Z9 (Qb w0.heap.size) wr wx:=Z9.of_below hbx hPq
             refine (gM (Qb w0.heap.size) gw _ wx w.heap.size r.1.A r.1.c r.1.n (fun j hj=>Nat.lt_of_lt_of_le (hPq j hj) hbx.size) (hwr.step hbx) hln F9.out r.2 HRG.out.1
              (((HRG.out.2.below MB).kept hkp F9.out).kept kx F9.out) (by have:=HRG.out.1;omega)).mono ?_
             rintro e w5 ⟨rfl,k5,s5⟩;clear hPq c0 c1 c2;go_wp2;go_roundw
             case rel=>exact ⟨k+1,by omega,by go_num,(hkp.trans kx).trans k5,by rw [HGB.out,<- List.append_assoc];exact s5⟩
             case measure=>simp [intOf];omega
           · have hk':k=gs.length:=(by omega);subst hk';rw [List.take_length] at hwr;have BQ:=BA.kept hkp zgb;have q5:=BQ.q5 rfl;have hgl:=PL gs (fun x hx=>by have h1:=NU.out x hx;have h2:=HSM.out x hx;have:=h1.1;omega);have hln:(bs0++Yu gs).length<=70000:=(by rw [List.length_append];omega);clear r4;go_wp2_with fail;refine (JU (Qb w0.heap.size) gw _ wr w.heap.size PA pc (fun j hj=>Nat.lt_of_lt_of_le (Gb.out j hj) hkp.size) hwr (by omega) F9.out ps ((Lg.out.below MB).kept hkp F9.out) (by omega)).mono ?_;rintro e w6 ⟨rfl,k6,s6⟩;have k6':=hkp.trans k6;have B6:=BQ.kept k6 zgb;have q6:=B6.q6 rfl;have yzt:(bs0++Yu gs++ps.flatMap Vo).length<=80000:=(by rw [List.length_append,VG Vo 16 VU];omega);clear q5;go_wp2_with fail;refine (wM (Qb w0.heap.size) gw _ w6 w.heap.size QA qc (fun j hj=>Nat.lt_of_lt_of_le (Gb.out j hj) k6'.size) s6 (by omega) F9.out qs ((HQS.out.below MB).kept k6' F9.out) (by omega)).mono ?_;rintro e w7 ⟨rfl,k7,s7⟩;have k7':=k6'.trans k7;generalize cO:bs0++Yu gs++ps.flatMap Vo++qs.flatMap q24=bF at s7;have HBF:=hide cO;clear cO;obtain ⟨rv,cv,Dm⟩:=F6 (base':=w.heap.size) s7 (by have:=HZ0.out;omega);obtain ⟨RA,zuu,rfl,_⟩:=ZP Dm;clear q6;go_wp2;go_ret2;rw [dR.out,Jm.out,HBF.out];exact ⟨.slice RA _ zuu,rfl,Dm,MB.trans (k7'.below F9.out)⟩
 · have hf:ZE op vs hrs ZY gs ps qs=([],ZM op vs hrs ZY):=(by unfold ZE;rw [if_pos he]);have hf2:Ze op vs hrs ZY=([],ZM op vs hrs ZY):=(by unfold Ze;rw [if_neg he]);rw [hf];have he':(ZM op vs hrs ZY != 0)=true:=(by rw [bne_iff_ne];exact he);have HF2:=hide hf2;clear hf2 hf;have HE:=hide he;clear he;go_enter func151,ntmps151;go_wp2_with fail;rw [<- hw0];have HW0:=hide hw0;clear hw0;have F:=SX vs hrs HA hc ZY w0 ((HH.out.below hb0).more hb0.size) hn op;rw [HF2.out] at F;refine F.mono ?_;clear F;rintro e w1 ⟨v,rfl,hv1,hb1⟩;go_wp2;go_ret2;exact ⟨_,rfl,World.ownsRow_nil _ _ _ _,Z8 hb0 hb1⟩
end
end
section
open Go.RowKit
def Lrg(rs:List Rg)(w:World)(e:Ending)(w':World):Prop:=∃ z:Int,e=.returned (.int .i64 z)/\(z=0\/z=1)/\(z=0->(∀ r∈rs,r.n<=250)/\rs.length<=250)/\Below w.heap.size w w'
theorem uH(rs:List Rg)(A:Option Addr)(c:Nat)(w:World)(hs:Sl w w.heap.size A (rgCells rs))(hn:rs.length<=maxLen):
 Calls prog 46 #[.slice A rs.length c] w (Lrg rs w):=by
 unfold maxLen at hn;have HS:=hide hs;clear hs;go_enter func46,ntmps46;go_wp2
 go_loopw [3,8] (fun x i wr=>∃ (k:Nat) (z:Int),k<=rs.length/\i=.int .i64 k/\x=.int .i64 z/\(k:Int)<=z/\z<=250/\Hid (∀ r∈rs.take k,r.n<=250)/\Below w.heap.size w wr)
  (fun _ i _=>rs.length - (intOf i).toNat)
 case atStart=>exact ⟨0,0,by omega,rfl,rfl,by omega,by omega,hide (fun r hr=>by simp at hr),Below.refl _ _⟩
 case round =>
  obtain ⟨k,z,hk,rfl,rfl,hz0,hz1,hT,hbr⟩:=hrel
  by_cases hlt:k<rs.length
  · obtain ⟨r,hr⟩:∃ r,rs[k]?=some r:=⟨_,List.getElem?_eq_getElem hlt⟩;obtain ⟨b,off,rfl,hB,c0,c1,c2⟩:=(HS.out.below hbr).rg hr;have Mj:Hid (rs.take (k+1)=rs.take k++[r]):=hide (by rw [List.take_add_one,hr];rfl);have Nv:((k:Nat):Int)<((rs.length:Nat):Int):=(by omega);obtain ⟨d,v,A,n,c⟩:=r;dsimp only at *;clear hr
    by_cases ni:n<=500
    · have hmin:min ((n:Nat):Int) 500=(n:Int):=(by omega);have hw1:IntKind.i64.wrap (1+(n:Int))=1+(n:Int):=(by rw [IntKind.wrap_i64];omega);have hw2:IntKind.i64.wrap (z+(1+(n:Int)))=z+(1+(n:Int)):=by rw [IntKind.wrap_i64];omega
      by_cases hbig:250<z+(1+(n:Int))
      · go_wp2;go_ret;exact ⟨1,rfl,.inr rfl,fun h=>by omega,Z5 hbr _⟩
      · have hT2:Hid (∀ r∈rs.take (k+1),r.n<=250):=hide (by
         rw [Mj.out];intro r hr;rcases List.mem_append.1 hr with h|h
         · exact hT.out r h
         · obtain rfl:=List.mem_singleton.1 h;show n<=250
           omega)
        go_wp2;go_roundw
        case rel=>exact ⟨k+1,z+(1+(n:Int)),by omega,by go_num,rfl,by omega,by omega,hT2,Z5 hbr _⟩
        case measure=>simp [intOf];omega
    · have hmin:min ((n:Nat):Int) 500=500:=(by omega);have hw2:IntKind.i64.wrap (z+501)=z+501:=(by rw [IntKind.wrap_i64];omega);have hbig:250<z+501:=(by omega);go_wp2;go_ret;exact ⟨1,rfl,.inr rfl,fun h=>by omega,Z5 hbr _⟩
  · obtain rfl:k=rs.length:=(by omega);rw [List.take_length] at hT;go_wp2;go_ret;exact ⟨0,rfl,.inl rfl,fun _=>⟨hT.out,by omega⟩,hbr⟩
section
variable (op vs ZY:Int)(hrs:List Rg)(HA:Option Addr)(hc:Nat)(gs:List Gr)(GA:Option Addr)(gc:Nat)(ps:List (Int × Int))(PA:Option Addr)(pc:Nat)(qs:List ((Int × Int) × Int))(QA:Option Addr)(qc:Nat)(w:World)
variable (hgc:Sl w w.heap.size GA (rgCells (gs.map (·.1))))(hgn:gs.length<=maxLen)
def zbt(gs:List Gr)(ps:List (Int × Int))(w:World)(e:Ending)(w':World):Prop:=∃ z:Int,e=.returned (.int .i64 z)/\(z=0\/z=1)/\(z=0->(∀ g∈gs,g.1.n<=250)/\gs.length<=250/\ps.length<=100)/\Below w.heap.size w w'
include hgc hgn
theorem zzo:Calls prog 113 #[.agg #[.int .i64 op,.int .i64 vs,.slice HA hrs.length hc,.int .i64 ZY,.slice GA gs.length gc,.slice PA ps.length pc,.slice QA qs.length qc]] w (zbt gs ps w):=by
 obtain ⟨w0,hw0⟩:=eE (w.alloc (.cells #[.int .i64 op,.int .i64 vs,.slice HA hrs.length hc,.int .i64 ZY,.slice GA gs.length gc,.slice PA ps.length pc,.slice QA qs.length qc] 150));have hb0:=bE hw0;have B0:Z7 w0 w.heap.size 150 #[.int .i64 op,.int .i64 vs,.slice HA hrs.length hc,.int .i64 ZY,.slice GA gs.length gc,.slice PA ps.length pc,.slice QA qs.length qc]:=by rw [hw0];exact Z7.new _ _ _
 have L:=uH (gs.map (·.1)) GA gc w0 ((hgc.below hb0).more hb0.size) (by rw [List.length_map];exact hgn);rw [List.length_map] at L;have HL:=hide L;clear L hgc hgn;go_enter func113,ntmps113;go_wp2_with fail;rw [<- hw0];clear hw0;refine HL.out.mono ?_;rintro e w1 ⟨z,rfl,hz,hT,hb1⟩;have B1:=B0.step hb1;have b0:w1.cell? ⟨w.heap.size,2,none⟩=some (.slice HA hrs.length hc):=B1.q2 rfl;have b1:w1.cell? ⟨w.heap.size,5,none⟩=some (.slice PA ps.length pc):=B1.q5 rfl;have b2:w1.cell? ⟨w.heap.size,6,none⟩=some (.slice QA qs.length qc):=B1.q6 rfl;have HB:=hide (Z8 hb0 hb1);have HT:=hide hT;clear B0 B1 hb0 hb1 hT;rcases hz with rfl|rfl
 · have HG:Hid ((∀ g∈gs,g.1.n<=250)/\gs.length<=250):=hide ⟨fun g hg=>(HT.out rfl).1 g.1 (List.mem_map.2 ⟨g,hg,rfl⟩),by have:=(HT.out rfl).2;rwa [List.length_map] at this⟩;have h1:(100:Int)<((hrs.length:Nat):Int)\/¬ (100:Int)<((hrs.length:Nat):Int):=(by omega);have h2:(100:Int)<((ps.length:Nat):Int)\/¬ (100:Int)<((ps.length:Nat):Int):=(by omega);have h3:(1000:Int)<((qs.length:Nat):Int)\/¬ (1000:Int)<((qs.length:Nat):Int):=(by omega);rcases h1 with h1|h1 <;> rcases h2 with h2|h2 <;> rcases h3 with h3|h3
   all_goals
    go_wp2;go_ret
    first
     | exact ⟨1,rfl,.inr rfl,fun h=>by omega,HB.out⟩
     | exact ⟨0,rfl,.inl rfl,fun _=>⟨HG.out.1,HG.out.2,by omega⟩,HB.out⟩
 · go_wp2;go_ret;exact ⟨1,rfl,.inr rfl,fun h=>by omega,HB.out⟩
end
end
section
open Go.RowKit
def Mh(rs:List Rg):Nat:=(rs.map (·.n)).sum
theorem FV:∀ (rs:List Rg),(∀ r∈rs,r.n<=250)->Mh rs<=250*rs.length
 | [],_=>by simp [Mh]
 | r::rs,h=>by
   have h1:=FV rs (fun x hx=>h x (List.mem_cons_of_mem _ hx));have h2:=h r List.mem_cons_self;unfold Mh at *;rw [List.map_cons,List.sum_cons,List.length_cons];omega
theorem rY(rs:List Rg)(k:Nat)(r:Rg)(h:rs[k]?=some r):Mh (rs.take (k+1))=Mh (rs.take k)+r.n:=by
 unfold Mh;rw [List.take_add_one,h];simp [List.sum_append]
def Skp(rs:List Rg)(m:Nat)(w:World)(e:Ending)(w':World):Prop:=∃ z:Int,e=.returned (.int .i64 z)/\(z=0\/z=1)/\(z=0->(∀ r∈rs,r.n<=250)/\rs.length<=250/\m<=100/\Mh rs*m<=2000)/\Below w.heap.size w w'
theorem zvm(rs:List Rg)(A:Option Addr)(c:Nat)(m:Nat)(QA:Option Addr)(qc:Nat)(w:World)(hs:Sl w w.heap.size A (rgCells rs))(hn:rs.length<=maxLen):
 Calls prog 18 #[.slice A rs.length c,.slice QA m qc] w (Skp rs m w):=by
 have HS:=hide hs;have HL:=hide (uH rs A c w hs hn);clear hs hn;go_enter func18,ntmps18;go_wp2_with fail;refine HL.out.mono ?_;rintro e w1 ⟨z,rfl,hz,hT,hb1⟩;clear HL;rcases hz with rfl|rfl
 · obtain ⟨hT1,hT2⟩:=hT rfl;clear hT
   by_cases hm:m<=100
   · have hm':¬ (100:Int)<((m:Nat):Int):=(by omega);have HT:=hide hT1;clear hT1;go_wp2
     go_loopw [5,18] (fun x i wr=>∃ (k:Nat),k<=rs.length/\i=.int .i64 k/\x=.int .i64 (Mh (rs.take k):Nat)/\Below w.heap.size w wr)
      (fun _ i _=>rs.length - (intOf i).toNat)
     case atStart=>exact ⟨0,by omega,rfl,rfl,hb1⟩
     case round =>
      obtain ⟨k,hk,rfl,rfl,hbr⟩:=hrel
      by_cases hlt:k<rs.length
      · obtain ⟨r,hr⟩:∃ r,rs[k]?=some r:=⟨_,List.getElem?_eq_getElem hlt⟩;obtain ⟨b,off,rfl,hB,c0,c1,c2⟩:=(HS.out.below hbr).rg hr;have HE:=hide (rY rs k r hr);have zae:=HT.out r (List.mem_of_getElem? hr);have hle:=FV (rs.take k) (fun x hx=>HT.out x (List.take_subset _ _ hx));rw [List.length_take] at hle;obtain ⟨d,v,A,n,c⟩:=r;dsimp only at *;obtain ⟨S,hS⟩:=eE (Mh (rs.take k));rw [<- hS] at hle HE ⊢;have hS':S<=62500:=by
         have:min k rs.length<=250:=(by omega);omega
        have hw2:IntKind.i64.wrap ((S:Int)+(n:Int))=(S:Int)+(n:Int):=(by rw [IntKind.wrap_i64];omega);have Nv:((k:Nat):Int)<((rs.length:Nat):Int):=(by omega);clear hr hS;go_wp2;go_roundw
        case rel=>exact ⟨k+1,by omega,by go_num,by rw [HE.out];simp,Z5 hbr _⟩
        case measure=>simp [intOf];omega
      · obtain rfl:k=rs.length:=(by omega);rw [List.take_length];have hle:=FV rs HT.out;obtain ⟨S,hS⟩:=eE (Mh rs);rw [<- hS] at hle ⊢;have hS':S<=62500:=(by omega);have hmul:S*m<=62500*100:=Nat.mul_le_mul hS' hm;have hw2:IntKind.i64.wrap ((S:Int)*(m:Int))=((S*m:Nat):Int):=(by rw [IntKind.wrap_i64];push_cast;rw [<- Int.natCast_mul];omega);have HF:Hid ((∀ r∈rs,r.n<=250)/\S=Mh rs):=hide ⟨HT.out,hS⟩;clear HT hS HS
        by_cases hbig:(2000:Int)<((S*m:Nat):Int)
        · go_wp2;go_ret;exact ⟨1,rfl,.inr rfl,fun h=>by omega,hbr⟩
        · go_wp2;go_ret;exact ⟨0,rfl,.inl rfl,fun _=>⟨HF.out.1,by omega,hm,by rw [<- HF.out.2];omega⟩,hbr⟩
   · have hm':(100:Int)<((m:Nat):Int):=(by omega);go_wp2;go_ret;exact ⟨1,rfl,.inr rfl,fun h=>by omega,hb1⟩
 · go_wp2;go_ret;exact ⟨1,rfl,.inr rfl,fun h=>by omega,hb1⟩
section
variable (op vs ZY:Int)(hrs:List Rg)(HA:Option Addr)(hc:Nat)(gs:List Gr)(GA:Option Addr)(gc:Nat)(ps:List (Int × Int))(PA:Option Addr)(pc:Nat)(qs:List ((Int × Int) × Int))(QA:Option Addr)(qc:Nat)(w:World)
variable (hgc:Sl w w.heap.size GA (rgCells (gs.map (·.1))))(hgn:gs.length<=maxLen)
def zoz(gs:List Gr)(ps:List (Int × Int))(qs:List ((Int × Int) × Int)):Prop :=
 (∀ g∈gs,g.1.n<=250)/\gs.length<=250/\ps.length<=100/\qs.length<=100/\Mh (gs.map (·.1))*qs.length<=2000
def Skq(gs:List Gr)(ps:List (Int × Int))(qs:List ((Int × Int) × Int))(w:World)(e:Ending)(w':World):Prop:=∃ z:Int,e=.returned (.int .i64 z)/\(z=0\/z=1)/\(z=0->zoz gs ps qs)/\Below w.heap.size w w'
include hgc hgn
theorem zvn:Calls prog 66 #[.agg #[.int .i64 op,.int .i64 vs,.slice HA hrs.length hc,.int .i64 ZY,.slice GA gs.length gc,.slice PA ps.length pc,.slice QA qs.length qc]] w (Skq gs ps qs w):=by
 obtain ⟨rb,hrb⟩:=eE w.heap.size;obtain ⟨w0,hw0⟩:=eE (w.alloc (.cells #[.int .i64 op,.int .i64 vs,.slice HA hrs.length hc,.int .i64 ZY,.slice GA gs.length gc,.slice PA ps.length pc,.slice QA qs.length qc] 119));have hb0:=bE hw0;have B0:Z7 w0 rb 119 #[.int .i64 op,.int .i64 vs,.slice HA hrs.length hc,.int .i64 ZY,.slice GA gs.length gc,.slice PA ps.length pc,.slice QA qs.length qc]:=by rw [hw0,hrb];exact Z7.new _ _ _
 have HL:=hide (zzo op vs ZY hrs HA hc gs GA gc ps PA pc qs QA qc w0 ((hgc.below hb0).more hb0.size) hgn);have HSK:=hide (fun (w':World) (hb:Below w.heap.size w w')=>zvm (gs.map (·.1)) GA gc qs.length QA qc w' ((hgc.below hb).more hb.size) (by rw [List.length_map];exact hgn));rw [List.length_map] at HSK;clear hgc hgn;go_enter func66,ntmps66;go_wp2_with fail;rw [<- hw0,<- hrb];have Gc:=hide hrb;clear hw0 hrb;refine HL.out.mono ?_;rintro e w1 ⟨z,rfl,hz,hT,hb1⟩;have HB1:=Z8 hb0 hb1;have B1:=B0.step hb1;have b4:=B1.q4 rfl;have b6:=B1.q6 rfl;have HK:=hide (HSK.out w1 HB1);have HT:=hide hT;clear B0 B1 hb0 hb1 HL HSK hT;rcases hz with rfl|rfl
 · go_wp2_with fail;refine HK.out.mono ?_;rintro e w2 ⟨z,rfl,hz,hT2,hb2⟩;have HB2:=Z8 HB1 hb2;have HT2:=hide hT2;clear hT2 hb2 HK;rcases hz with rfl|rfl
   · go_wp2;go_ret;refine ⟨0,rfl,.inl rfl,fun _=>?_,HB2⟩;obtain ⟨h1,h2,h3⟩:=HT.out trivial;obtain ⟨_,_,h4,h5⟩:=HT2.out trivial;exact ⟨h1,h2,h3,h4,h5⟩
   · go_wp2;go_ret;exact ⟨1,rfl,.inr rfl,fun h=>by omega,HB2⟩
 · go_wp2;go_ret;exact ⟨1,rfl,.inr rfl,fun h=>by omega,HB1⟩
end
end
end Go.Proofs.YthnenedoblncjaaGreatDoor